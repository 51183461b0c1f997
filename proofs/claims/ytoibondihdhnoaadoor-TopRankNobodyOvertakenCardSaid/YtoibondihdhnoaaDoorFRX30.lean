/- Texts in one: Walks on a town: an event is carried out. -/
import Derived.Test.YtoibondihdhnoaaDoorFRX28
import Derived.Test.YtoibondihdhnoaaDoorFRX29
namespace Go.Proofs.YtoibondihdhnoaaDoor
open Go.RowKit
set_option maxRecDepth 100000
set_option maxHeartbeats 2000000
def v4_ (r:Ru) (s:St) (mv:List Sg) (n1:Bool) : Hp:=
 [some (.box [.osl 1,.osl 2,I s.time,.sl 4 (r.ranks.map Rk.av),I r.back,I r.ret,.sl 3 (mv.map Sg.av)]),some (.bag 81 1 false none (d3_ s.q)),some (.arr 85 3 n1 (s.tk.map Tk.av))]
theorem d3c (r:Ru) (s:St) (mv:List Sg) (n1:Bool) (x:Ev) (hn:r.ranks.length≤1000000) (hc:x.car.size≤1000) (h0:¬fst [evE r x,unl (decide (s.time≤x.time)) 9]=0) :
  VH Tryd.prog 36 (v4_ r s mv n1) [.ref 0 0,evA x] [0] (v4_ r s [] n1) (I (fst [evE r x,unl (decide (s.time≤x.time)) 9])):=by
 have g1:=a6q r x hn hc;have g2:=b3_ (decide (s.time≤x.time)) 9;have g5:VC Tryd.prog 30 [.sl 1 ([evE r x,unl (decide (s.time≤x.time)) 9].map y3_)] (I (fst [evE r x,unl (decide (s.time≤x.time)) 9])):=d9_ _ rfl rfl;generalize fst [evE r x,unl (decide (s.time≤x.time)) 9]=E at *;generalize unl (decide (s.time≤x.time)) 9=A1 at *;generalize evE r x=A2 at *;refine i8_ Tryd.func36 rfl (by kernel_rfl) rfl (fun _=>by kernel_rfl) fun M0 w0 vs=>?_;simp only [Tryd.ntmps36,Tryd.results36,b5_];unfold v4_;repeat' with_reducible apply a9_
 refine a2_ [] ?_;repeat' first|(with_reducible first|apply a9_|apply a3_|apply a1_)|((with_reducible refine a0_ fun X Y=>?_);go_simp;refine Y _ ?_;clear Y X)
 refine a2_ [] ?_;repeat' first|(with_reducible first|apply a9_|apply a3_|apply a1_)|((with_reducible refine a0_ fun X Y=>?_);go_simp;refine Y _ ?_;clear Y X)
 refine u0_ (fun p a w R=>⟨_,R.nilCell (bi:=0) (j:=6) (e:=60) (sz:=3) rfl rfl (by decide)⟩) ?_;go_simp;refine d7_ 0 6 3 rfl rfl rfl ?_;repeat' first|(with_reducible first|apply a9_|apply a3_|apply b4_|apply c5_|apply a1_|refine a2_ [] ?_|apply a5_)|((with_reducible refine a7_ ?_ ?_);(focus (go_simp;done)))|((with_reducible first|refine a0_ fun X Y=>?_|refine a4_ fun X Y=>?_);go_simp;(first|(with_reducible refine ⟨_,g1,?_⟩)|(with_reducible refine ⟨_,g2,?_⟩)|(refine ⟨_,g5,?_⟩)|skip);refine Y _ ?_;clear Y X)|((refine b6_ 18 18 [] rfl (by kernel_rfl) (by kernel_rfl) ?_);simp only [List.take,List.drop])
 go_simp
theorem d4k (r:Ru) (s s' S2:St) (mv m' M2:List Sg) (n1 n1' n2':Bool) (x:Ev) (e:Int) (hn:r.ranks.length≤1000000) (hc:x.car.size≤1000) (h0:fst [evE r x,unl (decide (s.time≤x.time)) 9]=0) (hkd:0≤x.kind∧x.kind≤5)
  (hd:VH Tryd.prog (109+x.kind.toNat) (f6_ r s [] n1 true) [.ref 0 0,evA x] [0] (f6_ r s' m' n1' n2') (I e))
  (hres:e≠0∧S2=s'∧M2=m'∨e=0∧RuOK r∧Inv r (atS s' x.time)∧m'.length+2*f7_ 0 s'.q≤1000000∧(∃ n,f7_ 0 s'.q≤n∧n2_ r n (atS s' x.time) m'=(S2,M2))) :
  VH Tryd.prog 36 (v4_ r s mv n1) [.ref 0 0,evA x] [0] (v4_ r S2 M2 n1') (I e):=by
 have g1:=a6q r x hn hc;have g2:=b3_ (decide (s.time≤x.time)) 9;have g5:VC Tryd.prog 30 [.sl 1 ([evE r x,unl (decide (s.time≤x.time)) 9].map y3_)] (I (fst [evE r x,unl (decide (s.time≤x.time)) 9])):=d9_ _ rfl rfl;rw [h0] at g5;clear h0;generalize unl (decide (s.time≤x.time)) 9=A1 at *;generalize evE r x=A2 at *;obtain ⟨kd,tm,rk,car⟩:=x;simp only at hkd hd g2 hres;simp only [evA] at g1 hd ⊢;have HR:=Lib.hid hres;clear hres;refine i8_ Tryd.func36 rfl (by kernel_rfl) rfl (fun _=>by kernel_rfl) fun M0 w0 vs=>?_;simp only [Tryd.ntmps36,Tryd.results36,b5_];unfold f6_ at hd;unfold v4_;repeat' with_reducible apply a9_
 refine a2_ [] ?_;repeat' first|(with_reducible first|apply a9_|apply a3_|apply a1_)|((with_reducible refine a0_ fun X Y=>?_);go_simp;refine Y _ ?_;clear Y X)
 refine a2_ [] ?_;repeat' first|(with_reducible first|apply a9_|apply a3_|apply a1_)|((with_reducible refine a0_ fun X Y=>?_);go_simp;refine Y _ ?_;clear Y X)
 refine u0_ (fun p a w R=>⟨_,R.nilCell (bi:=0) (j:=6) (e:=60) (sz:=3) rfl rfl (by decide)⟩) ?_;go_simp;refine b6_ 18 18 [] rfl (by kernel_rfl) (by kernel_rfl) ?_;simp only [List.take,List.drop];repeat' first|(with_reducible first|apply a9_|apply a3_|apply a1_|apply a5_)|((with_reducible refine a4_ fun X Y=>?_);go_simp;(first|(with_reducible refine ⟨_,g1,?_⟩)|(with_reducible refine ⟨_,g2,?_⟩)|(refine ⟨_,g5,?_⟩)|skip);refine Y _ ?_;clear Y X)
 refine a2_ [] ?_;repeat' first|(with_reducible first|apply a9_|apply a3_|apply b0_|apply a1_)|((with_reducible refine a6_ ?_ ?_);(focus (go_simp;done)))|((with_reducible refine a0_ fun X Y=>?_);go_simp;refine Y _ ?_;clear Y X)
 refine a3a ⟨[(0,.ref 0 0),(1,.agg [I kd,I tm,I rk,S car]),(3,.vp [I kd,I tm,I rk,S car]),(6,I e)],[some (.box [.osl 1,.osl 2,I s'.time,.sl 4 (r.ranks.map Rk.av),I r.back,I r.ret,.osl 3]),some (.bag 81 1 false none (d3_ s'.q)),some (.arr 85 3 n1' (s'.tk.map Tk.av)),some (.arr 60 3 n2' (m'.map Sg.av))]⟩ (fun K hK=>?_) ?_
 ·clear HR;have hk6:kd=0∨kd=1∨kd=2∨kd=3∨kd=4∨kd=5:=by omega
  refine d0h 7 (by kernel_rfl) (by kernel_rfl) ?_;simp only [List.take,List.drop];rcases hk6 with rfl|rfl|rfl|rfl|rfl|rfl
  all_goals
   repeat' first|with_reducible apply a5_|((with_reducible refine a4_ fun X Y=>?_);go_simp;refine Y _ ?_;clear Y X)
   refine e5_ [0,1,2,3] [0] [] [some (.box [.osl 1,.osl 2,I s'.time,.sl 4 (r.ranks.map Rk.av),I r.back,I r.ret,.osl 3]),some (.bag 81 1 false none (d3_ s'.q)),some (.arr 85 3 n1' (s'.tk.map Tk.av)),some (.arr 60 3 n2' (m'.map Sg.av))] (I e) rfl (by go_simp) ?_ ?_
   ·unfold j7_;go_simp;refine ⟨_,_,_,hd,?_⟩;go_simp;kernel_rfl
   go_simp;refine b9_ [] 1 ⟨rfl,rfl⟩ ?_;simp only [List.take,List.drop];repeat' first|with_reducible apply a1_|((with_reducible refine a0_ fun X Y=>?_);go_simp;refine Y _ ?_;clear Y X)
   apply e3_;refine hK _ ?_;go_simp
 ·clear hd;rcases HR.out with ⟨he,rfl,rfl⟩|⟨rfl,hr,hi,hB,⟨n,hn1,hn2⟩⟩
  ·clear HR;refine d7_ 0 6 3 rfl rfl rfl ?_;repeat' first|(with_reducible first|apply a9_|apply a3_|apply b4_|apply c5_|apply a1_|refine a2_ [] ?_)|((with_reducible refine a7_ ?_ ?_);(focus (go_simp;done)))|((with_reducible refine a0_ fun X Y=>?_);go_simp;refine Y _ ?_;clear Y X)
   go_simp
  ·clear HR;have HI:=Lib.hid hi;have HN:=Lib.hid hn2;have HU:=Lib.hid hr;have gn:=c1x r (atS s' tm) m' hn hi.len.symm (by rw [hi.len];exact hr.feed);clear hi hn2 hr;unfold atS at gn;repeat' with_reducible apply a9_
   refine a2_ [] ?_;repeat' first|(with_reducible first|apply a9_|apply a3_|apply b0_|apply a1_)|((with_reducible refine a6_ ?_ ?_);(focus (go_simp;done)))|((with_reducible refine a0_ fun X Y=>?_);go_simp;refine Y _ ?_;clear Y X)
   refine a2_ [] ?_;repeat' first|(with_reducible first|apply a9_|apply a3_|apply a1_)|((with_reducible refine a0_ fun X Y=>?_);go_simp;refine Y _ ?_;clear Y X)
   refine a2_ [] ?_;repeat' first|(with_reducible first|apply a3_|apply a8_|apply a1_)|((with_reducible refine a0_ fun X Y=>?_);go_simp;(first|(refine ⟨_,⟨gn,rfl⟩,?_⟩)|skip);refine Y _ ?_;clear Y X)
   apply a0c (α:=St×List Sg) [0] (fun (x:St×List Sg)=>[(7,I (f9_ r x.1))]) (fun (x:St×List Sg)=>([some (.box [.osl 1,.osl 2,I x.1.time,.sl 4 (r.ranks.map Rk.av),I r.back,I r.ret,.osl 3]),some (.bag 81 1 false none (d3_ x.1.q)),some (.arr 85 3 n1' (x.1.tk.map Tk.av)),some (.arr 60 3 (n2'&&decide (x.2.length=m'.length)) (x.2.map Sg.av))] : Hp)) (fun (x:St×List Sg)=>Hid (Inv r x.1)∧m'.length≤x.2.length∧x.2.length+2*f7_ 0 x.1.q≤1000000∧Hid (∃ n,f7_ 0 x.1.q≤n∧n2_ r n x.1 x.2=(S2,M2))) (fun (x:St×List Sg)=>f7_ 0 x.1.q) ((⟨s'.q,s'.tk,tm⟩,m')) ⟨HI,Nat.le_refl _,hB,Lib.hid ⟨n,hn1,HN.out⟩⟩
   ·(go_simp<;>exact rfl)
   ·go_simp
   rintro ⟨⟨Q,TK,t⟩,m⟩ ⟨HI2,hml,hmb,HE⟩ K hK;simp only at HI2 hml hmb HE hK ⊢;obtain ⟨n3,hn3,hn4⟩:=HE.out;by_cases hneg:f9_ r ⟨Q,TK,t⟩ < 0
   ·have e:(⟨Q,TK,t⟩,m)=(S2,M2):=by
     cases n3 with
     | zero=>exact hn4
     | succ n=>rw [n2_,if_pos hneg] at hn4;exact hn4
    clear hK hn4 HE hn3 hmb;injection e with e1 e2
    subst e1;subst e2;generalize f9_ r ⟨Q,TK,t⟩=R at *;refine d7_ 0 6 3 rfl rfl rfl ?_;repeat' with_reducible apply a9_
    refine a2_ [] ?_;repeat' first|(with_reducible first|apply a9_|apply a3_|apply b8_|apply d4_|apply b7_|apply a1_)|((with_reducible refine a6_ ?_ ?_);(focus (go_simp;done)))|((with_reducible refine a0_ fun X Y=>?_);go_simp;refine Y _ ?_;clear Y X)
    refine a2_ [] ?_;repeat' first|(with_reducible first|apply a3_|apply c5_|apply a1_)|((with_reducible refine a0_ fun X Y=>?_);go_simp;refine Y _ ?_;clear Y X)
    go_simp
   ·obtain ⟨k,ek,hk,hp⟩:=l7_ hneg;have hkq:k < Q.length:=by rw [HI2.out.len];exact hk
    obtain ⟨f1,f2,f3⟩:=j1_ hp;obtain ⟨p1,p2,p3⟩:=HU.out.feedN hk f1;have hfl:feedN r k < Q.length:=by rw [HI2.out.len];exact p3
    have hup:=r5_ HU.out HI2.out.len hkq f1 f2;have hi2:=HI2.out.up HU.out hkq f1 f2 f3;have hfit:=HI2.out.fit k hkq;have hpl:=HU.out.pl k hk;have gu:=d4f r ⟨Q,TK,t⟩ m n1' (n2'&&decide (m.length=m'.length)) k (feedN r k) hkq HI2.out.len.symm p1 hfl (by omega) f2 (by simp only at hfit ⊢;omega) (by omega);have gn2:=c1x r (upS r ⟨Q,TK,t⟩ k) (m++upM Q k (feedN r k)) hn (by rw [hi2.len]) (by rw [hi2.len];exact HU.out.feed);have hnx:∃ n,f7_ 0 (upS r ⟨Q,TK,t⟩ k).q≤n∧n2_ r n (upS r ⟨Q,TK,t⟩ k) (m++upM Q k (feedN r k))=(S2,M2):=by
     cases n3 with
     | zero=>simp only at hup hn3;omega
     | succ n3=>
      rw [n2_,if_neg hneg,ek,Int.toNat_natCast] at hn4;exact ⟨n3,by simp only at hup hn3;omega,hn4⟩
    have HX:=Lib.hid hnx;have HI3:=Lib.hid hi2;have hml2:(m++upM Q k (feedN r k)).length=m.length+2:=by simp [upM]
    have hfg:(n2'&&decide ((m++upM Q k (feedN r k)).length=m'.length))=false:=by
     rw [hml2,decide_eq_false (by omega),Bool.and_false]
    clear hn4 HE hnx hi2 hfit hpl hn3 hneg HI2 f1 f2 f3 hp;unfold upS at *;simp only at *;generalize (n2'&&decide (m.length=m'.length))=fl at *;generalize upQ Q k (feedN r k)=Q2 at *;generalize m++upM Q k (feedN r k)=M3 at *;rw [ek];unfold f6_ at gu;repeat' with_reducible apply a9_
    refine a2_ [] ?_;repeat' first|(with_reducible first|apply a9_|apply a3_|apply b0_|apply a8_|apply a1_)|((with_reducible refine a7_ ?_ ?_);(focus (go_simp;done)))|((with_reducible refine a0_ fun X Y=>?_);go_simp;refine Y _ ?_;clear Y X)
    refine c6_ (b9_ [] 2 ⟨rfl,rfl⟩ ?_);simp only [List.take,List.drop];repeat' first|with_reducible apply a1_|((with_reducible refine a0_ fun X Y=>?_);go_simp;refine Y _ ?_;clear Y X)
    refine e5_ [0,1,2,3] [0] [] [some (.box [.osl 1,.osl 2,I t,.sl 4 (r.ranks.map Rk.av),I r.back,I r.ret,.osl 3]),some (.bag 81 1 false none (d3_ Q2)),some (.arr 85 3 n1' (TK.map Tk.av)),some (.arr 60 3 false (M3.map Sg.av))] (.tup []) rfl (by go_simp) ?_ ?_
    ·unfold j7_;go_simp;refine ⟨_,_,_,gu,?_⟩;go_simp;kernel_rfl
    go_simp;apply e3_;repeat' with_reducible first|apply a3_|apply b1_
    refine a2_ [] ?_;repeat' first|(with_reducible first|apply a3_|apply a1_)|((with_reducible refine a0_ fun X Y=>?_);go_simp;(first|(refine ⟨_,⟨gn2,rfl⟩,?_⟩)|skip);refine Y _ ?_;clear Y X)
    refine hK _ (⟨Q2,TK,t⟩,M3) ⟨HI3,by simp only;omega,by simp only;omega,HX⟩ (by simp only;omega) ?_;simp only [hfg];go_simp
end Go.Proofs.YtoibondihdhnoaaDoor
