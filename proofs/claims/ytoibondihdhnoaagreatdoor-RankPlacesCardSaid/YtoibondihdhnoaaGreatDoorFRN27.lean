/- Texts in one: Walks on a town: an event is carried out. -/
import Derived.Test.YtoibondihdhnoaaGreatDoorFRN25
import Derived.Test.YtoibondihdhnoaaGreatDoorFRN26
namespace Go.Proofs.YtoibondihdhnoaaGreatDoor
open Go.RowKit
set_option maxRecDepth 100000
set_option maxHeartbeats 2000000
def m9_ (r:Ru) (s:St) (mv:List Sg) (n1:Bool) : Hp:=
 [some (.box [.osl 1,.osl 2,I s.time,.sl 4 (r.ranks.map Rk.av),I r.back,I r.ret,.sl 3 (mv.map Sg.av)]),some (.bag 62 1 false none (f3_ s.q)),some (.arr 148 3 n1 (s.tk.map Tk.av))]
theorem d1s (r:Ru) (s:St) (mv:List Sg) (n1:Bool) (x:Ev) (hn:r.ranks.length≤1000000) (hc:x.car.size≤1000) (h0:¬fst [evE r x,unl (decide (s.time≤x.time)) 9]=0) :
  VH Tryz.prog 128 (m9_ r s mv n1) [.ref 0 0,evA x] [0] (m9_ r s [] n1) (I (fst [evE r x,unl (decide (s.time≤x.time)) 9])):=by
 have g1:=a5h r x hn hc;have g2:=b0_ (decide (s.time≤x.time)) 9;have g5:VC Tryz.prog 88 [.sl 1 ([evE r x,unl (decide (s.time≤x.time)) 9].map p9_)] (I (fst [evE r x,unl (decide (s.time≤x.time)) 9])):=c6_ _ rfl rfl;generalize fst [evE r x,unl (decide (s.time≤x.time)) 9]=E at *;generalize unl (decide (s.time≤x.time)) 9=A1 at *;generalize evE r x=A2 at *;refine g4_ Tryz.func128 rfl (by kernel_rfl) rfl (fun _=>by kernel_rfl) fun M0 w0 vs=>?_;simp only [Tryz.ntmps128,Tryz.results128,b4_];unfold m9_;repeat' with_reducible apply a8_
 refine a2_ [] ?_;repeat' first|(with_reducible first|apply a8_|apply a3_|apply a1_)|((with_reducible refine a0_ fun X Y=>?_);go_simp;refine Y _ ?_;clear Y X)
 refine a2_ [] ?_;repeat' first|(with_reducible first|apply a8_|apply a3_|apply a1_)|((with_reducible refine a0_ fun X Y=>?_);go_simp;refine Y _ ?_;clear Y X)
 refine a0p (fun p a w R=>⟨_,R.nilCell (bi:=0) (j:=6) (e:=45) (sz:=3) rfl rfl (by decide)⟩) ?_;go_simp;refine i1_ 0 6 3 rfl rfl rfl ?_;repeat' first|(with_reducible first|apply a8_|apply a3_|apply b5_|apply c4_|apply a1_|refine a2_ [] ?_|apply a5_)|((with_reducible refine a7_ ?_ ?_);(focus (go_simp;done)))|((with_reducible first|refine a0_ fun X Y=>?_|refine a4_ fun X Y=>?_);go_simp;(first|(with_reducible refine ⟨_,g1,?_⟩)|(with_reducible refine ⟨_,g2,?_⟩)|(refine ⟨_,g5,?_⟩)|skip);refine Y _ ?_;clear Y X)|((refine b2_ 18 18 [] rfl (by kernel_rfl) (by kernel_rfl) ?_);simp only [List.take,List.drop])
 go_simp
theorem d3c (r:Ru) (s s' S2:St) (mv m' M2:List Sg) (n1 n1' n2':Bool) (x:Ev) (e:Int) (hn:r.ranks.length≤1000000) (hc:x.car.size≤1000) (h0:fst [evE r x,unl (decide (s.time≤x.time)) 9]=0) (hkd:0≤x.kind∧x.kind≤5)
  (hd:VH Tryz.prog (224+x.kind.toNat) (e4_ r s [] n1 true) [.ref 0 0,evA x] [0] (e4_ r s' m' n1' n2') (I e))
  (hres:e≠0∧S2=s'∧M2=m'∨e=0∧RuOK r∧Inv r (atS s' x.time)∧m'.length+2*o7_ 0 s'.q≤1000000∧(∃ n,o7_ 0 s'.q≤n∧a4t r n (atS s' x.time) m'=(S2,M2))) :
  VH Tryz.prog 128 (m9_ r s mv n1) [.ref 0 0,evA x] [0] (m9_ r S2 M2 n1') (I e):=by
 have g1:=a5h r x hn hc;have g2:=b0_ (decide (s.time≤x.time)) 9;have g5:VC Tryz.prog 88 [.sl 1 ([evE r x,unl (decide (s.time≤x.time)) 9].map p9_)] (I (fst [evE r x,unl (decide (s.time≤x.time)) 9])):=c6_ _ rfl rfl;rw [h0] at g5;clear h0;generalize unl (decide (s.time≤x.time)) 9=A1 at *;generalize evE r x=A2 at *;obtain ⟨kd,tm,rk,car⟩:=x;simp only at hkd hd g2 hres;simp only [evA] at g1 hd ⊢;have HR:=Lib.hid hres;clear hres;refine g4_ Tryz.func128 rfl (by kernel_rfl) rfl (fun _=>by kernel_rfl) fun M0 w0 vs=>?_;simp only [Tryz.ntmps128,Tryz.results128,b4_];unfold e4_ at hd;unfold m9_;repeat' with_reducible apply a8_
 refine a2_ [] ?_;repeat' first|(with_reducible first|apply a8_|apply a3_|apply a1_)|((with_reducible refine a0_ fun X Y=>?_);go_simp;refine Y _ ?_;clear Y X)
 refine a2_ [] ?_;repeat' first|(with_reducible first|apply a8_|apply a3_|apply a1_)|((with_reducible refine a0_ fun X Y=>?_);go_simp;refine Y _ ?_;clear Y X)
 refine a0p (fun p a w R=>⟨_,R.nilCell (bi:=0) (j:=6) (e:=45) (sz:=3) rfl rfl (by decide)⟩) ?_;go_simp;refine b2_ 18 18 [] rfl (by kernel_rfl) (by kernel_rfl) ?_;simp only [List.take,List.drop];repeat' first|(with_reducible first|apply a8_|apply a3_|apply a1_|apply a5_)|((with_reducible refine a4_ fun X Y=>?_);go_simp;(first|(with_reducible refine ⟨_,g1,?_⟩)|(with_reducible refine ⟨_,g2,?_⟩)|(refine ⟨_,g5,?_⟩)|skip);refine Y _ ?_;clear Y X)
 refine a2_ [] ?_;repeat' first|(with_reducible first|apply a8_|apply a3_|apply b1_|apply a1_)|((with_reducible refine a6_ ?_ ?_);(focus (go_simp;done)))|((with_reducible refine a0_ fun X Y=>?_);go_simp;refine Y _ ?_;clear Y X)
 refine c5u ⟨[(0,.ref 0 0),(1,.agg [I kd,I tm,I rk,S car]),(3,.vp [I kd,I tm,I rk,S car]),(6,I e)],[some (.box [.osl 1,.osl 2,I s'.time,.sl 4 (r.ranks.map Rk.av),I r.back,I r.ret,.osl 3]),some (.bag 62 1 false none (f3_ s'.q)),some (.arr 148 3 n1' (s'.tk.map Tk.av)),some (.arr 45 3 n2' (m'.map Sg.av))]⟩ (fun K hK=>?_) ?_
 ·clear HR;have hk6:kd=0∨kd=1∨kd=2∨kd=3∨kd=4∨kd=5:=by omega
  refine c9h 7 (by kernel_rfl) (by kernel_rfl) ?_;simp only [List.take,List.drop];rcases hk6 with rfl|rfl|rfl|rfl|rfl|rfl
  all_goals
   repeat' first|with_reducible apply a5_|((with_reducible refine a4_ fun X Y=>?_);go_simp;refine Y _ ?_;clear Y X)
   refine e0_ [0,1,2,3] [0] [] [some (.box [.osl 1,.osl 2,I s'.time,.sl 4 (r.ranks.map Rk.av),I r.back,I r.ret,.osl 3]),some (.bag 62 1 false none (f3_ s'.q)),some (.arr 148 3 n1' (s'.tk.map Tk.av)),some (.arr 45 3 n2' (m'.map Sg.av))] (I e) rfl (by go_simp) ?_ ?_
   ·unfold i9_;go_simp;refine ⟨_,_,_,hd,?_⟩;go_simp;kernel_rfl
   go_simp;refine c0_ [] 1 ⟨rfl,rfl⟩ ?_;simp only [List.take,List.drop];repeat' first|with_reducible apply a1_|((with_reducible refine a0_ fun X Y=>?_);go_simp;refine Y _ ?_;clear Y X)
   apply d6_;refine hK _ ?_;go_simp
 ·clear hd;rcases HR.out with ⟨he,rfl,rfl⟩|⟨rfl,hr,hi,hB,⟨n,hn1,hn2⟩⟩
  ·clear HR;refine i1_ 0 6 3 rfl rfl rfl ?_;repeat' first|(with_reducible first|apply a8_|apply a3_|apply b5_|apply c4_|apply a1_|refine a2_ [] ?_)|((with_reducible refine a7_ ?_ ?_);(focus (go_simp;done)))|((with_reducible refine a0_ fun X Y=>?_);go_simp;refine Y _ ?_;clear Y X)
   go_simp
  ·clear HR;have HI:=Lib.hid hi;have HN:=Lib.hid hn2;have HU:=Lib.hid hr;have gn:=c1g r (atS s' tm) m' hn hi.len.symm (by rw [hi.len];exact hr.feed);clear hi hn2 hr;unfold atS at gn;repeat' with_reducible apply a8_
   refine a2_ [] ?_;repeat' first|(with_reducible first|apply a8_|apply a3_|apply b1_|apply a1_)|((with_reducible refine a6_ ?_ ?_);(focus (go_simp;done)))|((with_reducible refine a0_ fun X Y=>?_);go_simp;refine Y _ ?_;clear Y X)
   refine a2_ [] ?_;repeat' first|(with_reducible first|apply a8_|apply a3_|apply a1_)|((with_reducible refine a0_ fun X Y=>?_);go_simp;refine Y _ ?_;clear Y X)
   refine a2_ [] ?_;repeat' first|(with_reducible first|apply a3_|apply a9_|apply a1_)|((with_reducible refine a0_ fun X Y=>?_);go_simp;(first|(refine ⟨_,⟨gn,rfl⟩,?_⟩)|skip);refine Y _ ?_;clear Y X)
   apply b0p (α:=St×List Sg) [0] (fun (x:St×List Sg)=>[(7,I (i8_ r x.1))]) (fun (x:St×List Sg)=>([some (.box [.osl 1,.osl 2,I x.1.time,.sl 4 (r.ranks.map Rk.av),I r.back,I r.ret,.osl 3]),some (.bag 62 1 false none (f3_ x.1.q)),some (.arr 148 3 n1' (x.1.tk.map Tk.av)),some (.arr 45 3 (n2'&&decide (x.2.length=m'.length)) (x.2.map Sg.av))] : Hp)) (fun (x:St×List Sg)=>Hid (Inv r x.1)∧m'.length≤x.2.length∧x.2.length+2*o7_ 0 x.1.q≤1000000∧Hid (∃ n,o7_ 0 x.1.q≤n∧a4t r n x.1 x.2=(S2,M2))) (fun (x:St×List Sg)=>o7_ 0 x.1.q) ((⟨s'.q,s'.tk,tm⟩,m')) ⟨HI,Nat.le_refl _,hB,Lib.hid ⟨n,hn1,HN.out⟩⟩
   ·(go_simp<;>exact rfl)
   ·go_simp
   rintro ⟨⟨Q,TK,t⟩,m⟩ ⟨HI2,hml,hmb,HE⟩ K hK;simp only at HI2 hml hmb HE hK ⊢;obtain ⟨n3,hn3,hn4⟩:=HE.out;by_cases hneg:i8_ r ⟨Q,TK,t⟩ < 0
   ·have e:(⟨Q,TK,t⟩,m)=(S2,M2):=by
     cases n3 with
     | zero=>exact hn4
     | succ n=>rw [a4t,if_pos hneg] at hn4;exact hn4
    clear hK hn4 HE hn3 hmb;injection e with e1 e2
    subst e1;subst e2;generalize i8_ r ⟨Q,TK,t⟩=R at *;refine i1_ 0 6 3 rfl rfl rfl ?_;repeat' with_reducible apply a8_
    refine a2_ [] ?_;repeat' first|(with_reducible first|apply a8_|apply a3_|apply b8_|apply d0_|apply b7_|apply a1_)|((with_reducible refine a6_ ?_ ?_);(focus (go_simp;done)))|((with_reducible refine a0_ fun X Y=>?_);go_simp;refine Y _ ?_;clear Y X)
    refine a2_ [] ?_;repeat' first|(with_reducible first|apply a3_|apply c4_|apply a1_)|((with_reducible refine a0_ fun X Y=>?_);go_simp;refine Y _ ?_;clear Y X)
    go_simp
   ·obtain ⟨k,ek,hk,hp⟩:=a0r hneg;have hkq:k < Q.length:=by rw [HI2.out.len];exact hk
    obtain ⟨f1,f2,f3⟩:=v3_ hp;obtain ⟨p1,p2,p3⟩:=HU.out.feedN hk f1;have hfl:feedN r k < Q.length:=by rw [HI2.out.len];exact p3
    have hup:=a6q HU.out HI2.out.len hkq f1 f2;have hi2:=HI2.out.up HU.out hkq f1 f2 f3;have hfit:=HI2.out.fit k hkq;have hpl:=HU.out.pl k hk;have gu:=d2z r ⟨Q,TK,t⟩ m n1' (n2'&&decide (m.length=m'.length)) k (feedN r k) hkq HI2.out.len.symm p1 hfl (by omega) f2 (by simp only at hfit ⊢;omega) (by omega);have gn2:=c1g r (upS r ⟨Q,TK,t⟩ k) (m++upM Q k (feedN r k)) hn (by rw [hi2.len]) (by rw [hi2.len];exact HU.out.feed);have hnx:∃ n,o7_ 0 (upS r ⟨Q,TK,t⟩ k).q≤n∧a4t r n (upS r ⟨Q,TK,t⟩ k) (m++upM Q k (feedN r k))=(S2,M2):=by
     cases n3 with
     | zero=>simp only at hup hn3;omega
     | succ n3=>
      rw [a4t,if_neg hneg,ek,Int.toNat_natCast] at hn4;exact ⟨n3,by simp only at hup hn3;omega,hn4⟩
    have HX:=Lib.hid hnx;have HI3:=Lib.hid hi2;have hml2:(m++upM Q k (feedN r k)).length=m.length+2:=by simp [upM]
    have hfg:(n2'&&decide ((m++upM Q k (feedN r k)).length=m'.length))=false:=by
     rw [hml2,decide_eq_false (by omega),Bool.and_false]
    clear hn4 HE hnx hi2 hfit hpl hn3 hneg HI2 f1 f2 f3 hp;unfold upS at *;simp only at *;generalize (n2'&&decide (m.length=m'.length))=fl at *;generalize upQ Q k (feedN r k)=Q2 at *;generalize m++upM Q k (feedN r k)=M3 at *;rw [ek];unfold e4_ at gu;repeat' with_reducible apply a8_
    refine a2_ [] ?_;repeat' first|(with_reducible first|apply a8_|apply a3_|apply b1_|apply a9_|apply a1_)|((with_reducible refine a7_ ?_ ?_);(focus (go_simp;done)))|((with_reducible refine a0_ fun X Y=>?_);go_simp;refine Y _ ?_;clear Y X)
    refine c7_ (c0_ [] 2 ⟨rfl,rfl⟩ ?_);simp only [List.take,List.drop];repeat' first|with_reducible apply a1_|((with_reducible refine a0_ fun X Y=>?_);go_simp;refine Y _ ?_;clear Y X)
    refine e0_ [0,1,2,3] [0] [] [some (.box [.osl 1,.osl 2,I t,.sl 4 (r.ranks.map Rk.av),I r.back,I r.ret,.osl 3]),some (.bag 62 1 false none (f3_ Q2)),some (.arr 148 3 n1' (TK.map Tk.av)),some (.arr 45 3 false (M3.map Sg.av))] (.tup []) rfl (by go_simp) ?_ ?_
    ·unfold i9_;go_simp;refine ⟨_,_,_,gu,?_⟩;go_simp;kernel_rfl
    go_simp;apply d6_;repeat' with_reducible first|apply a3_|apply b3_
    refine a2_ [] ?_;repeat' first|(with_reducible first|apply a3_|apply a1_)|((with_reducible refine a0_ fun X Y=>?_);go_simp;(first|(refine ⟨_,⟨gn2,rfl⟩,?_⟩)|skip);refine Y _ ?_;clear Y X)
    refine hK _ (⟨Q2,TK,t⟩,M3) ⟨HI3,by simp only;omega,by simp only;omega,HX⟩ (by simp only;omega) ?_;simp only [hfg];go_simp
end Go.Proofs.YtoibondihdhnoaaGreatDoor
