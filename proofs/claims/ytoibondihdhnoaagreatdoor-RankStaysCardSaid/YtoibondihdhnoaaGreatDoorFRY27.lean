/- Texts in one: Walks on a town: an event is carried out. -/
import Derived.Test.YtoibondihdhnoaaGreatDoorFRY8
import Derived.Test.YtoibondihdhnoaaGreatDoorFRY25
import Derived.Test.YtoibondihdhnoaaGreatDoorFRY26
namespace Go.Proofs.YtoibondihdhnoaaGreatDoor
open Go.RowKit
set_option maxRecDepth 100000
set_option maxHeartbeats 2000000
def gk (r:Ru) (s:St) (mv:List Sg) (n1:Bool) : Hp:=
 [some (.box [.osl 1,.osl 2,I s.time,.sl 4 (r.ranks.map Rk.av),I r.back,I r.ret,.sl 3 (mv.map Sg.av)]),some (.bag 62 1 false none (bx s.q)),some (.arr 148 3 n1 (s.tk.map Tk.av))]
theorem J2 (r:Ru) (s:St) (mv:List Sg) (n1:Bool) (x:Ev) (hn:r.ranks.length≤1000000) (hc:x.car.size≤1000) (h0:¬fst [evE r x,unl (decide (s.time≤x.time)) 9]=0) :
  VH Tryz.prog 128 (gk r s mv n1) [.ref 0 0,evA x] [0] (gk r s [] n1) (I (fst [evE r x,unl (decide (s.time≤x.time)) 9])):=by
 have g1:=EN r x hn hc;have g2:=bY (decide (s.time≤x.time)) 9;have g5:VC Tryz.prog 88 [.sl 1 ([evE r x,unl (decide (s.time≤x.time)) 9].map eK)] (I (fst [evE r x,unl (decide (s.time≤x.time)) 9])):=fF _ rfl rfl;generalize fst [evE r x,unl (decide (s.time≤x.time)) 9]=E at *;generalize unl (decide (s.time≤x.time)) 9=A1 at *;generalize evE r x=A2 at *;refine dk Tryz.func128 rfl (by kernel_rfl) rfl (fun _=>by kernel_rfl) fun M0 w0 vs=>?_;simp only [Tryz.ntmps128,Tryz.results128,aC];unfold gk;repeat' with_reducible apply af
 refine ah [] ?_;repeat' with_reducible first|apply af|apply ae|apply aa|(apply ab;intro X Y;go_simp;apply Y;clear Y X)
 refine ah [] ?_;repeat' with_reducible first|apply af|apply ae|apply aa|(apply ab;intro X Y;go_simp;apply Y;clear Y X)
 refine ib (fun p a w R=>⟨_,R.nilCell (bi:=0) (j:=6) (e:=45) (sz:=3) rfl rfl (by decide)⟩) ?_;go_simp;refine gN 0 6 3 rfl rfl rfl ?_;repeat' first|(with_reducible first|apply af|apply ae|apply aR|apply aw|apply aa|refine ah [] ?_|apply aP|(apply au;·go_simp))|((with_reducible first|apply ab|apply aO);intro X Y;go_simp;(first|(with_reducible refine ⟨_,g1,?_⟩)|(with_reducible refine ⟨_,g2,?_⟩)|(refine ⟨_,g5,?_⟩)|skip);apply Y;clear Y X)|((refine bf 18 18 [] rfl (by kernel_rfl) ?_);simp only [aA])
 go_simp
theorem EO (r:Ru) (s s' S2:St) (mv m' M2:List Sg) (n1 qf r9:Bool) (x:Ev) (e:Int) (hn:r.ranks.length≤1000000) (hc:x.car.size≤1000) (h0:fst [evE r x,unl (decide (s.time≤x.time)) 9]=0) (iO:0≤x.kind∧x.kind≤5)
  (hd:VH Tryz.prog (224+x.kind.toNat) (cq r s [] n1 true) [.ref 0 0,evA x] [0] (cq r s' m' qf r9) (I e))
  (hres:e≠0∧S2=s'∧M2=m'∨e=0∧RuOK r∧Inv r (atS s' x.time)∧m'.length+2*cl 0 s'.q≤1000000∧(∃ n,cl 0 s'.q≤n∧bZ r n (atS s' x.time) m'=(S2,M2))) :
  VH Tryz.prog 128 (gk r s mv n1) [.ref 0 0,evA x] [0] (gk r S2 M2 qf) (I e):=by
 have g1:=EN r x hn hc;have g2:=bY (decide (s.time≤x.time)) 9;have g5:VC Tryz.prog 88 [.sl 1 ([evE r x,unl (decide (s.time≤x.time)) 9].map eK)] (I (fst [evE r x,unl (decide (s.time≤x.time)) 9])):=fF _ rfl rfl;rw [h0] at g5;clear h0;generalize unl (decide (s.time≤x.time)) 9=A1 at *;generalize evE r x=A2 at *;obtain ⟨kd,tm,rk,car⟩:=x;simp only at iO hd g2 hres;simp only [evA] at g1 hd ⊢;have HR:=Lib.hid hres;clear hres;refine dk Tryz.func128 rfl (by kernel_rfl) rfl (fun _=>by kernel_rfl) fun M0 w0 vs=>?_;simp only [Tryz.ntmps128,Tryz.results128,aC];unfold cq at hd;unfold gk;repeat' with_reducible apply af
 refine ah [] ?_;repeat' with_reducible first|apply af|apply ae|apply aa|(apply ab;intro X Y;go_simp;apply Y;clear Y X)
 refine ah [] ?_;repeat' with_reducible first|apply af|apply ae|apply aa|(apply ab;intro X Y;go_simp;apply Y;clear Y X)
 refine ib (fun p a w R=>⟨_,R.nilCell (bi:=0) (j:=6) (e:=45) (sz:=3) rfl rfl (by decide)⟩) ?_;go_simp;refine bf 18 18 [] rfl (by kernel_rfl) ?_;simp only [aA];repeat' first|(with_reducible first|apply af|apply ae|apply aa|apply aP)|((with_reducible apply aO);intro X Y;go_simp;(first|(with_reducible refine ⟨_,g1,?_⟩)|(with_reducible refine ⟨_,g2,?_⟩)|(refine ⟨_,g5,?_⟩)|skip);apply Y;clear Y X)
 refine ah [] ?_;repeat' with_reducible first|apply af|apply ae|apply ao|apply aa|(apply aj;·go_simp)|(apply ab;intro X Y;go_simp;apply Y;clear Y X)
 refine tD ⟨[(0,.ref 0 0),(1,.agg [I kd,I tm,I rk,S car]),(3,.vp [I kd,I tm,I rk,S car]),(6,I e)],[some (.box [.osl 1,.osl 2,I s'.time,.sl 4 (r.ranks.map Rk.av),I r.back,I r.ret,.osl 3]),some (.bag 62 1 false none (bx s'.q)),some (.arr 148 3 qf (s'.tk.map Tk.av)),some (.arr 45 3 r9 (m'.map Sg.av))]⟩ (fun K hK=>?_) ?_
 ·clear HR;have rP:kd=0∨kd=1∨kd=2∨kd=3∨kd=4∨kd=5:=by omega
  refine I0 7 (by kernel_rfl) (by kernel_rfl) ?_;simp only [aA];rcases rP with rfl|rfl|rfl|rfl|rfl|rfl
  all_goals
   repeat' with_reducible first|apply aP|(apply aO;intro X Y;go_simp;apply Y;clear Y X)
   refine eI [0,1,2,3] [0] [] [some (.box [.osl 1,.osl 2,I s'.time,.sl 4 (r.ranks.map Rk.av),I r.back,I r.ret,.osl 3]),some (.bag 62 1 false none (bx s'.q)),some (.arr 148 3 qf (s'.tk.map Tk.av)),some (.arr 45 3 r9 (m'.map Sg.av))] (I e) rfl (by go_simp) ?_ ?_
   ·unfold dU;go_simp;refine ⟨_,_,_,hd,?_⟩;go_simp;kernel_rfl
   go_simp;refine bM [] 1 ⟨rfl,rfl⟩ ?_;simp only [aA];repeat' with_reducible first|apply aa|(apply ab;intro X Y;go_simp;apply Y;clear Y X)
   apply da;refine hK _ ?_;go_simp
 ·clear hd;rcases HR.out with ⟨he,rfl,rfl⟩|⟨rfl,hr,hi,hB,⟨n,jr,jd⟩⟩
  ·clear HR;refine gN 0 6 3 rfl rfl rfl ?_;repeat' with_reducible first|apply af|apply ae|apply aR|apply aw|apply aa|refine ah [] ?_|(apply au;·go_simp)|(apply ab;intro X Y;go_simp;apply Y;clear Y X)
   go_simp
  ·clear HR;have HI:=Lib.hid hi;have HN:=Lib.hid jd;have HU:=Lib.hid hr;have gn:=EP r (atS s' tm) m' hn hi.len.symm (by rw [hi.len];exact hr.feed);clear hi jd hr;unfold atS at gn;repeat' with_reducible apply af
   refine ah [] ?_;repeat' with_reducible first|apply af|apply ae|apply ao|apply aa|(apply aj;·go_simp)|(apply ab;intro X Y;go_simp;apply Y;clear Y X)
   refine ah [] ?_;repeat' with_reducible first|apply af|apply ae|apply aa|(apply ab;intro X Y;go_simp;apply Y;clear Y X)
   refine ah [] ?_;repeat' first|(with_reducible first|apply ae|apply az|apply aa)|((with_reducible apply ab);intro X Y;go_simp;(first|(refine ⟨_,⟨gn,rfl⟩,?_⟩)|skip);apply Y;clear Y X)
   apply lr (α:=St×List Sg) [0] (fun (x:St×List Sg)=>[(7,I (di r x.1))]) (fun (x:St×List Sg)=>([some (.box [.osl 1,.osl 2,I x.1.time,.sl 4 (r.ranks.map Rk.av),I r.back,I r.ret,.osl 3]),some (.bag 62 1 false none (bx x.1.q)),some (.arr 148 3 qf (x.1.tk.map Tk.av)),some (.arr 45 3 (r9&&decide (x.2.length=m'.length)) (x.2.map Sg.av))] : Hp)) (fun (x:St×List Sg)=>Hid (Inv r x.1)∧m'.length≤x.2.length∧x.2.length+2*cl 0 x.1.q≤1000000∧Hid (∃ n,cl 0 x.1.q≤n∧bZ r n x.1 x.2=(S2,M2))) (fun (x:St×List Sg)=>cl 0 x.1.q) ((⟨s'.q,s'.tk,tm⟩,m')) ⟨HI,Nat.le_refl _,hB,Lib.hid ⟨n,jr,HN.out⟩⟩
   ·(go_simp<;>exact rfl)
   ·go_simp
   rintro ⟨⟨Q,TK,t⟩,m⟩ ⟨bh,pa,ij,HE⟩ K hK;simp only at bh pa ij HE hK ⊢;obtain ⟨n3,dM,cN⟩:=HE.out;by_cases bQ:di r ⟨Q,TK,t⟩ < 0
   ·have e:(⟨Q,TK,t⟩,m)=(S2,M2):=by
     cases n3 with
     | zero=>exact cN
     | succ n=>rw [bZ,if_pos bQ] at cN;exact cN
    clear hK cN HE dM ij;injection e with e1 e2
    subst e1;subst e2;generalize di r ⟨Q,TK,t⟩=R at *;refine gN 0 6 3 rfl rfl rfl ?_;repeat' with_reducible apply af
    refine ah [] ?_;repeat' with_reducible first|apply af|apply ae|apply bE|apply bF|apply bG|apply aa|(apply aj;·go_simp)|(apply ab;intro X Y;go_simp;apply Y;clear Y X)
    refine ah [] ?_;repeat' with_reducible first|apply ae|apply aw|apply aa|(apply ab;intro X Y;go_simp;apply Y;clear Y X)
    go_simp
   ·obtain ⟨k,ek,hk,hp⟩:=kH bQ;have r_:k < Q.length:=by rw [bh.out.len];exact hk
    obtain ⟨f1,f2,f3⟩:=kG hp;obtain ⟨p1,p2,p3⟩:=HU.out.feedN hk f1;have cM:feedN r k < Q.length:=by rw [bh.out.len];exact p3
    have fQ:=pv HU.out bh.out.len r_ f1 f2;have bJ:=bh.out.up HU.out r_ f1 f2 f3;have dJ:=bh.out.fit k r_;have mm:=HU.out.pl k hk;have gu:=Ea r ⟨Q,TK,t⟩ m qf (r9&&decide (m.length=m'.length)) k (feedN r k) r_ bh.out.len.symm p1 cM (by omega) f2 (by simp only at dJ ⊢;omega) (by omega);have J3:=EP r (upS r ⟨Q,TK,t⟩ k) (m++upM Q k (feedN r k)) hn (by rw [bJ.len]) (by rw [bJ.len];exact HU.out.feed);have gp:∃ n,cl 0 (upS r ⟨Q,TK,t⟩ k).q≤n∧bZ r n (upS r ⟨Q,TK,t⟩ k) (m++upM Q k (feedN r k))=(S2,M2):=by
     cases n3 with
     | zero=>simp only at fQ dM;omega
     | succ n3=>
      rw [bZ,if_neg bQ,ek,Int.toNat_natCast] at cN;exact ⟨n3,by simp only at fQ dM;omega,cN⟩
    have HX:=Lib.hid gp;have lU:=Lib.hid bJ;have kK:(m++upM Q k (feedN r k)).length=m.length+2:=by simp [upM]
    have J4:(r9&&decide ((m++upM Q k (feedN r k)).length=m'.length))=false:=by
     rw [kK,decide_eq_false (by omega),Bool.and_false]
    clear cN HE gp bJ dJ mm dM bQ bh f1 f2 f3 hp;unfold upS at *;simp only at *;generalize (r9&&decide (m.length=m'.length))=fl at *;generalize upQ Q k (feedN r k)=Q2 at *;generalize m++upM Q k (feedN r k)=M3 at *;rw [ek];unfold cq at gu;repeat' with_reducible apply af
    refine ah [] ?_;repeat' with_reducible first|apply af|apply ae|apply ao|apply az|apply aa|(apply au;·go_simp)|(apply ab;intro X Y;go_simp;apply Y;clear Y X)
    refine eC (bM [] 2 ⟨rfl,rfl⟩ ?_);simp only [aA];repeat' with_reducible first|apply aa|(apply ab;intro X Y;go_simp;apply Y;clear Y X)
    refine eI [0,1,2,3] [0] [] [some (.box [.osl 1,.osl 2,I t,.sl 4 (r.ranks.map Rk.av),I r.back,I r.ret,.osl 3]),some (.bag 62 1 false none (bx Q2)),some (.arr 148 3 qf (TK.map Tk.av)),some (.arr 45 3 false (M3.map Sg.av))] (.tup []) rfl (by go_simp) ?_ ?_
    ·unfold dU;go_simp;refine ⟨_,_,_,gu,?_⟩;go_simp;kernel_rfl
    go_simp;apply da;repeat' with_reducible first|apply ae|apply aY
    refine ah [] ?_;repeat' first|(with_reducible first|apply ae|apply aa)|((with_reducible apply ab);intro X Y;go_simp;(first|(refine ⟨_,⟨J3,rfl⟩,?_⟩)|skip);apply Y;clear Y X)
    refine hK _ (⟨Q2,TK,t⟩,M3) ⟨lU,by simp only;omega,by simp only;omega,HX⟩ (by simp only;omega) ?_;simp only [J4];go_simp
end Go.Proofs.YtoibondihdhnoaaGreatDoor
