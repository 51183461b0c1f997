/- Texts in one: Walks on a town: an event is carried out. -/
import Derived.Test.YtoibondihdhnoaaGreatDoorFRP9
import Derived.Test.YtoibondihdhnoaaGreatDoorFRP26
import Derived.Test.YtoibondihdhnoaaGreatDoorFRP27
namespace Go.Proofs.YtoibondihdhnoaaGreatDoor
open Go.RowKit
set_option maxRecDepth 100000
set_option maxHeartbeats 2000000
def k6 (r:Ru) (s:St) (mv:List Sg) (n1:Bool) : Hp:=
 [some (.box [.osl 1,.osl 2,I s.time,.sl 4 (r.ranks.map Rk.av),I r.back,I r.ret,.sl 3 (mv.map Sg.av)]),some (.bag 62 1 false none (bL s.q)),some (.arr 148 3 n1 (s.tk.map Tk.av))]
theorem K_ (r:Ru) (s:St) (mv:List Sg) (n1:Bool) (x:Ev) (hn:r.ranks.length≤1000000) (hc:x.car.size≤1000) (h0:¬fst [evE r x,unl (decide (s.time≤x.time)) 9]=0) :
  VH Tryz.prog 128 (k6 r s mv n1) [.ref 0 0,evA x] [0] (k6 r s [] n1) (I (fst [evE r x,unl (decide (s.time≤x.time)) 9])):=by
 have g1:=Fu r x hn hc;have g2:=bN (decide (s.time≤x.time)) 9;have g5:VC Tryz.prog 88 [.sl 1 ([evE r x,unl (decide (s.time≤x.time)) 9].map eJ)] (I (fst [evE r x,unl (decide (s.time≤x.time)) 9])):=fP _ rfl rfl;generalize fst [evE r x,unl (decide (s.time≤x.time)) 9]=E at *;generalize unl (decide (s.time≤x.time)) 9=A1 at *;generalize evE r x=A2 at *;refine fi Tryz.func128 rfl (by kernel_rfl) rfl (fun _=>by kernel_rfl) fun M0 w0 vs=>?_;simp only [Tryz.ntmps128,Tryz.results128,aF];unfold k6;repeat' with_reducible apply af
 refine ah [] ?_;repeat' with_reducible first|apply af|apply ae|apply aa|(apply ab;intro X Y;go_simp;apply Y;clear Y X)
 refine ah [] ?_;repeat' with_reducible first|apply af|apply ae|apply aa|(apply ab;intro X Y;go_simp;apply Y;clear Y X)
 refine jA (fun p a w R=>⟨_,R.nilCell (bi:=0) (j:=6) (e:=45) (sz:=3) rfl rfl (by decide)⟩) ?_;go_simp;refine g_ 0 6 3 rfl rfl rfl ?_;repeat' first|(with_reducible first|apply af|apply ae|apply aZ|apply ax|apply aa|refine ah [] ?_|apply aT|(apply aw;·go_simp))|((with_reducible first|apply ab|apply aU);intro X Y;go_simp;(first|(with_reducible refine ⟨_,g1,?_⟩)|(with_reducible refine ⟨_,g2,?_⟩)|(refine ⟨_,g5,?_⟩)|skip);apply Y;clear Y X)|((refine bc 18 18 [] rfl (by kernel_rfl) ?_);simp only [az])
 go_simp
theorem Fv (r:Ru) (s s' S2:St) (mv m' M2:List Sg) (n1 qt r8:Bool) (x:Ev) (e:Int) (hn:r.ranks.length≤1000000) (hc:x.car.size≤1000) (h0:fst [evE r x,unl (decide (s.time≤x.time)) 9]=0) (lJ:0≤x.kind∧x.kind≤5)
  (hd:VH Tryz.prog (224+x.kind.toNat) (ct r s [] n1 true) [.ref 0 0,evA x] [0] (ct r s' m' qt r8) (I e))
  (hres:e≠0∧S2=s'∧M2=m'∨e=0∧RuOK r∧Inv r (atS s' x.time)∧m'.length+2*cD 0 s'.q≤1000000∧(∃ n,cD 0 s'.q≤n∧cE r n (atS s' x.time) m'=(S2,M2))) :
  VH Tryz.prog 128 (k6 r s mv n1) [.ref 0 0,evA x] [0] (k6 r S2 M2 qt) (I e):=by
 have g1:=Fu r x hn hc;have g2:=bN (decide (s.time≤x.time)) 9;have g5:VC Tryz.prog 88 [.sl 1 ([evE r x,unl (decide (s.time≤x.time)) 9].map eJ)] (I (fst [evE r x,unl (decide (s.time≤x.time)) 9])):=fP _ rfl rfl;rw [h0] at g5;clear h0;generalize unl (decide (s.time≤x.time)) 9=A1 at *;generalize evE r x=A2 at *;obtain ⟨kd,tm,rk,car⟩:=x;simp only at lJ hd g2 hres;simp only [evA] at g1 hd ⊢;have HR:=Lib.hid hres;clear hres;refine fi Tryz.func128 rfl (by kernel_rfl) rfl (fun _=>by kernel_rfl) fun M0 w0 vs=>?_;simp only [Tryz.ntmps128,Tryz.results128,aF];unfold ct at hd;unfold k6;repeat' with_reducible apply af
 refine ah [] ?_;repeat' with_reducible first|apply af|apply ae|apply aa|(apply ab;intro X Y;go_simp;apply Y;clear Y X)
 refine ah [] ?_;repeat' with_reducible first|apply af|apply ae|apply aa|(apply ab;intro X Y;go_simp;apply Y;clear Y X)
 refine jA (fun p a w R=>⟨_,R.nilCell (bi:=0) (j:=6) (e:=45) (sz:=3) rfl rfl (by decide)⟩) ?_;go_simp;refine bc 18 18 [] rfl (by kernel_rfl) ?_;simp only [az];repeat' first|(with_reducible first|apply af|apply ae|apply aa|apply aT)|((with_reducible apply aU);intro X Y;go_simp;(first|(with_reducible refine ⟨_,g1,?_⟩)|(with_reducible refine ⟨_,g2,?_⟩)|(refine ⟨_,g5,?_⟩)|skip);apply Y;clear Y X)
 refine ah [] ?_;repeat' with_reducible first|apply af|apply ae|apply au|apply aa|(apply ar;·go_simp)|(apply ab;intro X Y;go_simp;apply Y;clear Y X)
 refine tj ⟨[(0,.ref 0 0),(1,.agg [I kd,I tm,I rk,S car]),(3,.vp [I kd,I tm,I rk,S car]),(6,I e)],[some (.box [.osl 1,.osl 2,I s'.time,.sl 4 (r.ranks.map Rk.av),I r.back,I r.ret,.osl 3]),some (.bag 62 1 false none (bL s'.q)),some (.arr 148 3 qt (s'.tk.map Tk.av)),some (.arr 45 3 r8 (m'.map Sg.av))]⟩ (fun K hK=>?_) ?_
 ·clear HR;have pJ:kd=0∨kd=1∨kd=2∨kd=3∨kd=4∨kd=5:=by omega
  refine JR 7 (by kernel_rfl) (by kernel_rfl) ?_;simp only [az];rcases pJ with rfl|rfl|rfl|rfl|rfl|rfl
  all_goals
   repeat' with_reducible first|apply aT|(apply aU;intro X Y;go_simp;apply Y;clear Y X)
   refine fJ [0,1,2,3] [0] [] [some (.box [.osl 1,.osl 2,I s'.time,.sl 4 (r.ranks.map Rk.av),I r.back,I r.ret,.osl 3]),some (.bag 62 1 false none (bL s'.q)),some (.arr 148 3 qt (s'.tk.map Tk.av)),some (.arr 45 3 r8 (m'.map Sg.av))] (I e) rfl (by go_simp) ?_ ?_
   ·unfold fk;go_simp;refine ⟨_,_,_,hd,?_⟩;go_simp;kernel_rfl
   go_simp;refine ca [] 1 ⟨rfl,rfl⟩ ?_;simp only [az];repeat' with_reducible first|apply aa|(apply ab;intro X Y;go_simp;apply Y;clear Y X)
   apply dA;refine hK _ ?_;go_simp
 ·clear hd;rcases HR.out with ⟨he,rfl,rfl⟩|⟨rfl,hr,hi,hB,⟨n,jz,iG⟩⟩
  ·clear HR;refine g_ 0 6 3 rfl rfl rfl ?_;repeat' with_reducible first|apply af|apply ae|apply aZ|apply ax|apply aa|refine ah [] ?_|(apply aw;·go_simp)|(apply ab;intro X Y;go_simp;apply Y;clear Y X)
   go_simp
  ·clear HR;have HI:=Lib.hid hi;have HN:=Lib.hid iG;have HU:=Lib.hid hr;have gn:=zZ r (atS s' tm) m' hn hi.len.symm (by rw [hi.len];exact hr.feed);clear hi iG hr;unfold atS at gn;repeat' with_reducible apply af
   refine ah [] ?_;repeat' with_reducible first|apply af|apply ae|apply au|apply aa|(apply ar;·go_simp)|(apply ab;intro X Y;go_simp;apply Y;clear Y X)
   refine ah [] ?_;repeat' with_reducible first|apply af|apply ae|apply aa|(apply ab;intro X Y;go_simp;apply Y;clear Y X)
   refine ah [] ?_;repeat' first|(with_reducible first|apply ae|apply aB|apply aa)|((with_reducible apply ab);intro X Y;go_simp;(first|(refine ⟨_,⟨gn,rfl⟩,?_⟩)|skip);apply Y;clear Y X)
   apply oX (α:=St×List Sg) [0] (fun (x:St×List Sg)=>[(7,I (cM r x.1))]) (fun (x:St×List Sg)=>([some (.box [.osl 1,.osl 2,I x.1.time,.sl 4 (r.ranks.map Rk.av),I r.back,I r.ret,.osl 3]),some (.bag 62 1 false none (bL x.1.q)),some (.arr 148 3 qt (x.1.tk.map Tk.av)),some (.arr 45 3 (r8&&decide (x.2.length=m'.length)) (x.2.map Sg.av))] : Hp)) (fun (x:St×List Sg)=>Hid (Inv r x.1)∧m'.length≤x.2.length∧x.2.length+2*cD 0 x.1.q≤1000000∧Hid (∃ n,cD 0 x.1.q≤n∧cE r n x.1 x.2=(S2,M2))) (fun (x:St×List Sg)=>cD 0 x.1.q) ((⟨s'.q,s'.tk,tm⟩,m')) ⟨HI,Nat.le_refl _,hB,Lib.hid ⟨n,jz,HN.out⟩⟩
   ·(go_simp<;>exact rfl)
   ·go_simp
   rintro ⟨⟨Q,TK,t⟩,m⟩ ⟨bF,oP,ix,HE⟩ K hK;simp only at bF oP ix HE hK ⊢;obtain ⟨n3,dW,cR⟩:=HE.out;by_cases bV:cM r ⟨Q,TK,t⟩ < 0
   ·have e:(⟨Q,TK,t⟩,m)=(S2,M2):=by
     cases n3 with
     | zero=>exact cR
     | succ n=>rw [cE,if_pos bV] at cR;exact cR
    clear hK cR HE dW ix;injection e with e1 e2
    subst e1;subst e2;generalize cM r ⟨Q,TK,t⟩=R at *;refine g_ 0 6 3 rfl rfl rfl ?_;repeat' with_reducible apply af
    refine ah [] ?_;repeat' with_reducible first|apply af|apply ae|apply bP|apply bQ|apply bT|apply aa|(apply ar;·go_simp)|(apply ab;intro X Y;go_simp;apply Y;clear Y X)
    refine ah [] ?_;repeat' with_reducible first|apply ae|apply ax|apply aa|(apply ab;intro X Y;go_simp;apply Y;clear Y X)
    go_simp
   ·obtain ⟨k,ek,hk,hp⟩:=mS bV;have yn:k < Q.length:=by rw [bF.out.len];exact hk
    obtain ⟨f1,f2,f3⟩:=mR hp;obtain ⟨p1,p2,p3⟩:=HU.out.feedN hk f1;have de:feedN r k < Q.length:=by rw [bF.out.len];exact p3
    have hJ:=pP HU.out bF.out.len yn f1 f2;have bM:=bF.out.up HU.out yn f1 f2 f3;have dT:=bF.out.fit k yn;have iF:=HU.out.pl k hk;have gu:=EG r ⟨Q,TK,t⟩ m qt (r8&&decide (m.length=m'.length)) k (feedN r k) yn bF.out.len.symm p1 de (by omega) f2 (by simp only at dT ⊢;omega) (by omega);have La:=zZ r (upS r ⟨Q,TK,t⟩ k) (m++upM Q k (feedN r k)) hn (by rw [bM.len]) (by rw [bM.len];exact HU.out.feed);have gA:∃ n,cD 0 (upS r ⟨Q,TK,t⟩ k).q≤n∧cE r n (upS r ⟨Q,TK,t⟩ k) (m++upM Q k (feedN r k))=(S2,M2):=by
     cases n3 with
     | zero=>simp only at hJ dW;omega
     | succ n3=>
      rw [cE,if_neg bV,ek,Int.toNat_natCast] at cR;exact ⟨n3,by simp only at hJ dW;omega,cR⟩
    have HX:=Lib.hid gA;have mi:=Lib.hid bM;have k7:(m++upM Q k (feedN r k)).length=m.length+2:=by simp [upM]
    have Lb:(r8&&decide ((m++upM Q k (feedN r k)).length=m'.length))=false:=by
     rw [k7,decide_eq_false (by omega),Bool.and_false]
    clear cR HE gA bM dT iF dW bV bF f1 f2 f3 hp;unfold upS at *;simp only at *;generalize (r8&&decide (m.length=m'.length))=fl at *;generalize upQ Q k (feedN r k)=Q2 at *;generalize m++upM Q k (feedN r k)=M3 at *;rw [ek];unfold ct at gu;repeat' with_reducible apply af
    refine ah [] ?_;repeat' with_reducible first|apply af|apply ae|apply au|apply aB|apply aa|(apply aw;·go_simp)|(apply ab;intro X Y;go_simp;apply Y;clear Y X)
    refine fB (ca [] 2 ⟨rfl,rfl⟩ ?_);simp only [az];repeat' with_reducible first|apply aa|(apply ab;intro X Y;go_simp;apply Y;clear Y X)
    refine fJ [0,1,2,3] [0] [] [some (.box [.osl 1,.osl 2,I t,.sl 4 (r.ranks.map Rk.av),I r.back,I r.ret,.osl 3]),some (.bag 62 1 false none (bL Q2)),some (.arr 148 3 qt (TK.map Tk.av)),some (.arr 45 3 false (M3.map Sg.av))] (.tup []) rfl (by go_simp) ?_ ?_
    ·unfold fk;go_simp;refine ⟨_,_,_,gu,?_⟩;go_simp;kernel_rfl
    go_simp;apply dA;repeat' with_reducible first|apply ae|apply bp
    refine ah [] ?_;repeat' first|(with_reducible first|apply ae|apply aa)|((with_reducible apply ab);intro X Y;go_simp;(first|(refine ⟨_,⟨La,rfl⟩,?_⟩)|skip);apply Y;clear Y X)
    refine hK _ (⟨Q2,TK,t⟩,M3) ⟨mi,by simp only;omega,by simp only;omega,HX⟩ (by simp only;omega) ?_;simp only [Lb];go_simp
end Go.Proofs.YtoibondihdhnoaaGreatDoor
