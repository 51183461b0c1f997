/- Texts in one: Walks on a town: an event is carried out. -/
import Derived.Test.YtoibondihdhnoaaGreatDoorFRQ9
import Derived.Test.YtoibondihdhnoaaGreatDoorFRQ26
import Derived.Test.YtoibondihdhnoaaGreatDoorFRQ27
namespace Go.Proofs.YtoibondihdhnoaaGreatDoor
open Go.RowKit
set_option maxRecDepth 100000
set_option maxHeartbeats 2000000
def gr (r:Ru) (s:St) (mv:List Sg) (n1:Bool) : Hp:=
 [some (.box [.osl 1,.osl 2,I s.time,.sl 4 (r.ranks.map Rk.av),I r.back,I r.ret,.sl 3 (mv.map Sg.av)]),some (.bag 62 1 false none (bA s.q)),some (.arr 148 3 n1 (s.tk.map Tk.av))]
theorem J5 (r:Ru) (s:St) (mv:List Sg) (n1:Bool) (x:Ev) (hn:r.ranks.length≤1000000) (hc:x.car.size≤1000) (h0:¬fst [evE r x,unl (decide (s.time≤x.time)) 9]=0) :
  VH Tryz.prog 128 (gr r s mv n1) [.ref 0 0,evA x] [0] (gr r s [] n1) (I (fst [evE r x,unl (decide (s.time≤x.time)) 9])):=by
 have g1:=EK r x hn hc;have g2:=bN (decide (s.time≤x.time)) 9;have g5:VC Tryz.prog 88 [.sl 1 ([evE r x,unl (decide (s.time≤x.time)) 9].map dt)] (I (fst [evE r x,unl (decide (s.time≤x.time)) 9])):=eL _ rfl rfl;generalize fst [evE r x,unl (decide (s.time≤x.time)) 9]=E at *;generalize unl (decide (s.time≤x.time)) 9=A1 at *;generalize evE r x=A2 at *;refine dn Tryz.func128 rfl (by kernel_rfl) rfl (fun _=>by kernel_rfl) fun M0 w0 vs=>?_;simp only [Tryz.ntmps128,Tryz.results128,aC];unfold gr;repeat' with_reducible apply af
 refine ah [] ?_;repeat' with_reducible first|apply af|apply ae|apply aa|(apply ab;intro X Y;go_simp;apply Y;clear Y X)
 refine ah [] ?_;repeat' with_reducible first|apply af|apply ae|apply aa|(apply ab;intro X Y;go_simp;apply Y;clear Y X)
 refine hZ (fun p a w R=>⟨_,R.nilCell (bi:=0) (j:=6) (e:=45) (sz:=3) rfl rfl (by decide)⟩) ?_;go_simp;refine gV 0 6 3 rfl rfl rfl ?_;repeat' first|(with_reducible first|apply af|apply ae|apply aW|apply az|apply aa|refine ah [] ?_|apply aQ|(apply ax;·go_simp))|((with_reducible first|apply ab|apply aR);intro X Y;go_simp;(first|(with_reducible refine ⟨_,g1,?_⟩)|(with_reducible refine ⟨_,g2,?_⟩)|(refine ⟨_,g5,?_⟩)|skip);apply Y;clear Y X)|((refine bw 18 18 [] rfl (by kernel_rfl) ?_);simp only [au])
 go_simp
theorem EL (r:Ru) (s s' S2:St) (mv m' M2:List Sg) (n1 qa rP:Bool) (x:Ev) (e:Int) (hn:r.ranks.length≤1000000) (hc:x.car.size≤1000) (h0:fst [evE r x,unl (decide (s.time≤x.time)) 9]=0) (je:0≤x.kind∧x.kind≤5)
  (hd:VH Tryz.prog (224+x.kind.toNat) (ct r s [] n1 true) [.ref 0 0,evA x] [0] (ct r s' m' qa rP) (I e))
  (hres:e≠0∧S2=s'∧M2=m'∨e=0∧RuOK r∧Inv r (atS s' x.time)∧m'.length+2*cA 0 s'.q≤1000000∧(∃ n,cA 0 s'.q≤n∧cD r n (atS s' x.time) m'=(S2,M2))) :
  VH Tryz.prog 128 (gr r s mv n1) [.ref 0 0,evA x] [0] (gr r S2 M2 qa) (I e):=by
 have g1:=EK r x hn hc;have g2:=bN (decide (s.time≤x.time)) 9;have g5:VC Tryz.prog 88 [.sl 1 ([evE r x,unl (decide (s.time≤x.time)) 9].map dt)] (I (fst [evE r x,unl (decide (s.time≤x.time)) 9])):=eL _ rfl rfl;rw [h0] at g5;clear h0;generalize unl (decide (s.time≤x.time)) 9=A1 at *;generalize evE r x=A2 at *;obtain ⟨kd,tm,rk,car⟩:=x;simp only at je hd g2 hres;simp only [evA] at g1 hd ⊢;have HR:=Lib.hid hres;clear hres;refine dn Tryz.func128 rfl (by kernel_rfl) rfl (fun _=>by kernel_rfl) fun M0 w0 vs=>?_;simp only [Tryz.ntmps128,Tryz.results128,aC];unfold ct at hd;unfold gr;repeat' with_reducible apply af
 refine ah [] ?_;repeat' with_reducible first|apply af|apply ae|apply aa|(apply ab;intro X Y;go_simp;apply Y;clear Y X)
 refine ah [] ?_;repeat' with_reducible first|apply af|apply ae|apply aa|(apply ab;intro X Y;go_simp;apply Y;clear Y X)
 refine hZ (fun p a w R=>⟨_,R.nilCell (bi:=0) (j:=6) (e:=45) (sz:=3) rfl rfl (by decide)⟩) ?_;go_simp;refine bw 18 18 [] rfl (by kernel_rfl) ?_;simp only [au];repeat' first|(with_reducible first|apply af|apply ae|apply aa|apply aQ)|((with_reducible apply aR);intro X Y;go_simp;(first|(with_reducible refine ⟨_,g1,?_⟩)|(with_reducible refine ⟨_,g2,?_⟩)|(refine ⟨_,g5,?_⟩)|skip);apply Y;clear Y X)
 refine ah [] ?_;repeat' with_reducible first|apply af|apply ae|apply aw|apply aa|(apply ar;·go_simp)|(apply ab;intro X Y;go_simp;apply Y;clear Y X)
 refine sZ ⟨[(0,.ref 0 0),(1,.agg [I kd,I tm,I rk,S car]),(3,.vp [I kd,I tm,I rk,S car]),(6,I e)],[some (.box [.osl 1,.osl 2,I s'.time,.sl 4 (r.ranks.map Rk.av),I r.back,I r.ret,.osl 3]),some (.bag 62 1 false none (bA s'.q)),some (.arr 148 3 qa (s'.tk.map Tk.av)),some (.arr 45 3 rP (m'.map Sg.av))]⟩ (fun K hK=>?_) ?_
 ·clear HR;have rC:kd=0∨kd=1∨kd=2∨kd=3∨kd=4∨kd=5:=by omega
  refine IV 7 (by kernel_rfl) (by kernel_rfl) ?_;simp only [au];rcases rC with rfl|rfl|rfl|rfl|rfl|rfl
  all_goals
   repeat' with_reducible first|apply aQ|(apply aR;intro X Y;go_simp;apply Y;clear Y X)
   refine dI [0,1,2,3] [0] [] [some (.box [.osl 1,.osl 2,I s'.time,.sl 4 (r.ranks.map Rk.av),I r.back,I r.ret,.osl 3]),some (.bag 62 1 false none (bA s'.q)),some (.arr 148 3 qa (s'.tk.map Tk.av)),some (.arr 45 3 rP (m'.map Sg.av))] (I e) rfl (by go_simp) ?_ ?_
   ·unfold dv;go_simp;refine ⟨_,_,_,hd,?_⟩;go_simp;kernel_rfl
   go_simp;refine bb [] 1 ⟨rfl,rfl⟩ ?_;simp only [au];repeat' with_reducible first|apply aa|(apply ab;intro X Y;go_simp;apply Y;clear Y X)
   apply cF;refine hK _ ?_;go_simp
 ·clear hd;rcases HR.out with ⟨he,rfl,rfl⟩|⟨rfl,hr,hi,hB,⟨n,jq,h_⟩⟩
  ·clear HR;refine gV 0 6 3 rfl rfl rfl ?_;repeat' with_reducible first|apply af|apply ae|apply aW|apply az|apply aa|refine ah [] ?_|(apply ax;·go_simp)|(apply ab;intro X Y;go_simp;apply Y;clear Y X)
   go_simp
  ·clear HR;have HI:=Lib.hid hi;have HN:=Lib.hid h_;have HU:=Lib.hid hr;have gn:=DA r (atS s' tm) m' hn hi.len.symm (by rw [hi.len];exact hr.feed);clear hi h_ hr;unfold atS at gn;repeat' with_reducible apply af
   refine ah [] ?_;repeat' with_reducible first|apply af|apply ae|apply aw|apply aa|(apply ar;·go_simp)|(apply ab;intro X Y;go_simp;apply Y;clear Y X)
   refine ah [] ?_;repeat' with_reducible first|apply af|apply ae|apply aa|(apply ab;intro X Y;go_simp;apply Y;clear Y X)
   refine ah [] ?_;repeat' first|(with_reducible first|apply ae|apply aE|apply aa)|((with_reducible apply ab);intro X Y;go_simp;(first|(refine ⟨_,⟨gn,rfl⟩,?_⟩)|skip);apply Y;clear Y X)
   apply mz (α:=St×List Sg) [0] (fun (x:St×List Sg)=>[(7,I (di r x.1))]) (fun (x:St×List Sg)=>([some (.box [.osl 1,.osl 2,I x.1.time,.sl 4 (r.ranks.map Rk.av),I r.back,I r.ret,.osl 3]),some (.bag 62 1 false none (bA x.1.q)),some (.arr 148 3 qa (x.1.tk.map Tk.av)),some (.arr 45 3 (rP&&decide (x.2.length=m'.length)) (x.2.map Sg.av))] : Hp)) (fun (x:St×List Sg)=>Hid (Inv r x.1)∧m'.length≤x.2.length∧x.2.length+2*cA 0 x.1.q≤1000000∧Hid (∃ n,cA 0 x.1.q≤n∧cD r n x.1 x.2=(S2,M2))) (fun (x:St×List Sg)=>cA 0 x.1.q) ((⟨s'.q,s'.tk,tm⟩,m')) ⟨HI,Nat.le_refl _,hB,Lib.hid ⟨n,jq,HN.out⟩⟩
   ·(go_simp<;>exact rfl)
   ·go_simp
   rintro ⟨⟨Q,TK,t⟩,m⟩ ⟨bj,o_,ie,HE⟩ K hK;simp only at bj o_ ie HE hK ⊢;obtain ⟨n3,dQ,cN⟩:=HE.out;by_cases bT:di r ⟨Q,TK,t⟩ < 0
   ·have e:(⟨Q,TK,t⟩,m)=(S2,M2):=by
     cases n3 with
     | zero=>exact cN
     | succ n=>rw [cD,if_pos bT] at cN;exact cN
    clear hK cN HE dQ ie;injection e with e1 e2
    subst e1;subst e2;generalize di r ⟨Q,TK,t⟩=R at *;refine gV 0 6 3 rfl rfl rfl ?_;repeat' with_reducible apply af
    refine ah [] ?_;repeat' with_reducible first|apply af|apply ae|apply bU|apply bV|apply bW|apply aa|(apply ar;·go_simp)|(apply ab;intro X Y;go_simp;apply Y;clear Y X)
    refine ah [] ?_;repeat' with_reducible first|apply ae|apply az|apply aa|(apply ab;intro X Y;go_simp;apply Y;clear Y X)
    go_simp
   ·obtain ⟨k,ek,hk,hp⟩:=mu bT;have xT:k < Q.length:=by rw [bj.out.len];exact hk
    obtain ⟨f1,f2,f3⟩:=mr hp;obtain ⟨p1,p2,p3⟩:=HU.out.feedN hk f1;have cX:feedN r k < Q.length:=by rw [bj.out.len];exact p3
    have gM:=pv HU.out bj.out.len xT f1 f2;have bD:=bj.out.up HU.out xT f1 f2 f3;have dN:=bj.out.fit k xT;have mj:=HU.out.pl k hk;have gu:=D7 r ⟨Q,TK,t⟩ m qa (rP&&decide (m.length=m'.length)) k (feedN r k) xT bj.out.len.symm p1 cX (by omega) f2 (by simp only at dN ⊢;omega) (by omega);have J6:=DA r (upS r ⟨Q,TK,t⟩ k) (m++upM Q k (feedN r k)) hn (by rw [bD.len]) (by rw [bD.len];exact HU.out.feed);have fC:∃ n,cA 0 (upS r ⟨Q,TK,t⟩ k).q≤n∧cD r n (upS r ⟨Q,TK,t⟩ k) (m++upM Q k (feedN r k))=(S2,M2):=by
     cases n3 with
     | zero=>simp only at gM dQ;omega
     | succ n3=>
      rw [cD,if_neg bT,ek,Int.toNat_natCast] at cN;exact ⟨n3,by simp only at gM dQ;omega,cN⟩
    have HX:=Lib.hid fC;have lW:=Lib.hid bD;have kW:(m++upM Q k (feedN r k)).length=m.length+2:=by simp [upM]
    have J7:(rP&&decide ((m++upM Q k (feedN r k)).length=m'.length))=false:=by
     rw [kW,decide_eq_false (by omega),Bool.and_false]
    clear cN HE fC bD dN mj dQ bT bj f1 f2 f3 hp;unfold upS at *;simp only at *;generalize (rP&&decide (m.length=m'.length))=fl at *;generalize upQ Q k (feedN r k)=Q2 at *;generalize m++upM Q k (feedN r k)=M3 at *;rw [ek];unfold ct at gu;repeat' with_reducible apply af
    refine ah [] ?_;repeat' with_reducible first|apply af|apply ae|apply aw|apply aE|apply aa|(apply ax;·go_simp)|(apply ab;intro X Y;go_simp;apply Y;clear Y X)
    refine dm (bb [] 2 ⟨rfl,rfl⟩ ?_);simp only [au];repeat' with_reducible first|apply aa|(apply ab;intro X Y;go_simp;apply Y;clear Y X)
    refine dI [0,1,2,3] [0] [] [some (.box [.osl 1,.osl 2,I t,.sl 4 (r.ranks.map Rk.av),I r.back,I r.ret,.osl 3]),some (.bag 62 1 false none (bA Q2)),some (.arr 148 3 qa (TK.map Tk.av)),some (.arr 45 3 false (M3.map Sg.av))] (.tup []) rfl (by go_simp) ?_ ?_
    ·unfold dv;go_simp;refine ⟨_,_,_,gu,?_⟩;go_simp;kernel_rfl
    go_simp;apply cF;repeat' with_reducible first|apply ae|apply bc
    refine ah [] ?_;repeat' first|(with_reducible first|apply ae|apply aa)|((with_reducible apply ab);intro X Y;go_simp;(first|(refine ⟨_,⟨J6,rfl⟩,?_⟩)|skip);apply Y;clear Y X)
    refine hK _ (⟨Q2,TK,t⟩,M3) ⟨lW,by simp only;omega,by simp only;omega,HX⟩ (by simp only;omega) ?_;simp only [J7];go_simp
end Go.Proofs.YtoibondihdhnoaaGreatDoor
