/- Texts in one: Walks on a town: an event is carried out. -/
import Derived.Test.YtoibondihdhnoaaGreatDoorFRK9
import Derived.Test.YtoibondihdhnoaaGreatDoorFRK26
import Derived.Test.YtoibondihdhnoaaGreatDoorFRK27
namespace Go.Proofs.YtoibondihdhnoaaGreatDoor
open Go.RowKit
set_option maxRecDepth 100000
set_option maxHeartbeats 2000000
def fY (r:Ru) (s:St) (mv:List Sg) (n1:Bool) : Hp:=
 [some (.box [.osl 1,.osl 2,I s.time,.sl 4 (r.ranks.map Rk.av),I r.back,I r.ret,.sl 3 (mv.map Sg.av)]),some (.bag 62 1 false none (bo s.q)),some (.arr 148 3 n1 (s.tk.map Tk.av))]
theorem JY (r:Ru) (s:St) (mv:List Sg) (n1:Bool) (x:Ev) (hn:r.ranks.length≤1000000) (hc:x.car.size≤1000) (h0:¬fst [evE r x,unl (decide (s.time≤x.time)) 9]=0) :
  VH Tryz.prog 128 (fY r s mv n1) [.ref 0 0,evA x] [0] (fY r s [] n1) (I (fst [evE r x,unl (decide (s.time≤x.time)) 9])):=by
 have g1:=EJ r x hn hc;have g2:=bH (decide (s.time≤x.time)) 9;have g5:VC Tryz.prog 88 [.sl 1 ([evE r x,unl (decide (s.time≤x.time)) 9].map dN)] (I (fst [evE r x,unl (decide (s.time≤x.time)) 9])):=eX _ rfl rfl;generalize fst [evE r x,unl (decide (s.time≤x.time)) 9]=E at *;generalize unl (decide (s.time≤x.time)) 9=A1 at *;generalize evE r x=A2 at *;refine dk Tryz.func128 rfl (by kernel_rfl) rfl (fun _=>by kernel_rfl) fun M0 w0 vs=>?_;simp only [Tryz.ntmps128,Tryz.results128,aB];unfold fY;repeat' with_reducible apply af
 refine ah [] ?_;repeat' with_reducible first|apply af|apply ae|apply aa|(apply ab;intro X Y;go_simp;apply Y;clear Y X)
 refine ah [] ?_;repeat' with_reducible first|apply af|apply ae|apply aa|(apply ab;intro X Y;go_simp;apply Y;clear Y X)
 refine ir (fun p a w R=>⟨_,R.nilCell (bi:=0) (j:=6) (e:=45) (sz:=3) rfl rfl (by decide)⟩) ?_;go_simp;refine gA 0 6 3 rfl rfl rfl ?_;repeat' first|(with_reducible first|apply af|apply ae|apply aT|apply az|apply aa|refine ah [] ?_|apply aR|(apply aw;·go_simp))|((with_reducible first|apply ab|apply aS);intro X Y;go_simp;(first|(with_reducible refine ⟨_,g1,?_⟩)|(with_reducible refine ⟨_,g2,?_⟩)|(refine ⟨_,g5,?_⟩)|skip);apply Y;clear Y X)|((refine bg 18 18 [] rfl (by kernel_rfl) ?_);simp only [ax])
 go_simp
theorem EK (r:Ru) (s s' S2:St) (mv m' M2:List Sg) (n1 qh rZ:Bool) (x:Ev) (e:Int) (hn:r.ranks.length≤1000000) (hc:x.car.size≤1000) (h0:fst [evE r x,unl (decide (s.time≤x.time)) 9]=0) (kW:0≤x.kind∧x.kind≤5)
  (hd:VH Tryz.prog (224+x.kind.toNat) (ct r s [] n1 true) [.ref 0 0,evA x] [0] (ct r s' m' qh rZ) (I e))
  (hres:e≠0∧S2=s'∧M2=m'∨e=0∧RuOK r∧Inv r (atS s' x.time)∧m'.length+2*cB 0 s'.q≤1000000∧(∃ n,cB 0 s'.q≤n∧cD r n (atS s' x.time) m'=(S2,M2))) :
  VH Tryz.prog 128 (fY r s mv n1) [.ref 0 0,evA x] [0] (fY r S2 M2 qh) (I e):=by
 have g1:=EJ r x hn hc;have g2:=bH (decide (s.time≤x.time)) 9;have g5:VC Tryz.prog 88 [.sl 1 ([evE r x,unl (decide (s.time≤x.time)) 9].map dN)] (I (fst [evE r x,unl (decide (s.time≤x.time)) 9])):=eX _ rfl rfl;rw [h0] at g5;clear h0;generalize unl (decide (s.time≤x.time)) 9=A1 at *;generalize evE r x=A2 at *;obtain ⟨kd,tm,rk,car⟩:=x;simp only at kW hd g2 hres;simp only [evA] at g1 hd ⊢;have HR:=Lib.hid hres;clear hres;refine dk Tryz.func128 rfl (by kernel_rfl) rfl (fun _=>by kernel_rfl) fun M0 w0 vs=>?_;simp only [Tryz.ntmps128,Tryz.results128,aB];unfold ct at hd;unfold fY;repeat' with_reducible apply af
 refine ah [] ?_;repeat' with_reducible first|apply af|apply ae|apply aa|(apply ab;intro X Y;go_simp;apply Y;clear Y X)
 refine ah [] ?_;repeat' with_reducible first|apply af|apply ae|apply aa|(apply ab;intro X Y;go_simp;apply Y;clear Y X)
 refine ir (fun p a w R=>⟨_,R.nilCell (bi:=0) (j:=6) (e:=45) (sz:=3) rfl rfl (by decide)⟩) ?_;go_simp;refine bg 18 18 [] rfl (by kernel_rfl) ?_;simp only [ax];repeat' first|(with_reducible first|apply af|apply ae|apply aa|apply aR)|((with_reducible apply aS);intro X Y;go_simp;(first|(with_reducible refine ⟨_,g1,?_⟩)|(with_reducible refine ⟨_,g2,?_⟩)|(refine ⟨_,g5,?_⟩)|skip);apply Y;clear Y X)
 refine ah [] ?_;repeat' with_reducible first|apply af|apply ae|apply ar|apply aa|(apply ak;·go_simp)|(apply ab;intro X Y;go_simp;apply Y;clear Y X)
 refine tc ⟨[(0,.ref 0 0),(1,.agg [I kd,I tm,I rk,S car]),(3,.vp [I kd,I tm,I rk,S car]),(6,I e)],[some (.box [.osl 1,.osl 2,I s'.time,.sl 4 (r.ranks.map Rk.av),I r.back,I r.ret,.osl 3]),some (.bag 62 1 false none (bo s'.q)),some (.arr 148 3 qh (s'.tk.map Tk.av)),some (.arr 45 3 rZ (m'.map Sg.av))]⟩ (fun K hK=>?_) ?_
 ·clear HR;have rM:kd=0∨kd=1∨kd=2∨kd=3∨kd=4∨kd=5:=by omega
  refine II 7 (by kernel_rfl) (by kernel_rfl) ?_;simp only [ax];rcases rM with rfl|rfl|rfl|rfl|rfl|rfl
  all_goals
   repeat' with_reducible first|apply aR|(apply aS;intro X Y;go_simp;apply Y;clear Y X)
   refine dF [0,1,2,3] [0] [] [some (.box [.osl 1,.osl 2,I s'.time,.sl 4 (r.ranks.map Rk.av),I r.back,I r.ret,.osl 3]),some (.bag 62 1 false none (bo s'.q)),some (.arr 148 3 qh (s'.tk.map Tk.av)),some (.arr 45 3 rZ (m'.map Sg.av))] (I e) rfl (by go_simp) ?_ ?_
   ·unfold dx;go_simp;refine ⟨_,_,_,hd,?_⟩;go_simp;kernel_rfl
   go_simp;refine bz [] 1 ⟨rfl,rfl⟩ ?_;simp only [ax];repeat' with_reducible first|apply aa|(apply ab;intro X Y;go_simp;apply Y;clear Y X)
   apply cR;refine hK _ ?_;go_simp
 ·clear hd;rcases HR.out with ⟨he,rfl,rfl⟩|⟨rfl,hr,hi,hB,⟨n,jz,ji⟩⟩
  ·clear HR;refine gA 0 6 3 rfl rfl rfl ?_;repeat' with_reducible first|apply af|apply ae|apply aT|apply az|apply aa|refine ah [] ?_|(apply aw;·go_simp)|(apply ab;intro X Y;go_simp;apply Y;clear Y X)
   go_simp
  ·clear HR;have HI:=Lib.hid hi;have HN:=Lib.hid ji;have HU:=Lib.hid hr;have gn:=zJ r (atS s' tm) m' hn hi.len.symm (by rw [hi.len];exact hr.feed);clear hi ji hr;unfold atS at gn;repeat' with_reducible apply af
   refine ah [] ?_;repeat' with_reducible first|apply af|apply ae|apply ar|apply aa|(apply ak;·go_simp)|(apply ab;intro X Y;go_simp;apply Y;clear Y X)
   refine ah [] ?_;repeat' with_reducible first|apply af|apply ae|apply aa|(apply ab;intro X Y;go_simp;apply Y;clear Y X)
   refine ah [] ?_;repeat' first|(with_reducible first|apply ae|apply aA|apply aa)|((with_reducible apply ab);intro X Y;go_simp;(first|(refine ⟨_,⟨gn,rfl⟩,?_⟩)|skip);apply Y;clear Y X)
   apply nB (α:=St×List Sg) [0] (fun (x:St×List Sg)=>[(7,I (cO r x.1))]) (fun (x:St×List Sg)=>([some (.box [.osl 1,.osl 2,I x.1.time,.sl 4 (r.ranks.map Rk.av),I r.back,I r.ret,.osl 3]),some (.bag 62 1 false none (bo x.1.q)),some (.arr 148 3 qh (x.1.tk.map Tk.av)),some (.arr 45 3 (rZ&&decide (x.2.length=m'.length)) (x.2.map Sg.av))] : Hp)) (fun (x:St×List Sg)=>Hid (Inv r x.1)∧m'.length≤x.2.length∧x.2.length+2*cB 0 x.1.q≤1000000∧Hid (∃ n,cB 0 x.1.q≤n∧cD r n x.1 x.2=(S2,M2))) (fun (x:St×List Sg)=>cB 0 x.1.q) ((⟨s'.q,s'.tk,tm⟩,m')) ⟨HI,Nat.le_refl _,hB,Lib.hid ⟨n,jz,HN.out⟩⟩
   ·(go_simp<;>exact rfl)
   ·go_simp
   rintro ⟨⟨Q,TK,t⟩,m⟩ ⟨bx,pn,iv,HE⟩ K hK;simp only at bx pn iv HE hK ⊢;obtain ⟨n3,ea,cT⟩:=HE.out;by_cases bZ:cO r ⟨Q,TK,t⟩ < 0
   ·have e:(⟨Q,TK,t⟩,m)=(S2,M2):=by
     cases n3 with
     | zero=>exact cT
     | succ n=>rw [cD,if_pos bZ] at cT;exact cT
    clear hK cT HE ea iv;injection e with e1 e2
    subst e1;subst e2;generalize cO r ⟨Q,TK,t⟩=R at *;refine gA 0 6 3 rfl rfl rfl ?_;repeat' with_reducible apply af
    refine ah [] ?_;repeat' with_reducible first|apply af|apply ae|apply bP|apply bQ|apply bT|apply aa|(apply ak;·go_simp)|(apply ab;intro X Y;go_simp;apply Y;clear Y X)
    refine ah [] ?_;repeat' with_reducible first|apply ae|apply az|apply aa|(apply ab;intro X Y;go_simp;apply Y;clear Y X)
    go_simp
   ·obtain ⟨k,ek,hk,hp⟩:=nz bZ;have x9:k < Q.length:=by rw [bx.out.len];exact hk
    obtain ⟨f1,f2,f3⟩:=ny hp;obtain ⟨p1,p2,p3⟩:=HU.out.feedN hk f1;have dh:feedN r k < Q.length:=by rw [bx.out.len];exact p3
    have gX:=pD HU.out bx.out.len x9 f1 f2;have bV:=bx.out.up HU.out x9 f1 f2 f3;have dV:=bx.out.fit k x9;have gp:=HU.out.pl k hk;have gu:=DZ r ⟨Q,TK,t⟩ m qh (rZ&&decide (m.length=m'.length)) k (feedN r k) x9 bx.out.len.symm p1 dh (by omega) f2 (by simp only at dV ⊢;omega) (by omega);have JZ:=zJ r (upS r ⟨Q,TK,t⟩ k) (m++upM Q k (feedN r k)) hn (by rw [bV.len]) (by rw [bV.len];exact HU.out.feed);have gB:∃ n,cB 0 (upS r ⟨Q,TK,t⟩ k).q≤n∧cD r n (upS r ⟨Q,TK,t⟩ k) (m++upM Q k (feedN r k))=(S2,M2):=by
     cases n3 with
     | zero=>simp only at gX ea;omega
     | succ n3=>
      rw [cD,if_neg bZ,ek,Int.toNat_natCast] at cT;exact ⟨n3,by simp only at gX ea;omega,cT⟩
    have HX:=Lib.hid gB;have lX:=Lib.hid bV;have kX:(m++upM Q k (feedN r k)).length=m.length+2:=by simp [upM]
    have J0:(rZ&&decide ((m++upM Q k (feedN r k)).length=m'.length))=false:=by
     rw [kX,decide_eq_false (by omega),Bool.and_false]
    clear cT HE gB bV dV gp ea bZ bx f1 f2 f3 hp;unfold upS at *;simp only at *;generalize (rZ&&decide (m.length=m'.length))=fl at *;generalize upQ Q k (feedN r k)=Q2 at *;generalize m++upM Q k (feedN r k)=M3 at *;rw [ek];unfold ct at gu;repeat' with_reducible apply af
    refine ah [] ?_;repeat' with_reducible first|apply af|apply ae|apply ar|apply aA|apply aa|(apply aw;·go_simp)|(apply ab;intro X Y;go_simp;apply Y;clear Y X)
    refine dB (bz [] 2 ⟨rfl,rfl⟩ ?_);simp only [ax];repeat' with_reducible first|apply aa|(apply ab;intro X Y;go_simp;apply Y;clear Y X)
    refine dF [0,1,2,3] [0] [] [some (.box [.osl 1,.osl 2,I t,.sl 4 (r.ranks.map Rk.av),I r.back,I r.ret,.osl 3]),some (.bag 62 1 false none (bo Q2)),some (.arr 148 3 qh (TK.map Tk.av)),some (.arr 45 3 false (M3.map Sg.av))] (.tup []) rfl (by go_simp) ?_ ?_
    ·unfold dx;go_simp;refine ⟨_,_,_,gu,?_⟩;go_simp;kernel_rfl
    go_simp;apply cR;repeat' with_reducible first|apply ae|apply bf
    refine ah [] ?_;repeat' first|(with_reducible first|apply ae|apply aa)|((with_reducible apply ab);intro X Y;go_simp;(first|(refine ⟨_,⟨JZ,rfl⟩,?_⟩)|skip);apply Y;clear Y X)
    refine hK _ (⟨Q2,TK,t⟩,M3) ⟨lX,by simp only;omega,by simp only;omega,HX⟩ (by simp only;omega) ?_;simp only [J0];go_simp
end Go.Proofs.YtoibondihdhnoaaGreatDoor
