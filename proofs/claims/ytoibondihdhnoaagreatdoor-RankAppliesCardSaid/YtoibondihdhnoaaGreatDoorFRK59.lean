/- Texts in one: Walks: a state is opened as a town. -/
import Derived.Test.YtoibondihdhnoaaGreatDoorFRK9
import Derived.Test.YtoibondihdhnoaaGreatDoorFRK48
import Derived.Test.YtoibondihdhnoaaGreatDoorFRK53
import Derived.Test.YtoibondihdhnoaaGreatDoorFRK58
import Derived.Test.YtoibondihdhnoaaGreatDoorFRK29
import Derived.Test.YtoibondihdhnoaaGreatDoorFRK30
namespace Go.Proofs.YtoibondihdhnoaaGreatDoor
open Go.RowKit
set_option maxRecDepth 100000
set_option maxHeartbeats 4000000
def opQ (s:St) (k:Nat) : List (List ByteArray):=s.q.take k++List.replicate (s.q.length - k) []
theorem OL (s:St) : opQ s 0=List.replicate s.q.length []:=by simp [opQ]
theorem OM (s:St) : opQ s s.q.length=s.q:=by simp [opQ]
theorem ON {s:St} {k:Nat} (h:k≤s.q.length) : (opQ s k).length=s.q.length:=by
 unfold opQ;rw [List.length_append,List.length_take,List.length_replicate];omega
theorem OO {s:St} {k:Nat} (h:k < s.q.length) : (opQ s k).set k (qat s.q k)=opQ s (k+1):=by
 unfold opQ;have e:s.q.length - k=(s.q.length - (k+1))+1:=by omega
 rw [e,List.replicate_succ,List.set_append_right _ _ (by rw [List.length_take];omega),lA h,eM h];have e2:k - (s.q.take k).length=0:=by rw [List.length_take];omega
 rw [e2,List.set_cons_zero,List.append_assoc];rfl
theorem OP (r:Ru) (s:St) (hn:r.ranks.length≤1000000) (ch:∀ k,k < r.ranks.length→(rat r.ranks k).name.size≤1000) (hs:SmallS s) (h:ckE r s≠0) : VC Tryz.prog 127 [b8 r,da s] (.tup [.lit (.pointer none),I (ckE r s)]):=by
 have g:=Gv r s hn ch hs;clear ch hs;generalize ckE r s=E at *;refine aQ Tryz.func127 rfl (by kernel_rfl) rfl fun M0 w0=>?_;simp only [Tryz.ntmps127,Tryz.results127,aB];repeat' first|(with_reducible first|apply af|apply ae|apply aT|apply az|apply aa|refine ah [] ?_|(apply aw;·go_simp))|((with_reducible apply ab);intro X Y;go_simp;(first|(refine ⟨_,g,?_⟩)|skip);apply Y;clear Y X)
 go_simp
def CV (r:Ru) (s:St) : Hp:=
 [some (.bag 62 1 false none (bo s.q)),some (.box [.osl 0,.osl 4,I s.time,.sl 4 (r.ranks.map Rk.av),I r.back,I r.ret,.osl 3]),some (.arr 148 3 true []),some (.arr 45 3 true []),some (.arr 148 3 (decide (s.tk.map Tk.av=[])) (s.tk.map Tk.av))]
theorem OQ (r:Ru) (s:St) (hn:r.ranks.length≤1000000) (ch:∀ k,k < r.ranks.length→(rat r.ranks k).name.size≤1000) (hs:SmallS s) (h:ckE r s=0) (hq:s.q.length=r.ranks.length) : VH Tryz.prog 127 [] [b8 r,da s] [] (CV r s) (.tup [.ref 1 0,I 0]):=by
 have g:=Gv r s hn ch hs;have e0:(st0 r).q=opQ s 0:=by rw [OL,hq];rfl
 have gw:VH Tryz.prog 100 [] [b8 r] [] [some (.bag 62 1 false none (bo (opQ s 0))),some (.box [.osl 0,.osl 2,I 0,.sl 4 (r.ranks.map Rk.av),I r.back,I r.ret,.osl 3]),some (.arr 148 3 true []),some (.arr 45 3 true [])] (.ref 1 0):=by
  have:=yk r hn;unfold mG at this;rw [e0] at this;exact this
 have oZ:=hs.q1;have vQ:=hs.nt;have HQ:=Lib.hid oZ;have El:=hs.nq;rw [h] at g;clear ch hs h e0 oZ hq;unfold CV;refine dk Tryz.func127 rfl (by kernel_rfl) rfl (fun _=>by kernel_rfl) fun M0 w0 vs=>?_;simp only [Tryz.ntmps127,Tryz.results127,aB];repeat' with_reducible apply af
 refine ah [] ?_;repeat' with_reducible first|apply af|apply ae|apply aa|(apply ab;intro X Y;go_simp;apply Y;clear Y X)
 refine ah [] ?_;repeat' first|(with_reducible first|apply af|apply ae|apply aa)|((with_reducible apply ab);intro X Y;go_simp;(first|(refine ⟨_,g,?_⟩)|skip);apply Y;clear Y X)
 refine ah [] ?_;repeat' with_reducible first|apply af|apply ae|apply ar|apply aa|(apply ak;·go_simp)|(apply ab;intro X Y;go_simp;apply Y;clear Y X)
 refine dB (bz [] 1 ⟨rfl,rfl⟩ ?_);simp only [ax];repeat' with_reducible first|apply aa|(apply ab;intro X Y;go_simp;apply Y;clear Y X)
 refine dF [] [] [] [some (.bag 62 1 false none (bo (opQ s 0))),some (.box [.osl 0,.osl 2,I 0,.sl 4 (r.ranks.map Rk.av),I r.back,I r.ret,.osl 3]),some (.arr 148 3 true []),some (.arr 45 3 true [])] (.ref 1 0) rfl (by go_simp) ?_ ?_
 ·unfold dx;go_simp;refine ⟨_,_,⟨_,gw⟩,?_⟩;go_simp;kernel_rfl
 go_simp;refine bz [] 1 ⟨rfl,rfl⟩ ?_;simp only [ax];repeat' with_reducible first|apply aa|(apply ab;intro X Y;go_simp;apply Y;clear Y X)
 apply cR;repeat' with_reducible first|apply af|apply ae
 refine ah [] ?_;repeat' with_reducible first|apply ae|apply aA|apply aa|(apply ab;intro X Y;go_simp;apply Y;clear Y X)
 apply mu [3,7,19,20] (fun k=>[(21,I k)]) (fun k=>([some (.bag 62 1 false none (bo (opQ s k))),some (.box [.osl 0,.osl 2,I 0,.sl 4 (r.ranks.map Rk.av),I r.back,I r.ret,.osl 3]),some (.arr 148 3 true []),some (.arr 45 3 true [])] : Hp))  (s.q.length)
 ·go_simp<;>exact rfl
 ·go_simp
 ·intro k hk K hK;obtain ⟨w1,w2,w3,w4,w5,w6⟩:=ixs (m:=k) (by omega);have hl:=ON (s:=s) (k:=k) (by omega);have hs:=OO hk;have cF:(qat s.q k).length≤300:=by rw [eM hk];exact (HQ.out _ (List.getElem_mem hk)).1
  repeat' with_reducible apply af
  refine ah [] ?_;repeat' with_reducible first|apply af|apply ae|apply ar|apply aA|apply aa|(apply aw;·go_simp)|(apply ab;intro X Y;go_simp;apply Y;clear Y X)
  refine ah [] ?_;repeat' with_reducible first|apply ae|apply aa|(apply ab;intro X Y;go_simp;apply Y;clear Y X)
  refine mZ 7 [7,26,26,27,27,28,28,29,29,30,8,31] (by kernel_rfl) (by kernel_rfl) (by kernel_rfl) (fun v=>v) uM rfl ⟨rfl,rfl⟩ ?_;simp only [List.take];repeat' with_reducible first|apply aR|(apply aS;intro X Y;go_simp;apply Y;clear Y X)
  refine ⟨_,_,ta (by exact rfl) (by exact rfl) (by go_simp;exact I5 _ (fun i x hx=>TxO.map _ x (List.mem_of_getElem? hx)) (by rw [List.length_map];omega)) (by go_simp),?_,?_,?_⟩
  ·simp only [List.forall_mem_cons];go_simp
  ·repeat' with_reducible first|apply aR|(apply aS;intro X Y;go_simp;apply Y;clear Y X)
   simp only [List.forall_mem_cons];go_simp
  go_simp;refine bz [] 2 ⟨rfl,rfl⟩ ?_;simp only [ax];repeat' with_reducible first|apply aa|(apply ab;intro X Y;go_simp;apply Y;clear Y X)
  apply cR;repeat' with_reducible first|apply ae|apply bf
  refine ah [] ?_;repeat' with_reducible first|apply ae|apply aa|(apply ab;intro X Y;go_simp;apply Y;clear Y X)
  refine hK _ ?_;rw [←hs,←lk];go_simp
 ·intro K;rw [OM];have gk:=I8 (s.tk.map Tk.av) (fun k x hk=>by
   obtain ⟨y,_,rfl⟩:=dT hk;refine ⟨rfl,fun c hc=>?_⟩;simp only [Tk.av,List.mem_cons,List.not_mem_nil,or_false] at hc;rcases hc with rfl|rfl|rfl<;>rfl) (by rw [List.length_map];omega)
  repeat' with_reducible apply af
  refine ah [] ?_;repeat' with_reducible first|apply af|apply ae|apply bP|apply bQ|apply bT|apply aa|(apply ak;·go_simp)|(apply ab;intro X Y;go_simp;apply Y;clear Y X)
  refine OE 10 4 [6] [] gk (by kernel_rfl) (by kernel_rfl) (by decide) (by kernel_rfl) rfl ⟨rfl,rfl⟩ rfl rfl ⟨rfl,rfl,rfl⟩ ?_;simp only [ax];repeat (first|(refine fb rfl ?_)|((with_reducible refine fc rfl fun X Y=>?_);go_simp;refine Y _ (by go_simp) ?_;clear Y X)|(with_reducible apply fe))
  refine ⟨by go_simp,by go_simp,_,(by go_simp;rfl),?_,?_,?_⟩
  ·unfold p6 p6;go_simp;done
  ·unfold p6 p6;go_simp;done
  repeat ((with_reducible refine ab fun X Y=>?_);go_simp;refine Y _ ?_;clear Y X)
  apply aa;repeat' with_reducible first|apply af|apply ae
  refine ah [] ?_;repeat' with_reducible first|apply ae|apply az|apply aa|(apply ab;intro X Y;go_simp;apply Y;clear Y X)
  go_simp
theorem OR (r:Ru) (s:St) (x:Ev) (hn:r.ranks.length≤1000000) (ch:∀ k,k < r.ranks.length→(rat r.ranks k).name.size≤1000) (hs:SmallS s) (h:ckE r s≠0) : VC Tryz.prog 66 [b8 r,da s,evA x] (.tup [.agg [aW,aW,I 0],I (ckE r s)]):=by
 have g:=OP r s hn ch hs h;clear ch hs;generalize ckE r s=E at *;refine aQ Tryz.func66 rfl (by kernel_rfl) rfl fun M0 w0=>?_;simp only [Tryz.ntmps66,Tryz.results66,aB];repeat' first|(with_reducible first|apply af|apply ae|apply aT|apply az|apply ar|apply aa|refine ah [] ?_|(apply aw;·go_simp)|(apply ak;·go_simp))|((with_reducible apply ab);intro X Y;go_simp;(first|(refine ⟨_,g,?_⟩)|skip);apply Y;clear Y X)
 go_simp
theorem OS (r:Ru) (s:St) (x:Ev) (hr:RuOK r) (hi:Inv r s) (hn:r.ranks.length≤1000000) (ch:∀ k,k < r.ranks.length→(rat r.ranks k).name.size≤1000) (hs:SmallS s) (h:ckE r s=0) (hc:x.car.size≤1000) : VC Tryz.prog 66 [b8 r,da s,evA x] (if apE r s x=0 then .tup [da (apU r s x).1,I 0] else .tup [.agg [aW,aW,I 0],I (apE r s x)]):=by
 have gw:=OQ r s hn ch hs h hi.len;unfold CV at gw;obtain ⟨a,wa⟩:=EN r s [] (decide (s.tk.map Tk.av=[])) x hr hi hc;have hZ:apE r s x=0→(apR r s x).1=(apU r s x).1:=fun h0=>by
  unfold apR;rw [if_pos h0]
 have HZ:=Lib.hid hZ;unfold fY at wa;generalize decide (s.tk.map Tk.av=[])=F at gw wa;clear hr hi ch hs h hZ;generalize (apR r s x).1=Z at *;generalize (apR r s x).2=mz at *;generalize (apU r s x).1=U at *;generalize apE r s x=E at *;obtain ⟨res,hres⟩ : ∃ res,(if E=0 then AV.tup [da U,I 0] else .tup [.agg [aW,aW,I 0],I E])=res:=⟨_,rfl⟩
 rw [hres];have HR:=Lib.hid hres;clear hres;refine aQ Tryz.func66 rfl (by kernel_rfl) rfl fun M0 w0=>?_;simp only [Tryz.ntmps66,Tryz.results66,aB];repeat' with_reducible apply af
 refine ah [] ?_;repeat' with_reducible first|apply af|apply ae|apply aa|(apply ab;intro X Y;go_simp;apply Y;clear Y X)
 refine dB (bz [] 2 ⟨rfl,rfl⟩ ?_);simp only [ax];repeat' with_reducible first|apply aa|(apply ab;intro X Y;go_simp;apply Y;clear Y X)
 refine dF [] [] [] [some (.bag 62 1 false none (bo s.q)),some (.box [.osl 0,.osl 4,I s.time,.sl 4 (r.ranks.map Rk.av),I r.back,I r.ret,.osl 3]),some (.arr 148 3 true []),some (.arr 45 3 true []),some (.arr 148 3 F (s.tk.map Tk.av))] (.tup [.ref 1 0,I 0]) rfl (by go_simp) ?_ ?_
 ·unfold dx;go_simp;refine ⟨_,_,⟨_,gw⟩,?_⟩;go_simp;kernel_rfl
 go_simp;refine bz [] 5 ⟨rfl,rfl⟩ ?_;simp only [ax];repeat' with_reducible first|apply aa|(apply ab;intro X Y;go_simp;apply Y;clear Y X)
 apply cR;refine gA 2 6 4 rfl rfl rfl ?_;repeat' with_reducible apply af
 refine ah [] ?_;repeat' with_reducible first|apply ae|apply aa|(apply aw;·go_simp)|(apply ab;intro X Y;go_simp;apply Y;clear Y X)
 refine dB (bz [] 2 ⟨rfl,rfl⟩ ?_);simp only [ax];repeat' with_reducible first|apply aa|(apply ab;intro X Y;go_simp;apply Y;clear Y X)
 refine dF [2,1,5] [2] [] [some (.box [.osl 1,.osl 2,I Z.time,.sl 4 (r.ranks.map Rk.av),I r.back,I r.ret,.sl 3 (mz.map Sg.av)]),some (.bag 62 1 false none (bo Z.q)),some (.arr 148 3 a (Z.tk.map Tk.av))] (I E) rfl (by go_simp) ?_ ?_
 ·unfold dx;go_simp;refine ⟨_,_,_,wa,?_⟩;go_simp;kernel_rfl
 go_simp;refine bz [] 1 ⟨rfl,rfl⟩ ?_;simp only [ax];repeat' with_reducible first|apply aa|(apply ab;intro X Y;go_simp;apply Y;clear Y X)
 apply cR;repeat' with_reducible first|apply af|apply ae
 by_cases he:E=0
 ·have e:=HR.out;rw [if_pos he] at e;have hz:=HZ.out he;subst he e hz;refine ah [] ?_;repeat' with_reducible first|apply af|apply ae|apply ar|apply aa|(apply ak;·go_simp)|(apply ab;intro X Y;go_simp;apply Y;clear Y X)
  refine ah [] ?_;repeat ((with_reducible refine ab fun X Y=>?_);go_simp;refine Y _ ?_;clear Y X)
  apply aa;apply ae;refine ir (fun p a w R=>R.bagArr (id:=1) rfl (by kernel_rfl)) ?_;go_simp;refine gA 0 0 1 rfl rfl rfl ?_;refine gA 0 1 5 rfl rfl rfl ?_;repeat' with_reducible apply az
  go_simp
 ·have e:=HR.out;rw [if_neg he] at e;subst e;refine ah [] ?_;repeat' with_reducible first|apply af|apply ae|apply aa|(apply aw;·go_simp)|(apply ab;intro X Y;go_simp;apply Y;clear Y X)
  refine ah [] ?_;repeat' with_reducible first|apply ae|apply aT|apply az|apply aa|(apply ab;intro X Y;go_simp;apply Y;clear Y X)
  go_simp
end Go.Proofs.YtoibondihdhnoaaGreatDoor
