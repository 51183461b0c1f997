/- Texts in one: Walks: a state is opened as a town. -/
import Derived.Test.YtoibondihdhnoaaGreatDoorFRM47
import Derived.Test.YtoibondihdhnoaaGreatDoorFRM52
import Derived.Test.YtoibondihdhnoaaGreatDoorFRM53
import Derived.Test.YtoibondihdhnoaaGreatDoorFRM28
import Derived.Test.YtoibondihdhnoaaGreatDoorFRM29
import Derived.Test.YtoibondihdhnoaaGreatDoorFRM50
namespace Go.Proofs.YtoibondihdhnoaaGreatDoor
open Go.RowKit
set_option maxRecDepth 100000
set_option maxHeartbeats 4000000
def opQ (s:St) (k:Nat) : List (List ByteArray):=s.q.take k++List.replicate (s.q.length - k) []
theorem d2o (s:St) : opQ s 0=List.replicate s.q.length []:=by simp [opQ]
theorem c7w (s:St) : opQ s s.q.length=s.q:=by simp [opQ]
theorem c7x {s:St} {k:Nat} (h:k≤s.q.length) : (opQ s k).length=s.q.length:=by
 unfold opQ;rw [List.length_append,List.length_take,List.length_replicate];omega
theorem c7y {s:St} {k:Nat} (h:k < s.q.length) : (opQ s k).set k (qat s.q k)=opQ s (k+1):=by
 unfold opQ;have e:s.q.length - k=(s.q.length - (k+1))+1:=by omega
 rw [e,List.replicate_succ,List.set_append_right _ _ (by rw [List.length_take];omega),l8_ h,f9_ h];have e2:k - (s.q.take k).length=0:=by rw [List.length_take];omega
 rw [e2,List.set_cons_zero,List.append_assoc];rfl
def c7z (r:Ru) (s:St) : Hp:=
 [some (.bag 62 1 false none (e9_ s.q)),some (.box [.osl 0,.osl 4,I s.time,.sl 4 (r.ranks.map Rk.av),I r.back,I r.ret,.osl 3]),some (.arr 148 3 true []),some (.arr 45 3 true []),some (.arr 148 3 (decide (s.tk.map Tk.av=[])) (s.tk.map Tk.av))]
theorem d0u (r:Ru) (s:St) (hn:r.ranks.length≤1000000) (hnm:∀ k,k < r.ranks.length→(rat r.ranks k).name.size≤1000) (hs:SmallS s) (h:ckE r s=0) (hq:s.q.length=r.ranks.length) : VH Tryz.prog 127 [] [c6_ r,f0_ s] [] (c7z r s) (.tup [.ref 1 0,I 0]):=by
 have g:=x1_ r s hn hnm hs;have e0:(st0 r).q=opQ s 0:=by rw [d2o,hq];rfl
 have gw:VH Tryz.prog 100 [] [c6_ r] [] [some (.bag 62 1 false none (e9_ (opQ s 0))),some (.box [.osl 0,.osl 2,I 0,.sl 4 (r.ranks.map Rk.av),I r.back,I r.ret,.osl 3]),some (.arr 148 3 true []),some (.arr 45 3 true [])] (.ref 1 0):=by
  have:=a6s r hn;unfold a2o at this;rw [e0] at this;exact this
 have hq1:=hs.q1;have hnt:=hs.nt;have HQ:=Lib.hid hq1;have hqn:=hs.nq;rw [h] at g;clear hnm hs h e0 hq1 hq;unfold c7z;refine g6_ Tryz.func127 rfl (by kernel_rfl) rfl (fun _=>by kernel_rfl) fun M0 w0 vs=>?_;simp only [Tryz.ntmps127,Tryz.results127,b4_];repeat' with_reducible apply a9_
 refine a2_ [] ?_;repeat' first|(with_reducible first|apply a9_|apply a3_|apply a1_)|((with_reducible refine a0_ fun X Y=>?_);go_simp;refine Y _ ?_;clear Y X)
 refine a2_ [] ?_;repeat' first|(with_reducible first|apply a9_|apply a3_|apply a1_)|((with_reducible refine a0_ fun X Y=>?_);go_simp;(first|(refine ⟨_,g,?_⟩)|skip);refine Y _ ?_;clear Y X)
 refine a2_ [] ?_;repeat' first|(with_reducible first|apply a9_|apply a3_|apply b0_|apply a1_)|((with_reducible refine a6_ ?_ ?_);(focus (go_simp;done)))|((with_reducible refine a0_ fun X Y=>?_);go_simp;refine Y _ ?_;clear Y X)
 refine c7_ (c2_ [] 1 ⟨rfl,rfl⟩ ?_);simp only [List.take,List.drop];repeat' first|with_reducible apply a1_|((with_reducible refine a0_ fun X Y=>?_);go_simp;refine Y _ ?_;clear Y X)
 refine d8_ [] [] [] [some (.bag 62 1 false none (e9_ (opQ s 0))),some (.box [.osl 0,.osl 2,I 0,.sl 4 (r.ranks.map Rk.av),I r.back,I r.ret,.osl 3]),some (.arr 148 3 true []),some (.arr 45 3 true [])] (.ref 1 0) rfl (by go_simp) ?_ ?_
 ·unfold i6_;go_simp;refine ⟨_,_,⟨_,gw⟩,?_⟩;go_simp;kernel_rfl
 go_simp;refine c2_ [] 1 ⟨rfl,rfl⟩ ?_;simp only [List.take,List.drop];repeat' first|with_reducible apply a1_|((with_reducible refine a0_ fun X Y=>?_);go_simp;refine Y _ ?_;clear Y X)
 apply d7_;repeat' with_reducible first|apply a9_|apply a3_
 refine a2_ [] ?_;repeat' first|(with_reducible first|apply a3_|apply a8_|apply a1_)|((with_reducible refine a0_ fun X Y=>?_);go_simp;refine Y _ ?_;clear Y X)
 apply b6p [3,7,19,20] (fun k=>[(21,I k)]) (fun k=>([some (.bag 62 1 false none (e9_ (opQ s k))),some (.box [.osl 0,.osl 2,I 0,.sl 4 (r.ranks.map Rk.av),I r.back,I r.ret,.osl 3]),some (.arr 148 3 true []),some (.arr 45 3 true [])] : Hp))  (s.q.length)
 ·go_simp<;>exact rfl
 ·go_simp
 ·intro k hk K hK;obtain ⟨w1,w2,w3,w4,w5,w6⟩:=ixs (m:=k) (by omega);have hl:=c7x (s:=s) (k:=k) (by omega);have hs:=c7y hk;have hkl:(qat s.q k).length≤300:=by rw [f9_ hk];exact (HQ.out _ (List.getElem_mem hk)).1
  repeat' with_reducible apply a9_
  refine a2_ [] ?_;repeat' first|(with_reducible first|apply a9_|apply a3_|apply b0_|apply a8_|apply a1_)|((with_reducible refine a7_ ?_ ?_);(focus (go_simp;done)))|((with_reducible refine a0_ fun X Y=>?_);go_simp;refine Y _ ?_;clear Y X)
  refine a2_ [] ?_;repeat' first|(with_reducible first|apply a3_|apply a1_)|((with_reducible refine a0_ fun X Y=>?_);go_simp;refine Y _ ?_;clear Y X)
  refine z1_ 7 [7,26,26,27,27,28,28,29,29,30,8,31] (by kernel_rfl) (by kernel_rfl) (by kernel_rfl) (fun v=>v) a0n rfl ⟨rfl,rfl⟩ ?_;simp only [List.take];repeat' first|with_reducible apply a5_|((with_reducible refine a4_ fun X Y=>?_);go_simp;refine Y _ ?_;clear Y X)
  refine ⟨_,_,a5a (by exact rfl) (by exact rfl) (by go_simp;exact c2i _ (fun i x hx=>TxO.map _ x (List.mem_of_getElem? hx)) (by rw [List.length_map];omega)) (by go_simp),?_,?_,?_⟩
  ·simp only [List.forall_mem_cons];go_simp
  ·repeat' first|with_reducible apply a5_|((with_reducible refine a4_ fun X Y=>?_);go_simp;refine Y _ ?_;clear Y X)
   simp only [List.forall_mem_cons];go_simp
  go_simp;refine c2_ [] 2 ⟨rfl,rfl⟩ ?_;simp only [List.take,List.drop];repeat' first|with_reducible apply a1_|((with_reducible refine a0_ fun X Y=>?_);go_simp;refine Y _ ?_;clear Y X)
  apply d7_;repeat' with_reducible first|apply a3_|apply b2_
  refine a2_ [] ?_;repeat' first|(with_reducible first|apply a3_|apply a1_)|((with_reducible refine a0_ fun X Y=>?_);go_simp;refine Y _ ?_;clear Y X)
  refine hK _ ?_;rw [←hs,←i7_];go_simp
 ·intro K;rw [c7w];have gk:=c2j (s.tk.map Tk.av) (fun k x hk=>by
   obtain ⟨y,_,rfl⟩:=f2_ hk;refine ⟨rfl,fun c hc=>?_⟩;simp only [Tk.av,List.mem_cons,List.not_mem_nil,or_false] at hc;rcases hc with rfl|rfl|rfl<;>rfl) (by rw [List.length_map];omega)
  repeat' with_reducible apply a9_
  refine a2_ [] ?_;repeat' first|(with_reducible first|apply a9_|apply a3_|apply c4_|apply e1_|apply b7_|apply a1_)|((with_reducible refine a6_ ?_ ?_);(focus (go_simp;done)))|((with_reducible refine a0_ fun X Y=>?_);go_simp;refine Y _ ?_;clear Y X)
  refine c7v 10 4 [6] [] gk (by kernel_rfl) (by kernel_rfl) (by decide) (by kernel_rfl) rfl ⟨rfl,rfl⟩ rfl rfl ⟨rfl,rfl,rfl⟩ ?_;simp only [List.take,List.drop];repeat (first|(refine d0_ rfl ?_)|((with_reducible refine d1_ rfl fun X Y=>?_);go_simp;refine Y _ (by go_simp) ?_;clear Y X)|(with_reducible apply e7_))
  refine ⟨by go_simp,by go_simp,_,(by go_simp;rfl),?_,?_,?_⟩
  ·unfold a7x a7x;go_simp;done
  ·unfold a7x a7x;go_simp;done
  repeat ((with_reducible refine a0_ fun X Y=>?_);go_simp;refine Y _ ?_;clear Y X)
  apply a1_;repeat' with_reducible first|apply a9_|apply a3_
  refine a2_ [] ?_;repeat' first|(with_reducible first|apply a3_|apply c0_|apply a1_)|((with_reducible refine a0_ fun X Y=>?_);go_simp;refine Y _ ?_;clear Y X)
  go_simp
theorem b4c (r:Ru) (s:St) (x:Ev) (hr:RuOK r) (hi:Inv r s) (hn:r.ranks.length≤1000000) (hnm:∀ k,k < r.ranks.length→(rat r.ranks k).name.size≤1000) (hs:SmallS s) (h:ckE r s=0) (hc:x.car.size≤1000) : VC Tryz.prog 66 [c6_ r,f0_ s,evA x] (if apE r s x=0 then .tup [f0_ (apU r s x).1,I 0] else .tup [.agg [o6_,o6_,I 0],I (apE r s x)]):=by
 have gw:=d0u r s hn hnm hs h hi.len;unfold c7z at gw;obtain ⟨a,wa⟩:=b7w r s [] (decide (s.tk.map Tk.av=[])) x hr hi hc;have hZ:apE r s x=0→(apR r s x).1=(apU r s x).1:=fun h0=>by
  unfold apR;rw [if_pos h0]
 have HZ:=Lib.hid hZ;unfold m9_ at wa;generalize decide (s.tk.map Tk.av=[])=F at gw wa;clear hr hi hnm hs h hZ;generalize (apR r s x).1=Z at *;generalize (apR r s x).2=mz at *;generalize (apU r s x).1=U at *;generalize apE r s x=E at *;obtain ⟨res,hres⟩ : ∃ res,(if E=0 then AV.tup [f0_ U,I 0] else .tup [.agg [o6_,o6_,I 0],I E])=res:=⟨_,rfl⟩
 rw [hres];have HR:=Lib.hid hres;clear hres;refine b8_ Tryz.func66 rfl (by kernel_rfl) (by kernel_rfl) rfl fun M0 w0=>?_;simp only [Tryz.ntmps66,Tryz.results66,b4_];repeat' with_reducible apply a9_
 refine a2_ [] ?_;repeat' first|(with_reducible first|apply a9_|apply a3_|apply a1_)|((with_reducible refine a0_ fun X Y=>?_);go_simp;refine Y _ ?_;clear Y X)
 refine c7_ (c2_ [] 2 ⟨rfl,rfl⟩ ?_);simp only [List.take,List.drop];repeat' first|with_reducible apply a1_|((with_reducible refine a0_ fun X Y=>?_);go_simp;refine Y _ ?_;clear Y X)
 refine d8_ [] [] [] [some (.bag 62 1 false none (e9_ s.q)),some (.box [.osl 0,.osl 4,I s.time,.sl 4 (r.ranks.map Rk.av),I r.back,I r.ret,.osl 3]),some (.arr 148 3 true []),some (.arr 45 3 true []),some (.arr 148 3 F (s.tk.map Tk.av))] (.tup [.ref 1 0,I 0]) rfl (by go_simp) ?_ ?_
 ·unfold i6_;go_simp;refine ⟨_,_,⟨_,gw⟩,?_⟩;go_simp;kernel_rfl
 go_simp;refine c2_ [] 5 ⟨rfl,rfl⟩ ?_;simp only [List.take,List.drop];repeat' first|with_reducible apply a1_|((with_reducible refine a0_ fun X Y=>?_);go_simp;refine Y _ ?_;clear Y X)
 apply d7_;refine g1_ 2 6 4 rfl rfl rfl ?_;repeat' with_reducible apply a9_
 refine a2_ [] ?_;repeat' first|(with_reducible first|apply a3_|apply a1_)|((with_reducible refine a7_ ?_ ?_);(focus (go_simp;done)))|((with_reducible refine a0_ fun X Y=>?_);go_simp;refine Y _ ?_;clear Y X)
 refine c7_ (c2_ [] 2 ⟨rfl,rfl⟩ ?_);simp only [List.take,List.drop];repeat' first|with_reducible apply a1_|((with_reducible refine a0_ fun X Y=>?_);go_simp;refine Y _ ?_;clear Y X)
 refine d8_ [2,1,5] [2] [] [some (.box [.osl 1,.osl 2,I Z.time,.sl 4 (r.ranks.map Rk.av),I r.back,I r.ret,.sl 3 (mz.map Sg.av)]),some (.bag 62 1 false none (e9_ Z.q)),some (.arr 148 3 a (Z.tk.map Tk.av))] (I E) rfl (by go_simp) ?_ ?_
 ·unfold i6_;go_simp;refine ⟨_,_,_,wa,?_⟩;go_simp;kernel_rfl
 go_simp;refine c2_ [] 1 ⟨rfl,rfl⟩ ?_;simp only [List.take,List.drop];repeat' first|with_reducible apply a1_|((with_reducible refine a0_ fun X Y=>?_);go_simp;refine Y _ ?_;clear Y X)
 apply d7_;repeat' with_reducible first|apply a9_|apply a3_
 by_cases he:E=0
 ·have e:=HR.out;rw [if_pos he] at e;have hz:=HZ.out he;subst he e hz;refine a2_ [] ?_;repeat' first|(with_reducible first|apply a9_|apply a3_|apply b0_|apply a1_)|((with_reducible refine a6_ ?_ ?_);(focus (go_simp;done)))|((with_reducible refine a0_ fun X Y=>?_);go_simp;refine Y _ ?_;clear Y X)
  refine a2_ [] ?_;repeat ((with_reducible refine a0_ fun X Y=>?_);go_simp;refine Y _ ?_;clear Y X)
  apply a1_;apply a3_;refine z9_ (fun p a w R=>R.bagArr (id:=1) rfl (by kernel_rfl)) ?_;go_simp;refine g1_ 0 0 1 rfl rfl rfl ?_;refine g1_ 0 1 5 rfl rfl rfl ?_;repeat' with_reducible apply c0_
  go_simp
 ·have e:=HR.out;rw [if_neg he] at e;subst e;refine a2_ [] ?_;repeat' first|(with_reducible first|apply a9_|apply a3_|apply a1_)|((with_reducible refine a7_ ?_ ?_);(focus (go_simp;done)))|((with_reducible refine a0_ fun X Y=>?_);go_simp;refine Y _ ?_;clear Y X)
  refine a2_ [] ?_;repeat' first|(with_reducible first|apply a3_|apply b3_|apply c0_|apply a1_)|((with_reducible refine a0_ fun X Y=>?_);go_simp;refine Y _ ?_;clear Y X)
  go_simp
def b6e (m:Nat) : Int:=if m=0 then 1 else if m=1 then 2 else 4
def o2_ (s:St) (t:Int) (k m:Nat) : Ev:=⟨b6e m,t,k,if b6e m≠4∧0 < (qat s.q k).length then tat (qat s.q k) 0 else ⟨#[]⟩⟩
def j0_ (r:Ru) (s:St) (t:Int) (k:Nat) : Nat→List Ev
 | 0=>[]
 | m+1=>j0_ r s t k m++if apE r s (o2_ s t k m)=0 then [o2_ s t k m] else []
def h5_ (r:Ru) (s:St) (t:Int) : Nat→List Ev
 | 0=>[]
 | k+1=>h5_ r s t k++j0_ r s t k 3
theorem a3b (r:Ru) (s:St) (t:Int) (k:Nat) : ∀ m,(j0_ r s t k m).length≤m
 | 0=>Nat.le_refl _
 | m+1=>by
  have:=a3b r s t k m;rw [j0_,List.length_append];split
  ·simp only [List.length_cons,List.length_nil];omega
  ·simp only [List.length_nil];omega
theorem a3c (r:Ru) (s:St) (t:Int) : ∀ k,(h5_ r s t k).length≤3*k
 | 0=>Nat.le_refl _
 | k+1=>by
  have h1:=a3c r s t k;have h2:=a3b r s t k 3;rw [h5_,List.length_append];omega
theorem c0r {r:Ru} {s:St} {t:Int} {k:Nat} {x:Ev} : ∀ {m:Nat},x∈j0_ r s t k m→apE r s x=0∧∃ j,j < m∧x=o2_ s t k j
 | 0,h=>by cases h
 | m+1,h=>by
  rw [j0_] at h;rcases List.mem_append.1 h with h1|h1
  ·obtain ⟨h2,j,h3,h4⟩:=c0r h1;exact ⟨h2,j,by omega,h4⟩
  ·split at h1
   ·rename_i h2;rw [List.mem_singleton] at h1;subst h1;exact ⟨h2,m,by omega,rfl⟩
   ·cases h1
theorem c0s {r:Ru} {s:St} {t:Int} {x:Ev} : ∀ {k:Nat},x∈h5_ r s t k→apE r s x=0∧∃ i j,i < k∧j < 3∧x=o2_ s t i j
 | 0,h=>by cases h
 | k+1,h=>by
  rw [h5_] at h;rcases List.mem_append.1 h with h1|h1
  ·obtain ⟨h2,i,j,h3,h4,h5⟩:=c0s h1;exact ⟨h2,i,j,by omega,h4,h5⟩
  ·obtain ⟨h2,j,h3,h4⟩:=c0r h1;exact ⟨h2,k,j,by omega,h3,h4⟩
theorem c8a (l:List Ev) : ∀ (k:Nat) (x:List AV),(l.map Ev.av)[k]? = some x→x.length=4∧∀ c∈x,f8_ c=true:=fun k x hx=>by
 obtain ⟨y,hy,rfl⟩:=f2_ hx;exact ⟨rfl,by simp [Ev.av,f8_,Value.oneCell']⟩
theorem a4e {s:St} (hs:SmallS s) {k:Nat} (hk:k < s.q.length) (h:0 < (qat s.q k).length) : (tat (qat s.q k) 0).size≤1000:=by
 rw [f9_ hk] at h ⊢;rw [c5_ h];exact (hs.q1 _ (List.getElem_mem hk)).2 _ (List.getElem_mem h)
theorem c0t {s:St} (hs:SmallS s) {t:Int} {k m:Nat} (hk:k < s.q.length) : (o2_ s t k m).car.size≤1000:=by
 show (if b6e m≠4∧0 < (qat s.q k).length then tat (qat s.q k) 0 else (⟨#[]⟩ : ByteArray)).size≤1000;split
 ·rename_i h;exact a4e hs hk h.2
 ·exact Nat.zero_le _
theorem b6f (r:Ru) (s:St) (t:Int) (hr:RuOK r) (hi:Inv r s) (hs:SmallS s) : VCo Tryz.prog 72 [c6_ r,f0_ s,I t] 58 4 (decide (h5_ r s t r.ranks.length=[])) ((h5_ r s t r.ranks.length).map Ev.av):=by
 have hn6:=hr.n6;have e0:h5_ r s t 0=[]:=rfl;have hlen:=hi.len;have hpl:=a3c r s t;have HPL:=Lib.hid hpl;have hpi:=a3b r s t;have HPI:=Lib.hid hpi;have G1:Hid (∀ x:Ev,x.car.size≤1000→VC Tryz.prog 56 [c6_ r,evA x] (I (evE r x))):=Lib.hid fun x hx=>a9x r x (by omega) (by omega);have G2:Hid (∀ x:Ev,evE r x=0→VC Tryz.prog 67 [c6_ r,f0_ s,evA x] (I (apE r s x))):=Lib.hid fun x hx=>by
  have g:=b6d r s x hr hi hx;have e:apE r s x=fst [unl (decide (s.time≤x.time)) 9,doE r s x x.rank.toNat]:=by
   unfold apE;rw [hx];rfl
  rw [e];exact g
 have G3:Hid (∀ x:Ev,evE r x≠0→apE r s x≠0):=Lib.hid fun x hx=>by
  unfold apE;simp [fst,hx]
 have HT:=Lib.hid (fun (k:Nat) (hk:k < s.q.length)=>a4e hs hk);have hz:∀ i,h5_ r s t i++j0_ r s t i 0=h5_ r s t i:=fun i=>List.append_nil _;have HZ:=Lib.hid hz;clear hr hi hs hpl hpi hz;refine c0y Tryz.func72 rfl (by kernel_rfl) (by kernel_rfl) rfl Tryz.results72 (by decide) (c8a _) fun M0 w0=>?_;simp only [Tryz.ntmps72,b4_];repeat' first|(with_reducible first|apply a9_|apply a3_|apply a8_|apply a1_|refine a2_ [7] ?_)|((with_reducible refine a0_ fun X Y=>?_);go_simp;refine Y _ ?_;clear Y X)
 apply b6p [2,3,4,8] (fun k=>[(9,I k),(7,.osl 0)]) (fun k=>([some (.arr 58 4 (decide (h5_ r s t k=[])) ((h5_ r s t k).map Ev.av))] : Hp))  (r.ranks.length)
 ·go_simp<;>exact rfl
 ·go_simp
 ·intro i hk K hK;obtain ⟨w1,w2,w3,w4,w5,w6⟩:=ixs (m:=i) (by omega);have hz:=HZ.out i;clear e0;repeat' first|(with_reducible first|apply a9_|apply a3_|apply b0_|apply a8_|apply a1_|refine a2_ [] ?_)|((with_reducible refine a7_ ?_ ?_);(focus (go_simp;done)))|((with_reducible refine a0_ fun X Y=>?_);go_simp;refine Y _ ?_;clear Y X)
  apply b6p [2,3,4,8,9] (fun k=>[(10,I k),(7,.osl 0)]) (fun k=>([some (.arr 58 4 (decide (h5_ r s t i++j0_ r s t i k=[])) ((h5_ r s t i++j0_ r s t i k).map Ev.av))] : Hp))  ((3:Nat))
  ·go_simp<;>exact rfl
  ·go_simp
  ·intro k hk2 K2 hK2;clear hK hz;have u1:IntKind.i64.wrap 1=1:=by decide
   have u2:IntKind.i64.wrap 2=2:=by decide
   have u3:IntKind.i64.wrap 3=3:=by decide
   rcases (show k=0∨k=1∨k=2 by omega) with rfl|rfl|rfl
   ·by_cases hq:0 < (qat s.q i).length
    ·have ex:o2_ s t i 0=⟨1,t,(i:Int),(qat s.q i)[0]⟩:=by simp [o2_,b6e,hq,c5_ hq]
     have g1:=G1.out ⟨1,t,(i:Int),(qat s.q i)[0]⟩ (by rw [←c5_ hq];exact HT.out i (by omega) hq);have hs1:h5_ r s t i++j0_ r s t i (0+1)=(h5_ r s t i++j0_ r s t i 0)++if apE r s ⟨1,t,(i:Int),(qat s.q i)[0]⟩=0 then [⟨1,t,(i:Int),(qat s.q i)[0]⟩] else []:=(congrArg (h5_ r s t i ++ ·) (show j0_ r s t i (0+1)=j0_ r s t i 0++(if apE r s ⟨1,t,(i:Int),(qat s.q i)[0]⟩=0 then [⟨1,t,(i:Int),(qat s.q i)[0]⟩] else []) by rw [←ex];rfl)).trans (List.append_assoc _ _ _).symm
     have hb:(h5_ r s t i++j0_ r s t i 0).length+1≤1000000000:=by have h1:=HPL.out i;have h2:=HPI.out i 0;rw [List.length_append];omega
     rw [hs1] at hK2;clear hs1 ex;generalize h5_ r s t i++j0_ r s t i 0=F at *;by_cases hx:evE r ⟨1,t,(i:Int),(qat s.q i)[0]⟩=0
     ·have g2:=G2.out ⟨1,t,(i:Int),(qat s.q i)[0]⟩ hx;rw [hx] at g1;by_cases ha:apE r s ⟨1,t,(i:Int),(qat s.q i)[0]⟩=0
      ·rw [if_pos ha,decide_eq_false (by simp)] at hK2;rw [ha] at g2;simp only [evA] at g1 g2;repeat' first|(with_reducible first|apply a9_|apply a3_|apply b0_|apply a8_|apply b2_|apply a1_|refine a2_ [] ?_)|((with_reducible refine a7_ ?_ ?_);(focus (go_simp;done)))|((with_reducible refine a0_ fun X Y=>?_);go_simp;(first|(refine ⟨_,g1,?_⟩)|(refine ⟨_,g2,?_⟩)|skip);refine Y _ ?_;clear Y X)
       refine hK2 _ ?_;go_simp
      ·rw [if_neg ha,List.append_nil] at hK2;simp only [evA] at g1 g2;generalize apE r s ⟨1,t,(i:Int),(qat s.q i)[0]⟩=E at *;repeat' first|(with_reducible first|apply a9_|apply a3_|apply b0_|apply a8_|apply b2_|apply a1_|refine a2_ [] ?_)|((with_reducible refine a7_ ?_ ?_);(focus (go_simp;done)))|((with_reducible refine a6_ ?_ ?_);(focus (go_simp;done)))|((with_reducible refine a0_ fun X Y=>?_);go_simp;(first|(refine ⟨_,g1,?_⟩)|(refine ⟨_,g2,?_⟩)|skip);refine Y _ ?_;clear Y X)
       refine hK2 _ ?_;go_simp
     ·have ha:=G3.out ⟨1,t,(i:Int),(qat s.q i)[0]⟩ hx;rw [if_neg ha,List.append_nil] at hK2;simp only [evA] at g1;generalize evE r ⟨1,t,(i:Int),(qat s.q i)[0]⟩=E at *;clear ha;repeat' first|(with_reducible first|apply a9_|apply a3_|apply b0_|apply a8_|apply b2_|apply a1_|refine a2_ [] ?_)|((with_reducible refine a7_ ?_ ?_);(focus (go_simp;done)))|((with_reducible refine a6_ ?_ ?_);(focus (go_simp;done)))|((with_reducible refine a0_ fun X Y=>?_);go_simp;(first|(refine ⟨_,g1,?_⟩)|skip);refine Y _ ?_;clear Y X)
      refine hK2 _ ?_;go_simp
    ·have ex:o2_ s t i 0=⟨1,t,(i:Int),(⟨#[]⟩ : ByteArray)⟩:=by simp [o2_,b6e,hq]
     have g1:=G1.out ⟨1,t,(i:Int),(⟨#[]⟩ : ByteArray)⟩ (Nat.zero_le _);have hs1:h5_ r s t i++j0_ r s t i (0+1)=(h5_ r s t i++j0_ r s t i 0)++if apE r s ⟨1,t,(i:Int),(⟨#[]⟩ : ByteArray)⟩=0 then [⟨1,t,(i:Int),(⟨#[]⟩ : ByteArray)⟩] else []:=(congrArg (h5_ r s t i ++ ·) (show j0_ r s t i (0+1)=j0_ r s t i 0++(if apE r s ⟨1,t,(i:Int),(⟨#[]⟩ : ByteArray)⟩=0 then [⟨1,t,(i:Int),(⟨#[]⟩ : ByteArray)⟩] else []) by rw [←ex];rfl)).trans (List.append_assoc _ _ _).symm
     have hb:(h5_ r s t i++j0_ r s t i 0).length+1≤1000000000:=by have h1:=HPL.out i;have h2:=HPI.out i 0;rw [List.length_append];omega
     rw [hs1] at hK2;clear hs1 ex;generalize h5_ r s t i++j0_ r s t i 0=F at *;by_cases hx:evE r ⟨1,t,(i:Int),(⟨#[]⟩ : ByteArray)⟩=0
     ·have g2:=G2.out ⟨1,t,(i:Int),(⟨#[]⟩ : ByteArray)⟩ hx;rw [hx] at g1;by_cases ha:apE r s ⟨1,t,(i:Int),(⟨#[]⟩ : ByteArray)⟩=0
      ·rw [if_pos ha,decide_eq_false (by simp)] at hK2;rw [ha] at g2;simp only [evA] at g1 g2;repeat' first|(with_reducible first|apply a9_|apply a3_|apply b0_|apply a8_|apply b2_|apply a1_|refine a2_ [] ?_)|((with_reducible refine a7_ ?_ ?_);(focus (go_simp;done)))|((with_reducible refine a6_ ?_ ?_);(focus (go_simp;done)))|((with_reducible refine a0_ fun X Y=>?_);go_simp;(first|(refine ⟨_,g1,?_⟩)|(refine ⟨_,g2,?_⟩)|skip);refine Y _ ?_;clear Y X)
       refine hK2 _ ?_;go_simp
      ·rw [if_neg ha,List.append_nil] at hK2;simp only [evA] at g1 g2;generalize apE r s ⟨1,t,(i:Int),(⟨#[]⟩ : ByteArray)⟩=E at *;repeat' first|(with_reducible first|apply a9_|apply a3_|apply b0_|apply a8_|apply b2_|apply a1_|refine a2_ [] ?_)|((with_reducible refine a7_ ?_ ?_);(focus (go_simp;done)))|((with_reducible refine a6_ ?_ ?_);(focus (go_simp;done)))|((with_reducible refine a0_ fun X Y=>?_);go_simp;(first|(refine ⟨_,g1,?_⟩)|(refine ⟨_,g2,?_⟩)|skip);refine Y _ ?_;clear Y X)
       refine hK2 _ ?_;go_simp
     ·have ha:=G3.out ⟨1,t,(i:Int),(⟨#[]⟩ : ByteArray)⟩ hx;rw [if_neg ha,List.append_nil] at hK2;simp only [evA] at g1;generalize evE r ⟨1,t,(i:Int),(⟨#[]⟩ : ByteArray)⟩=E at *;clear ha;repeat' first|(with_reducible first|apply a9_|apply a3_|apply b0_|apply a8_|apply b2_|apply a1_|refine a2_ [] ?_)|((with_reducible refine a7_ ?_ ?_);(focus (go_simp;done)))|((with_reducible refine a6_ ?_ ?_);(focus (go_simp;done)))|((with_reducible refine a0_ fun X Y=>?_);go_simp;(first|(refine ⟨_,g1,?_⟩)|skip);refine Y _ ?_;clear Y X)
      refine hK2 _ ?_;go_simp
   ·by_cases hq:0 < (qat s.q i).length
    ·have ex:o2_ s t i 1=⟨2,t,(i:Int),(qat s.q i)[0]⟩:=by simp [o2_,b6e,hq,c5_ hq]
     have g1:=G1.out ⟨2,t,(i:Int),(qat s.q i)[0]⟩ (by rw [←c5_ hq];exact HT.out i (by omega) hq);have hs1:h5_ r s t i++j0_ r s t i (1+1)=(h5_ r s t i++j0_ r s t i 1)++if apE r s ⟨2,t,(i:Int),(qat s.q i)[0]⟩=0 then [⟨2,t,(i:Int),(qat s.q i)[0]⟩] else []:=(congrArg (h5_ r s t i ++ ·) (show j0_ r s t i (1+1)=j0_ r s t i 1++(if apE r s ⟨2,t,(i:Int),(qat s.q i)[0]⟩=0 then [⟨2,t,(i:Int),(qat s.q i)[0]⟩] else []) by rw [←ex];rfl)).trans (List.append_assoc _ _ _).symm
     have hb:(h5_ r s t i++j0_ r s t i 1).length+1≤1000000000:=by have h1:=HPL.out i;have h2:=HPI.out i 1;rw [List.length_append];omega
     rw [hs1] at hK2;clear hs1 ex;generalize h5_ r s t i++j0_ r s t i 1=F at *;by_cases hx:evE r ⟨2,t,(i:Int),(qat s.q i)[0]⟩=0
     ·have g2:=G2.out ⟨2,t,(i:Int),(qat s.q i)[0]⟩ hx;rw [hx] at g1;by_cases ha:apE r s ⟨2,t,(i:Int),(qat s.q i)[0]⟩=0
      ·rw [if_pos ha,decide_eq_false (by simp)] at hK2;rw [ha] at g2;simp only [evA] at g1 g2;repeat' first|(with_reducible first|apply a9_|apply a3_|apply b0_|apply a8_|apply b2_|apply a1_|refine a2_ [] ?_)|((with_reducible refine a7_ ?_ ?_);(focus (go_simp;done)))|((with_reducible refine a0_ fun X Y=>?_);go_simp;(first|(refine ⟨_,g1,?_⟩)|(refine ⟨_,g2,?_⟩)|skip);refine Y _ ?_;clear Y X)
       refine hK2 _ ?_;go_simp
      ·rw [if_neg ha,List.append_nil] at hK2;simp only [evA] at g1 g2;generalize apE r s ⟨2,t,(i:Int),(qat s.q i)[0]⟩=E at *;repeat' first|(with_reducible first|apply a9_|apply a3_|apply b0_|apply a8_|apply b2_|apply a1_|refine a2_ [] ?_)|((with_reducible refine a7_ ?_ ?_);(focus (go_simp;done)))|((with_reducible refine a6_ ?_ ?_);(focus (go_simp;done)))|((with_reducible refine a0_ fun X Y=>?_);go_simp;(first|(refine ⟨_,g1,?_⟩)|(refine ⟨_,g2,?_⟩)|skip);refine Y _ ?_;clear Y X)
       refine hK2 _ ?_;go_simp
     ·have ha:=G3.out ⟨2,t,(i:Int),(qat s.q i)[0]⟩ hx;rw [if_neg ha,List.append_nil] at hK2;simp only [evA] at g1;generalize evE r ⟨2,t,(i:Int),(qat s.q i)[0]⟩=E at *;clear ha;repeat' first|(with_reducible first|apply a9_|apply a3_|apply b0_|apply a8_|apply b2_|apply a1_|refine a2_ [] ?_)|((with_reducible refine a7_ ?_ ?_);(focus (go_simp;done)))|((with_reducible refine a6_ ?_ ?_);(focus (go_simp;done)))|((with_reducible refine a0_ fun X Y=>?_);go_simp;(first|(refine ⟨_,g1,?_⟩)|skip);refine Y _ ?_;clear Y X)
      refine hK2 _ ?_;go_simp
    ·have ex:o2_ s t i 1=⟨2,t,(i:Int),(⟨#[]⟩ : ByteArray)⟩:=by simp [o2_,b6e,hq]
     have g1:=G1.out ⟨2,t,(i:Int),(⟨#[]⟩ : ByteArray)⟩ (Nat.zero_le _);have hs1:h5_ r s t i++j0_ r s t i (1+1)=(h5_ r s t i++j0_ r s t i 1)++if apE r s ⟨2,t,(i:Int),(⟨#[]⟩ : ByteArray)⟩=0 then [⟨2,t,(i:Int),(⟨#[]⟩ : ByteArray)⟩] else []:=(congrArg (h5_ r s t i ++ ·) (show j0_ r s t i (1+1)=j0_ r s t i 1++(if apE r s ⟨2,t,(i:Int),(⟨#[]⟩ : ByteArray)⟩=0 then [⟨2,t,(i:Int),(⟨#[]⟩ : ByteArray)⟩] else []) by rw [←ex];rfl)).trans (List.append_assoc _ _ _).symm
     have hb:(h5_ r s t i++j0_ r s t i 1).length+1≤1000000000:=by have h1:=HPL.out i;have h2:=HPI.out i 1;rw [List.length_append];omega
     rw [hs1] at hK2;clear hs1 ex;generalize h5_ r s t i++j0_ r s t i 1=F at *;by_cases hx:evE r ⟨2,t,(i:Int),(⟨#[]⟩ : ByteArray)⟩=0
     ·have g2:=G2.out ⟨2,t,(i:Int),(⟨#[]⟩ : ByteArray)⟩ hx;rw [hx] at g1;by_cases ha:apE r s ⟨2,t,(i:Int),(⟨#[]⟩ : ByteArray)⟩=0
      ·rw [if_pos ha,decide_eq_false (by simp)] at hK2;rw [ha] at g2;simp only [evA] at g1 g2;repeat' first|(with_reducible first|apply a9_|apply a3_|apply b0_|apply a8_|apply b2_|apply a1_|refine a2_ [] ?_)|((with_reducible refine a7_ ?_ ?_);(focus (go_simp;done)))|((with_reducible refine a6_ ?_ ?_);(focus (go_simp;done)))|((with_reducible refine a0_ fun X Y=>?_);go_simp;(first|(refine ⟨_,g1,?_⟩)|(refine ⟨_,g2,?_⟩)|skip);refine Y _ ?_;clear Y X)
       refine hK2 _ ?_;go_simp
      ·rw [if_neg ha,List.append_nil] at hK2;simp only [evA] at g1 g2;generalize apE r s ⟨2,t,(i:Int),(⟨#[]⟩ : ByteArray)⟩=E at *;repeat' first|(with_reducible first|apply a9_|apply a3_|apply b0_|apply a8_|apply b2_|apply a1_|refine a2_ [] ?_)|((with_reducible refine a7_ ?_ ?_);(focus (go_simp;done)))|((with_reducible refine a6_ ?_ ?_);(focus (go_simp;done)))|((with_reducible refine a0_ fun X Y=>?_);go_simp;(first|(refine ⟨_,g1,?_⟩)|(refine ⟨_,g2,?_⟩)|skip);refine Y _ ?_;clear Y X)
       refine hK2 _ ?_;go_simp
     ·have ha:=G3.out ⟨2,t,(i:Int),(⟨#[]⟩ : ByteArray)⟩ hx;rw [if_neg ha,List.append_nil] at hK2;simp only [evA] at g1;generalize evE r ⟨2,t,(i:Int),(⟨#[]⟩ : ByteArray)⟩=E at *;clear ha;repeat' first|(with_reducible first|apply a9_|apply a3_|apply b0_|apply a8_|apply b2_|apply a1_|refine a2_ [] ?_)|((with_reducible refine a7_ ?_ ?_);(focus (go_simp;done)))|((with_reducible refine a6_ ?_ ?_);(focus (go_simp;done)))|((with_reducible refine a0_ fun X Y=>?_);go_simp;(first|(refine ⟨_,g1,?_⟩)|skip);refine Y _ ?_;clear Y X)
      refine hK2 _ ?_;go_simp
   ·have ex:o2_ s t i 2=⟨4,t,(i:Int),(⟨#[]⟩ : ByteArray)⟩:=by simp [o2_,b6e]
    have g1:=G1.out ⟨4,t,(i:Int),(⟨#[]⟩ : ByteArray)⟩ (Nat.zero_le _);have hs1:h5_ r s t i++j0_ r s t i (2+1)=(h5_ r s t i++j0_ r s t i 2)++if apE r s ⟨4,t,(i:Int),(⟨#[]⟩ : ByteArray)⟩=0 then [⟨4,t,(i:Int),(⟨#[]⟩ : ByteArray)⟩] else []:=(congrArg (h5_ r s t i ++ ·) (show j0_ r s t i (2+1)=j0_ r s t i 2++(if apE r s ⟨4,t,(i:Int),(⟨#[]⟩ : ByteArray)⟩=0 then [⟨4,t,(i:Int),(⟨#[]⟩ : ByteArray)⟩] else []) by rw [←ex];rfl)).trans (List.append_assoc _ _ _).symm
    have hb:(h5_ r s t i++j0_ r s t i 2).length+1≤1000000000:=by have h1:=HPL.out i;have h2:=HPI.out i 2;rw [List.length_append];omega
    rw [hs1] at hK2;clear hs1 ex;generalize h5_ r s t i++j0_ r s t i 2=F at *;by_cases hx:evE r ⟨4,t,(i:Int),(⟨#[]⟩ : ByteArray)⟩=0
    ·have g2:=G2.out ⟨4,t,(i:Int),(⟨#[]⟩ : ByteArray)⟩ hx;rw [hx] at g1;by_cases ha:apE r s ⟨4,t,(i:Int),(⟨#[]⟩ : ByteArray)⟩=0
     ·rw [if_pos ha,decide_eq_false (by simp)] at hK2;rw [ha] at g2;simp only [evA] at g1 g2;repeat' first|(with_reducible first|apply a9_|apply a3_|apply b0_|apply a8_|apply b2_|apply a1_|refine a2_ [] ?_)|((with_reducible refine a7_ ?_ ?_);(focus (go_simp;done)))|((with_reducible refine a6_ ?_ ?_);(focus (go_simp;done)))|((with_reducible refine a0_ fun X Y=>?_);go_simp;(first|(refine ⟨_,g1,?_⟩)|(refine ⟨_,g2,?_⟩)|skip);refine Y _ ?_;clear Y X)
      refine hK2 _ ?_;go_simp
     ·rw [if_neg ha,List.append_nil] at hK2;simp only [evA] at g1 g2;generalize apE r s ⟨4,t,(i:Int),(⟨#[]⟩ : ByteArray)⟩=E at *;repeat' first|(with_reducible first|apply a9_|apply a3_|apply b0_|apply a8_|apply b2_|apply a1_|refine a2_ [] ?_)|((with_reducible refine a7_ ?_ ?_);(focus (go_simp;done)))|((with_reducible refine a6_ ?_ ?_);(focus (go_simp;done)))|((with_reducible refine a0_ fun X Y=>?_);go_simp;(first|(refine ⟨_,g1,?_⟩)|(refine ⟨_,g2,?_⟩)|skip);refine Y _ ?_;clear Y X)
      refine hK2 _ ?_;go_simp
    ·have ha:=G3.out ⟨4,t,(i:Int),(⟨#[]⟩ : ByteArray)⟩ hx;rw [if_neg ha,List.append_nil] at hK2;simp only [evA] at g1;generalize evE r ⟨4,t,(i:Int),(⟨#[]⟩ : ByteArray)⟩=E at *;clear ha;repeat' first|(with_reducible first|apply a9_|apply a3_|apply b0_|apply a8_|apply b2_|apply a1_|refine a2_ [] ?_)|((with_reducible refine a7_ ?_ ?_);(focus (go_simp;done)))|((with_reducible refine a6_ ?_ ?_);(focus (go_simp;done)))|((with_reducible refine a0_ fun X Y=>?_);go_simp;(first|(refine ⟨_,g1,?_⟩)|skip);refine Y _ ?_;clear Y X)
     refine hK2 _ ?_;go_simp
  ·intro K;have hs1:h5_ r s t (i+1)=h5_ r s t i++j0_ r s t i 3:=rfl;rw [hs1] at hK;clear hz hs1;generalize h5_ r s t i++j0_ r s t i 3=F at *;repeat' first|(with_reducible first|apply a9_|apply a3_|apply c4_|apply e1_|apply b2_|apply b7_|apply a1_|refine a2_ [] ?_)|((with_reducible refine a6_ ?_ ?_);(focus (go_simp;done)))|((with_reducible refine a0_ fun X Y=>?_);go_simp;refine Y _ ?_;clear Y X)
   refine hK _ ?_;go_simp
 ·intro K;clear e0;repeat' first|(with_reducible first|apply a9_|apply a3_|apply c4_|apply c0_|apply e1_|apply b7_|apply a1_|refine a2_ [] ?_)|((with_reducible refine a6_ ?_ ?_);(focus (go_simp;done)))|((with_reducible refine a0_ fun X Y=>?_);go_simp;refine Y _ ?_;clear Y X)
  exact ⟨0,rfl,rfl⟩
def b4d (r:Ru) (s:St) (t:Int) : Int:=fst [ckE r s,unl (inR t 0 604800) 2,unl (decide (s.time≤t)) 9]
theorem b2d (r:Ru) (s:St) (t:Int) (hn:r.ranks.length≤1000000) (hnm:∀ k,k < r.ranks.length→(rat r.ranks k).name.size≤1000) (hs:SmallS s) (h:b4d r s t≠0) : VC Tryz.prog 71 [c6_ r,f0_ s,I t] (.tup [.lit (.slice none 0 0),I (b4d r s t)]):=by
 have g1:=x1_ r s hn hnm hs;have g2:=g5_ t 0 604800;have g3:=b1_ (inR t 0 604800) 2;have g4:=b1_ (decide (s.time≤t)) 9;have g5:VC Tryz.prog 88 [.sl 1 ([ckE r s,unl (inR t 0 604800) 2,unl (decide (s.time≤t)) 9].map s3_)] (I (b4d r s t)):=c8_ _ rfl rfl;generalize b4d r s t=E at *;clear hn hnm hs;generalize ckE r s=C at *;refine b8_ Tryz.func71 rfl (by kernel_rfl) (by kernel_rfl) rfl fun M0 w0=>?_;simp only [Tryz.ntmps71,Tryz.results71,b4_];repeat' first|(with_reducible first|apply a9_|apply a3_|apply b3_|apply c0_|apply a1_|refine a2_ [] ?_|apply a5_)|((with_reducible refine a7_ ?_ ?_);(focus (go_simp;done)))|((with_reducible first|refine a0_ fun X Y=>?_|refine a4_ fun X Y=>?_);go_simp;(first|(refine ⟨_,g1,?_⟩)|(refine ⟨_,g2,?_⟩)|(refine ⟨_,g3,?_⟩)|(refine ⟨_,g4,?_⟩)|(refine ⟨_,g5,?_⟩)|skip);refine Y _ ?_;clear Y X)|((refine b6_ 14 14 [] rfl (by kernel_rfl) (by kernel_rfl) ?_);simp only [List.take,List.drop])
 go_simp
theorem b6g (r:Ru) (s:St) (t:Int) (hr:RuOK r) (hi:Inv r s) (hn:r.ranks.length≤1000000) (hnm:∀ k,k < r.ranks.length→(rat r.ranks k).name.size≤1000) (hs:SmallS s) (hck:ckE r s=0) (h:b4d r s t=0) : VC Tryz.prog 71 [c6_ r,f0_ s,I t] (.tup [.sl 4 ((h5_ r s t r.ranks.length).map Ev.av),I 0]):=by
 have g1:=x1_ r s hn hnm hs;have g2:=g5_ t 0 604800;have g3:=b1_ (inR t 0 604800) 2;have g4:=b1_ (decide (s.time≤t)) 9;have g5:VC Tryz.prog 88 [.sl 1 ([ckE r s,unl (inR t 0 604800) 2,unl (decide (s.time≤t)) 9].map s3_)] (I (b4d r s t)):=c8_ _ rfl rfl;have G1:Hid (∀ x:Ev,x.car.size≤1000→VC Tryz.prog 66 [c6_ r,f0_ s,evA x] (if apE r s x=0 then .tup [f0_ (apU r s x).1,I 0] else .tup [.agg [o6_,o6_,I 0],I (apE r s x)])):=Lib.hid fun x hx=>b4c r s x hr hi hn hnm hs hck hx;rw [h] at g5;have hn6:=hr.n6;have e0:h5_ r s t 0=[]:=rfl;have hlen:=hi.len;have hpl:=a3c r s t;have HPL:=Lib.hid hpl;have hpi:=a3b r s t;have HPI:=Lib.hid hpi;have HT:=Lib.hid (fun (k:Nat) (hk:k < s.q.length)=>a4e hs hk);have hz:∀ i,h5_ r s t i++j0_ r s t i 0=h5_ r s t i:=fun i=>List.append_nil _;have HZ:=Lib.hid hz;rw [←hlen] at hn6 ⊢;clear hr hi hs hpl hpi hz hck h hn hnm hlen;generalize ckE r s=C at *;refine b8_ Tryz.func71 rfl (by kernel_rfl) (by kernel_rfl) rfl fun M0 w0=>?_;simp only [Tryz.ntmps71,Tryz.results71,b4_];repeat' first|(with_reducible first|apply a9_|apply a3_|apply b0_|apply a8_|apply a1_|refine a2_ [9] ?_|apply a5_)|((with_reducible refine a6_ ?_ ?_);(focus (go_simp;done)))|((with_reducible first|refine a0_ fun X Y=>?_|refine a4_ fun X Y=>?_);go_simp;(first|(refine ⟨_,g1,?_⟩)|(refine ⟨_,g2,?_⟩)|(refine ⟨_,g3,?_⟩)|(refine ⟨_,g4,?_⟩)|(refine ⟨_,g5,?_⟩)|skip);refine Y _ ?_;clear Y X)|((refine b6_ 14 14 [9] rfl (by kernel_rfl) (by kernel_rfl) ?_);simp only [List.take,List.drop])
 apply b6p [2,3,4,34,35] (fun k=>[(36,I k),(9,.osl 0)]) (fun k=>([some (.arr 58 4 (decide (h5_ r s t k=[])) ((h5_ r s t k).map Ev.av))] : Hp))  (s.q.length)
 ·go_simp<;>exact rfl
 ·go_simp
 ·intro i hk K hK;obtain ⟨w1,w2,w3,w4,w5,w6⟩:=ixs (m:=i) (by omega);have hz:=HZ.out i;clear e0 g1 g2 g3 g4 g5;repeat' first|(with_reducible first|apply a9_|apply a3_|apply b0_|apply a8_|apply a1_|refine a2_ [] ?_)|((with_reducible refine a7_ ?_ ?_);(focus (go_simp;done)))|((with_reducible refine a0_ fun X Y=>?_);go_simp;refine Y _ ?_;clear Y X)
  apply b6p [2,3,4,10,11,34,35,36,41] (fun k=>[(42,I k),(9,.osl 0)]) (fun k=>([some (.arr 58 4 (decide (h5_ r s t i++j0_ r s t i k=[])) ((h5_ r s t i++j0_ r s t i k).map Ev.av))] : Hp))  ((3:Nat))
  ·go_simp<;>exact rfl
  ·go_simp
  ·intro k hk2 K2 hK2;clear hK hz;have u1:IntKind.i64.wrap 1=1:=by decide
   have u2:IntKind.i64.wrap 2=2:=by decide
   have u3:IntKind.i64.wrap 3=3:=by decide
   rcases (show k=0∨k=1∨k=2 by omega) with rfl|rfl|rfl
   ·by_cases hq:0 < (qat s.q i).length
    ·have ex:o2_ s t i 0=⟨1,t,(i:Int),(qat s.q i)[0]⟩:=by simp [o2_,b6e,hq,c5_ hq]
     have g1:=G1.out ⟨1,t,(i:Int),(qat s.q i)[0]⟩ (by rw [←c5_ hq];exact HT.out i (by omega) hq);have hs1:h5_ r s t i++j0_ r s t i (0+1)=(h5_ r s t i++j0_ r s t i 0)++if apE r s ⟨1,t,(i:Int),(qat s.q i)[0]⟩=0 then [⟨1,t,(i:Int),(qat s.q i)[0]⟩] else []:=(congrArg (h5_ r s t i ++ ·) (show j0_ r s t i (0+1)=j0_ r s t i 0++(if apE r s ⟨1,t,(i:Int),(qat s.q i)[0]⟩=0 then [⟨1,t,(i:Int),(qat s.q i)[0]⟩] else []) by rw [←ex];rfl)).trans (List.append_assoc _ _ _).symm
     have hb:(h5_ r s t i++j0_ r s t i 0).length+1≤1000000000:=by have h1:=HPL.out i;have h2:=HPI.out i 0;rw [List.length_append];omega
     rw [hs1] at hK2;clear hs1 ex;generalize h5_ r s t i++j0_ r s t i 0=F at *;by_cases ha:apE r s ⟨1,t,(i:Int),(qat s.q i)[0]⟩=0
     ·rw [if_pos ha,decide_eq_false (by simp)] at hK2;rw [if_pos ha] at g1;generalize (apU r s ⟨1,t,(i:Int),(qat s.q i)[0]⟩).1=Z at *;obtain ⟨zq,ztk,zt⟩:=Z;simp only [evA] at g1;repeat' first|(with_reducible first|apply a9_|apply a3_|apply b0_|apply a8_|apply b2_|apply a1_|refine a2_ [] ?_)|((with_reducible refine a7_ ?_ ?_);(focus (go_simp;done)))|((with_reducible refine a0_ fun X Y=>?_);go_simp;(first|(refine ⟨_,g1,?_⟩)|skip);refine Y _ ?_;clear Y X)
      refine hK2 _ ?_;go_simp
     ·rw [if_neg ha,List.append_nil] at hK2;rw [if_neg ha] at g1;simp only [evA] at g1;generalize apE r s ⟨1,t,(i:Int),(qat s.q i)[0]⟩=E at *;repeat' first|(with_reducible first|apply a9_|apply a3_|apply b0_|apply a8_|apply b2_|apply a1_|refine a2_ [] ?_)|((with_reducible refine a7_ ?_ ?_);(focus (go_simp;done)))|((with_reducible refine a6_ ?_ ?_);(focus (go_simp;done)))|((with_reducible refine a0_ fun X Y=>?_);go_simp;(first|(refine ⟨_,g1,?_⟩)|skip);refine Y _ ?_;clear Y X)
      refine hK2 _ ?_;go_simp
    ·have ex:o2_ s t i 0=⟨1,t,(i:Int),(⟨#[]⟩ : ByteArray)⟩:=by simp [o2_,b6e,hq]
     have g1:=G1.out ⟨1,t,(i:Int),(⟨#[]⟩ : ByteArray)⟩ (Nat.zero_le _);have hs1:h5_ r s t i++j0_ r s t i (0+1)=(h5_ r s t i++j0_ r s t i 0)++if apE r s ⟨1,t,(i:Int),(⟨#[]⟩ : ByteArray)⟩=0 then [⟨1,t,(i:Int),(⟨#[]⟩ : ByteArray)⟩] else []:=(congrArg (h5_ r s t i ++ ·) (show j0_ r s t i (0+1)=j0_ r s t i 0++(if apE r s ⟨1,t,(i:Int),(⟨#[]⟩ : ByteArray)⟩=0 then [⟨1,t,(i:Int),(⟨#[]⟩ : ByteArray)⟩] else []) by rw [←ex];rfl)).trans (List.append_assoc _ _ _).symm
     have hb:(h5_ r s t i++j0_ r s t i 0).length+1≤1000000000:=by have h1:=HPL.out i;have h2:=HPI.out i 0;rw [List.length_append];omega
     rw [hs1] at hK2;clear hs1 ex;generalize h5_ r s t i++j0_ r s t i 0=F at *;by_cases ha:apE r s ⟨1,t,(i:Int),(⟨#[]⟩ : ByteArray)⟩=0
     ·rw [if_pos ha,decide_eq_false (by simp)] at hK2;rw [if_pos ha] at g1;generalize (apU r s ⟨1,t,(i:Int),(⟨#[]⟩ : ByteArray)⟩).1=Z at *;obtain ⟨zq,ztk,zt⟩:=Z;simp only [evA] at g1;repeat' first|(with_reducible first|apply a9_|apply a3_|apply b0_|apply a8_|apply b2_|apply a1_|refine a2_ [] ?_)|((with_reducible refine a7_ ?_ ?_);(focus (go_simp;done)))|((with_reducible refine a6_ ?_ ?_);(focus (go_simp;done)))|((with_reducible refine a0_ fun X Y=>?_);go_simp;(first|(refine ⟨_,g1,?_⟩)|skip);refine Y _ ?_;clear Y X)
      refine hK2 _ ?_;go_simp
     ·rw [if_neg ha,List.append_nil] at hK2;rw [if_neg ha] at g1;simp only [evA] at g1;generalize apE r s ⟨1,t,(i:Int),(⟨#[]⟩ : ByteArray)⟩=E at *;repeat' first|(with_reducible first|apply a9_|apply a3_|apply b0_|apply a8_|apply b2_|apply a1_|refine a2_ [] ?_)|((with_reducible refine a7_ ?_ ?_);(focus (go_simp;done)))|((with_reducible refine a6_ ?_ ?_);(focus (go_simp;done)))|((with_reducible refine a0_ fun X Y=>?_);go_simp;(first|(refine ⟨_,g1,?_⟩)|skip);refine Y _ ?_;clear Y X)
      refine hK2 _ ?_;go_simp
   ·by_cases hq:0 < (qat s.q i).length
    ·have ex:o2_ s t i 1=⟨2,t,(i:Int),(qat s.q i)[0]⟩:=by simp [o2_,b6e,hq,c5_ hq]
     have g1:=G1.out ⟨2,t,(i:Int),(qat s.q i)[0]⟩ (by rw [←c5_ hq];exact HT.out i (by omega) hq);have hs1:h5_ r s t i++j0_ r s t i (1+1)=(h5_ r s t i++j0_ r s t i 1)++if apE r s ⟨2,t,(i:Int),(qat s.q i)[0]⟩=0 then [⟨2,t,(i:Int),(qat s.q i)[0]⟩] else []:=(congrArg (h5_ r s t i ++ ·) (show j0_ r s t i (1+1)=j0_ r s t i 1++(if apE r s ⟨2,t,(i:Int),(qat s.q i)[0]⟩=0 then [⟨2,t,(i:Int),(qat s.q i)[0]⟩] else []) by rw [←ex];rfl)).trans (List.append_assoc _ _ _).symm
     have hb:(h5_ r s t i++j0_ r s t i 1).length+1≤1000000000:=by have h1:=HPL.out i;have h2:=HPI.out i 1;rw [List.length_append];omega
     rw [hs1] at hK2;clear hs1 ex;generalize h5_ r s t i++j0_ r s t i 1=F at *;by_cases ha:apE r s ⟨2,t,(i:Int),(qat s.q i)[0]⟩=0
     ·rw [if_pos ha,decide_eq_false (by simp)] at hK2;rw [if_pos ha] at g1;generalize (apU r s ⟨2,t,(i:Int),(qat s.q i)[0]⟩).1=Z at *;obtain ⟨zq,ztk,zt⟩:=Z;simp only [evA] at g1;repeat' first|(with_reducible first|apply a9_|apply a3_|apply b0_|apply a8_|apply b2_|apply a1_|refine a2_ [] ?_)|((with_reducible refine a7_ ?_ ?_);(focus (go_simp;done)))|((with_reducible refine a0_ fun X Y=>?_);go_simp;(first|(refine ⟨_,g1,?_⟩)|skip);refine Y _ ?_;clear Y X)
      refine hK2 _ ?_;go_simp
     ·rw [if_neg ha,List.append_nil] at hK2;rw [if_neg ha] at g1;simp only [evA] at g1;generalize apE r s ⟨2,t,(i:Int),(qat s.q i)[0]⟩=E at *;repeat' first|(with_reducible first|apply a9_|apply a3_|apply b0_|apply a8_|apply b2_|apply a1_|refine a2_ [] ?_)|((with_reducible refine a7_ ?_ ?_);(focus (go_simp;done)))|((with_reducible refine a6_ ?_ ?_);(focus (go_simp;done)))|((with_reducible refine a0_ fun X Y=>?_);go_simp;(first|(refine ⟨_,g1,?_⟩)|skip);refine Y _ ?_;clear Y X)
      refine hK2 _ ?_;go_simp
    ·have ex:o2_ s t i 1=⟨2,t,(i:Int),(⟨#[]⟩ : ByteArray)⟩:=by simp [o2_,b6e,hq]
     have g1:=G1.out ⟨2,t,(i:Int),(⟨#[]⟩ : ByteArray)⟩ (Nat.zero_le _);have hs1:h5_ r s t i++j0_ r s t i (1+1)=(h5_ r s t i++j0_ r s t i 1)++if apE r s ⟨2,t,(i:Int),(⟨#[]⟩ : ByteArray)⟩=0 then [⟨2,t,(i:Int),(⟨#[]⟩ : ByteArray)⟩] else []:=(congrArg (h5_ r s t i ++ ·) (show j0_ r s t i (1+1)=j0_ r s t i 1++(if apE r s ⟨2,t,(i:Int),(⟨#[]⟩ : ByteArray)⟩=0 then [⟨2,t,(i:Int),(⟨#[]⟩ : ByteArray)⟩] else []) by rw [←ex];rfl)).trans (List.append_assoc _ _ _).symm
     have hb:(h5_ r s t i++j0_ r s t i 1).length+1≤1000000000:=by have h1:=HPL.out i;have h2:=HPI.out i 1;rw [List.length_append];omega
     rw [hs1] at hK2;clear hs1 ex;generalize h5_ r s t i++j0_ r s t i 1=F at *;by_cases ha:apE r s ⟨2,t,(i:Int),(⟨#[]⟩ : ByteArray)⟩=0
     ·rw [if_pos ha,decide_eq_false (by simp)] at hK2;rw [if_pos ha] at g1;generalize (apU r s ⟨2,t,(i:Int),(⟨#[]⟩ : ByteArray)⟩).1=Z at *;obtain ⟨zq,ztk,zt⟩:=Z;simp only [evA] at g1;repeat' first|(with_reducible first|apply a9_|apply a3_|apply b0_|apply a8_|apply b2_|apply a1_|refine a2_ [] ?_)|((with_reducible refine a7_ ?_ ?_);(focus (go_simp;done)))|((with_reducible refine a6_ ?_ ?_);(focus (go_simp;done)))|((with_reducible refine a0_ fun X Y=>?_);go_simp;(first|(refine ⟨_,g1,?_⟩)|skip);refine Y _ ?_;clear Y X)
      refine hK2 _ ?_;go_simp
     ·rw [if_neg ha,List.append_nil] at hK2;rw [if_neg ha] at g1;simp only [evA] at g1;generalize apE r s ⟨2,t,(i:Int),(⟨#[]⟩ : ByteArray)⟩=E at *;repeat' first|(with_reducible first|apply a9_|apply a3_|apply b0_|apply a8_|apply b2_|apply a1_|refine a2_ [] ?_)|((with_reducible refine a7_ ?_ ?_);(focus (go_simp;done)))|((with_reducible refine a6_ ?_ ?_);(focus (go_simp;done)))|((with_reducible refine a0_ fun X Y=>?_);go_simp;(first|(refine ⟨_,g1,?_⟩)|skip);refine Y _ ?_;clear Y X)
      refine hK2 _ ?_;go_simp
   ·have ex:o2_ s t i 2=⟨4,t,(i:Int),(⟨#[]⟩ : ByteArray)⟩:=by simp [o2_,b6e]
    have g1:=G1.out ⟨4,t,(i:Int),(⟨#[]⟩ : ByteArray)⟩ (Nat.zero_le _);have hs1:h5_ r s t i++j0_ r s t i (2+1)=(h5_ r s t i++j0_ r s t i 2)++if apE r s ⟨4,t,(i:Int),(⟨#[]⟩ : ByteArray)⟩=0 then [⟨4,t,(i:Int),(⟨#[]⟩ : ByteArray)⟩] else []:=(congrArg (h5_ r s t i ++ ·) (show j0_ r s t i (2+1)=j0_ r s t i 2++(if apE r s ⟨4,t,(i:Int),(⟨#[]⟩ : ByteArray)⟩=0 then [⟨4,t,(i:Int),(⟨#[]⟩ : ByteArray)⟩] else []) by rw [←ex];rfl)).trans (List.append_assoc _ _ _).symm
    have hb:(h5_ r s t i++j0_ r s t i 2).length+1≤1000000000:=by have h1:=HPL.out i;have h2:=HPI.out i 2;rw [List.length_append];omega
    rw [hs1] at hK2;clear hs1 ex;generalize h5_ r s t i++j0_ r s t i 2=F at *;by_cases ha:apE r s ⟨4,t,(i:Int),(⟨#[]⟩ : ByteArray)⟩=0
    ·rw [if_pos ha,decide_eq_false (by simp)] at hK2;rw [if_pos ha] at g1;generalize (apU r s ⟨4,t,(i:Int),(⟨#[]⟩ : ByteArray)⟩).1=Z at *;obtain ⟨zq,ztk,zt⟩:=Z;simp only [evA] at g1;repeat' first|(with_reducible first|apply a9_|apply a3_|apply b0_|apply a8_|apply b2_|apply a1_|refine a2_ [] ?_)|((with_reducible refine a7_ ?_ ?_);(focus (go_simp;done)))|((with_reducible refine a6_ ?_ ?_);(focus (go_simp;done)))|((with_reducible refine a0_ fun X Y=>?_);go_simp;(first|(refine ⟨_,g1,?_⟩)|skip);refine Y _ ?_;clear Y X)
     refine hK2 _ ?_;go_simp
    ·rw [if_neg ha,List.append_nil] at hK2;rw [if_neg ha] at g1;simp only [evA] at g1;generalize apE r s ⟨4,t,(i:Int),(⟨#[]⟩ : ByteArray)⟩=E at *;repeat' first|(with_reducible first|apply a9_|apply a3_|apply b0_|apply a8_|apply b2_|apply a1_|refine a2_ [] ?_)|((with_reducible refine a7_ ?_ ?_);(focus (go_simp;done)))|((with_reducible refine a6_ ?_ ?_);(focus (go_simp;done)))|((with_reducible refine a0_ fun X Y=>?_);go_simp;(first|(refine ⟨_,g1,?_⟩)|skip);refine Y _ ?_;clear Y X)
     refine hK2 _ ?_;go_simp
  ·intro K;have hs1:h5_ r s t (i+1)=h5_ r s t i++j0_ r s t i 3:=rfl;rw [hs1] at hK;clear hz hs1;generalize h5_ r s t i++j0_ r s t i 3=F at *;repeat' first|(with_reducible first|apply a9_|apply a3_|apply c4_|apply e1_|apply b2_|apply b7_|apply a1_|refine a2_ [] ?_)|((with_reducible refine a6_ ?_ ?_);(focus (go_simp;done)))|((with_reducible refine a0_ fun X Y=>?_);go_simp;refine Y _ ?_;clear Y X)
   refine hK _ ?_;go_simp
 ·intro K;clear e0;refine c8f 9 0 rfl rfl ?_;repeat' first|(with_reducible first|apply a9_|apply a3_|apply c4_|apply c0_|apply e1_|apply b7_|apply a1_|refine a2_ [] ?_)|((with_reducible refine a6_ ?_ ?_);(focus (go_simp;done)))|((with_reducible refine a0_ fun X Y=>?_);go_simp;refine Y _ ?_;clear Y X)
  go_simp
end Go.Proofs.YtoibondihdhnoaaGreatDoor
