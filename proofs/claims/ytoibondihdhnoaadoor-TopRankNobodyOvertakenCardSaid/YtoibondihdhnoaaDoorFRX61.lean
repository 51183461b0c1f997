/- Texts in one: Walks: a state is opened as a town. -/
import Derived.Test.YtoibondihdhnoaaDoorFRX50
import Derived.Test.YtoibondihdhnoaaDoorFRX55
import Derived.Test.YtoibondihdhnoaaDoorFRX60
import Derived.Test.YtoibondihdhnoaaDoorFRX31
import Derived.Test.YtoibondihdhnoaaDoorFRX32
namespace Go.Proofs.YtoibondihdhnoaaDoor
open Go.RowKit
set_option maxRecDepth 100000
set_option maxHeartbeats 4000000
def opQ (s:St) (k:Nat) : List (List ByteArray):=s.q.take k++List.replicate (s.q.length - k) []
theorem d3w (s:St) : opQ s 0=List.replicate s.q.length []:=by simp [opQ]
theorem c9k (s:St) : opQ s s.q.length=s.q:=by simp [opQ]
theorem c9l {s:St} {k:Nat} (h:k≤s.q.length) : (opQ s k).length=s.q.length:=by
 unfold opQ;rw [List.length_append,List.length_take,List.length_replicate];omega
theorem c9m {s:St} {k:Nat} (h:k < s.q.length) : (opQ s k).set k (qat s.q k)=opQ s (k+1):=by
 unfold opQ;have e:s.q.length - k=(s.q.length - (k+1))+1:=by omega
 rw [e,List.replicate_succ,List.set_append_right _ _ (by rw [List.length_take];omega),l0_ h,f3_ h];have e2:k - (s.q.take k).length=0:=by rw [List.length_take];omega
 rw [e2,List.set_cons_zero,List.append_assoc];rfl
def c9n (r:Ru) (s:St) : Hp:=
 [some (.bag 81 1 false none (d3_ s.q)),some (.box [.osl 0,.osl 4,I s.time,.sl 4 (r.ranks.map Rk.av),I r.back,I r.ret,.osl 3]),some (.arr 85 3 true []),some (.arr 60 3 true []),some (.arr 85 3 (decide (s.tk.map Tk.av=[])) (s.tk.map Tk.av))]
theorem d1v (r:Ru) (s:St) (hn:r.ranks.length≤1000000) (hnm:∀ k,k < r.ranks.length→(rat r.ranks k).name.size≤1000) (hs:SmallS s) (h:ckE r s=0) (hq:s.q.length=r.ranks.length) : VH Tryd.prog 35 [] [c4_ r,c9_ s] [] (c9n r s) (.tup [.ref 1 0,I 0]):=by
 have g:=a3y r s hn hnm hs;have e0:(st0 r).q=opQ s 0:=by rw [d3w,hq];rfl
 have gw:VH Tryd.prog 50 [] [c4_ r] [] [some (.bag 81 1 false none (d3_ (opQ s 0))),some (.box [.osl 0,.osl 2,I 0,.sl 4 (r.ranks.map Rk.av),I r.back,I r.ret,.osl 3]),some (.arr 85 3 true []),some (.arr 60 3 true [])] (.ref 1 0):=by
  have:=b2i r hn;unfold a8j at this;rw [e0] at this;exact this
 have hq1:=hs.q1;have hnt:=hs.nt;have HQ:=Lib.hid hq1;have hqn:=hs.nq;rw [h] at g;clear hnm hs h e0 hq1 hq;unfold c9n;refine i8_ Tryd.func35 rfl (by kernel_rfl) rfl (fun _=>by kernel_rfl) fun M0 w0 vs=>?_;simp only [Tryd.ntmps35,Tryd.results35,b5_];repeat' with_reducible apply a9_
 refine a2_ [] ?_;repeat' first|(with_reducible first|apply a9_|apply a3_|apply a1_)|((with_reducible refine a0_ fun X Y=>?_);go_simp;refine Y _ ?_;clear Y X)
 refine a2_ [] ?_;repeat' first|(with_reducible first|apply a9_|apply a3_|apply a1_)|((with_reducible refine a0_ fun X Y=>?_);go_simp;(first|(refine ⟨_,g,?_⟩)|skip);refine Y _ ?_;clear Y X)
 refine a2_ [] ?_;repeat' first|(with_reducible first|apply a9_|apply a3_|apply b0_|apply a1_)|((with_reducible refine a6_ ?_ ?_);(focus (go_simp;done)))|((with_reducible refine a0_ fun X Y=>?_);go_simp;refine Y _ ?_;clear Y X)
 refine c6_ (b9_ [] 1 ⟨rfl,rfl⟩ ?_);simp only [List.take,List.drop];repeat' first|with_reducible apply a1_|((with_reducible refine a0_ fun X Y=>?_);go_simp;refine Y _ ?_;clear Y X)
 refine e5_ [] [] [] [some (.bag 81 1 false none (d3_ (opQ s 0))),some (.box [.osl 0,.osl 2,I 0,.sl 4 (r.ranks.map Rk.av),I r.back,I r.ret,.osl 3]),some (.arr 85 3 true []),some (.arr 60 3 true [])] (.ref 1 0) rfl (by go_simp) ?_ ?_
 ·unfold j7_;go_simp;refine ⟨_,_,⟨_,gw⟩,?_⟩;go_simp;kernel_rfl
 go_simp;refine b9_ [] 1 ⟨rfl,rfl⟩ ?_;simp only [List.take,List.drop];repeat' first|with_reducible apply a1_|((with_reducible refine a0_ fun X Y=>?_);go_simp;refine Y _ ?_;clear Y X)
 apply e3_;repeat' with_reducible first|apply a9_|apply a3_
 refine a2_ [] ?_;repeat' first|(with_reducible first|apply a3_|apply a8_|apply a1_)|((with_reducible refine a0_ fun X Y=>?_);go_simp;refine Y _ ?_;clear Y X)
 apply b3d [3,7,19,20] (fun k=>[(21,I k)]) (fun k=>([some (.bag 81 1 false none (d3_ (opQ s k))),some (.box [.osl 0,.osl 2,I 0,.sl 4 (r.ranks.map Rk.av),I r.back,I r.ret,.osl 3]),some (.arr 85 3 true []),some (.arr 60 3 true [])] : Hp))  (s.q.length)
 ·go_simp<;>exact rfl
 ·go_simp
 ·intro k hk K hK;obtain ⟨w1,w2,w3,w4,w5,w6⟩:=ixs (m:=k) (by omega);have hl:=c9l (s:=s) (k:=k) (by omega);have hs:=c9m hk;have hkl:(qat s.q k).length≤300:=by rw [f3_ hk];exact (HQ.out _ (List.getElem_mem hk)).1
  repeat' with_reducible apply a9_
  refine a2_ [] ?_;repeat' first|(with_reducible first|apply a9_|apply a3_|apply b0_|apply a8_|apply a1_)|((with_reducible refine a7_ ?_ ?_);(focus (go_simp;done)))|((with_reducible refine a0_ fun X Y=>?_);go_simp;refine Y _ ?_;clear Y X)
  refine a2_ [] ?_;repeat' first|(with_reducible first|apply a3_|apply a1_)|((with_reducible refine a0_ fun X Y=>?_);go_simp;refine Y _ ?_;clear Y X)
  refine x7_ 7 [7,26,26,27,27,28,28,29,29,30,8,31] (by kernel_rfl) (by kernel_rfl) (by kernel_rfl) (fun v=>v) a1t rfl ⟨rfl,rfl⟩ ?_;simp only [List.take];repeat' first|with_reducible apply a5_|((with_reducible refine a4_ fun X Y=>?_);go_simp;refine Y _ ?_;clear Y X)
  refine ⟨_,_,a6o (by exact rfl) (by exact rfl) (by go_simp;exact c2y _ (fun i x hx=>TxO.map _ x (List.mem_of_getElem? hx)) (by rw [List.length_map];omega)) (by go_simp),?_,?_,?_⟩
  ·simp only [List.forall_mem_cons];go_simp
  ·repeat' first|with_reducible apply a5_|((with_reducible refine a4_ fun X Y=>?_);go_simp;refine Y _ ?_;clear Y X)
   simp only [List.forall_mem_cons];go_simp
  go_simp;refine b9_ [] 2 ⟨rfl,rfl⟩ ?_;simp only [List.take,List.drop];repeat' first|with_reducible apply a1_|((with_reducible refine a0_ fun X Y=>?_);go_simp;refine Y _ ?_;clear Y X)
  apply e3_;repeat' with_reducible first|apply a3_|apply b1_
  refine a2_ [] ?_;repeat' first|(with_reducible first|apply a3_|apply a1_)|((with_reducible refine a0_ fun X Y=>?_);go_simp;refine Y _ ?_;clear Y X)
  refine hK _ ?_;rw [←hs,←i4_];go_simp
 ·intro K;rw [c9k];have gk:=c2z (s.tk.map Tk.av) (fun k x hk=>by
   obtain ⟨y,_,rfl⟩:=g2_ hk;refine ⟨rfl,fun c hc=>?_⟩;simp only [Tk.av,List.mem_cons,List.not_mem_nil,or_false] at hc;rcases hc with rfl|rfl|rfl<;>rfl) (by rw [List.length_map];omega)
  repeat' with_reducible apply a9_
  refine a2_ [] ?_;repeat' first|(with_reducible first|apply a9_|apply a3_|apply b8_|apply d4_|apply b7_|apply a1_)|((with_reducible refine a6_ ?_ ?_);(focus (go_simp;done)))|((with_reducible refine a0_ fun X Y=>?_);go_simp;refine Y _ ?_;clear Y X)
  refine c9j 10 4 [6] [] gk (by kernel_rfl) (by kernel_rfl) (by decide) (by kernel_rfl) rfl ⟨rfl,rfl⟩ rfl rfl ⟨rfl,rfl,rfl⟩ ?_;simp only [List.take,List.drop];repeat (first|(refine d0_ rfl ?_)|((with_reducible refine d1_ rfl fun X Y=>?_);go_simp;refine Y _ (by go_simp) ?_;clear Y X)|(with_reducible apply e8_))
  refine ⟨by go_simp,by go_simp,_,(by go_simp;rfl),?_,?_,?_⟩
  ·unfold a7r a7r;go_simp;done
  ·unfold a7r a7r;go_simp;done
  repeat ((with_reducible refine a0_ fun X Y=>?_);go_simp;refine Y _ ?_;clear Y X)
  apply a1_;repeat' with_reducible first|apply a9_|apply a3_
  refine a2_ [] ?_;repeat' first|(with_reducible first|apply a3_|apply c5_|apply a1_)|((with_reducible refine a0_ fun X Y=>?_);go_simp;refine Y _ ?_;clear Y X)
  go_simp
theorem b5g (r:Ru) (s:St) (x:Ev) (hr:RuOK r) (hi:Inv r s) (hn:r.ranks.length≤1000000) (hnm:∀ k,k < r.ranks.length→(rat r.ranks k).name.size≤1000) (hs:SmallS s) (h:ckE r s=0) (hc:x.car.size≤1000) : VC Tryd.prog 15 [c4_ r,c9_ s,evA x] (if apE r s x=0 then .tup [c9_ (apU r s x).1,I 0] else .tup [.agg [f0_,f0_,I 0],I (apE r s x)]):=by
 have gw:=d1v r s hn hnm hs h hi.len;unfold c9n at gw;obtain ⟨a,wa⟩:=b9m r s [] (decide (s.tk.map Tk.av=[])) x hr hi hc;have hZ:apE r s x=0→(apR r s x).1=(apU r s x).1:=fun h0=>by
  unfold apR;rw [if_pos h0]
 have HZ:=Lib.hid hZ;unfold v4_ at wa;generalize decide (s.tk.map Tk.av=[])=F at gw wa;clear hr hi hnm hs h hZ;generalize (apR r s x).1=Z at *;generalize (apR r s x).2=mz at *;generalize (apU r s x).1=U at *;generalize apE r s x=E at *;obtain ⟨res,hres⟩ : ∃ res,(if E=0 then AV.tup [c9_ U,I 0] else .tup [.agg [f0_,f0_,I 0],I E])=res:=⟨_,rfl⟩
 rw [hres];have HR:=Lib.hid hres;clear hres;refine c0_ Tryd.func15 rfl (by kernel_rfl) (by kernel_rfl) rfl fun M0 w0=>?_;simp only [Tryd.ntmps15,Tryd.results15,b5_];repeat' with_reducible apply a9_
 refine a2_ [] ?_;repeat' first|(with_reducible first|apply a9_|apply a3_|apply a1_)|((with_reducible refine a0_ fun X Y=>?_);go_simp;refine Y _ ?_;clear Y X)
 refine c6_ (b9_ [] 2 ⟨rfl,rfl⟩ ?_);simp only [List.take,List.drop];repeat' first|with_reducible apply a1_|((with_reducible refine a0_ fun X Y=>?_);go_simp;refine Y _ ?_;clear Y X)
 refine e5_ [] [] [] [some (.bag 81 1 false none (d3_ s.q)),some (.box [.osl 0,.osl 4,I s.time,.sl 4 (r.ranks.map Rk.av),I r.back,I r.ret,.osl 3]),some (.arr 85 3 true []),some (.arr 60 3 true []),some (.arr 85 3 F (s.tk.map Tk.av))] (.tup [.ref 1 0,I 0]) rfl (by go_simp) ?_ ?_
 ·unfold j7_;go_simp;refine ⟨_,_,⟨_,gw⟩,?_⟩;go_simp;kernel_rfl
 go_simp;refine b9_ [] 5 ⟨rfl,rfl⟩ ?_;simp only [List.take,List.drop];repeat' first|with_reducible apply a1_|((with_reducible refine a0_ fun X Y=>?_);go_simp;refine Y _ ?_;clear Y X)
 apply e3_;refine d7_ 2 6 4 rfl rfl rfl ?_;repeat' with_reducible apply a9_
 refine a2_ [] ?_;repeat' first|(with_reducible first|apply a3_|apply a1_)|((with_reducible refine a7_ ?_ ?_);(focus (go_simp;done)))|((with_reducible refine a0_ fun X Y=>?_);go_simp;refine Y _ ?_;clear Y X)
 refine c6_ (b9_ [] 2 ⟨rfl,rfl⟩ ?_);simp only [List.take,List.drop];repeat' first|with_reducible apply a1_|((with_reducible refine a0_ fun X Y=>?_);go_simp;refine Y _ ?_;clear Y X)
 refine e5_ [2,1,5] [2] [] [some (.box [.osl 1,.osl 2,I Z.time,.sl 4 (r.ranks.map Rk.av),I r.back,I r.ret,.sl 3 (mz.map Sg.av)]),some (.bag 81 1 false none (d3_ Z.q)),some (.arr 85 3 a (Z.tk.map Tk.av))] (I E) rfl (by go_simp) ?_ ?_
 ·unfold j7_;go_simp;refine ⟨_,_,_,wa,?_⟩;go_simp;kernel_rfl
 go_simp;refine b9_ [] 1 ⟨rfl,rfl⟩ ?_;simp only [List.take,List.drop];repeat' first|with_reducible apply a1_|((with_reducible refine a0_ fun X Y=>?_);go_simp;refine Y _ ?_;clear Y X)
 apply e3_;repeat' with_reducible first|apply a9_|apply a3_
 by_cases he:E=0
 ·have e:=HR.out;rw [if_pos he] at e;have hz:=HZ.out he;subst he e hz;refine a2_ [] ?_;repeat' first|(with_reducible first|apply a9_|apply a3_|apply b0_|apply a1_)|((with_reducible refine a6_ ?_ ?_);(focus (go_simp;done)))|((with_reducible refine a0_ fun X Y=>?_);go_simp;refine Y _ ?_;clear Y X)
  refine a2_ [] ?_;repeat ((with_reducible refine a0_ fun X Y=>?_);go_simp;refine Y _ ?_;clear Y X)
  apply a1_;apply a3_;refine u0_ (fun p a w R=>R.bagArr (id:=1) rfl (by kernel_rfl)) ?_;go_simp;refine d7_ 0 0 1 rfl rfl rfl ?_;refine d7_ 0 1 5 rfl rfl rfl ?_;repeat' with_reducible apply c5_
  go_simp
 ·have e:=HR.out;rw [if_neg he] at e;subst e;refine a2_ [] ?_;repeat' first|(with_reducible first|apply a9_|apply a3_|apply a1_)|((with_reducible refine a7_ ?_ ?_);(focus (go_simp;done)))|((with_reducible refine a0_ fun X Y=>?_);go_simp;refine Y _ ?_;clear Y X)
  refine a2_ [] ?_;repeat' first|(with_reducible first|apply a3_|apply b4_|apply c5_|apply a1_)|((with_reducible refine a0_ fun X Y=>?_);go_simp;refine Y _ ?_;clear Y X)
  go_simp
end Go.Proofs.YtoibondihdhnoaaDoor
