/- Texts in one: Walks: a state is opened as a town. -/
import Derived.Test.YtoibondihdhnoaaGreatDoorFRL47
import Derived.Test.YtoibondihdhnoaaGreatDoorFRL54
import Derived.Test.YtoibondihdhnoaaGreatDoorFRL59
import Derived.Test.YtoibondihdhnoaaGreatDoorFRL28
import Derived.Test.YtoibondihdhnoaaGreatDoorFRL29
namespace Go.Proofs.YtoibondihdhnoaaGreatDoor
open Go.RowKit
set_option maxRecDepth 100000
set_option maxHeartbeats 4000000
def opQ (s:St) (k:Nat) : List (List ByteArray):=s.q.take k++List.replicate (s.q.length - k) []
theorem d2e (s:St) : opQ s 0=List.replicate s.q.length []:=by simp [opQ]
theorem c7z (s:St) : opQ s s.q.length=s.q:=by simp [opQ]
theorem c8a {s:St} {k:Nat} (h:k≤s.q.length) : (opQ s k).length=s.q.length:=by
 unfold opQ;rw [List.length_append,List.length_take,List.length_replicate];omega
theorem c8b {s:St} {k:Nat} (h:k < s.q.length) : (opQ s k).set k (qat s.q k)=opQ s (k+1):=by
 unfold opQ;have e:s.q.length - k=(s.q.length - (k+1))+1:=by omega
 rw [e,List.replicate_succ,List.set_append_right _ _ (by rw [List.length_take];omega),k0_ h,f5_ h];have e2:k - (s.q.take k).length=0:=by rw [List.length_take];omega
 rw [e2,List.set_cons_zero,List.append_assoc];rfl
def c8c (r:Ru) (s:St) : Hp:=
 [some (.bag 62 1 false none (e7_ s.q)),some (.box [.osl 0,.osl 4,I s.time,.sl 4 (r.ranks.map Rk.av),I r.back,I r.ret,.osl 3]),some (.arr 148 3 true []),some (.arr 45 3 true []),some (.arr 148 3 (decide (s.tk.map Tk.av=[])) (s.tk.map Tk.av))]
theorem d0i (r:Ru) (s:St) (hn:r.ranks.length≤1000000) (hnm:∀ k,k < r.ranks.length→(rat r.ranks k).name.size≤1000) (hs:SmallS s) (h:ckE r s=0) (hq:s.q.length=r.ranks.length) : VH Tryz.prog 127 [] [d1_ r,j0_ s] [] (c8c r s) (.tup [.ref 1 0,I 0]):=by
 have g:=a2f r s hn hnm hs;have e0:(st0 r).q=opQ s 0:=by rw [d2e,hq];rfl
 have gw:VH Tryz.prog 100 [] [d1_ r] [] [some (.bag 62 1 false none (e7_ (opQ s 0))),some (.box [.osl 0,.osl 2,I 0,.sl 4 (r.ranks.map Rk.av),I r.back,I r.ret,.osl 3]),some (.arr 148 3 true []),some (.arr 45 3 true [])] (.ref 1 0):=by
  have:=a6q r hn;unfold a2k at this;rw [e0] at this;exact this
 have hq1:=hs.q1;have hnt:=hs.nt;have HQ:=Lib.hid hq1;have hqn:=hs.nq;rw [h] at g;clear hnm hs h e0 hq1 hq;unfold c8c;refine g1_ Tryz.func127 rfl (by kernel_rfl) rfl (fun _=>by kernel_rfl) fun M0 w0 vs=>?_;simp only [Tryz.ntmps127,Tryz.results127,b4_];repeat' with_reducible apply a8_
 refine a2_ [] ?_;repeat' first|(with_reducible first|apply a8_|apply a3_|apply a1_)|((with_reducible refine a0_ fun X Y=>?_);go_simp;refine Y _ ?_;clear Y X)
 refine a2_ [] ?_;repeat' first|(with_reducible first|apply a8_|apply a3_|apply a1_)|((with_reducible refine a0_ fun X Y=>?_);go_simp;(first|(refine ⟨_,g,?_⟩)|skip);refine Y _ ?_;clear Y X)
 refine a2_ [] ?_;repeat' first|(with_reducible first|apply a8_|apply a3_|apply b1_|apply a1_)|((with_reducible refine a6_ ?_ ?_);(focus (go_simp;done)))|((with_reducible refine a0_ fun X Y=>?_);go_simp;refine Y _ ?_;clear Y X)
 refine c3_ (b8_ [] 1 ⟨rfl,rfl⟩ ?_);simp only [List.take,List.drop];repeat' first|with_reducible apply a1_|((with_reducible refine a0_ fun X Y=>?_);go_simp;refine Y _ ?_;clear Y X)
 refine d7_ [] [] [] [some (.bag 62 1 false none (e7_ (opQ s 0))),some (.box [.osl 0,.osl 2,I 0,.sl 4 (r.ranks.map Rk.av),I r.back,I r.ret,.osl 3]),some (.arr 148 3 true []),some (.arr 45 3 true [])] (.ref 1 0) rfl (by go_simp) ?_ ?_
 ·unfold i0_;go_simp;refine ⟨_,_,⟨_,gw⟩,?_⟩;go_simp;kernel_rfl
 go_simp;refine b8_ [] 1 ⟨rfl,rfl⟩ ?_;simp only [List.take,List.drop];repeat' first|with_reducible apply a1_|((with_reducible refine a0_ fun X Y=>?_);go_simp;refine Y _ ?_;clear Y X)
 apply d3_;repeat' with_reducible first|apply a8_|apply a3_
 refine a2_ [] ?_;repeat' first|(with_reducible first|apply a3_|apply a9_|apply a1_)|((with_reducible refine a0_ fun X Y=>?_);go_simp;refine Y _ ?_;clear Y X)
 apply c1b [3,7,19,20] (fun k=>[(21,I k)]) (fun k=>([some (.bag 62 1 false none (e7_ (opQ s k))),some (.box [.osl 0,.osl 2,I 0,.sl 4 (r.ranks.map Rk.av),I r.back,I r.ret,.osl 3]),some (.arr 148 3 true []),some (.arr 45 3 true [])] : Hp))  (s.q.length)
 ·go_simp<;>exact rfl
 ·go_simp
 ·intro k hk K hK;obtain ⟨w1,w2,w3,w4,w5,w6⟩:=ixs (m:=k) (by omega);have hl:=c8a (s:=s) (k:=k) (by omega);have hs:=c8b hk;have hkl:(qat s.q k).length≤300:=by rw [f5_ hk];exact (HQ.out _ (List.getElem_mem hk)).1
  repeat' with_reducible apply a8_
  refine a2_ [] ?_;repeat' first|(with_reducible first|apply a8_|apply a3_|apply b1_|apply a9_|apply a1_)|((with_reducible refine a7_ ?_ ?_);(focus (go_simp;done)))|((with_reducible refine a0_ fun X Y=>?_);go_simp;refine Y _ ?_;clear Y X)
  refine a2_ [] ?_;repeat' first|(with_reducible first|apply a3_|apply a1_)|((with_reducible refine a0_ fun X Y=>?_);go_simp;refine Y _ ?_;clear Y X)
  refine y4_ 7 [7,26,26,27,27,28,28,29,29,30,8,31] (by kernel_rfl) (by kernel_rfl) (by kernel_rfl) (fun v=>v) a0l rfl ⟨rfl,rfl⟩ ?_;simp only [List.take];repeat' first|with_reducible apply a5_|((with_reducible refine a4_ fun X Y=>?_);go_simp;refine Y _ ?_;clear Y X)
  refine ⟨_,_,a4y (by exact rfl) (by exact rfl) (by go_simp;exact c1z _ (fun i x hx=>TxO.map _ x (List.mem_of_getElem? hx)) (by rw [List.length_map];omega)) (by go_simp),?_,?_,?_⟩
  ·simp only [List.forall_mem_cons];go_simp
  ·repeat' first|with_reducible apply a5_|((with_reducible refine a4_ fun X Y=>?_);go_simp;refine Y _ ?_;clear Y X)
   simp only [List.forall_mem_cons];go_simp
  go_simp;refine b8_ [] 2 ⟨rfl,rfl⟩ ?_;simp only [List.take,List.drop];repeat' first|with_reducible apply a1_|((with_reducible refine a0_ fun X Y=>?_);go_simp;refine Y _ ?_;clear Y X)
  apply d3_;repeat' with_reducible first|apply a3_|apply b5_
  refine a2_ [] ?_;repeat' first|(with_reducible first|apply a3_|apply a1_)|((with_reducible refine a0_ fun X Y=>?_);go_simp;refine Y _ ?_;clear Y X)
  refine hK _ ?_;rw [←hs,←i1_];go_simp
 ·intro K;rw [c7z];have gk:=c2a (s.tk.map Tk.av) (fun k x hk=>by
   obtain ⟨y,_,rfl⟩:=f1_ hk;refine ⟨rfl,fun c hc=>?_⟩;simp only [Tk.av,List.mem_cons,List.not_mem_nil,or_false] at hc;rcases hc with rfl|rfl|rfl<;>rfl) (by rw [List.length_map];omega)
  repeat' with_reducible apply a8_
  refine a2_ [] ?_;repeat' first|(with_reducible first|apply a8_|apply a3_|apply c1_|apply e0_|apply b6_|apply a1_)|((with_reducible refine a6_ ?_ ?_);(focus (go_simp;done)))|((with_reducible refine a0_ fun X Y=>?_);go_simp;refine Y _ ?_;clear Y X)
  refine c7t 10 4 [6] [] gk (by kernel_rfl) (by kernel_rfl) (by decide) (by kernel_rfl) rfl ⟨rfl,rfl⟩ rfl rfl ⟨rfl,rfl,rfl⟩ ?_;simp only [List.take,List.drop];repeat (first|(refine x9_ rfl ?_)|((with_reducible refine y0_ rfl fun X Y=>?_);go_simp;refine Y _ (by go_simp) ?_;clear Y X)|(with_reducible apply a1y))
  refine ⟨by go_simp,by go_simp,_,(by go_simp;rfl),?_,?_,?_⟩
  ·unfold a7x a7x;go_simp;done
  ·unfold a7x a7x;go_simp;done
  repeat ((with_reducible refine a0_ fun X Y=>?_);go_simp;refine Y _ ?_;clear Y X)
  apply a1_;repeat' with_reducible first|apply a8_|apply a3_
  refine a2_ [] ?_;repeat' first|(with_reducible first|apply a3_|apply c2_|apply a1_)|((with_reducible refine a0_ fun X Y=>?_);go_simp;refine Y _ ?_;clear Y X)
  go_simp
theorem c4a (r:Ru) (s:St) (x:Ev) (hr:RuOK r) (hi:Inv r s) (hn:r.ranks.length≤1000000) (hnm:∀ k,k < r.ranks.length→(rat r.ranks k).name.size≤1000) (hs:SmallS s) (h:ckE r s=0) (hc:x.car.size≤1000) : VC Tryz.prog 66 [d1_ r,j0_ s,evA x] (if apE r s x=0 then .tup [j0_ (apU r s x).1,I 0] else .tup [.agg [l6_,l6_,I 0],I (apE r s x)]):=by
 have gw:=d0i r s hn hnm hs h hi.len;unfold c8c at gw;obtain ⟨a,wa⟩:=b7o r s [] (decide (s.tk.map Tk.av=[])) x hr hi hc;have hZ:apE r s x=0→(apR r s x).1=(apU r s x).1:=fun h0=>by
  unfold apR;rw [if_pos h0]
 have HZ:=Lib.hid hZ;unfold m0_ at wa;generalize decide (s.tk.map Tk.av=[])=F at gw wa;clear hr hi hnm hs h hZ;generalize (apR r s x).1=Z at *;generalize (apR r s x).2=mz at *;generalize (apU r s x).1=U at *;generalize apE r s x=E at *;obtain ⟨res,hres⟩ : ∃ res,(if E=0 then AV.tup [j0_ U,I 0] else .tup [.agg [l6_,l6_,I 0],I E])=res:=⟨_,rfl⟩
 rw [hres];have HR:=Lib.hid hres;clear hres;refine c4_ Tryz.func66 rfl (by kernel_rfl) (by kernel_rfl) rfl fun M0 w0=>?_;simp only [Tryz.ntmps66,Tryz.results66,b4_];repeat' with_reducible apply a8_
 refine a2_ [] ?_;repeat' first|(with_reducible first|apply a8_|apply a3_|apply a1_)|((with_reducible refine a0_ fun X Y=>?_);go_simp;refine Y _ ?_;clear Y X)
 refine c3_ (b8_ [] 2 ⟨rfl,rfl⟩ ?_);simp only [List.take,List.drop];repeat' first|with_reducible apply a1_|((with_reducible refine a0_ fun X Y=>?_);go_simp;refine Y _ ?_;clear Y X)
 refine d7_ [] [] [] [some (.bag 62 1 false none (e7_ s.q)),some (.box [.osl 0,.osl 4,I s.time,.sl 4 (r.ranks.map Rk.av),I r.back,I r.ret,.osl 3]),some (.arr 148 3 true []),some (.arr 45 3 true []),some (.arr 148 3 F (s.tk.map Tk.av))] (.tup [.ref 1 0,I 0]) rfl (by go_simp) ?_ ?_
 ·unfold i0_;go_simp;refine ⟨_,_,⟨_,gw⟩,?_⟩;go_simp;kernel_rfl
 go_simp;refine b8_ [] 5 ⟨rfl,rfl⟩ ?_;simp only [List.take,List.drop];repeat' first|with_reducible apply a1_|((with_reducible refine a0_ fun X Y=>?_);go_simp;refine Y _ ?_;clear Y X)
 apply d3_;refine f8_ 2 6 4 rfl rfl rfl ?_;repeat' with_reducible apply a8_
 refine a2_ [] ?_;repeat' first|(with_reducible first|apply a3_|apply a1_)|((with_reducible refine a7_ ?_ ?_);(focus (go_simp;done)))|((with_reducible refine a0_ fun X Y=>?_);go_simp;refine Y _ ?_;clear Y X)
 refine c3_ (b8_ [] 2 ⟨rfl,rfl⟩ ?_);simp only [List.take,List.drop];repeat' first|with_reducible apply a1_|((with_reducible refine a0_ fun X Y=>?_);go_simp;refine Y _ ?_;clear Y X)
 refine d7_ [2,1,5] [2] [] [some (.box [.osl 1,.osl 2,I Z.time,.sl 4 (r.ranks.map Rk.av),I r.back,I r.ret,.sl 3 (mz.map Sg.av)]),some (.bag 62 1 false none (e7_ Z.q)),some (.arr 148 3 a (Z.tk.map Tk.av))] (I E) rfl (by go_simp) ?_ ?_
 ·unfold i0_;go_simp;refine ⟨_,_,_,wa,?_⟩;go_simp;kernel_rfl
 go_simp;refine b8_ [] 1 ⟨rfl,rfl⟩ ?_;simp only [List.take,List.drop];repeat' first|with_reducible apply a1_|((with_reducible refine a0_ fun X Y=>?_);go_simp;refine Y _ ?_;clear Y X)
 apply d3_;repeat' with_reducible first|apply a8_|apply a3_
 by_cases he:E=0
 ·have e:=HR.out;rw [if_pos he] at e;have hz:=HZ.out he;subst he e hz;refine a2_ [] ?_;repeat' first|(with_reducible first|apply a8_|apply a3_|apply b1_|apply a1_)|((with_reducible refine a6_ ?_ ?_);(focus (go_simp;done)))|((with_reducible refine a0_ fun X Y=>?_);go_simp;refine Y _ ?_;clear Y X)
  refine a2_ [] ?_;repeat ((with_reducible refine a0_ fun X Y=>?_);go_simp;refine Y _ ?_;clear Y X)
  apply a1_;apply a3_;refine z4_ (fun p a w R=>R.bagArr (id:=1) rfl (by kernel_rfl)) ?_;go_simp;refine f8_ 0 0 1 rfl rfl rfl ?_;refine f8_ 0 1 5 rfl rfl rfl ?_;repeat' with_reducible apply c2_
  go_simp
 ·have e:=HR.out;rw [if_neg he] at e;subst e;refine a2_ [] ?_;repeat' first|(with_reducible first|apply a8_|apply a3_|apply a1_)|((with_reducible refine a7_ ?_ ?_);(focus (go_simp;done)))|((with_reducible refine a0_ fun X Y=>?_);go_simp;refine Y _ ?_;clear Y X)
  refine a2_ [] ?_;repeat' first|(with_reducible first|apply a3_|apply b3_|apply c2_|apply a1_)|((with_reducible refine a0_ fun X Y=>?_);go_simp;refine Y _ ?_;clear Y X)
  go_simp
end Go.Proofs.YtoibondihdhnoaaGreatDoor
