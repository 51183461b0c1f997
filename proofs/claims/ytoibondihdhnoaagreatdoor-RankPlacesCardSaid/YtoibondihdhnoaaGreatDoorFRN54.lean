/- Texts in one: Walks: a state is opened as a town. -/
import Derived.Test.YtoibondihdhnoaaGreatDoorFRN47
import Derived.Test.YtoibondihdhnoaaGreatDoorFRN52
import Derived.Test.YtoibondihdhnoaaGreatDoorFRN53
import Derived.Test.YtoibondihdhnoaaGreatDoorFRN28
import Derived.Test.YtoibondihdhnoaaGreatDoorFRN29
namespace Go.Proofs.YtoibondihdhnoaaGreatDoor
open Go.RowKit
set_option maxRecDepth 100000
set_option maxHeartbeats 4000000
def opQ (s:St) (k:Nat) : List (List ByteArray):=s.q.take k++List.replicate (s.q.length - k) []
theorem d2m (s:St) : opQ s 0=List.replicate s.q.length []:=by simp [opQ]
theorem c8c (s:St) : opQ s s.q.length=s.q:=by simp [opQ]
theorem c8d {s:St} {k:Nat} (h:k≤s.q.length) : (opQ s k).length=s.q.length:=by
 unfold opQ;rw [List.length_append,List.length_take,List.length_replicate];omega
theorem c8e {s:St} {k:Nat} (h:k < s.q.length) : (opQ s k).set k (qat s.q k)=opQ s (k+1):=by
 unfold opQ;have e:s.q.length - k=(s.q.length - (k+1))+1:=by omega
 rw [e,List.replicate_succ,List.set_append_right _ _ (by rw [List.length_take];omega),l1_ h,d8_ h];have e2:k - (s.q.take k).length=0:=by rw [List.length_take];omega
 rw [e2,List.set_cons_zero,List.append_assoc];rfl
theorem c8f (r:Ru) (s:St) (hn:r.ranks.length≤1000000) (hnm:∀ k,k < r.ranks.length→(rat r.ranks k).name.size≤1000) (hs:SmallS s) (h:ckE r s≠0) : VC Tryz.prog 127 [c3_ r,e3_ s] (.tup [.lit (.pointer none),I (ckE r s)]):=by
 have g:=q6_ r s hn hnm hs;clear hnm hs;generalize ckE r s=E at *;refine c2_ Tryz.func127 rfl (by kernel_rfl) (by kernel_rfl) rfl fun M0 w0=>?_;simp only [Tryz.ntmps127,Tryz.results127,b4_];repeat' first|(with_reducible first|apply a8_|apply a3_|apply b5_|apply c4_|apply a1_|refine a2_ [] ?_)|((with_reducible refine a7_ ?_ ?_);(focus (go_simp;done)))|((with_reducible refine a0_ fun X Y=>?_);go_simp;(first|(refine ⟨_,g,?_⟩)|skip);refine Y _ ?_;clear Y X)
 go_simp
def d0p (r:Ru) (s:St) : Hp:=
 [some (.bag 62 1 false none (f3_ s.q)),some (.box [.osl 0,.osl 4,I s.time,.sl 4 (r.ranks.map Rk.av),I r.back,I r.ret,.osl 3]),some (.arr 148 3 true []),some (.arr 45 3 true []),some (.arr 148 3 (decide (s.tk.map Tk.av=[])) (s.tk.map Tk.av))]
theorem d0q (r:Ru) (s:St) (hn:r.ranks.length≤1000000) (hnm:∀ k,k < r.ranks.length→(rat r.ranks k).name.size≤1000) (hs:SmallS s) (h:ckE r s=0) (hq:s.q.length=r.ranks.length) : VH Tryz.prog 127 [] [c3_ r,e3_ s] [] (d0p r s) (.tup [.ref 1 0,I 0]):=by
 have g:=q6_ r s hn hnm hs;have e0:(st0 r).q=opQ s 0:=by rw [d2m,hq];rfl
 have gw:VH Tryz.prog 100 [] [c3_ r] [] [some (.bag 62 1 false none (f3_ (opQ s 0))),some (.box [.osl 0,.osl 2,I 0,.sl 4 (r.ranks.map Rk.av),I r.back,I r.ret,.osl 3]),some (.arr 148 3 true []),some (.arr 45 3 true [])] (.ref 1 0):=by
  have:=a6t r hn;unfold a2q at this;rw [e0] at this;exact this
 have hq1:=hs.q1;have hnt:=hs.nt;have HQ:=Lib.hid hq1;have hqn:=hs.nq;rw [h] at g;clear hnm hs h e0 hq1 hq;unfold d0p;refine g4_ Tryz.func127 rfl (by kernel_rfl) rfl (fun _=>by kernel_rfl) fun M0 w0 vs=>?_;simp only [Tryz.ntmps127,Tryz.results127,b4_];repeat' with_reducible apply a8_
 refine a2_ [] ?_;repeat' first|(with_reducible first|apply a8_|apply a3_|apply a1_)|((with_reducible refine a0_ fun X Y=>?_);go_simp;refine Y _ ?_;clear Y X)
 refine a2_ [] ?_;repeat' first|(with_reducible first|apply a8_|apply a3_|apply a1_)|((with_reducible refine a0_ fun X Y=>?_);go_simp;(first|(refine ⟨_,g,?_⟩)|skip);refine Y _ ?_;clear Y X)
 refine a2_ [] ?_;repeat' first|(with_reducible first|apply a8_|apply a3_|apply b1_|apply a1_)|((with_reducible refine a6_ ?_ ?_);(focus (go_simp;done)))|((with_reducible refine a0_ fun X Y=>?_);go_simp;refine Y _ ?_;clear Y X)
 refine c7_ (c0_ [] 1 ⟨rfl,rfl⟩ ?_);simp only [List.take,List.drop];repeat' first|with_reducible apply a1_|((with_reducible refine a0_ fun X Y=>?_);go_simp;refine Y _ ?_;clear Y X)
 refine e0_ [] [] [] [some (.bag 62 1 false none (f3_ (opQ s 0))),some (.box [.osl 0,.osl 2,I 0,.sl 4 (r.ranks.map Rk.av),I r.back,I r.ret,.osl 3]),some (.arr 148 3 true []),some (.arr 45 3 true [])] (.ref 1 0) rfl (by go_simp) ?_ ?_
 ·unfold i9_;go_simp;refine ⟨_,_,⟨_,gw⟩,?_⟩;go_simp;kernel_rfl
 go_simp;refine c0_ [] 1 ⟨rfl,rfl⟩ ?_;simp only [List.take,List.drop];repeat' first|with_reducible apply a1_|((with_reducible refine a0_ fun X Y=>?_);go_simp;refine Y _ ?_;clear Y X)
 apply d6_;repeat' with_reducible first|apply a8_|apply a3_
 refine a2_ [] ?_;repeat' first|(with_reducible first|apply a3_|apply a9_|apply a1_)|((with_reducible refine a0_ fun X Y=>?_);go_simp;refine Y _ ?_;clear Y X)
 apply b4o [3,7,19,20] (fun k=>[(21,I k)]) (fun k=>([some (.bag 62 1 false none (f3_ (opQ s k))),some (.box [.osl 0,.osl 2,I 0,.sl 4 (r.ranks.map Rk.av),I r.back,I r.ret,.osl 3]),some (.arr 148 3 true []),some (.arr 45 3 true [])] : Hp))  (s.q.length)
 ·go_simp<;>exact rfl
 ·go_simp
 ·intro k hk K hK;obtain ⟨w1,w2,w3,w4,w5,w6⟩:=ixs (m:=k) (by omega);have hl:=c8d (s:=s) (k:=k) (by omega);have hs:=c8e hk;have hkl:(qat s.q k).length≤300:=by rw [d8_ hk];exact (HQ.out _ (List.getElem_mem hk)).1
  repeat' with_reducible apply a8_
  refine a2_ [] ?_;repeat' first|(with_reducible first|apply a8_|apply a3_|apply b1_|apply a9_|apply a1_)|((with_reducible refine a7_ ?_ ?_);(focus (go_simp;done)))|((with_reducible refine a0_ fun X Y=>?_);go_simp;refine Y _ ?_;clear Y X)
  refine a2_ [] ?_;repeat' first|(with_reducible first|apply a3_|apply a1_)|((with_reducible refine a0_ fun X Y=>?_);go_simp;refine Y _ ?_;clear Y X)
  refine y9_ 7 [7,26,26,27,27,28,28,29,29,30,8,31] (by kernel_rfl) (by kernel_rfl) (by kernel_rfl) (fun v=>v) a0q rfl ⟨rfl,rfl⟩ ?_;simp only [List.take];repeat' first|with_reducible apply a5_|((with_reducible refine a4_ fun X Y=>?_);go_simp;refine Y _ ?_;clear Y X)
  refine ⟨_,_,a5b (by exact rfl) (by exact rfl) (by go_simp;exact b2v _ (fun i x hx=>TxO.map _ x (List.mem_of_getElem? hx)) (by rw [List.length_map];omega)) (by go_simp),?_,?_,?_⟩
  ·simp only [List.forall_mem_cons];go_simp
  ·repeat' first|with_reducible apply a5_|((with_reducible refine a4_ fun X Y=>?_);go_simp;refine Y _ ?_;clear Y X)
   simp only [List.forall_mem_cons];go_simp
  go_simp;refine c0_ [] 2 ⟨rfl,rfl⟩ ?_;simp only [List.take,List.drop];repeat' first|with_reducible apply a1_|((with_reducible refine a0_ fun X Y=>?_);go_simp;refine Y _ ?_;clear Y X)
  apply d6_;repeat' with_reducible first|apply a3_|apply b3_
  refine a2_ [] ?_;repeat' first|(with_reducible first|apply a3_|apply a1_)|((with_reducible refine a0_ fun X Y=>?_);go_simp;refine Y _ ?_;clear Y X)
  refine hK _ ?_;rw [←hs,←i2_];go_simp
 ·intro K;rw [c8c];have gk:=c2c (s.tk.map Tk.av) (fun k x hk=>by
   obtain ⟨y,_,rfl⟩:=f2_ hk;refine ⟨rfl,fun c hc=>?_⟩;simp only [Tk.av,List.mem_cons,List.not_mem_nil,or_false] at hc;rcases hc with rfl|rfl|rfl<;>rfl) (by rw [List.length_map];omega)
  repeat' with_reducible apply a8_
  refine a2_ [] ?_;repeat' first|(with_reducible first|apply a8_|apply a3_|apply b8_|apply d0_|apply b7_|apply a1_)|((with_reducible refine a6_ ?_ ?_);(focus (go_simp;done)))|((with_reducible refine a0_ fun X Y=>?_);go_simp;refine Y _ ?_;clear Y X)
  refine c8b 10 4 [6] [] gk (by kernel_rfl) (by kernel_rfl) (by decide) (by kernel_rfl) rfl ⟨rfl,rfl⟩ rfl rfl ⟨rfl,rfl,rfl⟩ ?_;simp only [List.take,List.drop];repeat (first|(refine y5_ rfl ?_)|((with_reducible refine y6_ rfl fun X Y=>?_);go_simp;refine Y _ (by go_simp) ?_;clear Y X)|(with_reducible apply a2b))
  refine ⟨by go_simp,by go_simp,_,(by go_simp;rfl),?_,?_,?_⟩
  ·unfold a8c a8c;go_simp;done
  ·unfold a8c a8c;go_simp;done
  repeat ((with_reducible refine a0_ fun X Y=>?_);go_simp;refine Y _ ?_;clear Y X)
  apply a1_;repeat' with_reducible first|apply a8_|apply a3_
  refine a2_ [] ?_;repeat' first|(with_reducible first|apply a3_|apply c4_|apply a1_)|((with_reducible refine a0_ fun X Y=>?_);go_simp;refine Y _ ?_;clear Y X)
  go_simp
end Go.Proofs.YtoibondihdhnoaaGreatDoor
