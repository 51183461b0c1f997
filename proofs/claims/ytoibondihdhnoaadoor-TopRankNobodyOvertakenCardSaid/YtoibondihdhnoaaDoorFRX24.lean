/- Texts in one: Walks on a town that changes: the first car declines. -/
import Derived.Test.YtoibondihdhnoaaDoorFRX23
namespace Go.Proofs.YtoibondihdhnoaaDoor
open Go.RowKit
set_option maxRecDepth 100000
set_option maxHeartbeats 2000000
theorem b8p (r:Ru) (s:St) (mv:List Sg) (n1 n2:Bool) (x:Ev) (k:Nat) (hx:x.rank=k) (hk:k < s.q.length) (hr:r.ranks.length=s.q.length) (hb:0≤r.back∨r.back = -1) (hq:(qat s.q k).length≤10000) (h0:q8_ (qat s.q k) x.car=0) :
  VH Tryd.prog 111 (f6_ r s mv n1 n2) [.ref 0 0,evA x] [0] (f6_ r ⟨s.q.set k (l5_ r (qat s.q k) x.car),s.tk,s.time⟩ mv n1 n2) (I 0):=by
 have g1:=a2v r s mv x k hx hk;rw [h0] at g1;have hp1:1≤(qat s.q k).length:=by
  unfold q8_ at h0;by_cases h:(qat s.q k).length=0
  ·rw [if_pos h] at h0;cases h0
  ·omega
 clear h0;obtain ⟨kd,tm,rk,car⟩:=x;simp only at hx;subst hx;simp only [evA] at g1 ⊢;unfold l5_;rw [List.length_tail];by_cases hbk:r.back = -1
 ·have e:a1f r ((qat s.q k).length - 1)=(qat s.q k).length - 1:=by unfold a1f;rw [if_neg (by omega)]
  rw [e];clear e hb;obtain ⟨ranks,bk,rt⟩:=r;simp only at hbk hr;subst hbk;refine i8_ Tryd.func111 rfl (by kernel_rfl) rfl (fun _=>by kernel_rfl) fun M0 w0 vs=>?_;simp only [Tryd.ntmps111,Tryd.results111,b5_];unfold f6_;simp only;repeat' first|(with_reducible first|apply a9_|apply a3_|apply b0_|apply a1_|refine a2_ [] ?_)|((with_reducible refine a6_ ?_ ?_);(focus (go_simp;done)))|((with_reducible refine a0_ fun X Y=>?_);go_simp;(first|(refine ⟨_,⟨g1,rfl⟩,?_⟩)|skip);refine Y _ ?_;clear Y X)
  refine b6_ 11 11 [] rfl (by kernel_rfl) (by kernel_rfl) ?_;simp only [List.take,List.drop];repeat' first|(with_reducible first|apply a9_|apply a3_|apply b0_|apply a1_|refine a2_ [] ?_|apply a5_)|((with_reducible refine a6_ ?_ ?_);(focus (go_simp;done)))|((with_reducible first|refine a0_ fun X Y=>?_|refine a4_ fun X Y=>?_);go_simp;refine Y _ ?_;clear Y X)
  refine x7_ 17 [0,39,39,40,40,41,41,42,42,43,3,44,44,45] (by kernel_rfl) (by kernel_rfl) (by kernel_rfl) (fun v=>v) a1t rfl ⟨rfl,rfl⟩ ?_;simp only [List.take];repeat' first|with_reducible apply a5_|((with_reducible refine a4_ fun X Y=>?_);go_simp;refine Y _ ?_;clear Y X)
  refine ⟨_,_,a6o (by exact rfl) (by exact rfl) (by go_simp;exact a9i _ _ _ (by repeat' (first|exact TxO.one _|exact TxO.map _|apply TxO.take|apply TxO.drop|apply TxO.tail)) (by repeat' (first|exact TxO.one _|exact TxO.map _|apply TxO.take|apply TxO.drop|apply TxO.tail)) (by simp;omega)) (by go_simp),?_,?_,?_⟩
  ·simp only [List.forall_mem_cons];go_simp
  ·repeat' first|with_reducible apply a5_|((with_reducible refine a4_ fun X Y=>?_);go_simp;refine Y _ ?_;clear Y X)
   simp only [List.forall_mem_cons];go_simp
  go_simp;refine b9_ [] 2 ⟨rfl,rfl⟩ ?_;simp only [List.take,List.drop];repeat' first|with_reducible apply a1_|((with_reducible refine a0_ fun X Y=>?_);go_simp;refine Y _ ?_;clear Y X)
  apply e3_;repeat' first|(with_reducible first|apply a9_|apply a3_|apply c5_|apply a1_|refine a2_ [] ?_)|((with_reducible refine a0_ fun X Y=>?_);go_simp;refine Y _ ?_;clear Y X)
  go_simp;rw [←i4_];congr 1;rw [a1u,←List.map_take,←List.map_drop,List.map_append];rw [List.drop_of_length_le (Nat.le_refl _)];rfl
 ·obtain ⟨p,hp⟩ : ∃ p,a1f r ((qat s.q k).length - 1)=p:=⟨_,rfl⟩
  have hp2:(if r.back < (((qat s.q k).length - 1:Nat) : Int) then r.back else (((qat s.q k).length - 1:Nat) : Int))=(p:Int):=by
   rw [←hp];unfold a1f;rw [if_pos hbk];split<;>omega
  have hp3:p≤(qat s.q k).length - 1:=by
   split at hp2<;>omega
  rw [hp];clear hp hb;refine i8_ Tryd.func111 rfl (by kernel_rfl) rfl (fun _=>by kernel_rfl) fun M0 w0 vs=>?_;simp only [Tryd.ntmps111,Tryd.results111,b5_];unfold f6_;repeat' first|(with_reducible first|apply a9_|apply a3_|apply b0_|apply a1_|refine a2_ [] ?_)|((with_reducible refine a6_ ?_ ?_);(focus (go_simp;done)))|((with_reducible refine a0_ fun X Y=>?_);go_simp;(first|(refine ⟨_,⟨g1,rfl⟩,?_⟩)|skip);refine Y _ ?_;clear Y X)
  refine b6_ 11 11 [] rfl (by kernel_rfl) (by kernel_rfl) ?_;simp only [List.take,List.drop];repeat' first|(with_reducible first|apply a9_|apply a3_|apply a1_|refine a2_ [] ?_|apply a5_)|((with_reducible refine a7_ ?_ ?_);(focus (go_simp;done)))|((with_reducible first|refine a0_ fun X Y=>?_|refine a4_ fun X Y=>?_);go_simp;refine Y _ ?_;clear Y X)
  refine x7_ 17 [0,39,39,40,40,41,41,42,42,43,3,44,44,45] (by kernel_rfl) (by kernel_rfl) (by kernel_rfl) (fun v=>v) a1t rfl ⟨rfl,rfl⟩ ?_;simp only [List.take];repeat' first|with_reducible apply a5_|((with_reducible refine a4_ fun X Y=>?_);go_simp;refine Y _ ?_;clear Y X)
  refine ⟨_,_,a6o (by exact rfl) (by exact rfl) (by go_simp;exact a9i _ _ _ (by repeat' (first|exact TxO.one _|exact TxO.map _|apply TxO.take|apply TxO.drop|apply TxO.tail)) (by repeat' (first|exact TxO.one _|exact TxO.map _|apply TxO.take|apply TxO.drop|apply TxO.tail)) (by simp;omega)) (by go_simp),?_,?_,?_⟩
  ·simp only [List.forall_mem_cons];go_simp
  ·repeat' first|with_reducible apply a5_|((with_reducible refine a4_ fun X Y=>?_);go_simp;refine Y _ ?_;clear Y X)
   simp only [List.forall_mem_cons];go_simp
  go_simp;refine b9_ [] 2 ⟨rfl,rfl⟩ ?_;simp only [List.take,List.drop];repeat' first|with_reducible apply a1_|((with_reducible refine a0_ fun X Y=>?_);go_simp;refine Y _ ?_;clear Y X)
  apply e3_;repeat' first|(with_reducible first|apply a9_|apply a3_|apply c5_|apply a1_|refine a2_ [] ?_)|((with_reducible refine a0_ fun X Y=>?_);go_simp;refine Y _ ?_;clear Y X)
  go_simp;rw [←i4_];congr 1;rw [a1u,←List.map_take,←List.map_drop,List.map_append];rfl
end Go.Proofs.YtoibondihdhnoaaDoor
