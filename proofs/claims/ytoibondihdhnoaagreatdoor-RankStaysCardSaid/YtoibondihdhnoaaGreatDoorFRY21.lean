/- Texts in one: Walks on a town that changes: the first car declines. -/
import Derived.Test.YtoibondihdhnoaaGreatDoorFRY8
import Derived.Test.YtoibondihdhnoaaGreatDoorFRY20
namespace Go.Proofs.YtoibondihdhnoaaGreatDoor
open Go.RowKit
set_option maxRecDepth 100000
set_option maxHeartbeats 2000000
theorem JI (r:Ru) (s:St) (mv:List Sg) (n1 n2:Bool) (x:Ev) (k:Nat) (hx:x.rank=k) (hk:k < s.q.length) (hr:r.ranks.length=s.q.length) (hb:0≤r.back∨r.back = -1) (hq:(qat s.q k).length≤10000) (h0:gL (qat s.q k) x.car=0) :
  VH Tryz.prog 226 (cq r s mv n1 n2) [.ref 0 0,evA x] [0] (cq r ⟨s.q.set k (oD r (qat s.q k) x.car),s.tk,s.time⟩ mv n1 n2) (I 0):=by
 have g1:=xK r s mv x k hx hk;rw [h0] at g1;have vj:1≤(qat s.q k).length:=by
  unfold gL at h0;by_cases h:(qat s.q k).length=0
  ·rw [if_pos h] at h0;cases h0
  ·omega
 clear h0;obtain ⟨kd,tm,rk,car⟩:=x;simp only at hx;subst hx;simp only [evA] at g1 ⊢;unfold oD;rw [List.length_tail];by_cases pB:r.back = -1
 ·have e:lh r ((qat s.q k).length - 1)=(qat s.q k).length - 1:=by unfold lh;rw [if_neg (by omega)]
  rw [e];clear e hb;obtain ⟨ranks,bk,rt⟩:=r;simp only at pB hr;subst pB;refine dk Tryz.func226 rfl (by kernel_rfl) rfl (fun _=>by kernel_rfl) fun M0 w0 vs=>?_;simp only [Tryz.ntmps226,Tryz.results226,aC];unfold cq;simp only;repeat' first|(with_reducible first|apply af|apply ae|apply ao|apply aa|refine ah [] ?_|(apply aj;·go_simp))|((with_reducible apply ab);intro X Y;go_simp;(first|(refine ⟨_,⟨g1,rfl⟩,?_⟩)|skip);apply Y;clear Y X)
  refine bf 11 11 [] rfl (by kernel_rfl) ?_;simp only [aA];repeat' with_reducible first|apply af|apply ae|apply ao|apply aa|refine ah [] ?_|apply aP|(apply aj;·go_simp)|((first|apply ab|apply aO);intro X Y;go_simp;apply Y;clear Y X)
  refine mQ 17 [0,39,39,40,40,41,41,42,42,43,3,44,44,45] (by kernel_rfl) (by kernel_rfl) (by kernel_rfl) (fun v=>v) xw rfl ⟨rfl,rfl⟩ ?_;simp only [List.take];repeat' with_reducible first|apply aP|(apply aO;intro X Y;go_simp;apply Y;clear Y X)
  refine ⟨_,_,xv (by exact rfl) (by exact rfl) (by go_simp;exact Es _ _ _ (by repeat' (first|exact TxO.one _|exact TxO.map _|apply TxO.take|apply TxO.drop|apply TxO.tail)) (by repeat' (first|exact TxO.one _|exact TxO.map _|apply TxO.take|apply TxO.drop|apply TxO.tail)) (by simp;omega)) (by go_simp),?_,?_,?_⟩
  ·simp only [List.forall_mem_cons];go_simp
  ·repeat' with_reducible first|apply aP|(apply aO;intro X Y;go_simp;apply Y;clear Y X)
   simp only [List.forall_mem_cons];go_simp
  go_simp;refine bM [] 2 ⟨rfl,rfl⟩ ?_;simp only [aA];repeat' with_reducible first|apply aa|(apply ab;intro X Y;go_simp;apply Y;clear Y X)
  apply da;repeat' with_reducible first|apply af|apply ae|apply aw|apply aa|refine ah [] ?_|(apply ab;intro X Y;go_simp;apply Y;clear Y X)
  go_simp;rw [←lR];congr 1;rw [vi,←List.map_take,←List.map_drop,List.map_append];rw [List.drop_of_length_le (Nat.le_refl _)];rfl
 ·obtain ⟨p,hp⟩ : ∃ p,lh r ((qat s.q k).length - 1)=p:=⟨_,rfl⟩
  have oG:(if r.back < (((qat s.q k).length - 1:Nat) : Int) then r.back else (((qat s.q k).length - 1:Nat) : Int))=(p:Int):=by
   rw [←hp];unfold lh;rw [if_pos pB];split<;>omega
  have JJ:p≤(qat s.q k).length - 1:=by
   split at oG<;>omega
  rw [hp];clear hp hb;refine dk Tryz.func226 rfl (by kernel_rfl) rfl (fun _=>by kernel_rfl) fun M0 w0 vs=>?_;simp only [Tryz.ntmps226,Tryz.results226,aC];unfold cq;repeat' first|(with_reducible first|apply af|apply ae|apply ao|apply aa|refine ah [] ?_|(apply aj;·go_simp))|((with_reducible apply ab);intro X Y;go_simp;(first|(refine ⟨_,⟨g1,rfl⟩,?_⟩)|skip);apply Y;clear Y X)
  refine bf 11 11 [] rfl (by kernel_rfl) ?_;simp only [aA];repeat' with_reducible first|apply af|apply ae|apply aa|refine ah [] ?_|apply aP|(apply au;·go_simp)|((first|apply ab|apply aO);intro X Y;go_simp;apply Y;clear Y X)
  refine mQ 17 [0,39,39,40,40,41,41,42,42,43,3,44,44,45] (by kernel_rfl) (by kernel_rfl) (by kernel_rfl) (fun v=>v) xw rfl ⟨rfl,rfl⟩ ?_;simp only [List.take];repeat' with_reducible first|apply aP|(apply aO;intro X Y;go_simp;apply Y;clear Y X)
  refine ⟨_,_,xv (by exact rfl) (by exact rfl) (by go_simp;exact Es _ _ _ (by repeat' (first|exact TxO.one _|exact TxO.map _|apply TxO.take|apply TxO.drop|apply TxO.tail)) (by repeat' (first|exact TxO.one _|exact TxO.map _|apply TxO.take|apply TxO.drop|apply TxO.tail)) (by simp;omega)) (by go_simp),?_,?_,?_⟩
  ·simp only [List.forall_mem_cons];go_simp
  ·repeat' with_reducible first|apply aP|(apply aO;intro X Y;go_simp;apply Y;clear Y X)
   simp only [List.forall_mem_cons];go_simp
  go_simp;refine bM [] 2 ⟨rfl,rfl⟩ ?_;simp only [aA];repeat' with_reducible first|apply aa|(apply ab;intro X Y;go_simp;apply Y;clear Y X)
  apply da;repeat' with_reducible first|apply af|apply ae|apply aw|apply aa|refine ah [] ?_|(apply ab;intro X Y;go_simp;apply Y;clear Y X)
  go_simp;rw [←lR];congr 1;rw [vi,←List.map_take,←List.map_drop,List.map_append];rfl
end Go.Proofs.YtoibondihdhnoaaGreatDoor
