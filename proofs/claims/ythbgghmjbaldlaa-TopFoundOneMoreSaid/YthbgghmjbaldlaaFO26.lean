/- Texts in one: Candidates of the program, and rows of numbers compared. -/
import Derived.Test.YthbgghmjbaldlaaFO19
import Derived.Test.YthbgghmjbaldlaaFO13
/-! QT: Candidates of the program, and rows of numbers compared. -/
namespace Go.Proofs.Ythbgghmjbaldlaa
open Go.RowKit
set_option maxRecDepth 100000
set_option maxHeartbeats 1000000
theorem p_Candidates0 (l : List Item) (c : Item) (hx : SmallX l) (hc : SmallI c) (h0 : candE l c = 0) : VC Try.prog 11 [itemsA l, itemA c] (.tup [.sl 1 ((cands l c).map intA), I 0]) := by
  have h1 := p_itemsErr l hx
  have h2 := p_CheckClaim c hc
  have hE : itemsErr l = 0 := fst_zero h0 _ (by simp)
  have hT : thingErr c = 0 := fst_zero h0 _ (by simp)
  have R := (rights_of hx hc hE hT).toRights
  have h3 := VC_of_own (p_candidates l c R)
  rw [hE] at h1
  rw [hT] at h2
  clear R hx hc h0 hE hT
  generalize (cands l c).map intA = C at *
  refine VC_of Try.func11 rfl (by kernel_rfl) (by kernel_rfl) rfl fun M0 w0 => ?_
  simp only [Try.ntmps11, Try.results11, enumA]
  repeat' (first | (with_reducible first | refine vseq ?_ | refine vthenN ?_ | refine vthenE ?_ | refine vthenR ?_ | refine vret ?_ | refine vskip ?_ | refine vexit ?_ | refine vblock ?_ | refine vblockN ?_ | refine vblockR ?_ | refine vblockH ?_ | refine vrun_nil ?_ | refine vblockE rfl ?_ | refine vregion [] ?_ | refine vhrun_nil ?_) | ((with_reducible refine vcondT ?_ ?_); (focus (go_simp; done))) | ((with_reducible refine vcondF ?_ ?_); (focus (go_simp; done))) | ((with_reducible first | refine vrun_cons fun KK hKK => ?_ | refine vhrun_cons fun KK hKK => ?_); go_simp; (first | (with_reducible refine ⟨_, h1, ?_⟩) | (with_reducible refine ⟨_, h2, ?_⟩) | (with_reducible refine ⟨_, h3, ?_⟩) | (refine ⟨_, p_firstA _ rfl rfl, ?_⟩) | skip); refine hKK _ ?_; clear hKK KK) | ((refine vdrawL 7 7 [] rfl (by kernel_rfl) (by kernel_rfl) ?_); simp only [List.take, List.drop]) | ((with_reducible refine vcondS ?_ (fun ht => ?_) (fun ht => ?_)); (focus (go_simp; done)); (all_goals (simp [go_sem] at ht; replace ht := ht.out))))
  go_simp
end Go.Proofs.Ythbgghmjbaldlaa
