/- Texts in one: The walk of the first four examples of the document; no condition. -/
import Derived.Test.YtmfmpagfjgpodaaMS15
import Derived.Test.YtmfmpagfjgpodaaMS16
/-! WQ: The walk of the first four examples of the document; no condition. -/
namespace Go.Proofs.Ytmfmpagfjgpodaa
open Go.RowKit

def exRules : Rul := ⟨900, 36000, 16200, 43200, 200000⟩
def annB : ByteArray := ⟨#[97, 110, 110]⟩
def exAnn : List Rec := [⟨annB, 0, 10000⟩, ⟨annB, 10500, 15000⟩, ⟨annB, 16000, 20000⟩]
set_option maxRecDepth 100000 in
theorem c73 (w : World) : Calls Try.prog 73 #[] w fun e w' => e = .returned (.agg exRules.cells) ∧ Below w.heap.size w w' := by
  go_enter Try.func73, Try.ntmps73
  have K := (Bk.new w 35 #[.int .i64 0, .int .i64 0, .int .i64 0, .int .i64 0, .int .i64 0])
  have c := K.cell
  have f := K.frozen
  go_wp2
  refine bodyPost_ret (v := .agg exRules.cells) (by simp [results, Try.results73, go_sem, exRules, Rul.cells]) rfl ⟨rfl, ?_⟩
  repeat refine bl_set ?_ _ (by simp) _
  exact bl_alloc (Below.refl _ _) _
set_option maxRecDepth 100000 in
theorem c74 (w : World) : Calls Try.prog 74 #[] w fun e w' => ∃ A, e = .returned (.slice A 3 3) ∧ Sl Rec.cells 3 w' A exAnn ∧ Below w.heap.size w w' := by
  go_enter Try.func74, Try.ntmps74
  go_wp2
  go_ret
  exact ⟨_, rfl, Sl.of_row (fun _ => rfl) (heap_alloc_new _ _) rfl, bl_alloc (Below.refl _ _) _⟩
theorem ex_both : bothErr exRules exAnn = 0 := by kernel_rfl
theorem ex_groups : groups exAnn exRules.brk 3 = [(0, 1), (2, 2)] := by kernel_rfl
theorem ex_long : longOut exRules exAnn 20000 = (12200, 0) := by kernel_rfl
theorem ex_allow : allowOut exRules exAnn ⟨20000, 5000, 13000, -1⟩ = (1, 1, 0) := by kernel_rfl
theorem ex_work : workOut exAnn 9000 11000 = (1500, 0) := by kernel_rfl
theorem ex_small : Small exAnn := fun x hx => by
  simp only [exAnn, List.mem_cons, List.not_mem_nil, or_false] at hx
  rcases hx with rfl | rfl | rfl <;> decide
set_option maxRecDepth 100000 in
set_option maxHeartbeats 4000000 in
theorem c17 (w : World) : Calls Try.prog 17 #[] w fun e w' => e = .returned (.bool true) ∧ Below w.heap.size w w' := by
  go_enter Try.func17, Try.ntmps17
  go_wp2_with fail
  refine (c73 _).mono ?_
  rintro e w1 ⟨rfl, hb1⟩
  go_wp2_with fail
  refine (c74 _).mono ?_
  rintro e w2 ⟨A2, rfl, S2, hb2⟩
  have B2 := below_step hb1 hb2
  clear hb1 hb2
  go_wp2_with fail
  refine (c29 exAnn exRules A2 3 3 w2 rfl (by omega) ex_small S2).mono ?_
  rintro e w3 ⟨A3, c3, gs, rfl, hgs, own, hb3⟩
  have hg : gs = [(0, 1), (2, 2)] := by
    rw [ex_both, if_pos rfl] at hgs
    exact hgs.trans ex_groups
  clear hgs
  subst hg
  rw [ex_both]
  have B3 := below_step B2 hb3
  have own3 := own
  clear hb3 S2 B2 own
  have S3 : Sl pairC 2 w3 A3 [((0 : Int), (1 : Int)), (2, 2)] := Sl.of_own (fun _ => rfl) own3 rfl
  clear own3
  go_wp2_with fail
  refine (c73 _).mono ?_
  rintro e w4 ⟨rfl, hb4⟩
  go_wp2_with fail
  refine (c74 _).mono ?_
  rintro e w5 ⟨A5, rfl, S5, hb5⟩
  have L5 := below_step hb4 hb5
  clear hb4 hb5
  go_wp2_with fail
  refine (c27 exAnn exRules 20000 A5 3 3 w5 rfl (by omega) (by omega) ex_small S5).mono ?_
  rintro e w6 ⟨rfl, hb6⟩
  rw [ex_long]
  have L6 := below_step L5 hb6
  clear hb6 L5 S5
  go_wp2_with fail
  refine (c73 _).mono ?_
  rintro e w7 ⟨rfl, hb7⟩
  go_wp2_with fail
  refine (c74 _).mono ?_
  rintro e w8 ⟨A8, rfl, S8, hb8⟩
  have L8 := below_step (below_step L6 hb7) hb8
  clear hb7 hb8 L6
  go_wp2_with fail
  refine (c24 exAnn exRules ⟨20000, 5000, 13000, -1⟩ A8 3 3 w8 rfl (by omega) (by omega) ex_small S8).mono ?_
  rintro e w9 ⟨rfl, hb9⟩
  rw [ex_allow]
  have L9 := below_step L8 hb9
  clear hb9 L8 S8
  go_wp2_with fail
  refine (c74 _).mono ?_
  rintro e w10 ⟨A10, rfl, S10, hb10⟩
  go_wp2_with fail
  refine (c19 exAnn 9000 11000 A10 3 3 w10 rfl (by omega) ex_small S10).mono ?_
  rintro e w11 ⟨rfl, hb11⟩
  rw [ex_work]
  have L11 := below_step (below_step L9 hb10) hb11
  have B11 := below_step B3 L11
  obtain ⟨b, o, rfl, z0, z1⟩ := S3.pairAt (k := 0) (by simp)
  have y0 := below_cell L11 z0
  have y1 := below_cell L11 z1
  clear hb10 hb11 L9 S10 L11 B3 S3 z0 z1
  simp only [List.getElem_cons_zero, Nat.zero_mul, Nat.add_zero] at y0 y1
  dsimp only
  have q5 : ∀ w : World, (binOp .eql 55 (.agg #[.int .i64 0, .int .i64 1]) (.agg #[.int .i64 0, .int .i64 1])).run Try.prog w = .ok (.bool true) w := fun _ => by kernel_rfl
  go_wp2
  go_ret
  exact ⟨rfl, B11⟩

end Go.Proofs.Ytmfmpagfjgpodaa
