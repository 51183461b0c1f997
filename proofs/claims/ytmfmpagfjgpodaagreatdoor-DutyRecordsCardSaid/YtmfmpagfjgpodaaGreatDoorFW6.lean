/- Texts in one: What the rows of the laws of records lay: the facts about package variables that the walks ask for. -/
import Derived.Test.YtmfmpagfjgpodaaGreatDoorFW5
import Derived.Test.YtmfmpagfjgpodaaGreatDoorRows
import Derived.Shelf.Vars
/-! SWL0: What the rows of the laws of records lay: the facts about package variables that the walks ask for. -/
namespace Go.Proofs.YtmfmpagfjgpodaaGreatDoor
open Go.RowKit Go.ChangeShapes Go.WideShapes
set_option maxRecDepth 100000
theorem star : "*" ++ "errors.errorString" = "*errors.errorString" := by decide
theorem row_err (u : TypeId) (h : Tryz.prog.typeName? 3 u = some "*errors.errorString") : u = 136 :=
  typeName_ptr_named (nm := "errors.errorString") (by rw [star]; kernel_rfl) (by kernel_rfl) (by decide) u (by rw [star]; exact h)
section
variable {W : World} (h : laidMetH Tryz.prog Rows.dutyRecordsRow.laid W)
include h
theorem laid_pow : Lib.TabIs Tryz.prog W "internal/strconv.uint64pow10" .u64 Lib.pow10Tab :=
  Lib.tabIs_of_head (t := 140) (e := 122) (n := 20) (g := 3) (rest := []) (by kernel_rfl) (by kernel_rfl) Tryz.underlying140 Tryz.underlying122 (by kernel_rfl) (by kernel_rfl)
    (laid_one h "internal/strconv.uint64pow10" (x := ("internal/strconv.uint64pow10", Lib.tabData .u64 Lib.pow10Tab)) (by kernel_rfl))
theorem laid_syn : ∃ t q, W.cell? ⟨0, 0, none⟩ = some (.iface t q) := by
  obtain ⟨a, s, hv, _⟩ := laid_sentinel (g := 0) (ti := 73) (tp := 136) (te := 138) (ts := 9) (r := []) (laid_one h "strconv.ErrSyntax" (x := ("strconv.ErrSyntax", Rows.laid_strconv_ErrSyntax)) (by kernel_rfl)) (by kernel_rfl) (by kernel_rfl) Tryz.underlying73
    row_err Tryz.underlying136 Tryz.underlying138 rfl rfl Tryz.underlying9 (by kernel_rfl) (by kernel_rfl)
  exact ⟨_, _, World.var?_cell (by kernel_rfl) hv 0⟩
theorem laid_ran : ∃ t q, W.cell? ⟨1, 0, none⟩ = some (.iface t q) := by
  obtain ⟨a, s, hv, _⟩ := laid_sentinel (g := 1) (ti := 73) (tp := 136) (te := 138) (ts := 9) (r := []) (laid_one h "strconv.ErrRange" (x := ("strconv.ErrRange", Rows.laid_strconv_ErrRange)) (by kernel_rfl)) (by kernel_rfl) (by kernel_rfl) Tryz.underlying73
    row_err Tryz.underlying136 Tryz.underlying138 rfl rfl Tryz.underlying9 (by kernel_rfl) (by kernel_rfl)
  exact ⟨_, _, World.var?_cell (by kernel_rfl) hv 0⟩
end
theorem shape_max {W : World} (hs : W.ShapedOpen Tryz.prog) : ∃ m, W.cell? ⟨2, 0, none⟩ = some (.int .i64 m) :=
  cell_of_shapedOpen_int (t := 3) (zero := #[.int .i64 0]) hs (of_decide_eq_true (by kernel_rfl)) (by kernel_rfl) rfl (by kernel_rfl) (by kernel_rfl) Tryz.underlying3
theorem mok_laid {W : World} (h : laidMetH Tryz.prog Rows.dutyRecordsRow.laid W) (hs : W.ShapedOpen Tryz.prog) : MOK W fun _ => False := by
  obtain ⟨m, hm⟩ := shape_max hs
  obtain ⟨t3, q3, h3⟩ := laid_syn h
  obtain ⟨t4, q4, h4⟩ := laid_ran h
  have hp := laid_pow h
  refine ⟨fun _ hf => hf.elim, ⟨fun g vs hg => ?_, fun g hg => ⟨?_, fun hf => hf⟩, ⟨m, hm⟩, hp, ⟨t3, q3, h3⟩, t4, q4, h4⟩⟩
  · cases hg
  · have hc : ∀ {g : Nat} {v : Value}, W.cell? ⟨g, 0, none⟩ = some v → g < W.heap.size := fun h => World.block_lt_of_cell? _ _ h
    simp only [gblk, List.mem_cons, List.not_mem_nil, or_false] at hg
    rcases hg with rfl | rfl | rfl | rfl
    · exact hc hm
    · exact hc (hp.cell pow_num 0 (by decide))
    · exact hc h3
    · exact hc h4
end Go.Proofs.YtmfmpagfjgpodaaGreatDoor
