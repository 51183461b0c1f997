/- Texts in one: What the rows of the laws of texts lay: the facts about package variables that the walks ask for. -/
import Derived.Test.YthbgghmjbaldlaaGreatDoorFT9
import Derived.Test.YthbgghmjbaldlaaGreatDoorRows
import Derived.Shelf.Vars
/-! ST0: What the rows of the laws of texts lay: the facts about package variables that the walks ask for. -/
namespace Go.Proofs.YthbgghmjbaldlaaGreatDoor
open Go.RowKit Go.ChangeShapes Go.WideShapes
set_option maxRecDepth 100000
theorem star : "*" ++ "errors.errorString" = "*errors.errorString" := by decide
theorem row_err (u : TypeId) (h : Tryz.prog.typeName? 3 u = some "*errors.errorString") : u = 246 :=
  typeName_ptr_named (nm := "errors.errorString") (by rw [star]; kernel_rfl) (by kernel_rfl) (by decide) u (by rw [star]; exact h)
section
variable {W : World} (h : laidMetH Tryz.prog Rows.foundEventTextsRow.laid W)
include h
theorem laid_pow : Lib.TabIs Tryz.prog W "internal/strconv.uint64pow10" .u64 Lib.pow10Tab :=
  Lib.tabIs_of_head (t := 230) (e := 196) (n := 20) (g := 2) (rest := []) (by kernel_rfl) (by kernel_rfl) Tryz.underlying230 Tryz.underlying196 (by kernel_rfl) (by kernel_rfl)
    (laid_one h "internal/strconv.uint64pow10" (x := ("internal/strconv.uint64pow10", Lib.tabData .u64 Lib.pow10Tab)) (by kernel_rfl))
theorem laid_syn : ∃ t q, W.cell? ⟨3, 0, none⟩ = some (.iface t q) := by
  obtain ⟨a, s, hv, _⟩ := laid_sentinel (g := 3) (ti := 174) (tp := 246) (te := 248) (ts := 9) (r := []) (laid_one h "strconv.ErrSyntax" (x := ("strconv.ErrSyntax", Rows.laid_strconv_ErrSyntax)) (by kernel_rfl)) (by kernel_rfl) (by kernel_rfl) Tryz.underlying174
    row_err Tryz.underlying246 Tryz.underlying248 rfl rfl Tryz.underlying9 (by kernel_rfl) (by kernel_rfl)
  exact ⟨_, _, World.var?_cell (by kernel_rfl) hv 0⟩
theorem laid_ran : ∃ t q, W.cell? ⟨4, 0, none⟩ = some (.iface t q) := by
  obtain ⟨a, s, hv, _⟩ := laid_sentinel (g := 4) (ti := 174) (tp := 246) (te := 248) (ts := 9) (r := []) (laid_one h "strconv.ErrRange" (x := ("strconv.ErrRange", Rows.laid_strconv_ErrRange)) (by kernel_rfl)) (by kernel_rfl) (by kernel_rfl) Tryz.underlying174
    row_err Tryz.underlying246 Tryz.underlying248 rfl rfl Tryz.underlying9 (by kernel_rfl) (by kernel_rfl)
  exact ⟨_, _, World.var?_cell (by kernel_rfl) hv 0⟩
theorem laid_kinds : W.var? Tryz.prog "fiacre/found.kinds" = some #[.string ⟨#[115, 116, 111, 114, 101, 100]⟩, .string ⟨#[109, 111, 118, 101, 100]⟩, .string ⟨#[114, 101, 116, 117, 114, 110, 101, 100]⟩, .string ⟨#[116, 97, 107, 101, 110]⟩, .string ⟨#[115, 111, 108, 100]⟩] :=
  strs_of_head (t := 121) (e := 9) (n := 5) (g := 0) (rest := []) (by kernel_rfl) (by kernel_rfl) Tryz.underlying121 Tryz.underlying9 (by kernel_rfl) (by kernel_rfl)
    (laid_one h "fiacre/found.kinds" (x := ("fiacre/found.kinds", strData [[115, 116, 111, 114, 101, 100], [109, 111, 118, 101, 100], [114, 101, 116, 117, 114, 110, 101, 100], [116, 97, 107, 101, 110], [115, 111, 108, 100]])) (by kernel_rfl))
end
theorem shape_max {W : World} (hs : W.ShapedOpen Tryz.prog) : ∃ m, W.cell? ⟨1, 0, none⟩ = some (.int .i64 m) :=
  cell_of_shapedOpen_int (t := 3) (zero := #[.int .i64 0]) hs (of_decide_eq_true (by kernel_rfl)) (by kernel_rfl) rfl (by kernel_rfl) (by kernel_rfl) Tryz.underlying3
theorem mok_laid {W : World} (h : laidMetH Tryz.prog Rows.foundEventTextsRow.laid W) (hs : W.ShapedOpen Tryz.prog) : MOK W fun _ => False := by
  obtain ⟨m, hm⟩ := shape_max hs
  obtain ⟨t3, q3, h3⟩ := laid_syn h
  obtain ⟨t4, q4, h4⟩ := laid_ran h
  have hp := laid_pow h
  refine ⟨fun _ hf => hf.elim, ⟨fun g vs hg => ?_, fun g hg => ⟨?_, fun hf => hf⟩, ⟨m, hm⟩, hp, ⟨t3, q3, h3⟩, t4, q4, h4⟩⟩
  · have hk := laid_kinds h
    by_cases h0 : (0 : Nat) = g
    · subst h0
      rw [show glook genv 0 = some _ from rfl] at hg
      injection hg with hg
      subst hg
      have hc := World.var?_cell (P := Tryz.prog) (n := "fiacre/found.kinds") (g := 0) (by kernel_rfl) hk
      refine ⟨World.block_lt_of_cell? _ _ (hc 0), fun hf => hf, rfl, fun j v hj => ?_⟩
      rw [hc j]
      simpa using hj
    · exfalso
      simp only [genv, glook] at hg
      rw [if_neg h0] at hg
      cases hg
  · have hc : ∀ {g : Nat} {v : Value}, W.cell? ⟨g, 0, none⟩ = some v → g < W.heap.size := fun h => World.block_lt_of_cell? _ _ h
    simp only [gblk, List.mem_cons, List.not_mem_nil, or_false] at hg
    rcases hg with rfl | rfl | rfl | rfl
    · exact hc hm
    · exact hc (hp.cell pow_num 0 (by decide))
    · exact hc h3
    · exact hc h4
end Go.Proofs.YthbgghmjbaldlaaGreatDoor
