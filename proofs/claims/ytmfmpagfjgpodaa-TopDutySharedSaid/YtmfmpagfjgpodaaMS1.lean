/- Texts in one: Arguments that came in, read: records and numbers; no condition. -/
import Derived.Test.YtmfmpagfjgpodaaRows
import Derived.Test.YtmfmpagfjgpodaaMS0
import Derived.WalkKit
import Derived.ProofKit
import Derived.OpenShut
import Derived.ShutString
import Derived.ChangeOld
import Derived.Below
import Derived.Deep.Slices
import Derived.Deep.Fields
/-! Open: Arguments that came in, read: records and numbers; no condition. -/
namespace Go.Proofs.Ytmfmpagfjgpodaa
open Go.ChangeShapes Go.WideShapes Go.ChangeAt Go.RowKit Go.Deep

theorem list3 {α : Type} : ∀ {l : List α}, l.length = 3 → ∃ a b c, l = [a, b, c]
  | [a, b, c], _ => ⟨a, b, c, rfl⟩
theorem add_none (b o n : Nat) : (⟨b, o, none⟩ : Addr).add n = ⟨b, o + n, none⟩ := by
  unfold Addr.add
  split <;> simp_all
section
variable {H : Type} {enc : TypeId × Value → H} {w : World} {base fuel : Nat} {spare : Nat → Bool} {held : Bool}
theorem cells57 : Try.prog.cellsOf 57 = 3 := by kernel_rfl
theorem cells23 : Try.prog.cellsOf 23 = 3 := by kernel_rfl
theorem cells9 : Try.prog.cellsOf 9 = 1 := by kernel_rfl
theorem cells3 : Try.prog.cellsOf 3 = 1 := by kernel_rfl
/-- A record that came in. -/
theorem open_rec {cs : List Value} {x : DataW H × List MemPlace} (h : DataW.trod enc Try.prog w base spare held fuel 57 cs = some x) : ∃ r : Rec, cs = Rec.cells r ∧ r.driver.size ≤ maxLen := by
  obtain ⟨xs, n, _, _, hlen, hxs, hf⟩ := DataW.trod_struct Try.underlying57 h
  rw [cells57] at hlen
  obtain ⟨x0, x1, x2, rfl⟩ := list3 (show xs.length = 3 from hxs)
  obtain ⟨c0, c1, c2, rfl⟩ := list3 hlen
  have f0 : DataW.trod enc Try.prog w base spare held n 9 (([c0, c1, c2].drop 0).take (Try.prog.cellsOf 9)) = _ := hf 0 _ rfl
  have f1 : DataW.trod enc Try.prog w base spare held n 3 (([c0, c1, c2].drop 1).take (Try.prog.cellsOf 3)) = _ := hf 1 _ rfl
  have f2 : DataW.trod enc Try.prog w base spare held n 3 (([c0, c1, c2].drop 2).take (Try.prog.cellsOf 3)) = _ := hf 2 _ rfl
  rw [cells9] at f0
  rw [cells3] at f1 f2
  obtain ⟨s, e0, _, hs⟩ := DataW.trod_string Try.underlying9 f0
  obtain ⟨a, e1, _, _⟩ := DataW.trod_int Try.underlying3 f1
  obtain ⟨b, e2, _, _⟩ := DataW.trod_int Try.underlying3 f2
  simp only [List.drop_zero, List.take_succ_cons, List.take_zero, List.drop_succ_cons, List.cons.injEq, and_true] at e0 e1 e2
  subst e0
  subst e1
  subst e2
  exact ⟨⟨s, a, b⟩, rfl, hs⟩
/-- Records that came in. -/
theorem open_recs {a : Option Addr} {len cap : Nat} {x : DataW H × List MemPlace} (h : DataW.trod enc Try.prog w base spare held fuel 22 [.slice a len cap] = some x) :
    ∃ l : List Rec, len = l.length ∧ len ≤ cap ∧ cap ≤ maxLen ∧ Sl Rec.cells 3 w a l ∧ ∀ r ∈ l, r.driver.size ≤ maxLen := by
  rcases open_slice Try.underlying22 h with ⟨hcs, _⟩ | ⟨ad, len', cap', m, n, D, Pl, hcs, _, hl, hm, hmm, _, hi⟩
  · simp only [List.cons.injEq, Value.slice.injEq, and_true] at hcs
    obtain ⟨rfl, rfl, rfl⟩ := hcs
    exact ⟨[], rfl, Nat.le_refl _, Nat.zero_le _, Sl.nil Rec.cells 3 w none, fun r hr => by cases hr⟩
  · simp only [List.cons.injEq, Value.slice.injEq, and_true] at hcs
    obtain ⟨rfl, rfl, rfl⟩ := hcs
    have hle : len ≤ m := by rw [hmm]; split <;> omega
    have hex : ∀ i, i < len → ∃ r : Rec, (∀ j v, (Rec.cells r)[j]? = some v → w.cell? (ad.add (i * 3 + j)) = some v) ∧ r.driver.size ≤ maxLen := fun i hil => by
      obtain ⟨cs', hc, ht⟩ := hi i (by omega)
      rw [cells57] at hc
      obtain ⟨r, rfl, hr⟩ := open_rec ht
      obtain ⟨_, _, hat⟩ := World.cells?_some hc
      refine ⟨r, fun j v hv => ?_, hr⟩
      have hj : j < 3 := by
        have := (List.getElem?_eq_some_iff.1 hv).1
        simpa [Rec.cells] using this
      rw [← Go.Deep.add_add, hat j hj, hv]
    have hfun : ∃ f : Nat → Rec, ∀ i, i < len → (∀ j v, (Rec.cells (f i))[j]? = some v → w.cell? (ad.add (i * 3 + j)) = some v) ∧ (f i).driver.size ≤ maxLen :=
      ⟨fun i => if h : i < len then (hex i h).choose else ⟨ByteArray.empty, 0, 0⟩, fun i hil => by simp only [dif_pos hil]; exact (hex i hil).choose_spec⟩
    obtain ⟨f, hf⟩ := hfun
    refine ⟨(List.range len).map f, by simp, hl, hm, fun hne => ?_, fun r hr => ?_⟩
    · have hpos : 0 < len := by
        rcases Nat.eq_zero_or_pos len with h0 | h0
        · subst h0; simp at hne
        · exact h0
      have hsp := World.cell?_spot ((hf 0 hpos).1 0 _ rfl)
      obtain ⟨b, o, spot⟩ := ad
      have hspot : spot = none := hsp
      subst hspot
      refine ⟨b, o, rfl, fun k r hk j v hv => ?_⟩
      have hkl : k < len := by
        have := (List.getElem?_eq_some_iff.1 hk).1
        simpa using this
      have hrk : r = f k := by
        simp [hkl] at hk
        exact hk.symm
      subst hrk
      have := (hf k hkl).1 j v hv
      rw [show o + k * 3 + j = o + (k * 3 + j) by omega]
      rwa [add_none] at this
    · obtain ⟨i, hi2, rfl⟩ := List.mem_map.1 hr
      exact (hf i (List.mem_range.1 hi2)).2
/-- Three numbers that came in. -/
theorem open_three {cs : List Value} {x : DataW H × List MemPlace} (h : DataW.trod enc Try.prog w base spare held fuel 23 cs = some x) : ∃ a b c : Int, cs = [.int .i64 a, .int .i64 b, .int .i64 c] := by
  obtain ⟨xs, n, _, _, hlen, hxs, hf⟩ := DataW.trod_array Try.underlying23 h
  rw [cells23] at hlen
  obtain ⟨x0, x1, x2, rfl⟩ := list3 (show xs.length = 3 from hxs)
  obtain ⟨c0, c1, c2, rfl⟩ := list3 hlen
  rw [cells3] at hf
  have f0 := hf 0 (by omega)
  have f1 := hf 1 (by omega)
  have f2 := hf 2 (by omega)
  obtain ⟨a, e0, _, _⟩ := DataW.trod_int Try.underlying3 f0
  obtain ⟨b, e1, _, _⟩ := DataW.trod_int Try.underlying3 f1
  obtain ⟨c, e2, _, _⟩ := DataW.trod_int Try.underlying3 f2
  simp at e0 e1 e2
  subst e0
  subst e1
  subst e2
  exact ⟨a, b, c, rfl⟩
end

end Go.Proofs.Ytmfmpagfjgpodaa
