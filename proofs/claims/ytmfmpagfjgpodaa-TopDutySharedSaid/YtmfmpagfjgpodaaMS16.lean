/- Texts in one: The walks of Stints, Shifts and WorkIn; at most 1000 records, texts of at most 1000 bytes. -/
import Derived.Test.YtmfmpagfjgpodaaMS15
import Derived.Test.YtmfmpagfjgpodaaMS11
import Derived.Deep.Onto
/-! WM: The walks of Stints, Shifts and WorkIn; at most 1000 records, texts of at most 1000 bytes. -/
namespace Go.Proofs.Ytmfmpagfjgpodaa
open Go.RowKit

set_option maxRecDepth 100000 in
set_option maxHeartbeats 4000000 in
theorem c29 (l : List Rec) (r : Rul) (A : Option Addr) (n cap : Nat) (w : World) (hn : n = l.length) (hl : n ≤ 1000) (hd : Small l) (hS : Sl Rec.cells 3 w A l) :
    Calls Try.prog 29 #[.agg r.cells, .slice A n cap] w fun e w' => ∃ A2 c2 gs, e = .returned (.tuple #[.slice A2 gs.length c2, .int .i64 (bothErr r l)]) ∧ gs = (if bothErr r l = 0 then groups l r.brk l.length else []) ∧
      w'.ownsRow w.heap.size 55 2 (.slice A2 gs.length c2) gs.length (gs.flatMap pairNC) ∧ Below w.heap.size w w' := by
  subst hn
  have e88 := fun w' hb => c88 r l A _ cap w' rfl (by omega) hd (hS.below (w' := w') hb)
  have e89 := fun (h0 : bothErr r l = 0) w' hb => c89 l r r.brk A _ cap w' rfl hl (bothErr_zero h0).2.timed (hS.below (w' := w') hb)
  generalize groups l r.brk l.length = gs at *
  generalize bothErr r l = E at *
  have H := Lib.hid (And.intro e88 e89)
  clear e88 e89 hS hd
  obtain ⟨r0, r1, r2, r3, r4⟩ := r
  unfold Rul.cells at *
  dsimp only at *
  have K2 := Bk.new w 35 #[.int .i64 r0, .int .i64 r1, .int .i64 r2, .int .i64 r3, .int .i64 r4]
  have B0 := bl_alloc (Below.refl w.heap.size w) (.cells #[.int .i64 r0, .int .i64 r1, .int .i64 r2, .int .i64 r3, .int .i64 r4] 35)
  have G := Lib.hid (And.intro B0 K2)
  clear B0 K2
  go_enter Try.func29, Try.ntmps29
  go_wp2_with fail
  refine (H.out.1 _ G.out.1).mono ?_
  rintro e w1 ⟨rfl, hb1⟩
  have B1 := bl_alloc (below_step G.out.1 hb1) (.cells #[.int .i64 r0, .int .i64 r1, .int .i64 r2, .int .i64 r3, .int .i64 r4, .slice A l.length cap] 132)
  have c2 := ((G.out.2.below hb1).alloc (.cells #[.int .i64 r0, .int .i64 r1, .int .i64 r2, .int .i64 r3, .int .i64 r4, .slice A l.length cap] 132)).cell
  have sz := B1.size
  clear hb1
  by_cases hE : E = 0
  · subst hE
    go_wp2_with fail
    refine (H.out.2 (by first | rfl | trivial) _ B1).mono ?_
    rintro e w2 ⟨A2, c3, rfl, own, hb2⟩
    have B2 := below_step B1 hb2
    have own2 := World.ownsRow.mono own sz
    clear hb2 c2 own
    go_wp2
    refine bodyPost_ret (v := .tuple #[.slice A2 gs.length c3, .int .i64 0]) (by simp [results, Try.results29, go_sem]) rfl ⟨A2, c3, gs, rfl, by simp, own2, B2⟩
  · have hE1 : (E != 0) = true := by simpa using hE
    go_wp2
    refine bodyPost_ret (v := .tuple #[.slice none 0 0, .int .i64 E]) (by simp [results, Try.results29, go_sem]) rfl ⟨none, 0, [], rfl, by first | rfl | simp [hE], World.ownsRow_nil _ _ _ _, B1⟩
set_option maxRecDepth 100000 in
set_option maxHeartbeats 4000000 in
theorem c30 (l : List Rec) (r : Rul) (A : Option Addr) (n cap : Nat) (w : World) (hn : n = l.length) (hl : n ≤ 1000) (hd : Small l) (hS : Sl Rec.cells 3 w A l) :
    Calls Try.prog 30 #[.agg r.cells, .slice A n cap] w fun e w' => ∃ A2 c2 gs, e = .returned (.tuple #[.slice A2 gs.length c2, .int .i64 (bothErr r l)]) ∧ gs = (if bothErr r l = 0 then groups l r.rest l.length else []) ∧
      w'.ownsRow w.heap.size 55 2 (.slice A2 gs.length c2) gs.length (gs.flatMap pairNC) ∧ Below w.heap.size w w' := by
  subst hn
  have e88 := fun w' hb => c88 r l A _ cap w' rfl (by omega) hd (hS.below (w' := w') hb)
  have e89 := fun (h0 : bothErr r l = 0) w' hb => c89 l r r.rest A _ cap w' rfl hl (bothErr_zero h0).2.timed (hS.below (w' := w') hb)
  generalize groups l r.rest l.length = gs at *
  generalize bothErr r l = E at *
  have H := Lib.hid (And.intro e88 e89)
  clear e88 e89 hS hd
  obtain ⟨r0, r1, r2, r3, r4⟩ := r
  unfold Rul.cells at *
  dsimp only at *
  have K2 := Bk.new w 35 #[.int .i64 r0, .int .i64 r1, .int .i64 r2, .int .i64 r3, .int .i64 r4]
  have B0 := bl_alloc (Below.refl w.heap.size w) (.cells #[.int .i64 r0, .int .i64 r1, .int .i64 r2, .int .i64 r3, .int .i64 r4] 35)
  have G := Lib.hid (And.intro B0 K2)
  clear B0 K2
  go_enter Try.func30, Try.ntmps30
  go_wp2_with fail
  refine (H.out.1 _ G.out.1).mono ?_
  rintro e w1 ⟨rfl, hb1⟩
  have B1 := bl_alloc (below_step G.out.1 hb1) (.cells #[.int .i64 r0, .int .i64 r1, .int .i64 r2, .int .i64 r3, .int .i64 r4, .slice A l.length cap] 132)
  have c2 := ((G.out.2.below hb1).alloc (.cells #[.int .i64 r0, .int .i64 r1, .int .i64 r2, .int .i64 r3, .int .i64 r4, .slice A l.length cap] 132)).cell
  have sz := B1.size
  clear hb1
  by_cases hE : E = 0
  · subst hE
    go_wp2_with fail
    refine (H.out.2 (by first | rfl | trivial) _ B1).mono ?_
    rintro e w2 ⟨A2, c3, rfl, own, hb2⟩
    have B2 := below_step B1 hb2
    have own2 := World.ownsRow.mono own sz
    clear hb2 c2 own
    go_wp2
    refine bodyPost_ret (v := .tuple #[.slice A2 gs.length c3, .int .i64 0]) (by simp [results, Try.results30, go_sem]) rfl ⟨A2, c3, gs, rfl, by simp, own2, B2⟩
  · have hE1 : (E != 0) = true := by simpa using hE
    go_wp2
    refine bodyPost_ret (v := .tuple #[.slice none 0 0, .int .i64 E]) (by simp [results, Try.results30, go_sem]) rfl ⟨none, 0, [], rfl, by first | rfl | simp [hE], World.ownsRow_nil _ _ _ _, B1⟩
/-- The answer of WorkIn. -/
def workErr (l : List Rec) (f t : Int) : Int := fst [(checkRecs true l).2, timeErr f, timeErr t, unl (decide (f ≤ t)) 9]
def workOut (l : List Rec) (f t : Int) : Int × Int := if workErr l f t ≠ 0 then (0, workErr l f t) else (workIn l f t, 0)
set_option maxRecDepth 100000 in
set_option maxHeartbeats 4000000 in
theorem c19 (l : List Rec) (f t : Int) (A : Option Addr) (n cap : Nat) (w : World) (hn : n = l.length) (hl : n ≤ 1000) (hd : Small l) (hS : Sl Rec.cells 3 w A l) :
    Calls Try.prog 19 #[.slice A n cap, .int .i64 f, .int .i64 t] w fun e w' => e = .returned (.tuple #[.int .i64 (workOut l f t).1, .int .i64 (workOut l f t).2]) ∧ Below w.heap.size w w' := by
  subst hn
  have e76 := c76 l A _ cap w rfl (by omega) hd hS
  have ok : workErr l f t = 0 → Right true l ∧ (0 ≤ f ∧ f ≤ 8640000000) ∧ (0 ≤ t ∧ t ≤ 8640000000) := fun h => by
    have h2 := fst_zero h
    simp only [List.mem_cons, List.not_mem_nil, or_false, forall_eq_or_imp, forall_eq, timeErr] at h2
    exact ⟨h2.1, inR_iff.1 (unl_zero (by decide) h2.2.1), inR_iff.1 (unl_zero (by decide) h2.2.2.1)⟩
  have e79 := fun (h0 : workErr l f t = 0) w' hb => c79 l A _ cap f t w' rfl hl (ok h0).1.timed (by have := (ok h0).2.1; omega) (by have := (ok h0).2.2; omega) (hS.below (w' := w') hb)
  clear ok
  unfold workOut
  unfold workErr at *
  generalize (checkRecs true l).2 = er at *
  generalize workIn l f t = x at *
  have H := Lib.hid (And.intro e76 e79)
  clear e76 e79 hS hd
  have e75 := c75 [er, timeErr f, timeErr t, unl (decide (f ≤ t)) 9]
  generalize hE : fst [er, timeErr f, timeErr t, unl (decide (f ≤ t)) 9] = E at *
  clear hE
  generalize hX : (if E ≠ 0 then ((0 : Int), E) else (x, 0)) = X
  have HX := Lib.hid hX
  clear hX
  go_enter Try.func19, Try.ntmps19
  go_wp2_with fail
  refine H.out.1.mono ?_
  rintro e w1 ⟨rfl, hb1⟩
  go_wp2_with (first
    | (go_at_call 77; refine (c77 _ _).mono ?_; rintro e w' ⟨rfl, rfl⟩)
    | (go_at_call 78; refine (c78 _ _ _).mono ?_; rintro e w' ⟨rfl, rfl⟩))
  refine (e75 _ _ _ _ rfl (by simp) (Sl.of_row (fun _ => rfl) (heap_alloc_new _ _) rfl)).mono ?_
  rintro e w2 ⟨rfl, rfl⟩
  have B1 := bl_alloc hb1 (.cells #[.int .i64 er, .int .i64 (timeErr f), .int .i64 (timeErr t), .int .i64 (unl (decide (f ≤ t)) 9)] 26)
  by_cases hE : E = 0
  · subst hE
    have hX := HX.out
    rw [if_neg (by simp)] at hX
    subst hX
    go_wp2_with fail
    refine (H.out.2 (by first | rfl | trivial) _ B1).mono ?_
    rintro e w3 ⟨rfl, hb3⟩
    have B3 := below_step B1 hb3
    clear hb3
    go_wp2
    refine bodyPost_ret (v := .tuple #[.int .i64 x, .int .i64 0]) (by simp [results, Try.results19, go_sem]) rfl ⟨rfl, B3⟩
  · have hX := HX.out
    rw [if_pos hE] at hX
    subst hX
    have hE1 : (E != 0) = true := by simpa using hE
    go_wp2
    refine bodyPost_ret (v := .tuple #[.int .i64 0, .int .i64 E]) (by simp [results, Try.results19, go_sem]) rfl ⟨rfl, B1⟩

end Go.Proofs.Ytmfmpagfjgpodaa
