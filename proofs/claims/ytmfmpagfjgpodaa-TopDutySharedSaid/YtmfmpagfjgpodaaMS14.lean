/- Texts in one: The walks of the copy of records and of the first rule that a trip breaks; at most 100 records, times of at most 8650000000. -/
import Derived.Test.YtmfmpagfjgpodaaMS10
import Derived.Test.YtmfmpagfjgpodaaMS12
import Derived.Test.YtmfmpagfjgpodaaMS0
import Derived.Test.YtmfmpagfjgpodaaMS2
import Derived.Lib.SliceRun
/-! WI: The walks of the copy of records and of the first rule that a trip breaks; at most 100 records, times of at most 8650000000. -/
namespace Go.Proofs.Ytmfmpagfjgpodaa
open Go.RowKit

set_option maxRecDepth 100000 in
theorem c135 (l : List Rec) (A : Option Addr) (n cap : Nat) (w : World) (hn : n = l.length) (hl : n ≤ 1000000) (hS : Sl Rec.cells 3 w A l) :
    Calls Try.prog 135 #[.slice A n cap] w fun e w' => ∃ A2 c2, e = .returned (.slice A2 n c2) ∧ OwnR w.heap.size w' A2 n c2 l ∧ Below w.heap.size w w' := by
  obtain ⟨i0, hi0, hz0, hz1, hz2⟩ := info_parts info57
  have hnil := fun (w : World) => Lib.run_eql_slice_nil (P := Try.prog) w 22 57 A n cap 0 0 Try.underlying22
  cases A with
  | none =>
    have hl0 : l = [] := by
      cases l with
      | nil => rfl
      | cons x l => obtain ⟨b, o, h, _⟩ := hS (by simp); cases h
    subst hl0
    have hn0 : n = 0 := by simpa using hn
    subst hn0
    clear hn
    clear hS
    simp only [Option.isNone_none] at hnil
    go_enter Try.func135, Try.ntmps135
    go_wp2
    go_ret
    exact ⟨none, 0, rfl, World.ownsRow_nil _ _ _ _, Below.refl _ _⟩
  | some ad =>
    simp only [Option.isNone_some] at hnil
    have HN := Lib.hid hn
    have q1 : 0 + n ≤ maxLen := by simp only [maxLen]; omega
    have q2 : (0 + n) * 32 ≤ 140737488355328 := by omega
    have own0 := Lib.hid (World.ownsRow_made (base := w.heap.size) (e := 57) (size := 3) w #[] 0 (Nat.le_refl _) (by simp) rfl)
    have HS := Lib.hid (hS.alloc (.cells #[] 57))
    clear hn hS
    go_enter Try.func135, Try.ntmps135
    go_wp2_with (at_builtin; refine wpList_append_sl _ rfl (.tmp 5) (.tmp 6) 22 rfl w.heap.size 57 i0 _ 3 32 Try.underlying22 hi0 hz0 hz1 hz2 rfl (by omega) Rec.cells_len Rec.oneCell (some ⟨w.heap.size, 0, none⟩) 0 0 [] rfl own0.out (some ad) n cap l rfl HN.out HS.out q1 q2 (by simp) ?_; intro A2 c2 w2 own2 gr2 at2)
    go_ret
    refine ⟨A2, c2, by simp, by simpa [OwnR] using own2, bl_grown (bl_alloc (Below.refl _ _) _) gr2 (by simp [Value.ownBlock])⟩
theorem OwnR.cap {B : Nat} {w : World} {A : Option Addr} {n c : Nat} {l : List Rec} (h : OwnR B w A n c l) : n ≤ c := by
  rcases h.2 with ⟨hv, h0⟩ | ⟨g, cap, cur, hv, _, _, hnc, _⟩
  · omega
  · injection hv with _ _ hc
    omega
theorem OwnR.base {B B' : Nat} {w : World} {A : Option Addr} {n c : Nat} {l : List Rec} (h : OwnR B w A n c l) (hB : B' ≤ B) : OwnR B' w A n c l :=
  ⟨h.1, h.2.imp id fun ⟨g, cap, cur, h1, h2, h3⟩ => ⟨g, cap, cur, h1, by omega, h3⟩⟩
theorem OwnR.below {B : Nat} {w w' : World} {A : Option Addr} {n c : Nat} {l : List Rec} (h : OwnR B w A n c l) (hb : Below w.heap.size w w') : OwnR B w' A n c l :=
  ⟨h.1, h.2.imp id fun ⟨g, cap, cur, h1, h2, h3, h4⟩ => ⟨g, cap, cur, h1, h2, (hb.block g (Array.getElem?_eq_some_iff.1 h3).1).trans h3, h4⟩⟩
theorem OwnR.above {B : Nat} {w : World} {A : Option Addr} {n c : Nat} {l : List Rec} (h : OwnR B w A n c l) (k : Nat) (hk : (Value.slice A n c).ownBlock = some k) : B ≤ k := by
  rcases h.2 with ⟨hv, h0⟩ | ⟨g, cap, cur, hv, hB, _⟩
  · rw [hv] at hk; simp [Value.ownBlock] at hk
  · rw [hv] at hk
    simp [Value.ownBlock] at hk
    omega
set_option maxRecDepth 100000 in
set_option maxHeartbeats 4000000 in
theorem c82 (l : List Rec) (r : Rul) (t : Trip) (len : Int) (A : Option Addr) (n cap : Nat) (w : World) (hn : n = l.length) (hl : n ≤ 100) (hcap : n ≤ cap) (hT : Timed l) (hS : Sl Rec.cells 3 w A l)
    (h1 : 0 ≤ t.start) (h2 : t.start ≤ 8650000000) (h3 : 0 ≤ len) (h4 : len ≤ 1000000) (h5 : -1 ≤ t.next ∧ t.next ≤ 10000000000) :
    Calls Try.prog 82 #[.agg #[.int .i64 r.brk, .int .i64 r.rest, .int .i64 r.stint, .int .i64 r.shift, .int .i64 r.week, .slice A n cap], .agg t.cells, .int .i64 len] w fun e w' =>
      e = .returned (.int .i64 (breaksP r l t.start t.next len)) ∧ Below w.heap.size w w' := by
  subst hn
  obtain ⟨i0, hi0, hz0, hz1, hz2⟩ := info_parts info57
  obtain ⟨t0, t1, t2, t3⟩ := t
  unfold Trip.cells breaksP
  dsimp only at *
  have e135 := fun w' hb => c135 l A _ cap w' rfl (by omega) (hS.below (w' := w') hb)
  have e136 := fun A n c w' (hA : Sl Rec.cells 3 w' A (withTrip l t0 len)) (hn : n = l.length + 1) (hc : n ≤ c) => c136 (withTrip l t0 len) r A n c w' (by simp [withTrip, hn]) (by omega) (by omega) hc
    (fun x hx => by
      rcases List.mem_append.1 hx with hx | hx
      · exact hT x hx
      · simp only [List.mem_singleton] at hx
        subst hx
        dsimp only
        omega) hA
  generalize hb : brokenP r (withTrip l t0 len) = b at *
  clear hb hS hT
  have H := Lib.hid (And.intro e135 e136)
  clear e135 e136
  obtain ⟨r0, r1, r2, r3, r4⟩ := r
  dsimp only at *
  generalize hres : (if 0 < len ∧ b ≠ 0 then b else if t3 ≠ -1 ∧ t3 - (t0 + len) < r1 then (4 : Int) else 0) = res
  have HR := Lib.hid hres
  clear hres
  by_cases hlen : 0 < len
  · go_enter Try.func82, Try.ntmps82
    have B0 := bl_alloc (bl_alloc (Below.refl w.heap.size w) (.cells #[.int .i64 r0, .int .i64 r1, .int .i64 r2, .int .i64 r3, .int .i64 r4, .slice A l.length cap] 132)) (.cells #[.int .i64 t0, .int .i64 t1, .int .i64 t2, .int .i64 t3] 39)
    have D0 := (Bk.new w 132 #[.int .i64 r0, .int .i64 r1, .int .i64 r2, .int .i64 r3, .int .i64 r4, .slice A l.length cap]).alloc (.cells #[.int .i64 t0, .int .i64 t1, .int .i64 t2, .int .i64 t3] 39)
    have E0 := Bk.new (w.alloc (.cells #[.int .i64 r0, .int .i64 r1, .int .i64 r2, .int .i64 r3, .int .i64 r4, .slice A l.length cap] 132)) 39 #[.int .i64 t0, .int .i64 t1, .int .i64 t2, .int .i64 t3]
    go_wp2_with fail
    generalize hw1 : (w.alloc _).alloc _ = w1 at *
    refine wp_region_told 8 [(2, fun v => ∃ A2 c2, v = .slice A2 l.length c2, fun v w' => ∀ A2 c2, v = .slice A2 l.length c2 → OwnR w1.heap.size w' A2 l.length c2 l),
      (7, fun v => ∃ A2, v = .slice A2 1 1, fun v w' => ∀ A2, v = .slice A2 1 1 → Sl Rec.cells 3 w' A2 [⟨ByteArray.empty, t0, t0 + len⟩])] (by kernel_rfl) (by kernel_rfl) ?_ ?_ ?_
    · intro p hp
      rcases List.mem_cons.1 hp with rfl | hp
      · exact ⟨_, none, 0, rfl⟩
      · rw [List.mem_singleton] at hp
        subst hp
        exact ⟨_, none, rfl⟩
    · intro p hp v w2 w3 hu hb
      rcases List.mem_cons.1 hp with rfl | hp
      · exact fun A2 c2 hv => (hu A2 c2 hv).below hb
      · rw [List.mem_singleton] at hp
        subst hp
        exact fun A2 hv => (hu A2 hv).below hb
    intro K hK wb hb
    have D1 := (D0.below hb).later
    have E1 := (E0.below hb).later
    simp only [World.size_alloc] at E1
    refine walk_quiet 2 (by kernel_rfl) ?_
    simp only [List.take_succ_cons, List.take_zero, List.drop_succ_cons, List.drop_zero]
    repeat (go_big_quiet_step (fail))
    refine wpQuiet_nil ?_
    refine walk_told (by kernel_rfl) (by kernel_rfl) ?_ ?_
    · intro w2 hb2 _
      simp [gives, givesUpon, go_sem]
      refine (H.out.1 _ (below_step B0 (below_step hb hb2))).mono ?_
      rintro e w3 ⟨A2, c2, rfl, own, hb3⟩
      refine ⟨_, rfl, ⟨⟨A2, c2, rfl⟩, ?_⟩, hb3⟩
      rintro _ _ ⟨⟩
      exact own.base (below_step hb hb2).size
    rintro _ ⟨A2, c2, rfl⟩
    simp only [Act.put, List.setIfInBounds_toArray, List.set_cons_succ, List.set_cons_zero]
    refine walk_quiet 4 (by kernel_rfl) ?_
    simp only [List.take_succ_cons, List.take_zero, List.drop_succ_cons, List.drop_zero]
    repeat (go_big_quiet_step (fail))
    refine wpQuiet_nil ?_
    refine walk_told (by kernel_rfl) (by kernel_rfl) ?_ ?_
    · intro w2 hb2 _
      simp [gives, givesUpon, go_sem]
      refine ⟨⟨⟨_, rfl⟩, ?_⟩, bl_alloc (Below.refl _ _) _⟩
      rintro _ ⟨⟩
      exact Sl.of_row (fun _ => rfl) (heap_alloc_new _ _) rfl
    rintro _ ⟨A3, rfl⟩
    simp only [Act.put, List.setIfInBounds_toArray, List.set_cons_succ, List.set_cons_zero]
    refine walk_nil (hK _ _ ?_)
    intro w4 hb4 F4
    have own4 := F4 _ (List.mem_cons_of_mem _ (List.mem_cons_self ..)) A2 c2 rfl
    have x4 := F4 _ (List.mem_cons_self ..) A3 rfl
    have D4 := D0.below hb4
    have E4 := E0.below hb4
    simp only [World.size_alloc] at E4
    have q1 : l.length + 1 ≤ maxLen := by simp only [maxLen]; omega
    have q2 : (l.length + 1) * 32 ≤ 140737488355328 := by omega
    clear F4 D1 E1 D0 E0
    refine wpList_append_sl _ rfl (.tmp 18) (.tmp 23) 22 rfl w1.heap.size 57 i0 _ 3 32 Try.underlying22 hi0 hz0 hz1 hz2 rfl (by omega) Rec.cells_len Rec.oneCell A2 l.length c2 (l.flatMap Rec.cells) rfl own4 A3 1 1 [⟨ByteArray.empty, t0, t0 + len⟩] rfl rfl x4 q1 q2 hb4.size ?_
    intro A5 c5 w5 own5 gr5 at5
    have hsz1 : w1.heap.size = w.heap.size + 2 := by rw [← hw1]; simp
    have hab := own4.above
    have D5 := D4.grown gr5 fun e => by have := hab _ e.symm; omega
    have E5 := E4.grown gr5 fun e => by have := hab _ e.symm; omega
    have B5 := bl_grown (below_step B0 hb4) gr5 fun k e => by have := hab k e; omega
    have S5 : Sl Rec.cells 3 w5 A5 (withTrip l t0 len) := OwnR.sl (B := w1.heap.size) (c := c5) (n := l.length + 1) (by unfold OwnR withTrip; rw [List.flatMap_append]; exact own5) (by simp [withTrip])
    have hc5 : l.length + 1 ≤ c5 := OwnR.cap (B := w1.heap.size) (A := A5) (n := l.length + 1) (l := withTrip l t0 len) (by unfold OwnR withTrip; rw [List.flatMap_append]; exact own5)
    have H5 := H.out.2 A5 (l.length + 1) c5 w5 S5 rfl hc5
    have C5 := D5.cell
    have G := Lib.hid (And.intro D5 (And.intro E5 (And.intro B5 H5)))
    clear own4 x4 D4 E4 own5 gr5 at5 hab D5 E5 B5 S5 H5
    go_wp2_with fail
    refine G.out.2.2.2.mono ?_
    rintro e w6 ⟨rfl, hb6⟩
    have C6 := (G.out.1.below hb6).cell
    have F6 := (G.out.2.1.below hb6).cell
    have BX := below_step G.out.2.2.1 hb6
    clear G C5
    by_cases hb0 : b = 0
    · subst hb0
      have hb0 : True := trivial
      by_cases hn : t3 = -1
      · subst hn
        go_wp2
        have e0 : res = 0 := by
          have h := HR.out
          (repeat' split at h) <;> omega
        subst e0
        go_ret
        exact ⟨rfl, BX⟩
      · have hn' : (t3 == -1) = false := by simpa using hn
        by_cases hr : t3 - (t0 + len) < r1
        · have hr' : decide (t3 - (t0 + len) < r1) = true := by simpa using hr
          go_wp2
          have e0 : res = 4 := by
            have h := HR.out
            (repeat' split at h) <;> omega
          subst e0
          go_ret
          exact ⟨rfl, BX⟩
        · have hr' : decide (t3 - (t0 + len) < r1) = false := by simpa using hr
          go_wp2
          have e0 : res = 0 := by
            have h := HR.out
            (repeat' split at h) <;> omega
          subst e0
          go_ret
          exact ⟨rfl, BX⟩
    · have hb0' : (b == 0) = false := by simpa using hb0
      go_wp2
      have e0 : res = b := by
        have h := HR.out
        (repeat' split at h) <;> omega
      subst e0
      go_ret
      exact ⟨rfl, BX⟩
  · have hlen' : decide (0 < len) = false := by simpa using hlen
    have hb0 : True := trivial
    go_enter Try.func82, Try.ntmps82
    have BX := bl_alloc (bl_alloc (Below.refl w.heap.size w) (.cells #[.int .i64 r0, .int .i64 r1, .int .i64 r2, .int .i64 r3, .int .i64 r4, .slice A l.length cap] 132)) (.cells #[.int .i64 t0, .int .i64 t1, .int .i64 t2, .int .i64 t3] 39)
    have C6 := ((Bk.new w 132 #[.int .i64 r0, .int .i64 r1, .int .i64 r2, .int .i64 r3, .int .i64 r4, .slice A l.length cap]).alloc (.cells #[.int .i64 t0, .int .i64 t1, .int .i64 t2, .int .i64 t3] 39)).cell
    have F6 := (Bk.new (w.alloc (.cells #[.int .i64 r0, .int .i64 r1, .int .i64 r2, .int .i64 r3, .int .i64 r4, .slice A l.length cap] 132)) 39 #[.int .i64 t0, .int .i64 t1, .int .i64 t2, .int .i64 t3]).cell
    simp only [World.size_alloc] at F6
    by_cases hn : t3 = -1
    · subst hn
      go_wp2
      have e0 : res = 0 := by
        have h := HR.out
        (repeat' split at h) <;> omega
      subst e0
      go_ret
      exact ⟨rfl, BX⟩
    · have hn' : (t3 == -1) = false := by simpa using hn
      by_cases hr : t3 - (t0 + len) < r1
      · have hr' : decide (t3 - (t0 + len) < r1) = true := by simpa using hr
        go_wp2
        have e0 : res = 4 := by
          have h := HR.out
          (repeat' split at h) <;> omega
        subst e0
        go_ret
        exact ⟨rfl, BX⟩
      · have hr' : decide (t3 - (t0 + len) < r1) = false := by simpa using hr
        go_wp2
        have e0 : res = 0 := by
          have h := HR.out
          (repeat' split at h) <;> omega
        subst e0
        go_ret
        exact ⟨rfl, BX⟩
end Go.Proofs.Ytmfmpagfjgpodaa
