/- The walk of the check of a trip; at most 1000 records, texts of at most 1000 bytes. -/
import Derived.Test.YtmfmpagfjgpodaaWI
import Derived.Test.YtmfmpagfjgpodaaWH
namespace Go.Proofs.Ytmfmpagfjgpodaa
open Go.RowKit

theorem isTime_is {n : Int} {b : Bool} (h : isTime n = b) (w : World) : Calls Try.prog 128 #[.int .i64 n] w fun e w' => e = .returned (.bool b) ∧ w = w' := h ▸ c128 n w
theorem isTake_is {n : Int} {b : Bool} (h : isTake n = b) (w : World) : Calls Try.prog 134 #[.int .i64 n] w fun e w' => e = .returned (.bool b) ∧ w = w' := h ▸ c134 n w
set_option maxRecDepth 100000 in
set_option maxHeartbeats 40000000 in
theorem c81 (l : List Rec) (r : Rul) (t : Trip) (A : Option Addr) (n cap : Nat) (w : World) (hn : n = l.length) (hl : n ≤ 1000) (hcap : n ≤ cap) (hd : Small l) (hS : Sl Rec.cells 3 w A l) :
    Calls Try.prog 81 #[.agg r.cells, .slice A n cap, .agg t.cells] w fun e w' =>
      e = .returned (.tuple #[.agg #[.int .i64 r.brk, .int .i64 r.rest, .int .i64 r.stint, .int .i64 r.shift, .int .i64 r.week, .slice A n cap], .int .i64 (tripErrP r l t)]) ∧ Below w.heap.size w w' := by
  subst hn
  obtain ⟨t0, t1, t2, t3⟩ := t
  have e88 := fun w' hb => c88 r l A _ cap w' rfl (by omega) hd (hS.below (w' := w') hb)
  have e93 := fun w' hb => c93 l r A _ cap w' rfl hl (hS.below (w' := w') hb)
  have e90 := fun (hR : Right true l) w' hb => c90 l r A _ cap w' rfl (by have := hR.len; omega) hcap hR.timed (hS.below (w' := w') hb)
  have hE : ∃ E, tripE r l ⟨t0, t1, t2, t3⟩ = E := ⟨_, rfl⟩
  obtain ⟨E, hE⟩ := hE
  have hR : E = 0 → Right true l := fun h0 => by
    rw [h0] at hE
    unfold tripE fst at hE
    by_cases hb : bothErr r l = 0
    · exact (bothErr_zero hb).2
    · rw [if_pos hb] at hE; exact absurd hE hb
  have e90' := fun h0 => e90 (hR h0)
  clear e90 hR
  unfold tripErrP
  rw [hE]
  unfold tripE endOf at hE
  dsimp only at *
  generalize bothErr r l = er at *
  generalize (if l.length = 0 then 0 else (rat l (l.length - 1)).hi) = en at *
  generalize firstBroken r l = fb at *
  obtain ⟨k, be⟩ := fb
  have H := Lib.hid (And.intro e88 (And.intro e93 (And.intro e90' hE)))
  clear e88 e93 e90' hE hS hd
  obtain ⟨r0, r1, r2, r3, r4⟩ := r
  unfold Rul.cells Trip.cells at *
  dsimp only at *
  generalize hX : (if E ≠ 0 then E else unl (decide (be = 0)) 22) = X
  have HX := Lib.hid hX
  clear hX
  have B0 := bl_alloc (bl_alloc (bl_alloc (Below.refl w.heap.size w) (.cells #[.int .i64 r0, .int .i64 r1, .int .i64 r2, .int .i64 r3, .int .i64 r4] 35)) (.cells #[.int .i64 t0, .int .i64 t1, .int .i64 t2, .int .i64 t3] 39)) (.cells #[.int .i64 0, .int .i64 0, .int .i64 0, .int .i64 0, .int .i64 0, .slice none 0 0] 132)
  have K5 := (Bk.new (w.alloc (.cells #[.int .i64 r0, .int .i64 r1, .int .i64 r2, .int .i64 r3, .int .i64 r4] 35)) 39 #[.int .i64 t0, .int .i64 t1, .int .i64 t2, .int .i64 t3]).alloc (.cells #[.int .i64 0, .int .i64 0, .int .i64 0, .int .i64 0, .int .i64 0, .slice none 0 0] 132)
  have K6 := Bk.new ((w.alloc (.cells #[.int .i64 r0, .int .i64 r1, .int .i64 r2, .int .i64 r3, .int .i64 r4] 35)).alloc (.cells #[.int .i64 t0, .int .i64 t1, .int .i64 t2, .int .i64 t3] 39)) 132 #[.int .i64 0, .int .i64 0, .int .i64 0, .int .i64 0, .int .i64 0, .slice none 0 0]
  simp only [World.size_alloc] at K5 K6
  have G := Lib.hid (And.intro B0 (And.intro K5 K6))
  clear B0 K5 K6
  go_enter Try.func81, Try.ntmps81
  go_wp2_with fail
  refine (H.out.1 _ G.out.1).mono ?_
  rintro e w1 ⟨rfl, hb1⟩
  have G1 := Lib.hid (And.intro (below_step G.out.1 hb1) (And.intro (G.out.2.1.below hb1) (And.intro (G.out.2.2.below hb1) hb1.size)))
  clear hb1
  go_wp2_with fail
  have D8 := Bk.new w1 132 #[.int .i64 r0, .int .i64 r1, .int .i64 r2, .int .i64 r3, .int .i64 r4, .slice A l.length cap]
  have D5 := G1.out.2.1.alloc (.cells #[.int .i64 r0, .int .i64 r1, .int .i64 r2, .int .i64 r3, .int .i64 r4, .slice A l.length cap] 132)
  have D6 := G1.out.2.2.1.alloc (.cells #[.int .i64 r0, .int .i64 r1, .int .i64 r2, .int .i64 r3, .int .i64 r4, .slice A l.length cap] 132)
  have B2 := bl_alloc G1.out.1 (.cells #[.int .i64 r0, .int .i64 r1, .int .i64 r2, .int .i64 r3, .int .i64 r4, .slice A l.length cap] 132)
  have hz := G1.out.2.2.2
  simp only [World.size_alloc] at hz
  generalize w1.alloc (.cells #[.int .i64 r0, .int .i64 r1, .int .i64 r2, .int .i64 r3, .int .i64 r4, .slice A l.length cap] 132) = w2 at *
  have d8 := D8.later
  have d5 := D5.later
  have G2 := Lib.hid (And.intro B2 (And.intro D5 (And.intro D6 D8)))
  clear B2 D5 D6 D8
  have hcase : ∃ c1 c2 c3, isTime t0 = c1 ∧ isTake t1 = c2 ∧ (t3 == -1) = c3 := ⟨_, _, _, rfl, rfl, rfl⟩
  obtain ⟨c1, c2, c3, g1, g2, g3⟩ := hcase
  have hLL : ∃ L, L = [er, unl (decide ((l.length : Int) < 40)) 16, unl ((c1 && c2) && isTake t2) 2, unl (decide (t1 ≤ t2)) 9, unl (c3 || isTime t3) 2, unl (decide (en ≤ t0)) 26] := ⟨_, rfl⟩
  obtain ⟨L, hL⟩ := hLL
  have e75 : ∀ (A : Option Addr) (n c : Nat) (w : World), n = L.length → n ≤ 1000 → Sl intC 1 w A L → Calls Try.prog 75 #[.slice A n c] w fun e w' => e = .returned (.int .i64 E) ∧ w = w' := fun A n c w hn hl hS => by
    have h := c75 L A n c w hn hl hS
    have := H.out.2.2.2
    rw [g1, g2, g3, ← hL] at this
    rwa [this] at h
  have e75 := Lib.hid e75
  cases c1 <;> cases c2 <;> cases c3
  all_goals
    refine wp_region_tail 46 (by kernel_rfl) (by kernel_rfl) ?_
    simp only [List.take_succ_cons, List.take_zero, List.drop_succ_cons, List.drop_zero]
    repeat (go_big_quiet_step ((first
       | (go_at_call 78; exact later_same (c78 _ _ _))
       | (go_at_call 128; exact later_same (isTime_is g1 _))
       | (go_at_call 128; exact later_same (c128 _ _))
       | (go_at_call 134; exact later_same (isTake_is g2 _))
       | (go_at_call 134; exact later_same (c134 _ _))
       | (go_at_call 93; exact later_of (H.out.2.1 _ (below_step G2.out.1 (Later.below _)))))))
    refine wpQuiet_nil ?_
    rintro _ ⟨nq, rfl⟩
    clear d8 d5
    go_wp2_with fail
    refine (e75.out _ _ _ _ (by rw [hL]; rfl) (by simp) (by rw [hL]; exact Sl.of_row (fun _ => rfl) (heap_alloc_new _ _) rfl)).mono ?_
    rintro e w3 ⟨rfl, rfl⟩
    have b3 := bl_alloc nq.below (.cells #[.int .i64 er, .int .i64 0] 26)
    clear b3
    generalize hw3 : nq.at.alloc _ = w3 at *
    have b3 : Below w2.heap.size w2 w3 := by rw [← hw3]; exact bl_alloc nq.below _
    clear hw3
    have D8 := G2.out.2.2.2.below b3
    have D6 := G2.out.2.2.1.below b3
    have B3 := below_step G2.out.1 b3
    have c8 := D8.cell
    have c6 := D6.cell
    have f6 := D6.frozen
    by_cases hE0 : E = 0
    · subst hE0
      have e90 := H.out.2.2.1 rfl
      have hX := HX.out
      rw [if_neg (by simp)] at hX
      subst hX
      have d8 := D8.later
      have hf : ∀ w : World, (Instr.field 60 (.agg #[.int .i64 be, .int .i64 k]) 0).run Try.prog w = .ok (.int .i64 be) w := fun _ => by kernel_rfl
      go_wp2_with fail
      refine wp_region_tail 6 (by kernel_rfl) (by kernel_rfl) ?_
      simp only [List.take_succ_cons, List.take_zero, List.drop_succ_cons, List.drop_zero]
      repeat (go_big_quiet_step ((first
        | (go_at_call 78; exact later_same (c78 _ _ _))
        | (go_at_call 90; exact later_of (e90 _ (below_step B3 (Later.below _)))))))
      refine wpQuiet_nil ?_
      rintro _ ⟨mq, rfl⟩
      clear d8 c6 f6
      have c6 := (D6.below mq.below).cell
      have f6 := (D6.below mq.below).frozen
      have B4 := below_step B3 mq.below
      go_wp2
      refine bodyPost_ret (v := .tuple #[.agg #[.int .i64 r0, .int .i64 r1, .int .i64 r2, .int .i64 r3, .int .i64 r4, .slice A l.length cap], .int .i64 (unl (be == 0) 22)]) (by simp [results, Try.results81, go_sem, c6]) rfl ⟨?_, ?_⟩
      · have hq : (be == 0) = decide (be = 0) := by by_cases h : be = 0 <;> simp [h]
        rw [hq]
      repeat refine bl_set ?_ _ (show w.heap.size ≤ w.heap.size + 1 + 1 by omega) _
      exact B4
    · have hE1 : (E != 0) = true := by simpa using hE0
      have hX := HX.out
      rw [if_pos hE0] at hX
      subst hX
      go_wp2
      refine bodyPost_ret (v := .tuple #[.agg #[.int .i64 r0, .int .i64 r1, .int .i64 r2, .int .i64 r3, .int .i64 r4, .slice A l.length cap], .int .i64 E]) (by simp [results, Try.results81, go_sem, c6]) rfl ⟨rfl, ?_⟩
      repeat refine bl_set ?_ _ (show w.heap.size ≤ w.heap.size + 1 + 1 by omega) _
      exact B3

end Go.Proofs.Ytmfmpagfjgpodaa
