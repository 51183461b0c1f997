/- Texts in one: The walks of work in a span, of copies of records, of the rules; at most 1000 records, times up to 10000000000. -/
import Derived.Test.YtmfmpagfjgpodaaMS0
import Derived.Test.YtmfmpagfjgpodaaMS7
/-! WB: The walks of work in a span, of copies of records, of the rules; at most 1000 records, times up to 10000000000. -/
namespace Go.Proofs.Ytmfmpagfjgpodaa
open Go.RowKit

set_option maxRecDepth 100000 in
theorem c79 (l : List Rec) (A : Option Addr) (n cap : Nat) (f t : Int) (w : World) (hn : n = l.length) (hl : n ≤ 1000) (hT : Timed l) (hf : -10000000000 ≤ f ∧ f ≤ 10000000000) (ht : -10000000000 ≤ t ∧ t ≤ 10000000000)
    (hS : Sl Rec.cells 3 w A l) :
    Calls Try.prog 79 #[.slice A n cap, .int .i64 f, .int .i64 t] w fun e w' => e = .returned (.int .i64 (workIn l f t)) ∧ Below w.heap.size w w' := by
  subst hn
  go_enter Try.func79, Try.ntmps79
  go_wp2
  go_loopw [7, 9, 12] (fun s _ i wr => ∃ k : Nat, k ≤ l.length ∧ i = .int .i64 k ∧ s = .int .i64 (workIn (l.take k) f t) ∧ Below w.heap.size w wr) (fun _ _ i _ => l.length - (intOf i).toNat)
  case atStart => exact ⟨0, Nat.zero_le _, rfl, rfl, Below.refl _ _⟩
  case round =>
    obtain ⟨k, hk, rfl, rfl, hb⟩ := hrel
    have hwb := workIn_bound hT f t k hk
    by_cases hlt : k < l.length
    · obtain ⟨b, o, rfl, h0, h1, h2⟩ := hS.recAt hlt
      have g0 := below_cell hb h0
      have g1 := below_cell hb h1
      have g2 := below_cell hb h2
      have hx := hT.at_ hlt
      have hs := workIn_succ l f t hlt
      rw [← wk_walk] at hs
      have H := Lib.hid (And.intro hb hs)
      clear hb hs hS h0 h1 h2 hT
      generalize l[k].driver = d at *
      generalize l[k].lo = x at *
      generalize l[k].hi = y at *
      generalize workIn (l.take k) f t = S at *
      go_wp2
      go_roundw
      case rel => exact ⟨k + 1, by omega, by go_num, by rw [H.out.2], bl_alloc H.out.1 _⟩
      case measure => simp [intOf]; omega
    · obtain rfl : k = l.length := by omega
      have HB := Lib.hid hb
      clear hb hS
      rw [List.take_length]
      go_wp2
      go_ret
      exact ⟨rfl, HB.out⟩
set_option maxRecDepth 100000 in
theorem c23 (l : List Rec) (A : Option Addr) (n cap : Nat) (f t : Int) (w : World) (hn : n = l.length) (hl : n ≤ 1000) (hT : Timed l) (hf : -10000000000 ≤ f ∧ f ≤ 10000000000) (ht : -10000000000 ≤ t ∧ t ≤ 10000000000)
    (hS : Sl Rec.cells 3 w A l) :
    Calls Try.prog 23 #[.slice A n cap, .int .i64 f, .int .i64 t] w fun e w' => e = .returned (.int .i64 (workIn l f t)) ∧ Below w.heap.size w w' := by
  subst hn
  go_enter Try.func23, Try.ntmps23
  go_wp2
  go_loopw [7, 8] (fun s i wr => ∃ k : Nat, k ≤ l.length ∧ i = .int .i64 k ∧ s = .int .i64 (workIn (l.take k) f t) ∧ Below w.heap.size w wr) (fun _ i _ => l.length - (intOf i).toNat)
  case atStart => exact ⟨0, Nat.zero_le _, rfl, rfl, Below.refl _ _⟩
  case round =>
    obtain ⟨k, hk, rfl, rfl, hb⟩ := hrel
    have hwb := workIn_bound hT f t k hk
    by_cases hlt : k < l.length
    · obtain ⟨b, o, rfl, h0, h1, h2⟩ := hS.recAt hlt
      have g1 := Later.cell (below_cell hb h1)
      have g2 := Later.cell (below_cell hb h2)
      have hx := hT.at_ hlt
      have hs := workIn_succ l f t hlt
      rw [← wk_walk] at hs
      have H := Lib.hid (And.intro hb hs)
      clear hb hs hS h0 h1 h2 hT
      generalize l[k].driver = d at *
      generalize l[k].lo = x at *
      generalize l[k].hi = y at *
      generalize workIn (l.take k) f t = S at *
      go_wp2
      refine wp_region_later (by kernel_rfl) (by kernel_rfl) ?_
      repeat (go_big_quiet_step (fail))
      refine wpQuiet_nil ?_
      rintro _ ⟨nq, rfl⟩
      go_wp2
      go_roundw
      case rel => exact ⟨k + 1, by omega, by go_num, by rw [H.out.2], below_step H.out.1 nq.2⟩
      case measure => simp [intOf]; omega
    · obtain rfl : k = l.length := by omega
      have HB := Lib.hid hb
      clear hb hS
      rw [List.take_length]
      go_wp2
      go_ret
      exact ⟨rfl, HB.out⟩
theorem info57 : (Try.prog.info? 57).map (fun i => (i.zero, i.size, i.bytes)) = some (some (.agg #[.string ByteArray.empty, .int .i64 0, .int .i64 0]), 3, 32) := by kernel_rfl
theorem Rec.oneCell (r : Rec) : ∀ u ∈ r.cells, u.oneCell' = true := by
  intro u hu
  simp only [Rec.cells, List.mem_cons, List.not_mem_nil, or_false] at hu
  rcases hu with rfl | rfl | rfl <;> rfl
/-- A slice of the call's own that reads as l. -/
def OwnR (B : Nat) (w : World) (A : Option Addr) (n c : Nat) (l : List Rec) : Prop := w.ownsRow B 57 3 (.slice A n c) n (l.flatMap Rec.cells)
theorem OwnR.sl {B : Nat} {w : World} {A : Option Addr} {n c : Nat} {l : List Rec} (h : OwnR B w A n c l) (hn : n = l.length) : Sl Rec.cells 3 w A l := Sl.of_own (fun _ => rfl) h hn
set_option maxRecDepth 100000 in
theorem c20 (l : List Rec) (A : Option Addr) (n cap : Nat) (w : World) (hn : n = l.length) (hl : n ≤ 1000000) (hS : Sl Rec.cells 3 w A l) :
    Calls Try.prog 20 #[.slice A n cap] w fun e w' => ∃ A2 c2, e = .returned (.slice A2 n c2) ∧ OwnR w.heap.size w' A2 n c2 l ∧ Below w.heap.size w w' := by
  obtain ⟨i0, hi0, hz0, hz1, hz2⟩ := info_parts info57
  have HN := Lib.hid hn
  have q1 : 0 + n ≤ maxLen := by simp only [maxLen]; omega
  have q2 : (0 + n) * 32 ≤ 140737488355328 := by omega
  have own0 := Lib.hid (World.ownsRow_made (base := w.heap.size) (e := 57) (size := 3) w #[] 0 (Nat.le_refl _) (by simp) rfl)
  have HS := Lib.hid (hS.alloc (.cells #[] 57))
  clear hn hS
  go_enter Try.func20, Try.ntmps20
  go_wp2_with (at_builtin; refine wpList_append_sl _ rfl (.tmp 3) (.tmp 4) 22 rfl w.heap.size 57 i0 _ 3 32 Try.underlying22 hi0 hz0 hz1 hz2 rfl (by omega) Rec.cells_len Rec.oneCell (some ⟨w.heap.size, 0, none⟩) 0 0 [] rfl own0.out A n cap l rfl HN.out HS.out q1 q2 (by simp) ?_; intro A2 c2 w2 own2 gr2 at2)
  go_ret
  refine ⟨A2, c2, by simp, by simpa [OwnR] using own2, bl_grown (bl_alloc (Below.refl _ _) _) gr2 (by simp [Value.ownBlock])⟩
theorem rulesErr_no {r : Rul} (h : ruleOk r.brk = false ∨ ruleOk r.rest = false ∨ ruleOk r.stint = false ∨ ruleOk r.shift = false ∨ ruleOk r.week = false) : rulesErr r = 2 := by
  unfold rulesErr
  rw [if_neg]
  simp only [Bool.and_eq_true, not_and, Bool.not_eq_true]
  rcases h with h | h | h | h | h <;> simp [h]
theorem rulesErr_yes {r : Rul} (h0 : ruleOk r.brk = true) (h1 : ruleOk r.rest = true) (h2 : ruleOk r.stint = true) (h3 : ruleOk r.shift = true) (h4 : ruleOk r.week = true) : rulesErr r = unl (decide (r.brk ≤ r.rest)) 9 := by
  unfold rulesErr
  simp [h0, h1, h2, h3, h4]
set_option maxRecDepth 100000 in
theorem c137 (r : Rul) (w : World) : Calls Try.prog 137 #[.agg r.cells] w fun e w' => e = .returned (.int .i64 (rulesErr r)) ∧ Below w.heap.size w w' := by
  have hno := @rulesErr_no r
  have hyes := @rulesErr_yes r
  obtain ⟨r0, r1, r2, r3, r4⟩ := r
  unfold Rul.cells
  dsimp only at hno hyes ⊢
  have H := Lib.hid (And.intro hno hyes)
  clear hno hyes
  generalize rulesErr _ = er at *
  have i0 : ∀ w, (Instr.index 186 (.agg #[.int .i64 r0, .int .i64 r1, .int .i64 r2, .int .i64 r3, .int .i64 r4]) (.int .i64 0)).run Try.prog w = .ok (.int .i64 r0) w := fun _ => by kernel_rfl
  have i1 : ∀ w, (Instr.index 186 (.agg #[.int .i64 r0, .int .i64 r1, .int .i64 r2, .int .i64 r3, .int .i64 r4]) (.int .i64 1)).run Try.prog w = .ok (.int .i64 r1) w := fun _ => by kernel_rfl
  have i2 : ∀ w, (Instr.index 186 (.agg #[.int .i64 r0, .int .i64 r1, .int .i64 r2, .int .i64 r3, .int .i64 r4]) (.int .i64 2)).run Try.prog w = .ok (.int .i64 r2) w := fun _ => by kernel_rfl
  have i3 : ∀ w, (Instr.index 186 (.agg #[.int .i64 r0, .int .i64 r1, .int .i64 r2, .int .i64 r3, .int .i64 r4]) (.int .i64 3)).run Try.prog w = .ok (.int .i64 r3) w := fun _ => by kernel_rfl
  have i4 : ∀ w, (Instr.index 186 (.agg #[.int .i64 r0, .int .i64 r1, .int .i64 r2, .int .i64 r3, .int .i64 r4]) (.int .i64 4)).run Try.prog w = .ok (.int .i64 r4) w := fun _ => by kernel_rfl
  go_enter Try.func137, Try.ntmps137
  go_wp2
  have B := bl_alloc (Below.refl w.heap.size w) (.cells #[.int .i64 r0, .int .i64 r1, .int .i64 r2, .int .i64 r3, .int .i64 r4] 35)
  have HB := Lib.hid B
  clear B
  go_loop [4, 16] (fun _ i => ∃ k : Nat, k ≤ 5 ∧ i = .int .i64 k ∧ (0 < k → ruleOk r0 = true) ∧ (1 < k → ruleOk r1 = true) ∧ (2 < k → ruleOk r2 = true) ∧ (3 < k → ruleOk r3 = true) ∧ (4 < k → ruleOk r4 = true)) (fun _ i => 5 - (intOf i).toNat)
  case atStart => exact ⟨0, by omega, rfl, by omega, by omega, by omega, by omega, by omega⟩
  case round =>
    obtain ⟨k, hk, rfl, h0, h1, h2, h3, h4⟩ := hrel
    have HH := Lib.hid (And.intro h0 (And.intro h1 (And.intro h2 (And.intro h3 h4))))
    clear h0 h1 h2 h3 h4
    have hc : k = 0 ∨ k = 1 ∨ k = 2 ∨ k = 3 ∨ k = 4 ∨ k = 5 := by omega
    rcases hc with rfl | rfl | rfl | rfl | rfl | rfl
    all_goals
      go_wp2_with (first | (go_at_call 106; refine (c106 _ _ _ _).mono ?_; rintro e w' ⟨rfl, rfl⟩) | (go_at_call 78; refine (c78 _ _ _).mono ?_; rintro e w' ⟨rfl, rfl⟩))
    all_goals first
      | (go_round
         case rel =>
           have hh := ‹(!inR _ 1 2000000) = false›
           rw [Bool.not_eq_false'] at hh
           first
             | exact ⟨1, by omega, rfl, fun _ => hh, by omega, by omega, by omega, by omega⟩
             | exact ⟨2, by omega, rfl, fun _ => HH.out.1 (by omega), fun _ => hh, by omega, by omega, by omega⟩
             | exact ⟨3, by omega, rfl, fun _ => HH.out.1 (by omega), fun _ => HH.out.2.1 (by omega), fun _ => hh, by omega, by omega⟩
             | exact ⟨4, by omega, rfl, fun _ => HH.out.1 (by omega), fun _ => HH.out.2.1 (by omega), fun _ => HH.out.2.2.1 (by omega), fun _ => hh, by omega⟩
             | exact ⟨5, by omega, rfl, fun _ => HH.out.1 (by omega), fun _ => HH.out.2.1 (by omega), fun _ => HH.out.2.2.1 (by omega), fun _ => HH.out.2.2.2.1 (by omega), fun _ => hh⟩
         case measure => simp [intOf])
      | (go_ret
         refine ⟨?_, HB.out⟩
         first
           | (have hh := ‹(!inR _ 1 2000000) = true›
              rw [Bool.not_eq_true'] at hh
              rw [H.out.1 (by first | exact .inl hh | exact .inr (.inl hh) | exact .inr (.inr (.inl hh)) | exact .inr (.inr (.inr (.inl hh))) | exact .inr (.inr (.inr (.inr hh))))]
              rfl)
           | (rw [H.out.2 (HH.out.1 (by omega)) (HH.out.2.1 (by omega)) (HH.out.2.2.1 (by omega)) (HH.out.2.2.2.1 (by omega)) (HH.out.2.2.2.2 (by omega))]; rfl))

end Go.Proofs.Ytmfmpagfjgpodaa
