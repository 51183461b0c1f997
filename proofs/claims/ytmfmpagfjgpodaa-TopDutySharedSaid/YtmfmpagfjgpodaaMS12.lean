/- Texts in one: The walks of the first broken rule and of the end of records; at most 1000 records, times up to 10000000000. -/
import Derived.Test.YtmfmpagfjgpodaaMS11
import Derived.Test.YtmfmpagfjgpodaaMS0
/-! WG: The walks of the first broken rule and of the end of records; at most 1000 records, times up to 10000000000. -/
namespace Go.Proofs.Ytmfmpagfjgpodaa
open Go.RowKit

set_option maxRecDepth 100000 in
set_option maxHeartbeats 2000000 in
theorem c90 (l : List Rec) (r : Rul) (A : Option Addr) (n cap : Nat) (w : World) (hn : n = l.length) (hl : n ≤ 1000) (hcap : n ≤ cap) (hT : Timed l) (hS : Sl Rec.cells 3 w A l) :
    Calls Try.prog 90 #[.agg #[.int .i64 r.brk, .int .i64 r.rest, .int .i64 r.stint, .int .i64 r.shift, .int .i64 r.week, .slice A n cap]] w fun e w' =>
      e = .returned (.agg #[.int .i64 (firstBroken r l).2, .int .i64 (firstBroken r l).1]) ∧ Below w.heap.size w w' := by
  subst hn
  have e1 := fun k (hk : k < l.length) w' hb => c136 (l.take (k + 1)) r A (k + 1) cap w' (by simp; omega) (by omega) (by omega) (by omega) (hT.take _) ((hS.below (w' := w') hb).take _)
  unfold firstBroken
  obtain ⟨E, hE⟩ : ∃ E, (fun k => brokenP r (l.take (k + 1))) = E := ⟨_, rfl⟩
  have hEk : ∀ k, brokenP r (l.take (k + 1)) = E k := fun k => by rw [← hE]
  rw [hE]
  simp only [hEk] at e1
  clear hE hEk hT hS
  have H := Lib.hid e1
  clear e1
  obtain ⟨r0, r1, r2, r3, r4⟩ := r
  dsimp only at *
  go_enter Try.func90, Try.ntmps90
  go_wp2
  have K0 := Lib.hid (And.intro (bl_alloc (bl_alloc (Below.refl w.heap.size w) (.cells #[.int .i64 r0, .int .i64 r1, .int .i64 r2, .int .i64 r3, .int .i64 r4, .slice A l.length cap] 132)) (.cells #[.int .i64 0, .int .i64 0] 60))
    (And.intro ((Bk.new w 132 #[.int .i64 r0, .int .i64 r1, .int .i64 r2, .int .i64 r3, .int .i64 r4, .slice A l.length cap]).alloc (.cells #[.int .i64 0, .int .i64 0] 60))
     (Bk.new (w.alloc (.cells #[.int .i64 r0, .int .i64 r1, .int .i64 r2, .int .i64 r3, .int .i64 r4, .slice A l.length cap] 132)) 60 #[.int .i64 0, .int .i64 0])))
  go_loopw [3, 4, 8] (fun _ _ i wr => ∃ k : Nat, k ≤ l.length ∧ i = .int .i64 k ∧ firstErr E 0 l.length = firstErr E k (l.length - k) ∧ Below w.heap.size w wr ∧
    Bk wr w.heap.size 132 #[.int .i64 r0, .int .i64 r1, .int .i64 r2, .int .i64 r3, .int .i64 r4, .slice A l.length cap] ∧ Bk wr (w.heap.size + 1) 60 #[.int .i64 0, .int .i64 0]) (fun _ _ i _ => l.length - (intOf i).toNat)
  case atStart => exact ⟨0, Nat.zero_le _, rfl, by simp, K0.out.1, K0.out.2.1, by simpa using K0.out.2.2⟩
  case round =>
    obtain ⟨k, hk, rfl, hf, hb, b1, b2⟩ := hrel
    clear K0
    by_cases hlt : k < l.length
    · rw [firstErr_at hlt] at hf
      have k1 := b1.later
      have hc1 : k + 1 ≤ cap := by omega
      have G := Lib.hid (And.intro hf (And.intro hb (And.intro b1 b2)))
      clear hf hb b1 b2
      go_wp2_with fail
      refine wp_region_later (by kernel_rfl) (by kernel_rfl) ?_
      repeat (go_big_quiet_step ((go_at_call 136; exact later_of (H.out k hlt _ (below_step G.out.2.1 (Later.below _))))))
      refine wpQuiet_nil ?_
      rintro _ ⟨nq, rfl⟩
      have B1 := below_step G.out.2.1 nq.below
      have b2 := G.out.2.2.2.below nq.below
      have c2 := b2.cell
      have f2 := b2.frozen
      have B := Lib.hid (And.intro B1 b2)
      clear B1 b2
      by_cases hz : E k = 0
      · have hz1 : (E k != 0) = false := by simpa using hz
        have HZ := Lib.hid hz
        clear hz
        go_wp2
        go_roundw
        case rel => exact ⟨k + 1, by omega, by go_num, by rw [G.out.1, if_neg (by simp [HZ.out])], B.out.1, G.out.2.2.1.below nq.below, B.out.2⟩
        case measure => simp [intOf]; omega
      · have hz1 : (E k != 0) = true := by simpa using hz
        have HZ := Lib.hid hz
        clear hz
        go_wp2
        rw [G.out.1, if_pos HZ.out]
        refine bodyPost_ret (v := .agg #[.int .i64 (E k), .int .i64 k]) (by simp [results, Try.results90, go_sem, c2]) rfl ⟨rfl, ?_⟩
        repeat refine bl_set ?_ _ (by simp) _
        exact B.out.1
    · have G := Lib.hid (And.intro hf (And.intro hb (And.intro b1 b2)))
      have c2 := b2.cell
      have f2 := b2.frozen
      clear hf hb b1 b2
      go_wp2
      rw [G.out.1, show l.length - k = 0 by omega]
      refine bodyPost_ret (v := .agg #[.int .i64 0, .int .i64 0]) (by simp [results, Try.results90, go_sem, c2]) rfl ⟨rfl, ?_⟩
      repeat refine bl_set ?_ _ (by simp) _
      exact G.out.2.1
set_option maxRecDepth 100000 in
theorem c93 (l : List Rec) (r : Rul) (A : Option Addr) (n cap : Nat) (w : World) (hn : n = l.length) (hl : n ≤ 1000) (hS : Sl Rec.cells 3 w A l) :
    Calls Try.prog 93 #[.agg #[.int .i64 r.brk, .int .i64 r.rest, .int .i64 r.stint, .int .i64 r.shift, .int .i64 r.week, .slice A n cap]] w fun e w' => e = .returned (.int .i64 (if l.length = 0 then 0 else (rat l (l.length - 1)).hi)) ∧ Below w.heap.size w w' := by
  subst hn
  obtain ⟨r0, r1, r2, r3, r4⟩ := r
  dsimp only at *
  by_cases h0 : l.length = 0
  · rw [if_pos h0, h0]
    clear hS
    go_enter Try.func93, Try.ntmps93
    go_wp2
    go_ret
    exact ⟨rfl, bl_alloc (Below.refl _ _) _⟩
  · rw [if_neg h0, rat_get (by omega)]
    obtain ⟨b, o, rfl, z0, z1, z2⟩ := hS.recAt (k := l.length - 1) (by omega)
    have z2' := below_cell (bl_alloc (Below.refl w.heap.size w) (.cells #[.int .i64 r0, .int .i64 r1, .int .i64 r2, .int .i64 r3, .int .i64 r4, .slice (some ⟨b, o, none⟩) l.length cap] 132)) z2
    have b0 : ((l.length : Int) == 0) = false := by rw [beq_eq_false_iff_ne]; omega
    have hp : 1 ≤ l.length := by omega
    generalize l[l.length - 1].hi = e at *
    clear hS z0 z1 z2 h0
    go_enter Try.func93, Try.ntmps93
    go_wp2
    go_ret
    exact ⟨rfl, bl_alloc (Below.refl _ _) _⟩

end Go.Proofs.Ytmfmpagfjgpodaa
