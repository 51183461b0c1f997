/- The walk of the rule that is broken at a record, of the reference; at most 1000 records. -/
import Derived.Test.YtmfmpagfjgpodaaWT
namespace Go.Proofs.Ytmfmpagfjgpodaa
open Go.RowKit

/-- The seconds of records number i to k - 1. -/
def segSum (l : List Rec) (i k : Nat) : Int := (((l.take k).drop i).map fun x => x.hi - x.lo).sum
theorem segSum_self (l : List Rec) (i : Nat) : segSum l i i = 0 := by
  unfold segSum
  rw [List.drop_eq_nil_of_le (by rw [List.length_take]; exact Nat.min_le_left _ _)]
  rfl
theorem segSum_succ (l : List Rec) {i k : Nat} (hi : i ≤ k) (hk : k < l.length) : segSum l i (k + 1) = segSum l i k + (l[k].hi - l[k].lo) := by
  unfold segSum
  rw [List.take_succ_eq_append_getElem hk, List.drop_append_of_le_length (by rw [List.length_take]; omega), List.map_append, List.sum_append]
  simp
theorem segSum_bound {l : List Rec} (hT : Timed l) (i : Nat) : ∀ k, k ≤ l.length → -10000000000 * (k : Int) ≤ segSum l i k ∧ segSum l i k ≤ 10000000000 * (k : Int)
  | 0, _ => by simp [segSum]
  | k + 1, hk => by
    rcases Nat.lt_or_ge k i with h | h
    · have : segSum l i (k + 1) = 0 := by
        unfold segSum
        rw [List.drop_eq_nil_of_le (by rw [List.length_take]; omega)]
        rfl
      omega
    · have ih := segSum_bound hT i k (by omega)
      have hx := hT.at_ (show k < l.length by omega)
      rw [segSum_succ l h (by omega)]
      omega
/-- The rule that is broken at record number k, as the reference tells it. -/
def brokenRef (r : Rul) (l : List Rec) (k : Nat) : Int :=
  if r.stint < segSum l (firstIdx l r.brk k) (k + 1) then 1
  else if r.shift < (rat l k).hi - (rat l (firstIdx l r.rest k)).lo then 2
  else if r.week < workIn (l.take (k + 1)) ((rat l k).hi - 604800) (rat l k).hi then 3 else 0
set_option maxRecDepth 100000 in
set_option maxHeartbeats 8000000 in
theorem c91 (l : List Rec) (r : Rul) (k : Nat) (A : Option Addr) (n cap : Nat) (w : World) (hn : n = l.length) (hl : n ≤ 1000) (hk : k < n) (hcap : n ≤ cap) (hT : Timed l) (hS : Sl Rec.cells 3 w A l) :
    Calls Try.prog 91 #[.agg r.cells, .slice A n cap, .int .i64 k] w fun e w' => e = .returned (.int .i64 (brokenRef r l k)) ∧ Below w.heap.size w w' := by
  subst hn
  have e138 := fun gap w' hb => c138 l k gap A _ cap w' rfl hl hk hT (hS.below (w' := w') hb)
  obtain ⟨b, o, rfl, z0, z1, z2⟩ := hS.recAt hk
  have hf1 := firstIdx_le l r.brk k
  have hf2 := firstIdx_le l r.rest k
  obtain ⟨b', o', hA', y0, y1, y2⟩ := hS.recAt (k := firstIdx l r.rest k) (by omega)
  obtain ⟨rfl, rfl⟩ : b' = b ∧ o' = o := by injection hA' with h; injection h with h1 h2; exact ⟨h1.symm, h2.symm⟩
  have hx := (hT.at_ hk).2.2
  have hy1 := (hT.at_ (k := firstIdx l r.rest k) (by omega)).1
  have hy2 := (hT.at_ (k := firstIdx l r.rest k) (by omega)).2.1
  have e23 := fun f t h1 h2 w' hb => c23 (l.take (k + 1)) (some ⟨b', o', none⟩) (k + 1) cap f t w' (by rw [List.length_take]; omega) (by omega) (hT.take _) h1 h2 ((hS.below (w' := w') hb).take _)
  unfold brokenRef
  rw [rat_get hk, rat_get (show firstIdx l r.rest k < l.length by omega)]
  have hseg := fun i => segSum_bound hT i
  have hstep := fun i j (h : i ≤ j) (hj : j < l.length) => segSum_succ l h hj
  have hself := segSum_self l (firstIdx l r.brk k)
  clear z0 y0 y2
  generalize l[k].hi = xh at *
  generalize l[k].lo = xl at *
  generalize l[firstIdx l r.rest k].lo = yl at *
  generalize hg1 : firstIdx l r.brk k = f1 at *
  generalize hg2 : firstIdx l r.rest k = f2 at *
  obtain ⟨r0, r1, r2, r3, r4⟩ := r
  unfold Rul.cells
  dsimp only at *
  generalize hX : (if r2 < segSum l f1 (k + 1) then (1 : Int) else if r3 < xh - yl then 2 else if r4 < workIn (l.take (k + 1)) (xh - 604800) xh then 3 else 0) = X
  have e1 := e138 r0
  have e2 := e138 r1
  rw [hg1] at e1
  rw [hg2] at e2
  have H := Lib.hid (And.intro e1 (And.intro e2 (And.intro e23 (And.intro hX (And.intro hT (And.intro hS (And.intro hseg hstep)))))))
  clear e1 e2 e23 hX e138 hA'
  have K3 := Bk.new w 35 #[.int .i64 r0, .int .i64 r1, .int .i64 r2, .int .i64 r3, .int .i64 r4]
  have B0 := bl_alloc (Below.refl w.heap.size w) (.cells #[.int .i64 r0, .int .i64 r1, .int .i64 r2, .int .i64 r3, .int .i64 r4] 35)
  go_enter Try.func91, Try.ntmps91
  go_wp2_with fail
  refine (H.out.1 _ B0).mono ?_
  rintro e w1 ⟨rfl, hb1⟩
  have K1 := K3.below hb1
  have B1 := below_step B0 hb1
  clear hb1 K3 B0 hT hS hseg hstep hg1 hg2
  go_wp2_with fail
  go_loopw [7, 8] (fun s i wr => ∃ j : Nat, f1 ≤ j ∧ j ≤ k + 1 ∧ i = .int .i64 j ∧ s = .int .i64 (segSum l f1 j) ∧ Below w1.heap.size w1 wr) (fun _ i _ => k + 1 - (intOf i).toNat)
  case atStart => exact ⟨f1, Nat.le_refl _, by omega, rfl, by rw [hself], Below.refl _ _⟩
  case round =>
    obtain ⟨j, hfj, hjk, rfl, rfl, hb⟩ := hrel
    by_cases hlt : j ≤ k
    · have hjl : j < l.length := by omega
      obtain ⟨b2, o2, hA2, x0, x1, x2⟩ := H.out.2.2.2.2.2.1.recAt hjl
      obtain ⟨rfl, rfl⟩ : b2 = b' ∧ o2 = o' := by injection hA2 with h; injection h with h1 h2; exact ⟨h1.symm, h2.symm⟩
      have g1 := Later.cell (below_cell (below_step B1 hb) x1)
      have g2 := Later.cell (below_cell (below_step B1 hb) x2)
      have hs := H.out.2.2.2.2.2.2.2 f1 j hfj hjl
      have hbd := H.out.2.2.2.2.2.2.1 f1 j (by omega)
      have ht := H.out.2.2.2.2.1.at_ hjl
      obtain ⟨ht1, ht2, ht3, ht4⟩ := ht
      have hle : decide ((j : Int) ≤ (k : Int)) = true := by simp; omega
      have HB := Lib.hid (And.intro hb hs)
      clear hb hs hA2 x0 x1 x2
      generalize l[j].lo = lo at *
      generalize l[j].hi = hi at *
      generalize segSum l f1 j = S at *
      go_wp2_with fail
      refine wp_region_later (by kernel_rfl) (by kernel_rfl) ?_
      repeat (go_big_quiet_step (fail))
      refine wpQuiet_nil ?_
      rintro _ ⟨nq, rfl⟩
      go_wp2_with fail
      go_roundw
      case rel => exact ⟨j + 1, by omega, by omega, by go_num, by rw [HB.out.2]; congr 1; omega, below_step HB.out.1 nq.below⟩
      case measure => simp [intOf]; omega
    · obtain rfl : j = k + 1 := by omega
      have hle : decide (((k + 1 : Nat) : Int) ≤ (k : Int)) = false := by simp; omega
      have K2 := K1.below hb
      have B2 := below_step B1 hb
      have hX := H.out.2.2.2.1
      have ck := K2.cell
      generalize segSum l f1 (k + 1) = S at *
      clear hself hb K1 B1 z1
      by_cases t1 : r2 < S
      · have t1' : decide (r2 < S) = true := by simpa using t1
        rw [if_pos t1] at hX
        subst hX
        go_wp2
        go_ret
        exact ⟨rfl, B2⟩
      · have t1' : decide (r2 < S) = false := by simpa using t1
        rw [if_neg t1] at hX
        have lk := K2.later
        have l2 := Later.cell (below_cell B2 z2)
        have l1 := Later.cell (below_cell B2 y1)
        have hfl : f2 < l.length := by omega
        by_cases t2 : r3 < xh - yl
        · have t2' : decide (r3 < xh - yl) = true := by simpa using t2
          rw [if_pos t2] at hX
          subst hX
          go_wp2_with fail
          refine wp_region_later (by kernel_rfl) (by kernel_rfl) ?_
          repeat (go_big_quiet_step ((go_at_call 138; exact later_of (H.out.2.1 _ (below_step B2 (Later.below _))))))
          refine wpQuiet_nil ?_
          rintro _ ⟨nq, rfl⟩
          go_wp2
          go_ret
          exact ⟨rfl, below_step B2 nq.below⟩
        · have t2' : decide (r3 < xh - yl) = false := by simpa using t2
          rw [if_neg t2] at hX
          go_wp2_with fail
          refine wp_region_later (by kernel_rfl) (by kernel_rfl) ?_
          repeat (go_big_quiet_step ((go_at_call 138; exact later_of (H.out.2.1 _ (below_step B2 (Later.below _))))))
          refine wpQuiet_nil ?_
          rintro _ ⟨nq, rfl⟩
          have B3 := below_step B2 nq.below
          have K3 := K2.below nq.below
          have m2 := Later.cell (below_cell B3 z2)
          have mk := K3.later
          clear lk l2 l1 ck K2
          generalize nq.at = w3 at *
          have e23 := H.out.2.2.1 (xh - 604800) xh (by omega) (by omega)
          generalize workIn (l.take (k + 1)) (xh - 604800) xh = W at *
          have E23 := Lib.hid e23
          clear e23
          by_cases t3 : r4 < W
          · have t3' : decide (r4 < W) = true := by simpa using t3
            rw [if_pos t3] at hX
            subst hX
            go_wp2_with fail
            refine wp_region_later (by kernel_rfl) (by kernel_rfl) ?_
            repeat (go_big_quiet_step ((go_at_call 23; exact later_of (E23.out _ (below_step B3 (Later.below _))))))
            refine wpQuiet_nil ?_
            rintro _ ⟨mq, rfl⟩
            go_wp2
            go_ret
            exact ⟨rfl, below_step B3 mq.below⟩
          · have t3' : decide (r4 < W) = false := by simpa using t3
            rw [if_neg t3] at hX
            subst hX
            go_wp2_with fail
            refine wp_region_later (by kernel_rfl) (by kernel_rfl) ?_
            repeat (go_big_quiet_step ((go_at_call 23; exact later_of (E23.out _ (below_step B3 (Later.below _))))))
            refine wpQuiet_nil ?_
            rintro _ ⟨mq, rfl⟩
            go_wp2
            go_ret
            exact ⟨rfl, below_step B3 mq.below⟩

end Go.Proofs.Ytmfmpagfjgpodaa
