/- Texts in one: The walk of the first record of a group, of the reference; at most 1000 records. -/
import Derived.Test.YtmfmpagfjgpodaaMS0
import Derived.Test.YtmfmpagfjgpodaaMS8
import Derived.Test.YtmfmpagfjgpodaaMS7
/-! WT: The walk of the first record of a group, of the reference; at most 1000 records. -/
namespace Go.Proofs.Ytmfmpagfjgpodaa
open Go.RowKit

/-- The first record of the group of record number k. -/
def firstIdx (l : List Rec) (gap : Int) : Nat → Nat
  | 0 => 0
  | k + 1 => if (rat l (k + 1)).lo - (rat l k).hi < gap then firstIdx l gap k else k + 1
theorem firstIdx_le (l : List Rec) (gap : Int) : ∀ k, firstIdx l gap k ≤ k
  | 0 => Nat.le_refl _
  | k + 1 => by
    rw [firstIdx]
    split
    · exact Nat.le_succ_of_le (firstIdx_le l gap k)
    · exact Nat.le_refl _
set_option maxRecDepth 100000 in
set_option maxHeartbeats 4000000 in
theorem c138 (l : List Rec) (at_ : Nat) (gap : Int) (A : Option Addr) (n cap : Nat) (w : World) (hn : n = l.length) (hl : n ≤ 1000) (ha : at_ < n) (hT : Timed l) (hS : Sl Rec.cells 3 w A l) :
    Calls Try.prog 138 #[.slice A n cap, .int .i64 at_, .int .i64 gap] w fun e w' => e = .returned (.int .i64 (firstIdx l gap at_)) ∧ Below w.heap.size w w' := by
  subst hn
  generalize hR : firstIdx l gap at_ = R
  go_enter Try.func138, Try.ntmps138
  go_wp2
  go_loopw [1] (fun i w1 => ∃ k : Nat, k < l.length ∧ i = .int .i64 k ∧ firstIdx l gap k = R ∧ Below w.heap.size w w1) (fun i _ => (intOf i).toNat)
  case atStart => exact ⟨at_, ha, rfl, hR, Below.refl _ _⟩
  case round =>
    obtain ⟨k, hk, rfl, hf, hb⟩ := hrel
    by_cases hk0 : k = 0
    · subst hk0
      have hR0 : (0 : Nat) = R := by rw [← hf]; rfl
      subst hR0
      have hb0 := Lib.hid hb
      clear hb hS hT hf hR
      have gd : decide ((0 : Int) < ((0 : Nat) : Int)) = false := rfl
      go_wp2_with fail
      refine wp_region_later (by kernel_rfl) (by kernel_rfl) ?_
      repeat (go_big_quiet_step (fail))
      refine wpQuiet_nil ?_
      rintro _ ⟨nq, rfl⟩
      go_wp2
      go_ret
      exact ⟨rfl, below_step hb0.out nq.below⟩
    · obtain ⟨j, hj⟩ : ∃ j, k = j + 1 := ⟨k - 1, by omega⟩
      obtain ⟨b, o, rfl, x0, x1, x2⟩ := hS.recAt hk
      obtain ⟨b', o', hA', y0, y1, y2⟩ := hS.recAt (k := j) (by omega)
      obtain ⟨rfl, rfl⟩ : b' = b ∧ o' = o := by injection hA' with h; injection h with h1 h2; exact ⟨h1.symm, h2.symm⟩
      have g1 := Later.cell (below_cell hb x1)
      have g2 := Later.cell (below_cell hb y2)
      have hx1 := (hT.at_ hk).1
      have hx2 := (hT.at_ hk).2.1
      have hy1 := (hT.at_ (k := j) (by omega)).2.2.1
      have hy2 := (hT.at_ (k := j) (by omega)).2.2.2
      have hf2 : firstIdx l gap k = if l[k].lo - l[j].hi < gap then firstIdx l gap j else k := by
        subst hj
        rw [firstIdx, rat_get hk, rat_get (show j < l.length by omega)]
      rw [hf2] at hf
      have hj1 : (k : Int) - 1 = j := by omega
      have hp : decide ((0 : Int) < (k : Int)) = true := by simp; omega
      have HB := Lib.hid hb
      have hp2 : decide (0 < k) = true := by simp; omega
      have hjk : j < k := by omega
      clear hb hS hT x0 x1 x2 y0 y1 y2 hA' hR hf2
      generalize l[k].lo = x at *
      generalize l[j].hi = y at *
      clear hj
      by_cases hg : x - y < gap
      · rw [if_pos hg] at hf
        have hg' : decide (x - y < gap) = true := by simpa using hg
        have HF := Lib.hid hf
        clear hf
        go_wp2_with fail
        refine wp_region_later (by kernel_rfl) (by kernel_rfl) ?_
        repeat (go_big_quiet_step (fail))
        refine wpQuiet_nil ?_
        rintro _ ⟨nq, rfl⟩
        go_wp2_with fail
        go_roundw
        case rel => exact ⟨j, by omega, by first | rfl | go_num, HF.out, below_step HB.out nq.below⟩
        case measure => simp [intOf]; omega
      · rw [if_neg hg] at hf
        have hg' : decide (x - y < gap) = false := by simpa using hg
        subst hf
        go_wp2_with fail
        refine wp_region_later (by kernel_rfl) (by kernel_rfl) ?_
        repeat (go_big_quiet_step (fail))
        refine wpQuiet_nil ?_
        rintro _ ⟨nq, rfl⟩
        go_wp2
        go_ret
        exact ⟨rfl, below_step HB.out nq.below⟩

end Go.Proofs.Ytmfmpagfjgpodaa

/-! WU: The walk of the rule that is broken at a record, of the reference; at most 1000 records. -/
namespace Go.Proofs.Ytmfmpagfjgpodaa
open Go.RowKit

/-- The seconds of records number i to k - 1. -/
def segSum (l : List Rec) (i k : Nat) : Int := (((l.take k).drop i).map fun x => x.hi - x.lo).sum
theorem segSum_self (l : List Rec) (i : Nat) : segSum l i i = 0 := by
  unfold segSum
  rw [List.drop_eq_nil_of_le (by rw [List.length_take]; exact Nat.min_le_left _ _)]
  rfl
theorem segSum_succ (l : List Rec) {i k : Nat} (hi : i ≤ k) (hk : k < l.length) : segSum l i (k + 1) = segSum l i k + (l[k].hi - l[k].lo) := by
  unfold segSum
  rw [List.take_succ_eq_append_getElem hk, List.drop_append_of_le_length (by rw [List.length_take]; omega), List.map_append, List.sum_append]
  simp
theorem segSum_bound {l : List Rec} (hT : Timed l) (i : Nat) : ∀ k, k ≤ l.length → -10000000000 * (k : Int) ≤ segSum l i k ∧ segSum l i k ≤ 10000000000 * (k : Int)
  | 0, _ => by simp [segSum]
  | k + 1, hk => by
    rcases Nat.lt_or_ge k i with h | h
    · have : segSum l i (k + 1) = 0 := by
        unfold segSum
        rw [List.drop_eq_nil_of_le (by rw [List.length_take]; omega)]
        rfl
      omega
    · have ih := segSum_bound hT i k (by omega)
      have hx := hT.at_ (show k < l.length by omega)
      rw [segSum_succ l h (by omega)]
      omega
/-- The rule that is broken at record number k, as the reference tells it. -/
def brokenRef (r : Rul) (l : List Rec) (k : Nat) : Int :=
  if r.stint < segSum l (firstIdx l r.brk k) (k + 1) then 1
  else if r.shift < (rat l k).hi - (rat l (firstIdx l r.rest k)).lo then 2
  else if r.week < workIn (l.take (k + 1)) ((rat l k).hi - 604800) (rat l k).hi then 3 else 0
set_option maxRecDepth 100000 in
set_option maxHeartbeats 8000000 in
theorem c91 (l : List Rec) (r : Rul) (k : Nat) (A : Option Addr) (n cap : Nat) (w : World) (hn : n = l.length) (hl : n ≤ 1000) (hk : k < n) (hcap : n ≤ cap) (hT : Timed l) (hS : Sl Rec.cells 3 w A l) :
    Calls Try.prog 91 #[.agg r.cells, .slice A n cap, .int .i64 k] w fun e w' => e = .returned (.int .i64 (brokenRef r l k)) ∧ Below w.heap.size w w' := by
  subst hn
  have e138 := fun gap w' hb => c138 l k gap A _ cap w' rfl hl hk hT (hS.below (w' := w') hb)
  obtain ⟨b, o, rfl, z0, z1, z2⟩ := hS.recAt hk
  have hf1 := firstIdx_le l r.brk k
  have hf2 := firstIdx_le l r.rest k
  obtain ⟨b', o', hA', y0, y1, y2⟩ := hS.recAt (k := firstIdx l r.rest k) (by omega)
  obtain ⟨rfl, rfl⟩ : b' = b ∧ o' = o := by injection hA' with h; injection h with h1 h2; exact ⟨h1.symm, h2.symm⟩
  have hx := (hT.at_ hk).2.2
  have hy1 := (hT.at_ (k := firstIdx l r.rest k) (by omega)).1
  have hy2 := (hT.at_ (k := firstIdx l r.rest k) (by omega)).2.1
  have e23 := fun f t h1 h2 w' hb => c23 (l.take (k + 1)) (some ⟨b', o', none⟩) (k + 1) cap f t w' (by rw [List.length_take]; omega) (by omega) (hT.take _) h1 h2 ((hS.below (w' := w') hb).take _)
  unfold brokenRef
  rw [rat_get hk, rat_get (show firstIdx l r.rest k < l.length by omega)]
  have hseg := fun i => segSum_bound hT i
  have hstep := fun i j (h : i ≤ j) (hj : j < l.length) => segSum_succ l h hj
  have hself := segSum_self l (firstIdx l r.brk k)
  clear z0 y0 y2
  generalize l[k].hi = xh at *
  generalize l[k].lo = xl at *
  generalize l[firstIdx l r.rest k].lo = yl at *
  generalize hg1 : firstIdx l r.brk k = f1 at *
  generalize hg2 : firstIdx l r.rest k = f2 at *
  obtain ⟨r0, r1, r2, r3, r4⟩ := r
  unfold Rul.cells
  dsimp only at *
  generalize hX : (if r2 < segSum l f1 (k + 1) then (1 : Int) else if r3 < xh - yl then 2 else if r4 < workIn (l.take (k + 1)) (xh - 604800) xh then 3 else 0) = X
  have e1 := e138 r0
  have e2 := e138 r1
  rw [hg1] at e1
  rw [hg2] at e2
  have H := Lib.hid (And.intro e1 (And.intro e2 (And.intro e23 (And.intro hX (And.intro hT (And.intro hS (And.intro hseg hstep)))))))
  clear e1 e2 e23 hX e138 hA'
  have K3 := Bk.new w 35 #[.int .i64 r0, .int .i64 r1, .int .i64 r2, .int .i64 r3, .int .i64 r4]
  have B0 := bl_alloc (Below.refl w.heap.size w) (.cells #[.int .i64 r0, .int .i64 r1, .int .i64 r2, .int .i64 r3, .int .i64 r4] 35)
  go_enter Try.func91, Try.ntmps91
  go_wp2_with fail
  refine (H.out.1 _ B0).mono ?_
  rintro e w1 ⟨rfl, hb1⟩
  have K1 := K3.below hb1
  have B1 := below_step B0 hb1
  clear hb1 K3 B0 hT hS hseg hstep hg1 hg2
  go_wp2_with fail
  go_loopw [7, 8] (fun s i wr => ∃ j : Nat, f1 ≤ j ∧ j ≤ k + 1 ∧ i = .int .i64 j ∧ s = .int .i64 (segSum l f1 j) ∧ Below w1.heap.size w1 wr) (fun _ i _ => k + 1 - (intOf i).toNat)
  case atStart => exact ⟨f1, Nat.le_refl _, by omega, rfl, by rw [hself], Below.refl _ _⟩
  case round =>
    obtain ⟨j, hfj, hjk, rfl, rfl, hb⟩ := hrel
    by_cases hlt : j ≤ k
    · have hjl : j < l.length := by omega
      obtain ⟨b2, o2, hA2, x0, x1, x2⟩ := H.out.2.2.2.2.2.1.recAt hjl
      obtain ⟨rfl, rfl⟩ : b2 = b' ∧ o2 = o' := by injection hA2 with h; injection h with h1 h2; exact ⟨h1.symm, h2.symm⟩
      have g1 := Later.cell (below_cell (below_step B1 hb) x1)
      have g2 := Later.cell (below_cell (below_step B1 hb) x2)
      have hs := H.out.2.2.2.2.2.2.2 f1 j hfj hjl
      have hbd := H.out.2.2.2.2.2.2.1 f1 j (by omega)
      have ht := H.out.2.2.2.2.1.at_ hjl
      obtain ⟨ht1, ht2, ht3, ht4⟩ := ht
      have hle : decide ((j : Int) ≤ (k : Int)) = true := by simp; omega
      have HB := Lib.hid (And.intro hb hs)
      clear hb hs hA2 x0 x1 x2
      generalize l[j].lo = lo at *
      generalize l[j].hi = hi at *
      generalize segSum l f1 j = S at *
      go_wp2_with fail
      refine wp_region_later (by kernel_rfl) (by kernel_rfl) ?_
      repeat (go_big_quiet_step (fail))
      refine wpQuiet_nil ?_
      rintro _ ⟨nq, rfl⟩
      go_wp2_with fail
      go_roundw
      case rel => exact ⟨j + 1, by omega, by omega, by go_num, by rw [HB.out.2]; congr 1; omega, below_step HB.out.1 nq.below⟩
      case measure => simp [intOf]; omega
    · obtain rfl : j = k + 1 := by omega
      have hle : decide (((k + 1 : Nat) : Int) ≤ (k : Int)) = false := by simp; omega
      have K2 := K1.below hb
      have B2 := below_step B1 hb
      have hX := H.out.2.2.2.1
      have ck := K2.cell
      generalize segSum l f1 (k + 1) = S at *
      clear hself hb K1 B1 z1
      by_cases t1 : r2 < S
      · have t1' : decide (r2 < S) = true := by simpa using t1
        rw [if_pos t1] at hX
        subst hX
        go_wp2
        go_ret
        exact ⟨rfl, B2⟩
      · have t1' : decide (r2 < S) = false := by simpa using t1
        rw [if_neg t1] at hX
        have lk := K2.later
        have l2 := Later.cell (below_cell B2 z2)
        have l1 := Later.cell (below_cell B2 y1)
        have hfl : f2 < l.length := by omega
        by_cases t2 : r3 < xh - yl
        · have t2' : decide (r3 < xh - yl) = true := by simpa using t2
          rw [if_pos t2] at hX
          subst hX
          go_wp2_with fail
          refine wp_region_later (by kernel_rfl) (by kernel_rfl) ?_
          repeat (go_big_quiet_step ((go_at_call 138; exact later_of (H.out.2.1 _ (below_step B2 (Later.below _))))))
          refine wpQuiet_nil ?_
          rintro _ ⟨nq, rfl⟩
          go_wp2
          go_ret
          exact ⟨rfl, below_step B2 nq.below⟩
        · have t2' : decide (r3 < xh - yl) = false := by simpa using t2
          rw [if_neg t2] at hX
          go_wp2_with fail
          refine wp_region_later (by kernel_rfl) (by kernel_rfl) ?_
          repeat (go_big_quiet_step ((go_at_call 138; exact later_of (H.out.2.1 _ (below_step B2 (Later.below _))))))
          refine wpQuiet_nil ?_
          rintro _ ⟨nq, rfl⟩
          have B3 := below_step B2 nq.below
          have K3 := K2.below nq.below
          have m2 := Later.cell (below_cell B3 z2)
          have mk := K3.later
          clear lk l2 l1 ck K2
          generalize nq.at = w3 at *
          have e23 := H.out.2.2.1 (xh - 604800) xh (by omega) (by omega)
          generalize workIn (l.take (k + 1)) (xh - 604800) xh = W at *
          have E23 := Lib.hid e23
          clear e23
          by_cases t3 : r4 < W
          · have t3' : decide (r4 < W) = true := by simpa using t3
            rw [if_pos t3] at hX
            subst hX
            go_wp2_with fail
            refine wp_region_later (by kernel_rfl) (by kernel_rfl) ?_
            repeat (go_big_quiet_step ((go_at_call 23; exact later_of (E23.out _ (below_step B3 (Later.below _))))))
            refine wpQuiet_nil ?_
            rintro _ ⟨mq, rfl⟩
            go_wp2
            go_ret
            exact ⟨rfl, below_step B3 mq.below⟩
          · have t3' : decide (r4 < W) = false := by simpa using t3
            rw [if_neg t3] at hX
            subst hX
            go_wp2_with fail
            refine wp_region_later (by kernel_rfl) (by kernel_rfl) ?_
            repeat (go_big_quiet_step ((go_at_call 23; exact later_of (E23.out _ (below_step B3 (Later.below _))))))
            refine wpQuiet_nil ?_
            rintro _ ⟨mq, rfl⟩
            go_wp2
            go_ret
            exact ⟨rfl, below_step B3 mq.below⟩

end Go.Proofs.Ytmfmpagfjgpodaa

/-! VBrokP: The plain law of broken rules: the reference's and the library's first broken rule are one; no condition. -/
namespace Go.Proofs.Ytmfmpagfjgpodaa
open Go.RowKit
theorem rat_take {l : List Rec} {m k : Nat} (h : k < m) : rat (l.take m) k = rat l k := by
  unfold rat
  simp only [List.getD_eq_getElem?_getD, List.getElem?_take, if_pos h]
theorem firstErr_congr {E E' : Nat → Int} : ∀ (n k : Nat), (∀ j, k ≤ j → j < k + n → E j = E' j) → firstErr E k n = firstErr E' k n
  | 0, k, _ => rfl
  | n + 1, k, h => by
    rw [firstErr, firstErr, h k (Nat.le_refl _) (by omega), firstErr_congr n (k + 1) fun j h1 h2 => h j (by omega) (by omega)]
theorem firstErr_hit {E : Nat → Int} {k0 : Nat} (h0 : E k0 ≠ 0) : ∀ (n k : Nat), k ≤ k0 → k0 < k + n → (∀ j, k ≤ j → j < k0 → E j = 0) → firstErr E k n = (k0, E k0)
  | 0, k, h1, h2, _ => by omega
  | n + 1, k, h1, h2, h3 => by
    rw [firstErr]
    by_cases hk : k = k0
    · subst hk
      rw [if_pos h0]
    · rw [h3 k (Nat.le_refl _) (by omega), if_neg (by simp)]
      exact firstErr_hit h0 n (k + 1) (by omega) (by omega) fun j a b => h3 j (by omega) b
theorem chkE_take {one : Bool} {l : List Rec} {m k : Nat} (h : k < m) : chkE one (l.take m) k = chkE one l k := by
  unfold chkE
  rw [rat_take h, rat_take (show k - 1 < m by omega)]
theorem Right.take {one : Bool} {l : List Rec} (h : Right one l) (m : Nat) : Right one (l.take m) := by
  have hl := h.len
  unfold Right checkRecs checkL
  rw [if_neg (by rw [List.length_take]; omega), firstErr_none _ _ fun j _ hj => ?_]
  rw [List.length_take] at hj
  rw [chkE_take (by omega)]
  exact h.err (by omega)
theorem bothErr_take {r : Rul} {l : List Rec} (h : bothErr r l = 0) (m : Nat) : bothErr r (l.take m) = 0 := by
  obtain ⟨h1, h2⟩ := bothErr_zero h
  have h3 : (checkRecs true (l.take m)).2 = 0 := h2.take m
  unfold bothErr
  rw [h1, h3]
  rfl
theorem gstart_take {l : List Rec} {gap : Int} {m k : Nat} (h : k < m) : gstart (l.take m) gap k = gstart l gap k := by
  unfold gstart
  rw [rat_take h, rat_take (show k - 1 < m by omega)]
theorem groups_take {l : List Rec} {gap : Int} {m : Nat} : ∀ k, k ≤ m → groups (l.take m) gap k = groups l gap k
  | 0, _ => rfl
  | k + 1, h => by
    rw [groups, groups, gstart_take (by omega), groups_take k (by omega)]
theorem groups_first {l : List Rec} {gap : Int} : ∀ k, ((groups l gap (k + 1)).getLastD (0, 0)).1 = firstIdx l gap k
  | 0 => by simp [groups, gstart, firstIdx]
  | k + 1 => by
    have ih := groups_first (l := l) (gap := gap) k
    rw [groups, firstIdx]
    by_cases hg : (rat l (k + 1)).lo - (rat l k).hi < gap
    · have : gstart l gap (k + 1) = false := by
        unfold gstart
        simp only [Nat.add_sub_cancel]
        simp
        omega
      rw [this, if_pos hg]
      simpa [List.getLastD_eq_getLast?] using ih
    · have : gstart l gap (k + 1) = true := by
        unfold gstart
        simp only [Nat.add_sub_cancel]
        simp
        omega
      rw [this, if_neg hg]
      simp
theorem lastOf_take {l : List Rec} {gap : Int} {k : Nat} (hk : k < l.length) : lastOf (l.take (k + 1)) gap = firstIdx l gap k := by
  unfold lastOf
  rw [show (l.take (k + 1)).length = k + 1 by rw [List.length_take]; omega, groups_take _ (Nat.le_refl _), groups_first]
theorem Right.mono {one : Bool} {l : List Rec} (h : Right one l) {i : Nat} : ∀ {j : Nat} (hj : j < l.length) (hij : i ≤ j), (l[i]'(by omega)).lo ≤ l[j].lo ∧ (l[i]'(by omega)).hi ≤ l[j].hi
  | 0, hj, hij => by
    obtain rfl : i = 0 := by omega
    exact ⟨Int.le_refl _, Int.le_refl _⟩
  | j + 1, hj, hij => by
    by_cases he : i = j + 1
    · subst he
      exact ⟨Int.le_refl _, Int.le_refl _⟩
    · have h1 := h.mono (i := i) (j := j) (by omega) (by omega)
      have h2 := h.next hj
      have h3 := h.time (k := j) (by omega)
      have h4 := h.time hj
      omega
theorem sum_map_congr {α : Type} {f g : α → Int} : ∀ {l : List α}, (∀ x ∈ l, f x = g x) → (l.map f).sum = (l.map g).sum
  | [], _ => rfl
  | x :: l, h => by
    rw [List.map_cons, List.map_cons, List.sum_cons, List.sum_cons, h x (List.mem_cons_self ..), sum_map_congr fun y hy => h y (List.mem_cons_of_mem _ hy)]
theorem work_seg {one : Bool} {l : List Rec} (h : Right one l) {i k : Nat} (hi : i ≤ k) (hk : k < l.length) : workIn ((l.take (k + 1)).drop i) (l[i]'(by omega)).lo l[k].hi = segSum l i (k + 1) := by
  unfold workIn segSum
  refine sum_map_congr fun x hx => ?_
  obtain ⟨j, hj, rfl⟩ := List.getElem_of_mem hx
  rw [List.length_drop, List.length_take] at hj
  rw [List.getElem_drop, List.getElem_take]
  have h1 := h.mono (i := i) (j := i + j) (by omega) (by omega)
  have h2 := h.mono (i := i + j) (j := k) hk (by omega)
  have h3 := h.time (k := i + j) (by omega)
  unfold wk
  simp only [Int.max_def, Int.min_def]
  repeat' split
  all_goals omega
theorem broken_is {one : Bool} {r : Rul} {l : List Rec} (h : Right one l) {k : Nat} (hk : k < l.length) : brokenP r (l.take (k + 1)) = brokenRef r l k := by
  have hlen : (l.take (k + 1)).length = k + 1 := by rw [List.length_take]; omega
  have h1 := firstIdx_le l r.brk k
  have h2 := firstIdx_le l r.rest k
  unfold brokenP brokenRef
  rw [lastOf_take hk, lastOf_take hk, hlen, Nat.add_sub_cancel, rat_take (by omega), rat_take (by omega), rat_take (by omega), rat_get hk, rat_get (show firstIdx l r.brk k < l.length by omega), work_seg h h1 hk]
theorem firstBroken_is {one : Bool} {r : Rul} {l : List Rec} (h : Right one l) : firstBroken r l = firstErr (brokenRef r l) 0 l.length :=
  firstErr_congr _ _ fun j _ hj => broken_is h (by omega)
/-- Without the records behind it it is the same one; ahead of it there is none. -/
theorem firstBroken_cut {r : Rul} {l : List Rec} (h0 : (firstBroken r l).2 ≠ 0) : (firstBroken r l).1 < l.length ∧ firstBroken r (l.take ((firstBroken r l).1 + 1)) = firstBroken r l ∧ firstBroken r (l.take (firstBroken r l).1) = (0, 0) := by
  obtain ⟨_, h1, h2, h3⟩ := firstErr_some l.length 0 h0
  have ht : ∀ {m j : Nat}, j < m → (l.take m).take (j + 1) = l.take (j + 1) := fun {m j} h => by
    rw [List.take_take, Nat.min_eq_left (by omega)]
  have e1 : (firstErr (fun k => brokenP r (l.take (k + 1))) 0 l.length).1 = (firstBroken r l).1 := rfl
  have e2 : (firstErr (fun k => brokenP r (l.take (k + 1))) 0 l.length).2 = (firstBroken r l).2 := rfl
  rw [e1, e2] at h2
  rw [e1] at h1 h3
  generalize firstBroken r l = F at *
  obtain ⟨k, b⟩ := F
  simp only at *
  refine ⟨by omega, ?_, ?_⟩
  · unfold firstBroken
    rw [show (l.take (k + 1)).length = k + 1 by rw [List.length_take]; omega, firstErr_hit (k0 := k) (by simp only [ht (Nat.lt_succ_self k)]; rw [h2]; exact h0) _ _ (Nat.zero_le _) (by omega) fun j _ hj => by
      simp only [ht (show j < k + 1 by omega)]
      exact h3 j (Nat.zero_le _) hj]
    simp only [ht (Nat.lt_succ_self k)]
    rw [h2]
  · unfold firstBroken
    rw [show (l.take k).length = k by rw [List.length_take]; omega]
    refine firstErr_none _ _ fun j _ hj => ?_
    simp only [ht (show j < k by omega)]
    exact h3 j (Nat.zero_le _) (by omega)
end Go.Proofs.Ytmfmpagfjgpodaa
