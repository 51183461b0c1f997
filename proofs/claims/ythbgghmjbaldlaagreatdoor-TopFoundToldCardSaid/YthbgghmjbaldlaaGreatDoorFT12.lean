/- Texts in one: Walks on plain values: a chain on a day, rewards; texts of at most 1000 bytes. -/
import Derived.Test.YthbgghmjbaldlaaGreatDoorFT6
/-! QI: Walks on plain values: a chain on a day, rewards; texts of at most 1000 bytes. -/
namespace Go.Proofs.YthbgghmjbaldlaaGreatDoor
open Go.RowKit
set_option maxRecDepth 100000
set_option maxHeartbeats 1000000
theorem p_at (x : Item) (l : List Event) (day : Int) (hl : l.length ≤ 1000000) (hx : SmallI x) (hs : SmallL l) : VC Tryz.prog 95 [itemA x, eventsA l, I day] (.tup [chainA x (untilL l day), I (atErr x l day)]) := by
  have h1 := p_CheckChain x l hl hx hs
  have h2 := p_until x l day hl
  unfold atErr
  generalize checkChain x l = E at *
  generalize untilL l day = U at *
  clear hx hs
  refine VC_of Tryz.func95 rfl (by kernel_rfl) (by kernel_rfl) rfl fun M0 w0 => ?_
  simp only [Tryz.ntmps95, Tryz.results95, enumA]
  repeat' (first | (with_reducible first | refine vseq ?_ | refine vthenN ?_ | refine vthenE ?_ | refine vthenR ?_ | refine vret ?_ | refine vskip ?_ | refine vexit ?_ | refine vblock ?_ | refine vblockN ?_ | refine vblockR ?_ | refine vblockH ?_ | refine vrun_nil ?_ | refine vblockE rfl ?_ | refine vregion [] ?_ | refine vhrun_nil ?_) | ((with_reducible refine vcondT ?_ ?_); (focus (go_simp; done))) | ((with_reducible refine vcondF ?_ ?_); (focus (go_simp; done))) | ((with_reducible first | refine vrun_cons fun KK hKK => ?_ | refine vhrun_cons fun KK hKK => ?_); go_simp; (first | (with_reducible refine ⟨_, h1, ?_⟩) | skip); refine hKK _ ?_; clear hKK KK) | ((with_reducible refine vcondS ?_ (fun ht => ?_) (fun ht => ?_)); (focus (go_simp; done)); (all_goals (simp [go_sem] at ht; replace ht := ht.out))))
  refine vdraw 14 [] (by kernel_rfl) (by kernel_rfl) ?_
  simp only [List.take, List.drop]
  repeat' (first | (with_reducible first | refine vseq ?_ | refine vthenN ?_ | refine vthenE ?_ | refine vthenR ?_ | refine vret ?_ | refine vskip ?_ | refine vexit ?_ | refine vblock ?_ | refine vblockN ?_ | refine vblockR ?_ | refine vblockH ?_ | refine vrun_nil ?_ | refine vblockE rfl ?_ | refine vregion [] ?_ | refine vhrun_nil ?_) | ((with_reducible refine vcondT ?_ ?_); (focus (go_simp; done))) | ((with_reducible refine vcondF ?_ ?_); (focus (go_simp; done))) | ((with_reducible first | refine vrun_cons fun KK hKK => ?_ | refine vhrun_cons fun KK hKK => ?_); go_simp; (first | (with_reducible refine ⟨_, h2, ?_⟩) | (with_reducible refine ⟨_, p_within _ _ _, ?_⟩) | (with_reducible refine ⟨_, p_unless _ _, ?_⟩) | (refine ⟨_, p_firstA _ rfl rfl, ?_⟩) | skip); refine hKK _ ?_; clear hKK KK) | ((refine vdrawL 16 14 [] rfl (by kernel_rfl) (by kernel_rfl) ?_); simp only [List.append, List.take, List.drop]) | ((with_reducible refine vcondS ?_ (fun ht => ?_) (fun ht => ?_)); (focus (go_simp; done)); (all_goals (simp [go_sem] at ht; replace ht := ht.out))))
  go_simp
/-- Who has the item on a day, or the error. -/
theorem p_HolderAt (x : Item) (l : List Event) (day : Int) (hl : l.length ≤ 1000000) (hx : SmallI x) (hs : SmallL l) : VC Tryz.prog 43 [itemA x, eventsA l, I day] (.tup [S (if atErr x l day = 0 then holder x (untilL l day) else ⟨#[]⟩), I (atErr x l day)]) := by
  have h1 := p_at x l day hl hx hs
  have h2 := p_holder x (untilL l day) (by simp only [untilL, List.length_take]; omega)
  generalize atErr x l day = E at *
  generalize untilL l day = U at *
  clear hx hs
  refine VC_of Tryz.func43 rfl (by kernel_rfl) (by kernel_rfl) rfl fun M0 w0 => ?_
  simp only [Tryz.ntmps43, Tryz.results43, enumA]
  repeat' (first | (with_reducible first | refine vseq ?_ | refine vthenN ?_ | refine vthenE ?_ | refine vthenR ?_ | refine vret ?_ | refine vskip ?_ | refine vexit ?_ | refine vblock ?_ | refine vblockN ?_ | refine vblockR ?_ | refine vblockH ?_ | refine vrun_nil ?_ | refine vblockE rfl ?_ | refine vregion [] ?_ | refine vhrun_nil ?_) | ((with_reducible refine vcondT ?_ ?_); (focus (go_simp; done))) | ((with_reducible refine vcondF ?_ ?_); (focus (go_simp; done))) | ((with_reducible first | refine vrun_cons fun KK hKK => ?_ | refine vhrun_cons fun KK hKK => ?_); go_simp; (first | (with_reducible refine ⟨_, h1, ?_⟩) | (with_reducible refine ⟨_, h2, ?_⟩) | skip); refine hKK _ ?_; clear hKK KK) | ((with_reducible refine vcondS ?_ (fun ht => ?_) (fun ht => ?_)); (focus (go_simp; done)); (all_goals (simp [go_sem] at ht; replace ht := ht.out))))
  all_goals (go_simp; first | done | (simp_all []; done) | (simp only []; (try intros); (repeat' split) <;> (first | rfl | omega | (simp_all; done) | (simp_all; omega))) | ((try intros); (repeat' split) <;> (first | rfl | omega | (simp_all; done) | (simp_all; omega))))
theorem p_StateAt (x : Item) (l : List Event) (day : Int) (hl : l.length ≤ 1000000) (hx : SmallI x) (hs : SmallL l) : VC Tryz.prog 45 [itemA x, eventsA l, I day] (.tup [I (if atErr x l day = 0 then state (untilL l day) else 0), I (atErr x l day)]) := by
  have h1 := p_at x l day hl hx hs
  have h2 := p_state x (untilL l day) (by simp only [untilL, List.length_take]; omega)
  generalize atErr x l day = E at *
  generalize untilL l day = U at *
  clear hx hs
  refine VC_of Tryz.func45 rfl (by kernel_rfl) (by kernel_rfl) rfl fun M0 w0 => ?_
  simp only [Tryz.ntmps45, Tryz.results45, enumA]
  repeat' (first | (with_reducible first | refine vseq ?_ | refine vthenN ?_ | refine vthenE ?_ | refine vthenR ?_ | refine vret ?_ | refine vskip ?_ | refine vexit ?_ | refine vblock ?_ | refine vblockN ?_ | refine vblockR ?_ | refine vblockH ?_ | refine vrun_nil ?_ | refine vblockE rfl ?_ | refine vregion [] ?_ | refine vhrun_nil ?_) | ((with_reducible refine vcondT ?_ ?_); (focus (go_simp; done))) | ((with_reducible refine vcondF ?_ ?_); (focus (go_simp; done))) | ((with_reducible first | refine vrun_cons fun KK hKK => ?_ | refine vhrun_cons fun KK hKK => ?_); go_simp; (first | (with_reducible refine ⟨_, h1, ?_⟩) | (with_reducible refine ⟨_, h2, ?_⟩) | skip); refine hKK _ ?_; clear hKK KK) | ((with_reducible refine vcondS ?_ (fun ht => ?_) (fun ht => ?_)); (focus (go_simp; done)); (all_goals (simp [go_sem] at ht; replace ht := ht.out))))
  all_goals (go_simp; first | done | (simp_all []; done) | (simp only []; (try intros); (repeat' split) <;> (first | rfl | omega | (simp_all; done) | (simp_all; omega))) | ((try intros); (repeat' split) <;> (first | rfl | omega | (simp_all; done) | (simp_all; omega))))
theorem p_RightAt (x : Item) (l : List Event) (day : Int) (hl : l.length ≤ 1000000) (hx : SmallI x) (hs : SmallL l) : VC Tryz.prog 46 [itemA x, eventsA l, I day] (.tup [I (if atErr x l day = 0 then right (untilL l day) day else 0), I (atErr x l day)]) := by
  have h1 := p_at x l day hl hx hs
  have h2 := p_right x (untilL l day) day (by simp only [untilL, List.length_take]; omega)
  generalize atErr x l day = E at *
  generalize untilL l day = U at *
  clear hx hs
  refine VC_of Tryz.func46 rfl (by kernel_rfl) (by kernel_rfl) rfl fun M0 w0 => ?_
  simp only [Tryz.ntmps46, Tryz.results46, enumA]
  repeat' (first | (with_reducible first | refine vseq ?_ | refine vthenN ?_ | refine vthenE ?_ | refine vthenR ?_ | refine vret ?_ | refine vskip ?_ | refine vexit ?_ | refine vblock ?_ | refine vblockN ?_ | refine vblockR ?_ | refine vblockH ?_ | refine vrun_nil ?_ | refine vblockE rfl ?_ | refine vregion [] ?_ | refine vhrun_nil ?_) | ((with_reducible refine vcondT ?_ ?_); (focus (go_simp; done))) | ((with_reducible refine vcondF ?_ ?_); (focus (go_simp; done))) | ((with_reducible first | refine vrun_cons fun KK hKK => ?_ | refine vhrun_cons fun KK hKK => ?_); go_simp; (first | (with_reducible refine ⟨_, h1, ?_⟩) | (with_reducible refine ⟨_, h2, ?_⟩) | skip); refine hKK _ ?_; clear hKK KK) | ((with_reducible refine vcondS ?_ (fun ht => ?_) (fun ht => ?_)); (focus (go_simp; done)); (all_goals (simp [go_sem] at ht; replace ht := ht.out))))
  all_goals (go_simp; first | done | (simp_all []; done) | (simp only []; (try intros); (repeat' split) <;> (first | rfl | omega | (simp_all; done) | (simp_all; omega))) | ((try intros); (repeat' split) <;> (first | rfl | omega | (simp_all; done) | (simp_all; omega))))
theorem r_ChainErr (x : Item) (l : List Event) (day : Int) (hl : l.length ≤ 1000000) (hx : SmallI x) (hs : SmallL l) : VC Tryz.prog 42 [itemA x, eventsA l, I day] (I (atErr x l day)) := by
  have h1 := r_CheckChain x l hl hx hs
  unfold atErr
  generalize checkChain x l = E at *
  clear hx hs
  refine VC_of Tryz.func42 rfl (by kernel_rfl) (by kernel_rfl) rfl fun M0 w0 => ?_
  simp only [Tryz.ntmps42, Tryz.results42, enumA]
  repeat' (first | (with_reducible first | refine vseq ?_ | refine vthenN ?_ | refine vthenE ?_ | refine vthenR ?_ | refine vret ?_ | refine vskip ?_ | refine vexit ?_ | refine vblock ?_ | refine vblockN ?_ | refine vblockR ?_ | refine vblockH ?_ | refine vrun_nil ?_ | refine vblockE rfl ?_ | refine vregion [] ?_ | refine vhrun_nil ?_) | ((with_reducible refine vcondT ?_ ?_); (focus (go_simp; done))) | ((with_reducible refine vcondF ?_ ?_); (focus (go_simp; done))) | ((with_reducible first | refine vrun_cons fun KK hKK => ?_ | refine vhrun_cons fun KK hKK => ?_); go_simp; (first | (with_reducible refine ⟨_, h1, ?_⟩) | (with_reducible refine ⟨_, b_within _ _ _, ?_⟩) | skip); refine hKK _ ?_; clear hKK KK) | ((with_reducible refine vcondS ?_ (fun ht => ?_) (fun ht => ?_)); (focus (go_simp; done)); (all_goals (simp [go_sem] at ht; replace ht := ht.out))))
  all_goals (go_simp; (cases hA0 : inR day x.day 100000) <;> simp_all [fst, unl])
/-! ### Rewards -/
def reward (v : Int) : Int := if inR v 0 1000000000 = false then 0 else if v ≤ 50000 then v * 5 / 100 else (250000 + 3 * (v - 50000)) / 100
def rewardE (v : Int) : Int := if inR v 0 1000000000 = false then 2 else 0
theorem p_RewardOf (v : Int) : VC Tryz.prog 51 [I v] (.tup [I (reward v), I (rewardE v)]) := by
  unfold reward rewardE
  refine VC_of Tryz.func51 rfl (by kernel_rfl) (by kernel_rfl) rfl fun M0 w0 => ?_
  simp only [Tryz.ntmps51, Tryz.results51, enumA]
  cases hr : inR v 0 1000000000
  · have h1 := p_within v 0 1000000000
    rw [hr] at h1
    repeat' (first | (with_reducible first | refine vseq ?_ | refine vthenN ?_ | refine vthenE ?_ | refine vthenR ?_ | refine vret ?_ | refine vskip ?_ | refine vexit ?_ | refine vblock ?_ | refine vblockN ?_ | refine vblockR ?_ | refine vblockH ?_ | refine vrun_nil ?_ | refine vblockE rfl ?_ | refine vregion [] ?_ | refine vhrun_nil ?_) | ((with_reducible refine vcondT ?_ ?_); (focus (go_simp; done))) | ((with_reducible refine vcondF ?_ ?_); (focus (go_simp; done))) | ((with_reducible first | refine vrun_cons fun KK hKK => ?_ | refine vhrun_cons fun KK hKK => ?_); go_simp; (first | (with_reducible refine ⟨_, h1, ?_⟩) | skip); refine hKK _ ?_; clear hKK KK) | ((with_reducible refine vcondS ?_ (fun ht => ?_) (fun ht => ?_)); (focus (go_simp; done)); (all_goals (simp [go_sem] at ht; replace ht := ht.out))))
    go_simp
  · have h1 := p_within v 0 1000000000
    rw [hr] at h1
    obtain ⟨b1, b2⟩ := inR_iff.1 hr
    clear hr
    by_cases h5 : v ≤ 50000
    · have e1 : (if v < 50000 then v else 50000) = v := by split <;> omega
      have e2 : (if v ≤ 50000 then v else 50000) = v := if_pos h5
      have e3 : min v 50000 = v := by omega
      have w1 := wrap_eq (x := 5 * v) (by omega) (by omega)
      have hq : (5 * v).tdiv 100 = v * 5 / 100 := by rw [Int.tdiv_eq_ediv_of_nonneg (by omega)]; omega
      have w2 := wrap_eq (x := v * 5 / 100) (by omega) (by omega)
      have wz : IntKind.i64.wrap 0 = 0 := rfl
      have hn : ¬ 50000 < v := by omega
      repeat' (first | (with_reducible first | refine vseq ?_ | refine vthenN ?_ | refine vthenE ?_ | refine vthenR ?_ | refine vret ?_ | refine vskip ?_ | refine vexit ?_ | refine vblock ?_ | refine vblockN ?_ | refine vblockR ?_ | refine vblockH ?_ | refine vrun_nil ?_ | refine vblockE rfl ?_ | refine vregion [] ?_ | refine vhrun_nil ?_) | ((with_reducible refine vcondT ?_ ?_); (focus (go_simp; done))) | ((with_reducible refine vcondF ?_ ?_); (focus (go_simp; done))) | ((with_reducible first | refine vrun_cons fun KK hKK => ?_ | refine vhrun_cons fun KK hKK => ?_); go_simp; (first | (with_reducible refine ⟨_, h1, ?_⟩) | skip); refine hKK _ ?_; clear hKK KK) | ((with_reducible refine vcondS ?_ (fun ht => ?_) (fun ht => ?_)); (focus (go_simp; done)); (all_goals (simp [go_sem] at ht; replace ht := ht.out))))
      go_simp
    · have e1 : (if v < 50000 then v else 50000) = 50000 := by split <;> omega
      have e3 : min v 50000 = 50000 := by omega
      have w0 := wrap_eq (x := v - 50000) (by omega) (by omega)
      have w1 := wrap_eq (x := 3 * (v - 50000)) (by omega) (by omega)
      have w3 : IntKind.i64.wrap 250000 = 250000 := rfl
      have hp : 50000 < v := by omega
      have w2 := wrap_eq (x := 250000 + 3 * (v - 50000)) (by omega) (by omega)
      have hq : (250000 + 3 * (v - 50000)).tdiv 100 = (250000 + 3 * (v - 50000)) / 100 := Int.tdiv_eq_ediv_of_nonneg (by omega)
      have w4 := wrap_eq (x := (250000 + 3 * (v - 50000)) / 100) (by omega) (by omega)
      repeat' (first | (with_reducible first | refine vseq ?_ | refine vthenN ?_ | refine vthenE ?_ | refine vthenR ?_ | refine vret ?_ | refine vskip ?_ | refine vexit ?_ | refine vblock ?_ | refine vblockN ?_ | refine vblockR ?_ | refine vblockH ?_ | refine vrun_nil ?_ | refine vblockE rfl ?_ | refine vregion [] ?_ | refine vhrun_nil ?_) | ((with_reducible refine vcondT ?_ ?_); (focus (go_simp; done))) | ((with_reducible refine vcondF ?_ ?_); (focus (go_simp; done))) | ((with_reducible first | refine vrun_cons fun KK hKK => ?_ | refine vhrun_cons fun KK hKK => ?_); go_simp; (first | (with_reducible refine ⟨_, h1, ?_⟩) | skip); refine hKK _ ?_; clear hKK KK) | ((with_reducible refine vcondS ?_ (fun ht => ?_) (fun ht => ?_)); (focus (go_simp; done)); (all_goals (simp [go_sem] at ht; replace ht := ht.out))))
      go_simp
end Go.Proofs.YthbgghmjbaldlaaGreatDoor

/-! P10: Chains in plain words: what a right chain is, its events up to a day, and the right of an item; no program in sight. -/
namespace Go.Proofs.YthbgghmjbaldlaaGreatDoor
open Go.RowKit
/-- A right chain. -/
structure Chain (x : Item) (l : List Event) : Prop where
  item : thingErr x = 0
  few : l.length ≤ 30
  each : ∀ k, k < l.length → chainE x l k = 0
theorem fe_zero {E : Nat → Int} : ∀ (n a : Nat), (firstErr E a n).2 = 0 → ∀ j, a ≤ j → j < a + n → E j = 0
  | 0, a, _, j, h1, h2 => by omega
  | n + 1, a, h, j, h1, h2 => by
    rw [firstErr] at h
    by_cases he : E a = 0
    · rw [if_neg (by simp [he])] at h
      by_cases hj : j = a
      · rw [hj]; exact he
      · exact fe_zero n (a + 1) h j (by omega) (by omega)
    · rw [if_pos (by simpa using he)] at h
      exact absurd h he
theorem chain_of {x : Item} {l : List Event} (h : (checkChain x l).2 = 0) : Chain x l := by
  unfold checkChain at h
  by_cases hi : thingErr x = 0
  · rw [if_neg (by simpa using hi)] at h
    unfold checkL at h
    by_cases hn : (l.length : Int) > 30
    · rw [if_pos hn] at h
      exact absurd h (by decide)
    · rw [if_neg hn] at h
      exact ⟨hi, by omega, fun k hk => fe_zero _ _ h k (by omega) (by omega)⟩
  · rw [if_pos (by simpa using hi)] at h
    exact absurd h hi
theorem Chain.ok {x : Item} {l : List Event} (h : Chain x l) : checkChain x l = (0, 0) := by
  unfold checkChain
  rw [if_neg (by simp [h.item])]
  unfold checkL
  rw [if_neg (by have := h.few; omega)]
  exact firstErr_outF l.length 0 fun j _ hj => h.each j (by omega)
theorem chainE_take {x : Item} {l : List Event} {k j : Nat} (h : j < k) : chainE x (l.take k) j = chainE x l j := by
  unfold chainE
  rw [eat_take h, List.take_take, Nat.min_eq_left (by omega)]
theorem Chain.take {x : Item} {l : List Event} (h : Chain x l) {k : Nat} (hk : k ≤ l.length) : Chain x (l.take k) := by
  refine ⟨h.item, by rw [take_len hk]; have := h.few; omega, fun j hj => ?_⟩
  rw [take_len hk] at hj
  rw [chainE_take hj]
  exact h.each j (by omega)
theorem Chain.kind {x : Item} {l : List Event} (h : Chain x l) {k : Nat} (hk : k < l.length) : 0 ≤ (eat l k).kind ∧ (eat l k).kind ≤ 4 := inR_iff.1 (nextE_kind (h.each k hk))
theorem Chain.kindOK {x : Item} {l : List Event} (h : Chain x l) {k : Nat} (hk : k ≤ l.length) : KindOK (l.take k) := kindOK_take (x := x) hk fun j hj => by
  have := h.each j (by omega)
  simp [bad, this]
theorem nextE_day {x : Item} {l : List Event} {v : Event} (h : nextE x l v = 0) : 0 ≤ v.day ∧ v.day ≤ 100000 := inR_iff.1 (unl_zero (fst_zero h (unl (isDate v.day) 2) (by simp)) (by decide))
theorem nextE_last {x : Item} {l : List Event} {v : Event} (h : nextE x l v = 0) : lastDay x l ≤ v.day := of_decide_eq_true (unl_zero (fst_zero h (unl (decide (lastDay x l ≤ v.day)) 9) (by simp)) (by decide))
theorem nextE_open {x : Item} {l : List Event} {v : Event} (h : nextE x l v = 0) : isDone l = false := by
  have := unl_zero (fst_zero h (unl ((decide (v.kind = 0) == decide (l.length = 0)) && !isDone l) 22) (by simp)) (by decide)
  rw [Bool.and_eq_true, Bool.not_eq_true'] at this
  exact this.2
theorem Chain.day {x : Item} {l : List Event} (h : Chain x l) {k : Nat} (hk : k < l.length) : 0 ≤ (eat l k).day ∧ (eat l k).day ≤ 100000 := nextE_day (h.each k hk)
theorem Chain.up {x : Item} {l : List Event} (h : Chain x l) {k : Nat} (hk : k + 1 < l.length) : (eat l k).day ≤ (eat l (k + 1)).day := by
  have h1 := nextE_last (h.each (k + 1) hk)
  unfold lastDay at h1
  rw [take_len (by omega), if_neg (by omega), Nat.add_sub_cancel, eat_take (by omega)] at h1
  exact h1
theorem Chain.asc {x : Item} {l : List Event} (h : Chain x l) : ∀ (d j : Nat), j + d < l.length → (eat l j).day ≤ (eat l (j + d)).day
  | 0, _, _ => Int.le_refl _
  | d + 1, j, hj => Int.le_trans (h.asc d j (by omega)) (h.up (k := j + d) (by omega))
theorem Chain.start {x : Item} {l : List Event} (h : Chain x l) (h0 : 0 < l.length) : x.day ≤ (eat l 0).day := by
  have h1 := nextE_last (h.each 0 h0)
  simpa [lastDay] using h1
theorem Chain.goes {x : Item} {l : List Event} (h : Chain x l) {k : Nat} (hk : k < l.length) : isDone (l.take k) = false := nextE_open (h.each k hk)

/-! ### Up to the end of a day -/
theorem upTo_spec (l : List Event) (day : Int) : ∀ (n k : Nat), k ≤ upTo l day k n ∧ upTo l day k n ≤ k + n ∧ (∀ j, k ≤ j → j < upTo l day k n → (eat l j).day ≤ day) ∧ (upTo l day k n < k + n → day < (eat l (upTo l day k n)).day)
  | 0, k => by
    rw [upTo]
    exact ⟨Nat.le_refl _, Nat.le_refl _, fun j h1 h2 => by omega, fun h => by omega⟩
  | n + 1, k => by
    rw [upTo]
    split
    · rename_i hd
      obtain ⟨a, b, c, d⟩ := upTo_spec l day n (k + 1)
      refine ⟨by omega, by omega, fun j h1 h2 => ?_, fun h => d (by omega)⟩
      by_cases hj : j = k
      · rw [hj]; exact hd
      · exact c j (by omega) h2
    · rename_i hd
      exact ⟨Nat.le_refl _, by omega, fun j h1 h2 => by omega, fun _ => by omega⟩
def upL (l : List Event) (day : Int) : Nat := upTo l day 0 l.length
theorem untilL_eq (l : List Event) (day : Int) : untilL l day = l.take (upL l day) := rfl
theorem upL_le (l : List Event) (day : Int) : upL l day ≤ l.length := by have := (upTo_spec l day l.length 0).2.1; unfold upL; omega
theorem upL_in {l : List Event} {day : Int} {j : Nat} (h : j < upL l day) : (eat l j).day ≤ day := (upTo_spec l day l.length 0).2.2.1 j (Nat.zero_le _) h
theorem upL_out {l : List Event} {day : Int} (h : upL l day < l.length) : day < (eat l (upL l day)).day := (upTo_spec l day l.length 0).2.2.2 (by unfold upL at h; omega)
theorem upL_is {l : List Event} {day : Int} {m : Nat} (h1 : m ≤ l.length) (h2 : ∀ j, j < m → (eat l j).day ≤ day) (h3 : m < l.length → day < (eat l m).day) : upL l day = m := by
  have hle := upL_le l day
  by_cases ha : upL l day < m
  · have := upL_out (l := l) (day := day) (by omega)
    have := h2 _ ha
    omega
  · by_cases hb : m < upL l day
    · have := upL_in hb
      have := h3 (by omega)
      omega
    · omega
theorem upL_mono {l : List Event} {d e : Int} (h : d ≤ e) : upL l d ≤ upL l e := by
  apply Nat.le_of_not_lt
  intro hlt
  have h1 := upL_in hlt
  have h2 := upL_out (l := l) (day := e) (by have := upL_le l d; omega)
  omega
theorem until_take {l : List Event} {day : Int} {k : Nat} (hk : k ≤ l.length) (h : k < l.length → day < (eat l k).day) : untilL (l.take k) day = untilL l day := by
  have hu : upL l day ≤ k := by
    apply Nat.le_of_not_lt
    intro hlt
    have h1 := upL_in hlt
    have := h (by have := upL_le l day; omega)
    omega
  have : upL (l.take k) day = upL l day := by
    refine upL_is (by rw [take_len hk]; exact hu) (fun j hj => ?_) fun hlt => ?_
    · rw [eat_take (by omega)]; exact upL_in hj
    · rw [take_len hk] at hlt
      rw [eat_take hlt]
      exact upL_out (by omega)
  rw [untilL_eq, untilL_eq, this, List.take_take, Nat.min_eq_left hu]
theorem until_all {l : List Event} {day : Int} (h : ∀ j, j < l.length → (eat l j).day ≤ day) : untilL l day = l := by
  rw [untilL_eq, upL_is (m := l.length) (Nat.le_refl _) h (fun h => absurd h (Nat.lt_irrefl _)), List.take_length]

/-! ### The right -/
theorem state_nil : state [] = 0 := rfl
theorem state_zero {l : List Event} : state l = 0 ↔ l.length = 0 := by
  unfold state
  by_cases h : l.length = 0
  · simp [h]
  · rw [if_neg h]
    constructor
    · intro h2
      split at h2
      · omega
      · split at h2
        · omega
        · split at h2 <;> omega
    · intro h2; exact absurd h2 h
def orderR (r : Int) : Int := if r = 0 then 3 else if r = 1 then 0 else if r = 2 then 1 else 2
theorem right_in (l : List Event) (d : Int) : 0 ≤ right l d ∧ right l d ≤ 3 := by
  unfold right
  split
  · omega
  · split
    · omega
    · split
      · omega
      · split <;> omega
theorem since_eq {l : List Event} {d : Int} (h1 : 0 ≤ (eat l 0).day ∧ (eat l 0).day ≤ 100000) (h2 : 0 ≤ d ∧ d ≤ 100000) : since l d = d - (eat l 0).day := wrap_eq (by omega) (by omega)
theorem right_up {x : Item} {l : List Event} (h : Chain x l) {d e : Int} (hd : 0 ≤ d) (he : e ≤ 100000) (hde : d ≤ e) : orderR (right (untilL l d) d) ≤ orderR (right (untilL l e) e) := by
  have hm := upL_mono (l := l) hde
  have hle := upL_le l e
  have hb := right_in (untilL l e) e
  rw [untilL_eq, untilL_eq] at *
  generalize upL l d = a at *
  generalize upL l e = b at *
  by_cases h0 : a = 0
  · subst h0
    have : right (l.take 0) d = 1 := rfl
    rw [this]
    unfold orderR
    split
    · omega
    · split
      · omega
      · split <;> omega
  · have hs : state (l.take a) ≠ 0 := fun hz => by
      have := state_zero.1 hz
      rw [take_len (by omega)] at this
      exact h0 this
    have hs' : state (l.take b) ≠ 0 := fun hz => by
      have := state_zero.1 hz
      rw [take_len (by omega)] at this
      omega
    cases hdn : isDone (l.take a)
    · cases hdn' : isDone (l.take b)
      · have hday := h.day (k := 0) (by omega)
        have e1 : since (l.take a) d = d - (eat l 0).day := by rw [since_eq (by rw [eat_take (by omega)]; exact hday) ⟨hd, by omega⟩, eat_take (by omega)]
        have e2 : since (l.take b) e = e - (eat l 0).day := by rw [since_eq (by rw [eat_take (by omega)]; exact hday) ⟨by omega, he⟩, eat_take (by omega)]
        unfold right
        rw [hdn, hdn', if_neg hs, if_neg hs', e1, e2]
        simp only [Bool.false_eq_true, if_false]
        unfold orderR
        repeat' split
        all_goals omega
      · have : right (l.take b) e = 0 := by unfold right; rw [hdn']; rfl
        rw [this]
        have := right_in (l.take a) d
        unfold orderR
        repeat' split
        all_goals omega
    · have hab : a = b := by
        apply Nat.le_antisymm hm
        apply Nat.le_of_not_lt
        intro hlt
        have := h.goes (k := a) (by omega)
        rw [this] at hdn
        cases hdn
      subst hab
      have r1 : right (l.take a) d = 0 := by unfold right; rw [hdn]; rfl
      have r2 : right (l.take a) e = 0 := by unfold right; rw [hdn]; rfl
      rw [r1, r2]
      exact Int.le_refl _
theorem thing_day {x : Item} (h : thingErr x = 0) : 0 ≤ x.day ∧ x.day ≤ 100000 := by
  have := fst_zero h (unl (isDate x.day) 2) (by simp)
  exact inR_iff.1 (unl_zero this (by decide))
theorem at_zero {x : Item} {l : List Event} {d : Int} (h : atErr x l d = 0) : Chain x l ∧ x.day ≤ d ∧ d ≤ 100000 := by
  have h1 := fst_zero h (checkChain x l).2 (by simp)
  have h2 := unl_zero (fst_zero h (unl (inR d x.day 100000) 2) (by simp)) (by decide)
  exact ⟨chain_of h1, inR_iff.1 h2⟩
theorem Chain.at_ {x : Item} {l : List Event} (h : Chain x l) (d : Int) : atErr x l d = unl (inR d x.day 100000) 2 := by
  unfold atErr
  rw [h.ok]
  cases inR d x.day 100000 <;> rfl
end Go.Proofs.YthbgghmjbaldlaaGreatDoor
