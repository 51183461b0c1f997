/- Texts in one: The walks of the small functions: numbers, errors, names; no condition beyond what each says. -/
import Derived.Test.YtmfmpagfjgpodaaMS0
import Derived.Test.YtmfmpagfjgpodaaProg
import Derived.Lib.Hide
/-! WA: The walks of the small functions: numbers, errors, names; no condition beyond what each says. -/
namespace Go.Proofs.Ytmfmpagfjgpodaa
open Go.RowKit

theorem c36 (n lo hi : Int) (w : World) : Calls Try.prog 36 #[.int .i64 n, .int .i64 lo, .int .i64 hi] w fun e w' => e = .returned (.bool (inR n lo hi)) ∧ w = w' := by
  unfold inR
  by_cases h : lo ≤ n
  · have h1 : decide (lo ≤ n) = true := by simpa using h
    go_enter Try.func36, Try.ntmps36
    go_wp2
    go_ret
    simp [h]
  · have h1 : decide (lo ≤ n) = false := by simpa using h
    go_enter Try.func36, Try.ntmps36
    go_wp2
    go_ret
    simp
theorem c106 (n lo hi : Int) (w : World) : Calls Try.prog 106 #[.int .i64 n, .int .i64 lo, .int .i64 hi] w fun e w' => e = .returned (.bool (inR n lo hi)) ∧ w = w' := by
  unfold inR
  by_cases h : lo ≤ n
  · have h1 : decide (lo ≤ n) = true := by simpa using h
    go_enter Try.func106, Try.ntmps106
    go_wp2
    go_ret
    simp [h]
  · have h1 : decide (lo ≤ n) = false := by simpa using h
    go_enter Try.func106, Try.ntmps106
    go_wp2
    go_ret
    simp
theorem c78 (c : Bool) (n : Int) (w : World) : Calls Try.prog 78 #[.bool c, .int .i64 n] w fun e w' => e = .returned (.int .i64 (unl c n)) ∧ w = w' := by
  cases c
  · go_enter Try.func78, Try.ntmps78
    go_wp2
    go_ret
    exact ⟨rfl, rfl⟩
  · go_enter Try.func78, Try.ntmps78
    go_wp2
    go_ret
    exact ⟨rfl, rfl⟩
theorem c22 (n : Int) (w : World) : Calls Try.prog 22 #[.int .i64 n] w fun e w' => e = .returned (.bool (isTime n)) ∧ w = w' := by
  go_enter Try.func22, Try.ntmps22
  go_wp2_with (go_at_call 36; refine (c36 _ _ _ _).mono ?_; rintro e w' ⟨rfl, rfl⟩)
  go_ret
  exact ⟨rfl, rfl⟩
theorem c128 (n : Int) (w : World) : Calls Try.prog 128 #[.int .i64 n] w fun e w' => e = .returned (.bool (isTime n)) ∧ w = w' := by
  go_enter Try.func128, Try.ntmps128
  go_wp2_with (go_at_call 106; refine (c106 _ _ _ _).mono ?_; rintro e w' ⟨rfl, rfl⟩)
  go_ret
  exact ⟨rfl, rfl⟩
theorem c134 (n : Int) (w : World) : Calls Try.prog 134 #[.int .i64 n] w fun e w' => e = .returned (.bool (isTake n)) ∧ w = w' := by
  go_enter Try.func134, Try.ntmps134
  go_wp2_with (go_at_call 106; refine (c106 _ _ _ _).mono ?_; rintro e w' ⟨rfl, rfl⟩)
  go_ret
  exact ⟨rfl, rfl⟩
theorem c140 (n : Int) (w : World) : Calls Try.prog 140 #[.int .i64 n] w fun e w' => e = .returned (.bool (isDate n)) ∧ w = w' := by
  go_enter Try.func140, Try.ntmps140
  go_wp2_with (go_at_call 106; refine (c106 _ _ _ _).mono ?_; rintro e w' ⟨rfl, rfl⟩)
  go_ret
  exact ⟨rfl, rfl⟩
theorem c129 (n : Int) (w : World) : Calls Try.prog 129 #[.int .i64 n] w fun e w' => e = .returned (.bool (!inR n 0 13)) ∧ w = w' := by
  go_enter Try.func129, Try.ntmps129
  go_wp2_with (go_at_call 106; refine (c106 _ _ _ _).mono ?_; rintro e w' ⟨rfl, rfl⟩)
  go_ret
  exact ⟨rfl, rfl⟩
theorem c103 (n : Int) (w : World) : Calls Try.prog 103 #[.int .i64 n] w fun e w' => e = .returned (.int .i64 (dateErr n)) ∧ w = w' := by
  unfold dateErr isDate unl
  cases h : inR n 0 100000
  all_goals
    go_enter Try.func103, Try.ntmps103
    go_wp2_with (go_at_call 36; refine (c36 _ _ _ _).mono ?_; rintro e w' ⟨rfl, rfl⟩)
    go_ret
    exact ⟨rfl, rfl⟩
theorem c77 (n : Int) (w : World) : Calls Try.prog 77 #[.int .i64 n] w fun e w' => e = .returned (.int .i64 (timeErr n)) ∧ w = w' := by
  go_enter Try.func77, Try.ntmps77
  go_wp2_with (first | (go_at_call 128; refine (c128 _ _).mono ?_; rintro e w' ⟨rfl, rfl⟩) | (go_at_call 78; refine (c78 _ _ _).mono ?_; rintro e w' ⟨rfl, rfl⟩))
  go_ret
  exact ⟨rfl, rfl⟩
theorem c100 (n : Int) (w : World) : Calls Try.prog 100 #[.int .i64 n] w fun e w' => e = .returned (.int .i64 (dateErr n)) ∧ w = w' := by
  go_enter Try.func100, Try.ntmps100
  go_wp2_with (first | (go_at_call 140; refine (c140 _ _).mono ?_; rintro e w' ⟨rfl, rfl⟩) | (go_at_call 78; refine (c78 _ _ _).mono ?_; rintro e w' ⟨rfl, rfl⟩))
  go_ret
  exact ⟨rfl, rfl⟩

theorem fst_drop {l : List Int} {k : Nat} (hk : k < l.length) : fst (l.drop k) = if l[k] ≠ 0 then l[k] else fst (l.drop (k + 1)) := by
  rw [List.drop_eq_getElem_cons hk, fst]
theorem c75 (l : List Int) (A : Option Addr) (n cap : Nat) (w : World) (hn : n = l.length) (hl : n ≤ 1000) (hS : Sl intC 1 w A l) :
    Calls Try.prog 75 #[.slice A n cap] w fun e w' => e = .returned (.int .i64 (fst l)) ∧ w = w' := by
  subst hn
  go_enter Try.func75, Try.ntmps75
  go_wp2
  go_loop [4, 7] (fun x i => ∃ k : Nat, k ≤ l.length ∧ i = .int .i64 k ∧ fst l = fst (l.drop k)) (fun _ i => l.length - (intOf i).toNat)
  case atStart => exact ⟨0, Nat.zero_le _, rfl, rfl⟩
  case round =>
    obtain ⟨k, hk, rfl, hf⟩ := hrel
    by_cases hlt : k < l.length
    · obtain ⟨b, o, rfl, hc⟩ := hS.intAt hlt
      have hd := fst_drop hlt
      generalize l[k] = x at *
      have H := And.intro hf hd
      have HH : Hid _ := H
      clear hf hd H hS
      by_cases hx : x = 0
      · have hx1 : (x != 0) = false := by simpa using hx
        subst hx
        go_wp2
        go_round
        case rel => exact ⟨k + 1, by omega, by go_num, by rw [HH.out.1, HH.out.2, if_neg (by simp)]⟩
        case measure => simp [intOf]; omega
      · have hx1 : (x != 0) = true := by simpa using hx
        go_wp2
        go_ret
        rw [HH.out.1, HH.out.2, if_pos hx]
        exact ⟨rfl, rfl⟩
    · have hk' : k = l.length := by omega
      have HH : Hid (fst l = fst (l.drop k)) := hf
      clear hf
      go_wp2
      go_ret
      rw [HH.out, List.drop_of_length_le (by omega)]
      exact ⟨rfl, rfl⟩

end Go.Proofs.Ytmfmpagfjgpodaa

/-! WN: The walks of names and spans; texts of at most 1000 bytes. -/
namespace Go.Proofs.Ytmfmpagfjgpodaa
open Go.RowKit

set_option maxRecDepth 100000 in
set_option maxHeartbeats 1000000 in
theorem c139 (s : ByteArray) (w : World) (hs : s.size ≤ 1000) : Calls Try.prog 139 #[.string s] w fun e w' => e = .returned (.bool (isName s)) ∧ Below w.heap.size w w' := by
  obtain ⟨w1, cap, hrun, hb, hc⟩ := bytes_of_string (P := Try.prog) w 9 122 5 s Try.underlying9 Try.underlying122 Try.underlying5
  have HB : Hid _ := hb
  clear hb
  go_enter Try.func139, Try.ntmps139
  go_wp2
  go_loop [3, 4, 5, 9] (fun _ _ _ i => ∃ k : Nat, k ≤ s.size ∧ i = .int .i64 k ∧ okTo s k = true) (fun _ _ _ i => s.size - (intOf i).toNat)
  case atStart => exact ⟨0, Nat.zero_le _, rfl, rfl⟩
  case round =>
    obtain ⟨k, hk, rfl, hf⟩ := hrel
    by_cases hlt : k < s.size
    · have hcb := hc k hlt
      have hs1 := okTo_succ s k
      have hs2 := okTo_no s hlt
      have hlt' := (byteAt s k).toNat_lt
      generalize (byteAt s k).toNat = c at *
      have H := And.intro hf (And.intro hs1 hs2)
      have HH : Hid _ := H
      clear hf hs1 hs2 H hc
      go_wp2
      all_goals first
        | (go_ret
           refine ⟨?_, HB.out⟩
           have ho : okChar k c = false := by
             rw [Bool.eq_false_iff, ne_eq, okChar_iff]
             simp only [bne_iff_ne, beq_iff_eq, ne_eq, Bool.not_eq_true', decide_eq_false_iff_not] at *
             omega
           have h1 := HH.out.2.2 ho
           simp [isName, h1])
        | (go_round
           case rel =>
             refine ⟨k + 1, by omega, by go_num, ?_⟩
             rw [HH.out.2.1, HH.out.1, Bool.true_and, okChar_iff]
             simp only [bne_eq_false_iff_eq, beq_eq_false_iff_ne, ne_eq, Bool.not_eq_false', decide_eq_true_eq] at *
             omega
           case measure => simp [intOf]; omega)
    · obtain rfl : k = s.size := by omega
      have H : Hid _ := hf
      clear hf hc
      by_cases he : s.size = 0
      · have he1 : s.toList = [] := toList_nil he
        go_wp2
        go_ret
        refine ⟨?_, HB.out⟩
        simp [isName, he]
      · have he1 : s.toList.isEmpty = false := toList_more he
        go_wp2
        go_ret
        refine ⟨?_, HB.out⟩
        rw [isName, H.out, Bool.and_true]
        have : decide (1 ≤ s.size) = true := by simp; omega
        rw [this]
        simp
        omega
set_option maxRecDepth 100000 in
set_option maxHeartbeats 1000000 in
theorem c102 (s : ByteArray) (w : World) (hs : s.size ≤ 1000) : Calls Try.prog 102 #[.string s] w fun e w' => e = .returned (.bool (isName s)) ∧ w = w' := by
  by_cases h1 : s.size < 1
  · have hl : decide ((s.size : Int) < 1) = true := by simp; omega
    go_enter Try.func102, Try.ntmps102
    go_wp2
    go_ret
    simp only [isName, and_true]
    rw [decide_eq_false (by omega)]
    rfl
  by_cases h2 : 12 < s.size
  · have hl : decide ((s.size : Int) < 1) = false := by simp; omega
    go_enter Try.func102, Try.ntmps102
    go_wp2
    go_ret
    simp only [isName, and_true]
    rw [decide_eq_false (show ¬ s.size ≤ 12 by omega), Bool.and_false]
    rfl
  have hl : decide ((s.size : Int) < 1) = false := by simp; omega
  have hl2 : decide (12 < (s.size : Int)) = false := by simp; omega
  go_enter Try.func102, Try.ntmps102
  go_wp2
  go_loop [3, 4, 5] (fun i _ _ => ∃ k : Nat, k ≤ s.size ∧ i = .int .i64 k ∧ okTo s k = true) (fun i _ _ => s.size - (intOf i).toNat)
  case atStart => exact ⟨0, Nat.zero_le _, rfl, rfl⟩
  case round =>
    obtain ⟨k, hk, rfl, hf⟩ := hrel
    by_cases hlt : k < s.size
    · have hs1 := okTo_succ s k
      have hs2 := okTo_no s hlt
      rw [byteAt_get hlt] at hs1 hs2
      have H := And.intro hf (And.intro hs1 hs2)
      have HH : Hid _ := H
      clear hf hs1 hs2 H
      by_cases hk0 : k = 0
      all_goals
        first
          | (have b0 : ((k : Int) == 0) = true := by simp [hk0])
          | (have b0 : ((k : Int) == 0) = false := by simp [hk0])
        have HK := Lib.hid hk0
        clear hk0
        go_wp2
        all_goals
          have hk0 := HK.out
          clear HK b0
          generalize s[k].toNat = c at *
          first
            | (go_ret
               refine ⟨?_, rfl⟩
               have ho : okChar k c = false := by
                 rw [Bool.eq_false_iff, ne_eq, okChar_iff]
                 simp only [bne_iff_ne, ne_eq, Bool.not_eq_true', decide_eq_false_iff_not] at *
                 omega
               have h1 := HH.out.2.2 ho
               simp [isName, h1])
            | (go_round
               case rel =>
                 refine ⟨k + 1, by omega, by go_num, ?_⟩
                 rw [HH.out.2.1, HH.out.1, Bool.true_and, okChar_iff]
                 simp only [bne_eq_false_iff_eq, ne_eq, Bool.not_eq_false', decide_eq_true_eq] at *
                 omega
               case measure => simp [intOf]; omega)
    · obtain rfl : k = s.size := by omega
      have H : Hid _ := hf
      clear hf
      go_wp2
      go_ret
      refine ⟨?_, rfl⟩
      rw [isName, H.out, Bool.and_true]
      rw [decide_eq_true (show 1 ≤ s.size by omega), decide_eq_true (show s.size ≤ 12 by omega)]
      rfl

theorem c99 (s : ByteArray) (w : World) (hs : s.size ≤ 1000) : Calls Try.prog 99 #[.string s] w fun e w' => e = .returned (.int .i64 (nameErr s)) ∧ Below w.heap.size w w' := by
  go_enter Try.func99, Try.ntmps99
  go_wp2_with (first | (go_at_call 139; refine (c139 _ _ hs).mono ?_; rintro e w1 ⟨rfl, hb1⟩) | (go_at_call 78; refine (c78 _ _ _).mono ?_; rintro e w' ⟨rfl, rfl⟩))
  go_ret
  exact ⟨rfl, by assumption⟩
theorem c130 (lo hi : Int) (w : World) : Calls Try.prog 130 #[.int .i64 lo, .int .i64 hi] w fun e w' => e = .returned (.int .i64 (spanErr lo hi)) ∧ w = w' := by
  unfold spanErr
  have h1 : ∀ n w, Calls Try.prog 22 #[.int .i64 n] w fun e w' => e = .returned (.bool (isTime n)) ∧ w = w' := c22
  cases hl : isTime lo <;> cases hh : isTime hi <;> by_cases ho : lo < hi
  all_goals
    go_enter Try.func130, Try.ntmps130
    go_wp2_with (go_at_call 22; refine (c22 _ _).mono ?_; rintro e w' ⟨rfl, rfl⟩)
    go_ret
    simp
theorem c143 (lo hi : Int) (w : World) : Calls Try.prog 143 #[.int .i64 lo, .int .i64 hi] w fun e w' => e = .returned (.int .i64 (spanErr lo hi)) ∧ Below w.heap.size w w' := by
  rw [← spanErr_fst]
  go_enter Try.func143, Try.ntmps143
  go_wp2_with (first | (go_at_call 77; refine (c77 _ _).mono ?_; rintro e w' ⟨rfl, rfl⟩) | (go_at_call 78; refine (c78 _ _ _).mono ?_; rintro e w' ⟨rfl, rfl⟩))
  refine (c75 [timeErr lo, timeErr hi, unl (decide (hi > lo)) 9] _ _ _ _ rfl (by simp) ?_).mono ?_
  · exact Sl.of_row (fun _ => rfl) (heap_alloc_new w _) rfl
  · rintro e w' ⟨rfl, rfl⟩
    go_wp2
    go_ret
    exact ⟨rfl, bl_alloc (Below.refl _ _) _⟩

end Go.Proofs.Ytmfmpagfjgpodaa

/-! WR: The walks of records: their errors, the check of lists; texts of at most 1000 bytes, lists of at most 1000000 records. -/
namespace Go.Proofs.Ytmfmpagfjgpodaa
open Go.RowKit

theorem c144 (r : Rec) (w : World) (hs : r.driver.size ≤ 1000) : Calls Try.prog 144 #[.agg #[.string r.driver, .int .i64 r.lo, .int .i64 r.hi]] w fun e w' => e = .returned (.int .i64 (recErr r)) ∧ Below w.heap.size w w' := by
  obtain ⟨d, lo, hi⟩ := r
  unfold recErr
  dsimp only at hs ⊢
  cases hn : isName d
  · go_enter Try.func144, Try.ntmps144
    go_wp2_with (first | (go_at_call 102; refine (c102 _ _ hs).mono ?_; rintro e w' ⟨rfl, rfl⟩) | (go_at_call 130; refine (c130 _ _ _).mono ?_; rintro e w' ⟨rfl, rfl⟩))
    go_ret
    exact ⟨rfl, bl_alloc (Below.refl _ _) _⟩
  · go_enter Try.func144, Try.ntmps144
    go_wp2_with (first | (go_at_call 102; refine (c102 _ _ hs).mono ?_; rintro e w' ⟨rfl, rfl⟩) | (go_at_call 130; refine (c130 _ _ _).mono ?_; rintro e w' ⟨rfl, rfl⟩))
    go_ret
    exact ⟨rfl, bl_alloc (Below.refl _ _) _⟩
set_option maxRecDepth 100000 in
theorem c109 (r : Rec) (w : World) (hs : r.driver.size ≤ 1000) : Calls Try.prog 109 #[.agg #[.string r.driver, .int .i64 r.lo, .int .i64 r.hi]] w fun e w' => e = .returned (.int .i64 (recErr r)) ∧ Below w.heap.size w w' := by
  rw [← recErr_fst]
  obtain ⟨d, lo, hi⟩ := r
  dsimp only at hs ⊢
  go_enter Try.func109, Try.ntmps109
  go_wp2_with fail
  have k1 := (Bk.new w 57 #[.string d, .int .i64 lo, .int .i64 hi]).later
  have hb := bl_alloc (Below.refl w.heap.size w) (.cells #[.string d, .int .i64 lo, .int .i64 hi] 57)
  generalize w.alloc _ = w1 at *
  refine wp_region_tail 8 (by kernel_rfl) (by kernel_rfl) ?_
  simp only [List.take_succ_cons, List.take_zero, List.drop_succ_cons, List.drop_zero]
  repeat (go_big_quiet_step ((first
     | (go_at_call 99; exact later_of (c99 _ _ hs))
     | (go_at_call 143; exact later_of (c143 _ _ _)))))
  refine wpQuiet_nil ?_
  rintro _ ⟨nq, rfl⟩
  go_wp2_with fail
  refine (c75 [nameErr d, spanErr lo hi] _ _ _ _ rfl (by simp) ?_).mono ?_
  · exact Sl.of_row (fun _ => rfl) (heap_alloc_new _ _) rfl
  · rintro e w' ⟨rfl, rfl⟩
    go_wp2
    go_ret
    exact ⟨rfl, bl_alloc (below_step hb nq.2) _⟩
/-- A call of F enters F: F has a body. -/
def Enters (F : FuncId) : Prop := ∀ (a : Array Value) (W : World), (callFunc F a).run Try.prog W = .ok (.enter F a) W
/-- What a closure of a check of records does, in every later world. -/
def Errs (F : FuncId) (C : Array Value) (w : World) (l : List Rec) (E : Nat → Int) : Prop :=
  ∀ k (h : k < l.length) W, Below w.heap.size w W → Calls Try.prog F (#[.int .i64 k, .agg #[.string l[k].driver, .int .i64 l[k].lo, .int .i64 l[k].hi]] ++ C) W fun e W' => e = .returned (.int .i64 (E k)) ∧ Below W.heap.size W W'
theorem enters154 : Enters 154 := fun a W => by simp [callFunc, go_sem, Try.func154, Try.f154]
theorem enters108 : Enters 108 := fun a W => by simp [callFunc, go_sem, Try.func108, Try.f108]
set_option maxRecDepth 100000 in
theorem c107 (l : List Rec) (A : Option Addr) (n cap : Nat) (most : Int) (F : FuncId) (C : Array Value) (E : Nat → Int) (w : World) (hn : n = l.length) (hl : n ≤ 1000000)
    (hS : Sl Rec.cells 3 w A l) (hF : Enters F) (hE : Errs F C w l E) :
    Calls Try.prog 107 #[.slice A n cap, .int .i64 most, .func (.func F) #[] C] w fun e w' => e = .returned (.tuple #[.int .i64 (checkL n most E).1, .int .i64 (checkL n most E).2]) ∧ Below w.heap.size w w' := by
  unfold checkL
  unfold Enters at hF
  by_cases hm : (n : Int) > most
  · rw [if_pos hm]
    go_enter Try.func107, Try.ntmps107
    go_wp2
    go_ret2
    exact ⟨rfl, Below.refl _ _⟩
  rw [if_neg hm]
  have hm1 : decide (most < (n : Int)) = false := by simpa using hm
  clear hm
  subst hn
  go_enter Try.func107, Try.ntmps107
  go_wp2
  go_loopw [8, 10, 17] (fun _ _ i wr => ∃ k : Nat, k ≤ l.length ∧ i = .int .i64 k ∧ firstErr E 0 l.length = firstErr E k (l.length - k) ∧ Below w.heap.size w wr) (fun _ _ i _ => l.length - (intOf i).toNat)
  case atStart => exact ⟨0, Nat.zero_le _, rfl, by simp, Below.refl _ _⟩
  case round =>
    obtain ⟨k, hk, rfl, hf, hb⟩ := hrel
    by_cases hlt : k < l.length
    · obtain ⟨b, o, rfl, h0, h1, h2⟩ := hS.recAt hlt
      have g0 := below_cell hb h0
      have g1 := below_cell hb h1
      have g2 := below_cell hb h2
      have hG := hE k hlt _ (bl_alloc hb (.cells #[.string l[k].driver, .int .i64 l[k].lo, .int .i64 l[k].hi] 57))
      rw [firstErr_at hlt] at hf
      have H := And.intro hf (And.intro hb hG)
      have HH := Lib.hid H
      clear hf hb hG H hS hE h0 h1 h2
      generalize l[k].driver = d at *
      generalize l[k].lo = x at *
      generalize l[k].hi = y at *
      go_wp2_with fail
      refine HH.out.2.2.mono ?_
      rintro e w1 ⟨rfl, hb1⟩
      by_cases hz : E k = 0
      · have hz1 : (E k != 0) = false := by simpa using hz
        have HZ := Lib.hid hz
        clear hz
        go_wp2
        go_roundw
        case rel => exact ⟨k + 1, by omega, by go_num, by rw [HH.out.1, if_neg (by simp [HZ.out])], below_step (bl_alloc HH.out.2.1 _) hb1⟩
        case measure => simp [intOf]; omega
      · have hz1 : (E k != 0) = true := by simpa using hz
        have HZ := Lib.hid hz
        clear hz
        go_wp2
        go_ret2
        rw [HH.out.1, if_pos HZ.out]
        exact ⟨rfl, below_step (bl_alloc HH.out.2.1 _) hb1⟩
    · have H := Lib.hid hf
      clear hf hS hE
      have HB := Lib.hid hb
      clear hb
      go_wp2
      go_ret2
      rw [H.out, show l.length - k = 0 by omega]
      exact ⟨rfl, HB.out⟩
set_option maxRecDepth 100000 in
set_option maxHeartbeats 1000000 in
theorem c154 (l : List Rec) (g : Nat) (A : Option Addr) (n cap : Nat) (k : Nat) (w : World) (hk : k < l.length) (hn : n = l.length) (hl : n ≤ 1000000) (hd : Small l)
    (hS : Sl Rec.cells 3 w A l) (hg : w.cell? ⟨g, 0, none⟩ = some (.slice A n cap)) :
    Calls Try.prog 154 #[.int .i64 k, .agg #[.string l[k].driver, .int .i64 l[k].lo, .int .i64 l[k].hi], .pointer (some ⟨g, 0, none⟩)] w fun e w' => e = .returned (.int .i64 (chkE true l k)) ∧ Below w.heap.size w w' := by
  subst hn
  have hs := hd.at_ hk
  have e109 := c109 l[k]
  by_cases h0 : k = 0
  · subst h0
    rw [chkE_zero, rat_get hk]
    have H := Lib.hid e109
    clear e109 hS hd hg
    generalize recErr l[0] = er at *
    generalize l[0].driver = d at *
    generalize l[0].lo = x at *
    generalize l[0].hi = y at *
    go_enter Try.func154, Try.ntmps154
    go_wp2_with fail
    refine (H.out _ hs).mono ?_
    rintro e w1 ⟨rfl, hb1⟩
    have hB := below_step (bl_alloc (Below.refl _ w) _) hb1
    have HB := Lib.hid hB
    clear hb1 hB
    go_wp2
    go_ret
    exact ⟨rfl, HB.out⟩
  · rw [← chkE_one l h0, rat_get hk, rat_get (by omega)]
    obtain ⟨b, o, rfl, p0, p1, p2⟩ := hS.recAt (k := k - 1) (by omega)
    generalize recErr l[k] = er at *
    generalize l[k].driver = d at *
    generalize l[k].lo = x at *
    generalize l[k].hi = y at *
    generalize l[k-1].driver = d' at *
    generalize l[k-1].lo = x' at *
    generalize l[k-1].hi = y' at *
    have b0 : decide (0 < (k : Int)) = true := by simp; omega
    have hk1 : 1 ≤ k := by omega
    clear h0
    have H := Lib.hid e109
    clear e109 hS
    go_enter Try.func154, Try.ntmps154
    go_wp2_with fail
    refine (H.out _ hs).mono ?_
    rintro e w1 ⟨rfl, hb1⟩
    go_wp2_with fail
    have hB := below_step (bl_alloc (Below.refl _ w) _) hb1
    have k1 := ((Bk.new w 57 #[.string d, .int .i64 x, .int .i64 y]).below hb1).later
    have k2 := Later.cell (below_cell hB hg)
    have k3 := Later.cell (below_cell hB p0)
    have k5 := Later.cell (below_cell hB p2)
    have HB := Lib.hid hB
    clear hb1 hB hg p0 p1 p2 H
    refine wp_region_tail 21 (by kernel_rfl) (by kernel_rfl) ?_
    simp only [List.take_succ_cons, List.take_zero, List.drop_succ_cons, List.drop_zero]
    repeat (go_big_quiet_step ((first
       | (go_at_call 78; exact later_same (c78 _ _ _)))))
    refine wpQuiet_nil ?_
    rintro _ ⟨nq, rfl⟩
    go_wp2_with fail
    refine (c75 [er, unl (sameS d d') 13, unl (decide (y' ≤ x)) 26] _ _ _ _ rfl (by simp) ?_).mono ?_
    · exact Sl.of_row (fun _ => rfl) (heap_alloc_new _ _) rfl
    · rintro e w' ⟨rfl, rfl⟩
      go_wp2
      go_ret
      exact ⟨rfl, bl_alloc (below_step HB.out nq.2) _⟩
set_option maxRecDepth 100000 in
set_option maxHeartbeats 1000000 in
theorem c108 (l : List Rec) (g : Nat) (A : Option Addr) (n cap : Nat) (k : Nat) (w : World) (hk : k < l.length) (hn : n = l.length) (hl : n ≤ 1000000) (hd : Small l)
    (hS : Sl Rec.cells 3 w A l) (hg : w.cell? ⟨g, 0, none⟩ = some (.slice A n cap)) :
    Calls Try.prog 108 #[.int .i64 k, .agg #[.string l[k].driver, .int .i64 l[k].lo, .int .i64 l[k].hi], .pointer (some ⟨g, 0, none⟩)] w fun e w' => e = .returned (.int .i64 (chkE false l k)) ∧ Below w.heap.size w w' := by
  subst hn
  have hs := hd.at_ hk
  have e109 := c109 l[k]
  by_cases h0 : k = 0
  · subst h0
    rw [chkE_zero, rat_get hk]
    have H := Lib.hid e109
    clear e109 hS hd hg
    have hz : fst [recErr l[0], unl true 26] = recErr l[0] := by simp [fst, unl]; omega
    rw [← hz]
    clear hz
    generalize recErr l[0] = er at *
    generalize l[0].driver = d at *
    generalize l[0].lo = x at *
    generalize l[0].hi = y at *
    go_enter Try.func108, Try.ntmps108
    go_wp2_with fail
    have k1 := (Bk.new w 57 #[.string d, .int .i64 x, .int .i64 y]).later
    have hb := bl_alloc (Below.refl w.heap.size w) (.cells #[.string d, .int .i64 x, .int .i64 y] 57)
    have HB := Lib.hid hb
    clear hb
    generalize w.alloc _ = w1 at *
    refine wp_region_tail 17 (by kernel_rfl) (by kernel_rfl) ?_
    simp only [List.take_succ_cons, List.take_zero, List.drop_succ_cons, List.drop_zero]
    repeat (go_big_quiet_step ((first
       | (go_at_call 109; exact later_of (H.out _ hs))
       | (go_at_call 78; exact later_same (c78 _ _ _)))))
    refine wpQuiet_nil ?_
    rintro _ ⟨nq, rfl⟩
    go_wp2_with fail
    refine (c75 [er, unl true 26] _ _ _ _ rfl (by simp) ?_).mono ?_
    · exact Sl.of_row (fun _ => rfl) (heap_alloc_new _ _) rfl
    · rintro e w' ⟨rfl, rfl⟩
      go_wp2
      go_ret
      exact ⟨rfl, bl_alloc (below_step HB.out nq.2) _⟩
  · rw [← chkE_any l h0, rat_get hk, rat_get (by omega)]
    obtain ⟨b, o, rfl, p0, p1, p2⟩ := hS.recAt (k := k - 1) (by omega)
    generalize recErr l[k] = er at *
    generalize l[k].driver = d at *
    generalize l[k].lo = x at *
    generalize l[k].hi = y at *
    generalize l[k-1].hi = y' at *
    have em : (if 1 < (k : Int) then (k : Int) - 1 else 0).toNat = k - 1 := by split <;> omega
    rw [← em] at p2
    clear em
    have b0 : ((k : Int) == 0) = false := by simpa using h0
    have hk1 : 1 ≤ k := by omega
    clear h0
    have H := Lib.hid e109
    clear e109 hS
    go_enter Try.func108, Try.ntmps108
    go_wp2_with fail
    have hB := bl_alloc (Below.refl w.heap.size w) (.cells #[.string d, .int .i64 x, .int .i64 y] 57)
    have k1 := (Bk.new w 57 #[.string d, .int .i64 x, .int .i64 y]).later
    have k2 := Later.cell (below_cell hB hg)
    have k5 := Later.cell (below_cell hB p2)
    have HB := Lib.hid hB
    clear hB hg p0 p1 p2
    generalize w.alloc _ = w1 at *
    refine wp_region_tail 17 (by kernel_rfl) (by kernel_rfl) ?_
    simp only [List.take_succ_cons, List.take_zero, List.drop_succ_cons, List.drop_zero]
    repeat (go_big_quiet_step ((first
       | (go_at_call 109; exact later_of (H.out _ hs))
       | (go_at_call 78; exact later_same (c78 _ _ _)))))
    refine wpQuiet_nil ?_
    rintro _ ⟨nq, rfl⟩
    go_wp2_with fail
    all_goals
      refine (c75 [er, unl (decide (y' ≤ x)) 26] _ _ _ _ rfl (by simp) ?_).mono ?_
      · exact Sl.of_row (fun _ => rfl) (heap_alloc_new _ _) rfl
      · rintro e w' ⟨rfl, rfl⟩
        go_wp2
        go_ret
        exact ⟨rfl, bl_alloc (below_step HB.out nq.2) _⟩
set_option maxRecDepth 100000 in
theorem c133 (l : List Rec) (A : Option Addr) (n cap : Nat) (w : World) (hn : n = l.length) (hl : n ≤ 1000000) (hd : Small l) (hS : Sl Rec.cells 3 w A l) :
    Calls Try.prog 133 #[.slice A n cap] w fun e w' => e = .returned (.tuple #[.int .i64 (checkRecs true l).1, .int .i64 (checkRecs true l).2]) ∧ Below w.heap.size w w' := by
  unfold checkRecs
  subst hn
  have hC : Errs 154 #[.pointer (some ⟨w.heap.size, 0, none⟩)] (w.alloc (.cells #[.slice A l.length cap] 22)) l (chkE true l) := fun k hk W hb =>
    c154 l _ A _ cap k W hk rfl hl hd ((hS.alloc _).below hb) (((Bk.new w 22 #[.slice A l.length cap]).below hb).cell 0)
  have hS' := hS.alloc (.cells #[.slice A l.length cap] 22)
  have H := Lib.hid (And.intro hC hS')
  clear hC hS' hS
  generalize (chkE true l) = E at *
  go_enter Try.func133, Try.ntmps133
  go_wp2_with (go_at_call 107; refine (c107 l A _ cap 40 154 _ E _ rfl hl H.out.2 enters154 H.out.1).mono ?_; rintro e w1 ⟨rfl, hb1⟩)
  go_ret2
  exact ⟨rfl, below_step (bl_alloc (Below.refl _ _) _) (by assumption)⟩
set_option maxRecDepth 100000 in
theorem c76 (l : List Rec) (A : Option Addr) (n cap : Nat) (w : World) (hn : n = l.length) (hl : n ≤ 1000000) (hd : Small l) (hS : Sl Rec.cells 3 w A l) :
    Calls Try.prog 76 #[.slice A n cap] w fun e w' => e = .returned (.int .i64 (checkRecs true l).2) ∧ Below w.heap.size w w' := by
  subst hn
  have H := Lib.hid (c133 l A _ cap w rfl hl hd hS)
  clear hS
  generalize checkRecs true l = r at *
  go_enter Try.func76, Try.ntmps76
  go_wp2_with (go_at_call 133; refine H.out.mono ?_; rintro e w1 ⟨rfl, hb1⟩)
  go_ret
  exact ⟨rfl, by assumption⟩

end Go.Proofs.Ytmfmpagfjgpodaa
