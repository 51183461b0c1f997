/- The walks of records: their errors, the check of lists; texts of at most 1000 bytes, lists of at most 1000000 records. -/
import Derived.Test.YtmfmpagfjgpodaaWN

namespace Go.Proofs.Ytmfmpagfjgpodaa
open Go.RowKit

theorem c144 (r : Rec) (w : World) (hs : r.driver.size ≤ 1000) : Calls Try.prog 144 #[.agg #[.string r.driver, .int .i64 r.lo, .int .i64 r.hi]] w fun e w' => e = .returned (.int .i64 (recErr r)) ∧ Below w.heap.size w w' := by
  obtain ⟨d, lo, hi⟩ := r
  unfold recErr
  dsimp only at hs ⊢
  cases hn : isName d
  · go_enter Try.func144, Try.ntmps144
    go_wp2_with (first | (go_at_call 102; refine (c102 _ _ hs).mono ?_; rintro e w' ⟨rfl, rfl⟩) | (go_at_call 130; refine (c130 _ _ _).mono ?_; rintro e w' ⟨rfl, rfl⟩))
    go_ret
    exact ⟨rfl, bl_alloc (Below.refl _ _) _⟩
  · go_enter Try.func144, Try.ntmps144
    go_wp2_with (first | (go_at_call 102; refine (c102 _ _ hs).mono ?_; rintro e w' ⟨rfl, rfl⟩) | (go_at_call 130; refine (c130 _ _ _).mono ?_; rintro e w' ⟨rfl, rfl⟩))
    go_ret
    exact ⟨rfl, bl_alloc (Below.refl _ _) _⟩
set_option maxRecDepth 100000 in
theorem c109 (r : Rec) (w : World) (hs : r.driver.size ≤ 1000) : Calls Try.prog 109 #[.agg #[.string r.driver, .int .i64 r.lo, .int .i64 r.hi]] w fun e w' => e = .returned (.int .i64 (recErr r)) ∧ Below w.heap.size w w' := by
  rw [← recErr_fst]
  obtain ⟨d, lo, hi⟩ := r
  dsimp only at hs ⊢
  go_enter Try.func109, Try.ntmps109
  go_wp2_with fail
  have k1 := (Bk.new w 57 #[.string d, .int .i64 lo, .int .i64 hi]).later
  have hb := bl_alloc (Below.refl w.heap.size w) (.cells #[.string d, .int .i64 lo, .int .i64 hi] 57)
  generalize w.alloc _ = w1 at *
  refine wp_region_tail 8 (by kernel_rfl) (by kernel_rfl) ?_
  simp only [List.take_succ_cons, List.take_zero, List.drop_succ_cons, List.drop_zero]
  repeat (go_big_quiet_step ((first
     | (go_at_call 99; exact later_of (c99 _ _ hs))
     | (go_at_call 143; exact later_of (c143 _ _ _)))))
  refine wpQuiet_nil ?_
  rintro _ ⟨nq, rfl⟩
  go_wp2_with fail
  refine (c75 [nameErr d, spanErr lo hi] _ _ _ _ rfl (by simp) ?_).mono ?_
  · exact Sl.of_row (fun _ => rfl) (heap_alloc_new _ _) rfl
  · rintro e w' ⟨rfl, rfl⟩
    go_wp2
    go_ret
    exact ⟨rfl, bl_alloc (below_step hb nq.2) _⟩
/-- A call of F enters F: F has a body. -/
def Enters (F : FuncId) : Prop := ∀ (a : Array Value) (W : World), (callFunc F a).run Try.prog W = .ok (.enter F a) W
/-- What a closure of a check of records does, in every later world. -/
def Errs (F : FuncId) (C : Array Value) (w : World) (l : List Rec) (E : Nat → Int) : Prop :=
  ∀ k (h : k < l.length) W, Below w.heap.size w W → Calls Try.prog F (#[.int .i64 k, .agg #[.string l[k].driver, .int .i64 l[k].lo, .int .i64 l[k].hi]] ++ C) W fun e W' => e = .returned (.int .i64 (E k)) ∧ Below W.heap.size W W'
theorem enters154 : Enters 154 := fun a W => by simp [callFunc, go_sem, Try.func154, Try.f154]
theorem enters108 : Enters 108 := fun a W => by simp [callFunc, go_sem, Try.func108, Try.f108]
set_option maxRecDepth 100000 in
theorem c107 (l : List Rec) (A : Option Addr) (n cap : Nat) (most : Int) (F : FuncId) (C : Array Value) (E : Nat → Int) (w : World) (hn : n = l.length) (hl : n ≤ 1000000)
    (hS : Sl Rec.cells 3 w A l) (hF : Enters F) (hE : Errs F C w l E) :
    Calls Try.prog 107 #[.slice A n cap, .int .i64 most, .func (.func F) #[] C] w fun e w' => e = .returned (.tuple #[.int .i64 (checkL n most E).1, .int .i64 (checkL n most E).2]) ∧ Below w.heap.size w w' := by
  unfold checkL
  unfold Enters at hF
  by_cases hm : (n : Int) > most
  · rw [if_pos hm]
    go_enter Try.func107, Try.ntmps107
    go_wp2
    go_ret2
    exact ⟨rfl, Below.refl _ _⟩
  rw [if_neg hm]
  have hm1 : decide (most < (n : Int)) = false := by simpa using hm
  clear hm
  subst hn
  go_enter Try.func107, Try.ntmps107
  go_wp2
  go_loopw [8, 10, 17] (fun _ _ i wr => ∃ k : Nat, k ≤ l.length ∧ i = .int .i64 k ∧ firstErr E 0 l.length = firstErr E k (l.length - k) ∧ Below w.heap.size w wr) (fun _ _ i _ => l.length - (intOf i).toNat)
  case atStart => exact ⟨0, Nat.zero_le _, rfl, by simp, Below.refl _ _⟩
  case round =>
    obtain ⟨k, hk, rfl, hf, hb⟩ := hrel
    by_cases hlt : k < l.length
    · obtain ⟨b, o, rfl, h0, h1, h2⟩ := hS.recAt hlt
      have g0 := below_cell hb h0
      have g1 := below_cell hb h1
      have g2 := below_cell hb h2
      have hG := hE k hlt _ (bl_alloc hb (.cells #[.string l[k].driver, .int .i64 l[k].lo, .int .i64 l[k].hi] 57))
      rw [firstErr_at hlt] at hf
      have H := And.intro hf (And.intro hb hG)
      have HH := Lib.hid H
      clear hf hb hG H hS hE h0 h1 h2
      generalize l[k].driver = d at *
      generalize l[k].lo = x at *
      generalize l[k].hi = y at *
      go_wp2_with fail
      refine HH.out.2.2.mono ?_
      rintro e w1 ⟨rfl, hb1⟩
      by_cases hz : E k = 0
      · have hz1 : (E k != 0) = false := by simpa using hz
        have HZ := Lib.hid hz
        clear hz
        go_wp2
        go_roundw
        case rel => exact ⟨k + 1, by omega, by go_num, by rw [HH.out.1, if_neg (by simp [HZ.out])], below_step (bl_alloc HH.out.2.1 _) hb1⟩
        case measure => simp [intOf]; omega
      · have hz1 : (E k != 0) = true := by simpa using hz
        have HZ := Lib.hid hz
        clear hz
        go_wp2
        go_ret2
        rw [HH.out.1, if_pos HZ.out]
        exact ⟨rfl, below_step (bl_alloc HH.out.2.1 _) hb1⟩
    · have H := Lib.hid hf
      clear hf hS hE
      have HB := Lib.hid hb
      clear hb
      go_wp2
      go_ret2
      rw [H.out, show l.length - k = 0 by omega]
      exact ⟨rfl, HB.out⟩
set_option maxRecDepth 100000 in
set_option maxHeartbeats 1000000 in
theorem c154 (l : List Rec) (g : Nat) (A : Option Addr) (n cap : Nat) (k : Nat) (w : World) (hk : k < l.length) (hn : n = l.length) (hl : n ≤ 1000000) (hd : Small l)
    (hS : Sl Rec.cells 3 w A l) (hg : w.cell? ⟨g, 0, none⟩ = some (.slice A n cap)) :
    Calls Try.prog 154 #[.int .i64 k, .agg #[.string l[k].driver, .int .i64 l[k].lo, .int .i64 l[k].hi], .pointer (some ⟨g, 0, none⟩)] w fun e w' => e = .returned (.int .i64 (chkE true l k)) ∧ Below w.heap.size w w' := by
  subst hn
  have hs := hd.at_ hk
  have e109 := c109 l[k]
  by_cases h0 : k = 0
  · subst h0
    rw [chkE_zero, rat_get hk]
    have H := Lib.hid e109
    clear e109 hS hd hg
    generalize recErr l[0] = er at *
    generalize l[0].driver = d at *
    generalize l[0].lo = x at *
    generalize l[0].hi = y at *
    go_enter Try.func154, Try.ntmps154
    go_wp2_with fail
    refine (H.out _ hs).mono ?_
    rintro e w1 ⟨rfl, hb1⟩
    have hB := below_step (bl_alloc (Below.refl _ w) _) hb1
    have HB := Lib.hid hB
    clear hb1 hB
    go_wp2
    go_ret
    exact ⟨rfl, HB.out⟩
  · rw [← chkE_one l h0, rat_get hk, rat_get (by omega)]
    obtain ⟨b, o, rfl, p0, p1, p2⟩ := hS.recAt (k := k - 1) (by omega)
    generalize recErr l[k] = er at *
    generalize l[k].driver = d at *
    generalize l[k].lo = x at *
    generalize l[k].hi = y at *
    generalize l[k-1].driver = d' at *
    generalize l[k-1].lo = x' at *
    generalize l[k-1].hi = y' at *
    have b0 : decide (0 < (k : Int)) = true := by simp; omega
    have hk1 : 1 ≤ k := by omega
    clear h0
    have H := Lib.hid e109
    clear e109 hS
    go_enter Try.func154, Try.ntmps154
    go_wp2_with fail
    refine (H.out _ hs).mono ?_
    rintro e w1 ⟨rfl, hb1⟩
    go_wp2_with fail
    have hB := below_step (bl_alloc (Below.refl _ w) _) hb1
    have k1 := ((Bk.new w 57 #[.string d, .int .i64 x, .int .i64 y]).below hb1).later
    have k2 := Later.cell (below_cell hB hg)
    have k3 := Later.cell (below_cell hB p0)
    have k5 := Later.cell (below_cell hB p2)
    have HB := Lib.hid hB
    clear hb1 hB hg p0 p1 p2 H
    refine wp_region_tail 21 (by kernel_rfl) (by kernel_rfl) ?_
    simp only [List.take_succ_cons, List.take_zero, List.drop_succ_cons, List.drop_zero]
    repeat (go_big_quiet_step ((first
       | (go_at_call 78; exact later_same (c78 _ _ _)))))
    refine wpQuiet_nil ?_
    rintro _ ⟨nq, rfl⟩
    go_wp2_with fail
    refine (c75 [er, unl (sameS d d') 13, unl (decide (y' ≤ x)) 26] _ _ _ _ rfl (by simp) ?_).mono ?_
    · exact Sl.of_row (fun _ => rfl) (heap_alloc_new _ _) rfl
    · rintro e w' ⟨rfl, rfl⟩
      go_wp2
      go_ret
      exact ⟨rfl, bl_alloc (below_step HB.out nq.2) _⟩
set_option maxRecDepth 100000 in
set_option maxHeartbeats 1000000 in
theorem c108 (l : List Rec) (g : Nat) (A : Option Addr) (n cap : Nat) (k : Nat) (w : World) (hk : k < l.length) (hn : n = l.length) (hl : n ≤ 1000000) (hd : Small l)
    (hS : Sl Rec.cells 3 w A l) (hg : w.cell? ⟨g, 0, none⟩ = some (.slice A n cap)) :
    Calls Try.prog 108 #[.int .i64 k, .agg #[.string l[k].driver, .int .i64 l[k].lo, .int .i64 l[k].hi], .pointer (some ⟨g, 0, none⟩)] w fun e w' => e = .returned (.int .i64 (chkE false l k)) ∧ Below w.heap.size w w' := by
  subst hn
  have hs := hd.at_ hk
  have e109 := c109 l[k]
  by_cases h0 : k = 0
  · subst h0
    rw [chkE_zero, rat_get hk]
    have H := Lib.hid e109
    clear e109 hS hd hg
    have hz : fst [recErr l[0], unl true 26] = recErr l[0] := by simp [fst, unl]; omega
    rw [← hz]
    clear hz
    generalize recErr l[0] = er at *
    generalize l[0].driver = d at *
    generalize l[0].lo = x at *
    generalize l[0].hi = y at *
    go_enter Try.func108, Try.ntmps108
    go_wp2_with fail
    have k1 := (Bk.new w 57 #[.string d, .int .i64 x, .int .i64 y]).later
    have hb := bl_alloc (Below.refl w.heap.size w) (.cells #[.string d, .int .i64 x, .int .i64 y] 57)
    have HB := Lib.hid hb
    clear hb
    generalize w.alloc _ = w1 at *
    refine wp_region_tail 17 (by kernel_rfl) (by kernel_rfl) ?_
    simp only [List.take_succ_cons, List.take_zero, List.drop_succ_cons, List.drop_zero]
    repeat (go_big_quiet_step ((first
       | (go_at_call 109; exact later_of (H.out _ hs))
       | (go_at_call 78; exact later_same (c78 _ _ _)))))
    refine wpQuiet_nil ?_
    rintro _ ⟨nq, rfl⟩
    go_wp2_with fail
    refine (c75 [er, unl true 26] _ _ _ _ rfl (by simp) ?_).mono ?_
    · exact Sl.of_row (fun _ => rfl) (heap_alloc_new _ _) rfl
    · rintro e w' ⟨rfl, rfl⟩
      go_wp2
      go_ret
      exact ⟨rfl, bl_alloc (below_step HB.out nq.2) _⟩
  · rw [← chkE_any l h0, rat_get hk, rat_get (by omega)]
    obtain ⟨b, o, rfl, p0, p1, p2⟩ := hS.recAt (k := k - 1) (by omega)
    generalize recErr l[k] = er at *
    generalize l[k].driver = d at *
    generalize l[k].lo = x at *
    generalize l[k].hi = y at *
    generalize l[k-1].hi = y' at *
    have em : (if 1 < (k : Int) then (k : Int) - 1 else 0).toNat = k - 1 := by split <;> omega
    rw [← em] at p2
    clear em
    have b0 : ((k : Int) == 0) = false := by simpa using h0
    have hk1 : 1 ≤ k := by omega
    clear h0
    have H := Lib.hid e109
    clear e109 hS
    go_enter Try.func108, Try.ntmps108
    go_wp2_with fail
    have hB := bl_alloc (Below.refl w.heap.size w) (.cells #[.string d, .int .i64 x, .int .i64 y] 57)
    have k1 := (Bk.new w 57 #[.string d, .int .i64 x, .int .i64 y]).later
    have k2 := Later.cell (below_cell hB hg)
    have k5 := Later.cell (below_cell hB p2)
    have HB := Lib.hid hB
    clear hB hg p0 p1 p2
    generalize w.alloc _ = w1 at *
    refine wp_region_tail 17 (by kernel_rfl) (by kernel_rfl) ?_
    simp only [List.take_succ_cons, List.take_zero, List.drop_succ_cons, List.drop_zero]
    repeat (go_big_quiet_step ((first
       | (go_at_call 109; exact later_of (H.out _ hs))
       | (go_at_call 78; exact later_same (c78 _ _ _)))))
    refine wpQuiet_nil ?_
    rintro _ ⟨nq, rfl⟩
    go_wp2_with fail
    all_goals
      refine (c75 [er, unl (decide (y' ≤ x)) 26] _ _ _ _ rfl (by simp) ?_).mono ?_
      · exact Sl.of_row (fun _ => rfl) (heap_alloc_new _ _) rfl
      · rintro e w' ⟨rfl, rfl⟩
        go_wp2
        go_ret
        exact ⟨rfl, bl_alloc (below_step HB.out nq.2) _⟩
set_option maxRecDepth 100000 in
theorem c133 (l : List Rec) (A : Option Addr) (n cap : Nat) (w : World) (hn : n = l.length) (hl : n ≤ 1000000) (hd : Small l) (hS : Sl Rec.cells 3 w A l) :
    Calls Try.prog 133 #[.slice A n cap] w fun e w' => e = .returned (.tuple #[.int .i64 (checkRecs true l).1, .int .i64 (checkRecs true l).2]) ∧ Below w.heap.size w w' := by
  unfold checkRecs
  subst hn
  have hC : Errs 154 #[.pointer (some ⟨w.heap.size, 0, none⟩)] (w.alloc (.cells #[.slice A l.length cap] 22)) l (chkE true l) := fun k hk W hb =>
    c154 l _ A _ cap k W hk rfl hl hd ((hS.alloc _).below hb) (((Bk.new w 22 #[.slice A l.length cap]).below hb).cell 0)
  have hS' := hS.alloc (.cells #[.slice A l.length cap] 22)
  have H := Lib.hid (And.intro hC hS')
  clear hC hS' hS
  generalize (chkE true l) = E at *
  go_enter Try.func133, Try.ntmps133
  go_wp2_with (go_at_call 107; refine (c107 l A _ cap 40 154 _ E _ rfl hl H.out.2 enters154 H.out.1).mono ?_; rintro e w1 ⟨rfl, hb1⟩)
  go_ret2
  exact ⟨rfl, below_step (bl_alloc (Below.refl _ _) _) (by assumption)⟩
set_option maxRecDepth 100000 in
theorem c76 (l : List Rec) (A : Option Addr) (n cap : Nat) (w : World) (hn : n = l.length) (hl : n ≤ 1000000) (hd : Small l) (hS : Sl Rec.cells 3 w A l) :
    Calls Try.prog 76 #[.slice A n cap] w fun e w' => e = .returned (.int .i64 (checkRecs true l).2) ∧ Below w.heap.size w w' := by
  subst hn
  have H := Lib.hid (c133 l A _ cap w rfl hl hd hS)
  clear hS
  generalize checkRecs true l = r at *
  go_enter Try.func76, Try.ntmps76
  go_wp2_with (go_at_call 133; refine H.out.mono ?_; rintro e w1 ⟨rfl, hb1⟩)
  go_ret
  exact ⟨rfl, by assumption⟩

end Go.Proofs.Ytmfmpagfjgpodaa
