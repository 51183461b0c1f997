/- Texts in one: The walks of the errors of records, and of opening a work; at most 1000000 records, texts of at most 1000 bytes. -/
import Derived.Test.YtmfmpagfjgpodaaMS8
import Derived.Test.YtmfmpagfjgpodaaMS9
import Derived.Test.YtmfmpagfjgpodaaMS0
/-! WD: The walks of the errors of records, and of opening a work; at most 1000000 records, texts of at most 1000 bytes. -/
namespace Go.Proofs.Ytmfmpagfjgpodaa
open Go.RowKit

set_option maxRecDepth 100000 in
theorem c80 (l : List Rec) (A : Option Addr) (n cap : Nat) (w : World) (hn : n = l.length) (hl : n ≤ 1000000) (hd : Small l) (hS : Sl Rec.cells 3 w A l) :
    Calls Try.prog 80 #[.slice A n cap] w fun e w' => e = .returned (.tuple #[.int .i64 (checkRecs true l).1, .int .i64 (checkRecs true l).2]) ∧ Below w.heap.size w w' := by
  subst hn
  have H := Lib.hid (c115 l true A _ cap w rfl hl hd hS)
  clear hS
  generalize checkRecs true l = r at *
  go_enter Try.func80, Try.ntmps80
  go_wp2_with (go_at_call 115; refine H.out.mono ?_; rintro e w1 ⟨rfl, hb1⟩)
  go_ret2
  exact ⟨rfl, by assumption⟩
set_option maxRecDepth 100000 in
theorem c21 (l : List Rec) (A : Option Addr) (n cap : Nat) (w : World) (hn : n = l.length) (hl : n ≤ 1000000) (hd : Small l) (hS : Sl Rec.cells 3 w A l) :
    Calls Try.prog 21 #[.slice A n cap] w fun e w' => e = .returned (.int .i64 (checkRecs true l).2) ∧ Below w.heap.size w w' := by
  subst hn
  have H := Lib.hid (c80 l A _ cap w rfl hl hd hS)
  clear hS
  generalize checkRecs true l = r at *
  go_enter Try.func21, Try.ntmps21
  go_wp2_with (go_at_call 80; refine H.out.mono ?_; rintro e w1 ⟨rfl, hb1⟩)
  go_ret
  exact ⟨rfl, by assumption⟩
set_option maxRecDepth 100000 in
theorem c57 (l : List Rec) (A : Option Addr) (n cap : Nat) (w : World) (hn : n = l.length) (hl : n ≤ 1000000) (hd : Small l) (hS : Sl Rec.cells 3 w A l) :
    Calls Try.prog 57 #[.slice A n cap] w fun e w' => e = .returned (.int .i64 (checkRecs false l).2) ∧ Below w.heap.size w w' := by
  subst hn
  have H := Lib.hid (c115 l false A _ cap w rfl hl hd hS)
  clear hS
  generalize checkRecs false l = r at *
  go_enter Try.func57, Try.ntmps57
  go_wp2_with (go_at_call 115; refine H.out.mono ?_; rintro e w1 ⟨rfl, hb1⟩)
  go_ret
  exact ⟨rfl, by assumption⟩
/-- What 'open' hands back: rules and records as a work. -/
def workVal (r : Rul) (v : Value) : Value := .agg (r.cells.push v)
set_option maxRecDepth 100000 in
theorem c88 (r : Rul) (l : List Rec) (A : Option Addr) (n cap : Nat) (w : World) (hn : n = l.length) (hl : n ≤ 1000000) (hd : Small l) (hS : Sl Rec.cells 3 w A l) :
    Calls Try.prog 88 #[.agg r.cells, .slice A n cap] w fun e w' => e = .returned (.tuple #[.agg #[.int .i64 r.brk, .int .i64 r.rest, .int .i64 r.stint, .int .i64 r.shift, .int .i64 r.week, .slice A n cap], .int .i64 (bothErr r l)]) ∧ Below w.heap.size w w' := by
  subst hn
  have e61 := c137 r
  unfold bothErr
  by_cases hz : rulesErr r = 0
  · rw [if_neg (by simp [hz])]
    rw [hz] at e61
    obtain ⟨r0, r1, r2, r3, r4⟩ := r
    unfold Rul.cells at *
    dsimp only at *
    clear hz
    have H := Lib.hid (And.intro e61 hS)
    clear e61 hS
    go_enter Try.func88, Try.ntmps88
    go_wp2_with fail
    refine (H.out.1 _).mono ?_
    rintro e w1 ⟨rfl, hb1⟩
    have hB := below_step (bl_alloc (bl_alloc (Below.refl _ w) _) _) hb1
    have HB := Lib.hid hB
    have k2 := (((Bk.new w 35 #[.int .i64 r0, .int .i64 r1, .int .i64 r2, .int .i64 r3, .int .i64 r4]).alloc (.cells #[.int .i64 0, .int .i64 0, .int .i64 0, .int .i64 0, .int .i64 0, .slice none 0 0] 132)).below hb1)
    have k4 := (Bk.new (w.alloc (.cells #[.int .i64 r0, .int .i64 r1, .int .i64 r2, .int .i64 r3, .int .i64 r4] 35)) 132 #[.int .i64 0, .int .i64 0, .int .i64 0, .int .i64 0, .int .i64 0, .slice none 0 0]).below hb1
    clear hB hb1
    go_wp2_with fail
    refine (c76 l A _ cap _ rfl hl hd (H.out.2.below HB.out)).mono ?_
    rintro e w2 ⟨rfl, hb2⟩
    have k2' := (k2.below hb2).cell
    have k4' := (k4.below hb2).cell
    have k4f := (k4.below hb2).frozen
    simp only [World.size_alloc] at k4' k4f
    go_wp2
    refine bodyPost_ret (v := .tuple #[.agg #[.int .i64 r0, .int .i64 r1, .int .i64 r2, .int .i64 r3, .int .i64 r4, .slice A l.length cap], .int .i64 (checkRecs true l).2]) (by simp [results, Try.results88, go_sem, k4']) rfl ⟨rfl, ?_⟩
    repeat refine bl_set ?_ _ (by simp) _
    exact below_step HB.out hb2
  · rw [if_pos hz]
    have hz1 : (rulesErr r == 0) = false := by simpa using hz
    generalize rulesErr r = er at *
    obtain ⟨r0, r1, r2, r3, r4⟩ := r
    unfold Rul.cells at *
    dsimp only at *
    have H := Lib.hid e61
    clear e61 hS hz
    go_enter Try.func88, Try.ntmps88
    go_wp2_with fail
    refine (H.out _).mono ?_
    rintro e w1 ⟨rfl, hb1⟩
    have hB := below_step (bl_alloc (bl_alloc (Below.refl _ w) _) _) hb1
    have HB := Lib.hid hB
    have k2' := (((Bk.new w 35 #[.int .i64 r0, .int .i64 r1, .int .i64 r2, .int .i64 r3, .int .i64 r4]).alloc (.cells #[.int .i64 0, .int .i64 0, .int .i64 0, .int .i64 0, .int .i64 0, .slice none 0 0] 132)).below hb1).cell
    have k4 := (Bk.new (w.alloc (.cells #[.int .i64 r0, .int .i64 r1, .int .i64 r2, .int .i64 r3, .int .i64 r4] 35)) 132 #[.int .i64 0, .int .i64 0, .int .i64 0, .int .i64 0, .int .i64 0, .slice none 0 0]).below hb1
    have k4' := k4.cell
    have k4f := k4.frozen
    simp only [World.size_alloc] at k4' k4f
    clear hB hb1
    go_wp2
    refine bodyPost_ret (v := .tuple #[.agg #[.int .i64 r0, .int .i64 r1, .int .i64 r2, .int .i64 r3, .int .i64 r4, .slice A l.length cap], .int .i64 er]) (by simp [results, Try.results88, go_sem, k4']) rfl ⟨rfl, ?_⟩
    repeat refine bl_set ?_ _ (by simp) _
    exact HB.out

end Go.Proofs.Ytmfmpagfjgpodaa

/-! WO: The walks of the reference errors of rules and records, and of the guard of few records; texts and lists that a machine can hold. -/
namespace Go.Proofs.Ytmfmpagfjgpodaa
open Go.RowKit

set_option maxRecDepth 100000 in
set_option maxHeartbeats 4000000 in
theorem c61 (r : Rul) (w : World) : Calls Try.prog 61 #[.agg r.cells] w fun e w' => e = .returned (.int .i64 (rulesErr r)) ∧ Below w.heap.size w w' := by
  have hno := @rulesErr_no r
  have hyes := @rulesErr_yes r
  obtain ⟨r0, r1, r2, r3, r4⟩ := r
  unfold Rul.cells
  dsimp only at hno hyes ⊢
  have H := Lib.hid (And.intro hno hyes)
  clear hno hyes
  generalize rulesErr _ = er at *
  cases hq : decide (r1 < r0)
  all_goals
   go_enter Try.func61, Try.ntmps61
   go_wp2
   have B := bl_alloc (bl_alloc (Below.refl w.heap.size w) (.cells #[.int .i64 r0, .int .i64 r1, .int .i64 r2, .int .i64 r3, .int .i64 r4] 35)) (.cells #[.int .i64 r0, .int .i64 r1, .int .i64 r2, .int .i64 r3, .int .i64 r4] 3)
   have K1 := ((Bk.new w 35 #[.int .i64 r0, .int .i64 r1, .int .i64 r2, .int .i64 r3, .int .i64 r4]).alloc (.cells #[.int .i64 r0, .int .i64 r1, .int .i64 r2, .int .i64 r3, .int .i64 r4] 3)).cell
   have K2 := (Bk.new (w.alloc (.cells #[.int .i64 r0, .int .i64 r1, .int .i64 r2, .int .i64 r3, .int .i64 r4] 35)) 3 #[.int .i64 r0, .int .i64 r1, .int .i64 r2, .int .i64 r3, .int .i64 r4]).cell
   simp only [World.size_alloc] at K2
   have HB := Lib.hid B
   clear B
   go_loop [4] (fun i => ∃ k : Nat, k ≤ 5 ∧ i = .int .i64 k ∧ (0 < k → ruleOk r0 = true) ∧ (1 < k → ruleOk r1 = true) ∧ (2 < k → ruleOk r2 = true) ∧ (3 < k → ruleOk r3 = true) ∧ (4 < k → ruleOk r4 = true)) (fun i => 5 - (intOf i).toNat)
   case atStart => exact ⟨0, by omega, rfl, by omega, by omega, by omega, by omega, by omega⟩
   case round =>
     obtain ⟨k, hk, rfl, h0, h1, h2, h3, h4⟩ := hrel
     have HH := Lib.hid (And.intro h0 (And.intro h1 (And.intro h2 (And.intro h3 h4))))
     clear h0 h1 h2 h3 h4
     have hc : k = 0 ∨ k = 1 ∨ k = 2 ∨ k = 3 ∨ k = 4 ∨ k = 5 := by omega
     rcases hc with rfl | rfl | rfl | rfl | rfl | rfl
     all_goals
       go_wp2_with (go_at_call 36; refine (c36 _ _ _ _).mono ?_; rintro e w' ⟨rfl, rfl⟩)
     all_goals first
       | (refine ⟨?_, by simp [intOf]⟩
          have hh := ‹(!inR _ 1 2000000) = false›
          rw [Bool.not_eq_false'] at hh
          first
              | exact ⟨1, by omega, rfl, fun _ => hh, by omega, by omega, by omega, by omega⟩
              | exact ⟨2, by omega, rfl, fun _ => HH.out.1 (by omega), fun _ => hh, by omega, by omega, by omega⟩
              | exact ⟨3, by omega, rfl, fun _ => HH.out.1 (by omega), fun _ => HH.out.2.1 (by omega), fun _ => hh, by omega, by omega⟩
              | exact ⟨4, by omega, rfl, fun _ => HH.out.1 (by omega), fun _ => HH.out.2.1 (by omega), fun _ => HH.out.2.2.1 (by omega), fun _ => hh, by omega⟩
              | exact ⟨5, by omega, rfl, fun _ => HH.out.1 (by omega), fun _ => HH.out.2.1 (by omega), fun _ => HH.out.2.2.1 (by omega), fun _ => HH.out.2.2.2.1 (by omega), fun _ => hh⟩)
       | (go_ret
          refine ⟨?_, HB.out⟩
          first
            | (have hh := ‹(!inR _ 1 2000000) = true›
               rw [Bool.not_eq_true'] at hh
               rw [H.out.1 (by first | exact .inl hh | exact .inr (.inl hh) | exact .inr (.inr (.inl hh)) | exact .inr (.inr (.inr (.inl hh))) | exact .inr (.inr (.inr (.inr hh))))]
               rfl)
            | (rw [H.out.2 (HH.out.1 (by omega)) (HH.out.2.1 (by omega)) (HH.out.2.2.1 (by omega)) (HH.out.2.2.2.1 (by omega)) (HH.out.2.2.2.2 (by omega))]
               unfold unl
               first
                 | (rw [show decide (r0 ≤ r1) = false from decide_eq_false (by simp at hq; omega)]; rfl)
                 | (rw [show decide (r0 ≤ r1) = true from decide_eq_true (by simp at hq; omega)]; rfl)))
set_option maxRecDepth 100000 in
theorem c31 (r : Rul) (l : List Rec) (A : Option Addr) (n cap : Nat) (w : World) (hn : n = l.length) (hl : n ≤ 1000000) (hd : Small l) (hS : Sl Rec.cells 3 w A l) :
    Calls Try.prog 31 #[.agg r.cells, .slice A n cap] w fun e w' => e = .returned (.int .i64 (bothErr r l)) ∧ Below w.heap.size w w' := by
  subst hn
  have e61 := c61 r
  unfold bothErr
  by_cases hz : rulesErr r = 0
  · rw [if_neg (by simp [hz])]
    rw [hz] at e61
    obtain ⟨r0, r1, r2, r3, r4⟩ := r
    unfold Rul.cells at *
    dsimp only at *
    clear hz
    have H := Lib.hid (And.intro e61 hS)
    clear e61 hS
    go_enter Try.func31, Try.ntmps31
    go_wp2_with fail
    refine (H.out.1 _).mono ?_
    rintro e w1 ⟨rfl, hb1⟩
    have hB := below_step (bl_alloc (Below.refl _ w) _) hb1
    have HB := Lib.hid hB
    clear hB hb1
    go_wp2_with fail
    refine (c21 l A _ cap _ rfl hl hd (H.out.2.below HB.out)).mono ?_
    rintro e w2 ⟨rfl, hb2⟩
    go_wp2
    go_ret
    exact ⟨rfl, below_step HB.out hb2⟩
  · rw [if_pos hz]
    have hz1 : (rulesErr r != 0) = true := by simpa using hz
    generalize rulesErr r = er at *
    obtain ⟨r0, r1, r2, r3, r4⟩ := r
    unfold Rul.cells at *
    dsimp only at *
    have H := Lib.hid e61
    clear e61 hS hz
    go_enter Try.func31, Try.ntmps31
    go_wp2_with fail
    refine (H.out _).mono ?_
    rintro e w1 ⟨rfl, hb1⟩
    have hB := below_step (bl_alloc (Below.refl _ w) _) hb1
    have HB := Lib.hid hB
    clear hB hb1
    go_wp2
    go_ret
    exact ⟨rfl, HB.out⟩

/-- Few records, or a few more than too many, with short names. -/
def fewP (l : List Rec) : Bool := !((decide (12 < l.length) && decide (l.length < 40)) || decide (42 < l.length)) && l.all fun x => decide (x.driver.size ≤ 20)
theorem fewP_small {l : List Rec} (h : fewP l = true) : Small l ∧ l.length ≤ 42 ∧ (l.length ≤ 12 ∨ 40 ≤ l.length) := by
  unfold fewP at h
  simp only [Bool.and_eq_true, Bool.not_eq_true', Bool.or_eq_false_iff, Bool.and_eq_false_iff, decide_eq_false_iff_not, List.all_eq_true, decide_eq_true_eq] at h
  exact ⟨fun x hx => by have := h.2 x hx; omega, by omega, by omega⟩
set_option maxRecDepth 100000 in
set_option maxHeartbeats 4000000 in
theorem c18 (l : List Rec) (A : Option Addr) (n cap : Nat) (w : World) (hn : n = l.length) (hl : n ≤ 9223372036854775807) (hd : ∀ x ∈ l, x.driver.size ≤ 9223372036854775807) (hS : Sl Rec.cells 3 w A l) :
    Calls Try.prog 18 #[.slice A n cap] w fun e w' => e = .returned (.bool (fewP l)) ∧ w = w' := by
  subst hn
  have hbad : (12 < l.length ∧ l.length < 40) ∨ 42 < l.length → fewP l = false := fun h => by unfold fewP; rcases h with h | h <;> simp [h]
  have hgood : ¬ ((12 < l.length ∧ l.length < 40) ∨ 42 < l.length) → fewP l = l.all fun x => decide (x.driver.size ≤ 20) := fun h => by
    unfold fewP
    rw [show ((decide (12 < l.length) && decide (l.length < 40)) || decide (42 < l.length)) = false by simp; omega]
    rfl
  generalize fewP l = R at *
  by_cases h1 : 12 < l.length
  · by_cases h2 : l.length < 40
    · have e := hbad (by omega)
      subst e
      clear hbad hgood hS hd
      go_enter Try.func18, Try.ntmps18
      go_wp2
      go_ret
      exact ⟨rfl, rfl⟩
    · by_cases h3 : 42 < l.length
      · have e := hbad (by omega)
        subst e
        clear hbad hgood hS hd
        go_enter Try.func18, Try.ntmps18
        go_wp2
        go_ret
        exact ⟨rfl, rfl⟩
      · have e := hgood (by omega)
        clear hgood hbad
        go_enter Try.func18, Try.ntmps18
        go_wp2
        go_loopw [3] (fun i w1 => ∃ k : Nat, k ≤ l.length ∧ i = .int .i64 k ∧ (∀ j (h : j < l.length), j < k → l[j].driver.size ≤ 20) ∧ w = w1) (fun i _ => l.length - (intOf i).toNat)
        case atStart => exact ⟨0, Nat.zero_le _, rfl, fun _ _ h => absurd h (Nat.not_lt_zero _), rfl⟩
        case round =>
          obtain ⟨k, hk, rfl, hall, rfl⟩ := hrel
          by_cases hlt : k < l.length
          · obtain ⟨b, o, rfl, x0, x1, x2⟩ := hS.recAt hlt
            have hs := hd _ (List.getElem_mem hlt)
            clear x1 x2
            by_cases hlong : 20 < l[k].driver.size
            · have hf : (l.all fun x => decide (x.driver.size ≤ 20)) = false := by
                rw [List.all_eq_false]
                exact ⟨l[k], List.getElem_mem hlt, by simp; omega⟩
              rw [hf] at e
              subst e
              clear hall hS hd
              generalize l[k].driver = d at *
              go_wp2
              go_ret
              exact ⟨rfl, rfl⟩
            · have hall2 : ∀ j (h : j < l.length), j < k + 1 → l[j].driver.size ≤ 20 := fun j h hj => by
                by_cases hjk : j = k
                · subst hjk; omega
                · exact hall j h (by omega)
              have HA := Lib.hid hall2
              clear hall hS hd hall2 e
              generalize l[k].driver = d at *
              go_wp2
              go_roundw
              case rel => exact ⟨k + 1, by omega, by go_num, HA.out, by first | rfl | trivial⟩
              case measure => simp [intOf]; omega
          · have hf : (l.all fun x => decide (x.driver.size ≤ 20)) = true := by
              rw [List.all_eq_true]
              intro x hx
              obtain ⟨j, hj, rfl⟩ := List.getElem_of_mem hx
              have := hall j hj (by omega)
              simpa using this
            rw [hf] at e
            subst e
            clear hall hS hd
            go_wp2
            go_ret
            exact ⟨rfl, rfl⟩
  · have e := hgood (by omega)
    clear hgood hbad
    go_enter Try.func18, Try.ntmps18
    go_wp2
    go_loopw [3] (fun i w1 => ∃ k : Nat, k ≤ l.length ∧ i = .int .i64 k ∧ (∀ j (h : j < l.length), j < k → l[j].driver.size ≤ 20) ∧ w = w1) (fun i _ => l.length - (intOf i).toNat)
    case atStart => exact ⟨0, Nat.zero_le _, rfl, fun _ _ h => absurd h (Nat.not_lt_zero _), rfl⟩
    case round =>
      obtain ⟨k, hk, rfl, hall, rfl⟩ := hrel
      by_cases hlt : k < l.length
      · obtain ⟨b, o, rfl, x0, x1, x2⟩ := hS.recAt hlt
        have hs := hd _ (List.getElem_mem hlt)
        clear x1 x2
        by_cases hlong : 20 < l[k].driver.size
        · have hf : (l.all fun x => decide (x.driver.size ≤ 20)) = false := by
            rw [List.all_eq_false]
            exact ⟨l[k], List.getElem_mem hlt, by simp; omega⟩
          rw [hf] at e
          subst e
          clear hall hS hd
          generalize l[k].driver = d at *
          go_wp2
          go_ret
          exact ⟨rfl, rfl⟩
        · have hall2 : ∀ j (h : j < l.length), j < k + 1 → l[j].driver.size ≤ 20 := fun j h hj => by
            by_cases hjk : j = k
            · subst hjk; omega
            · exact hall j h (by omega)
          have HA := Lib.hid hall2
          clear hall hS hd hall2 e
          generalize l[k].driver = d at *
          go_wp2
          go_roundw
          case rel => exact ⟨k + 1, by omega, by go_num, HA.out, by first | rfl | trivial⟩
          case measure => simp [intOf]; omega
      · have hf : (l.all fun x => decide (x.driver.size ≤ 20)) = true := by
          rw [List.all_eq_true]
          intro x hx
          obtain ⟨j, hj, rfl⟩ := List.getElem_of_mem hx
          have := hall j hj (by omega)
          simpa using this
        rw [hf] at e
        subst e
        clear hall hS hd
        go_wp2
        go_ret
        exact ⟨rfl, rfl⟩

end Go.Proofs.Ytmfmpagfjgpodaa
