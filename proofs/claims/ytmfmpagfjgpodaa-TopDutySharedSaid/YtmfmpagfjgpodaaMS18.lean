/- Texts in one: The walk of DutyWorks; lists and texts that a machine can hold. -/
import Derived.Test.YtmfmpagfjgpodaaMS17
import Derived.Test.YtmfmpagfjgpodaaMS10
/-! WS: The walk of DutyWorks; lists and texts that a machine can hold. -/
namespace Go.Proofs.Ytmfmpagfjgpodaa
open Go.RowKit

/-- Operation number i copies records. -/
def toldCopy (i : Nat) (l : List Rec) : Nat × (Value → Prop) × (Value → World → Prop) :=
  (i, fun v => ∃ A c, v = .slice A l.length c, fun v w => ∀ A c, v = .slice A l.length c → Sl Rec.cells 3 w A l ∧ l.length ≤ c)
/-- Operation number i gives this value. -/
def toldVal (i : Nat) (u : Value) : Nat × (Value → Prop) × (Value → World → Prop) := (i, fun v => v = u, fun _ _ => True)
theorem toldCopy_ne (i : Nat) (l : List Rec) : ∃ v, (toldCopy i l).2.1 v := ⟨_, none, 0, rfl⟩
theorem toldVal_ne (i : Nat) (u : Value) : ∃ v, (toldVal i u).2.1 v := ⟨u, rfl⟩
theorem toldCopy_st (i : Nat) (l : List Rec) (v : Value) (w w' : World) (h : (toldCopy i l).2.2 v w) (hb : Below w.heap.size w w') : (toldCopy i l).2.2 v w' := fun A c e => ⟨(h A c e).1.below hb, (h A c e).2⟩
theorem toldVal_st (i : Nat) (u : Value) (v : Value) (w w' : World) (_ : (toldVal i u).2.2 v w) (_ : Below w.heap.size w w') : (toldVal i u).2.2 v w' := trivial
theorem told2_ne (i j : Nat) (l : List Rec) (u : Value) : ∀ p ∈ ([toldCopy i l, toldVal j u] : Told), ∃ v, p.2.1 v := fun p hp => by
  simp only [List.mem_cons, List.not_mem_nil, or_false] at hp
  rcases hp with rfl | rfl
  · exact toldCopy_ne i l
  · exact toldVal_ne j u
theorem told2_st (i j : Nat) (l : List Rec) (u : Value) : ∀ p ∈ ([toldCopy i l, toldVal j u] : Told), ∀ v w w', p.2.2 v w → Below w.heap.size w w' → p.2.2 v w' := fun p hp => by
  simp only [List.mem_cons, List.not_mem_nil, or_false] at hp
  rcases hp with rfl | rfl
  · exact toldCopy_st i l
  · exact toldVal_st j u
theorem workIn_add (l : List Rec) (hT : ∀ x ∈ l, x.lo ≤ x.hi) {a b c : Int} (h1 : a ≤ b) (h2 : b ≤ c) : workIn l a b + workIn l b c = workIn l a c := by
  unfold workIn
  induction l with
  | nil => rfl
  | cons x l ih =>
    simp only [List.map_cons, List.sum_cons]
    have := ih fun y hy => hT y (List.mem_cons_of_mem _ hy)
    have hx := hT x (List.mem_cons_self ..)
    have : wk a b x + wk b c x = wk a c x := by unfold wk; omega
    omega
theorem workErr_is (l : List Rec) (a b : Int) : workErr l a b = if (checkRecs true l).2 ≠ 0 then (checkRecs true l).2 else if isTime a = false ∨ isTime b = false then 2 else if b < a then 9 else 0 := by
  unfold workErr fst timeErr unl
  by_cases h : (checkRecs true l).2 = 0
  · cases ga : isTime a <;> cases gb : isTime b <;> by_cases hb : b < a <;> simp [fst, h, hb] <;> omega
  · simp [h]
theorem isTime_ref {n : Int} {b : Bool} (h : isTime n = b) (w : World) : Calls Try.prog 22 #[.int .i64 n] w fun e w' => e = .returned (.bool b) ∧ w = w' := h ▸ c22 n w
set_option maxRecDepth 100000 in
set_option maxHeartbeats 8000000 in
theorem c3 (l : List Rec) (A : Option Addr) (n cap : Nat) (a b c : Int) (w : World) (hn : n = l.length) (hl : n ≤ 9223372036854775807) (hd : ∀ x ∈ l, x.driver.size ≤ 9223372036854775807) (hS : Sl Rec.cells 3 w A l) :
    Calls Try.prog 3 #[.slice A n cap, .agg #[.int .i64 a, .int .i64 b, .int .i64 c]] w fun e w' => e = .returned (.bool true) ∧ Below w.heap.size w w' := by
  subst hn
  have e17 := fun w => c17 w
  have e18 := fun w' hb => c18 l A _ cap w' rfl hl hd (hS.below (w' := w') hb)
  have e20 := fun (hf : fewP l = true) w' hb => c20 l A _ cap w' rfl (by have := (fewP_small hf).2.1; omega) (hS.below (w' := w') hb)
  have e21 := fun (hf : fewP l = true) w' hb => c21 l A _ cap w' rfl (by have := (fewP_small hf).2.1; omega) (fewP_small hf).1 (hS.below (w' := w') hb)
  have e23 := fun (hf : fewP l = true) (hT : Timed l) f t h1 h2 w' hb => c23 l A _ cap f t w' rfl (by have := (fewP_small hf).2.1; omega) hT h1 h2 (hS.below (w' := w') hb)
  have e19 := fun (hf : fewP l = true) f t A c w' => c19 l f t A _ c w' rfl (by have := (fewP_small hf).2.1; omega) (fewP_small hf).1
  have H := Lib.hid (And.intro e17 (And.intro e18 (And.intro e20 (And.intro e21 (And.intro e23 e19)))))
  clear e17 e18 e20 e21 e23 e19 hS
  have D3 := Bk.new w 23 #[.int .i64 a, .int .i64 b, .int .i64 c]
  have B3 := bl_alloc (Below.refl w.heap.size w) (.cells #[.int .i64 a, .int .i64 b, .int .i64 c] 23)
  go_enter Try.func3, Try.ntmps3
  go_wp2_with fail
  refine (H.out.1 _).mono ?_
  rintro e w1 ⟨rfl, hb1⟩
  have D1 := D3.below hb1
  have B1 := below_step B3 hb1
  clear hb1 D3 B3
  go_wp2_with fail
  refine (H.out.2.1 _ B1).mono ?_
  rintro e w2 ⟨rfl, rfl⟩
  cases hf : fewP l
  · go_wp2
    go_ret
    exact ⟨rfl, B1⟩
  · have H2 := Lib.hid (And.intro (H.out.2.2.1 hf) (And.intro (H.out.2.2.2.1 hf) (And.intro (H.out.2.2.2.2.1 hf) (H.out.2.2.2.2.2 hf))))
    clear H
    go_wp2_with fail
    refine wp_region_told 11 [toldCopy 1 l, toldVal 6 (.tuple #[.int .i64 (workOut l a b).1, .int .i64 (workOut l a b).2])] (by kernel_rfl) (by kernel_rfl) (told2_ne _ _ _ _) (told2_st _ _ _ _) ?_
    intro K hK wb hb
    have b3 := (D1.below hb).later
    refine walk_quiet 1 (by kernel_rfl) ?_
    simp only [List.take_succ_cons, List.take_zero, List.drop_succ_cons, List.drop_zero]
    repeat (go_big_quiet_step (fail))
    refine wpQuiet_nil ?_
    refine walk_told (by kernel_rfl) (by kernel_rfl) ?_ ?_
    · intro w4 hb4 _
      simp [gives, givesUpon, go_sem]
      refine (H2.out.1 _ (below_step B1 (below_step hb hb4))).mono ?_
      rintro e w5 ⟨A2, c2, rfl, own, hb5⟩
      refine ⟨_, rfl, ⟨⟨A2, c2, rfl⟩, ?_⟩, hb5⟩
      rintro _ _ ⟨⟩
      exact ⟨own.sl rfl, own.cap⟩
    rintro _ ⟨A2, c2, rfl⟩
    simp only [Act.put, List.setIfInBounds_toArray, List.set_cons_succ, List.set_cons_zero]
    refine walk_quiet 4 (by kernel_rfl) ?_
    simp only [List.take_succ_cons, List.take_zero, List.drop_succ_cons, List.drop_zero]
    repeat (go_big_quiet_step (fail))
    refine wpQuiet_nil ?_
    refine walk_told (by kernel_rfl) (by kernel_rfl) ?_ ?_
    · intro w4 hb4 hu
      have S4 := (hu _ (List.mem_cons_self ..) (by kernel_rfl) A2 c2 rfl).1
      simp [gives, givesUpon, go_sem]
      refine (H2.out.2.2.2 _ _ _ _ _ S4).mono ?_
      rintro e w5 ⟨rfl, hb5⟩
      exact ⟨_, rfl, ⟨rfl, trivial⟩, hb5⟩
    rintro _ rfl
    simp only [Act.put, List.setIfInBounds_toArray, List.set_cons_succ, List.set_cons_zero]
    refine walk_quiet 4 (by kernel_rfl) ?_
    simp only [List.take_succ_cons, List.take_zero, List.drop_succ_cons, List.drop_zero]
    repeat (go_big_quiet_step (fail))
    refine wpQuiet_nil ?_
    refine walk_nil (hK _ _ ?_)
    intro w4 hb4 _
    have D4 := D1.below hb4
    have B4 := below_step B1 hb4
    clear b3 hb hb4 D1 B1
    go_wp2_with fail
    refine (H2.out.2.1 _ B4).mono ?_
    rintro e w5 ⟨rfl, hb5⟩
    have D5 := D4.below hb5
    have B5 := below_step B4 hb5
    have c5 := D5.cell
    clear hb5 D4 B4
    have hwe := workErr_is l a b
    generalize ga : isTime a = ta at *
    generalize gb : isTime b = tb at *
    by_cases her : (checkRecs true l).2 = 0
    · have hlt : True := trivial
      cases ta
      · have hw : workOut l a b = (0, 2) := by unfold workOut; rw [hwe]; simp [her]
        simp only [hw]
        clear hwe hw H2
        rw [her]
        go_wp2_with (first
          | (go_at_call 22; refine (isTime_ref ga _).mono ?_; rintro e w' ⟨rfl, rfl⟩)
          | (go_at_call 22; refine (isTime_ref gb _).mono ?_; rintro e w' ⟨rfl, rfl⟩)
          | fail)
        go_ret
        exact ⟨rfl, B5⟩
      · cases tb
        · have hw : workOut l a b = (0, 2) := by unfold workOut; rw [hwe]; simp [her]
          simp only [hw]
          clear hwe hw H2
          rw [her]
          go_wp2_with (first
            | (go_at_call 22; refine (isTime_ref ga _).mono ?_; rintro e w' ⟨rfl, rfl⟩)
            | (go_at_call 22; refine (isTime_ref gb _).mono ?_; rintro e w' ⟨rfl, rfl⟩)
            | fail)
          go_ret
          exact ⟨rfl, B5⟩
        · clear hlt
          by_cases hlt : b < a
          · have hlt' : decide (b < a) = true := by simpa using hlt
            have hw : workOut l a b = (0, 9) := by unfold workOut; rw [hwe]; simp [her, hlt]
            simp only [hw]
            clear hwe hw H2
            rw [her]
            go_wp2_with (first
              | (go_at_call 22; refine (isTime_ref ga _).mono ?_; rintro e w' ⟨rfl, rfl⟩)
              | (go_at_call 22; refine (isTime_ref gb _).mono ?_; rintro e w' ⟨rfl, rfl⟩)
              | fail)
            go_ret
            exact ⟨rfl, B5⟩
          · rw [her]
            have hw0 : workErr l a b = 0 := by rw [hwe]; simp [her, hlt]
            have hw : workOut l a b = (workIn l a b, 0) := by unfold workOut; rw [if_neg (by simp [hw0])]
            have hR : Right true l := her
            have ha := inR_iff.1 ga
            have hbb := inR_iff.1 gb
            have e23 := H2.out.2.2.1 hR.timed a b (by omega) (by omega)
            simp only [hw]
            have hlt' : decide (b < a) = false := by simpa using hlt
            go_wp2_with (first
              | (go_at_call 22; refine (isTime_ref ga _).mono ?_; rintro e w' ⟨rfl, rfl⟩)
              | (go_at_call 22; refine (isTime_ref gb _).mono ?_; rintro e w' ⟨rfl, rfl⟩)
              | (go_at_call 22; refine (isTime_ref gc _).mono ?_; rintro e w' ⟨rfl, rfl⟩))
            refine (e23 _ B5).mono ?_
            rintro e w6 ⟨rfl, hb6⟩
            have D6 := D5.below hb6
            have B6 := below_step B5 hb6
            have c6 := D6.cell
            clear hb6 D5 B5 c5 e23
            generalize gc : isTime c = tc at *
            cases tc
            · go_wp2_with (first
                | (go_at_call 22; refine (isTime_ref ga _).mono ?_; rintro e w' ⟨rfl, rfl⟩)
                | (go_at_call 22; refine (isTime_ref gb _).mono ?_; rintro e w' ⟨rfl, rfl⟩)
                | (go_at_call 22; refine (isTime_ref gc _).mono ?_; rintro e w' ⟨rfl, rfl⟩))
              go_ret
              exact ⟨rfl, B6⟩
            by_cases hcb : c < b
            · have hcb' : decide (c < b) = true := by simpa using hcb
              go_wp2_with (first
                | (go_at_call 22; refine (isTime_ref ga _).mono ?_; rintro e w' ⟨rfl, rfl⟩)
                | (go_at_call 22; refine (isTime_ref gb _).mono ?_; rintro e w' ⟨rfl, rfl⟩)
                | (go_at_call 22; refine (isTime_ref gc _).mono ?_; rintro e w' ⟨rfl, rfl⟩))
              go_ret
              exact ⟨rfl, B6⟩
            have hcb' : decide (c < b) = false := by simpa using hcb
            have hc := inR_iff.1 gc
            have hw2 : workOut l b c = (workIn l b c, 0) := by
              unfold workOut
              rw [if_neg]
              rw [workErr_is]
              simp [her, gb, gc, hcb]
            have hw3 : workOut l a c = (workIn l a c, 0) := by
              unfold workOut
              rw [if_neg]
              rw [workErr_is]
              simp [her, ga, gc, show ¬ c < a by omega]
            have hadd := workIn_add l (fun x hx => by obtain ⟨k, hk, rfl⟩ := List.getElem_of_mem hx; have := hR.time hk; omega) (show a ≤ b by omega) (show b ≤ c by omega)
            clear hwe hw hw0
            go_wp2_with (first
              | (go_at_call 22; refine (isTime_ref ga _).mono ?_; rintro e w' ⟨rfl, rfl⟩)
              | (go_at_call 22; refine (isTime_ref gb _).mono ?_; rintro e w' ⟨rfl, rfl⟩)
              | (go_at_call 22; refine (isTime_ref gc _).mono ?_; rintro e w' ⟨rfl, rfl⟩))
            refine wp_region_told 11 [toldCopy 1 l, toldVal 6 (.tuple #[.int .i64 (workOut l b c).1, .int .i64 (workOut l b c).2])] (by kernel_rfl) (by kernel_rfl) (told2_ne _ _ _ _) (told2_st _ _ _ _) ?_
            intro K7 hK7 wb hb
            have b3 := (D6.below hb).later
            refine walk_quiet 1 (by kernel_rfl) ?_
            simp only [List.take_succ_cons, List.take_zero, List.drop_succ_cons, List.drop_zero]
            repeat (go_big_quiet_step (fail))
            refine wpQuiet_nil ?_
            refine walk_told (by kernel_rfl) (by kernel_rfl) ?_ ?_
            · intro w4 hb4 _
              simp [gives, givesUpon, go_sem]
              refine (H2.out.1 _ (below_step B6 (below_step hb hb4))).mono ?_
              rintro e w5 ⟨A2, c2, rfl, own, hb5⟩
              refine ⟨_, rfl, ⟨⟨A2, c2, rfl⟩, ?_⟩, hb5⟩
              rintro _ _ ⟨⟩
              exact ⟨own.sl rfl, own.cap⟩
            rintro _ ⟨A7, c7, rfl⟩
            simp only [Act.put, List.setIfInBounds_toArray, List.set_cons_succ, List.set_cons_zero]
            refine walk_quiet 4 (by kernel_rfl) ?_
            simp only [List.take_succ_cons, List.take_zero, List.drop_succ_cons, List.drop_zero]
            repeat (go_big_quiet_step (fail))
            refine wpQuiet_nil ?_
            refine walk_told (by kernel_rfl) (by kernel_rfl) ?_ ?_
            · intro w4 hb4 hu
              have S4 := (hu _ (List.mem_cons_self ..) (by kernel_rfl) A7 c7 rfl).1
              simp [gives, givesUpon, go_sem]
              refine (H2.out.2.2.2 _ _ _ _ _ S4).mono ?_
              rintro e w5 ⟨rfl, hb5⟩
              exact ⟨_, rfl, ⟨rfl, trivial⟩, hb5⟩
            rintro _ rfl
            simp only [Act.put, List.setIfInBounds_toArray, List.set_cons_succ, List.set_cons_zero]
            refine walk_quiet 4 (by kernel_rfl) ?_
            simp only [List.take_succ_cons, List.take_zero, List.drop_succ_cons, List.drop_zero]
            repeat (go_big_quiet_step (fail))
            refine wpQuiet_nil ?_
            refine walk_nil (hK7 _ _ ?_)
            intro w79 hb4 hF7
            clear hF7
            have D7 := D6.below hb4
            have B7 := below_step B6 hb4
            clear b3 hb hb4 D6 B6
            simp only [hw2]
            go_wp2_with fail
            refine wp_region_told 11 [toldCopy 1 l, toldVal 6 (.tuple #[.int .i64 (workOut l a c).1, .int .i64 (workOut l a c).2])] (by kernel_rfl) (by kernel_rfl) (told2_ne _ _ _ _) (told2_st _ _ _ _) ?_
            intro K8 hK8 wb hb
            have b3 := (D7.below hb).later
            refine walk_quiet 1 (by kernel_rfl) ?_
            simp only [List.take_succ_cons, List.take_zero, List.drop_succ_cons, List.drop_zero]
            repeat (go_big_quiet_step (fail))
            refine wpQuiet_nil ?_
            refine walk_told (by kernel_rfl) (by kernel_rfl) ?_ ?_
            · intro w4 hb4 _
              simp [gives, givesUpon, go_sem]
              refine (H2.out.1 _ (below_step B7 (below_step hb hb4))).mono ?_
              rintro e w5 ⟨A2, c2, rfl, own, hb5⟩
              refine ⟨_, rfl, ⟨⟨A2, c2, rfl⟩, ?_⟩, hb5⟩
              rintro _ _ ⟨⟩
              exact ⟨own.sl rfl, own.cap⟩
            rintro _ ⟨A8, c8, rfl⟩
            simp only [Act.put, List.setIfInBounds_toArray, List.set_cons_succ, List.set_cons_zero]
            refine walk_quiet 4 (by kernel_rfl) ?_
            simp only [List.take_succ_cons, List.take_zero, List.drop_succ_cons, List.drop_zero]
            repeat (go_big_quiet_step (fail))
            refine wpQuiet_nil ?_
            refine walk_told (by kernel_rfl) (by kernel_rfl) ?_ ?_
            · intro w4 hb4 hu
              have S4 := (hu _ (List.mem_cons_self ..) (by kernel_rfl) A8 c8 rfl).1
              simp [gives, givesUpon, go_sem]
              refine (H2.out.2.2.2 _ _ _ _ _ S4).mono ?_
              rintro e w5 ⟨rfl, hb5⟩
              exact ⟨_, rfl, ⟨rfl, trivial⟩, hb5⟩
            rintro _ rfl
            simp only [Act.put, List.setIfInBounds_toArray, List.set_cons_succ, List.set_cons_zero]
            refine walk_quiet 4 (by kernel_rfl) ?_
            simp only [List.take_succ_cons, List.take_zero, List.drop_succ_cons, List.drop_zero]
            repeat (go_big_quiet_step (fail))
            refine wpQuiet_nil ?_
            refine walk_nil (hK8 _ _ ?_)
            intro w89 hb4 hF8
            clear hF8
            have D8 := D7.below hb4
            have B8 := below_step B7 hb4
            clear b3 hb hb4 D7 B7
            have hbd := workIn_bound hR.timed a c l.length (Nat.le_refl _)
            rw [List.take_length] at hbd
            have hlen := hR.len
            have hbd2 : 0 ≤ workIn l a c ∧ workIn l a c ≤ 10000000000000 := by omega
            clear hbd
            simp only [hw3]
            clear hw2 hw3
            go_wp2_with fail
            go_ret
            exact ⟨rfl, B8⟩
    · have hlt : True := trivial
      have her' : ((checkRecs true l).2 == 0) = false := by simpa using her
      have hw : workOut l a b = (0, (checkRecs true l).2) := by unfold workOut; rw [hwe]; simp [her]
      simp only [hw]
      clear hwe hw H2
      generalize (checkRecs true l).2 = er at *
      go_wp2
      go_ret
      exact ⟨rfl, B5⟩

end Go.Proofs.Ytmfmpagfjgpodaa
