/- Texts in one: Walks on plain values: which nets the reference calls right; nets of at most 1000 places and roads. -/
import Derived.Test.YtcndlalhkkjocaaFYStreetExamined15
/-! SYC2: Walks on plain values: which nets the reference calls right; nets of at most 1000 places and roads. -/
namespace Go.Proofs.Ytcndlalhkkjocaa
open Go.RowKit
set_option maxRecDepth 100000
set_option maxHeartbeats 1000000
theorem anyP_take (l : List ByteArray) (s : ByteArray) {k : Nat} (hk : k ≤ l.length) : anyP (isT (l.take k) s) 0 (l.take k).length = anyP (isT l s) 0 k := by
  have hl : (l.take k).length = k := by rw [List.length_take]; omega
  have e : ∀ j, j < k → isT (l.take k) s j = isT l s j := fun j hj => by
    rw [isT, isT, tat_get (l := l.take k) (by omega), tat_get (l := l) (by omega), List.getElem_take]
  rw [hl]
  cases ha : anyP (isT l s) 0 k
  · refine anyP_out fun j hj => ?_
    rw [e j hj]
    cases hb : isT l s j
    · rfl
    · rw [anyP_hit hj hb] at ha
      cases ha
  · refine Classical.byContradiction fun hn => ?_
    rw [anyP_out fun j hj => ?_] at ha
    · cases ha
    · cases hb : isT l s j
      · rfl
      · rw [← e j hj] at hb
        exact absurd (anyP_hit hj hb) hn
theorem r_CheckNet (n : Nt) (h : SmallN n) : VC Try.prog 18 [netA n] (.tup [.agg [I ((netE n).1.1 : Nat), I ((netE n).1.2 : Nat)], I (netE n).2]) := by
  have hp1 := h.p
  have hr1 := h.r
  obtain ⟨E, hE⟩ : ∃ E, netE n = E := ⟨_, rfl⟩
  rw [hE]
  unfold netE at hE
  have HE := Lib.hid hE
  have HH := Lib.hid h
  clear h hE
  refine VC_of Try.func18 rfl (by kernel_rfl) (by kernel_rfl) rfl fun M0 w0 => ?_
  simp only [Try.ntmps18, Try.results18, enumA]
  by_cases h0 : n.places = []
  · have e := HE.out
    simp [h0] at e
    subst e
    repeat' (first | (with_reducible first | refine vseq ?_ | refine vthenN ?_ | refine vthenE ?_ | refine vthenR ?_ | refine vret ?_ | refine vskip ?_ | refine vexit ?_ | refine vblock ?_ | refine vblockN ?_ | refine vblockR ?_ | refine vblockH ?_ | refine vrun_nil ?_ | refine vblockE rfl ?_ | refine vregion [] ?_ | refine vhrun_nil ?_) | ((with_reducible refine vcondT ?_ ?_); (focus (go_simp; done))) | ((with_reducible refine vcondF ?_ ?_); (focus (go_simp; done))) | ((with_reducible first | refine vrun_cons fun KK hKK => ?_ | refine vhrun_cons fun KK hKK => ?_); go_simp; refine hKK _ ?_; clear hKK KK) | ((refine vdrawL 10 10 [] rfl (by kernel_rfl) (by kernel_rfl) ?_); simp only [List.append, List.take, List.drop]) | ((with_reducible refine vcondS ?_ (fun ht => ?_) (fun ht => ?_)); (focus (go_simp; done)); (all_goals (simp [go_sem] at ht; replace ht := ht.out))))
    go_simp
  have h0l : ¬ n.places.length = 0 := fun hc => h0 (List.eq_nil_of_length_eq_zero hc)
  have h0i : ¬ (n.places.length : Int) = 0 := by omega
  by_cases h20 : 20 < n.places.length
  · have h20i : (20 : Int) < (n.places.length : Int) := by omega
    have e := HE.out
    simp [h0, h20] at e
    subst e
    repeat' (first | (with_reducible first | refine vseq ?_ | refine vthenN ?_ | refine vthenE ?_ | refine vthenR ?_ | refine vret ?_ | refine vskip ?_ | refine vexit ?_ | refine vblock ?_ | refine vblockN ?_ | refine vblockR ?_ | refine vblockH ?_ | refine vrun_nil ?_ | refine vblockE rfl ?_ | refine vregion [] ?_ | refine vhrun_nil ?_) | ((with_reducible refine vcondT ?_ ?_); (focus (go_simp; done))) | ((with_reducible refine vcondF ?_ ?_); (focus (go_simp; done))) | ((with_reducible first | refine vrun_cons fun KK hKK => ?_ | refine vhrun_cons fun KK hKK => ?_); go_simp; refine hKK _ ?_; clear hKK KK) | ((refine vdrawL 10 10 [] rfl (by kernel_rfl) (by kernel_rfl) ?_); simp only [List.append, List.take, List.drop]) | ((with_reducible refine vcondS ?_ (fun ht => ?_) (fun ht => ?_)); (focus (go_simp; done)); (all_goals (simp [go_sem] at ht; replace ht := ht.out))))
    go_simp
  have h20i : ¬ (20 : Int) < (n.places.length : Int) := by omega
  have e := HE.out
  simp [h0, h20] at e
  have HE := Lib.hid e
  clear e
  obtain ⟨X, hX⟩ : ∃ X, firstErr (plE n.places) 0 n.places.length = X := ⟨_, rfl⟩
  obtain ⟨Y, hY⟩ : ∃ Y, firstErr (fun i => (rdE n i).2) 0 n.roads.length = Y := ⟨_, rfl⟩
  rw [hX, hY] at HE
  have HX := Lib.hid hX
  have HY := Lib.hid hY
  clear hX hY
  repeat' (first | (with_reducible first | refine vseq ?_ | refine vthenN ?_ | refine vthenE ?_ | refine vthenR ?_ | refine vret ?_ | refine vskip ?_ | refine vexit ?_ | refine vblock ?_ | refine vblockN ?_ | refine vblockR ?_ | refine vblockH ?_ | refine vrun_nil ?_ | refine vblockE rfl ?_ | refine vregion [] ?_ | refine vhrun_nil ?_) | ((with_reducible refine vcondT ?_ ?_); (focus (go_simp; done))) | ((with_reducible refine vcondF ?_ ?_); (focus (go_simp; done))) | ((with_reducible first | refine vrun_cons fun KK hKK => ?_ | refine vhrun_cons fun KK hKK => ?_); go_simp; refine hKK _ ?_; clear hKK KK) | ((refine vdrawL 10 10 [] rfl (by kernel_rfl) (by kernel_rfl) ?_); simp only [List.append, List.take, List.drop]) | ((with_reducible refine vcondS ?_ (fun ht => ?_) (fun ht => ?_)); (focus (go_simp; done)); (all_goals (simp [go_sem] at ht; replace ht := ht.out))))
  apply vfor [1, 2, 4] (fun k => [(5, I (k : Int))]) (fun k => ([some (.box [I 0, I 0]), some (.box [I 0, I 0])] : Hp)) (bad (plE n.places)) (n.places.length)
  · go_simp <;> exact rfl
  · go_simp
  · intro k hk hb hp K hK
    obtain ⟨v1, v2, v3, v4, v5, v6⟩ := ixs (m := k) (by omega)
    have hz := bad_no hp.out
    have g1 := b_isName (tat n.places k) (by have := HH.out.pn k hk; omega)
    have g2 := b_HasText (n.places.take k) (tat n.places k) (by rw [List.length_take]; omega)
    have hkl : k ≤ n.places.length := by omega
    rw [anyP_take _ _ hkl, List.map_take] at g2
    unfold plE at hz
    generalize isName (tat n.places k) = b1 at *
    generalize anyP (isT n.places (tat n.places k)) 0 k = b2 at *
    cases b1 <;> cases b2 <;> simp at hz
    have HZ := Lib.hid hz
    clear hz
    repeat' (first | (with_reducible first | refine vseq ?_ | refine vthenN ?_ | refine vthenE ?_ | refine vthenR ?_ | refine vret ?_ | refine vskip ?_ | refine vexit ?_ | refine vblock ?_ | refine vblockN ?_ | refine vblockR ?_ | refine vblockH ?_ | refine vrun_nil ?_ | refine vblockE rfl ?_ | refine vregion [] ?_ | refine vhrun_nil ?_) | ((with_reducible refine vcondT ?_ ?_); (focus (go_simp; done))) | ((with_reducible refine vcondF ?_ ?_); (focus (go_simp; done))) | ((with_reducible first | refine vrun_cons fun KK hKK => ?_ | refine vhrun_cons fun KK hKK => ?_); go_simp; (first | (with_reducible refine ⟨_, g1, ?_⟩) | (with_reducible refine ⟨_, g2, ?_⟩) | skip); refine hKK _ ?_; clear hKK KK) | ((refine vdrawL 10 10 [] rfl (by kernel_rfl) (by kernel_rfl) ?_); simp only [List.take, List.drop]) | ((with_reducible refine vcondS ?_ (fun ht => ?_) (fun ht => ?_)); (focus (go_simp; done)); (all_goals (simp [go_sem] at ht; replace ht := ht.out))))
    refine hK _ ?_
    go_simp
  · intro k hk hb hp K
    obtain ⟨v1, v2, v3, v4, v5, v6⟩ := ixs (m := k) (by omega)
    have hx := HX.out
    rw [firstErr_hit hk hb.out hp.out] at hx
    have e := HE.out
    have hz := bad_yes hp.out
    subst hx
    simp [hz] at e
    have g1 := b_isName (tat n.places k) (by have := HH.out.pn k hk; omega)
    have g2 := b_HasText (n.places.take k) (tat n.places k) (by rw [List.length_take]; omega)
    have hkl : k ≤ n.places.length := by omega
    rw [anyP_take _ _ hkl, List.map_take] at g2
    unfold plE at hz e
    generalize isName (tat n.places k) = b1 at *
    generalize anyP (isT n.places (tat n.places k)) 0 k = b2 at *
    cases b1
    · simp at e
      subst e
      clear hz
      repeat' (first | (with_reducible first | refine vseq ?_ | refine vthenN ?_ | refine vthenE ?_ | refine vthenR ?_ | refine vret ?_ | refine vskip ?_ | refine vexit ?_ | refine vblock ?_ | refine vblockN ?_ | refine vblockR ?_ | refine vblockH ?_ | refine vrun_nil ?_ | refine vblockE rfl ?_ | refine vregion [] ?_ | refine vhrun_nil ?_) | ((with_reducible refine vcondT ?_ ?_); (focus (go_simp; done))) | ((with_reducible refine vcondF ?_ ?_); (focus (go_simp; done))) | ((with_reducible first | refine vrun_cons fun KK hKK => ?_ | refine vhrun_cons fun KK hKK => ?_); go_simp; (first | (with_reducible refine ⟨_, g1, ?_⟩) | (with_reducible refine ⟨_, g2, ?_⟩) | skip); refine hKK _ ?_; clear hKK KK) | ((refine vdrawL 10 10 [] rfl (by kernel_rfl) (by kernel_rfl) ?_); simp only [List.append, List.take, List.drop]) | ((with_reducible refine vcondS ?_ (fun ht => ?_) (fun ht => ?_)); (focus (go_simp; done)); (all_goals (simp [go_sem] at ht; replace ht := ht.out))))
      go_simp
    · cases b2
      · exact absurd rfl hz
      · simp at e
        subst e
        clear hz
        repeat' (first | (with_reducible first | refine vseq ?_ | refine vthenN ?_ | refine vthenE ?_ | refine vthenR ?_ | refine vret ?_ | refine vskip ?_ | refine vexit ?_ | refine vblock ?_ | refine vblockN ?_ | refine vblockR ?_ | refine vblockH ?_ | refine vrun_nil ?_ | refine vblockE rfl ?_ | refine vregion [] ?_ | refine vhrun_nil ?_) | ((with_reducible refine vcondT ?_ ?_); (focus (go_simp; done))) | ((with_reducible refine vcondF ?_ ?_); (focus (go_simp; done))) | ((with_reducible first | refine vrun_cons fun KK hKK => ?_ | refine vhrun_cons fun KK hKK => ?_); go_simp; (first | (with_reducible refine ⟨_, g1, ?_⟩) | (with_reducible refine ⟨_, g2, ?_⟩) | skip); refine hKK _ ?_; clear hKK KK) | ((refine vdrawL 10 10 [] rfl (by kernel_rfl) (by kernel_rfl) ?_); simp only [List.take, List.drop]) | ((with_reducible refine vcondS ?_ (fun ht => ?_) (fun ht => ?_)); (focus (go_simp; done)); (all_goals (simp [go_sem] at ht; replace ht := ht.out))))
        go_simp
  intro hb K
  have hx := HX.out
  rw [firstErr_out hb.out] at hx
  clear hb HX
  subst hx
  have e := HE.out
  simp at e
  have HE := Lib.hid e
  clear e
  by_cases h60 : 60 < n.roads.length
  · have h60i : (60 : Int) < (n.roads.length : Int) := by omega
    have e := HE.out
    simp [h60] at e
    subst e
    repeat' (first | (with_reducible first | refine vseq ?_ | refine vthenN ?_ | refine vthenE ?_ | refine vthenR ?_ | refine vret ?_ | refine vskip ?_ | refine vexit ?_ | refine vblock ?_ | refine vblockN ?_ | refine vblockR ?_ | refine vblockH ?_ | refine vrun_nil ?_ | refine vblockE rfl ?_ | refine vregion [] ?_ | refine vhrun_nil ?_) | ((with_reducible refine vcondT ?_ ?_); (focus (go_simp; done))) | ((with_reducible refine vcondF ?_ ?_); (focus (go_simp; done))) | ((with_reducible first | refine vrun_cons fun KK hKK => ?_ | refine vhrun_cons fun KK hKK => ?_); go_simp; refine hKK _ ?_; clear hKK KK) | ((refine vdrawL 10 10 [] rfl (by kernel_rfl) (by kernel_rfl) ?_); simp only [List.append, List.take, List.drop]) | ((with_reducible refine vcondS ?_ (fun ht => ?_) (fun ht => ?_)); (focus (go_simp; done)); (all_goals (simp [go_sem] at ht; replace ht := ht.out))))
    go_simp
  have h60i : ¬ (60 : Int) < (n.roads.length : Int) := by omega
  have e := HE.out
  simp [h60] at e
  have HE := Lib.hid e
  clear e
  repeat' (first | (with_reducible first | refine vseq ?_ | refine vthenN ?_ | refine vthenE ?_ | refine vthenR ?_ | refine vret ?_ | refine vskip ?_ | refine vexit ?_ | refine vblock ?_ | refine vblockN ?_ | refine vblockR ?_ | refine vblockH ?_ | refine vrun_nil ?_ | refine vblockE rfl ?_ | refine vregion [] ?_ | refine vhrun_nil ?_) | ((with_reducible refine vcondT ?_ ?_); (focus (go_simp; done))) | ((with_reducible refine vcondF ?_ ?_); (focus (go_simp; done))) | ((with_reducible first | refine vrun_cons fun KK hKK => ?_ | refine vhrun_cons fun KK hKK => ?_); go_simp; refine hKK _ ?_; clear hKK KK) | ((refine vdrawL 10 10 [] rfl (by kernel_rfl) (by kernel_rfl) ?_); simp only [List.append, List.take, List.drop]) | ((with_reducible refine vcondS ?_ (fun ht => ?_) (fun ht => ?_)); (focus (go_simp; done)); (all_goals (simp [go_sem] at ht; replace ht := ht.out))))
  apply vfor [1, 2, 4] (fun k => [(6, I (k : Int))]) (fun k => ([some (.box [I 0, I 0]), some (.box [I 0, I 0])] : Hp)) (bad (fun i => (rdE n i).2)) (n.roads.length)
  · go_simp <;> exact rfl
  · go_simp
  · intro k hk hb hp K hK
    obtain ⟨v1, v2, v3, v4, v5, v6⟩ := ixs (m := k) (by omega)
    have hz : (rdE n k).2 = 0 := bad_no hp.out
    have g1 := r_roadErr n k HH.out hk
    rw [hz] at g1
    generalize (rdE n k).1 = a at *
    clear hz
    repeat' (first | (with_reducible first | refine vseq ?_ | refine vthenN ?_ | refine vthenE ?_ | refine vthenR ?_ | refine vret ?_ | refine vskip ?_ | refine vexit ?_ | refine vblock ?_ | refine vblockN ?_ | refine vblockR ?_ | refine vblockH ?_ | refine vrun_nil ?_ | refine vblockE rfl ?_ | refine vregion [] ?_ | refine vhrun_nil ?_) | ((with_reducible refine vcondT ?_ ?_); (focus (go_simp; done))) | ((with_reducible refine vcondF ?_ ?_); (focus (go_simp; done))) | ((with_reducible first | refine vrun_cons fun KK hKK => ?_ | refine vhrun_cons fun KK hKK => ?_); go_simp; (first | (with_reducible refine ⟨_, g1, ?_⟩) | skip); refine hKK _ ?_; clear hKK KK) | ((refine vdrawL 10 10 [] rfl (by kernel_rfl) (by kernel_rfl) ?_); simp only [List.append, List.take, List.drop]) | ((with_reducible refine vcondS ?_ (fun ht => ?_) (fun ht => ?_)); (focus (go_simp; done)); (all_goals (simp [go_sem] at ht; replace ht := ht.out))))
    refine hK _ ?_
    go_simp
  · intro k hk hb hp K
    obtain ⟨v1, v2, v3, v4, v5, v6⟩ := ixs (m := k) (by omega)
    have hx := HY.out
    rw [firstErr_hit hk hb.out hp.out] at hx
    have e := HE.out
    have hz : ¬ (rdE n k).2 = 0 := bad_yes hp.out
    subst hx
    simp [hz] at e
    have g1 := r_roadErr n k HH.out hk
    subst e
    generalize (rdE n k).1 = a at *
    generalize (rdE n k).2 = b at *
    repeat' (first | (with_reducible first | refine vseq ?_ | refine vthenN ?_ | refine vthenE ?_ | refine vthenR ?_ | refine vret ?_ | refine vskip ?_ | refine vexit ?_ | refine vblock ?_ | refine vblockN ?_ | refine vblockR ?_ | refine vblockH ?_ | refine vrun_nil ?_ | refine vblockE rfl ?_ | refine vregion [] ?_ | refine vhrun_nil ?_) | ((with_reducible refine vcondT ?_ ?_); (focus (go_simp; done))) | ((with_reducible refine vcondF ?_ ?_); (focus (go_simp; done))) | ((with_reducible first | refine vrun_cons fun KK hKK => ?_ | refine vhrun_cons fun KK hKK => ?_); go_simp; (first | (with_reducible refine ⟨_, g1, ?_⟩) | skip); refine hKK _ ?_; clear hKK KK) | ((refine vdrawL 10 10 [] rfl (by kernel_rfl) (by kernel_rfl) ?_); simp only [List.append, List.take, List.drop]) | ((with_reducible refine vcondS ?_ (fun ht => ?_) (fun ht => ?_)); (focus (go_simp; done)); (all_goals (simp [go_sem] at ht; replace ht := ht.out))))
    go_simp
  intro hb K
  have hx := HY.out
  rw [firstErr_out hb.out] at hx
  subst hx
  have e := HE.out
  simp at e
  subst e
  repeat' (first | (with_reducible first | refine vseq ?_ | refine vthenN ?_ | refine vthenE ?_ | refine vthenR ?_ | refine vret ?_ | refine vskip ?_ | refine vexit ?_ | refine vblock ?_ | refine vblockN ?_ | refine vblockR ?_ | refine vblockH ?_ | refine vrun_nil ?_ | refine vblockE rfl ?_ | refine vregion [] ?_ | refine vhrun_nil ?_) | ((with_reducible refine vcondT ?_ ?_); (focus (go_simp; done))) | ((with_reducible refine vcondF ?_ ?_); (focus (go_simp; done))) | ((with_reducible first | refine vrun_cons fun KK hKK => ?_ | refine vhrun_cons fun KK hKK => ?_); go_simp; refine hKK _ ?_; clear hKK KK) | ((refine vdrawL 10 10 [] rfl (by kernel_rfl) (by kernel_rfl) ?_); simp only [List.append, List.take, List.drop]) | ((with_reducible refine vcondS ?_ (fun ht => ?_) (fun ht => ?_)); (focus (go_simp; done)); (all_goals (simp [go_sem] at ht; replace ht := ht.out))))
  go_simp
theorem r_NetErr (n : Nt) (h : SmallN n) : VC Try.prog 7 [netA n] (I (netE n).2) := by
  have g := r_CheckNet n h
  clear h
  generalize netE n = E at *
  refine VC_of Try.func7 rfl (by kernel_rfl) (by kernel_rfl) rfl fun M0 w0 => ?_
  simp only [Try.ntmps7, Try.results7, enumA]
  repeat' (first | (with_reducible first | refine vseq ?_ | refine vthenN ?_ | refine vthenE ?_ | refine vthenR ?_ | refine vret ?_ | refine vskip ?_ | refine vexit ?_ | refine vblock ?_ | refine vblockN ?_ | refine vblockR ?_ | refine vblockH ?_ | refine vrun_nil ?_ | refine vblockE rfl ?_ | refine vregion [] ?_ | refine vhrun_nil ?_) | ((with_reducible refine vcondT ?_ ?_); (focus (go_simp; done))) | ((with_reducible refine vcondF ?_ ?_); (focus (go_simp; done))) | ((with_reducible first | refine vrun_cons fun KK hKK => ?_ | refine vhrun_cons fun KK hKK => ?_); go_simp; (first | (with_reducible refine ⟨_, g, ?_⟩) | skip); refine hKK _ ?_; clear hKK KK) | ((with_reducible refine vcondS ?_ (fun ht => ?_) (fun ht => ?_)); (focus (go_simp; done)); (all_goals (simp [go_sem] at ht; replace ht := ht.out))))
  go_simp
/-- Whether a net is small enough to be looked at. -/
def fewP (n : Nt) (k : Nat) : Bool := decide (20 < (tat n.places k).size)
def fewR (n : Nt) (k : Nat) : Bool := decide (20 < (rdat n.roads k).name.size) || decide (10 < (rdat n.roads k).pts.length)
def fewH (n : Nt) : Bool := (decide (7 < n.places.length) && decide (n.places.length ≤ 20)) || decide (22 < n.places.length) || (decide (14 < n.roads.length) && decide (n.roads.length ≤ 60)) || decide (62 < n.roads.length)
def fewN (n : Nt) : Bool := !fewH n && !anyP (fewP n) 0 n.places.length && !anyP (fewR n) 0 n.roads.length
theorem fewN_small {n : Nt} (h : fewN n = true) : SmallN n := by
  unfold fewN at h
  rw [Bool.and_eq_true, Bool.and_eq_true, Bool.not_eq_true', Bool.not_eq_true', Bool.not_eq_true'] at h
  obtain ⟨⟨h1, h2⟩, h3⟩ := h
  have a2 : ∀ j, j < n.places.length → fewP n j = false := fun j hj => by
    cases hc : fewP n j
    · rfl
    · rw [anyP_hit hj hc] at h2
      cases h2
  have a3 : ∀ j, j < n.roads.length → fewR n j = false := fun j hj => by
    cases hc : fewR n j
    · rfl
    · rw [anyP_hit hj hc] at h3
      cases h3
  unfold fewH at h1
  simp only [Bool.or_eq_false_iff, decide_eq_false_iff_not] at h1
  refine ⟨by omega, by omega, fun k hk => ?_, fun k hk => ?_, fun k hk => ?_⟩
  · have := a2 k hk
    simp [fewP] at this
    omega
  · have := a3 k hk
    simp [fewR] at this
    omega
  · have := a3 k hk
    simp [fewR] at this
    omega
theorem y_Few (n : Nt) (hp : n.places.length ≤ 9223372036854775807) (hr : n.roads.length ≤ 9223372036854775807) : VC Try.prog 6 [netA n] (B (fewN n)) := by
  obtain ⟨R, hR⟩ : ∃ R, fewN n = R := ⟨_, rfl⟩
  rw [hR]
  unfold fewN at hR
  have HR := Lib.hid hR
  clear hR
  have hb : ((decide (7 < (n.places.length : Int)) && decide ((n.places.length : Int) ≤ 20)) || decide (22 < (n.places.length : Int)) || (decide (14 < (n.roads.length : Int)) && decide ((n.roads.length : Int) ≤ 60)) || decide (62 < (n.roads.length : Int))) = fewH n := by
    rw [Bool.eq_iff_iff]
    unfold fewH
    simp only [Bool.or_eq_true, Bool.and_eq_true, decide_eq_true_eq]
    omega
  refine VC_of Try.func6 rfl (by kernel_rfl) (by kernel_rfl) rfl fun M0 w0 => ?_
  simp only [Try.ntmps6, Try.results6, enumA]
  cases hH : fewH n
  · rw [hH] at hb
    have hp2 : n.places.length ≤ 1000 := by
      unfold fewH at hH
      simp only [Bool.or_eq_false_iff, Bool.and_eq_false_iff, decide_eq_false_iff_not] at hH
      omega
    have hr2 : n.roads.length ≤ 1000 := by
      unfold fewH at hH
      simp only [Bool.or_eq_false_iff, Bool.and_eq_false_iff, decide_eq_false_iff_not] at hH
      omega
    have e := HR.out
    rw [hH] at e
    clear hH hp hr
    have HR := Lib.hid e
    have HB := Lib.hid hb
    clear e hb
    repeat' (first | (with_reducible first | refine vseq ?_ | refine vthenN ?_ | refine vthenE ?_ | refine vthenR ?_ | refine vret ?_ | refine vskip ?_ | refine vexit ?_ | refine vblock ?_ | refine vblockN ?_ | refine vblockR ?_ | refine vblockH ?_ | refine vrun_nil ?_ | refine vblockE rfl ?_ | refine vregion [] ?_ | refine vhrun_nil ?_) | ((with_reducible refine vcondT ?_ ?_); (focus (go_simp; done))) | ((with_reducible refine vcondF ?_ ?_); (focus (go_simp; done))) | ((with_reducible first | refine vrun_cons fun KK hKK => ?_ | refine vhrun_cons fun KK hKK => ?_); go_simp; refine hKK _ ?_; clear hKK KK) | ((with_reducible refine vcondS ?_ (fun ht => ?_) (fun ht => ?_)); (focus (go_simp; done)); (all_goals (simp [go_sem] at ht; replace ht := ht.out))) | ((apply vrun_consG0 rfl); (focus (go_simp <;> exact rfl)); (focus (go_simp; done)); (focus (intro hb0; replace hb0 := hb0.out; go_simp <;> (first | exact rfl))); intro KK hKK; go_simp; refine hKK _ ?_; clear hKK KK) | ((apply vrun_consG1 rfl); (focus (go_simp <;> exact rfl)); (focus (go_simp; done)); (focus (intro hb0 hb1; replace hb0 := hb0.out; replace hb1 := hb1.out; go_simp <;> (first | exact rfl))); intro KK hKK; go_simp; refine hKK _ ?_; clear hKK KK))
    · rw [HB.out] at ht
      cases ht
    clear ht HB
    apply vfor [1] (fun k => [(3, I (k : Int))]) (fun k => ([] : Hp)) (fewP n) (n.places.length)
    · go_simp <;> exact rfl
    · go_simp
    · intro k hk hb hp K hK
      obtain ⟨v1, v2, v3, v4, v5, v6⟩ := ixs (m := k) (by omega)
      have h' : ¬ (20 : Int) < ((tat n.places k).size : Int) := by
        have := hp.out
        simp [fewP] at this
        omega
      repeat' (first | (with_reducible first | refine vseq ?_ | refine vthenN ?_ | refine vthenE ?_ | refine vthenR ?_ | refine vret ?_ | refine vskip ?_ | refine vexit ?_ | refine vblock ?_ | refine vblockN ?_ | refine vblockR ?_ | refine vblockH ?_ | refine vrun_nil ?_ | refine vblockE rfl ?_ | refine vregion [] ?_ | refine vhrun_nil ?_) | ((with_reducible refine vcondT ?_ ?_); (focus (go_simp; done))) | ((with_reducible refine vcondF ?_ ?_); (focus (go_simp; done))) | ((with_reducible first | refine vrun_cons fun KK hKK => ?_ | refine vhrun_cons fun KK hKK => ?_); go_simp; refine hKK _ ?_; clear hKK KK) | ((with_reducible refine vcondS ?_ (fun ht => ?_) (fun ht => ?_)); (focus (go_simp; done)); (all_goals (simp [go_sem] at ht; replace ht := ht.out))) | ((apply vrun_consG0 rfl); (focus (go_simp <;> exact rfl)); (focus (go_simp; done)); (focus (intro hb0; replace hb0 := hb0.out; go_simp <;> (first | exact rfl))); intro KK hKK; go_simp; refine hKK _ ?_; clear hKK KK) | ((apply vrun_consG1 rfl); (focus (go_simp <;> exact rfl)); (focus (go_simp; done)); (focus (intro hb0 hb1; replace hb0 := hb0.out; replace hb1 := hb1.out; go_simp <;> (first | exact rfl))); intro KK hKK; go_simp; refine hKK _ ?_; clear hKK KK))
      refine hK _ ?_
      go_simp
    · intro k hk hb hp K
      have h' : (20 : Int) < ((tat n.places k).size : Int) := by
        have := hp.out
        simp [fewP] at this
        omega
      have e := HR.out
      rw [anyP_hit hk hp.out] at e
      simp at e
      subst e
      repeat' (first | (with_reducible first | refine vseq ?_ | refine vthenN ?_ | refine vthenE ?_ | refine vthenR ?_ | refine vret ?_ | refine vskip ?_ | refine vexit ?_ | refine vblock ?_ | refine vblockN ?_ | refine vblockR ?_ | refine vblockH ?_ | refine vrun_nil ?_ | refine vblockE rfl ?_ | refine vregion [] ?_ | refine vhrun_nil ?_) | ((with_reducible refine vcondT ?_ ?_); (focus (go_simp; done))) | ((with_reducible refine vcondF ?_ ?_); (focus (go_simp; done))) | ((with_reducible first | refine vrun_cons fun KK hKK => ?_ | refine vhrun_cons fun KK hKK => ?_); go_simp; refine hKK _ ?_; clear hKK KK) | ((with_reducible refine vcondS ?_ (fun ht => ?_) (fun ht => ?_)); (focus (go_simp; done)); (all_goals (simp [go_sem] at ht; replace ht := ht.out))) | ((apply vrun_consG0 rfl); (focus (go_simp <;> exact rfl)); (focus (go_simp; done)); (focus (intro hb0; replace hb0 := hb0.out; go_simp <;> (first | exact rfl))); intro KK hKK; go_simp; refine hKK _ ?_; clear hKK KK) | ((apply vrun_consG1 rfl); (focus (go_simp <;> exact rfl)); (focus (go_simp; done)); (focus (intro hb0 hb1; replace hb0 := hb0.out; replace hb1 := hb1.out; go_simp <;> (first | exact rfl))); intro KK hKK; go_simp; refine hKK _ ?_; clear hKK KK))
      go_simp
    intro hb K
    have e := HR.out
    rw [anyP_out hb.out] at e
    clear hb
    have HR := Lib.hid e
    clear e
    repeat' (first | (with_reducible first | refine vseq ?_ | refine vthenN ?_ | refine vthenE ?_ | refine vthenR ?_ | refine vret ?_ | refine vskip ?_ | refine vexit ?_ | refine vblock ?_ | refine vblockN ?_ | refine vblockR ?_ | refine vblockH ?_ | refine vrun_nil ?_ | refine vblockE rfl ?_ | refine vregion [] ?_ | refine vhrun_nil ?_) | ((with_reducible refine vcondT ?_ ?_); (focus (go_simp; done))) | ((with_reducible refine vcondF ?_ ?_); (focus (go_simp; done))) | ((with_reducible first | refine vrun_cons fun KK hKK => ?_ | refine vhrun_cons fun KK hKK => ?_); go_simp; refine hKK _ ?_; clear hKK KK) | ((with_reducible refine vcondS ?_ (fun ht => ?_) (fun ht => ?_)); (focus (go_simp; done)); (all_goals (simp [go_sem] at ht; replace ht := ht.out))) | ((apply vrun_consG0 rfl); (focus (go_simp <;> exact rfl)); (focus (go_simp; done)); (focus (intro hb0; replace hb0 := hb0.out; go_simp <;> (first | exact rfl))); intro KK hKK; go_simp; refine hKK _ ?_; clear hKK KK) | ((apply vrun_consG1 rfl); (focus (go_simp <;> exact rfl)); (focus (go_simp; done)); (focus (intro hb0 hb1; replace hb0 := hb0.out; replace hb1 := hb1.out; go_simp <;> (first | exact rfl))); intro KK hKK; go_simp; refine hKK _ ?_; clear hKK KK))
    apply vfor [1] (fun k => [(4, I (k : Int))]) (fun k => ([] : Hp)) (fewR n) (n.roads.length)
    · go_simp <;> exact rfl
    · go_simp
    · intro k hk hb hp K hK
      obtain ⟨v1, v2, v3, v4, v5, v6⟩ := ixs (m := k) (by omega)
      have h' : ¬ (20 : Int) < ((rdat n.roads k).name.size : Int) ∧ ¬ (10 : Int) < ((rdat n.roads k).pts.length : Int) := by
        have := hp.out
        simp [fewR] at this
        omega
      obtain ⟨q1, q2⟩ := h'
      repeat' (first | (with_reducible first | refine vseq ?_ | refine vthenN ?_ | refine vthenE ?_ | refine vthenR ?_ | refine vret ?_ | refine vskip ?_ | refine vexit ?_ | refine vblock ?_ | refine vblockN ?_ | refine vblockR ?_ | refine vblockH ?_ | refine vrun_nil ?_ | refine vblockE rfl ?_ | refine vregion [] ?_ | refine vhrun_nil ?_) | ((with_reducible refine vcondT ?_ ?_); (focus (go_simp; done))) | ((with_reducible refine vcondF ?_ ?_); (focus (go_simp; done))) | ((with_reducible first | refine vrun_cons fun KK hKK => ?_ | refine vhrun_cons fun KK hKK => ?_); go_simp; refine hKK _ ?_; clear hKK KK) | ((with_reducible refine vcondS ?_ (fun ht => ?_) (fun ht => ?_)); (focus (go_simp; done)); (all_goals (simp [go_sem] at ht; replace ht := ht.out))) | ((apply vrun_consG0 rfl); (focus (go_simp <;> exact rfl)); (focus (go_simp; done)); (focus (intro hb0; replace hb0 := hb0.out; go_simp <;> (first | exact rfl))); intro KK hKK; go_simp; refine hKK _ ?_; clear hKK KK) | ((apply vrun_consG1 rfl); (focus (go_simp <;> exact rfl)); (focus (go_simp; done)); (focus (intro hb0 hb1; replace hb0 := hb0.out; replace hb1 := hb1.out; go_simp <;> (first | exact rfl))); intro KK hKK; go_simp; refine hKK _ ?_; clear hKK KK))
      refine hK _ ?_
      go_simp
    · intro k hk hb hp K
      have e := HR.out
      rw [anyP_hit hk hp.out] at e
      simp at e
      subst e
      by_cases q1 : (20 : Int) < ((rdat n.roads k).name.size : Int)
      · repeat' (first | (with_reducible first | refine vseq ?_ | refine vthenN ?_ | refine vthenE ?_ | refine vthenR ?_ | refine vret ?_ | refine vskip ?_ | refine vexit ?_ | refine vblock ?_ | refine vblockN ?_ | refine vblockR ?_ | refine vblockH ?_ | refine vrun_nil ?_ | refine vblockE rfl ?_ | refine vregion [] ?_ | refine vhrun_nil ?_) | ((with_reducible refine vcondT ?_ ?_); (focus (go_simp; done))) | ((with_reducible refine vcondF ?_ ?_); (focus (go_simp; done))) | ((with_reducible first | refine vrun_cons fun KK hKK => ?_ | refine vhrun_cons fun KK hKK => ?_); go_simp; refine hKK _ ?_; clear hKK KK) | ((with_reducible refine vcondS ?_ (fun ht => ?_) (fun ht => ?_)); (focus (go_simp; done)); (all_goals (simp [go_sem] at ht; replace ht := ht.out))) | ((apply vrun_consG0 rfl); (focus (go_simp <;> exact rfl)); (focus (go_simp; done)); (focus (intro hb0; replace hb0 := hb0.out; go_simp <;> (first | exact rfl))); intro KK hKK; go_simp; refine hKK _ ?_; clear hKK KK) | ((apply vrun_consG1 rfl); (focus (go_simp <;> exact rfl)); (focus (go_simp; done)); (focus (intro hb0 hb1; replace hb0 := hb0.out; replace hb1 := hb1.out; go_simp <;> (first | exact rfl))); intro KK hKK; go_simp; refine hKK _ ?_; clear hKK KK))
        go_simp
      · have q2 : (10 : Int) < ((rdat n.roads k).pts.length : Int) := by
          have := hp.out
          simp [fewR] at this
          omega
        repeat' (first | (with_reducible first | refine vseq ?_ | refine vthenN ?_ | refine vthenE ?_ | refine vthenR ?_ | refine vret ?_ | refine vskip ?_ | refine vexit ?_ | refine vblock ?_ | refine vblockN ?_ | refine vblockR ?_ | refine vblockH ?_ | refine vrun_nil ?_ | refine vblockE rfl ?_ | refine vregion [] ?_ | refine vhrun_nil ?_) | ((with_reducible refine vcondT ?_ ?_); (focus (go_simp; done))) | ((with_reducible refine vcondF ?_ ?_); (focus (go_simp; done))) | ((with_reducible first | refine vrun_cons fun KK hKK => ?_ | refine vhrun_cons fun KK hKK => ?_); go_simp; refine hKK _ ?_; clear hKK KK) | ((with_reducible refine vcondS ?_ (fun ht => ?_) (fun ht => ?_)); (focus (go_simp; done)); (all_goals (simp [go_sem] at ht; replace ht := ht.out))) | ((apply vrun_consG0 rfl); (focus (go_simp <;> exact rfl)); (focus (go_simp; done)); (focus (intro hb0; replace hb0 := hb0.out; go_simp <;> (first | exact rfl))); intro KK hKK; go_simp; refine hKK _ ?_; clear hKK KK) | ((apply vrun_consG1 rfl); (focus (go_simp <;> exact rfl)); (focus (go_simp; done)); (focus (intro hb0 hb1; replace hb0 := hb0.out; replace hb1 := hb1.out; go_simp <;> (first | exact rfl))); intro KK hKK; go_simp; refine hKK _ ?_; clear hKK KK))
        go_simp
    intro hb K
    have e := HR.out
    rw [anyP_out hb.out] at e
    simp at e
    subst e
    repeat' (first | (with_reducible first | refine vseq ?_ | refine vthenN ?_ | refine vthenE ?_ | refine vthenR ?_ | refine vret ?_ | refine vskip ?_ | refine vexit ?_ | refine vblock ?_ | refine vblockN ?_ | refine vblockR ?_ | refine vblockH ?_ | refine vrun_nil ?_ | refine vblockE rfl ?_ | refine vregion [] ?_ | refine vhrun_nil ?_) | ((with_reducible refine vcondT ?_ ?_); (focus (go_simp; done))) | ((with_reducible refine vcondF ?_ ?_); (focus (go_simp; done))) | ((with_reducible first | refine vrun_cons fun KK hKK => ?_ | refine vhrun_cons fun KK hKK => ?_); go_simp; refine hKK _ ?_; clear hKK KK) | ((with_reducible refine vcondS ?_ (fun ht => ?_) (fun ht => ?_)); (focus (go_simp; done)); (all_goals (simp [go_sem] at ht; replace ht := ht.out))) | ((apply vrun_consG0 rfl); (focus (go_simp <;> exact rfl)); (focus (go_simp; done)); (focus (intro hb0; replace hb0 := hb0.out; go_simp <;> (first | exact rfl))); intro KK hKK; go_simp; refine hKK _ ?_; clear hKK KK) | ((apply vrun_consG1 rfl); (focus (go_simp <;> exact rfl)); (focus (go_simp; done)); (focus (intro hb0 hb1; replace hb0 := hb0.out; replace hb1 := hb1.out; go_simp <;> (first | exact rfl))); intro KK hKK; go_simp; refine hKK _ ?_; clear hKK KK))
    go_simp
  · rw [hH] at hb
    have e := HR.out
    rw [hH] at e
    simp at e
    subst e
    have HB := Lib.hid hb
    clear hb hH
    repeat' (first | (with_reducible first | refine vseq ?_ | refine vthenN ?_ | refine vthenE ?_ | refine vthenR ?_ | refine vret ?_ | refine vskip ?_ | refine vexit ?_ | refine vblock ?_ | refine vblockN ?_ | refine vblockR ?_ | refine vblockH ?_ | refine vrun_nil ?_ | refine vblockE rfl ?_ | refine vregion [] ?_ | refine vhrun_nil ?_) | ((with_reducible refine vcondT ?_ ?_); (focus (go_simp; done))) | ((with_reducible refine vcondF ?_ ?_); (focus (go_simp; done))) | ((with_reducible first | refine vrun_cons fun KK hKK => ?_ | refine vhrun_cons fun KK hKK => ?_); go_simp; refine hKK _ ?_; clear hKK KK) | ((with_reducible refine vcondS ?_ (fun ht => ?_) (fun ht => ?_)); (focus (go_simp; done)); (all_goals (simp [go_sem] at ht; replace ht := ht.out))) | ((apply vrun_consG0 rfl); (focus (go_simp <;> exact rfl)); (focus (go_simp; done)); (focus (intro hb0; replace hb0 := hb0.out; go_simp <;> (first | exact rfl))); intro KK hKK; go_simp; refine hKK _ ?_; clear hKK KK) | ((apply vrun_consG1 rfl); (focus (go_simp <;> exact rfl)); (focus (go_simp; done)); (focus (intro hb0 hb1; replace hb0 := hb0.out; replace hb1 := hb1.out; go_simp <;> (first | exact rfl))); intro KK hKK; go_simp; refine hKK _ ?_; clear hKK KK))
    · go_simp
    · rw [HB.out] at ht
      cases ht
end Go.Proofs.Ytcndlalhkkjocaa
