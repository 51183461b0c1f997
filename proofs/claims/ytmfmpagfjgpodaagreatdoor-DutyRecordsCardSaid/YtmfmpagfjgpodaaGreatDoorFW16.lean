/- Texts in one: Chapter 7: trips, the longest one, the examples; the walks of the program. -/
import Derived.Test.YtmfmpagfjgpodaaGreatDoorFW14
import Derived.Test.YtmfmpagfjgpodaaGreatDoorFW15
/-! SWE: Chapter 7: trips, the longest one, the examples; the walks of the program. -/
namespace Go.Proofs.YtmfmpagfjgpodaaGreatDoor
open Go.RowKit
set_option maxRecDepth 100000
set_option maxHeartbeats 1000000
def firstB (r : Rul) (l : List Rc) : Nat × Int := firstErr (fun k => brokenF r (l.take (k + 1))) 0 l.length
theorem w_firstBroken (r : Rul) (l : List Rc) (hl : l.length ≤ 1000) (ht : Timed l) (hr : SmallRul r) : VC Tryz.prog 62 [workA r l] (.agg [I (firstB r l).2, I ((firstB r l).1 : Nat)]) := by
  obtain ⟨E, hE⟩ : ∃ E, firstB r l = E := ⟨_, rfl⟩
  rw [hE]
  unfold firstB at hE
  have HE := Lib.hid hE
  have HT := Lib.hid ht
  have HR := Lib.hid hr
  clear hE ht hr
  refine VC_of Tryz.func62 rfl (by kernel_rfl) (by kernel_rfl) rfl fun M0 w0 => ?_
  simp only [Tryz.ntmps62, Tryz.results62, enumA]
  repeat' (first | (with_reducible first | refine vseq ?_ | refine vthenN ?_ | refine vthenE ?_ | refine vthenR ?_ | refine vret ?_ | refine vskip ?_ | refine vexit ?_ | refine vblock ?_ | refine vblockN ?_ | refine vblockR ?_ | refine vblockH ?_ | refine vrun_nil ?_ | refine vblockE rfl ?_ | refine vregion [] ?_ | refine vhrun_nil ?_) | ((with_reducible refine vcondT ?_ ?_); (focus (go_simp; done))) | ((with_reducible refine vcondF ?_ ?_); (focus (go_simp; done))) | ((with_reducible first | refine vrun_cons fun KK hKK => ?_ | refine vhrun_cons fun KK hKK => ?_); go_simp; refine hKK _ ?_; clear hKK KK) | ((refine vdrawL 10 10 [] rfl (by kernel_rfl) (by kernel_rfl) ?_); simp only [List.append, List.take, List.drop]) | ((with_reducible refine vcondS ?_ (fun ht => ?_) (fun ht => ?_)); (focus (go_simp; done)); (all_goals (simp [go_sem] at ht; replace ht := ht.out))))
  apply vfor [1, 2, 7] (fun k => [(8, I (k : Int))]) (fun k => ([some (.box [I 0, I 0])] : Hp)) (bad (fun k => brokenF r (l.take (k + 1)))) (l.length)
  · go_simp <;> exact rfl
  · go_simp
  · intro k hk hb hp K hK
    obtain ⟨w1, w2, w3, w4, w5, w6⟩ := ixs (m := k) (by omega)
    have hkl : k + 1 ≤ l.length := hk
    have hki : (k : Int) + 1 ≤ (l.length : Int) := by omega
    have g := w_broken r (l.take (k + 1)) (by rw [List.length_take]; omega) (by rw [List.length_take]; omega) (HT.out.take hkl) HR.out
    have hz : brokenF r (l.take (k + 1)) = 0 := bad_no hp.out
    rw [hz, workA, recsA, List.map_take] at g
    clear hz
    repeat' (first | (with_reducible first | refine vseq ?_ | refine vthenN ?_ | refine vthenE ?_ | refine vthenR ?_ | refine vret ?_ | refine vskip ?_ | refine vexit ?_ | refine vblock ?_ | refine vblockN ?_ | refine vblockR ?_ | refine vblockH ?_ | refine vrun_nil ?_ | refine vblockE rfl ?_ | refine vregion [] ?_ | refine vhrun_nil ?_) | ((with_reducible refine vcondT ?_ ?_); (focus (go_simp; done))) | ((with_reducible refine vcondF ?_ ?_); (focus (go_simp; done))) | ((with_reducible first | refine vrun_cons fun KK hKK => ?_ | refine vhrun_cons fun KK hKK => ?_); go_simp; (first | (refine ⟨_, g, ?_⟩) | skip); refine hKK _ ?_; clear hKK KK) | ((refine vdrawL 10 10 [] rfl (by kernel_rfl) (by kernel_rfl) ?_); simp only [List.take, List.drop]) | ((with_reducible refine vcondS ?_ (fun ht => ?_) (fun ht => ?_)); (focus (go_simp; done)); (all_goals (simp [go_sem] at ht; replace ht := ht.out))))
    refine hK _ ?_
    go_simp
  · intro k hk hb hp K
    obtain ⟨w1, w2, w3, w4, w5, w6⟩ := ixs (m := k) (by omega)
    have hkl : k + 1 ≤ l.length := hk
    have hki : (k : Int) + 1 ≤ (l.length : Int) := by omega
    have g := w_broken r (l.take (k + 1)) (by rw [List.length_take]; omega) (by rw [List.length_take]; omega) (HT.out.take hkl) HR.out
    have e := HE.out
    rw [firstErr_hit hk hb.out hp.out] at e
    subst e
    have hz : ¬ brokenF r (l.take (k + 1)) = 0 := bad_yes hp.out
    generalize brokenF r (l.take (k + 1)) = c at *
    rw [workA, recsA, List.map_take] at g
    repeat' (first | (with_reducible first | refine vseq ?_ | refine vthenN ?_ | refine vthenE ?_ | refine vthenR ?_ | refine vret ?_ | refine vskip ?_ | refine vexit ?_ | refine vblock ?_ | refine vblockN ?_ | refine vblockR ?_ | refine vblockH ?_ | refine vrun_nil ?_ | refine vblockE rfl ?_ | refine vregion [] ?_ | refine vhrun_nil ?_) | ((with_reducible refine vcondT ?_ ?_); (focus (go_simp; done))) | ((with_reducible refine vcondF ?_ ?_); (focus (go_simp; done))) | ((with_reducible first | refine vrun_cons fun KK hKK => ?_ | refine vhrun_cons fun KK hKK => ?_); go_simp; (first | (refine ⟨_, g, ?_⟩) | skip); refine hKK _ ?_; clear hKK KK) | ((refine vdrawL 10 10 [] rfl (by kernel_rfl) (by kernel_rfl) ?_); simp only [List.take, List.drop]) | ((with_reducible refine vcondS ?_ (fun ht => ?_) (fun ht => ?_)); (focus (go_simp; done)); (all_goals (simp [go_sem] at ht; replace ht := ht.out))))
    go_simp
  intro hb K
  have e := HE.out
  rw [firstErr_out hb.out] at e
  subst e
  repeat' (first | (with_reducible first | refine vseq ?_ | refine vthenN ?_ | refine vthenE ?_ | refine vthenR ?_ | refine vret ?_ | refine vskip ?_ | refine vexit ?_ | refine vblock ?_ | refine vblockN ?_ | refine vblockR ?_ | refine vblockH ?_ | refine vrun_nil ?_ | refine vblockE rfl ?_ | refine vregion [] ?_ | refine vhrun_nil ?_) | ((with_reducible refine vcondT ?_ ?_); (focus (go_simp; done))) | ((with_reducible refine vcondF ?_ ?_); (focus (go_simp; done))) | ((with_reducible first | refine vrun_cons fun KK hKK => ?_ | refine vhrun_cons fun KK hKK => ?_); go_simp; refine hKK _ ?_; clear hKK KK) | ((refine vdrawL 10 10 [] rfl (by kernel_rfl) (by kernel_rfl) ?_); simp only [List.append, List.take, List.drop]) | ((with_reducible refine vcondS ?_ (fun ht => ?_) (fun ht => ?_)); (focus (go_simp; done)); (all_goals (simp [go_sem] at ht; replace ht := ht.out))))
  go_simp
def endF (l : List Rc) : Int := if l.length = 0 then 0 else (rcat l (l.length - 1)).hi
theorem w_end (r : Rul) (l : List Rc) (hl : l.length ≤ 1000) : VC Tryz.prog 61 [workA r l] (I (endF l)) := by
  unfold endF
  by_cases h : l.length = 0
  · rw [if_pos h]
    refine VC_of Tryz.func61 rfl (by kernel_rfl) (by kernel_rfl) rfl fun M0 w0 => ?_
    simp only [Tryz.ntmps61, Tryz.results61, enumA]
    repeat' (first | (with_reducible first | refine vseq ?_ | refine vthenN ?_ | refine vthenE ?_ | refine vthenR ?_ | refine vret ?_ | refine vskip ?_ | refine vexit ?_ | refine vblock ?_ | refine vblockN ?_ | refine vblockR ?_ | refine vblockH ?_ | refine vrun_nil ?_ | refine vblockE rfl ?_ | refine vregion [] ?_ | refine vhrun_nil ?_) | ((with_reducible refine vcondT ?_ ?_); (focus (go_simp; done))) | ((with_reducible refine vcondF ?_ ?_); (focus (go_simp; done))) | ((with_reducible first | refine vrun_cons fun KK hKK => ?_ | refine vhrun_cons fun KK hKK => ?_); go_simp; refine hKK _ ?_; clear hKK KK) | ((with_reducible refine vcondS ?_ (fun ht => ?_) (fun ht => ?_)); (focus (go_simp; done)); (all_goals (simp [go_sem] at ht; replace ht := ht.out))))
    go_simp
  · rw [if_neg h]
    have h0 : 0 < l.length := by omega
    have hi : ¬ (l.length : Int) = 0 := by omega
    have hne : ¬ l = [] := fun e => h (by rw [e]; rfl)
    have hk1 := ixm h0 (by omega)
    have hk2 : l.length - 1 < l.length := by omega
    refine VC_of Tryz.func61 rfl (by kernel_rfl) (by kernel_rfl) rfl fun M0 w0 => ?_
    simp only [Tryz.ntmps61, Tryz.results61, enumA]
    repeat' (first | (with_reducible first | refine vseq ?_ | refine vthenN ?_ | refine vthenE ?_ | refine vthenR ?_ | refine vret ?_ | refine vskip ?_ | refine vexit ?_ | refine vblock ?_ | refine vblockN ?_ | refine vblockR ?_ | refine vblockH ?_ | refine vrun_nil ?_ | refine vblockE rfl ?_ | refine vregion [] ?_ | refine vhrun_nil ?_) | ((with_reducible refine vcondT ?_ ?_); (focus (go_simp; done))) | ((with_reducible refine vcondF ?_ ?_); (focus (go_simp; done))) | ((with_reducible first | refine vrun_cons fun KK hKK => ?_ | refine vhrun_cons fun KK hKK => ?_); go_simp; refine hKK _ ?_; clear hKK KK) | ((with_reducible refine vcondS ?_ (fun ht => ?_) (fun ht => ?_)); (focus (go_simp; done)); (all_goals (simp [go_sem] at ht; replace ht := ht.out))))
    go_simp
theorem w_open (r : Rul) (l : List Rc) (hl : l.length ≤ 1000) (hs : SmallR l) (h1 : rulE r = 0) (h2 : (recsE l).2 = 0) : VC Tryz.prog 39 [rulA r, recsA l] (.tup [workA r l, I 0]) := by
  have g1 := w_CheckRules r
  have g2 := w_recordsErr l hl hs
  rw [h1] at g1
  rw [h2] at g2
  clear hs h1 h2
  refine VC_of Tryz.func39 rfl (by kernel_rfl) (by kernel_rfl) rfl fun M0 w0 => ?_
  simp only [Tryz.ntmps39, Tryz.results39, enumA]
  repeat' (first | (with_reducible first | refine vseq ?_ | refine vthenN ?_ | refine vthenE ?_ | refine vthenR ?_ | refine vret ?_ | refine vskip ?_ | refine vexit ?_ | refine vblock ?_ | refine vblockN ?_ | refine vblockR ?_ | refine vblockH ?_ | refine vrun_nil ?_ | refine vblockE rfl ?_ | refine vregion [] ?_ | refine vhrun_nil ?_) | ((with_reducible refine vcondT ?_ ?_); (focus (go_simp; done))) | ((with_reducible refine vcondF ?_ ?_); (focus (go_simp; done))) | ((with_reducible first | refine vrun_cons fun KK hKK => ?_ | refine vhrun_cons fun KK hKK => ?_); go_simp; (first | (with_reducible refine ⟨_, g1, ?_⟩) | (with_reducible refine ⟨_, g2, ?_⟩) | skip); refine hKK _ ?_; clear hKK KK) | ((with_reducible refine vcondS ?_ (fun ht => ?_) (fun ht => ?_)); (focus (go_simp; done)); (all_goals (simp [go_sem] at ht; replace ht := ht.out))))
  go_simp
theorem w_Stints (r : Rul) (l : List Rc) (hl : l.length ≤ 1000) (hs : SmallR l) (ht : Timed l) (h1 : rulE r = 0) (h2 : (recsE l).2 = 0) (hr : SmallRul r) :
    VC Tryz.prog 16 [rulA r, recsA l] (.tup [.sl 2 ((partsTo l r.brk l.length).map pairP), I 0]) := by
  have g1 := w_open r l hl hs h1 h2
  unfold SmallRul at hr
  have g2 := VC_of_own (w_parts r l r.brk hl ht (by omega))
  generalize partsTo l r.brk l.length = P at *
  clear hs ht h1 h2 hr
  refine VC_of Tryz.func16 rfl (by kernel_rfl) (by kernel_rfl) rfl fun M0 w0 => ?_
  simp only [Tryz.ntmps16, Tryz.results16, enumA]
  repeat' (first | (with_reducible first | refine vseq ?_ | refine vthenN ?_ | refine vthenE ?_ | refine vthenR ?_ | refine vret ?_ | refine vskip ?_ | refine vexit ?_ | refine vblock ?_ | refine vblockN ?_ | refine vblockR ?_ | refine vblockH ?_ | refine vrun_nil ?_ | refine vblockE rfl ?_ | refine vregion [] ?_ | refine vhrun_nil ?_) | ((with_reducible refine vcondT ?_ ?_); (focus (go_simp; done))) | ((with_reducible refine vcondF ?_ ?_); (focus (go_simp; done))) | ((with_reducible first | refine vrun_cons fun KK hKK => ?_ | refine vhrun_cons fun KK hKK => ?_); go_simp; (first | (with_reducible refine ⟨_, g1, ?_⟩) | (with_reducible refine ⟨_, g2, ?_⟩) | skip); refine hKK _ ?_; clear hKK KK) | ((with_reducible refine vcondS ?_ (fun ht => ?_) (fun ht => ?_)); (focus (go_simp; done)); (all_goals (simp [go_sem] at ht; replace ht := ht.out))))
  go_simp
theorem w_WorkIn (l : List Rc) (f u : Int) (hl : l.length ≤ 1000) (hs : SmallR l) (ht : Timed l) (h2 : (recsE l).2 = 0) (hf : isTm f = true) (hu : isTm u = true) (hfu : f ≤ u) : VC Tryz.prog 21 [recsA l, I f, I u] (.tup [I (workT l f u l.length), I 0]) := by
  have g1 := w_recordsErr l hl hs
  rw [h2] at g1
  have g2 : VC Tryz.prog 46 [I f] (I 0) := by
    have := w_timeErr f
    rwa [hf] at this
  have g3 : VC Tryz.prog 46 [I u] (I 0) := by
    have := w_timeErr u
    rwa [hu] at this
  have g4 : VC Tryz.prog 23 [B true, I 9] (I 0) := p_unless true 9
  have g5 : VC Tryz.prog 27 [.sl 1 ([0, 0, 0, 0].map intA)] (I 0) := p_first [0, 0, 0, 0] (by decide)
  have e1 := inR_iff.1 hf
  have e2 := inR_iff.1 hu
  have g6 := w_workIn l f u hl ht (by unfold Wide; omega) (by unfold Wide; omega)
  generalize workT l f u l.length = W at *
  clear hs ht h2 hf hu e1 e2
  refine VC_of Tryz.func21 rfl (by kernel_rfl) (by kernel_rfl) rfl fun M0 w0 => ?_
  simp only [Tryz.ntmps21, Tryz.results21, enumA]
  repeat' (first | (with_reducible first | refine vseq ?_ | refine vthenN ?_ | refine vthenE ?_ | refine vthenR ?_ | refine vret ?_ | refine vskip ?_ | refine vexit ?_ | refine vblock ?_ | refine vblockN ?_ | refine vblockR ?_ | refine vblockH ?_ | refine vrun_nil ?_ | refine vblockE rfl ?_ | refine vregion [] ?_ | refine vhrun_nil ?_) | ((with_reducible refine vcondT ?_ ?_); (focus (go_simp; done))) | ((with_reducible refine vcondF ?_ ?_); (focus (go_simp; done))) | ((with_reducible first | refine vrun_cons fun KK hKK => ?_ | refine vhrun_cons fun KK hKK => ?_); go_simp; (first | (with_reducible refine ⟨_, g1, ?_⟩) | (with_reducible refine ⟨_, g2, ?_⟩) | (with_reducible refine ⟨_, g3, ?_⟩) | (with_reducible refine ⟨_, g4, ?_⟩) | (refine ⟨_, g5, ?_⟩) | (with_reducible refine ⟨_, g6, ?_⟩) | skip); refine hKK _ ?_; clear hKK KK) | ((with_reducible refine vcondS ?_ (fun ht => ?_) (fun ht => ?_)); (focus (go_simp; done)); (all_goals (simp [go_sem] at ht; replace ht := ht.out))))
  go_simp
theorem w_Clone (l : List Rc) (hl : l.length ≤ 1000) (h0 : l ≠ []) : VCo Tryz.prog 63 [recsA l] 36 3 false (l.map Rc.av) := by
  have g := o_CloneK (l.map Rc.av) (rec_one l) (by simp; omega) (by simpa using h0)
  rwa [decide_eq_false (by simpa using h0)] at g
structure Trp where
  start : Int
  lo : Int
  hi : Int
  next : Int
abbrev tripA (t : Trp) : AV := .agg [I t.start, I t.lo, I t.hi, I t.next]
def allF (l : List Rc) (t : Trp) (n : Int) : List Rc := l ++ [⟨⟨#[]⟩, t.start, t.start + n⟩]
def nextF (r : Rul) (t : Trp) (n : Int) : Int := if t.next ≠ -1 ∧ t.next - (t.start + n) < r.rest then 4 else 0
def breaksF (r : Rul) (l : List Rc) (t : Trp) (n : Int) : Int := if 0 < n then (if brokenF r (allF l t n) ≠ 0 then brokenF r (allF l t n) else nextF r t n) else nextF r t n
theorem w_breaks0 (r : Rul) (l : List Rc) (t : Trp) (n : Int) (hn : n = 0) (ht : -1 ≤ t.next ∧ t.next ≤ 10000000000 ∧ 0 ≤ t.start ∧ t.start ≤ 9000000000) : VC Tryz.prog 44 [workA r l, tripA t, I n] (I (breaksF r l t n)) := by
  subst hn
  unfold breaksF nextF
  rw [if_neg (by decide)]
  have u1 := wrap_eq (x := t.start + 0) (by omega) (by omega)
  have u2 := wrap_eq (x := t.start) (by omega) (by omega)
  have u3 := wrap_eq (x := t.next - t.start) (by omega) (by omega)
  by_cases h1 : t.next = -1
  · rw [if_neg (by simp [h1])]
    refine VC_of Tryz.func44 rfl (by kernel_rfl) (by kernel_rfl) rfl fun M0 w0 => ?_
    simp only [Tryz.ntmps44, Tryz.results44, enumA]
    repeat' (first | (with_reducible first | refine vseq ?_ | refine vthenN ?_ | refine vthenE ?_ | refine vthenR ?_ | refine vret ?_ | refine vskip ?_ | refine vexit ?_ | refine vblock ?_ | refine vblockN ?_ | refine vblockR ?_ | refine vblockH ?_ | refine vrun_nil ?_ | refine vblockE rfl ?_ | refine vregion [] ?_ | refine vhrun_nil ?_) | ((with_reducible refine vcondT ?_ ?_); (focus (go_simp; done))) | ((with_reducible refine vcondF ?_ ?_); (focus (go_simp; done))) | ((with_reducible first | refine vrun_cons fun KK hKK => ?_ | refine vhrun_cons fun KK hKK => ?_); go_simp; refine hKK _ ?_; clear hKK KK) | ((refine vdrawL 10 8 [] rfl (by kernel_rfl) (by kernel_rfl) ?_); simp only [List.append, List.take, List.drop]) | ((with_reducible refine vcondS ?_ (fun ht => ?_) (fun ht => ?_)); (focus (go_simp; done)); (all_goals (simp [go_sem] at ht; replace ht := ht.out))) | ((apply vrun_consG0 rfl); (focus (go_simp <;> exact rfl)); (focus (go_simp; done)); (focus (intro hb0; replace hb0 := hb0.out; go_simp <;> (first | exact rfl))); intro KK hKK; go_simp; refine hKK _ ?_; clear hKK KK) | ((apply vhrun_consG0 rfl); (focus (go_simp <;> exact rfl)); (focus (intro hb0; replace hb0 := hb0.out; go_simp <;> (first | exact rfl))); intro KK hKK; go_simp; refine hKK _ ?_; clear hKK KK))
    go_simp
  · by_cases h2 : t.next - t.start < r.rest
    · rw [if_pos ⟨h1, by simpa using h2⟩]
      refine VC_of Tryz.func44 rfl (by kernel_rfl) (by kernel_rfl) rfl fun M0 w0 => ?_
      simp only [Tryz.ntmps44, Tryz.results44, enumA]
      repeat' (first | (with_reducible first | refine vseq ?_ | refine vthenN ?_ | refine vthenE ?_ | refine vthenR ?_ | refine vret ?_ | refine vskip ?_ | refine vexit ?_ | refine vblock ?_ | refine vblockN ?_ | refine vblockR ?_ | refine vblockH ?_ | refine vrun_nil ?_ | refine vblockE rfl ?_ | refine vregion [] ?_ | refine vhrun_nil ?_) | ((with_reducible refine vcondT ?_ ?_); (focus (go_simp; done))) | ((with_reducible refine vcondF ?_ ?_); (focus (go_simp; done))) | ((with_reducible first | refine vrun_cons fun KK hKK => ?_ | refine vhrun_cons fun KK hKK => ?_); go_simp; refine hKK _ ?_; clear hKK KK) | ((refine vdrawL 10 8 [] rfl (by kernel_rfl) (by kernel_rfl) ?_); simp only [List.append, List.take, List.drop]) | ((with_reducible refine vcondS ?_ (fun ht => ?_) (fun ht => ?_)); (focus (go_simp; done)); (all_goals (simp [go_sem] at ht; replace ht := ht.out))) | ((apply vrun_consG0 rfl); (focus (go_simp <;> exact rfl)); (focus (go_simp; done)); (focus (intro hb0; replace hb0 := hb0.out; go_simp <;> (first | exact rfl))); intro KK hKK; go_simp; refine hKK _ ?_; clear hKK KK) | ((apply vhrun_consG0 rfl); (focus (go_simp <;> exact rfl)); (focus (intro hb0; replace hb0 := hb0.out; go_simp <;> (first | exact rfl))); intro KK hKK; go_simp; refine hKK _ ?_; clear hKK KK))
      go_simp
    · rw [if_neg fun h => h2 (by simpa using h.2)]
      refine VC_of Tryz.func44 rfl (by kernel_rfl) (by kernel_rfl) rfl fun M0 w0 => ?_
      simp only [Tryz.ntmps44, Tryz.results44, enumA]
      repeat' (first | (with_reducible first | refine vseq ?_ | refine vthenN ?_ | refine vthenE ?_ | refine vthenR ?_ | refine vret ?_ | refine vskip ?_ | refine vexit ?_ | refine vblock ?_ | refine vblockN ?_ | refine vblockR ?_ | refine vblockH ?_ | refine vrun_nil ?_ | refine vblockE rfl ?_ | refine vregion [] ?_ | refine vhrun_nil ?_) | ((with_reducible refine vcondT ?_ ?_); (focus (go_simp; done))) | ((with_reducible refine vcondF ?_ ?_); (focus (go_simp; done))) | ((with_reducible first | refine vrun_cons fun KK hKK => ?_ | refine vhrun_cons fun KK hKK => ?_); go_simp; refine hKK _ ?_; clear hKK KK) | ((refine vdrawL 10 8 [] rfl (by kernel_rfl) (by kernel_rfl) ?_); simp only [List.append, List.take, List.drop]) | ((with_reducible refine vcondS ?_ (fun ht => ?_) (fun ht => ?_)); (focus (go_simp; done)); (all_goals (simp [go_sem] at ht; replace ht := ht.out))) | ((apply vrun_consG0 rfl); (focus (go_simp <;> exact rfl)); (focus (go_simp; done)); (focus (intro hb0; replace hb0 := hb0.out; go_simp <;> (first | exact rfl))); intro KK hKK; go_simp; refine hKK _ ?_; clear hKK KK) | ((apply vhrun_consG0 rfl); (focus (go_simp <;> exact rfl)); (focus (intro hb0; replace hb0 := hb0.out; go_simp <;> (first | exact rfl))); intro KK hKK; go_simp; refine hKK _ ?_; clear hKK KK))
      go_simp
theorem all_rc {l : List Rc} {t : Trp} {n : Int} (k : Nat) (hk : k < (allF l t n).length) : rcat (allF l t n) k = if k < l.length then rcat l k else ⟨⟨#[]⟩, t.start, t.start + n⟩ := by
  rw [rcat_get hk]
  unfold allF at hk ⊢
  rw [List.length_append] at hk
  split
  · rename_i h
    rw [List.getElem_append_left h, rcat_get h]
  · rename_i h
    rw [List.getElem_append_right (by omega)]
    have : k - l.length = 0 := by simp at hk; omega
    simp [this]
theorem all_timed {l : List Rc} {t : Trp} {n : Int} (h : Timed l) (h1 : 0 ≤ t.start ∧ t.start ≤ 9000000000) (h2 : 0 ≤ n ∧ n ≤ 1000000000) : Timed (allF l t n) := fun k hk => by
  rw [all_rc k hk]
  split
  · rename_i hl
    exact h k hl
  · simp only
    omega
theorem w_breaks (r : Rul) (l : List Rc) (t : Trp) (n : Int) (hl : l.length ≤ 900) (h0 : l ≠ []) (hn : 0 ≤ n ∧ n ≤ 1000000000) (hT : Timed l) (hr : SmallRul r) (ht : -1 ≤ t.next ∧ t.next ≤ 10000000000 ∧ 0 ≤ t.start ∧ t.start ≤ 9000000000) : VC Tryz.prog 44 [workA r l, tripA t, I n] (I (breaksF r l t n)) := by
  by_cases hz : n = 0
  · exact w_breaks0 r l t n hz ht
  have hp : 0 < n := by omega
  have g1 := w_Clone l (by omega) h0
  have g2 := w_broken r (allF l t n) (by unfold allF; simp; omega) (by unfold allF; simp) (all_timed hT (by omega) hn) hr
  rw [workA, recsA, allF, List.map_append] at g2
  unfold breaksF nextF
  rw [if_pos hp]
  have e0 : brokenF r (allF l t n) = brokenF r (l ++ [⟨⟨#[]⟩, t.start, t.start + n⟩]) := rfl
  rw [e0]
  generalize brokenF r (l ++ [⟨⟨#[]⟩, t.start, t.start + n⟩]) = c at *
  have u1 := wrap_eq (x := t.start + n) (by omega) (by omega)
  have u3 := wrap_eq (x := t.next - (t.start + n)) (by omega) (by omega)
  have hb : l.length + 1 ≤ 1000000000 := by omega
  simp only [List.map_cons, List.map_nil, Rc.av] at g2
  have G2 := Lib.hid g2
  clear hT hr e0 g2
  by_cases hc : c = 0
  · rw [if_neg (by simp [hc])]
    by_cases h1 : t.next = -1
    · rw [if_neg (by simp [h1])]
      refine VC_of Tryz.func44 rfl (by kernel_rfl) (by kernel_rfl) rfl fun M0 w0 => ?_
      simp only [Tryz.ntmps44, Tryz.results44, enumA]
      repeat' (first | (with_reducible first | refine vseq ?_ | refine vthenN ?_ | refine vthenE ?_ | refine vthenR ?_ | refine vret ?_ | refine vskip ?_ | refine vexit ?_ | refine vblock ?_ | refine vblockN ?_ | refine vblockR ?_ | refine vblockH ?_ | refine vrun_nil ?_ | refine vblockE rfl ?_ | refine vregion [] ?_ | refine vhrun_nil ?_) | ((with_reducible refine vcondT ?_ ?_); (focus (go_simp; done))) | ((with_reducible refine vcondF ?_ ?_); (focus (go_simp; done))) | ((with_reducible first | refine vrun_cons fun KK hKK => ?_ | refine vhrun_cons fun KK hKK => ?_); go_simp; refine hKK _ ?_; clear hKK KK) | ((with_reducible refine vcondS ?_ (fun ht => ?_) (fun ht => ?_)); (focus (go_simp; done)); (all_goals (simp [go_sem] at ht; replace ht := ht.out))) | ((apply vrun_consG0 rfl); (focus (go_simp <;> exact rfl)); (focus (go_simp; done)); (focus (intro hb0; replace hb0 := hb0.out; go_simp <;> (first | exact rfl))); intro KK hKK; go_simp; refine hKK _ ?_; clear hKK KK) | ((apply vhrun_consG0 rfl); (focus (go_simp <;> exact rfl)); (focus (intro hb0; replace hb0 := hb0.out; go_simp <;> (first | exact rfl))); intro KK hKK; go_simp; refine hKK _ ?_; clear hKK KK))
      refine vdrawC 9 [18] (fun i => i == 2 || i == 8) (by kernel_rfl) (by kernel_rfl) (by kernel_rfl) (by go_simp) (by go_simp) ?_
      simp only [List.take, List.drop]
      repeat (first | (with_reducible first | refine vseq ?_ | refine vthenN ?_ | refine vthenE ?_ | refine vthenR ?_ | refine vret ?_ | refine vskip ?_ | refine vexit ?_ | refine vblock ?_ | refine vblockN ?_ | refine vblockR ?_ | refine vblockH ?_ | refine vrun_nil ?_ | refine vblockE rfl ?_ | refine vregion [] ?_ | refine vhrun_nil ?_) | ((with_reducible refine vcondT ?_ ?_); (focus (go_simp; done))) | ((with_reducible refine vcondF ?_ ?_); (focus (go_simp; done))) | ((with_reducible first | refine vrun_cons fun KK hKK => ?_ | refine vhrun_cons fun KK hKK => ?_); go_simp; refine hKK _ ?_; clear hKK KK) | ((with_reducible refine vhc_cons rfl fun KK hKK => ?_); go_simp; refine hKK _ (by go_simp) ?_; clear hKK KK) | ((with_reducible refine vhc_nil ?_); simp only [List.cons_append, List.nil_append, newCs, nextCs, if_true]))
      refine vhc_chain [some (.arr 36 3 false (l.map Rc.av))] none (.osl 0) rfl ⟨rfl, fun _ => rfl, fun _ h => by cases h⟩ ?_ ?_
      · intro s2 hs2
        have q1 : lkp s2 17 = recsA l := (hs2 17 (by simp [Op.operands, Call.operands]) (by go_simp)).trans (by go_simp)
        clear hs2
        go_simp
        refine ⟨36, 3, l.map Rc.av, ?_⟩
        go_simp
      repeat (first | (with_reducible first | refine vseq ?_ | refine vthenN ?_ | refine vthenE ?_ | refine vthenR ?_ | refine vret ?_ | refine vskip ?_ | refine vexit ?_ | refine vblock ?_ | refine vblockN ?_ | refine vblockR ?_ | refine vblockH ?_ | refine vrun_nil ?_ | refine vblockE rfl ?_ | refine vregion [] ?_ | refine vhrun_nil ?_) | ((with_reducible refine vcondT ?_ ?_); (focus (go_simp; done))) | ((with_reducible refine vcondF ?_ ?_); (focus (go_simp; done))) | ((with_reducible first | refine vrun_cons fun KK hKK => ?_ | refine vhrun_cons fun KK hKK => ?_); go_simp; refine hKK _ ?_; clear hKK KK) | ((with_reducible refine vhc_cons rfl fun KK hKK => ?_); go_simp; refine hKK _ (by go_simp) ?_; clear hKK KK) | ((with_reducible refine vhc_nil ?_); simp only [List.cons_append, List.nil_append, newCs, nextCs, if_true]))
      refine vhc_chain [some (.arr 36 3 false (l.map Rc.av ++ [[S ⟨#[]⟩, I t.start, I (t.start + n)]]))] (some 0) (.osl 0) rfl ⟨rfl, fun h => (by cases h), fun _ h => (by cases h; exact Nat.le_refl _)⟩ ?_ ?_
      · intro s2 hs2
        have q1 : lkp s2 18 = .osl 0 := (hs2 18 (by simp [Op.operands, Call.operands]) (by go_simp)).trans (by go_simp)
        have q2 : lkp s2 23 = .sl 3 [[S ⟨#[]⟩, I t.start, I (t.start + n)]] := (hs2 23 (by simp [Op.operands, Call.operands]) (by go_simp)).trans (by go_simp)
        clear hs2
        go_simp
      repeat (first | (with_reducible first | refine vseq ?_ | refine vthenN ?_ | refine vthenE ?_ | refine vthenR ?_ | refine vret ?_ | refine vskip ?_ | refine vexit ?_ | refine vblock ?_ | refine vblockN ?_ | refine vblockR ?_ | refine vblockH ?_ | refine vrun_nil ?_ | refine vblockE rfl ?_ | refine vregion [] ?_ | refine vhrun_nil ?_) | ((with_reducible refine vcondT ?_ ?_); (focus (go_simp; done))) | ((with_reducible refine vcondF ?_ ?_); (focus (go_simp; done))) | ((with_reducible first | refine vrun_cons fun KK hKK => ?_ | refine vhrun_cons fun KK hKK => ?_); go_simp; refine hKK _ ?_; clear hKK KK) | ((with_reducible refine vhc_cons rfl fun KK hKK => ?_); go_simp; refine hKK _ (by go_simp) ?_; clear hKK KK) | ((with_reducible refine vhc_nil ?_); simp only [List.cons_append, List.nil_append, newCs]))
      repeat' (first | (with_reducible first | refine vseq ?_ | refine vthenN ?_ | refine vthenE ?_ | refine vthenR ?_ | refine vret ?_ | refine vskip ?_ | refine vexit ?_ | refine vblock ?_ | refine vblockN ?_ | refine vblockR ?_ | refine vblockH ?_ | refine vrun_nil ?_ | refine vblockE rfl ?_ | refine vregion [] ?_ | refine vhrun_nil ?_) | ((with_reducible refine vcondT ?_ ?_); (focus (go_simp; done))) | ((with_reducible refine vcondF ?_ ?_); (focus (go_simp; done))) | ((with_reducible first | refine vrun_cons fun KK hKK => ?_ | refine vhrun_cons fun KK hKK => ?_); go_simp; (first | (refine ⟨_, ⟨G2.out, rfl⟩, ?_⟩) | skip); refine hKK _ ?_; clear hKK KK) | ((refine vdrawL 10 8 [] rfl (by kernel_rfl) (by kernel_rfl) ?_); simp only [List.append, List.take, List.drop]) | ((with_reducible refine vcondS ?_ (fun ht => ?_) (fun ht => ?_)); (focus (go_simp; done)); (all_goals (simp [go_sem] at ht; replace ht := ht.out))) | ((apply vrun_consG0 rfl); (focus (go_simp <;> exact rfl)); (focus (go_simp; done)); (focus (intro hb0; replace hb0 := hb0.out; go_simp <;> (first | exact rfl | exact G2.out | exact ⟨G2.out, rfl⟩))); intro KK hKK; go_simp; refine hKK _ ?_; clear hKK KK) | ((apply vhrun_consG0 rfl); (focus (go_simp <;> exact rfl)); (focus (intro hb0; replace hb0 := hb0.out; go_simp <;> (first | exact rfl | exact G2.out | exact ⟨G2.out, rfl⟩))); intro KK hKK; go_simp; refine hKK _ ?_; clear hKK KK))
      go_simp
    · by_cases h2 : t.next - (t.start + n) < r.rest
      · rw [if_pos ⟨h1, h2⟩]
        refine VC_of Tryz.func44 rfl (by kernel_rfl) (by kernel_rfl) rfl fun M0 w0 => ?_
        simp only [Tryz.ntmps44, Tryz.results44, enumA]
        repeat' (first | (with_reducible first | refine vseq ?_ | refine vthenN ?_ | refine vthenE ?_ | refine vthenR ?_ | refine vret ?_ | refine vskip ?_ | refine vexit ?_ | refine vblock ?_ | refine vblockN ?_ | refine vblockR ?_ | refine vblockH ?_ | refine vrun_nil ?_ | refine vblockE rfl ?_ | refine vregion [] ?_ | refine vhrun_nil ?_) | ((with_reducible refine vcondT ?_ ?_); (focus (go_simp; done))) | ((with_reducible refine vcondF ?_ ?_); (focus (go_simp; done))) | ((with_reducible first | refine vrun_cons fun KK hKK => ?_ | refine vhrun_cons fun KK hKK => ?_); go_simp; refine hKK _ ?_; clear hKK KK) | ((with_reducible refine vcondS ?_ (fun ht => ?_) (fun ht => ?_)); (focus (go_simp; done)); (all_goals (simp [go_sem] at ht; replace ht := ht.out))) | ((apply vrun_consG0 rfl); (focus (go_simp <;> exact rfl)); (focus (go_simp; done)); (focus (intro hb0; replace hb0 := hb0.out; go_simp <;> (first | exact rfl))); intro KK hKK; go_simp; refine hKK _ ?_; clear hKK KK) | ((apply vhrun_consG0 rfl); (focus (go_simp <;> exact rfl)); (focus (intro hb0; replace hb0 := hb0.out; go_simp <;> (first | exact rfl))); intro KK hKK; go_simp; refine hKK _ ?_; clear hKK KK))
        refine vdrawC 9 [18] (fun i => i == 2 || i == 8) (by kernel_rfl) (by kernel_rfl) (by kernel_rfl) (by go_simp) (by go_simp) ?_
        simp only [List.take, List.drop]
        repeat (first | (with_reducible first | refine vseq ?_ | refine vthenN ?_ | refine vthenE ?_ | refine vthenR ?_ | refine vret ?_ | refine vskip ?_ | refine vexit ?_ | refine vblock ?_ | refine vblockN ?_ | refine vblockR ?_ | refine vblockH ?_ | refine vrun_nil ?_ | refine vblockE rfl ?_ | refine vregion [] ?_ | refine vhrun_nil ?_) | ((with_reducible refine vcondT ?_ ?_); (focus (go_simp; done))) | ((with_reducible refine vcondF ?_ ?_); (focus (go_simp; done))) | ((with_reducible first | refine vrun_cons fun KK hKK => ?_ | refine vhrun_cons fun KK hKK => ?_); go_simp; refine hKK _ ?_; clear hKK KK) | ((with_reducible refine vhc_cons rfl fun KK hKK => ?_); go_simp; refine hKK _ (by go_simp) ?_; clear hKK KK) | ((with_reducible refine vhc_nil ?_); simp only [List.cons_append, List.nil_append, newCs, nextCs, if_true]))
        refine vhc_chain [some (.arr 36 3 false (l.map Rc.av))] none (.osl 0) rfl ⟨rfl, fun _ => rfl, fun _ h => by cases h⟩ ?_ ?_
        · intro s2 hs2
          have q1 : lkp s2 17 = recsA l := (hs2 17 (by simp [Op.operands, Call.operands]) (by go_simp)).trans (by go_simp)
          clear hs2
          go_simp
          refine ⟨36, 3, l.map Rc.av, ?_⟩
          go_simp
        repeat (first | (with_reducible first | refine vseq ?_ | refine vthenN ?_ | refine vthenE ?_ | refine vthenR ?_ | refine vret ?_ | refine vskip ?_ | refine vexit ?_ | refine vblock ?_ | refine vblockN ?_ | refine vblockR ?_ | refine vblockH ?_ | refine vrun_nil ?_ | refine vblockE rfl ?_ | refine vregion [] ?_ | refine vhrun_nil ?_) | ((with_reducible refine vcondT ?_ ?_); (focus (go_simp; done))) | ((with_reducible refine vcondF ?_ ?_); (focus (go_simp; done))) | ((with_reducible first | refine vrun_cons fun KK hKK => ?_ | refine vhrun_cons fun KK hKK => ?_); go_simp; refine hKK _ ?_; clear hKK KK) | ((with_reducible refine vhc_cons rfl fun KK hKK => ?_); go_simp; refine hKK _ (by go_simp) ?_; clear hKK KK) | ((with_reducible refine vhc_nil ?_); simp only [List.cons_append, List.nil_append, newCs, nextCs, if_true]))
        refine vhc_chain [some (.arr 36 3 false (l.map Rc.av ++ [[S ⟨#[]⟩, I t.start, I (t.start + n)]]))] (some 0) (.osl 0) rfl ⟨rfl, fun h => (by cases h), fun _ h => (by cases h; exact Nat.le_refl _)⟩ ?_ ?_
        · intro s2 hs2
          have q1 : lkp s2 18 = .osl 0 := (hs2 18 (by simp [Op.operands, Call.operands]) (by go_simp)).trans (by go_simp)
          have q2 : lkp s2 23 = .sl 3 [[S ⟨#[]⟩, I t.start, I (t.start + n)]] := (hs2 23 (by simp [Op.operands, Call.operands]) (by go_simp)).trans (by go_simp)
          clear hs2
          go_simp
        repeat (first | (with_reducible first | refine vseq ?_ | refine vthenN ?_ | refine vthenE ?_ | refine vthenR ?_ | refine vret ?_ | refine vskip ?_ | refine vexit ?_ | refine vblock ?_ | refine vblockN ?_ | refine vblockR ?_ | refine vblockH ?_ | refine vrun_nil ?_ | refine vblockE rfl ?_ | refine vregion [] ?_ | refine vhrun_nil ?_) | ((with_reducible refine vcondT ?_ ?_); (focus (go_simp; done))) | ((with_reducible refine vcondF ?_ ?_); (focus (go_simp; done))) | ((with_reducible first | refine vrun_cons fun KK hKK => ?_ | refine vhrun_cons fun KK hKK => ?_); go_simp; refine hKK _ ?_; clear hKK KK) | ((with_reducible refine vhc_cons rfl fun KK hKK => ?_); go_simp; refine hKK _ (by go_simp) ?_; clear hKK KK) | ((with_reducible refine vhc_nil ?_); simp only [List.cons_append, List.nil_append, newCs]))
        repeat' (first | (with_reducible first | refine vseq ?_ | refine vthenN ?_ | refine vthenE ?_ | refine vthenR ?_ | refine vret ?_ | refine vskip ?_ | refine vexit ?_ | refine vblock ?_ | refine vblockN ?_ | refine vblockR ?_ | refine vblockH ?_ | refine vrun_nil ?_ | refine vblockE rfl ?_ | refine vregion [] ?_ | refine vhrun_nil ?_) | ((with_reducible refine vcondT ?_ ?_); (focus (go_simp; done))) | ((with_reducible refine vcondF ?_ ?_); (focus (go_simp; done))) | ((with_reducible first | refine vrun_cons fun KK hKK => ?_ | refine vhrun_cons fun KK hKK => ?_); go_simp; (first | (refine ⟨_, ⟨G2.out, rfl⟩, ?_⟩) | skip); refine hKK _ ?_; clear hKK KK) | ((refine vdrawL 10 8 [] rfl (by kernel_rfl) (by kernel_rfl) ?_); simp only [List.append, List.take, List.drop]) | ((with_reducible refine vcondS ?_ (fun ht => ?_) (fun ht => ?_)); (focus (go_simp; done)); (all_goals (simp [go_sem] at ht; replace ht := ht.out))) | ((apply vrun_consG0 rfl); (focus (go_simp <;> exact rfl)); (focus (go_simp; done)); (focus (intro hb0; replace hb0 := hb0.out; go_simp <;> (first | exact rfl | exact G2.out | exact ⟨G2.out, rfl⟩))); intro KK hKK; go_simp; refine hKK _ ?_; clear hKK KK) | ((apply vhrun_consG0 rfl); (focus (go_simp <;> exact rfl)); (focus (intro hb0; replace hb0 := hb0.out; go_simp <;> (first | exact rfl | exact G2.out | exact ⟨G2.out, rfl⟩))); intro KK hKK; go_simp; refine hKK _ ?_; clear hKK KK))
        go_simp
      · rw [if_neg fun h => h2 h.2]
        refine VC_of Tryz.func44 rfl (by kernel_rfl) (by kernel_rfl) rfl fun M0 w0 => ?_
        simp only [Tryz.ntmps44, Tryz.results44, enumA]
        repeat' (first | (with_reducible first | refine vseq ?_ | refine vthenN ?_ | refine vthenE ?_ | refine vthenR ?_ | refine vret ?_ | refine vskip ?_ | refine vexit ?_ | refine vblock ?_ | refine vblockN ?_ | refine vblockR ?_ | refine vblockH ?_ | refine vrun_nil ?_ | refine vblockE rfl ?_ | refine vregion [] ?_ | refine vhrun_nil ?_) | ((with_reducible refine vcondT ?_ ?_); (focus (go_simp; done))) | ((with_reducible refine vcondF ?_ ?_); (focus (go_simp; done))) | ((with_reducible first | refine vrun_cons fun KK hKK => ?_ | refine vhrun_cons fun KK hKK => ?_); go_simp; refine hKK _ ?_; clear hKK KK) | ((with_reducible refine vcondS ?_ (fun ht => ?_) (fun ht => ?_)); (focus (go_simp; done)); (all_goals (simp [go_sem] at ht; replace ht := ht.out))) | ((apply vrun_consG0 rfl); (focus (go_simp <;> exact rfl)); (focus (go_simp; done)); (focus (intro hb0; replace hb0 := hb0.out; go_simp <;> (first | exact rfl))); intro KK hKK; go_simp; refine hKK _ ?_; clear hKK KK) | ((apply vhrun_consG0 rfl); (focus (go_simp <;> exact rfl)); (focus (intro hb0; replace hb0 := hb0.out; go_simp <;> (first | exact rfl))); intro KK hKK; go_simp; refine hKK _ ?_; clear hKK KK))
        refine vdrawC 9 [18] (fun i => i == 2 || i == 8) (by kernel_rfl) (by kernel_rfl) (by kernel_rfl) (by go_simp) (by go_simp) ?_
        simp only [List.take, List.drop]
        repeat (first | (with_reducible first | refine vseq ?_ | refine vthenN ?_ | refine vthenE ?_ | refine vthenR ?_ | refine vret ?_ | refine vskip ?_ | refine vexit ?_ | refine vblock ?_ | refine vblockN ?_ | refine vblockR ?_ | refine vblockH ?_ | refine vrun_nil ?_ | refine vblockE rfl ?_ | refine vregion [] ?_ | refine vhrun_nil ?_) | ((with_reducible refine vcondT ?_ ?_); (focus (go_simp; done))) | ((with_reducible refine vcondF ?_ ?_); (focus (go_simp; done))) | ((with_reducible first | refine vrun_cons fun KK hKK => ?_ | refine vhrun_cons fun KK hKK => ?_); go_simp; refine hKK _ ?_; clear hKK KK) | ((with_reducible refine vhc_cons rfl fun KK hKK => ?_); go_simp; refine hKK _ (by go_simp) ?_; clear hKK KK) | ((with_reducible refine vhc_nil ?_); simp only [List.cons_append, List.nil_append, newCs, nextCs, if_true]))
        refine vhc_chain [some (.arr 36 3 false (l.map Rc.av))] none (.osl 0) rfl ⟨rfl, fun _ => rfl, fun _ h => by cases h⟩ ?_ ?_
        · intro s2 hs2
          have q1 : lkp s2 17 = recsA l := (hs2 17 (by simp [Op.operands, Call.operands]) (by go_simp)).trans (by go_simp)
          clear hs2
          go_simp
          refine ⟨36, 3, l.map Rc.av, ?_⟩
          go_simp
        repeat (first | (with_reducible first | refine vseq ?_ | refine vthenN ?_ | refine vthenE ?_ | refine vthenR ?_ | refine vret ?_ | refine vskip ?_ | refine vexit ?_ | refine vblock ?_ | refine vblockN ?_ | refine vblockR ?_ | refine vblockH ?_ | refine vrun_nil ?_ | refine vblockE rfl ?_ | refine vregion [] ?_ | refine vhrun_nil ?_) | ((with_reducible refine vcondT ?_ ?_); (focus (go_simp; done))) | ((with_reducible refine vcondF ?_ ?_); (focus (go_simp; done))) | ((with_reducible first | refine vrun_cons fun KK hKK => ?_ | refine vhrun_cons fun KK hKK => ?_); go_simp; refine hKK _ ?_; clear hKK KK) | ((with_reducible refine vhc_cons rfl fun KK hKK => ?_); go_simp; refine hKK _ (by go_simp) ?_; clear hKK KK) | ((with_reducible refine vhc_nil ?_); simp only [List.cons_append, List.nil_append, newCs, nextCs, if_true]))
        refine vhc_chain [some (.arr 36 3 false (l.map Rc.av ++ [[S ⟨#[]⟩, I t.start, I (t.start + n)]]))] (some 0) (.osl 0) rfl ⟨rfl, fun h => (by cases h), fun _ h => (by cases h; exact Nat.le_refl _)⟩ ?_ ?_
        · intro s2 hs2
          have q1 : lkp s2 18 = .osl 0 := (hs2 18 (by simp [Op.operands, Call.operands]) (by go_simp)).trans (by go_simp)
          have q2 : lkp s2 23 = .sl 3 [[S ⟨#[]⟩, I t.start, I (t.start + n)]] := (hs2 23 (by simp [Op.operands, Call.operands]) (by go_simp)).trans (by go_simp)
          clear hs2
          go_simp
        repeat (first | (with_reducible first | refine vseq ?_ | refine vthenN ?_ | refine vthenE ?_ | refine vthenR ?_ | refine vret ?_ | refine vskip ?_ | refine vexit ?_ | refine vblock ?_ | refine vblockN ?_ | refine vblockR ?_ | refine vblockH ?_ | refine vrun_nil ?_ | refine vblockE rfl ?_ | refine vregion [] ?_ | refine vhrun_nil ?_) | ((with_reducible refine vcondT ?_ ?_); (focus (go_simp; done))) | ((with_reducible refine vcondF ?_ ?_); (focus (go_simp; done))) | ((with_reducible first | refine vrun_cons fun KK hKK => ?_ | refine vhrun_cons fun KK hKK => ?_); go_simp; refine hKK _ ?_; clear hKK KK) | ((with_reducible refine vhc_cons rfl fun KK hKK => ?_); go_simp; refine hKK _ (by go_simp) ?_; clear hKK KK) | ((with_reducible refine vhc_nil ?_); simp only [List.cons_append, List.nil_append, newCs]))
        repeat' (first | (with_reducible first | refine vseq ?_ | refine vthenN ?_ | refine vthenE ?_ | refine vthenR ?_ | refine vret ?_ | refine vskip ?_ | refine vexit ?_ | refine vblock ?_ | refine vblockN ?_ | refine vblockR ?_ | refine vblockH ?_ | refine vrun_nil ?_ | refine vblockE rfl ?_ | refine vregion [] ?_ | refine vhrun_nil ?_) | ((with_reducible refine vcondT ?_ ?_); (focus (go_simp; done))) | ((with_reducible refine vcondF ?_ ?_); (focus (go_simp; done))) | ((with_reducible first | refine vrun_cons fun KK hKK => ?_ | refine vhrun_cons fun KK hKK => ?_); go_simp; (first | (refine ⟨_, ⟨G2.out, rfl⟩, ?_⟩) | skip); refine hKK _ ?_; clear hKK KK) | ((refine vdrawL 10 8 [] rfl (by kernel_rfl) (by kernel_rfl) ?_); simp only [List.append, List.take, List.drop]) | ((with_reducible refine vcondS ?_ (fun ht => ?_) (fun ht => ?_)); (focus (go_simp; done)); (all_goals (simp [go_sem] at ht; replace ht := ht.out))) | ((apply vrun_consG0 rfl); (focus (go_simp <;> exact rfl)); (focus (go_simp; done)); (focus (intro hb0; replace hb0 := hb0.out; go_simp <;> (first | exact rfl | exact G2.out | exact ⟨G2.out, rfl⟩))); intro KK hKK; go_simp; refine hKK _ ?_; clear hKK KK) | ((apply vhrun_consG0 rfl); (focus (go_simp <;> exact rfl)); (focus (intro hb0; replace hb0 := hb0.out; go_simp <;> (first | exact rfl | exact G2.out | exact ⟨G2.out, rfl⟩))); intro KK hKK; go_simp; refine hKK _ ?_; clear hKK KK))
        go_simp
  · rw [if_pos hc]
    refine VC_of Tryz.func44 rfl (by kernel_rfl) (by kernel_rfl) rfl fun M0 w0 => ?_
    simp only [Tryz.ntmps44, Tryz.results44, enumA]
    repeat' (first | (with_reducible first | refine vseq ?_ | refine vthenN ?_ | refine vthenE ?_ | refine vthenR ?_ | refine vret ?_ | refine vskip ?_ | refine vexit ?_ | refine vblock ?_ | refine vblockN ?_ | refine vblockR ?_ | refine vblockH ?_ | refine vrun_nil ?_ | refine vblockE rfl ?_ | refine vregion [] ?_ | refine vhrun_nil ?_) | ((with_reducible refine vcondT ?_ ?_); (focus (go_simp; done))) | ((with_reducible refine vcondF ?_ ?_); (focus (go_simp; done))) | ((with_reducible first | refine vrun_cons fun KK hKK => ?_ | refine vhrun_cons fun KK hKK => ?_); go_simp; refine hKK _ ?_; clear hKK KK) | ((with_reducible refine vcondS ?_ (fun ht => ?_) (fun ht => ?_)); (focus (go_simp; done)); (all_goals (simp [go_sem] at ht; replace ht := ht.out))) | ((apply vrun_consG0 rfl); (focus (go_simp <;> exact rfl)); (focus (go_simp; done)); (focus (intro hb0; replace hb0 := hb0.out; go_simp <;> (first | exact rfl))); intro KK hKK; go_simp; refine hKK _ ?_; clear hKK KK) | ((apply vhrun_consG0 rfl); (focus (go_simp <;> exact rfl)); (focus (intro hb0; replace hb0 := hb0.out; go_simp <;> (first | exact rfl))); intro KK hKK; go_simp; refine hKK _ ?_; clear hKK KK))
    refine vdrawC 9 [18] (fun i => i == 2 || i == 8) (by kernel_rfl) (by kernel_rfl) (by kernel_rfl) (by go_simp) (by go_simp) ?_
    simp only [List.take, List.drop]
    repeat (first | (with_reducible first | refine vseq ?_ | refine vthenN ?_ | refine vthenE ?_ | refine vthenR ?_ | refine vret ?_ | refine vskip ?_ | refine vexit ?_ | refine vblock ?_ | refine vblockN ?_ | refine vblockR ?_ | refine vblockH ?_ | refine vrun_nil ?_ | refine vblockE rfl ?_ | refine vregion [] ?_ | refine vhrun_nil ?_) | ((with_reducible refine vcondT ?_ ?_); (focus (go_simp; done))) | ((with_reducible refine vcondF ?_ ?_); (focus (go_simp; done))) | ((with_reducible first | refine vrun_cons fun KK hKK => ?_ | refine vhrun_cons fun KK hKK => ?_); go_simp; refine hKK _ ?_; clear hKK KK) | ((with_reducible refine vhc_cons rfl fun KK hKK => ?_); go_simp; refine hKK _ (by go_simp) ?_; clear hKK KK) | ((with_reducible refine vhc_nil ?_); simp only [List.cons_append, List.nil_append, newCs, nextCs, if_true]))
    refine vhc_chain [some (.arr 36 3 false (l.map Rc.av))] none (.osl 0) rfl ⟨rfl, fun _ => rfl, fun _ h => by cases h⟩ ?_ ?_
    · intro s2 hs2
      have q1 : lkp s2 17 = recsA l := (hs2 17 (by simp [Op.operands, Call.operands]) (by go_simp)).trans (by go_simp)
      clear hs2
      go_simp
      refine ⟨36, 3, l.map Rc.av, ?_⟩
      go_simp
    repeat (first | (with_reducible first | refine vseq ?_ | refine vthenN ?_ | refine vthenE ?_ | refine vthenR ?_ | refine vret ?_ | refine vskip ?_ | refine vexit ?_ | refine vblock ?_ | refine vblockN ?_ | refine vblockR ?_ | refine vblockH ?_ | refine vrun_nil ?_ | refine vblockE rfl ?_ | refine vregion [] ?_ | refine vhrun_nil ?_) | ((with_reducible refine vcondT ?_ ?_); (focus (go_simp; done))) | ((with_reducible refine vcondF ?_ ?_); (focus (go_simp; done))) | ((with_reducible first | refine vrun_cons fun KK hKK => ?_ | refine vhrun_cons fun KK hKK => ?_); go_simp; refine hKK _ ?_; clear hKK KK) | ((with_reducible refine vhc_cons rfl fun KK hKK => ?_); go_simp; refine hKK _ (by go_simp) ?_; clear hKK KK) | ((with_reducible refine vhc_nil ?_); simp only [List.cons_append, List.nil_append, newCs, nextCs, if_true]))
    refine vhc_chain [some (.arr 36 3 false (l.map Rc.av ++ [[S ⟨#[]⟩, I t.start, I (t.start + n)]]))] (some 0) (.osl 0) rfl ⟨rfl, fun h => (by cases h), fun _ h => (by cases h; exact Nat.le_refl _)⟩ ?_ ?_
    · intro s2 hs2
      have q1 : lkp s2 18 = .osl 0 := (hs2 18 (by simp [Op.operands, Call.operands]) (by go_simp)).trans (by go_simp)
      have q2 : lkp s2 23 = .sl 3 [[S ⟨#[]⟩, I t.start, I (t.start + n)]] := (hs2 23 (by simp [Op.operands, Call.operands]) (by go_simp)).trans (by go_simp)
      clear hs2
      go_simp
    repeat (first | (with_reducible first | refine vseq ?_ | refine vthenN ?_ | refine vthenE ?_ | refine vthenR ?_ | refine vret ?_ | refine vskip ?_ | refine vexit ?_ | refine vblock ?_ | refine vblockN ?_ | refine vblockR ?_ | refine vblockH ?_ | refine vrun_nil ?_ | refine vblockE rfl ?_ | refine vregion [] ?_ | refine vhrun_nil ?_) | ((with_reducible refine vcondT ?_ ?_); (focus (go_simp; done))) | ((with_reducible refine vcondF ?_ ?_); (focus (go_simp; done))) | ((with_reducible first | refine vrun_cons fun KK hKK => ?_ | refine vhrun_cons fun KK hKK => ?_); go_simp; refine hKK _ ?_; clear hKK KK) | ((with_reducible refine vhc_cons rfl fun KK hKK => ?_); go_simp; refine hKK _ (by go_simp) ?_; clear hKK KK) | ((with_reducible refine vhc_nil ?_); simp only [List.cons_append, List.nil_append, newCs]))
    repeat' (first | (with_reducible first | refine vseq ?_ | refine vthenN ?_ | refine vthenE ?_ | refine vthenR ?_ | refine vret ?_ | refine vskip ?_ | refine vexit ?_ | refine vblock ?_ | refine vblockN ?_ | refine vblockR ?_ | refine vblockH ?_ | refine vrun_nil ?_ | refine vblockE rfl ?_ | refine vregion [] ?_ | refine vhrun_nil ?_) | ((with_reducible refine vcondT ?_ ?_); (focus (go_simp; done))) | ((with_reducible refine vcondF ?_ ?_); (focus (go_simp; done))) | ((with_reducible first | refine vrun_cons fun KK hKK => ?_ | refine vhrun_cons fun KK hKK => ?_); go_simp; (first | (refine ⟨_, ⟨G2.out, rfl⟩, ?_⟩) | skip); refine hKK _ ?_; clear hKK KK) | ((refine vdrawL 10 8 [] rfl (by kernel_rfl) (by kernel_rfl) ?_); simp only [List.append, List.take, List.drop]) | ((with_reducible refine vcondS ?_ (fun ht => ?_) (fun ht => ?_)); (focus (go_simp; done)); (all_goals (simp [go_sem] at ht; replace ht := ht.out))) | ((apply vrun_consG0 rfl); (focus (go_simp <;> exact rfl)); (focus (go_simp; done)); (focus (intro hb0; replace hb0 := hb0.out; go_simp <;> (first | exact rfl | exact G2.out | exact ⟨G2.out, rfl⟩))); intro KK hKK; go_simp; refine hKK _ ?_; clear hKK KK) | ((apply vhrun_consG0 rfl); (focus (go_simp <;> exact rfl)); (focus (intro hb0; replace hb0 := hb0.out; go_simp <;> (first | exact rfl | exact G2.out | exact ⟨G2.out, rfl⟩))); intro KK hKK; go_simp; refine hKK _ ?_; clear hKK KK))
    go_simp
end Go.Proofs.YtmfmpagfjgpodaaGreatDoor

/-! SWF: Chapter 7: the examples are so; no condition. -/
namespace Go.Proofs.YtmfmpagfjgpodaaGreatDoor
open Go.RowKit
set_option maxRecDepth 100000
set_option maxHeartbeats 1000000
def tripOK (r : Rul) (l : List Rc) (t : Trp) : Bool :=
  decide (l.length < 40) && isTm t.start && inR t.lo 0 200000 && inR t.hi 0 200000 && decide (t.lo ≤ t.hi) && (decide (t.next = -1) || isTm t.next) && decide (endF l ≤ t.start) && decide ((firstB r l).2 = 0)
theorem w_take (n : Int) : VC Tryz.prog 59 [I n] (B (inR n 0 200000)) := by
  refine VC_of Tryz.func59 rfl (by kernel_rfl) (by kernel_rfl) rfl fun M0 w0 => ?_
  simp only [Tryz.ntmps59, Tryz.results59, enumA]
  repeat' (first | (with_reducible first | refine vseq ?_ | refine vthenN ?_ | refine vthenE ?_ | refine vthenR ?_ | refine vret ?_ | refine vskip ?_ | refine vexit ?_ | refine vblock ?_ | refine vblockN ?_ | refine vblockR ?_ | refine vblockH ?_ | refine vrun_nil ?_ | refine vblockE rfl ?_ | refine vregion [] ?_ | refine vhrun_nil ?_) | ((with_reducible refine vcondT ?_ ?_); (focus (go_simp; done))) | ((with_reducible refine vcondF ?_ ?_); (focus (go_simp; done))) | ((with_reducible first | refine vrun_cons fun KK hKK => ?_ | refine vhrun_cons fun KK hKK => ?_); go_simp; (first | (with_reducible refine ⟨_, p_within _ _ _, ?_⟩) | skip); refine hKK _ ?_; clear hKK KK) | ((with_reducible refine vcondS ?_ (fun ht => ?_) (fun ht => ?_)); (focus (go_simp; done)); (all_goals (simp [go_sem] at ht; replace ht := ht.out))))
  go_simp
theorem w_openTrip (r : Rul) (l : List Rc) (t : Trp) (hs : SmallR l) (hT : Timed l) (hr : SmallRul r) (h1 : rulE r = 0) (h2 : (recsE l).2 = 0) (hk : tripOK r l t = true) :
    VC Tryz.prog 41 [rulA r, recsA l, tripA t] (.tup [workA r l, I 0]) := by
  unfold tripOK at hk
  simp only [Bool.and_eq_true, decide_eq_true_eq] at hk
  obtain ⟨⟨⟨⟨⟨⟨⟨k1, k2⟩, k3⟩, k4⟩, k5⟩, k6⟩, k7⟩, k8⟩ := hk
  have g1 := w_open r l (by omega) hs h1 h2
  have g2 := w_isTime t.start
  rw [k2] at g2
  have g3 := w_take t.lo
  rw [k3] at g3
  have g4 := w_take t.hi
  rw [k4] at g4
  have g5 := w_end r l (by omega)
  have g6 := w_firstBroken r l (by omega) hT hr
  rw [k8] at g6
  have c1 : (l.length : Int) < 40 := by omega
  have o (e : Int) : VC Tryz.prog 23 [B true, I e] (I 0) := p_unless true e
  have o16 := o 16
  have o2 := o 2
  have o9 := o 9
  have o26 := o 26
  have o22 := o 22
  have f6 : VC Tryz.prog 27 [.sl 1 ([0, 0, 0, 0, 0, 0].map intA)] (I 0) := p_first [0, 0, 0, 0, 0, 0] (by decide)
  generalize endF l = E at *
  generalize (firstB r l).1 = N at *
  clear hs hT hr h1 h2 k2 k3 k4 k8 o
  by_cases hn : t.next = -1
  · clear k6
    refine VC_of Tryz.func41 rfl (by kernel_rfl) (by kernel_rfl) rfl fun M0 w0 => ?_
    simp only [Tryz.ntmps41, Tryz.results41, enumA]
    repeat' (first | (with_reducible first | refine vseq ?_ | refine vthenN ?_ | refine vthenE ?_ | refine vthenR ?_ | refine vret ?_ | refine vskip ?_ | refine vexit ?_ | refine vblock ?_ | refine vblockN ?_ | refine vblockR ?_ | refine vblockH ?_ | refine vrun_nil ?_ | refine vblockE rfl ?_ | refine vregion [] ?_ | refine vhrun_nil ?_) | ((with_reducible refine vcondT ?_ ?_); (focus (go_simp; done))) | ((with_reducible refine vcondF ?_ ?_); (focus (go_simp; done))) | ((with_reducible first | refine vrun_cons fun KK hKK => ?_ | refine vhrun_cons fun KK hKK => ?_); go_simp; (first | (with_reducible refine ⟨_, g1, ?_⟩) | (with_reducible refine ⟨_, g2, ?_⟩) | (with_reducible refine ⟨_, g3, ?_⟩) | (with_reducible refine ⟨_, g4, ?_⟩) | (with_reducible refine ⟨_, g5, ?_⟩) | (refine ⟨_, g6, ?_⟩) | (with_reducible refine ⟨_, o16, ?_⟩) | (with_reducible refine ⟨_, o2, ?_⟩) | (with_reducible refine ⟨_, o9, ?_⟩) | (with_reducible refine ⟨_, o26, ?_⟩) | (with_reducible refine ⟨_, o22, ?_⟩) | (refine ⟨_, f6, ?_⟩) | skip); refine hKK _ ?_; clear hKK KK) | ((refine vdrawL 8 6 [] rfl (by kernel_rfl) (by kernel_rfl) ?_); simp only [List.take, List.drop]) | ((refine vdrawL 49 48 [] rfl (by kernel_rfl) (by kernel_rfl) ?_); simp only [List.take, List.drop]) | ((with_reducible refine vcondS ?_ (fun ht => ?_) (fun ht => ?_)); (focus (go_simp; done)); (all_goals (simp [go_sem] at ht; replace ht := ht.out))) | ((apply vrun_consG0 rfl); (focus (go_simp <;> exact rfl)); (focus (go_simp; done)); (focus (intro hb0; replace hb0 := hb0.out; go_simp <;> (first | exact rfl | exact g1 | exact g2 | exact g3 | exact g4 | exact g5 | exact g6 | exact o16 | exact o2 | exact o9 | exact o26 | exact o22 | exact f6 | exact ⟨g1, rfl⟩ | exact ⟨g2, rfl⟩ | exact ⟨g3, rfl⟩ | exact ⟨g4, rfl⟩ | exact ⟨g5, rfl⟩ | exact ⟨g6, rfl⟩ | exact ⟨o16, rfl⟩ | exact ⟨o2, rfl⟩ | exact ⟨o9, rfl⟩ | exact ⟨o26, rfl⟩ | exact ⟨o22, rfl⟩ | exact ⟨f6, rfl⟩))); intro KK hKK; go_simp; refine hKK _ ?_; clear hKK KK) | ((apply vhrun_consG0 rfl); (focus (go_simp <;> exact rfl)); (focus (intro hb0; replace hb0 := hb0.out; go_simp <;> (first | exact rfl | exact g1 | exact g2 | exact g3 | exact g4 | exact g5 | exact g6 | exact o16 | exact o2 | exact o9 | exact o26 | exact o22 | exact f6 | exact ⟨g1, rfl⟩ | exact ⟨g2, rfl⟩ | exact ⟨g3, rfl⟩ | exact ⟨g4, rfl⟩ | exact ⟨g5, rfl⟩ | exact ⟨g6, rfl⟩ | exact ⟨o16, rfl⟩ | exact ⟨o2, rfl⟩ | exact ⟨o9, rfl⟩ | exact ⟨o26, rfl⟩ | exact ⟨o22, rfl⟩ | exact ⟨f6, rfl⟩))); intro KK hKK; go_simp; refine hKK _ ?_; clear hKK KK))
    go_simp
  · have k6 : isTm t.next = true := by simpa [hn] using k6
    have g7 := w_isTime t.next
    rw [k6] at g7
    clear k6
    refine VC_of Tryz.func41 rfl (by kernel_rfl) (by kernel_rfl) rfl fun M0 w0 => ?_
    simp only [Tryz.ntmps41, Tryz.results41, enumA]
    repeat' (first | (with_reducible first | refine vseq ?_ | refine vthenN ?_ | refine vthenE ?_ | refine vthenR ?_ | refine vret ?_ | refine vskip ?_ | refine vexit ?_ | refine vblock ?_ | refine vblockN ?_ | refine vblockR ?_ | refine vblockH ?_ | refine vrun_nil ?_ | refine vblockE rfl ?_ | refine vregion [] ?_ | refine vhrun_nil ?_) | ((with_reducible refine vcondT ?_ ?_); (focus (go_simp; done))) | ((with_reducible refine vcondF ?_ ?_); (focus (go_simp; done))) | ((with_reducible first | refine vrun_cons fun KK hKK => ?_ | refine vhrun_cons fun KK hKK => ?_); go_simp; (first | (with_reducible refine ⟨_, g1, ?_⟩) | (with_reducible refine ⟨_, g2, ?_⟩) | (with_reducible refine ⟨_, g3, ?_⟩) | (with_reducible refine ⟨_, g4, ?_⟩) | (with_reducible refine ⟨_, g5, ?_⟩) | (with_reducible refine ⟨_, g7, ?_⟩) | (refine ⟨_, g6, ?_⟩) | (with_reducible refine ⟨_, o16, ?_⟩) | (with_reducible refine ⟨_, o2, ?_⟩) | (with_reducible refine ⟨_, o9, ?_⟩) | (with_reducible refine ⟨_, o26, ?_⟩) | (with_reducible refine ⟨_, o22, ?_⟩) | (refine ⟨_, f6, ?_⟩) | skip); refine hKK _ ?_; clear hKK KK) | ((refine vdrawL 8 6 [] rfl (by kernel_rfl) (by kernel_rfl) ?_); simp only [List.take, List.drop]) | ((refine vdrawL 49 48 [] rfl (by kernel_rfl) (by kernel_rfl) ?_); simp only [List.take, List.drop]) | ((with_reducible refine vcondS ?_ (fun ht => ?_) (fun ht => ?_)); (focus (go_simp; done)); (all_goals (simp [go_sem] at ht; replace ht := ht.out))) | ((apply vrun_consG0 rfl); (focus (go_simp <;> exact rfl)); (focus (go_simp; done)); (focus (intro hb0; replace hb0 := hb0.out; go_simp <;> (first | exact rfl | exact g1 | exact g2 | exact g3 | exact g4 | exact g5 | exact g7 | exact g6 | exact o16 | exact o2 | exact o9 | exact o26 | exact o22 | exact f6 | exact ⟨g1, rfl⟩ | exact ⟨g2, rfl⟩ | exact ⟨g3, rfl⟩ | exact ⟨g4, rfl⟩ | exact ⟨g5, rfl⟩ | exact ⟨g7, rfl⟩ | exact ⟨g6, rfl⟩ | exact ⟨o16, rfl⟩ | exact ⟨o2, rfl⟩ | exact ⟨o9, rfl⟩ | exact ⟨o26, rfl⟩ | exact ⟨o22, rfl⟩ | exact ⟨f6, rfl⟩))); intro KK hKK; go_simp; refine hKK _ ?_; clear hKK KK) | ((apply vhrun_consG0 rfl); (focus (go_simp <;> exact rfl)); (focus (intro hb0; replace hb0 := hb0.out; go_simp <;> (first | exact rfl | exact g1 | exact g2 | exact g3 | exact g4 | exact g5 | exact g7 | exact g6 | exact o16 | exact o2 | exact o9 | exact o26 | exact o22 | exact f6 | exact ⟨g1, rfl⟩ | exact ⟨g2, rfl⟩ | exact ⟨g3, rfl⟩ | exact ⟨g4, rfl⟩ | exact ⟨g5, rfl⟩ | exact ⟨g7, rfl⟩ | exact ⟨g6, rfl⟩ | exact ⟨o16, rfl⟩ | exact ⟨o2, rfl⟩ | exact ⟨o9, rfl⟩ | exact ⟨o26, rfl⟩ | exact ⟨o22, rfl⟩ | exact ⟨f6, rfl⟩))); intro KK hKK; go_simp; refine hKK _ ?_; clear hKK KK))
    go_simp
theorem w_Allowed (r : Rul) (l : List Rc) (t : Trp) (hl : l ≠ []) (hs : SmallR l) (hT : Timed l) (hr : SmallRul r) (h1 : rulE r = 0) (h2 : (recsE l).2 = 0) (hk : tripOK r l t = true) (ht : -1 ≤ t.next ∧ t.next ≤ 10000000000) :
    VC Tryz.prog 20 [rulA r, recsA l, tripA t] (.tup [I (if breaksF r l t t.hi = 0 then 2 else if breaksF r l t t.lo = 0 then 1 else 0), I (breaksF r l t t.hi), I 0]) := by
  have g1 := w_openTrip r l t hs hT hr h1 h2 hk
  unfold tripOK at hk
  simp only [Bool.and_eq_true, decide_eq_true_eq] at hk
  obtain ⟨⟨⟨⟨⟨⟨⟨k1, k2⟩, k3⟩, k4⟩, k5⟩, k6⟩, k7⟩, k8⟩ := hk
  have k2 := inR_iff.1 k2
  have k3 := inR_iff.1 k3
  have k4 := inR_iff.1 k4
  have g2 := w_breaks r l t t.lo (by omega) hl (by omega) hT hr (by omega)
  have g3 := w_breaks r l t t.hi (by omega) hl (by omega) hT hr (by omega)
  generalize breaksF r l t t.lo = A at *
  generalize breaksF r l t t.hi = Z at *
  clear hs hT hr h1 h2 k1 k2 k3 k4 k5 k6 k7 k8
  by_cases z1 : Z = 0
  · rw [if_pos z1]
    refine VC_of Tryz.func20 rfl (by kernel_rfl) (by kernel_rfl) rfl fun M0 w0 => ?_
    simp only [Tryz.ntmps20, Tryz.results20, enumA]
    repeat' (first | (with_reducible first | refine vseq ?_ | refine vthenN ?_ | refine vthenE ?_ | refine vthenR ?_ | refine vret ?_ | refine vskip ?_ | refine vexit ?_ | refine vblock ?_ | refine vblockN ?_ | refine vblockR ?_ | refine vblockH ?_ | refine vrun_nil ?_ | refine vblockE rfl ?_ | refine vregion [] ?_ | refine vhrun_nil ?_) | ((with_reducible refine vcondT ?_ ?_); (focus (go_simp; done))) | ((with_reducible refine vcondF ?_ ?_); (focus (go_simp; done))) | ((with_reducible first | refine vrun_cons fun KK hKK => ?_ | refine vhrun_cons fun KK hKK => ?_); go_simp; (first | (with_reducible refine ⟨_, g1, ?_⟩) | (with_reducible refine ⟨_, g2, ?_⟩) | (with_reducible refine ⟨_, g3, ?_⟩) | skip); refine hKK _ ?_; clear hKK KK) | ((with_reducible refine vcondS ?_ (fun ht => ?_) (fun ht => ?_)); (focus (go_simp; done)); (all_goals (simp [go_sem] at ht; replace ht := ht.out))))
    go_simp
  rw [if_neg z1]
  by_cases z2 : A = 0
  · rw [if_pos z2]
    refine VC_of Tryz.func20 rfl (by kernel_rfl) (by kernel_rfl) rfl fun M0 w0 => ?_
    simp only [Tryz.ntmps20, Tryz.results20, enumA]
    repeat' (first | (with_reducible first | refine vseq ?_ | refine vthenN ?_ | refine vthenE ?_ | refine vthenR ?_ | refine vret ?_ | refine vskip ?_ | refine vexit ?_ | refine vblock ?_ | refine vblockN ?_ | refine vblockR ?_ | refine vblockH ?_ | refine vrun_nil ?_ | refine vblockE rfl ?_ | refine vregion [] ?_ | refine vhrun_nil ?_) | ((with_reducible refine vcondT ?_ ?_); (focus (go_simp; done))) | ((with_reducible refine vcondF ?_ ?_); (focus (go_simp; done))) | ((with_reducible first | refine vrun_cons fun KK hKK => ?_ | refine vhrun_cons fun KK hKK => ?_); go_simp; (first | (with_reducible refine ⟨_, g1, ?_⟩) | (with_reducible refine ⟨_, g2, ?_⟩) | (with_reducible refine ⟨_, g3, ?_⟩) | skip); refine hKK _ ?_; clear hKK KK) | ((with_reducible refine vcondS ?_ (fun ht => ?_) (fun ht => ?_)); (focus (go_simp; done)); (all_goals (simp [go_sem] at ht; replace ht := ht.out))))
    go_simp
  · rw [if_neg z2]
    refine VC_of Tryz.func20 rfl (by kernel_rfl) (by kernel_rfl) rfl fun M0 w0 => ?_
    simp only [Tryz.ntmps20, Tryz.results20, enumA]
    repeat' (first | (with_reducible first | refine vseq ?_ | refine vthenN ?_ | refine vthenE ?_ | refine vthenR ?_ | refine vret ?_ | refine vskip ?_ | refine vexit ?_ | refine vblock ?_ | refine vblockN ?_ | refine vblockR ?_ | refine vblockH ?_ | refine vrun_nil ?_ | refine vblockE rfl ?_ | refine vregion [] ?_ | refine vhrun_nil ?_) | ((with_reducible refine vcondT ?_ ?_); (focus (go_simp; done))) | ((with_reducible refine vcondF ?_ ?_); (focus (go_simp; done))) | ((with_reducible first | refine vrun_cons fun KK hKK => ?_ | refine vhrun_cons fun KK hKK => ?_); go_simp; (first | (with_reducible refine ⟨_, g1, ?_⟩) | (with_reducible refine ⟨_, g2, ?_⟩) | (with_reducible refine ⟨_, g3, ?_⟩) | skip); refine hKK _ ?_; clear hKK KK) | ((with_reducible refine vcondS ?_ (fun ht => ?_) (fun ht => ?_)); (focus (go_simp; done)); (all_goals (simp [go_sem] at ht; replace ht := ht.out))))
    go_simp
def longP (r : Rul) (l : List Rc) (s : Int) (n : Nat) : Bool := decide (breaksF r l ⟨s, 0, 0, -1⟩ (n : Int) ≠ 0)
theorem w_long1 (r : Rul) (l : List Rc) (s : Int) (n : Nat) (hl : l ≠ []) (hl2 : l.length ≤ 900) (hT : Timed l) (hr : SmallRul r) (hs : 0 ≤ s ∧ s ≤ 9000000000) (hn : n < 200001) :
    VC Tryz.prog 43 [I (n : Int), .vp [I r.brk, I r.rest, I r.stint, I r.shift, I r.week, recsA l], .vp [I s, I 0, I 0, I (-1)]] (B (longP r l s n)) := by
  have g := w_breaks r l ⟨s, 0, 0, -1⟩ n hl2 hl (by omega) hT hr (by simp only; omega)
  unfold longP
  generalize breaksF r l ⟨s, 0, 0, -1⟩ (n : Int) = c at *
  clear hT hr
  by_cases hc : c = 0
  · subst hc
    rw [show decide ((0 : Int) ≠ 0) = false from rfl]
    refine VC_of Tryz.func43 rfl (by kernel_rfl) (by kernel_rfl) rfl fun M0 w0 => ?_
    simp only [Tryz.ntmps43, Tryz.results43, enumA]
    repeat' (first | (with_reducible first | refine vseq ?_ | refine vthenN ?_ | refine vthenE ?_ | refine vthenR ?_ | refine vret ?_ | refine vskip ?_ | refine vexit ?_ | refine vblock ?_ | refine vblockN ?_ | refine vblockR ?_ | refine vblockH ?_ | refine vrun_nil ?_ | refine vblockE rfl ?_ | refine vregion [] ?_ | refine vhrun_nil ?_) | ((with_reducible refine vcondT ?_ ?_); (focus (go_simp; done))) | ((with_reducible refine vcondF ?_ ?_); (focus (go_simp; done))) | ((with_reducible first | refine vrun_cons fun KK hKK => ?_ | refine vhrun_cons fun KK hKK => ?_); go_simp; (first | (refine ⟨_, g, ?_⟩) | skip); refine hKK _ ?_; clear hKK KK) | ((with_reducible refine vcondS ?_ (fun ht => ?_) (fun ht => ?_)); (focus (go_simp; done)); (all_goals (simp [go_sem] at ht; replace ht := ht.out))))
    go_simp
  · rw [decide_eq_true hc]
    refine VC_of Tryz.func43 rfl (by kernel_rfl) (by kernel_rfl) rfl fun M0 w0 => ?_
    simp only [Tryz.ntmps43, Tryz.results43, enumA]
    repeat' (first | (with_reducible first | refine vseq ?_ | refine vthenN ?_ | refine vthenE ?_ | refine vthenR ?_ | refine vret ?_ | refine vskip ?_ | refine vexit ?_ | refine vblock ?_ | refine vblockN ?_ | refine vblockR ?_ | refine vblockH ?_ | refine vrun_nil ?_ | refine vblockE rfl ?_ | refine vregion [] ?_ | refine vhrun_nil ?_) | ((with_reducible refine vcondT ?_ ?_); (focus (go_simp; done))) | ((with_reducible refine vcondF ?_ ?_); (focus (go_simp; done))) | ((with_reducible first | refine vrun_cons fun KK hKK => ?_ | refine vhrun_cons fun KK hKK => ?_); go_simp; (first | (refine ⟨_, g, ?_⟩) | skip); refine hKK _ ?_; clear hKK KK) | ((with_reducible refine vcondS ?_ (fun ht => ?_) (fun ht => ?_)); (focus (go_simp; done)); (all_goals (simp [go_sem] at ht; replace ht := ht.out))))
    go_simp
theorem run43 : ∀ (a : Array Value) (W : World), (callFunc 43 a).run Tryz.prog W = .ok (.enter 43 a) W := fun a W => by simp [callFunc, go_sem, Tryz.func43, Tryz.f43]
theorem w_Longest (r : Rul) (l : List Rc) (s : Int) (hl : l ≠ []) (hs : SmallR l) (hT : Timed l) (hr : SmallRul r) (h1 : rulE r = 0) (h2 : (recsE l).2 = 0) (hk : tripOK r l ⟨s, 0, 0, -1⟩ = true) :
    VC Tryz.prog 19 [rulA r, recsA l, I s] (.tup [I ((searchP (longP r l s) 200001 0 200001 : Nat) - 1), I 0]) := by
  have g1 := w_openTrip r l ⟨s, 0, 0, -1⟩ hs hT hr h1 h2 hk
  unfold tripOK at hk
  simp only [Bool.and_eq_true, decide_eq_true_eq] at hk
  obtain ⟨⟨⟨⟨⟨⟨⟨k1, k2⟩, k3⟩, k4⟩, k5⟩, k6⟩, k7⟩, k8⟩ := hk
  have k2 := inR_iff.1 k2
  try simp only at k2
  have g2 := w_Search (longP r l s) 43 [.vp [I r.brk, I r.rest, I r.stint, I r.shift, I r.week, recsA l], .vp [I s, I 0, I 0, I (-1)]] 200001 (by decide) run43 fun n hn => w_long1 r l s n hl (by omega) hT hr (by omega) hn
  have hle : searchP (longP r l s) 200001 0 200001 ≤ 1000000000 := by
    have : ∀ (p : Nat → Bool) (f i j : Nat), i ≤ j → searchP p f i j ≤ j := fun p f => by
      induction f with
      | zero => intro i j h; exact h
      | succ f ih =>
        intro i j h
        rw [searchP]
        split
        · split
          · exact Nat.le_trans (ih i _ (by omega)) (by omega)
          · exact ih _ j (by omega)
        · exact h
    have := this (longP r l s) 200001 0 200001 (by decide)
    omega
  generalize searchP (longP r l s) 200001 0 200001 = q at *
  have u1 := wrap_eq (x := (q : Int) - 1) (by omega) (by omega)
  clear hs hT hr h1 h2 k1 k2 k3 k4 k5 k6 k7 k8
  refine VC_of Tryz.func19 rfl (by kernel_rfl) (by kernel_rfl) rfl fun M0 w0 => ?_
  simp only [Tryz.ntmps19, Tryz.results19, enumA]
  repeat' (first | (with_reducible first | refine vseq ?_ | refine vthenN ?_ | refine vthenE ?_ | refine vthenR ?_ | refine vret ?_ | refine vskip ?_ | refine vexit ?_ | refine vblock ?_ | refine vblockN ?_ | refine vblockR ?_ | refine vblockH ?_ | refine vrun_nil ?_ | refine vblockE rfl ?_ | refine vregion [] ?_ | refine vhrun_nil ?_) | ((with_reducible refine vcondT ?_ ?_); (focus (go_simp; done))) | ((with_reducible refine vcondF ?_ ?_); (focus (go_simp; done))) | ((with_reducible first | refine vrun_cons fun KK hKK => ?_ | refine vhrun_cons fun KK hKK => ?_); go_simp; (first | (refine ⟨_, g1, ?_⟩) | (refine ⟨_, ⟨g2, rfl⟩, ?_⟩) | skip); refine hKK _ ?_; clear hKK KK) | ((with_reducible refine vcondS ?_ (fun ht => ?_) (fun ht => ?_)); (focus (go_simp; done)); (all_goals (simp [go_sem] at ht; replace ht := ht.out))))
  go_simp
end Go.Proofs.YtmfmpagfjgpodaaGreatDoor

/-! SWG: Chapter 7: the first example, and that the functions are awake. -/
namespace Go.Proofs.YtmfmpagfjgpodaaGreatDoor
open Go.RowKit
set_option maxRecDepth 100000
set_option maxHeartbeats 1000000
abbrev rul0 : Rul := ⟨900, 36000, 16200, 43200, 200000⟩
abbrev annS : ByteArray := ⟨#[97, 110, 110]⟩
abbrev annL : List Rc := [⟨annS, 0, 10000⟩, ⟨annS, 10500, 15000⟩, ⟨annS, 16000, 20000⟩]
abbrev trip0 : Trp := ⟨20000, 5000, 13000, -1⟩
theorem l_Rules : VC Tryz.prog 17 [] (rulA rul0) := by
  refine VC_of Tryz.func17 rfl (by kernel_rfl) (by kernel_rfl) rfl fun M0 w0 => ?_
  simp only [Tryz.ntmps17, Tryz.results17, enumA]
  repeat' (first | (with_reducible first | refine vseq ?_ | refine vthenN ?_ | refine vthenE ?_ | refine vthenR ?_ | refine vret ?_ | refine vskip ?_ | refine vexit ?_ | refine vblock ?_ | refine vblockN ?_ | refine vblockR ?_ | refine vblockH ?_ | refine vrun_nil ?_ | refine vblockE rfl ?_ | refine vregion [] ?_ | refine vhrun_nil ?_) | ((with_reducible refine vcondT ?_ ?_); (focus (go_simp; done))) | ((with_reducible refine vcondF ?_ ?_); (focus (go_simp; done))) | ((with_reducible first | refine vrun_cons fun KK hKK => ?_ | refine vhrun_cons fun KK hKK => ?_); go_simp; refine hKK _ ?_; clear hKK KK) | ((with_reducible refine vcondS ?_ (fun ht => ?_) (fun ht => ?_)); (focus (go_simp; done)); (all_goals (simp [go_sem] at ht; replace ht := ht.out))))
  go_simp
theorem l_Ann : VCo Tryz.prog 18 [] 36 3 false (annL.map Rc.av) := by
  refine VCo_of Tryz.func18 rfl (by kernel_rfl) (by kernel_rfl) rfl Tryz.results18 (by decide) (rec_one annL) fun M0 w0 => ?_
  simp only [Tryz.ntmps18, enumA]
  repeat' (first | (with_reducible first | refine vseq ?_ | refine vthenN ?_ | refine vthenE ?_ | refine vthenR ?_ | refine vret ?_ | refine vskip ?_ | refine vexit ?_ | refine vblock ?_ | refine vblockN ?_ | refine vblockR ?_ | refine vblockH ?_ | refine vrun_nil ?_ | refine vblockE rfl ?_ | refine vregion [4] ?_ | refine vhrun_nil ?_) | ((with_reducible refine vcondT ?_ ?_); (focus (go_simp; done))) | ((with_reducible refine vcondF ?_ ?_); (focus (go_simp; done))) | ((with_reducible first | refine vrun_cons fun KK hKK => ?_ | refine vhrun_cons fun KK hKK => ?_); go_simp; refine hKK _ ?_; clear hKK KK) | ((with_reducible refine vcondS ?_ (fun ht => ?_) (fun ht => ?_)); (focus (go_simp; done)); (all_goals (simp [go_sem] at ht; replace ht := ht.out))))
  exact ⟨0, rfl, rfl⟩
theorem ann_small : SmallR annL := by
  intro k hk
  match k, hk with
  | 0, _ => decide
  | 1, _ => decide
  | 2, _ => decide
theorem ann_timed : Timed annL := by
  intro k hk
  match k, hk with
  | 0, _ => decide
  | 1, _ => decide
  | 2, _ => decide
theorem rul0_small : SmallRul rul0 := by unfold SmallRul; decide
theorem rul0_E : rulE rul0 = 0 := by kernel_rfl
theorem ann_E : (recsE annL).2 = 0 := by kernel_rfl
theorem trip_ok0 : tripOK rul0 annL trip0 = true := by kernel_rfl
theorem trip_ok1 : tripOK rul0 annL ⟨20000, 0, 0, -1⟩ = true := by kernel_rfl
theorem ann_parts : partsTo annL rul0.brk annL.length = [(0, 1), (2, 2)] := by kernel_rfl
theorem ann_work : workT annL 9000 11000 annL.length = 1500 := by kernel_rfl
theorem ann_b1 : breaksF rul0 annL trip0 trip0.hi = 1 := by kernel_rfl
theorem ann_b2 : breaksF rul0 annL trip0 trip0.lo = 0 := by kernel_rfl
theorem ann_long : searchP (longP rul0 annL 20000) 200001 0 200001 = 12201 := by kernel_rfl
theorem l_awake7 : VC Tryz.prog 4 [] (B true) := by
  have g1 := w_Stints rul0 annL (by decide) ann_small ann_timed rul0_E ann_E rul0_small
  rw [ann_parts] at g1
  have g2 := w_Longest rul0 annL 20000 (by decide) ann_small ann_timed rul0_small rul0_E ann_E trip_ok1
  rw [ann_long] at g2
  have g3 := w_Allowed rul0 annL trip0 (by decide) ann_small ann_timed rul0_small rul0_E ann_E trip_ok0 (by decide)
  rw [ann_b1, ann_b2] at g3
  have g4 := w_WorkIn annL 9000 11000 (by decide) ann_small ann_timed ann_E (by decide) (by decide) (by decide)
  rw [ann_work] at g4
  have a1 := l_Rules
  have a2 := VC_of_own l_Ann
  have q1 : (((12201 : Nat) : Int) - 1) = 12200 := rfl
  have q2 : (if (1 : Int) = 0 then (2 : Int) else if (0 : Int) = 0 then 1 else 0) = 1 := rfl
  rw [q1] at g2
  rw [q2] at g3
  clear q1 q2
  obtain ⟨ps, hps⟩ : ∃ ps, ps = [(0, 1), (2, 2)] := ⟨_, rfl⟩
  rw [← hps] at g1
  have hp2 : ps.length = 2 := by rw [hps]; rfl
  have hp3 : (ps.length : Int) = 2 := by omega
  have hp0 : ps[0]'(by omega) = (0, 1) := by subst hps; rfl
  clear hps
  have e1 : pairP (ps[0]'(by omega)) = [I 0, I 1] := by rw [hp0]; rfl
  generalize annL = l at *
  generalize rul0 = r at *
  refine VC_of Tryz.func4 rfl (by kernel_rfl) (by kernel_rfl) rfl fun M0 w0 => ?_
  simp only [Tryz.ntmps4, Tryz.results4, enumA]
  repeat' (first | (with_reducible first | refine vseq ?_ | refine vthenN ?_ | refine vthenE ?_ | refine vthenR ?_ | refine vret ?_ | refine vskip ?_ | refine vexit ?_ | refine vblock ?_ | refine vblockN ?_ | refine vblockR ?_ | refine vblockH ?_ | refine vrun_nil ?_ | refine vblockE rfl ?_ | refine vregion [] ?_ | refine vhrun_nil ?_) | ((with_reducible refine vcondT ?_ ?_); (focus (go_simp; done))) | ((with_reducible refine vcondF ?_ ?_); (focus (go_simp; done))) | ((with_reducible first | refine vrun_cons fun KK hKK => ?_ | refine vhrun_cons fun KK hKK => ?_); go_simp; (first | (with_reducible refine ⟨_, a1, ?_⟩) | (with_reducible refine ⟨_, a2, ?_⟩) | (with_reducible refine ⟨_, g1, ?_⟩) | (with_reducible refine ⟨_, g2, ?_⟩) | (with_reducible refine ⟨_, g3, ?_⟩) | (with_reducible refine ⟨_, g4, ?_⟩) | skip); refine hKK _ ?_; clear hKK KK) | ((with_reducible refine vcondS ?_ (fun ht => ?_) (fun ht => ?_)); (focus (go_simp; done)); (all_goals (simp [go_sem] at ht; replace ht := ht.out))) | ((apply vrun_consG0 rfl); (focus (go_simp <;> exact rfl)); (focus (go_simp; done)); (focus (intro hb0; replace hb0 := hb0.out; go_simp <;> (first | exact rfl | exact a1 | exact a2 | exact g1 | exact g2 | exact g3 | exact g4 | exact ⟨a1, rfl⟩ | exact ⟨a2, rfl⟩ | exact ⟨g1, rfl⟩ | exact ⟨g2, rfl⟩ | exact ⟨g3, rfl⟩ | exact ⟨g4, rfl⟩))); intro KK hKK; go_simp; refine hKK _ ?_; clear hKK KK))
  go_simp
end Go.Proofs.YtmfmpagfjgpodaaGreatDoor
