/- Texts in one: Walks on plain values: the program accepts a net that the reference calls right. -/
import Derived.Test.YtcndlalhkkjocaaFYStreetExamined18
import Derived.Test.YtcndlalhkkjocaaFYStreetExamined20
/-! SYD: Walks on plain values: the program accepts a net that the reference calls right. -/
namespace Go.Proofs.Ytcndlalhkkjocaa
open Go.RowKit
set_option maxRecDepth 100000
set_option maxHeartbeats 1000000
theorem y_ok (e : Int) : VC Try.prog 30 [B true, I e] (I 0) := p_unless true e
theorem y_none (l : List ByteArray) (s : ByteArray) (hl : l.length ≤ 1000) (h : ∀ j, j < l.length → ¬ tat l j = s) : VC Try.prog 56 [.sl 1 (l.map txtA), S s] (I (-1)) := by
  have HN := Lib.hid h
  clear h
  refine VC_of Try.func56 rfl (by kernel_rfl) (by kernel_rfl) rfl fun M0 w0 => ?_
  simp only [Try.ntmps56, Try.results56, enumA]
  repeat' (first | (with_reducible first | refine vseq ?_ | refine vthenN ?_ | refine vthenE ?_ | refine vthenR ?_ | refine vret ?_ | refine vskip ?_ | refine vexit ?_ | refine vblock ?_ | refine vblockN ?_ | refine vblockR ?_ | refine vblockH ?_ | refine vrun_nil ?_ | refine vblockE rfl ?_ | refine vregion [] ?_ | refine vhrun_nil ?_) | ((with_reducible refine vcondT ?_ ?_); (focus (go_simp; done))) | ((with_reducible refine vcondF ?_ ?_); (focus (go_simp; done))) | ((with_reducible first | refine vrun_cons fun KK hKK => ?_ | refine vhrun_cons fun KK hKK => ?_); go_simp; refine hKK _ ?_; clear hKK KK) | ((with_reducible refine vcondS ?_ (fun ht => ?_) (fun ht => ?_)); (focus (go_simp; done)); (all_goals (simp [go_sem] at ht; replace ht := ht.out))))
  apply vcnt [0, 1, 7] (fun k => [(8, I (k : Int))]) (fun k => ([] : Hp))  (l.length)
  · go_simp <;> exact rfl
  · go_simp
  · intro k hk K hK
    obtain ⟨w1, w2, w3, w4, w5, w6⟩ := ixs (m := k) (by omega)
    have h' : ¬ s = tat l k := fun e => HN.out k hk e.symm
    repeat' (first | (with_reducible first | refine vseq ?_ | refine vthenN ?_ | refine vthenE ?_ | refine vthenR ?_ | refine vret ?_ | refine vskip ?_ | refine vexit ?_ | refine vblock ?_ | refine vblockN ?_ | refine vblockR ?_ | refine vblockH ?_ | refine vrun_nil ?_ | refine vblockE rfl ?_ | refine vregion [] ?_ | refine vhrun_nil ?_) | ((with_reducible refine vcondT ?_ ?_); (focus (go_simp; done))) | ((with_reducible refine vcondF ?_ ?_); (focus (go_simp; done))) | ((with_reducible first | refine vrun_cons fun KK hKK => ?_ | refine vhrun_cons fun KK hKK => ?_); go_simp; refine hKK _ ?_; clear hKK KK) | ((with_reducible refine vcondS ?_ (fun ht => ?_) (fun ht => ?_)); (focus (go_simp; done)); (all_goals (simp [go_sem] at ht; replace ht := ht.out))))
    refine hK _ ?_
    go_simp
  · intro K
    repeat' (first | (with_reducible first | refine vseq ?_ | refine vthenN ?_ | refine vthenE ?_ | refine vthenR ?_ | refine vret ?_ | refine vskip ?_ | refine vexit ?_ | refine vblock ?_ | refine vblockN ?_ | refine vblockR ?_ | refine vblockH ?_ | refine vrun_nil ?_ | refine vblockE rfl ?_ | refine vregion [] ?_ | refine vhrun_nil ?_) | ((with_reducible refine vcondT ?_ ?_); (focus (go_simp; done))) | ((with_reducible refine vcondF ?_ ?_); (focus (go_simp; done))) | ((with_reducible first | refine vrun_cons fun KK hKK => ?_ | refine vhrun_cons fun KK hKK => ?_); go_simp; refine hKK _ ?_; clear hKK KK) | ((with_reducible refine vcondS ?_ (fun ht => ?_) (fun ht => ?_)); (focus (go_simp; done)); (all_goals (simp [go_sem] at ht; replace ht := ht.out))))
    go_simp
theorem y_noText (l : List ByteArray) (s : ByteArray) (hl : l.length ≤ 1000) (h : ∀ j, j < l.length → ¬ tat l j = s) : VC Try.prog 50 [.sl 1 (l.map txtA), S s] (B false) := by
  have g := y_none l s hl h
  clear h
  refine VC_of Try.func50 rfl (by kernel_rfl) (by kernel_rfl) rfl fun M0 w0 => ?_
  simp only [Try.ntmps50, Try.results50, enumA]
  repeat' (first | (with_reducible first | refine vseq ?_ | refine vthenN ?_ | refine vthenE ?_ | refine vthenR ?_ | refine vret ?_ | refine vskip ?_ | refine vexit ?_ | refine vblock ?_ | refine vblockN ?_ | refine vblockR ?_ | refine vblockH ?_ | refine vrun_nil ?_ | refine vblockE rfl ?_ | refine vregion [] ?_ | refine vhrun_nil ?_) | ((with_reducible refine vcondT ?_ ?_); (focus (go_simp; done))) | ((with_reducible refine vcondF ?_ ?_); (focus (go_simp; done))) | ((with_reducible first | refine vrun_cons fun KK hKK => ?_ | refine vhrun_cons fun KK hKK => ?_); go_simp; (first | (with_reducible refine ⟨_, g, ?_⟩) | skip); refine hKK _ ?_; clear hKK KK) | ((with_reducible refine vcondS ?_ (fun ht => ?_) (fun ht => ?_)); (focus (go_simp; done)); (all_goals (simp [go_sem] at ht; replace ht := ht.out))))
  go_simp
theorem y_same (o R : Rd) : VC Try.prog 53 [roadA o, .vp R.av] (B (decide (o.name = R.name))) := by
  refine VC_of Try.func53 rfl (by kernel_rfl) (by kernel_rfl) rfl fun M0 w0 => ?_
  simp only [Try.ntmps53, Try.results53, enumA]
  repeat' (first | (with_reducible first | refine vseq ?_ | refine vthenN ?_ | refine vthenE ?_ | refine vthenR ?_ | refine vret ?_ | refine vskip ?_ | refine vexit ?_ | refine vblock ?_ | refine vblockN ?_ | refine vblockR ?_ | refine vblockH ?_ | refine vrun_nil ?_ | refine vblockE rfl ?_ | refine vregion [] ?_ | refine vhrun_nil ?_) | ((with_reducible refine vcondT ?_ ?_); (focus (go_simp; done))) | ((with_reducible refine vcondF ?_ ?_); (focus (go_simp; done))) | ((with_reducible first | refine vrun_cons fun KK hKK => ?_ | refine vhrun_cons fun KK hKK => ?_); go_simp; refine hKK _ ?_; clear hKK KK) | ((with_reducible refine vcondS ?_ (fun ht => ?_) (fun ht => ?_)); (focus (go_simp; done)); (all_goals (simp [go_sem] at ht; replace ht := ht.out))))
  go_simp
theorem y_place (n : Nt) (k : Int) (h : n.places.length ≤ 1000) : VC Try.prog 51 [I k, .vp [.sl 1 (n.places.map txtA), .sl 5 (n.roads.map Rd.av)]] (B (isPl n k)) := by
  have hw := wrap_eq (x := (n.places.length : Int) - 1) (by omega) (by omega)
  refine VC_of Try.func51 rfl (by kernel_rfl) (by kernel_rfl) rfl fun M0 w0 => ?_
  simp only [Try.ntmps51, Try.results51, enumA]
  repeat' (first | (with_reducible first | refine vseq ?_ | refine vthenN ?_ | refine vthenE ?_ | refine vthenR ?_ | refine vret ?_ | refine vskip ?_ | refine vexit ?_ | refine vblock ?_ | refine vblockN ?_ | refine vblockR ?_ | refine vblockH ?_ | refine vrun_nil ?_ | refine vblockE rfl ?_ | refine vregion [] ?_ | refine vhrun_nil ?_) | ((with_reducible refine vcondT ?_ ?_); (focus (go_simp; done))) | ((with_reducible refine vcondF ?_ ?_); (focus (go_simp; done))) | ((with_reducible first | refine vrun_cons fun KK hKK => ?_ | refine vhrun_cons fun KK hKK => ?_); go_simp; (first | (with_reducible refine ⟨_, p_within _ _ _, ?_⟩) | skip); refine hKK _ ?_; clear hKK KK) | ((with_reducible refine vcondS ?_ (fun ht => ?_) (fun ht => ?_)); (focus (go_simp; done)); (all_goals (simp [go_sem] at ht; replace ht := ht.out))))
  all_goals (first | (go_simp; done) | (go_simp; first | (simp [isPl, *]; done) | (simp [isPl, *]; omega) | (simp [isPl, ] at *; omega) | (rfl)))
theorem y_noIx (l : List Rd) (R : Rd) (hl : l.length ≤ 1000) (h : ∀ j, j < l.length → ¬ (rdat l j).name = R.name) : VC Try.prog 57 [.sl 5 (l.map Rd.av), .fn (.func 53) [] [.vp R.av]] (I (-1)) := by
  have HN := Lib.hid h
  clear h
  refine VC_of Try.func57 rfl (by kernel_rfl) (by kernel_rfl) rfl fun M0 w0 => ?_
  simp only [Try.ntmps57, Try.results57, enumA]
  repeat' (first | (with_reducible first | refine vseq ?_ | refine vthenN ?_ | refine vthenE ?_ | refine vthenR ?_ | refine vret ?_ | refine vskip ?_ | refine vexit ?_ | refine vblock ?_ | refine vblockN ?_ | refine vblockR ?_ | refine vblockH ?_ | refine vrun_nil ?_ | refine vblockE rfl ?_ | refine vregion [] ?_ | refine vhrun_nil ?_) | ((with_reducible refine vcondT ?_ ?_); (focus (go_simp; done))) | ((with_reducible refine vcondF ?_ ?_); (focus (go_simp; done))) | ((with_reducible first | refine vrun_cons fun KK hKK => ?_ | refine vhrun_cons fun KK hKK => ?_); go_simp; refine hKK _ ?_; clear hKK KK) | ((with_reducible refine vcondS ?_ (fun ht => ?_) (fun ht => ?_)); (focus (go_simp; done)); (all_goals (simp [go_sem] at ht; replace ht := ht.out))))
  apply vcnt [0, 1, 7] (fun k => [(8, I (k : Int))]) (fun k => ([] : Hp))  (l.length)
  · go_simp <;> exact rfl
  · go_simp
  · intro k hk K hK
    obtain ⟨w1, w2, w3, w4, w5, w6⟩ := ixs (m := k) (by omega)
    have g := y_same (rdat l k) R
    rw [decide_eq_false (HN.out k hk)] at g
    repeat' (first | (with_reducible first | refine vseq ?_ | refine vthenN ?_ | refine vthenE ?_ | refine vthenR ?_ | refine vret ?_ | refine vskip ?_ | refine vexit ?_ | refine vblock ?_ | refine vblockN ?_ | refine vblockR ?_ | refine vblockH ?_ | refine vrun_nil ?_ | refine vblockE rfl ?_ | refine vregion [] ?_ | refine vhrun_nil ?_) | ((with_reducible refine vcondT ?_ ?_); (focus (go_simp; done))) | ((with_reducible refine vcondF ?_ ?_); (focus (go_simp; done))) | ((with_reducible first | refine vrun_cons fun KK hKK => ?_ | refine vhrun_cons fun KK hKK => ?_); go_simp; (first | (refine ⟨_, g, ?_⟩) | skip); refine hKK _ ?_; clear hKK KK) | ((with_reducible refine vcondS ?_ (fun ht => ?_) (fun ht => ?_)); (focus (go_simp; done)); (all_goals (simp [go_sem] at ht; replace ht := ht.out))))
    refine hK _ ?_
    go_simp
  · intro K
    repeat' (first | (with_reducible first | refine vseq ?_ | refine vthenN ?_ | refine vthenE ?_ | refine vthenR ?_ | refine vret ?_ | refine vskip ?_ | refine vexit ?_ | refine vblock ?_ | refine vblockN ?_ | refine vblockR ?_ | refine vblockH ?_ | refine vrun_nil ?_ | refine vblockE rfl ?_ | refine vregion [] ?_ | refine vhrun_nil ?_) | ((with_reducible refine vcondT ?_ ?_); (focus (go_simp; done))) | ((with_reducible refine vcondF ?_ ?_); (focus (go_simp; done))) | ((with_reducible first | refine vrun_cons fun KK hKK => ?_ | refine vhrun_cons fun KK hKK => ?_); go_simp; refine hKK _ ?_; clear hKK KK) | ((with_reducible refine vcondS ?_ (fun ht => ?_) (fun ht => ?_)); (focus (go_simp; done)); (all_goals (simp [go_sem] at ht; replace ht := ht.out))))
    go_simp
theorem y_noRoad (l : List Rd) (R : Rd) (hl : l.length ≤ 1000) (h : ∀ j, j < l.length → ¬ (rdat l j).name = R.name) : VC Try.prog 52 [.sl 5 (l.map Rd.av), .fn (.func 53) [] [.vp R.av]] (B false) := by
  have g := y_noIx l R hl h
  clear h
  refine VC_of Try.func52 rfl (by kernel_rfl) (by kernel_rfl) rfl fun M0 w0 => ?_
  simp only [Try.ntmps52, Try.results52, enumA]
  repeat' (first | (with_reducible first | refine vseq ?_ | refine vthenN ?_ | refine vthenE ?_ | refine vthenR ?_ | refine vret ?_ | refine vskip ?_ | refine vexit ?_ | refine vblock ?_ | refine vblockN ?_ | refine vblockR ?_ | refine vblockH ?_ | refine vrun_nil ?_ | refine vblockE rfl ?_ | refine vregion [] ?_ | refine vhrun_nil ?_) | ((with_reducible refine vcondT ?_ ?_); (focus (go_simp; done))) | ((with_reducible refine vcondF ?_ ?_); (focus (go_simp; done))) | ((with_reducible first | refine vrun_cons fun KK hKK => ?_ | refine vhrun_cons fun KK hKK => ?_); go_simp; (first | (refine ⟨_, g, ?_⟩) | skip); refine hKK _ ?_; clear hKK KK) | ((with_reducible refine vcondS ?_ (fun ht => ?_) (fun ht => ?_)); (focus (go_simp; done)); (all_goals (simp [go_sem] at ht; replace ht := ht.out))))
  go_simp
theorem y_take (x : Int) : VC Try.prog 58 [I x] (B (inR x 0 7200)) := by
  refine VC_of Try.func58 rfl (by kernel_rfl) (by kernel_rfl) rfl fun M0 w0 => ?_
  simp only [Try.ntmps58, Try.results58, enumA]
  repeat' (first | (with_reducible first | refine vseq ?_ | refine vthenN ?_ | refine vthenE ?_ | refine vthenR ?_ | refine vret ?_ | refine vskip ?_ | refine vexit ?_ | refine vblock ?_ | refine vblockN ?_ | refine vblockR ?_ | refine vblockH ?_ | refine vrun_nil ?_ | refine vblockE rfl ?_ | refine vregion [] ?_ | refine vhrun_nil ?_) | ((with_reducible refine vcondT ?_ ?_); (focus (go_simp; done))) | ((with_reducible refine vcondF ?_ ?_); (focus (go_simp; done))) | ((with_reducible first | refine vrun_cons fun KK hKK => ?_ | refine vhrun_cons fun KK hKK => ?_); go_simp; (first | (with_reducible refine ⟨_, p_within _ _ _, ?_⟩) | skip); refine hKK _ ?_; clear hKK KK) | ((with_reducible refine vcondS ?_ (fun ht => ?_) (fun ht => ?_)); (focus (go_simp; done)); (all_goals (simp [go_sem] at ht; replace ht := ht.out))))
  go_simp
theorem inR_ok {x a b : Int} (h1 : a ≤ x) (h2 : x ≤ b) : inR x a b = true := inR_iff.2 ⟨h1, h2⟩
theorem y_pointErr (l : List Pt) (k : Nat) (h : RightPts l) (hk : k < l.length) : VC Try.prog 54 [ptsA l, I (k : Int)] (I 0) := by
  have hf := h.few
  have r := h.rng k hk
  have ha := h.asc k
  clear h
  obtain ⟨w1, w2, w3, w4, w5, w6⟩ := ixs (m := k) (by omega)
  obtain ⟨P, hP⟩ : ∃ P, ptat l k = P := ⟨_, rfl⟩
  rw [hP] at r ha
  have f1 := p_within P.time 0 86399
  have f2 := y_take P.lo
  have f3 := y_take P.hi
  rw [inR_ok (by omega) (by omega)] at f1 f2 f3
  have e1 := y_ok 2
  have e2 := y_ok 9
  have e3 : VC Try.prog 29 [.sl 1 ([0, 0].map intA)] (I 0) := p_first [0, 0] (by decide)
  have q1 : P.lo ≤ P.hi := by omega
  clear r
  by_cases hk0 : 0 < k
  · have hq := ha hk0 hk
    have hk1 := ixm hk0 (by omega)
    have hk2 : k - 1 < l.length := by omega
    have hki : ¬ (k : Int) = 0 := by omega
    have hkj : ¬ k = 0 := by omega
    have hmx : (if 0 < k - 1 then ((k - 1 : Nat) : Int) else 0) = ((k - 1 : Nat) : Int) := by split <;> omega
    clear ha
    generalize k - 1 = m at *
    have hm0 : (0 : Int) ≤ (m : Int) := by omega
    refine VC_of Try.func54 rfl (by kernel_rfl) (by kernel_rfl) rfl fun M0 w0 => ?_
    simp only [Try.ntmps54, Try.results54, enumA]
    repeat' (first | (with_reducible first | refine vseq ?_ | refine vthenN ?_ | refine vthenE ?_ | refine vthenR ?_ | refine vret ?_ | refine vskip ?_ | refine vexit ?_ | refine vblock ?_ | refine vblockN ?_ | refine vblockR ?_ | refine vblockH ?_ | refine vrun_nil ?_ | refine vblockE rfl ?_ | refine vregion [] ?_ | refine vhrun_nil ?_) | ((with_reducible refine vcondT ?_ ?_); (focus (go_simp; done))) | ((with_reducible refine vcondF ?_ ?_); (focus (go_simp; done))) | ((with_reducible first | refine vrun_cons fun KK hKK => ?_ | refine vhrun_cons fun KK hKK => ?_); go_simp; (first | (with_reducible refine ⟨_, f1, ?_⟩) | (with_reducible refine ⟨_, f2, ?_⟩) | (with_reducible refine ⟨_, f3, ?_⟩) | (with_reducible refine ⟨_, e1, ?_⟩) | (with_reducible refine ⟨_, e2, ?_⟩) | (refine ⟨_, e3, ?_⟩) | skip); refine hKK _ ?_; clear hKK KK) | ((refine vdrawL 29 29 [] rfl (by kernel_rfl) (by kernel_rfl) ?_); simp only [List.take, List.drop]) | ((with_reducible refine vcondS ?_ (fun ht => ?_) (fun ht => ?_)); (focus (go_simp; done)); (all_goals (simp [go_sem] at ht; replace ht := ht.out))) | ((apply vrun_consG0 rfl); (focus (go_simp <;> exact rfl)); (focus (go_simp; done)); (focus (intro hb0; replace hb0 := hb0.out; go_simp <;> (first | exact rfl | exact f1 | exact f2 | exact f3 | exact e1 | exact e2 | exact e3 | exact ⟨f1, rfl⟩ | exact ⟨f2, rfl⟩ | exact ⟨f3, rfl⟩ | exact ⟨e1, rfl⟩ | exact ⟨e2, rfl⟩ | exact ⟨e3, rfl⟩))); intro KK hKK; go_simp; refine hKK _ ?_; clear hKK KK) | ((apply vhrun_consG0 rfl); (focus (go_simp <;> exact rfl)); (focus (intro hb0; replace hb0 := hb0.out; go_simp <;> (first | exact rfl | exact f1 | exact f2 | exact f3 | exact e1 | exact e2 | exact e3 | exact ⟨f1, rfl⟩ | exact ⟨f2, rfl⟩ | exact ⟨f3, rfl⟩ | exact ⟨e1, rfl⟩ | exact ⟨e2, rfl⟩ | exact ⟨e3, rfl⟩))); intro KK hKK; go_simp; refine hKK _ ?_; clear hKK KK) | ((apply vrun_consG1 rfl); (focus (go_simp <;> exact rfl)); (focus (go_simp; done)); (focus (intro hb0 hb1; replace hb0 := hb0.out; replace hb1 := hb1.out; go_simp <;> (first | exact rfl | exact f1 | exact f2 | exact f3 | exact e1 | exact e2 | exact e3 | exact ⟨f1, rfl⟩ | exact ⟨f2, rfl⟩ | exact ⟨f3, rfl⟩ | exact ⟨e1, rfl⟩ | exact ⟨e2, rfl⟩ | exact ⟨e3, rfl⟩))); intro KK hKK; go_simp; refine hKK _ ?_; clear hKK KK) | ((apply vhrun_consG1 rfl); (focus (go_simp <;> exact rfl)); (focus (intro hb0 hb1; replace hb0 := hb0.out; replace hb1 := hb1.out; go_simp <;> (first | exact rfl | exact f1 | exact f2 | exact f3 | exact e1 | exact e2 | exact e3 | exact ⟨f1, rfl⟩ | exact ⟨f2, rfl⟩ | exact ⟨f3, rfl⟩ | exact ⟨e1, rfl⟩ | exact ⟨e2, rfl⟩ | exact ⟨e3, rfl⟩))); intro KK hKK; go_simp; refine hKK _ ?_; clear hKK KK))
    go_simp
  · have hk0' : k = 0 := by omega
    clear ha
    subst hk0'
    refine VC_of Try.func54 rfl (by kernel_rfl) (by kernel_rfl) rfl fun M0 w0 => ?_
    simp only [Try.ntmps54, Try.results54, enumA]
    repeat' (first | (with_reducible first | refine vseq ?_ | refine vthenN ?_ | refine vthenE ?_ | refine vthenR ?_ | refine vret ?_ | refine vskip ?_ | refine vexit ?_ | refine vblock ?_ | refine vblockN ?_ | refine vblockR ?_ | refine vblockH ?_ | refine vrun_nil ?_ | refine vblockE rfl ?_ | refine vregion [] ?_ | refine vhrun_nil ?_) | ((with_reducible refine vcondT ?_ ?_); (focus (go_simp; done))) | ((with_reducible refine vcondF ?_ ?_); (focus (go_simp; done))) | ((with_reducible first | refine vrun_cons fun KK hKK => ?_ | refine vhrun_cons fun KK hKK => ?_); go_simp; (first | (with_reducible refine ⟨_, f1, ?_⟩) | (with_reducible refine ⟨_, f2, ?_⟩) | (with_reducible refine ⟨_, f3, ?_⟩) | (with_reducible refine ⟨_, e1, ?_⟩) | (with_reducible refine ⟨_, e2, ?_⟩) | (refine ⟨_, e3, ?_⟩) | skip); refine hKK _ ?_; clear hKK KK) | ((refine vdrawL 29 29 [] rfl (by kernel_rfl) (by kernel_rfl) ?_); simp only [List.take, List.drop]) | ((with_reducible refine vcondS ?_ (fun ht => ?_) (fun ht => ?_)); (focus (go_simp; done)); (all_goals (simp [go_sem] at ht; replace ht := ht.out))) | ((apply vrun_consG0 rfl); (focus (go_simp <;> exact rfl)); (focus (go_simp; done)); (focus (intro hb0; replace hb0 := hb0.out; go_simp <;> (first | exact rfl | exact f1 | exact f2 | exact f3 | exact e1 | exact e2 | exact e3 | exact ⟨f1, rfl⟩ | exact ⟨f2, rfl⟩ | exact ⟨f3, rfl⟩ | exact ⟨e1, rfl⟩ | exact ⟨e2, rfl⟩ | exact ⟨e3, rfl⟩))); intro KK hKK; go_simp; refine hKK _ ?_; clear hKK KK) | ((apply vhrun_consG0 rfl); (focus (go_simp <;> exact rfl)); (focus (intro hb0; replace hb0 := hb0.out; go_simp <;> (first | exact rfl | exact f1 | exact f2 | exact f3 | exact e1 | exact e2 | exact e3 | exact ⟨f1, rfl⟩ | exact ⟨f2, rfl⟩ | exact ⟨f3, rfl⟩ | exact ⟨e1, rfl⟩ | exact ⟨e2, rfl⟩ | exact ⟨e3, rfl⟩))); intro KK hKK; go_simp; refine hKK _ ?_; clear hKK KK) | ((apply vrun_consG1 rfl); (focus (go_simp <;> exact rfl)); (focus (go_simp; done)); (focus (intro hb0 hb1; replace hb0 := hb0.out; replace hb1 := hb1.out; go_simp <;> (first | exact rfl | exact f1 | exact f2 | exact f3 | exact e1 | exact e2 | exact e3 | exact ⟨f1, rfl⟩ | exact ⟨f2, rfl⟩ | exact ⟨f3, rfl⟩ | exact ⟨e1, rfl⟩ | exact ⟨e2, rfl⟩ | exact ⟨e3, rfl⟩))); intro KK hKK; go_simp; refine hKK _ ?_; clear hKK KK) | ((apply vhrun_consG1 rfl); (focus (go_simp <;> exact rfl)); (focus (intro hb0 hb1; replace hb0 := hb0.out; replace hb1 := hb1.out; go_simp <;> (first | exact rfl | exact f1 | exact f2 | exact f3 | exact e1 | exact e2 | exact e3 | exact ⟨f1, rfl⟩ | exact ⟨f2, rfl⟩ | exact ⟨f3, rfl⟩ | exact ⟨e1, rfl⟩ | exact ⟨e2, rfl⟩ | exact ⟨e3, rfl⟩))); intro KK hKK; go_simp; refine hKK _ ?_; clear hKK KK))
    go_simp
theorem refD_le {l : List Pt} (h : RightPts l) {k : Nat} (hk : k < l.length) : refD l k ≤ behD l k := by
  have rk := h.rng k hk
  have rn := h.rng _ (nx_lt h.small k)
  unfold refD behD modF
  generalize (ptat l ((k + 1) % l.length)).time = a at *
  generalize (ptat l k).time = b at *
  have ht : (a - b).tmod 86400 = a - b := by
    by_cases hs : 0 ≤ a - b
    · exact Int.tmod_eq_of_lt hs (by omega)
    · rw [show a - b = -(b - a) by omega, Int.neg_tmod, Int.tmod_eq_of_lt (by omega) (by omega)]
  rw [ht]
  split <;> split <;> omega
theorem y_inOrder (l : List Pt) (k : Nat) (h : RightPts l) (hk : k < l.length) : VC Try.prog 55 [ptsA l, I (k : Int)] (B true) := by
  have g := p_behind l k h.small hk
  have h1 := h.ord k hk
  have h2 := refD_le h hk
  have h3 := behD_rng h.small hk
  have r1 := h.rng k hk
  have hf := h.few
  clear h
  obtain ⟨w1, w2, w3, w4, w5, w6⟩ := ixs (m := k) (by omega)
  generalize (k + 1) % l.length = m at *
  generalize behD l k = D at *
  generalize refD l k = D' at *
  obtain ⟨P, hP⟩ : ∃ P, ptat l k = P := ⟨_, rfl⟩
  generalize ptat l m = Q at *
  rw [hP] at h1 r1
  have u1 := wrap_eq (x := P.lo - D) (by omega) (by omega)
  have u2 := wrap_eq (x := P.hi - D) (by omega) (by omega)
  have q1 : P.lo - D ≤ Q.lo := by omega
  have q2 : P.hi - D ≤ Q.hi := by omega
  clear h1 h2 h3 r1
  refine VC_of Try.func55 rfl (by kernel_rfl) (by kernel_rfl) rfl fun M0 w0 => ?_
  simp only [Try.ntmps55, Try.results55, enumA]
  repeat' (first | (with_reducible first | refine vseq ?_ | refine vthenN ?_ | refine vthenE ?_ | refine vthenR ?_ | refine vret ?_ | refine vskip ?_ | refine vexit ?_ | refine vblock ?_ | refine vblockN ?_ | refine vblockR ?_ | refine vblockH ?_ | refine vrun_nil ?_ | refine vblockE rfl ?_ | refine vregion [] ?_ | refine vhrun_nil ?_) | ((with_reducible refine vcondT ?_ ?_); (focus (go_simp; done))) | ((with_reducible refine vcondF ?_ ?_); (focus (go_simp; done))) | ((with_reducible first | refine vrun_cons fun KK hKK => ?_ | refine vhrun_cons fun KK hKK => ?_); go_simp; (first | (with_reducible refine ⟨_, g, ?_⟩) | skip); refine hKK _ ?_; clear hKK KK) | ((refine vdrawL 27 27 [] rfl (by kernel_rfl) (by kernel_rfl) ?_); simp only [List.take, List.drop]) | ((with_reducible refine vcondS ?_ (fun ht => ?_) (fun ht => ?_)); (focus (go_simp; done)); (all_goals (simp [go_sem] at ht; replace ht := ht.out))) | ((apply vrun_consG0 rfl); (focus (go_simp <;> exact rfl)); (focus (go_simp; done)); (focus (intro hb0; replace hb0 := hb0.out; go_simp <;> (first | exact rfl | exact g | exact ⟨g, rfl⟩))); intro KK hKK; go_simp; refine hKK _ ?_; clear hKK KK) | ((apply vhrun_consG0 rfl); (focus (go_simp <;> exact rfl)); (focus (intro hb0; replace hb0 := hb0.out; go_simp <;> (first | exact rfl | exact g | exact ⟨g, rfl⟩))); intro KK hKK; go_simp; refine hKK _ ?_; clear hKK KK))
  go_simp
theorem tat_take {l : List ByteArray} {k j : Nat} (hj : j < k) (hk : k ≤ l.length) : tat (l.take k) j = tat l j := by
  rw [tat_get (l := l.take k) (by rw [List.length_take]; omega), tat_get (l := l) (by omega), List.getElem_take]
theorem rdat_take {l : List Rd} {k j : Nat} (hj : j < k) (hk : k ≤ l.length) : rdat (l.take k) j = rdat l j := by
  rw [rdat_get (l := l.take k) (by rw [List.length_take]; omega), rdat_get (l := l) (by omega), List.getElem_take]
theorem y_CheckNet (n : Nt) (h : RightNet n) (hs : SmallN n) : VC Try.prog 44 [netA n] (.tup [.agg [I 0, I 0], I 0]) := by
  have hp0 := h.p0
  have hp20 := h.p20
  have hr60 := h.r60
  have HH := Lib.hid h
  have HS := Lib.hid hs
  clear h hs
  have d1 : (0 : Int) < (n.places.length : Int) := by omega
  have d2 : (n.places.length : Int) ≤ 20 := by omega
  have d3 : ¬ (60 : Int) < (n.roads.length : Int) := by omega
  have e10 := y_ok 10
  have e8 := y_ok 8
  have e4 := y_ok 4
  have e5 := y_ok 5
  have e6 := y_ok 6
  have e26 := y_ok 26
  have e2 := y_ok 2
  have f2 : VC Try.prog 29 [.sl 1 ([0, 0].map intA)] (I 0) := p_first [0, 0] (by decide)
  have f7 : VC Try.prog 29 [.sl 1 ([0, 0, 0, 0, 0, 0, 0].map intA)] (I 0) := p_first [0, 0, 0, 0, 0, 0, 0] (by decide)
  refine VC_of Try.func44 rfl (by kernel_rfl) (by kernel_rfl) rfl fun M0 w0 => ?_
  simp only [Try.ntmps44, Try.results44, enumA]
  repeat' (first | (with_reducible first | refine vseq ?_ | refine vthenN ?_ | refine vthenE ?_ | refine vthenR ?_ | refine vret ?_ | refine vskip ?_ | refine vexit ?_ | refine vblock ?_ | refine vblockN ?_ | refine vblockR ?_ | refine vblockH ?_ | refine vrun_nil ?_ | refine vblockE rfl ?_ | refine vregion [] ?_ | refine vhrun_nil ?_) | ((with_reducible refine vcondT ?_ ?_); (focus (go_simp; done))) | ((with_reducible refine vcondF ?_ ?_); (focus (go_simp; done))) | ((with_reducible first | refine vrun_cons fun KK hKK => ?_ | refine vhrun_cons fun KK hKK => ?_); go_simp; (first | (with_reducible refine ⟨_, e10, ?_⟩) | (with_reducible refine ⟨_, e8, ?_⟩) | (refine ⟨_, f2, ?_⟩) | skip); refine hKK _ ?_; clear hKK KK) | ((refine vdrawL 13 13 [] rfl (by kernel_rfl) (by kernel_rfl) ?_); simp only [List.take, List.drop]) | ((refine vdrawL 14 14 [] rfl (by kernel_rfl) (by kernel_rfl) ?_); simp only [List.append, List.take, List.drop]) | ((refine vdrawL 41 41 [] rfl (by kernel_rfl) (by kernel_rfl) ?_); simp only [List.append, List.take, List.drop]) | ((with_reducible refine vcondS ?_ (fun ht => ?_) (fun ht => ?_)); (focus (go_simp; done)); (all_goals (simp [go_sem] at ht; replace ht := ht.out))) | ((apply vrun_consG0 rfl); (focus (go_simp <;> exact rfl)); (focus (go_simp; done)); (focus (intro hb0; replace hb0 := hb0.out; go_simp <;> (first | exact rfl | exact e10 | exact e8 | exact f2 | exact ⟨e10, rfl⟩ | exact ⟨e8, rfl⟩ | exact ⟨f2, rfl⟩))); intro KK hKK; go_simp; refine hKK _ ?_; clear hKK KK) | ((apply vhrun_consG0 rfl); (focus (go_simp <;> exact rfl)); (focus (intro hb0; replace hb0 := hb0.out; go_simp <;> (first | exact rfl | exact e10 | exact e8 | exact f2 | exact ⟨e10, rfl⟩ | exact ⟨e8, rfl⟩ | exact ⟨f2, rfl⟩))); intro KK hKK; go_simp; refine hKK _ ?_; clear hKK KK))
  apply vcnt [1, 2, 33, 34] (fun k => [(35, I (k : Int))]) (fun k => ([some (.box [I 0, I 0])] : Hp))  (n.places.length)
  · go_simp <;> exact rfl
  · go_simp
  · intro k hk K hK
    obtain ⟨v1, v2, v3, v4, v5, v6⟩ := ixs (m := k) (by omega)
    have hkl : k ≤ n.places.length := by omega
    have g1 := p_isName (tat n.places k) (HS.out.pn k hk)
    rw [HH.out.names k hk] at g1
    have g2 := y_noText (n.places.take k) (tat n.places k) (by rw [List.length_take]; omega) (fun j hj => by
      rw [List.length_take] at hj
      rw [tat_take (by omega) hkl]
      intro e
      have := HH.out.dist k hk
      rw [anyP_hit (k := j) (by omega) (by simpa [isT] using e)] at this
      cases this)
    rw [List.map_take] at g2
    repeat' (first | (with_reducible first | refine vseq ?_ | refine vthenN ?_ | refine vthenE ?_ | refine vthenR ?_ | refine vret ?_ | refine vskip ?_ | refine vexit ?_ | refine vblock ?_ | refine vblockN ?_ | refine vblockR ?_ | refine vblockH ?_ | refine vrun_nil ?_ | refine vblockE rfl ?_ | refine vregion [] ?_ | refine vhrun_nil ?_) | ((with_reducible refine vcondT ?_ ?_); (focus (go_simp; done))) | ((with_reducible refine vcondF ?_ ?_); (focus (go_simp; done))) | ((with_reducible first | refine vrun_cons fun KK hKK => ?_ | refine vhrun_cons fun KK hKK => ?_); go_simp; (first | (with_reducible refine ⟨_, g1, ?_⟩) | (with_reducible refine ⟨_, g2, ?_⟩) | (with_reducible refine ⟨_, e4, ?_⟩) | (with_reducible refine ⟨_, e5, ?_⟩) | (refine ⟨_, f2, ?_⟩) | skip); refine hKK _ ?_; clear hKK KK) | ((refine vdrawL 13 13 [] rfl (by kernel_rfl) (by kernel_rfl) ?_); simp only [List.append, List.take, List.drop]) | ((refine vdrawL 14 14 [] rfl (by kernel_rfl) (by kernel_rfl) ?_); simp only [List.take, List.drop]) | ((refine vdrawL 41 41 [] rfl (by kernel_rfl) (by kernel_rfl) ?_); simp only [List.append, List.take, List.drop]) | ((with_reducible refine vcondS ?_ (fun ht => ?_) (fun ht => ?_)); (focus (go_simp; done)); (all_goals (simp [go_sem] at ht; replace ht := ht.out))) | ((apply vrun_consG0 rfl); (focus (go_simp <;> exact rfl)); (focus (go_simp; done)); (focus (intro hb0; replace hb0 := hb0.out; go_simp <;> (first | exact rfl | exact g1 | exact g2 | exact e4 | exact e5 | exact f2 | exact ⟨g1, rfl⟩ | exact ⟨g2, rfl⟩ | exact ⟨e4, rfl⟩ | exact ⟨e5, rfl⟩ | exact ⟨f2, rfl⟩))); intro KK hKK; go_simp; refine hKK _ ?_; clear hKK KK) | ((apply vhrun_consG0 rfl); (focus (go_simp <;> exact rfl)); (focus (intro hb0; replace hb0 := hb0.out; go_simp <;> (first | exact rfl | exact g1 | exact g2 | exact e4 | exact e5 | exact f2 | exact ⟨g1, rfl⟩ | exact ⟨g2, rfl⟩ | exact ⟨e4, rfl⟩ | exact ⟨e5, rfl⟩ | exact ⟨f2, rfl⟩))); intro KK hKK; go_simp; refine hKK _ ?_; clear hKK KK))
    refine hK _ ?_
    go_simp
  intro K
  repeat' (first | (with_reducible first | refine vseq ?_ | refine vthenN ?_ | refine vthenE ?_ | refine vthenR ?_ | refine vret ?_ | refine vskip ?_ | refine vexit ?_ | refine vblock ?_ | refine vblockN ?_ | refine vblockR ?_ | refine vblockH ?_ | refine vrun_nil ?_ | refine vblockE rfl ?_ | refine vregion [] ?_ | refine vhrun_nil ?_) | ((with_reducible refine vcondT ?_ ?_); (focus (go_simp; done))) | ((with_reducible refine vcondF ?_ ?_); (focus (go_simp; done))) | ((with_reducible first | refine vrun_cons fun KK hKK => ?_ | refine vhrun_cons fun KK hKK => ?_); go_simp; refine hKK _ ?_; clear hKK KK) | ((refine vdrawL 13 13 [] rfl (by kernel_rfl) (by kernel_rfl) ?_); simp only [List.append, List.take, List.drop]) | ((refine vdrawL 14 14 [] rfl (by kernel_rfl) (by kernel_rfl) ?_); simp only [List.append, List.take, List.drop]) | ((refine vdrawL 41 41 [] rfl (by kernel_rfl) (by kernel_rfl) ?_); simp only [List.append, List.take, List.drop]) | ((with_reducible refine vcondS ?_ (fun ht => ?_) (fun ht => ?_)); (focus (go_simp; done)); (all_goals (simp [go_sem] at ht; replace ht := ht.out))) | ((apply vrun_consG0 rfl); (focus (go_simp <;> exact rfl)); (focus (go_simp; done)); (focus (intro hb0; replace hb0 := hb0.out; go_simp <;> (first | exact rfl))); intro KK hKK; go_simp; refine hKK _ ?_; clear hKK KK) | ((apply vhrun_consG0 rfl); (focus (go_simp <;> exact rfl)); (focus (intro hb0; replace hb0 := hb0.out; go_simp <;> (first | exact rfl))); intro KK hKK; go_simp; refine hKK _ ?_; clear hKK KK))
  apply vcnt [1, 2, 8, 66, 67] (fun k => [(68, I (k : Int))]) (fun k => ([some (.box [I 0, I 0])] : Hp))  (n.roads.length)
  · go_simp <;> exact rfl
  · go_simp
  · intro k hk K hK
    obtain ⟨v1, v2, v3, v4, v5, v6⟩ := ixs (m := k) (by omega)
    have hkl : k ≤ n.roads.length := by omega
    have g1 := p_isName (rdat n.roads k).name (HS.out.rn k hk)
    have hR := HH.out.road k hk
    rw [hR.name] at g1
    have g2 := y_noRoad (n.roads.take k) (rdat n.roads k) (by rw [List.length_take]; omega) (fun j hj => by
      rw [List.length_take] at hj
      rw [rdat_take (by omega) hkl]
      intro e
      have := hR.dist
      rw [anyP_hit (k := j) (by omega) (by simpa [isN] using e)] at this
      cases this)
    rw [List.map_take] at g2
    have g3 := y_place n (rdat n.roads k).src (by omega)
    have g4 := y_place n (rdat n.roads k).dst (by omega)
    rw [isPl, inR_ok (by have := hR.src; omega) (by have := hR.src; omega)] at g3
    rw [isPl, inR_ok (by have := hR.dst; omega) (by have := hR.dst; omega)] at g4
    have g5 := p_within (rdat n.roads k).metres 0 100000
    rw [inR_ok (by have := hR.metres; omega) (by have := hR.metres; omega)] at g5
    have hne := hR.ne
    have hpt := hR.pts
    clear hR
    obtain ⟨R, hR⟩ : ∃ R, rdat n.roads k = R := ⟨_, rfl⟩
    rw [hR] at g1 g2 g3 g4 g5 hne hpt
    have a1 := hpt.pos
    have a2 := hpt.few
    have a3 : (0 : Int) < (R.pts.length : Int) := by omega
    have a4 : (R.pts.length : Int) ≤ 8 := by omega
    have HP := Lib.hid hpt
    clear hpt
    have G2 := Lib.hid g2
    clear g2
    repeat' (first | (with_reducible first | refine vseq ?_ | refine vthenN ?_ | refine vthenE ?_ | refine vthenR ?_ | refine vret ?_ | refine vskip ?_ | refine vexit ?_ | refine vblock ?_ | refine vblockN ?_ | refine vblockR ?_ | refine vblockH ?_ | refine vrun_nil ?_ | refine vblockE rfl ?_ | refine vregion [] ?_ | refine vhrun_nil ?_) | ((with_reducible refine vcondT ?_ ?_); (focus (go_simp; done))) | ((with_reducible refine vcondF ?_ ?_); (focus (go_simp; done))) | ((with_reducible first | refine vrun_cons fun KK hKK => ?_ | refine vhrun_cons fun KK hKK => ?_); go_simp; (first | (with_reducible refine ⟨_, g1, ?_⟩) | (refine ⟨_, ⟨G2.out, rfl⟩, ?_⟩) | (refine ⟨_, g3, ?_⟩) | (refine ⟨_, g4, ?_⟩) | (with_reducible refine ⟨_, g5, ?_⟩) | (with_reducible refine ⟨_, e4, ?_⟩) | (with_reducible refine ⟨_, e5, ?_⟩) | (with_reducible refine ⟨_, e6, ?_⟩) | (with_reducible refine ⟨_, e26, ?_⟩) | (with_reducible refine ⟨_, e2, ?_⟩) | (with_reducible refine ⟨_, e10, ?_⟩) | (with_reducible refine ⟨_, e8, ?_⟩) | (refine ⟨_, f7, ?_⟩) | skip); refine hKK _ ?_; clear hKK KK) | ((refine vdrawL 13 13 [] rfl (by kernel_rfl) (by kernel_rfl) ?_); simp only [List.append, List.take, List.drop]) | ((refine vdrawL 14 14 [] rfl (by kernel_rfl) (by kernel_rfl) ?_); simp only [List.append, List.take, List.drop]) | ((refine vdrawL 41 41 [] rfl (by kernel_rfl) (by kernel_rfl) ?_); simp only [List.take, List.drop]) | ((with_reducible refine vcondS ?_ (fun ht => ?_) (fun ht => ?_)); (focus (go_simp; done)); (all_goals (simp [go_sem] at ht; replace ht := ht.out))) | ((apply vrun_consG0 rfl); (focus (go_simp <;> exact rfl)); (focus (go_simp; done)); (focus (intro hb0; replace hb0 := hb0.out; go_simp <;> (first | exact rfl | exact g1 | exact G2.out | exact g3 | exact g4 | exact g5 | exact e4 | exact e5 | exact e6 | exact e26 | exact e2 | exact e10 | exact e8 | exact f7 | exact ⟨g1, rfl⟩ | exact ⟨G2.out, rfl⟩ | exact ⟨g3, rfl⟩ | exact ⟨g4, rfl⟩ | exact ⟨g5, rfl⟩ | exact ⟨e4, rfl⟩ | exact ⟨e5, rfl⟩ | exact ⟨e6, rfl⟩ | exact ⟨e26, rfl⟩ | exact ⟨e2, rfl⟩ | exact ⟨e10, rfl⟩ | exact ⟨e8, rfl⟩ | exact ⟨f7, rfl⟩))); intro KK hKK; go_simp; refine hKK _ ?_; clear hKK KK) | ((apply vhrun_consG0 rfl); (focus (go_simp <;> exact rfl)); (focus (intro hb0; replace hb0 := hb0.out; go_simp <;> (first | exact rfl | exact g1 | exact G2.out | exact g3 | exact g4 | exact g5 | exact e4 | exact e5 | exact e6 | exact e26 | exact e2 | exact e10 | exact e8 | exact f7 | exact ⟨g1, rfl⟩ | exact ⟨G2.out, rfl⟩ | exact ⟨g3, rfl⟩ | exact ⟨g4, rfl⟩ | exact ⟨g5, rfl⟩ | exact ⟨e4, rfl⟩ | exact ⟨e5, rfl⟩ | exact ⟨e6, rfl⟩ | exact ⟨e26, rfl⟩ | exact ⟨e2, rfl⟩ | exact ⟨e10, rfl⟩ | exact ⟨e8, rfl⟩ | exact ⟨f7, rfl⟩))); intro KK hKK; go_simp; refine hKK _ ?_; clear hKK KK))
    apply vcnt [1, 2, 8, 9, 10, 66, 67, 68, 126] (fun k => [(127, I (k : Int))]) (fun k => ([some (.box [I 0, I 0]), some (.box R.av)] : Hp))  (R.pts.length)
    · go_simp <;> exact rfl
    · go_simp
    · intro j hj K hK
      obtain ⟨x1, x2, x3, x4, x5, x6⟩ := ixs (m := j) (by omega)
      have g := y_pointErr R.pts j HP.out hj
      repeat' (first | (with_reducible first | refine vseq ?_ | refine vthenN ?_ | refine vthenE ?_ | refine vthenR ?_ | refine vret ?_ | refine vskip ?_ | refine vexit ?_ | refine vblock ?_ | refine vblockN ?_ | refine vblockR ?_ | refine vblockH ?_ | refine vrun_nil ?_ | refine vblockE rfl ?_ | refine vregion [] ?_ | refine vhrun_nil ?_) | ((with_reducible refine vcondT ?_ ?_); (focus (go_simp; done))) | ((with_reducible refine vcondF ?_ ?_); (focus (go_simp; done))) | ((with_reducible first | refine vrun_cons fun KK hKK => ?_ | refine vhrun_cons fun KK hKK => ?_); go_simp; (first | (with_reducible refine ⟨_, g, ?_⟩) | skip); refine hKK _ ?_; clear hKK KK) | ((refine vdrawL 13 13 [] rfl (by kernel_rfl) (by kernel_rfl) ?_); simp only [List.append, List.take, List.drop]) | ((refine vdrawL 14 14 [] rfl (by kernel_rfl) (by kernel_rfl) ?_); simp only [List.append, List.take, List.drop]) | ((refine vdrawL 41 41 [] rfl (by kernel_rfl) (by kernel_rfl) ?_); simp only [List.append, List.take, List.drop]) | ((with_reducible refine vcondS ?_ (fun ht => ?_) (fun ht => ?_)); (focus (go_simp; done)); (all_goals (simp [go_sem] at ht; replace ht := ht.out))) | ((apply vrun_consG0 rfl); (focus (go_simp <;> exact rfl)); (focus (go_simp; done)); (focus (intro hb0; replace hb0 := hb0.out; go_simp <;> (first | exact rfl | exact g | exact ⟨g, rfl⟩))); intro KK hKK; go_simp; refine hKK _ ?_; clear hKK KK) | ((apply vhrun_consG0 rfl); (focus (go_simp <;> exact rfl)); (focus (intro hb0; replace hb0 := hb0.out; go_simp <;> (first | exact rfl | exact g | exact ⟨g, rfl⟩))); intro KK hKK; go_simp; refine hKK _ ?_; clear hKK KK))
      refine hK _ ?_
      go_simp
    intro K
    repeat' (first | (with_reducible first | refine vseq ?_ | refine vthenN ?_ | refine vthenE ?_ | refine vthenR ?_ | refine vret ?_ | refine vskip ?_ | refine vexit ?_ | refine vblock ?_ | refine vblockN ?_ | refine vblockR ?_ | refine vblockH ?_ | refine vrun_nil ?_ | refine vblockE rfl ?_ | refine vregion [] ?_ | refine vhrun_nil ?_) | ((with_reducible refine vcondT ?_ ?_); (focus (go_simp; done))) | ((with_reducible refine vcondF ?_ ?_); (focus (go_simp; done))) | ((with_reducible first | refine vrun_cons fun KK hKK => ?_ | refine vhrun_cons fun KK hKK => ?_); go_simp; refine hKK _ ?_; clear hKK KK) | ((refine vdrawL 13 13 [] rfl (by kernel_rfl) (by kernel_rfl) ?_); simp only [List.append, List.take, List.drop]) | ((refine vdrawL 14 14 [] rfl (by kernel_rfl) (by kernel_rfl) ?_); simp only [List.append, List.take, List.drop]) | ((refine vdrawL 41 41 [] rfl (by kernel_rfl) (by kernel_rfl) ?_); simp only [List.append, List.take, List.drop]) | ((with_reducible refine vcondS ?_ (fun ht => ?_) (fun ht => ?_)); (focus (go_simp; done)); (all_goals (simp [go_sem] at ht; replace ht := ht.out))) | ((apply vrun_consG0 rfl); (focus (go_simp <;> exact rfl)); (focus (go_simp; done)); (focus (intro hb0; replace hb0 := hb0.out; go_simp <;> (first | exact rfl))); intro KK hKK; go_simp; refine hKK _ ?_; clear hKK KK) | ((apply vhrun_consG0 rfl); (focus (go_simp <;> exact rfl)); (focus (intro hb0; replace hb0 := hb0.out; go_simp <;> (first | exact rfl))); intro KK hKK; go_simp; refine hKK _ ?_; clear hKK KK))
    apply vcnt [1, 2, 8, 9, 10, 66, 67, 68, 143] (fun k => [(144, I (k : Int))]) (fun k => ([some (.box [I 0, I 0]), some (.box R.av)] : Hp))  (R.pts.length)
    · go_simp <;> exact rfl
    · go_simp
    · intro j hj K hK
      obtain ⟨x1, x2, x3, x4, x5, x6⟩ := ixs (m := j) (by omega)
      have g := y_inOrder R.pts j HP.out hj
      repeat' (first | (with_reducible first | refine vseq ?_ | refine vthenN ?_ | refine vthenE ?_ | refine vthenR ?_ | refine vret ?_ | refine vskip ?_ | refine vexit ?_ | refine vblock ?_ | refine vblockN ?_ | refine vblockR ?_ | refine vblockH ?_ | refine vrun_nil ?_ | refine vblockE rfl ?_ | refine vregion [] ?_ | refine vhrun_nil ?_) | ((with_reducible refine vcondT ?_ ?_); (focus (go_simp; done))) | ((with_reducible refine vcondF ?_ ?_); (focus (go_simp; done))) | ((with_reducible first | refine vrun_cons fun KK hKK => ?_ | refine vhrun_cons fun KK hKK => ?_); go_simp; (first | (with_reducible refine ⟨_, g, ?_⟩) | skip); refine hKK _ ?_; clear hKK KK) | ((refine vdrawL 13 13 [] rfl (by kernel_rfl) (by kernel_rfl) ?_); simp only [List.append, List.take, List.drop]) | ((refine vdrawL 14 14 [] rfl (by kernel_rfl) (by kernel_rfl) ?_); simp only [List.append, List.take, List.drop]) | ((refine vdrawL 41 41 [] rfl (by kernel_rfl) (by kernel_rfl) ?_); simp only [List.append, List.take, List.drop]) | ((with_reducible refine vcondS ?_ (fun ht => ?_) (fun ht => ?_)); (focus (go_simp; done)); (all_goals (simp [go_sem] at ht; replace ht := ht.out))) | ((apply vrun_consG0 rfl); (focus (go_simp <;> exact rfl)); (focus (go_simp; done)); (focus (intro hb0; replace hb0 := hb0.out; go_simp <;> (first | exact rfl | exact g | exact ⟨g, rfl⟩))); intro KK hKK; go_simp; refine hKK _ ?_; clear hKK KK) | ((apply vhrun_consG0 rfl); (focus (go_simp <;> exact rfl)); (focus (intro hb0; replace hb0 := hb0.out; go_simp <;> (first | exact rfl | exact g | exact ⟨g, rfl⟩))); intro KK hKK; go_simp; refine hKK _ ?_; clear hKK KK))
      refine hK _ ?_
      go_simp
    intro K
    repeat' (first | (with_reducible first | refine vseq ?_ | refine vthenN ?_ | refine vthenE ?_ | refine vthenR ?_ | refine vret ?_ | refine vskip ?_ | refine vexit ?_ | refine vblock ?_ | refine vblockN ?_ | refine vblockR ?_ | refine vblockH ?_ | refine vrun_nil ?_ | refine vblockE rfl ?_ | refine vregion [] ?_ | refine vhrun_nil ?_) | ((with_reducible refine vcondT ?_ ?_); (focus (go_simp; done))) | ((with_reducible refine vcondF ?_ ?_); (focus (go_simp; done))) | ((with_reducible first | refine vrun_cons fun KK hKK => ?_ | refine vhrun_cons fun KK hKK => ?_); go_simp; refine hKK _ ?_; clear hKK KK) | ((refine vdrawL 13 13 [] rfl (by kernel_rfl) (by kernel_rfl) ?_); simp only [List.append, List.take, List.drop]) | ((refine vdrawL 14 14 [] rfl (by kernel_rfl) (by kernel_rfl) ?_); simp only [List.append, List.take, List.drop]) | ((refine vdrawL 41 41 [] rfl (by kernel_rfl) (by kernel_rfl) ?_); simp only [List.append, List.take, List.drop]) | ((with_reducible refine vcondS ?_ (fun ht => ?_) (fun ht => ?_)); (focus (go_simp; done)); (all_goals (simp [go_sem] at ht; replace ht := ht.out))) | ((apply vrun_consG0 rfl); (focus (go_simp <;> exact rfl)); (focus (go_simp; done)); (focus (intro hb0; replace hb0 := hb0.out; go_simp <;> (first | exact rfl))); intro KK hKK; go_simp; refine hKK _ ?_; clear hKK KK) | ((apply vhrun_consG0 rfl); (focus (go_simp <;> exact rfl)); (focus (intro hb0; replace hb0 := hb0.out; go_simp <;> (first | exact rfl))); intro KK hKK; go_simp; refine hKK _ ?_; clear hKK KK))
    refine hK _ ?_
    go_simp
  intro K
  repeat' (first | (with_reducible first | refine vseq ?_ | refine vthenN ?_ | refine vthenE ?_ | refine vthenR ?_ | refine vret ?_ | refine vskip ?_ | refine vexit ?_ | refine vblock ?_ | refine vblockN ?_ | refine vblockR ?_ | refine vblockH ?_ | refine vrun_nil ?_ | refine vblockE rfl ?_ | refine vregion [] ?_ | refine vhrun_nil ?_) | ((with_reducible refine vcondT ?_ ?_); (focus (go_simp; done))) | ((with_reducible refine vcondF ?_ ?_); (focus (go_simp; done))) | ((with_reducible first | refine vrun_cons fun KK hKK => ?_ | refine vhrun_cons fun KK hKK => ?_); go_simp; refine hKK _ ?_; clear hKK KK) | ((refine vdrawL 13 13 [] rfl (by kernel_rfl) (by kernel_rfl) ?_); simp only [List.append, List.take, List.drop]) | ((refine vdrawL 14 14 [] rfl (by kernel_rfl) (by kernel_rfl) ?_); simp only [List.append, List.take, List.drop]) | ((refine vdrawL 41 41 [] rfl (by kernel_rfl) (by kernel_rfl) ?_); simp only [List.append, List.take, List.drop]) | ((with_reducible refine vcondS ?_ (fun ht => ?_) (fun ht => ?_)); (focus (go_simp; done)); (all_goals (simp [go_sem] at ht; replace ht := ht.out))) | ((apply vrun_consG0 rfl); (focus (go_simp <;> exact rfl)); (focus (go_simp; done)); (focus (intro hb0; replace hb0 := hb0.out; go_simp <;> (first | exact rfl))); intro KK hKK; go_simp; refine hKK _ ?_; clear hKK KK) | ((apply vhrun_consG0 rfl); (focus (go_simp <;> exact rfl)); (focus (intro hb0; replace hb0 := hb0.out; go_simp <;> (first | exact rfl))); intro KK hKK; go_simp; refine hKK _ ?_; clear hKK KK))
  go_simp
/-- The program's net: the same. -/
abbrev snetA (n : Nt) : AV := .agg [.sl 1 (n.places.map txtA), .sl 5 (n.roads.map Rd.av)]
theorem y_open (n : Nt) (h : RightNet n) (hs : SmallN n) : VC Try.prog 28 [netA n] (.tup [snetA n, I 0]) := by
  have g := y_CheckNet n h hs
  clear h hs
  refine VC_of Try.func28 rfl (by kernel_rfl) (by kernel_rfl) rfl fun M0 w0 => ?_
  simp only [Try.ntmps28, Try.results28, enumA]
  repeat' (first | (with_reducible first | refine vseq ?_ | refine vthenN ?_ | refine vthenE ?_ | refine vthenR ?_ | refine vret ?_ | refine vskip ?_ | refine vexit ?_ | refine vblock ?_ | refine vblockN ?_ | refine vblockR ?_ | refine vblockH ?_ | refine vrun_nil ?_ | refine vblockE rfl ?_ | refine vregion [] ?_ | refine vhrun_nil ?_) | ((with_reducible refine vcondT ?_ ?_); (focus (go_simp; done))) | ((with_reducible refine vcondF ?_ ?_); (focus (go_simp; done))) | ((with_reducible first | refine vrun_cons fun KK hKK => ?_ | refine vhrun_cons fun KK hKK => ?_); go_simp; (first | (with_reducible refine ⟨_, g, ?_⟩) | skip); refine hKK _ ?_; clear hKK KK) | ((with_reducible refine vcondS ?_ (fun ht => ?_) (fun ht => ?_)); (focus (go_simp; done)); (all_goals (simp [go_sem] at ht; replace ht := ht.out))))
  go_simp
theorem y_placeErr (n : Nt) (k : Int) (h : n.places.length ≤ 1000) : VC Try.prog 31 [snetA n, I k] (I (unl (isPl n k) 6)) := by
  have hw := wrap_eq (x := (n.places.length : Int) - 1) (by omega) (by omega)
  refine VC_of Try.func31 rfl (by kernel_rfl) (by kernel_rfl) rfl fun M0 w0 => ?_
  simp only [Try.ntmps31, Try.results31, enumA]
  repeat' (first | (with_reducible first | refine vseq ?_ | refine vthenN ?_ | refine vthenE ?_ | refine vthenR ?_ | refine vret ?_ | refine vskip ?_ | refine vexit ?_ | refine vblock ?_ | refine vblockN ?_ | refine vblockR ?_ | refine vblockH ?_ | refine vrun_nil ?_ | refine vblockE rfl ?_ | refine vregion [] ?_ | refine vhrun_nil ?_) | ((with_reducible refine vcondT ?_ ?_); (focus (go_simp; done))) | ((with_reducible refine vcondF ?_ ?_); (focus (go_simp; done))) | ((with_reducible first | refine vrun_cons fun KK hKK => ?_ | refine vhrun_cons fun KK hKK => ?_); go_simp; (first | (with_reducible refine ⟨_, p_within _ _ _, ?_⟩) | (with_reducible refine ⟨_, p_unless _ _, ?_⟩) | skip); refine hKK _ ?_; clear hKK KK) | ((with_reducible refine vcondS ?_ (fun ht => ?_) (fun ht => ?_)); (focus (go_simp; done)); (all_goals (simp [go_sem] at ht; replace ht := ht.out))))
  go_simp
  rfl
theorem y_timeErr (t : Int) : VC Try.prog 39 [I t] (I (unl (inR t 0 604800) 2)) := by
  refine VC_of Try.func39 rfl (by kernel_rfl) (by kernel_rfl) rfl fun M0 w0 => ?_
  simp only [Try.ntmps39, Try.results39, enumA]
  repeat' (first | (with_reducible first | refine vseq ?_ | refine vthenN ?_ | refine vthenE ?_ | refine vthenR ?_ | refine vret ?_ | refine vskip ?_ | refine vexit ?_ | refine vblock ?_ | refine vblockN ?_ | refine vblockR ?_ | refine vblockH ?_ | refine vrun_nil ?_ | refine vblockE rfl ?_ | refine vregion [] ?_ | refine vhrun_nil ?_) | ((with_reducible refine vcondT ?_ ?_); (focus (go_simp; done))) | ((with_reducible refine vcondF ?_ ?_); (focus (go_simp; done))) | ((with_reducible first | refine vrun_cons fun KK hKK => ?_ | refine vhrun_cons fun KK hKK => ?_); go_simp; (first | (with_reducible refine ⟨_, p_within _ _ _, ?_⟩) | (with_reducible refine ⟨_, p_unless _ _, ?_⟩) | skip); refine hKK _ ?_; clear hKK KK) | ((with_reducible refine vcondS ?_ (fun ht => ?_) (fun ht => ?_)); (focus (go_simp; done)); (all_goals (simp [go_sem] at ht; replace ht := ht.out))))
  go_simp
theorem y_tripErr (n : Nt) (t : Tr) (h : n.places.length ≤ 1000) (ht : tripE n t = 0) : VC Try.prog 41 [snetA n, tripA t] (I 0) := by
  unfold tripE at ht
  have e3 : VC Try.prog 29 [.sl 1 ([0, 0, 0].map intA)] (I 0) := p_first [0, 0, 0] (by decide)
  have g1 := y_placeErr n t.src h
  have g2 := y_placeErr n t.dst h
  have g3 := y_timeErr t.at_
  generalize isPl n t.src = b1 at *
  generalize isPl n t.dst = b2 at *
  generalize inR t.at_ 0 604800 = b3 at *
  cases b1 <;> cases b2 <;> cases b3 <;> simp at ht
  replace g1 : VC Try.prog 31 [snetA n, I t.src] (I 0) := g1
  replace g2 : VC Try.prog 31 [snetA n, I t.dst] (I 0) := g2
  replace g3 : VC Try.prog 39 [I t.at_] (I 0) := g3
  refine VC_of Try.func41 rfl (by kernel_rfl) (by kernel_rfl) rfl fun M0 w0 => ?_
  simp only [Try.ntmps41, Try.results41, enumA]
  repeat' (first | (with_reducible first | refine vseq ?_ | refine vthenN ?_ | refine vthenE ?_ | refine vthenR ?_ | refine vret ?_ | refine vskip ?_ | refine vexit ?_ | refine vblock ?_ | refine vblockN ?_ | refine vblockR ?_ | refine vblockH ?_ | refine vrun_nil ?_ | refine vblockE rfl ?_ | refine vregion [] ?_ | refine vhrun_nil ?_) | ((with_reducible refine vcondT ?_ ?_); (focus (go_simp; done))) | ((with_reducible refine vcondF ?_ ?_); (focus (go_simp; done))) | ((with_reducible first | refine vrun_cons fun KK hKK => ?_ | refine vhrun_cons fun KK hKK => ?_); go_simp; (first | (with_reducible refine ⟨_, g1, ?_⟩) | (with_reducible refine ⟨_, g2, ?_⟩) | (with_reducible refine ⟨_, g3, ?_⟩) | (refine ⟨_, e3, ?_⟩) | skip); refine hKK _ ?_; clear hKK KK) | ((refine vdrawL 14 14 [] rfl (by kernel_rfl) (by kernel_rfl) ?_); simp only [List.take, List.drop]) | ((with_reducible refine vcondS ?_ (fun ht => ?_) (fun ht => ?_)); (focus (go_simp; done)); (all_goals (simp [go_sem] at ht; replace ht := ht.out))))
  go_simp
theorem y_openTrip (n : Nt) (t : Tr) (h : RightNet n) (hs : SmallN n) (ht : tripE n t = 0) : VC Try.prog 23 [netA n, tripA t] (.tup [snetA n, I 0]) := by
  have g1 := y_open n h hs
  have g2 := y_tripErr n t hs.p ht
  have e3 : VC Try.prog 29 [.sl 1 ([0, 0].map intA)] (I 0) := p_first [0, 0] (by decide)
  clear h hs
  refine VC_of Try.func23 rfl (by kernel_rfl) (by kernel_rfl) rfl fun M0 w0 => ?_
  simp only [Try.ntmps23, Try.results23, enumA]
  repeat' (first | (with_reducible first | refine vseq ?_ | refine vthenN ?_ | refine vthenE ?_ | refine vthenR ?_ | refine vret ?_ | refine vskip ?_ | refine vexit ?_ | refine vblock ?_ | refine vblockN ?_ | refine vblockR ?_ | refine vblockH ?_ | refine vrun_nil ?_ | refine vblockE rfl ?_ | refine vregion [] ?_ | refine vhrun_nil ?_) | ((with_reducible refine vcondT ?_ ?_); (focus (go_simp; done))) | ((with_reducible refine vcondF ?_ ?_); (focus (go_simp; done))) | ((with_reducible first | refine vrun_cons fun KK hKK => ?_ | refine vhrun_cons fun KK hKK => ?_); go_simp; (first | (with_reducible refine ⟨_, g1, ?_⟩) | (with_reducible refine ⟨_, g2, ?_⟩) | (refine ⟨_, e3, ?_⟩) | skip); refine hKK _ ?_; clear hKK KK) | ((refine vdrawL 9 7 [] rfl (by kernel_rfl) (by kernel_rfl) ?_); simp only [List.take, List.drop]) | ((with_reducible refine vcondS ?_ (fun ht => ?_) (fun ht => ?_)); (focus (go_simp; done)); (all_goals (simp [go_sem] at ht; replace ht := ht.out))))
  go_simp
end Go.Proofs.Ytcndlalhkkjocaa
