/- Texts in one: Walks on plain values: how large items and chains are; no condition but that they can be read. -/
import Derived.Test.YthbgghmjbaldlaaGreatDoorFK17
/-! QJ: Walks on plain values: how large items and chains are; no condition but that they can be read. -/
namespace Go.Proofs.YthbgghmjbaldlaaGreatDoor
open Go.RowKit
set_option maxRecDepth 100000
set_option maxHeartbeats 1000000
def longM (l : List Mark) (k : Nat) : Bool := decide ((20 : Int) < (mat l k).key.size) || decide ((20 : Int) < (mat l k).value.size)
def shortM (l : List Mark) : Bool := !decide ((10 : Int) < l.length) && !anyP (longM l) 0 l.length
theorem l_short (l : List Mark) (hl : l.length ≤ 9223372036854775807) (hd : ∀ m ∈ l, m.key.size ≤ 9223372036854775807 ∧ m.value.size ≤ 9223372036854775807) : VC Tryz.prog 89 [marksA l] (B (shortM l)) := by
  obtain ⟨R, hR⟩ : ∃ R, shortM l = R := ⟨_, rfl⟩
  rw [hR]
  unfold shortM at hR
  have HR := Lib.hid hR
  have HD := Lib.hid hd
  clear hR hd
  refine VC_of Tryz.func89 rfl (by kernel_rfl) (by kernel_rfl) rfl fun M0 w0 => ?_
  simp only [Tryz.ntmps89, Tryz.results89, enumA]
  by_cases h10 : (10 : Int) < l.length
  · have e := HR.out
    rw [decide_eq_true h10] at e
    subst e
    repeat' (first | (with_reducible first | refine vseq ?_ | refine vthenN ?_ | refine vthenE ?_ | refine vthenR ?_ | refine vret ?_ | refine vskip ?_ | refine vexit ?_ | refine vblock ?_ | refine vblockN ?_ | refine vblockR ?_ | refine vblockH ?_ | refine vrun_nil ?_ | refine vblockE rfl ?_ | refine vregion [] ?_ | refine vhrun_nil ?_) | ((with_reducible refine vcondT ?_ ?_); (focus (go_simp; done))) | ((with_reducible refine vcondF ?_ ?_); (focus (go_simp; done))) | ((with_reducible first | refine vrun_cons fun KK hKK => ?_ | refine vhrun_cons fun KK hKK => ?_); go_simp; refine hKK _ ?_; clear hKK KK) | ((with_reducible refine vcondS ?_ (fun ht => ?_) (fun ht => ?_)); (focus (go_simp; done)); (all_goals (simp [go_sem] at ht; replace ht := ht.out))) | ((apply vrun_consG0 rfl); (focus (go_simp <;> exact rfl)); (focus (go_simp; done)); (focus (intro hb0; replace hb0 := hb0.out; go_simp <;> (first | exact rfl))); intro KK hKK; go_simp; refine hKK _ ?_; clear hKK KK))
    go_simp
  · repeat' (first | (with_reducible first | refine vseq ?_ | refine vthenN ?_ | refine vthenE ?_ | refine vthenR ?_ | refine vret ?_ | refine vskip ?_ | refine vexit ?_ | refine vblock ?_ | refine vblockN ?_ | refine vblockR ?_ | refine vblockH ?_ | refine vrun_nil ?_ | refine vblockE rfl ?_ | refine vregion [] ?_ | refine vhrun_nil ?_) | ((with_reducible refine vcondT ?_ ?_); (focus (go_simp; done))) | ((with_reducible refine vcondF ?_ ?_); (focus (go_simp; done))) | ((with_reducible first | refine vrun_cons fun KK hKK => ?_ | refine vhrun_cons fun KK hKK => ?_); go_simp; refine hKK _ ?_; clear hKK KK) | ((with_reducible refine vcondS ?_ (fun ht => ?_) (fun ht => ?_)); (focus (go_simp; done)); (all_goals (simp [go_sem] at ht; replace ht := ht.out))) | ((apply vrun_consG0 rfl); (focus (go_simp <;> exact rfl)); (focus (go_simp; done)); (focus (intro hb0; replace hb0 := hb0.out; go_simp <;> (first | exact rfl))); intro KK hKK; go_simp; refine hKK _ ?_; clear hKK KK))
    apply vfor [0] (fun k => [(3, I k)]) (fun k => ([] : Hp)) (longM l) (l.length)
    · go_simp <;> exact rfl
    · go_simp
    · intro k hk HB HP K hK
      obtain ⟨w1, w2, w3, w4, w5, w6⟩ := ixs (m := k) (by omega)
      obtain ⟨s1, s2⟩ := HD.out l[k] (List.getElem_mem hk)
      have hp := HP.out
      unfold longM at hp
      rw [mat_get hk, Bool.or_eq_false_iff, decide_eq_false_iff_not, decide_eq_false_iff_not] at hp
      obtain ⟨p1, p2⟩ := hp
      repeat' (first | (with_reducible first | refine vseq ?_ | refine vthenN ?_ | refine vthenE ?_ | refine vthenR ?_ | refine vret ?_ | refine vskip ?_ | refine vexit ?_ | refine vblock ?_ | refine vblockN ?_ | refine vblockR ?_ | refine vblockH ?_ | refine vrun_nil ?_ | refine vblockE rfl ?_ | refine vregion [] ?_ | refine vhrun_nil ?_) | ((with_reducible refine vcondT ?_ ?_); (focus (go_simp; done))) | ((with_reducible refine vcondF ?_ ?_); (focus (go_simp; done))) | ((with_reducible first | refine vrun_cons fun KK hKK => ?_ | refine vhrun_cons fun KK hKK => ?_); go_simp; refine hKK _ ?_; clear hKK KK) | ((with_reducible refine vcondS ?_ (fun ht => ?_) (fun ht => ?_)); (focus (go_simp; done)); (all_goals (simp [go_sem] at ht; replace ht := ht.out))) | ((apply vrun_consG0 rfl); (focus (go_simp <;> exact rfl)); (focus (go_simp; done)); (focus (intro hb0; replace hb0 := hb0.out; go_simp <;> (first | exact rfl))); intro KK hKK; go_simp; refine hKK _ ?_; clear hKK KK))
      refine hK _ ?_
      go_simp
    · intro k hk HB HP K
      obtain ⟨s1, s2⟩ := HD.out l[k] (List.getElem_mem hk)
      have hp := HP.out
      unfold longM at hp
      rw [mat_get hk] at hp
      have e := HR.out
      rw [anyP_hit hk HP.out, Bool.not_true, Bool.and_false] at e
      subst e
      repeat' (first | (with_reducible first | refine vseq ?_ | refine vthenN ?_ | refine vthenE ?_ | refine vthenR ?_ | refine vret ?_ | refine vskip ?_ | refine vexit ?_ | refine vblock ?_ | refine vblockN ?_ | refine vblockR ?_ | refine vblockH ?_ | refine vrun_nil ?_ | refine vblockE rfl ?_ | refine vregion [] ?_ | refine vhrun_nil ?_) | ((with_reducible refine vcondT ?_ ?_); (focus (go_simp; done))) | ((with_reducible refine vcondF ?_ ?_); (focus (go_simp; done))) | ((with_reducible first | refine vrun_cons fun KK hKK => ?_ | refine vhrun_cons fun KK hKK => ?_); go_simp; refine hKK _ ?_; clear hKK KK) | ((with_reducible refine vcondS ?_ (fun ht => ?_) (fun ht => ?_)); (focus (go_simp; done)); (all_goals (simp [go_sem] at ht; replace ht := ht.out))) | ((apply vrun_consG0 rfl); (focus (go_simp <;> exact rfl)); (focus (go_simp; done)); (focus (intro hb0; replace hb0 := hb0.out; go_simp <;> (first | exact rfl))); intro KK hKK; go_simp; refine hKK _ ?_; clear hKK KK))
      go_simp
    · intro HB K
      have e := HR.out
      rw [anyP_out HB.out, decide_eq_false h10] at e
      subst e
      repeat (first | (with_reducible first | refine vseq ?_ | refine vthenN ?_ | refine vthenE ?_ | refine vthenR ?_ | refine vret ?_ | refine vskip ?_ | refine vexit ?_ | refine vblock ?_ | refine vblockN ?_ | refine vblockR ?_ | refine vblockH ?_ | refine vrun_nil ?_ | refine vblockE rfl ?_ | refine vregion [] ?_ | refine vhrun_nil ?_) | ((with_reducible refine vcondT ?_ ?_); (focus (go_simp; done))) | ((with_reducible refine vcondF ?_ ?_); (focus (go_simp; done))) | ((with_reducible first | refine vrun_cons fun KK hKK => ?_ | refine vhrun_cons fun KK hKK => ?_); go_simp; refine hKK _ ?_; clear hKK KK))
      go_simp
def shortI (x : Item) : Bool := decide ((x.name.size : Int) ≤ 20) && decide ((x.who.size : Int) ≤ 20) && shortM x.marks
theorem l_item (x : Item) (h : BigI x) : VC Tryz.prog 32 [itemA x] (B (shortI x)) := by
  have h1 := l_short x.marks h.few h.marks
  have h2 := h.name
  have h3 := h.who
  unfold shortI
  clear h
  generalize shortM x.marks = E at *
  refine VC_of Tryz.func32 rfl (by kernel_rfl) (by kernel_rfl) rfl fun M0 w0 => ?_
  simp only [Tryz.ntmps32, Tryz.results32, enumA]
  repeat' (first | (with_reducible first | refine vseq ?_ | refine vthenN ?_ | refine vthenE ?_ | refine vthenR ?_ | refine vret ?_ | refine vskip ?_ | refine vexit ?_ | refine vblock ?_ | refine vblockN ?_ | refine vblockR ?_ | refine vblockH ?_ | refine vrun_nil ?_ | refine vblockE rfl ?_ | refine vregion [] ?_ | refine vhrun_nil ?_) | ((with_reducible refine vcondT ?_ ?_); (focus (go_simp; done))) | ((with_reducible refine vcondF ?_ ?_); (focus (go_simp; done))) | ((with_reducible first | refine vrun_cons fun KK hKK => ?_ | refine vhrun_cons fun KK hKK => ?_); go_simp; (first | (with_reducible refine ⟨_, h1, ?_⟩) | skip); refine hKK _ ?_; clear hKK KK) | ((with_reducible refine vcondS ?_ (fun ht => ?_) (fun ht => ?_)); (focus (go_simp; done)); (all_goals (simp [go_sem] at ht; replace ht := ht.out))) | ((apply vrun_consG0 rfl); (focus (go_simp <;> exact rfl)); (focus (go_simp; done)); (focus (intro hb0; replace hb0 := hb0.out; go_simp <;> (first | exact rfl | exact h1 | exact ⟨h1, rfl⟩))); intro KK hKK; go_simp; refine hKK _ ?_; clear hKK KK))
  go_simp
theorem l_claim (x : Item) (h : BigI x) : VC Tryz.prog 52 [itemA x] (B (shortI x)) := by
  have h1 := l_short x.marks h.few h.marks
  have h2 := h.name
  have h3 := h.who
  unfold shortI
  clear h
  generalize shortM x.marks = E at *
  refine VC_of Tryz.func52 rfl (by kernel_rfl) (by kernel_rfl) rfl fun M0 w0 => ?_
  simp only [Tryz.ntmps52, Tryz.results52, enumA]
  repeat' (first | (with_reducible first | refine vseq ?_ | refine vthenN ?_ | refine vthenE ?_ | refine vthenR ?_ | refine vret ?_ | refine vskip ?_ | refine vexit ?_ | refine vblock ?_ | refine vblockN ?_ | refine vblockR ?_ | refine vblockH ?_ | refine vrun_nil ?_ | refine vblockE rfl ?_ | refine vregion [] ?_ | refine vhrun_nil ?_) | ((with_reducible refine vcondT ?_ ?_); (focus (go_simp; done))) | ((with_reducible refine vcondF ?_ ?_); (focus (go_simp; done))) | ((with_reducible first | refine vrun_cons fun KK hKK => ?_ | refine vhrun_cons fun KK hKK => ?_); go_simp; (first | (with_reducible refine ⟨_, h1, ?_⟩) | skip); refine hKK _ ?_; clear hKK KK) | ((with_reducible refine vcondS ?_ (fun ht => ?_) (fun ht => ?_)); (focus (go_simp; done)); (all_goals (simp [go_sem] at ht; replace ht := ht.out))) | ((apply vrun_consG0 rfl); (focus (go_simp <;> exact rfl)); (focus (go_simp; done)); (focus (intro hb0; replace hb0 := hb0.out; go_simp <;> (first | exact rfl | exact h1 | exact ⟨h1, rfl⟩))); intro KK hKK; go_simp; refine hKK _ ?_; clear hKK KK))
  go_simp
theorem shortM_small {l : List Mark} (h : shortM l = true) : SmallM l ∧ l.length ≤ 10 := by
  simp only [shortM, Bool.and_eq_true, Bool.not_eq_true', decide_eq_false_iff_not] at h
  refine ⟨fun m hm => ?_, by omega⟩
  obtain ⟨k, hk, rfl⟩ := List.getElem_of_mem hm
  have h2 : longM l k = false := by
    cases hc : longM l k
    · rfl
    · rw [anyP_hit hk hc] at h; cases h.2
  unfold longM at h2
  rw [mat_get hk, Bool.or_eq_false_iff, decide_eq_false_iff_not, decide_eq_false_iff_not] at h2
  omega
theorem shortI_small {x : Item} (h : shortI x = true) : SmallI x ∧ x.marks.length ≤ 10 := by
  simp only [shortI, Bool.and_eq_true, decide_eq_true_eq] at h
  obtain ⟨⟨h1, h2⟩, h3⟩ := h
  obtain ⟨h4, h5⟩ := shortM_small h3
  exact ⟨⟨by omega, by omega, by omega, h4⟩, h5⟩
end Go.Proofs.YthbgghmjbaldlaaGreatDoor
