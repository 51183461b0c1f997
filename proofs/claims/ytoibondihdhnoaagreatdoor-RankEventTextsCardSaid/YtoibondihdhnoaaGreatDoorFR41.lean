/- Texts in one: Walks: an event is read. -/
import Derived.Test.YtoibondihdhnoaaGreatDoorFR40
import Derived.Test.YtoibondihdhnoaaGreatDoorFR15
import Derived.Test.YtoibondihdhnoaaGreatDoorFR39
/-! R3: Walks: an event is read. -/
namespace Go.Proofs.YtoibondihdhnoaaGreatDoor
open Go.RowKit
set_option maxRecDepth 100000
set_option maxHeartbeats 2000000
abbrev Kd : Type := ByteArray × Value
def kdav (q : Kd) : List AV := [S q.1, .lit q.2]
attribute [go_sem] kdav
def kdat (l : List Kd) (k : Nat) : Kd := l.getD k (ByteArray.empty, undef)
theorem kdat_get {l : List Kd} {k : Nat} (h : k < l.length) : kdat l k = l[k] := by simp [kdat, h]
theorem kd_at {l : List Kd} {k : Nat} (h : k < l.length) : l[k] = kdat l k := (kdat_get h).symm
attribute [go_sem] kd_at
/-- The kinds of events: their words, and what carries them out. -/
def kdL : List Kd := [(⟨#[97, 114, 114, 105, 118, 101]⟩, .func (.func 224) #[] #[]), (⟨#[115, 101, 114, 118, 101]⟩, .func (.func 225) #[] #[]), (⟨#[100, 101, 99, 108, 105, 110, 101]⟩, .func (.func 226) #[] #[]), (⟨#[108, 101, 97, 118, 101]⟩, .func (.func 227) #[] #[]), (⟨#[99, 97, 108, 108]⟩, .func (.func 228) #[] #[]), (⟨#[114, 101, 116, 117, 114, 110]⟩, .func (.func 229) #[] #[])]
theorem c_word (q : Kd) (w : List ByteArray) (h : 0 < w.length) (h1 : oneAV (.lit q.2) = true) : VC Tryz.prog 108 [.agg [S q.1, .lit q.2], .vp [txtsA w]] (B (decide (q.1 = tat w 0))) := by
  have e : w[0] = tat w 0 := (tat_get h).symm
  obtain ⟨a, v⟩ := q
  simp only at h1 ⊢
  refine VC_of Tryz.func108 rfl (by kernel_rfl) (by kernel_rfl) rfl fun M0 w0 => ?_
  simp only [Tryz.ntmps108, Tryz.results108, enumA]
  repeat' (first | (with_reducible first | refine vseq ?_ | refine vthenN ?_ | refine vret ?_ | refine vrun_nil ?_ | refine vregion [] ?_ | refine vhrun_nil ?_) | ((with_reducible first | refine vrun_cons fun KK hKK => ?_ | refine vhrun_cons fun KK hKK => ?_); go_simp; refine hKK _ ?_; clear hKK KK) | ((refine vdrawL 7 7 [] rfl (by kernel_rfl) (by kernel_rfl) ?_); simp only [List.take, List.drop]))
  go_simp
theorem p_ixKd (l : List Kd) (w : List ByteArray) (hw : 0 < w.length) (hl : l.length ≤ 1000000) (h1 : ∀ q ∈ l, oneAV (.lit q.2) = true) : VC Tryz.prog 107 [.sl 2 (l.map kdav), .fn (.func 108) [] [.vp [txtsA w]]] (I (ixP (fun j => decide ((kdat l j).1 = tat w 0)) 0 l.length)) := by
  obtain ⟨R, hR⟩ : ∃ R, ixP (fun j => decide ((kdat l j).1 = tat w 0)) 0 l.length = R := ⟨_, rfl⟩
  rw [hR]
  have HR := Lib.hid hR
  have H1 := Lib.hid h1
  clear hR h1
  refine VC_of Tryz.func107 rfl (by kernel_rfl) (by kernel_rfl) rfl fun M0 w0 => ?_
  simp only [Tryz.ntmps107, Tryz.results107, enumA]
  repeat' (first | (with_reducible first | refine vseq ?_ | refine vthenN ?_ | refine vblock ?_ | refine vrun_nil ?_ | refine vregion [] ?_) | ((with_reducible refine vrun_cons fun KK hKK => ?_); go_simp; refine hKK _ ?_; clear hKK KK))
  apply vfor [0, 1, 7] (fun k => [(8, I k)]) (fun k => ([] : Hp)) (fun j => decide ((kdat l j).1 = tat w 0)) (l.length)
  · go_simp <;> exact rfl
  · go_simp
  · intro k hk HB HP K hK
    obtain ⟨w1, w2, w3, w4, w5, w6⟩ := ixs (m := k) (by omega)
    have ho := H1.out _ (by rw [kdat_get hk]; exact List.getElem_mem hk : kdat l k ∈ l)
    have g := c_word (kdat l k) w hw ho
    have hp := HP.out
    rw [hp] at g
    clear hp
    repeat' (first | (with_reducible first | refine vseq ?_ | refine vthenN ?_ | refine vskip ?_ | refine vblock ?_ | refine vblockN ?_ | refine vrun_nil ?_ | refine vregion [] ?_) | ((with_reducible refine vcondT ?_ ?_); (focus (go_simp; done))) | ((with_reducible refine vcondF ?_ ?_); (focus (go_simp; done))) | ((with_reducible refine vrun_cons fun KK hKK => ?_); go_simp; (first | (refine ⟨_, g, ?_⟩) | skip); refine hKK _ ?_; clear hKK KK))
    refine hK _ ?_
    go_simp
  · intro k hk HB HP K
    have ho := H1.out _ (by rw [kdat_get hk]; exact List.getElem_mem hk : kdat l k ∈ l)
    have g := c_word (kdat l k) w hw ho
    have hp := HP.out
    rw [hp] at g
    clear hp
    have e := HR.out
    rw [ixP_hit hk HB.out HP.out] at e
    subst e
    repeat' (first | (with_reducible first | refine vseq ?_ | refine vthenN ?_ | refine vthenR ?_ | refine vret ?_ | refine vskip ?_ | refine vblock ?_ | refine vblockR ?_ | refine vrun_nil ?_ | refine vregion [] ?_) | ((with_reducible refine vcondT ?_ ?_); (focus (go_simp; done))) | ((with_reducible refine vrun_cons fun KK hKK => ?_); go_simp; (first | (refine ⟨_, g, ?_⟩) | skip); refine hKK _ ?_; clear hKK KK))
    go_simp
  · intro HB K
    have e := HR.out
    rw [ixP_out HB.out] at e
    subst e
    repeat (first | (with_reducible first | refine vseq ?_ | refine vthenN ?_ | refine vthenE ?_ | refine vret ?_ | refine vexit ?_ | refine vblockH ?_ | refine vrun_nil ?_ | refine vregion [] ?_) | ((with_reducible refine vcondF ?_ ?_); (focus (go_simp; done))) | ((with_reducible refine vrun_cons fun KK hKK => ?_); go_simp; refine hKK _ ?_; clear hKK KK))
    go_simp
theorem y_Contains (l : List ByteArray) (x : ByteArray) (hl : l.length ≤ 1000000) : VC Tryz.prog 106 [txtsA l, S x] (B (anyP (isT l x) 0 l.length)) := by
  have g := p_index l x hl
  rw [← ixP_any]
  generalize ixP (isT l x) 0 l.length = R at *
  refine VC_of Tryz.func106 rfl (by kernel_rfl) (by kernel_rfl) rfl fun M0 w0 => ?_
  simp only [Tryz.ntmps106, Tryz.results106, enumA]
  repeat' (first | (with_reducible first | refine vseq ?_ | refine vthenN ?_ | refine vret ?_ | refine vrun_nil ?_ | refine vregion [] ?_) | ((with_reducible refine vrun_cons fun KK hKK => ?_); go_simp; (first | (with_reducible refine ⟨_, g, ?_⟩) | skip); refine hKK _ ?_; clear hKK KK))
  go_simp
end Go.Proofs.YtoibondihdhnoaaGreatDoor

/-! R4: Walks: an event is read, as a whole. -/
namespace Go.Proofs.YtoibondihdhnoaaGreatDoor
open Go.RowKit
set_option maxRecDepth 100000
set_option maxHeartbeats 2000000
def zeroEv : Ev := ⟨0, 0, 0, ⟨#[]⟩⟩
def kindOf (a : ByteArray) : Int := ixP (fun j => decide ((kdat kdL j).1 = a)) 0 6
def evPE (w : List ByteArray) : Int :=
  fst [unl (decide (0 ≤ kindOf (tat w 0)) && progOK (tat w 1).data.toList && progOK (tat w 2).data.toList) 7, unl (!decide (kindOf (tat w 0) = 4) || decide (tat w 3 = ⟨#[45]⟩)) 3, unl (decide (kindOf (tat w 0) = 4) || isName (tat w 3)) 4]
def badW (w : List ByteArray) : Bool := !decide (w.length = 4) || anyP (isT w ⟨#[]⟩) 0 w.length
def evP (w : List ByteArray) : Ev × Int :=
  if badW w = true then (zeroEv, 7) else if evPE w ≠ 0 then (zeroEv, evPE w) else (⟨kindOf (tat w 0), progN (tat w 1).data.toList, progN (tat w 2).data.toList, if kindOf (tat w 0) = 4 then ⟨#[]⟩ else tat w 3⟩, 0)
theorem p_ParseEventB (s : ByteArray) (hs : s.size ≤ 1000) (hb : badW (pieces 32 s) = true) : VC Tryz.prog 46 [S s] (.tup [evA zeroEv, I 7]) := by
  have g1 := v_Split s 32 (by omega)
  have hpl := pieces_len 32 s
  have g2 := y_Contains (pieces 32 s) ⟨#[]⟩ (by omega)
  unfold badW at hb
  unfold zeroEv
  generalize pieces 32 s = w at *
  by_cases h4 : w.length = 4
  · rw [decide_eq_true h4, Bool.not_true, Bool.false_or] at hb
    rw [hb] at g2
    have h5 : (w.length : Int) = 4 := by omega
    clear hb hpl
    refine VC_of Tryz.func46 rfl (by kernel_rfl) (by kernel_rfl) rfl fun M0 w0 => ?_
    simp only [Tryz.ntmps46, Tryz.results46, enumA]
    repeat' (first | (with_reducible first | refine vseq ?_ | refine vthenN ?_ | refine vthenR ?_ | refine vret ?_ | refine vrun_nil ?_ | refine vregion [] ?_) | ((with_reducible refine vcondT ?_ ?_); (focus (go_simp; done))) | ((with_reducible refine vrun_cons fun KK hKK => ?_); go_simp; (first | (with_reducible refine ⟨_, g1, ?_⟩) | (with_reducible refine ⟨_, g2, ?_⟩) | skip); refine hKK _ ?_; clear hKK KK))
    all_goals go_simp
  · have h5 : ¬ (w.length : Int) = 4 := by omega
    clear hb hpl
    refine VC_of Tryz.func46 rfl (by kernel_rfl) (by kernel_rfl) rfl fun M0 w0 => ?_
    simp only [Tryz.ntmps46, Tryz.results46, enumA]
    repeat' (first | (with_reducible first | refine vseq ?_ | refine vthenN ?_ | refine vthenR ?_ | refine vret ?_ | refine vrun_nil ?_ | refine vregion [] ?_) | ((with_reducible refine vcondT ?_ ?_); (focus (go_simp; done))) | ((with_reducible refine vrun_cons fun KK hKK => ?_); go_simp; (first | (with_reducible refine ⟨_, g1, ?_⟩) | skip); refine hKK _ ?_; clear hKK KK))
    all_goals go_simp
theorem p_ParseEvent (s : ByteArray) (hs : s.size ≤ 1000) : VC Tryz.prog 46 [S s] (.tup [evA (evP (pieces 32 s)).1, I (evP (pieces 32 s)).2]) := by
  by_cases hb : badW (pieces 32 s) = true
  · have h := p_ParseEventB s hs hb
    unfold evP
    rw [if_pos hb]
    exact h
  unfold evP
  rw [if_neg hb]
  have g1 := v_Split s 32 (by omega)
  have hpl := pieces_len 32 s
  have g2 := y_Contains (pieces 32 s) ⟨#[]⟩ (by omega)
  have hps : ∀ p ∈ pieces 32 s, p.size ≤ 1000 := fun p hp => Nat.le_trans (pieces_size hp) hs
  unfold badW at hb
  generalize pieces 32 s = w at *
  have h4 : w.length = 4 := by
    by_cases h : w.length = 4
    · exact h
    · rw [decide_eq_false h] at hb
      simp at hb
  have hany : anyP (isT w ⟨#[]⟩) 0 w.length = false := by
    rw [decide_eq_true h4] at hb
    simpa using hb
  rw [hany] at g2
  have h5 : (w.length : Int) = 4 := by omega
  have a1 : w[1] = tat w 1 := (tat_get (by omega)).symm
  have a2 : w[2] = tat w 2 := (tat_get (by omega)).symm
  have a3 : w[3] = tat w 3 := (tat_get (by omega)).symm
  have z1 : (tat w 1).size ≤ 1000 := by rw [← a1]; exact hps _ (List.getElem_mem _)
  have z2 : (tat w 2).size ≤ 1000 := by rw [← a2]; exact hps _ (List.getElem_mem _)
  have z3 : (tat w 3).size ≤ 1000 := by rw [← a3]; exact hps _ (List.getElem_mem _)
  have g3 : VC Tryz.prog 107 [.sl 2 (kdL.map kdav), .fn (.func 108) [] [.vp [txtsA w]]] (I (kindOf (tat w 0))) := p_ixKd kdL w (by omega) (by decide) (fun q hq => by
    simp only [kdL, List.mem_cons, List.not_mem_nil, or_false] at hq
    rcases hq with rfl | rfl | rfl | rfl | rfl | rfl <;> rfl)
  have g4 := p_number (tat w 1) (by omega)
  have g5 := p_number (tat w 2) (by omega)
  have g6 := p_isName (tat w 3) z3
  have u1 := p_unless (decide (0 ≤ kindOf (tat w 0)) && progOK (tat w 1).data.toList && progOK (tat w 2).data.toList) 7
  have u2 := p_unless (!decide (kindOf (tat w 0) = 4) || decide (tat w 3 = ⟨#[45]⟩)) 3
  have u3 := p_unless (decide (kindOf (tat w 0) = 4) || isName (tat w 3)) 4
  have g7 : VC Tryz.prog 88 [.sl 1 ([unl (decide (0 ≤ kindOf (tat w 0)) && progOK (tat w 1).data.toList && progOK (tat w 2).data.toList) 7, unl (!decide (kindOf (tat w 0) = 4) || decide (tat w 3 = ⟨#[45]⟩)) 3, unl (decide (kindOf (tat w 0) = 4) || isName (tat w 3)) 4].map intA)] (I (evPE w)) := p_firstR _ rfl rfl
  generalize evPE w = E at *
  generalize progOK (tat w 1).data.toList = O1 at *
  generalize progOK (tat w 2).data.toList = O2 at *
  generalize progN (tat w 1).data.toList = N1 at *
  generalize progN (tat w 2).data.toList = N2 at *
  generalize isName (tat w 3) = D3 at *
  unfold zeroEv
  generalize kindOf (tat w 0) = KI at *
  clear hany hb hps hpl z1 z2 z3
  refine VC_of Tryz.func46 rfl (by kernel_rfl) (by kernel_rfl) rfl fun M0 w0 => ?_
  simp only [Tryz.ntmps46, Tryz.results46, enumA]
  repeat' (with_reducible refine vseq ?_)
  refine vregion [] ?_
  repeat' (first | (with_reducible first | refine vseq ?_ | refine vthenN ?_ | refine vrun_nil ?_) | ((with_reducible refine vrun_cons fun KK hKK => ?_); go_simp; refine hKK _ ?_; clear hKK KK))
  refine vregion [] ?_
  repeat' (first | (with_reducible first | refine vseq ?_ | refine vthenN ?_ | refine vrun_nil ?_) | ((with_reducible refine vrun_cons fun KK hKK => ?_); go_simp; (first | (with_reducible refine ⟨_, g1, ?_⟩) | skip); refine hKK _ ?_; clear hKK KK))
  refine vregion [] ?_
  repeat' (first | (with_reducible first | refine vseq ?_ | refine vthenN ?_ | refine vskip ?_ | refine vrun_nil ?_) | ((with_reducible refine vcondF ?_ ?_); (focus (go_simp; done))) | ((with_reducible refine vrun_cons fun KK hKK => ?_); go_simp; refine hKK _ ?_; clear hKK KK) | ((apply vrun_consG0 rfl); (focus (go_simp <;> exact rfl)); (focus (go_simp; done)); (focus (intro hb0; replace hb0 := hb0.out; go_simp <;> (exact g2))); intro KK hKK; go_simp; refine hKK _ ?_; clear hKK KK))
  refine vregionL (vl_arr rfl rfl ti172 rfl (by decide) rfl (by decide) rfl ?_)
  refine vl_run [] 3 ⟨rfl, rfl⟩ ?_
  simp only [List.take, List.drop]
  repeat' (first | (with_reducible refine vrun_nil ?_) | ((with_reducible refine vrun_cons fun KK hKK => ?_); go_simp; (first | (refine ⟨_, ⟨g3, rfl⟩, ?_⟩) | skip); refine hKK _ ?_; clear hKK KK))
  refine vl_nil ?_
  clear g1 g2 g3
  have hE : ∀ (a b : Ev), ((if E ≠ 0 then (a, E) else (b, 0)) = if E = 0 then (b, 0) else (a, E)) := fun a b => by
    by_cases h : E = 0
    · rw [if_pos h, if_neg (by simp [h])]
    · rw [if_neg h, if_pos h]
  rw [hE]
  clear hE
  by_cases hk4 : KI = 4
  · subst hk4
    have d0 : decide ((0 : Int) ≤ 4) = true := rfl
    have d1 : decide ((4 : Int) = 4) = true := rfl
    rw [d0, Bool.true_and] at u1
    rw [d1, Bool.not_true, Bool.false_or] at u2
    rw [d1, Bool.true_or] at u3
    rw [d0, d1, Bool.true_and, Bool.not_true, Bool.false_or, Bool.true_or] at g7
    rw [if_pos rfl]
    generalize unl true 4 = A3 at *
    generalize unl (decide (tat w 3 = ⟨#[45]⟩)) 3 = A2 at *
    clear d0 d1
    by_cases he : E = 0
    · subst he
      rw [if_pos rfl]
      cases O1 <;> cases O2
      all_goals simp only [Bool.true_and, Bool.false_and] at u1 g7
      all_goals generalize unl _ 7 = A1 at *
      all_goals
        repeat' (first | (with_reducible first | refine vseq ?_ | refine vthenN ?_ | refine vret ?_ | refine vskip ?_ | refine vrun_nil ?_ | refine vregion [] ?_) | ((with_reducible refine vcondT ?_ ?_); (focus (go_simp; done))) | ((with_reducible refine vcondF ?_ ?_); (focus (go_simp; done))) | ((with_reducible refine vrun_cons fun KK hKK => ?_); go_simp; (first | (with_reducible refine ⟨_, g4, ?_⟩) | (with_reducible refine ⟨_, g5, ?_⟩) | (with_reducible refine ⟨_, u1, ?_⟩) | (with_reducible refine ⟨_, u2, ?_⟩) | (with_reducible refine ⟨_, u3, ?_⟩) | (refine ⟨_, g7, ?_⟩) | skip); refine hKK _ ?_; clear hKK KK))
        go_simp
    · rw [if_neg he]
      cases O1 <;> cases O2
      all_goals simp only [Bool.true_and, Bool.false_and] at u1 g7
      all_goals generalize unl _ 7 = A1 at *
      all_goals
        repeat' (first | (with_reducible first | refine vseq ?_ | refine vthenN ?_ | refine vthenR ?_ | refine vret ?_ | refine vrun_nil ?_ | refine vregion [] ?_) | ((with_reducible refine vcondT ?_ ?_); (focus (go_simp; done))) | ((with_reducible refine vrun_cons fun KK hKK => ?_); go_simp; (first | (with_reducible refine ⟨_, g4, ?_⟩) | (with_reducible refine ⟨_, g5, ?_⟩) | (with_reducible refine ⟨_, u1, ?_⟩) | (with_reducible refine ⟨_, u2, ?_⟩) | (with_reducible refine ⟨_, u3, ?_⟩) | (refine ⟨_, g7, ?_⟩) | skip); refine hKK _ ?_; clear hKK KK))
        go_simp
  · rw [decide_eq_false hk4, Bool.not_false, Bool.true_or] at u2
    rw [decide_eq_false hk4, Bool.false_or] at u3
    rw [decide_eq_false hk4, Bool.not_false, Bool.true_or, Bool.false_or] at g7
    rw [if_neg hk4]
    generalize unl true 3 = A2 at *
    generalize unl D3 4 = A3 at *
    by_cases h0 : 0 ≤ KI
    · rw [decide_eq_true h0, Bool.true_and] at u1 g7
      by_cases he : E = 0
      · subst he
        rw [if_pos rfl]
        cases O1 <;> cases O2
        all_goals simp only [Bool.true_and, Bool.false_and] at u1 g7
        all_goals generalize unl _ 7 = A1 at *
        all_goals
          repeat' (first | (with_reducible first | refine vseq ?_ | refine vthenN ?_ | refine vret ?_ | refine vskip ?_ | refine vrun_nil ?_ | refine vregion [] ?_) | ((with_reducible refine vcondF ?_ ?_); (focus (go_simp; done))) | ((with_reducible refine vrun_cons fun KK hKK => ?_); go_simp; (first | (with_reducible refine ⟨_, g4, ?_⟩) | (with_reducible refine ⟨_, g5, ?_⟩) | (with_reducible refine ⟨_, g6, ?_⟩) | (with_reducible refine ⟨_, u1, ?_⟩) | (with_reducible refine ⟨_, u2, ?_⟩) | (with_reducible refine ⟨_, u3, ?_⟩) | (refine ⟨_, g7, ?_⟩) | skip); refine hKK _ ?_; clear hKK KK))
          go_simp
      · rw [if_neg he]
        cases O1 <;> cases O2
        all_goals simp only [Bool.true_and, Bool.false_and] at u1 g7
        all_goals generalize unl _ 7 = A1 at *
        all_goals
          repeat' (first | (with_reducible first | refine vseq ?_ | refine vthenN ?_ | refine vthenR ?_ | refine vret ?_ | refine vrun_nil ?_ | refine vregion [] ?_) | ((with_reducible refine vcondT ?_ ?_); (focus (go_simp; done))) | ((with_reducible refine vrun_cons fun KK hKK => ?_); go_simp; (first | (with_reducible refine ⟨_, g4, ?_⟩) | (with_reducible refine ⟨_, g5, ?_⟩) | (with_reducible refine ⟨_, g6, ?_⟩) | (with_reducible refine ⟨_, u1, ?_⟩) | (with_reducible refine ⟨_, u2, ?_⟩) | (with_reducible refine ⟨_, u3, ?_⟩) | (refine ⟨_, g7, ?_⟩) | skip); refine hKK _ ?_; clear hKK KK))
          go_simp
    · rw [decide_eq_false h0, Bool.false_and, Bool.false_and] at u1 g7
      generalize unl false 7 = A1 at *
      by_cases he : E = 0
      · subst he
        rw [if_pos rfl]
        repeat' (first | (with_reducible first | refine vseq ?_ | refine vthenN ?_ | refine vret ?_ | refine vskip ?_ | refine vrun_nil ?_ | refine vregion [] ?_) | ((with_reducible refine vcondF ?_ ?_); (focus (go_simp; done))) | ((with_reducible refine vrun_cons fun KK hKK => ?_); go_simp; (first | (with_reducible refine ⟨_, g4, ?_⟩) | (with_reducible refine ⟨_, g5, ?_⟩) | (with_reducible refine ⟨_, g6, ?_⟩) | (with_reducible refine ⟨_, u1, ?_⟩) | (with_reducible refine ⟨_, u2, ?_⟩) | (with_reducible refine ⟨_, u3, ?_⟩) | (refine ⟨_, g7, ?_⟩) | skip); refine hKK _ ?_; clear hKK KK))
        go_simp
      · rw [if_neg he]
        repeat' (first | (with_reducible first | refine vseq ?_ | refine vthenN ?_ | refine vthenR ?_ | refine vret ?_ | refine vrun_nil ?_ | refine vregion [] ?_) | ((with_reducible refine vcondT ?_ ?_); (focus (go_simp; done))) | ((with_reducible refine vrun_cons fun KK hKK => ?_); go_simp; (first | (with_reducible refine ⟨_, g4, ?_⟩) | (with_reducible refine ⟨_, g5, ?_⟩) | (with_reducible refine ⟨_, g6, ?_⟩) | (with_reducible refine ⟨_, u1, ?_⟩) | (with_reducible refine ⟨_, u2, ?_⟩) | (with_reducible refine ⟨_, u3, ?_⟩) | (refine ⟨_, g7, ?_⟩) | skip); refine hKK _ ?_; clear hKK KK))
        go_simp
end Go.Proofs.YtoibondihdhnoaaGreatDoor

/-! RP16: Chapter 4: what is told is read back; no condition. -/
namespace Go.Proofs.YtoibondihdhnoaaGreatDoor
open Go.RowKit
set_option maxRecDepth 100000
/-! ### Joined texts -/
theorem bl_inj {a b : ByteArray} (h : bl a = bl b) : a = b := by
  have : a.data = b.data := Array.toList_inj.1 h
  cases a
  cases b
  simpa using this
theorem bl_app (a b : ByteArray) : bl (a ++ b) = bl a ++ bl b := by
  show (a ++ b).data.toList = a.data.toList ++ b.data.toList
  rw [ByteArray.data_append, Array.toList_append]
theorem bl_dec (n : Int) : bl (decT n) = Lib.itoa n := rfl
theorem dec_no {c : UInt8} (n : Int) (h1 : c ≠ 45) (h2 : isD c = false) : c ∉ bl (decT n) := by
  have hd : ∀ m : Nat, c ∉ Lib.decDigits m := fun m hm => by
    have := List.all_eq_true.1 (all_digits m) c hm
    rw [h2] at this
    cases this
  rw [bl_dec]
  unfold Lib.itoa
  split
  · intro hm
    rcases List.mem_cons.1 hm with hm | hm
    · exact h1 hm
    · exact hd _ hm
  · exact hd _
theorem dec_ne (n : Int) : decT n ≠ ⟨#[]⟩ := by
  intro e
  have h : bl (decT n) = [] := by rw [e]; rfl
  rw [bl_dec] at h
  unfold Lib.itoa at h
  split at h
  · cases h
  · exact digits_ne _ h
theorem num_dec {n : Int} (h : -999999999 ≤ n ∧ n ≤ 999999999) : numT (decT n).data.toList = some n := by
  have e : (decT n).data.toList = Lib.itoa n := rfl
  rw [e]
  refine prog_num rfl ?_
  by_cases h0 : 0 ≤ n
  · obtain ⟨m, rfl⟩ : ∃ m : Nat, n = m := ⟨n.toNat, by omega⟩
    rw [Lib.itoa_nonneg]
    have hl := digits_len 8 m (by omega)
    unfold Lib.trimPrefix
    split
    · rw [List.length_drop]
      omega
    · exact hl
  · have hl := digits_len 8 n.natAbs (by omega)
    unfold Lib.itoa
    rw [if_pos (by omega)]
    have e2 : Lib.trimPrefix (45 :: Lib.decDigits n.natAbs) [45] = Lib.decDigits n.natAbs := by
      unfold Lib.trimPrefix
      rw [if_pos (by simp [Lib.hasPrefix])]
      rfl
    rw [e2]
    exact hl
theorem progN_num {l : List UInt8} {v : Int} (h : numT l = some v) : progN l = v := by
  unfold progN
  rw [(num_prog h).1]
theorem cut_join {c : UInt8} : ∀ (r : List (List UInt8)) (x : List UInt8), (∀ p ∈ x :: r, c ∉ p) → cutL c (Lib.join (x :: r) [c]) = x :: r
  | [], x, h => by
    rw [Lib.join_one]
    exact cutL_no (h x (by simp))
  | y :: r, x, h => by
    rw [join_two]
    show cutL c (x ++ c :: Lib.join (y :: r) [c]) = _
    rw [cutL_at (h x (by simp)), cut_join r y fun p hp => h p (List.mem_cons_of_mem _ hp)]
theorem pieces_join {c : UInt8} {l : List ByteArray} (hne : l ≠ []) (h : ∀ p ∈ l, c ∉ bl p) : pieces c (joinB l ⟨#[c]⟩) = l := by
  cases l with
  | nil => exact absurd rfl hne
  | cons x r =>
    unfold pieces
    have e : (joinB (x :: r) ⟨#[c]⟩).data.toList = Lib.join (bl x :: r.map bl) [c] := rfl
    rw [e, cut_join _ _ fun p hp => by
      rcases List.mem_cons.1 hp with rfl | hp
      · exact h x (by simp)
      · obtain ⟨q, hq, rfl⟩ := List.mem_map.1 hp
        exact h q (by simp [hq])]
    show (List.map mkB ((x :: r).map bl)) = x :: r
    rw [List.map_map]
    exact (List.map_congr_left fun a _ => rfl).trans (List.map_id _)
theorem bl_len (a : ByteArray) : (bl a).length = a.size := (size_L a)
theorem name_no {s : ByteArray} {c : UInt8} (h : isName s = true) (hc : ∀ i, okChar i c.toNat = false) : c ∉ bl s := by
  intro hm
  obtain ⟨i, hi, he⟩ := List.getElem_of_mem hm
  have hi2 : i < s.size := by rw [bl_len] at hi; exact hi
  simp only [isName, Bool.and_eq_true] at h
  have := List.all_eq_true.1 h.2 i (by simpa using hi2)
  have e : byteAt s i = c := by
    rw [← he]
    unfold byteAt bl
    rw [List.getD, List.getElem?_eq_getElem (by rw [size_L]; exact hi2), Option.getD_some]
    rfl
  rw [e, hc] at this
  cases this
/-! ### What is told is read back: events -/
def kindT (k : Int) : ByteArray := (kdat kdL k.toNat).1
def dashT (c : ByteArray) : ByteArray := if c = ⟨#[]⟩ then ⟨#[45]⟩ else c
def evText (x : Ev) : ByteArray := if inR x.kind 0 5 then joinB [kindT x.kind, decT x.time, decT x.rank, dashT x.car] ⟨#[32]⟩ else ⟨#[]⟩
theorem kind_back {k : Int} (h : 0 ≤ k ∧ k ≤ 5) : kindOf (kindT k) = k ∧ (32 : UInt8) ∉ bl (kindT k) ∧ kindT k ≠ ⟨#[]⟩ := by
  have : k = 0 ∨ k = 1 ∨ k = 2 ∨ k = 3 ∨ k = 4 ∨ k = 5 := by omega
  rcases this with rfl | rfl | rfl | rfl | rfl | rfl <;> exact ⟨by decide, by decide, by decide⟩
theorem ok32 (i : Nat) : okChar i (32 : UInt8).toNat = false := by simp [okChar]
/-- An event with a right car is read back. -/
theorem ev_back {x : Ev} (hk : 0 ≤ x.kind ∧ x.kind ≤ 5) (ht : -999999999 ≤ x.time ∧ x.time ≤ 999999999) (hr : -999999999 ≤ x.rank ∧ x.rank ≤ 999999999) (h4 : x.kind = 4 ↔ x.car = ⟨#[]⟩) (hn : x.car = ⟨#[]⟩ ∨ isName x.car = true) :
    evP (pieces 32 (evText x)) = (x, 0) := by
  obtain ⟨k1, k2, k3⟩ := kind_back hk
  have hd : (32 : UInt8) ∉ bl (dashT x.car) ∧ dashT x.car ≠ ⟨#[]⟩ := by
    unfold dashT
    split
    · exact ⟨by decide, by decide⟩
    · rename_i h
      exact ⟨name_no (hn.resolve_left h) ok32, h⟩
  unfold evText
  rw [if_pos (inR_iff.2 hk), pieces_join (by simp) (by
    intro p hp
    simp only [List.mem_cons, List.not_mem_nil, or_false] at hp
    rcases hp with rfl | rfl | rfl | rfl
    · exact k2
    · exact dec_no _ (by decide) (by decide)
    · exact dec_no _ (by decide) (by decide)
    · exact hd.1)]
  have hE : anyP (isT [kindT x.kind, decT x.time, decT x.rank, dashT x.car] ⟨#[]⟩) 0 4 = false := by
    refine anyP_out fun j hj => ?_
    rw [isT, decide_eq_false_iff_not]
    have : j = 0 ∨ j = 1 ∨ j = 2 ∨ j = 3 := by omega
    rcases this with rfl | rfl | rfl | rfl
    · exact k3
    · exact dec_ne _
    · exact dec_ne _
    · exact hd.2
  have hb : badW [kindT x.kind, decT x.time, decT x.rank, dashT x.car] = false := by
    unfold badW
    simp only [List.length_cons, List.length_nil, Nat.zero_add, Nat.reduceAdd]
    rw [hE]
    rfl
  have t1 : (numT (decT x.time).data.toList) = some x.time := num_dec ht
  have t2 : (numT (decT x.rank).data.toList) = some x.rank := num_dec hr
  have hpe : evPE [kindT x.kind, decT x.time, decT x.rank, dashT x.car] = 0 := by
    unfold evPE
    simp only [tat, List.getD_cons_zero, List.getD_cons_succ]
    rw [k1, progOK_eq, progOK_eq, t1, t2, decide_eq_true hk.1]
    unfold dashT
    by_cases hc : x.car = ⟨#[]⟩
    · rw [if_pos hc, decide_eq_true (h4.2 hc)]
      rfl
    · have h44 : x.kind ≠ 4 := fun h => hc (h4.1 h)
      rw [if_neg hc, decide_eq_false h44, hn.resolve_left hc]
      rfl
  unfold evP
  rw [hb, if_neg (by decide), hpe, if_neg (by simp)]
  simp only [tat, List.getD_cons_zero, List.getD_cons_succ]
  rw [k1, progN_num t1, progN_num t2]
  congr 1
  obtain ⟨kd, tm, rk, car⟩ := x
  simp only at h4 ⊢
  unfold dashT
  by_cases hc : car = ⟨#[]⟩
  · rw [if_pos (h4.2 hc), hc]
  · have h44 : kd ≠ 4 := fun h => hc (h4.1 h)
    rw [if_neg h44, if_neg hc]
/-! ### What is told is read back: states -/
structure ToldS (s : St) : Prop where
  q1 : 0 < s.q.length
  q2 : ∀ l ∈ s.q, ∀ c ∈ l, isName c = true
  t1 : ∀ t ∈ s.tk, isName t.car = true ∧ (-999999999 ≤ t.time ∧ t.time ≤ 999999999) ∧ (-999999999 ≤ t.rank ∧ t.rank ≤ 999999999)
  tm : -999999999 ≤ s.time ∧ s.time ≤ 999999999
end Go.Proofs.YtoibondihdhnoaaGreatDoor
