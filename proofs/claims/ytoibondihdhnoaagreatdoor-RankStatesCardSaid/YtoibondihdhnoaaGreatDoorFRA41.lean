/- Texts in one: Walks: an event is read. -/
import Derived.Test.YtoibondihdhnoaaGreatDoorFRA40
import Derived.Test.YtoibondihdhnoaaGreatDoorFRA15
namespace Go.Proofs.YtoibondihdhnoaaGreatDoor
open Go.RowKit
set_option maxRecDepth 100000
set_option maxHeartbeats 2000000
abbrev Kd : Type := ByteArray × Value
def kdav (q : Kd) : List AV := [S q.1, .lit q.2]
attribute [go_sem] kdav
def kdat (l : List Kd) (k : Nat) : Kd := l.getD k (ByteArray.empty, undef)
theorem kdat_get {l : List Kd} {k : Nat} (h : k < l.length) : kdat l k = l[k] := by simp [kdat, h]
theorem kd_at {l : List Kd} {k : Nat} (h : k < l.length) : l[k] = kdat l k := (kdat_get h).symm
attribute [go_sem] kd_at
def kdL : List Kd := [(⟨#[97, 114, 114, 105, 118, 101]⟩, .func (.func 224) #[] #[]), (⟨#[115, 101, 114, 118, 101]⟩, .func (.func 225) #[] #[]), (⟨#[100, 101, 99, 108, 105, 110, 101]⟩, .func (.func 226) #[] #[]), (⟨#[108, 101, 97, 118, 101]⟩, .func (.func 227) #[] #[]), (⟨#[99, 97, 108, 108]⟩, .func (.func 228) #[] #[]), (⟨#[114, 101, 116, 117, 114, 110]⟩, .func (.func 229) #[] #[])]
theorem c_word (q : Kd) (w : List ByteArray) (h : 0 < w.length) (h1 : oneAV (.lit q.2) = true) : VC Tryz.prog 108 [.agg [S q.1, .lit q.2], .vp [txtsA w]] (B (decide (q.1 = tat w 0))) := by
 have e : w[0] = tat w 0 := (tat_get h).symm
 obtain ⟨a, v⟩ := q
 simp only at h1 ⊢
 refine VC_of Tryz.func108 rfl (by kernel_rfl) (by kernel_rfl) rfl fun M0 w0 => ?_
 simp only [Tryz.ntmps108, Tryz.results108, enumA]
 repeat' (first | (with_reducible first | refine vseq ?_ | refine vthenN ?_ | refine vret ?_ | refine vrun_nil ?_ | refine vregion [] ?_ | refine vhrun_nil ?_) | ((with_reducible first | refine vrun_cons fun KK hKK => ?_ | refine vhrun_cons fun KK hKK => ?_); go_simp; refine hKK _ ?_; clear hKK KK) | ((refine vdrawL 7 7 [] rfl (by kernel_rfl) (by kernel_rfl) ?_); simp only [List.take, List.drop]))
 go_simp
theorem p_ixKd (l : List Kd) (w : List ByteArray) (hw : 0 < w.length) (hl : l.length ≤ 1000000) (h1 : ∀ q ∈ l, oneAV (.lit q.2) = true) : VC Tryz.prog 107 [.sl 2 (l.map kdav), .fn (.func 108) [] [.vp [txtsA w]]] (I (ixP (fun j => decide ((kdat l j).1 = tat w 0)) 0 l.length)) := by
 obtain ⟨R, hR⟩ : ∃ R, ixP (fun j => decide ((kdat l j).1 = tat w 0)) 0 l.length = R := ⟨_, rfl⟩
 rw [hR]
 have HR := Lib.hid hR
 have H1 := Lib.hid h1
 clear hR h1
 refine VC_of Tryz.func107 rfl (by kernel_rfl) (by kernel_rfl) rfl fun M0 w0 => ?_
 simp only [Tryz.ntmps107, Tryz.results107, enumA]
 repeat' (first | (with_reducible first | refine vseq ?_ | refine vthenN ?_ | refine vblock ?_ | refine vrun_nil ?_ | refine vregion [] ?_) | ((with_reducible refine vrun_cons fun KK hKK => ?_); go_simp; refine hKK _ ?_; clear hKK KK))
 apply vfor [0, 1, 7] (fun k => [(8, I k)]) (fun k => ([] : Hp)) (fun j => decide ((kdat l j).1 = tat w 0)) (l.length)
 ·go_simp <;> exact rfl
 ·go_simp
 ·intro k hk HB HP K hK
  obtain ⟨w1, w2, w3, w4, w5, w6⟩ := ixs (m := k) (by omega)
  have ho := H1.out _ (by rw [kdat_get hk]; exact List.getElem_mem hk : kdat l k ∈ l)
  have g := c_word (kdat l k) w hw ho
  have hp := HP.out
  rw [hp] at g
  clear hp
  repeat' (first | (with_reducible first | refine vseq ?_ | refine vthenN ?_ | refine vskip ?_ | refine vblock ?_ | refine vblockN ?_ | refine vrun_nil ?_ | refine vregion [] ?_) | ((with_reducible refine vcondT ?_ ?_); (focus (go_simp; done))) | ((with_reducible refine vcondF ?_ ?_); (focus (go_simp; done))) | ((with_reducible refine vrun_cons fun KK hKK => ?_); go_simp; (first | (refine ⟨_, g, ?_⟩) | skip); refine hKK _ ?_; clear hKK KK))
  refine hK _ ?_
  go_simp
 ·intro k hk HB HP K
  have ho := H1.out _ (by rw [kdat_get hk]; exact List.getElem_mem hk : kdat l k ∈ l)
  have g := c_word (kdat l k) w hw ho
  have hp := HP.out
  rw [hp] at g
  clear hp
  have e := HR.out
  rw [ixP_hit hk HB.out HP.out] at e
  subst e
  repeat' (first | (with_reducible first | refine vseq ?_ | refine vthenN ?_ | refine vthenR ?_ | refine vret ?_ | refine vskip ?_ | refine vblock ?_ | refine vblockR ?_ | refine vrun_nil ?_ | refine vregion [] ?_) | ((with_reducible refine vcondT ?_ ?_); (focus (go_simp; done))) | ((with_reducible refine vrun_cons fun KK hKK => ?_); go_simp; (first | (refine ⟨_, g, ?_⟩) | skip); refine hKK _ ?_; clear hKK KK))
  go_simp
 ·intro HB K
  have e := HR.out
  rw [ixP_out HB.out] at e
  subst e
  repeat (first | (with_reducible first | refine vseq ?_ | refine vthenN ?_ | refine vthenE ?_ | refine vret ?_ | refine vexit ?_ | refine vblockH ?_ | refine vrun_nil ?_ | refine vregion [] ?_) | ((with_reducible refine vcondF ?_ ?_); (focus (go_simp; done))) | ((with_reducible refine vrun_cons fun KK hKK => ?_); go_simp; refine hKK _ ?_; clear hKK KK))
  go_simp
theorem y_Contains (l : List ByteArray) (x : ByteArray) (hl : l.length ≤ 1000000) : VC Tryz.prog 106 [txtsA l, S x] (B (anyP (isT l x) 0 l.length)) := by
 have g := p_index l x hl
 rw [← ixP_any]
 generalize ixP (isT l x) 0 l.length = R at *
 refine VC_of Tryz.func106 rfl (by kernel_rfl) (by kernel_rfl) rfl fun M0 w0 => ?_
 simp only [Tryz.ntmps106, Tryz.results106, enumA]
 repeat' (first | (with_reducible first | refine vseq ?_ | refine vthenN ?_ | refine vret ?_ | refine vrun_nil ?_ | refine vregion [] ?_) | ((with_reducible refine vrun_cons fun KK hKK => ?_); go_simp; (first | (with_reducible refine ⟨_, g, ?_⟩) | skip); refine hKK _ ?_; clear hKK KK))
 go_simp
end Go.Proofs.YtoibondihdhnoaaGreatDoor
namespace Go.Proofs.YtoibondihdhnoaaGreatDoor
open Go.RowKit
set_option maxRecDepth 100000
set_option maxHeartbeats 2000000
def zeroEv : Ev := ⟨0, 0, 0, ⟨#[]⟩⟩
def kindOf (a : ByteArray) : Int := ixP (fun j => decide ((kdat kdL j).1 = a)) 0 6
def evPE (w : List ByteArray) : Int :=
 fst [unl (decide (0 ≤ kindOf (tat w 0)) && progOK (tat w 1).data.toList && progOK (tat w 2).data.toList) 7, unl (!decide (kindOf (tat w 0) = 4) || decide (tat w 3 = ⟨#[45]⟩)) 3, unl (decide (kindOf (tat w 0) = 4) || isName (tat w 3)) 4]
def badW (w : List ByteArray) : Bool := !decide (w.length = 4) || anyP (isT w ⟨#[]⟩) 0 w.length
def evP (w : List ByteArray) : Ev × Int :=
 if badW w = true then (zeroEv, 7) else if evPE w ≠ 0 then (zeroEv, evPE w) else (⟨kindOf (tat w 0), progN (tat w 1).data.toList, progN (tat w 2).data.toList, if kindOf (tat w 0) = 4 then ⟨#[]⟩ else tat w 3⟩, 0)
theorem p_ParseEventB (s : ByteArray) (hs : s.size ≤ 1000) (hb : badW (pieces 32 s) = true) : VC Tryz.prog 46 [S s] (.tup [evA zeroEv, I 7]) := by
 have g1 := v_Split s 32 (by omega)
 have hpl := pieces_len 32 s
 have g2 := y_Contains (pieces 32 s) ⟨#[]⟩ (by omega)
 unfold badW at hb
 unfold zeroEv
 generalize pieces 32 s = w at *
 by_cases h4 : w.length = 4
 ·rw [decide_eq_true h4, Bool.not_true, Bool.false_or] at hb
  rw [hb] at g2
  have h5 : (w.length : Int) = 4 := by omega
  clear hb hpl
  refine VC_of Tryz.func46 rfl (by kernel_rfl) (by kernel_rfl) rfl fun M0 w0 => ?_
  simp only [Tryz.ntmps46, Tryz.results46, enumA]
  repeat' (first | (with_reducible first | refine vseq ?_ | refine vthenN ?_ | refine vthenR ?_ | refine vret ?_ | refine vrun_nil ?_ | refine vregion [] ?_) | ((with_reducible refine vcondT ?_ ?_); (focus (go_simp; done))) | ((with_reducible refine vrun_cons fun KK hKK => ?_); go_simp; (first | (with_reducible refine ⟨_, g1, ?_⟩) | (with_reducible refine ⟨_, g2, ?_⟩) | skip); refine hKK _ ?_; clear hKK KK))
  all_goals go_simp
 ·have h5 : ¬ (w.length : Int) = 4 := by omega
  clear hb hpl
  refine VC_of Tryz.func46 rfl (by kernel_rfl) (by kernel_rfl) rfl fun M0 w0 => ?_
  simp only [Tryz.ntmps46, Tryz.results46, enumA]
  repeat' (first | (with_reducible first | refine vseq ?_ | refine vthenN ?_ | refine vthenR ?_ | refine vret ?_ | refine vrun_nil ?_ | refine vregion [] ?_) | ((with_reducible refine vcondT ?_ ?_); (focus (go_simp; done))) | ((with_reducible refine vrun_cons fun KK hKK => ?_); go_simp; (first | (with_reducible refine ⟨_, g1, ?_⟩) | skip); refine hKK _ ?_; clear hKK KK))
  all_goals go_simp
theorem p_ParseEvent (s : ByteArray) (hs : s.size ≤ 1000) : VC Tryz.prog 46 [S s] (.tup [evA (evP (pieces 32 s)).1, I (evP (pieces 32 s)).2]) := by
 by_cases hb : badW (pieces 32 s) = true
 ·have h := p_ParseEventB s hs hb
  unfold evP
  rw [if_pos hb]
  exact h
 unfold evP
 rw [if_neg hb]
 have g1 := v_Split s 32 (by omega)
 have hpl := pieces_len 32 s
 have g2 := y_Contains (pieces 32 s) ⟨#[]⟩ (by omega)
 have hps : ∀ p ∈ pieces 32 s, p.size ≤ 1000 := fun p hp => Nat.le_trans (pieces_size hp) hs
 unfold badW at hb
 generalize pieces 32 s = w at *
 have h4 : w.length = 4 := by
  by_cases h : w.length = 4
  ·exact h
  ·rw [decide_eq_false h] at hb
   simp at hb
 have hany : anyP (isT w ⟨#[]⟩) 0 w.length = false := by
  rw [decide_eq_true h4] at hb
  simpa using hb
 rw [hany] at g2
 have h5 : (w.length : Int) = 4 := by omega
 have a1 : w[1] = tat w 1 := (tat_get (by omega)).symm
 have a2 : w[2] = tat w 2 := (tat_get (by omega)).symm
 have a3 : w[3] = tat w 3 := (tat_get (by omega)).symm
 have z1 : (tat w 1).size ≤ 1000 := by rw [← a1]; exact hps _ (List.getElem_mem _)
 have z2 : (tat w 2).size ≤ 1000 := by rw [← a2]; exact hps _ (List.getElem_mem _)
 have z3 : (tat w 3).size ≤ 1000 := by rw [← a3]; exact hps _ (List.getElem_mem _)
 have g3 : VC Tryz.prog 107 [.sl 2 (kdL.map kdav), .fn (.func 108) [] [.vp [txtsA w]]] (I (kindOf (tat w 0))) := p_ixKd kdL w (by omega) (by decide) (fun q hq => by
  simp only [kdL, List.mem_cons, List.not_mem_nil, or_false] at hq
  rcases hq with rfl | rfl | rfl | rfl | rfl | rfl <;> rfl)
 have g4 := p_number (tat w 1) (by omega)
 have g5 := p_number (tat w 2) (by omega)
 have g6 := p_isName (tat w 3) z3
 have u1 := p_unless (decide (0 ≤ kindOf (tat w 0)) && progOK (tat w 1).data.toList && progOK (tat w 2).data.toList) 7
 have u2 := p_unless (!decide (kindOf (tat w 0) = 4) || decide (tat w 3 = ⟨#[45]⟩)) 3
 have u3 := p_unless (decide (kindOf (tat w 0) = 4) || isName (tat w 3)) 4
 have g7 : VC Tryz.prog 88 [.sl 1 ([unl (decide (0 ≤ kindOf (tat w 0)) && progOK (tat w 1).data.toList && progOK (tat w 2).data.toList) 7, unl (!decide (kindOf (tat w 0) = 4) || decide (tat w 3 = ⟨#[45]⟩)) 3, unl (decide (kindOf (tat w 0) = 4) || isName (tat w 3)) 4].map intA)] (I (evPE w)) := p_firstR _ rfl rfl
 generalize evPE w = E at *
 generalize progOK (tat w 1).data.toList = O1 at *
 generalize progOK (tat w 2).data.toList = O2 at *
 generalize progN (tat w 1).data.toList = N1 at *
 generalize progN (tat w 2).data.toList = N2 at *
 generalize isName (tat w 3) = D3 at *
 unfold zeroEv
 generalize kindOf (tat w 0) = KI at *
 clear hany hb hps hpl z1 z2 z3
 refine VC_of Tryz.func46 rfl (by kernel_rfl) (by kernel_rfl) rfl fun M0 w0 => ?_
 simp only [Tryz.ntmps46, Tryz.results46, enumA]
 repeat' (with_reducible refine vseq ?_)
 refine vregion [] ?_
 repeat' (first | (with_reducible first | refine vseq ?_ | refine vthenN ?_ | refine vrun_nil ?_) | ((with_reducible refine vrun_cons fun KK hKK => ?_); go_simp; refine hKK _ ?_; clear hKK KK))
 refine vregion [] ?_
 repeat' (first | (with_reducible first | refine vseq ?_ | refine vthenN ?_ | refine vrun_nil ?_) | ((with_reducible refine vrun_cons fun KK hKK => ?_); go_simp; (first | (with_reducible refine ⟨_, g1, ?_⟩) | skip); refine hKK _ ?_; clear hKK KK))
 refine vregion [] ?_
 repeat' (first | (with_reducible first | refine vseq ?_ | refine vthenN ?_ | refine vskip ?_ | refine vrun_nil ?_) | ((with_reducible refine vcondF ?_ ?_); (focus (go_simp; done))) | ((with_reducible refine vrun_cons fun KK hKK => ?_); go_simp; refine hKK _ ?_; clear hKK KK) | ((apply vrun_consG0 rfl); (focus (go_simp <;> exact rfl)); (focus (go_simp; done)); (focus (intro hb0; replace hb0 := hb0.out; go_simp <;> (exact g2))); intro KK hKK; go_simp; refine hKK _ ?_; clear hKK KK))
 refine vregionL (vl_arr rfl rfl ti172 rfl (by decide) rfl (by decide) rfl ?_)
 refine vl_run [] 3 ⟨rfl, rfl⟩ ?_
 simp only [List.take, List.drop]
 repeat' (first | (with_reducible refine vrun_nil ?_) | ((with_reducible refine vrun_cons fun KK hKK => ?_); go_simp; (first | (refine ⟨_, ⟨g3, rfl⟩, ?_⟩) | skip); refine hKK _ ?_; clear hKK KK))
 refine vl_nil ?_
 clear g1 g2 g3
 have hE : ∀ (a b : Ev), ((if E ≠ 0 then (a, E) else (b, 0)) = if E = 0 then (b, 0) else (a, E)) := fun a b => by
  by_cases h : E = 0
  ·rw [if_pos h, if_neg (by simp [h])]
  ·rw [if_neg h, if_pos h]
 rw [hE]
 clear hE
 by_cases hk4 : KI = 4
 ·subst hk4
  have d0 : decide ((0 : Int) ≤ 4) = true := rfl
  have d1 : decide ((4 : Int) = 4) = true := rfl
  rw [d0, Bool.true_and] at u1
  rw [d1, Bool.not_true, Bool.false_or] at u2
  rw [d1, Bool.true_or] at u3
  rw [d0, d1, Bool.true_and, Bool.not_true, Bool.false_or, Bool.true_or] at g7
  rw [if_pos rfl]
  generalize unl true 4 = A3 at *
  generalize unl (decide (tat w 3 = ⟨#[45]⟩)) 3 = A2 at *
  clear d0 d1
  by_cases he : E = 0
  ·subst he
   rw [if_pos rfl]
   cases O1 <;> cases O2
   all_goals simp only [Bool.true_and, Bool.false_and] at u1 g7
   all_goals generalize unl _ 7 = A1 at *
   all_goals
    repeat' (first | (with_reducible first | refine vseq ?_ | refine vthenN ?_ | refine vret ?_ | refine vskip ?_ | refine vrun_nil ?_ | refine vregion [] ?_) | ((with_reducible refine vcondT ?_ ?_); (focus (go_simp; done))) | ((with_reducible refine vcondF ?_ ?_); (focus (go_simp; done))) | ((with_reducible refine vrun_cons fun KK hKK => ?_); go_simp; (first | (with_reducible refine ⟨_, g4, ?_⟩) | (with_reducible refine ⟨_, g5, ?_⟩) | (with_reducible refine ⟨_, u1, ?_⟩) | (with_reducible refine ⟨_, u2, ?_⟩) | (with_reducible refine ⟨_, u3, ?_⟩) | (refine ⟨_, g7, ?_⟩) | skip); refine hKK _ ?_; clear hKK KK))
    go_simp
  ·rw [if_neg he]
   cases O1 <;> cases O2
   all_goals simp only [Bool.true_and, Bool.false_and] at u1 g7
   all_goals generalize unl _ 7 = A1 at *
   all_goals
    repeat' (first | (with_reducible first | refine vseq ?_ | refine vthenN ?_ | refine vthenR ?_ | refine vret ?_ | refine vrun_nil ?_ | refine vregion [] ?_) | ((with_reducible refine vcondT ?_ ?_); (focus (go_simp; done))) | ((with_reducible refine vrun_cons fun KK hKK => ?_); go_simp; (first | (with_reducible refine ⟨_, g4, ?_⟩) | (with_reducible refine ⟨_, g5, ?_⟩) | (with_reducible refine ⟨_, u1, ?_⟩) | (with_reducible refine ⟨_, u2, ?_⟩) | (with_reducible refine ⟨_, u3, ?_⟩) | (refine ⟨_, g7, ?_⟩) | skip); refine hKK _ ?_; clear hKK KK))
    go_simp
 ·rw [decide_eq_false hk4, Bool.not_false, Bool.true_or] at u2
  rw [decide_eq_false hk4, Bool.false_or] at u3
  rw [decide_eq_false hk4, Bool.not_false, Bool.true_or, Bool.false_or] at g7
  rw [if_neg hk4]
  generalize unl true 3 = A2 at *
  generalize unl D3 4 = A3 at *
  by_cases h0 : 0 ≤ KI
  ·rw [decide_eq_true h0, Bool.true_and] at u1 g7
   by_cases he : E = 0
   ·subst he
    rw [if_pos rfl]
    cases O1 <;> cases O2
    all_goals simp only [Bool.true_and, Bool.false_and] at u1 g7
    all_goals generalize unl _ 7 = A1 at *
    all_goals
     repeat' (first | (with_reducible first | refine vseq ?_ | refine vthenN ?_ | refine vret ?_ | refine vskip ?_ | refine vrun_nil ?_ | refine vregion [] ?_) | ((with_reducible refine vcondF ?_ ?_); (focus (go_simp; done))) | ((with_reducible refine vrun_cons fun KK hKK => ?_); go_simp; (first | (with_reducible refine ⟨_, g4, ?_⟩) | (with_reducible refine ⟨_, g5, ?_⟩) | (with_reducible refine ⟨_, g6, ?_⟩) | (with_reducible refine ⟨_, u1, ?_⟩) | (with_reducible refine ⟨_, u2, ?_⟩) | (with_reducible refine ⟨_, u3, ?_⟩) | (refine ⟨_, g7, ?_⟩) | skip); refine hKK _ ?_; clear hKK KK))
     go_simp
   ·rw [if_neg he]
    cases O1 <;> cases O2
    all_goals simp only [Bool.true_and, Bool.false_and] at u1 g7
    all_goals generalize unl _ 7 = A1 at *
    all_goals
     repeat' (first | (with_reducible first | refine vseq ?_ | refine vthenN ?_ | refine vthenR ?_ | refine vret ?_ | refine vrun_nil ?_ | refine vregion [] ?_) | ((with_reducible refine vcondT ?_ ?_); (focus (go_simp; done))) | ((with_reducible refine vrun_cons fun KK hKK => ?_); go_simp; (first | (with_reducible refine ⟨_, g4, ?_⟩) | (with_reducible refine ⟨_, g5, ?_⟩) | (with_reducible refine ⟨_, g6, ?_⟩) | (with_reducible refine ⟨_, u1, ?_⟩) | (with_reducible refine ⟨_, u2, ?_⟩) | (with_reducible refine ⟨_, u3, ?_⟩) | (refine ⟨_, g7, ?_⟩) | skip); refine hKK _ ?_; clear hKK KK))
     go_simp
  ·rw [decide_eq_false h0, Bool.false_and, Bool.false_and] at u1 g7
   generalize unl false 7 = A1 at *
   by_cases he : E = 0
   ·subst he
    rw [if_pos rfl]
    repeat' (first | (with_reducible first | refine vseq ?_ | refine vthenN ?_ | refine vret ?_ | refine vskip ?_ | refine vrun_nil ?_ | refine vregion [] ?_) | ((with_reducible refine vcondF ?_ ?_); (focus (go_simp; done))) | ((with_reducible refine vrun_cons fun KK hKK => ?_); go_simp; (first | (with_reducible refine ⟨_, g4, ?_⟩) | (with_reducible refine ⟨_, g5, ?_⟩) | (with_reducible refine ⟨_, g6, ?_⟩) | (with_reducible refine ⟨_, u1, ?_⟩) | (with_reducible refine ⟨_, u2, ?_⟩) | (with_reducible refine ⟨_, u3, ?_⟩) | (refine ⟨_, g7, ?_⟩) | skip); refine hKK _ ?_; clear hKK KK))
    go_simp
   ·rw [if_neg he]
    repeat' (first | (with_reducible first | refine vseq ?_ | refine vthenN ?_ | refine vthenR ?_ | refine vret ?_ | refine vrun_nil ?_ | refine vregion [] ?_) | ((with_reducible refine vcondT ?_ ?_); (focus (go_simp; done))) | ((with_reducible refine vrun_cons fun KK hKK => ?_); go_simp; (first | (with_reducible refine ⟨_, g4, ?_⟩) | (with_reducible refine ⟨_, g5, ?_⟩) | (with_reducible refine ⟨_, g6, ?_⟩) | (with_reducible refine ⟨_, u1, ?_⟩) | (with_reducible refine ⟨_, u2, ?_⟩) | (with_reducible refine ⟨_, u3, ?_⟩) | (refine ⟨_, g7, ?_⟩) | skip); refine hKK _ ?_; clear hKK KK))
    go_simp
end Go.Proofs.YtoibondihdhnoaaGreatDoor
