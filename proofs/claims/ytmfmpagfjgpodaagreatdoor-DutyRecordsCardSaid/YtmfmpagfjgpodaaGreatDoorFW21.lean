/- Texts in one: Chapter 7: records that are read, by the program; texts of at most 1000 bytes. -/
import Derived.Test.YtmfmpagfjgpodaaGreatDoorFW20
import Derived.Test.YtmfmpagfjgpodaaGreatDoorFW13
/-! SWP2: Chapter 7: records that are read, by the program; texts of at most 1000 bytes. -/
namespace Go.Proofs.YtmfmpagfjgpodaaGreatDoor
open Go.RowKit Go.Shelf
set_option maxRecDepth 100000
set_option maxHeartbeats 1000000
@[go_sem] theorem tg70 : tagg Tryz.prog 70 = false := by kernel_rfl
def progN (l : List UInt8) : Int := match Lib.atoiAll l with | .ok v => v | .range => Lib.atoiSat l | _ => 0
/-- Of a text that is no number the number is whatever, and the error is some error. -/
theorem w_AtoiNo (s : ByteArray) (hs : s.size ≤ 1000000) (h : ∀ v, Lib.atoiAll s.data.toList ≠ .ok v) : VC Tryz.prog 32 [S s] (.tup [I (progN s.data.toList), .iface (laysAtoi_ren.t 168) .any]) := by
  unfold progN
  cases hx : Lib.atoiAll s.data.toList with
  | ok v => exact absurd hx (h v)
  | range => exact v_AtoiRan s hs hx
  | _ => exact v_AtoiSyn s hs h (by rw [hx]; intro h; cases h)
theorem decT_eq (v : Int) (s : ByteArray) : (decT v = s) ↔ (Lib.itoa v = s.data.toList) := by
  unfold decT
  constructor
  · intro h
    rw [← h]
    rfl
  · intro h
    rw [h]
    rfl
def upN (w : List ByteArray) (j k : Nat) : Int := if j ≤ k then progN (tat w j).data.toList else 0
theorem upN10 (w : List ByteArray) : upN w 1 0 = 0 := rfl
theorem upN20 (w : List ByteArray) : upN w 2 0 = 0 := rfl
theorem upN21 (w : List ByteArray) : upN w 2 1 = 0 := rfl
theorem upN11 (w : List ByteArray) : upN w 1 1 = progN (tat w 1).data.toList := rfl
theorem upN12 (w : List ByteArray) : upN w 1 2 = progN (tat w 1).data.toList := rfl
theorem upN22 (w : List ByteArray) : upN w 2 2 = progN (tat w 2).data.toList := rfl
attribute [go_sem] upN10 upN20 upN21
/-- Why a text is no number of at most 11 digits. -/
theorem prog_cases (l : List UInt8) : (progOK l = false ∧ ∀ v, Lib.atoiAll l ≠ .ok v) ∨ (Lib.atoiAll l = .ok (progN l) ∧ ((progOK l = false ∧ ¬ Lib.itoa (progN l) = l) ∨ (progOK l = false ∧ Lib.itoa (progN l) = l ∧ 11 < (Lib.trimPrefix l [45]).length) ∨ (progOK l = true ∧ Lib.itoa (progN l) = l ∧ (Lib.trimPrefix l [45]).length ≤ 11))) := by
  unfold progN progOK
  cases hx : Lib.atoiAll l with
  | ok v =>
    right
    refine ⟨rfl, ?_⟩
    simp only
    by_cases h1 : Lib.itoa v = l
    · by_cases h2 : (Lib.trimPrefix l [45]).length ≤ 11
      · exact .inr (.inr ⟨by simp [h1, h2], h1, h2⟩)
      · exact .inr (.inl ⟨by simp [h2], h1, by omega⟩)
    · exact .inl ⟨by simp [h1], h1⟩
  | _ => exact .inl ⟨rfl, fun v h => by cases h⟩
/-- The record that words tell, as the program finds it. -/
def readRp (w : List ByteArray) : Rc × Int :=
  if w.length ≠ 3 ∨ anyP (isT w ⟨#[]⟩) 0 w.length = true then (zeroRc, 7) else
  if progOK (tat w 1).data.toList = false ∨ progOK (tat w 2).data.toList = false then (zeroRc, 7) else
  if recE ⟨tat w 0, progN (tat w 1).data.toList, progN (tat w 2).data.toList⟩ ≠ 0 then (zeroRc, recE ⟨tat w 0, progN (tat w 1).data.toList, progN (tat w 2).data.toList⟩) else
  (⟨tat w 0, progN (tat w 1).data.toList, progN (tat w 2).data.toList⟩, 0)
theorem num_none : numT [] = none := rfl
theorem readRp_eq (w : List ByteArray) : readRp w = readRc w := by
  unfold readRp readRc
  by_cases h3 : w.length = 3
  · obtain ⟨a, b, c, rfl⟩ : ∃ a b c, w = [a, b, c] := by
      match w, h3 with
      | [a, b, c], _ => exact ⟨a, b, c, rfl⟩
    simp only [tat, List.getD_cons_zero, List.getD_cons_succ, List.length_cons, List.length_nil, ne_eq, not_true_eq_false, false_or, progOK_eq]
    have ha : anyP (isT [a, b, c] ⟨#[]⟩) 0 (0 + 1 + 1 + 1) = (decide (a = ⟨#[]⟩) || decide (b = ⟨#[]⟩) || decide (c = ⟨#[]⟩)) := by
      simp [anyP, isT, tat, List.range, List.range.loop, Bool.or_assoc]
    rw [ha]
    by_cases h1 : a = ⟨#[]⟩
    · simp [h1]
    · cases hb : numT b.data.toList with
      | none => simp [h1, numR]
      | some m =>
        cases hc : numT c.data.toList with
        | none => simp [h1, numR]
        | some n =>
          have h2 : ¬ b = ⟨#[]⟩ := fun e => by rw [e] at hb; cases hb
          have h3 : ¬ c = ⟨#[]⟩ := fun e => by rw [e] at hc; cases hc
          have e1 : progN b.data.toList = m := by unfold progN; rw [(num_prog hb).1]
          have e2 : progN c.data.toList = n := by unfold progN; rw [(num_prog hc).1]
          rw [e1, e2]
          by_cases hE : recE ⟨a, m, n⟩ = 0 <;> simp [h1, h2, h3, numR, hE]
  · rw [if_pos (.inl h3), if_pos (.inl h3)]
theorem at_good (x : ByteArray) (hx : x.size ≤ 1000) (h : progOK x.data.toList = true) : VC Tryz.prog 32 [S x] (.tup [I (progN x.data.toList), .lit .nilIface]) ∧ VC Tryz.prog 33 [I (progN x.data.toList)] (S x) ∧ ∃ T : ByteArray, VC Tryz.prog 34 [S x, S ⟨#[45]⟩] (S T) ∧ T.size ≤ 11 := by
  rcases prog_cases x.data.toList with ⟨e, _⟩ | ⟨ha, ⟨e, _⟩ | ⟨e, _⟩ | ⟨_, hi, htr⟩⟩
  · rw [h] at e; cases e
  · rw [h] at e; cases e
  · rw [h] at e; cases e
  · have g := v_ItoaM (progN x.data.toList) (Lib.atoiAll_bounds ha)
    rw [(decT_eq _ _).2 hi] at g
    exact ⟨v_AtoiOk x (by omega) _ ha, g, _, v_TrimPrefix x ⟨#[45]⟩, by rw [mkB_size]; exact htr⟩
theorem at_bad (x : ByteArray) (hx : x.size ≤ 1000) (h : progOK x.data.toList = false) : (∃ (n : Int) (t : TypeId), VC Tryz.prog 32 [S x] (.tup [I n, .iface t .any])) ∨ (∃ (n : Int) (D : ByteArray), VC Tryz.prog 32 [S x] (.tup [I n, .lit .nilIface]) ∧ VC Tryz.prog 33 [I n] (S D) ∧ ¬ D = x) ∨ ∃ (n : Int) (T : ByteArray), VC Tryz.prog 32 [S x] (.tup [I n, .lit .nilIface]) ∧ VC Tryz.prog 33 [I n] (S x) ∧ VC Tryz.prog 34 [S x, S ⟨#[45]⟩] (S T) ∧ 11 < T.size := by
  rcases prog_cases x.data.toList with ⟨_, hn⟩ | ⟨ha, ⟨_, hi⟩ | ⟨_, hi, htr⟩ | ⟨e, _⟩⟩
  · exact .inl ⟨_, _, w_AtoiNo x (by omega) hn⟩
  · exact .inr (.inl ⟨_, _, v_AtoiOk x (by omega) _ ha, v_ItoaM _ (Lib.atoiAll_bounds ha), fun e => hi ((decT_eq _ _).1 e)⟩)
  · have g := v_ItoaM (progN x.data.toList) (Lib.atoiAll_bounds ha)
    rw [(decT_eq _ _).2 hi] at g
    exact .inr (.inr ⟨_, _, v_AtoiOk x (by omega) _ ha, g, v_TrimPrefix x ⟨#[45]⟩, by rw [mkB_size]; exact htr⟩)
  · rw [h] at e; cases e
theorem w_ParseRecord (s : ByteArray) (hs : s.size ≤ 1000) : VC Tryz.prog 11 [S s] (.tup [recA (readRc (pieces 32 s)).1, I (readRc (pieces 32 s)).2]) := by
  rw [← readRp_eq]
  have g1 := v_Split s 32 (by omega)
  have hl := pieces_len 32 s
  have hz : ∀ p ∈ pieces 32 s, p.size ≤ 1000 := fun p hp => by have := pieces_size hp; omega
  generalize pieces 32 s = w at *
  have g2 := v_ContainsTxt w ⟨#[]⟩ (by omega)
  obtain ⟨R, hR⟩ : ∃ R, readRp w = R := ⟨_, rfl⟩
  rw [hR]
  by_cases h5 : w.length = 3
  · cases hE : anyP (isT w ⟨#[]⟩) 0 w.length
    · rw [hE] at g2
      have h5i : (w.length : Int) = 3 := by omega
      have ht : ∀ k, (h : k < w.length) → tat w k = w[k] := fun k h => tat_get h
      have HZ := Lib.hid hz
      have HR : Hid ((if progOK (tat w 1).data.toList = false ∨ progOK (tat w 2).data.toList = false then (zeroRc, 7) else if recE ⟨tat w 0, progN (tat w 1).data.toList, progN (tat w 2).data.toList⟩ ≠ 0 then (zeroRc, recE ⟨tat w 0, progN (tat w 1).data.toList, progN (tat w 2).data.toList⟩) else (⟨tat w 0, progN (tat w 1).data.toList, progN (tat w 2).data.toList⟩, 0)) = R) := Lib.hid (by rw [← hR]; unfold readRp; rw [if_neg (show ¬ (w.length ≠ 3 ∨ anyP (isT w ⟨#[]⟩) 0 w.length = true) by rw [hE]; simp [h5])])
      clear hR hE hl hz
      refine VC_of Tryz.func11 rfl (by kernel_rfl) (by kernel_rfl) rfl fun M0 w0 => ?_
      simp only [Tryz.ntmps11, Tryz.results11, enumA]
      repeat' (first | (with_reducible first | refine vseq ?_ | refine vthenN ?_ | refine vthenE ?_ | refine vthenR ?_ | refine vret ?_ | refine vskip ?_ | refine vexit ?_ | refine vblock ?_ | refine vblockN ?_ | refine vblockR ?_ | refine vblockH ?_ | refine vrun_nil ?_ | refine vblockE rfl ?_ | refine vregion [] ?_ | refine vhrun_nil ?_) | ((with_reducible refine vcondT ?_ ?_); (focus (go_simp; done))) | ((with_reducible refine vcondF ?_ ?_); (focus (go_simp; done))) | ((with_reducible first | refine vrun_cons fun KK hKK => ?_ | refine vhrun_cons fun KK hKK => ?_); go_simp; (first | (refine ⟨_, g1, ?_⟩) | (refine ⟨_, g2, ?_⟩) | skip); refine hKK _ ?_; clear hKK KK) | ((refine vdrawL 22 22 [] rfl (by kernel_rfl) (by kernel_rfl) ?_); simp only [List.append, List.take, List.drop]) | ((with_reducible refine vcondS ?_ (fun ht => ?_) (fun ht => ?_)); (focus (go_simp; done)); (all_goals (simp [go_sem] at ht; replace ht := ht.out))) | ((apply vrun_consG0 rfl); (focus (go_simp <;> exact rfl)); (focus (go_simp; done)); (focus (intro hb0; replace hb0 := hb0.out; go_simp <;> (first | exact rfl | exact g1 | exact g2 | exact ⟨g1, rfl⟩ | exact ⟨g2, rfl⟩))); intro KK hKK; go_simp; refine hKK _ ?_; clear hKK KK) | ((apply vhrun_consG0 rfl); (focus (go_simp <;> exact rfl)); (focus (intro hb0; replace hb0 := hb0.out; go_simp <;> (first | exact rfl | exact g1 | exact g2 | exact ⟨g1, rfl⟩ | exact ⟨g2, rfl⟩))); intro KK hKK; go_simp; refine hKK _ ?_; clear hKK KK))
      apply vfor [2, 4, 5, 27] (fun k => [(28, I (k : Int))]) (fun k => ([some (.box [S ⟨#[]⟩, I 0, I 0]), some (.box [S w[0], I (upN w 1 k), I (upN w 2 k)])] : Hp)) ((fun k => !progOK (tat w (k + 1)).data.toList)) (2)
      · go_simp <;> exact rfl
      · go_simp
      · intro k hk HB HP K hK
        have hp := HP.out
        simp only [Bool.not_eq_false'] at hp
        have hw : k + 1 < w.length := by omega
        have hq := hp
        rw [ht (k + 1) hw] at hq
        obtain ⟨g3, g4, T, g5, hT⟩ := at_good w[k + 1] (HZ.out _ (List.getElem_mem hw)) hq
        have hTi : ¬ (11 : Int) < (T.size : Int) := by omega
        obtain rfl | rfl : k = 0 ∨ k = 1 := by omega
        · have e1 : upN w 1 (0 + 1) = progN (w[0 + 1]'hw).data.toList := by rw [← ht (0 + 1) hw]; rfl
          have e2 : upN w 2 (0 + 1) = 0 := rfl
          simp only [Nat.zero_add] at g3 g4 g5 e1 e2 hw
          clear hp hq HB HP HR hT
          generalize progN w[1].data.toList = n at *
          repeat' (first | (with_reducible first | refine vseq ?_ | refine vthenN ?_ | refine vthenE ?_ | refine vthenR ?_ | refine vret ?_ | refine vskip ?_ | refine vexit ?_ | refine vblock ?_ | refine vblockN ?_ | refine vblockR ?_ | refine vblockH ?_ | refine vrun_nil ?_ | refine vblockE rfl ?_ | refine vregion [] ?_ | refine vhrun_nil ?_) | ((with_reducible refine vcondT ?_ ?_); (focus (go_simp; done))) | ((with_reducible refine vcondF ?_ ?_); (focus (go_simp; done))) | ((with_reducible first | refine vrun_cons fun KK hKK => ?_ | refine vhrun_cons fun KK hKK => ?_); go_simp; (first | (refine ⟨_, g3, ?_⟩) | (refine ⟨_, g4, ?_⟩) | (refine ⟨_, g5, ?_⟩) | skip); refine hKK _ ?_; clear hKK KK) | ((refine vdrawL 22 22 [] rfl (by kernel_rfl) (by kernel_rfl) ?_); simp only [List.take, List.drop]) | ((with_reducible refine vcondS ?_ (fun ht => ?_) (fun ht => ?_)); (focus (go_simp; done)); (all_goals (simp [go_sem] at ht; replace ht := ht.out))) | ((apply vrun_consG0 rfl); (focus (go_simp <;> exact rfl)); (focus (go_simp; done)); (focus (intro hb0; replace hb0 := hb0.out; go_simp <;> (first | exact rfl | exact g3 | exact g4 | exact g5 | exact ⟨g3, rfl⟩ | exact ⟨g4, rfl⟩ | exact ⟨g5, rfl⟩))); intro KK hKK; go_simp; refine hKK _ ?_; clear hKK KK) | ((apply vhrun_consG0 rfl); (focus (go_simp <;> exact rfl)); (focus (intro hb0; replace hb0 := hb0.out; go_simp <;> (first | exact rfl | exact g3 | exact g4 | exact g5 | exact ⟨g3, rfl⟩ | exact ⟨g4, rfl⟩ | exact ⟨g5, rfl⟩))); intro KK hKK; go_simp; refine hKK _ ?_; clear hKK KK))
          refine hK _ ?_
          go_simp
        · have e1 : upN w 1 (1 + 1) = upN w 1 1 := rfl
          have e2 : upN w 2 (1 + 1) = progN (w[1 + 1]'hw).data.toList := by rw [← ht (1 + 1) hw]; rfl
          simp only [Nat.reduceAdd] at g3 g4 g5 e1 e2 hw
          clear hp hq HB HP HR hT
          generalize progN w[2].data.toList = n at *
          repeat' (first | (with_reducible first | refine vseq ?_ | refine vthenN ?_ | refine vthenE ?_ | refine vthenR ?_ | refine vret ?_ | refine vskip ?_ | refine vexit ?_ | refine vblock ?_ | refine vblockN ?_ | refine vblockR ?_ | refine vblockH ?_ | refine vrun_nil ?_ | refine vblockE rfl ?_ | refine vregion [] ?_ | refine vhrun_nil ?_) | ((with_reducible refine vcondT ?_ ?_); (focus (go_simp; done))) | ((with_reducible refine vcondF ?_ ?_); (focus (go_simp; done))) | ((with_reducible first | refine vrun_cons fun KK hKK => ?_ | refine vhrun_cons fun KK hKK => ?_); go_simp; (first | (refine ⟨_, g3, ?_⟩) | (refine ⟨_, g4, ?_⟩) | (refine ⟨_, g5, ?_⟩) | skip); refine hKK _ ?_; clear hKK KK) | ((refine vdrawL 22 22 [] rfl (by kernel_rfl) (by kernel_rfl) ?_); simp only [List.take, List.drop]) | ((with_reducible refine vcondS ?_ (fun ht => ?_) (fun ht => ?_)); (focus (go_simp; done)); (all_goals (simp [go_sem] at ht; replace ht := ht.out))) | ((apply vrun_consG0 rfl); (focus (go_simp <;> exact rfl)); (focus (go_simp; done)); (focus (intro hb0; replace hb0 := hb0.out; go_simp <;> (first | exact rfl | exact g3 | exact g4 | exact g5 | exact ⟨g3, rfl⟩ | exact ⟨g4, rfl⟩ | exact ⟨g5, rfl⟩))); intro KK hKK; go_simp; refine hKK _ ?_; clear hKK KK) | ((apply vhrun_consG0 rfl); (focus (go_simp <;> exact rfl)); (focus (intro hb0; replace hb0 := hb0.out; go_simp <;> (first | exact rfl | exact g3 | exact g4 | exact g5 | exact ⟨g3, rfl⟩ | exact ⟨g4, rfl⟩ | exact ⟨g5, rfl⟩))); intro KK hKK; go_simp; refine hKK _ ?_; clear hKK KK))
          refine hK _ ?_
          go_simp
      · intro k hk HB HP K
        have hp := HP.out
        simp only [Bool.not_eq_true'] at hp
        have hw : k + 1 < w.length := by omega
        have hq := hp
        rw [ht (k + 1) hw] at hq
        have e := HR.out
        rw [if_pos (by
          obtain rfl | rfl : k = 0 ∨ k = 1 := by omega
          · exact .inl hp
          · exact .inr hp)] at e
        subst e
        have gb := at_bad w[k + 1] (HZ.out _ (List.getElem_mem hw)) hq
        clear hp hq HB HP HR
        obtain rfl | rfl : k = 0 ∨ k = 1 := by omega
        all_goals
          simp only [Nat.zero_add, Nat.reduceAdd] at gb hw
          rcases gb with ⟨n, t, g3⟩ | ⟨n, D, g3, g4, hD⟩ | ⟨n, T, g3, g4, g5, hT⟩
          · repeat' (first | (with_reducible first | refine vseq ?_ | refine vthenN ?_ | refine vthenE ?_ | refine vthenR ?_ | refine vret ?_ | refine vskip ?_ | refine vexit ?_ | refine vblock ?_ | refine vblockN ?_ | refine vblockR ?_ | refine vblockH ?_ | refine vrun_nil ?_ | refine vblockE rfl ?_ | refine vregion [] ?_ | refine vhrun_nil ?_) | ((with_reducible refine vcondT ?_ ?_); (focus (go_simp; done))) | ((with_reducible refine vcondF ?_ ?_); (focus (go_simp; done))) | ((with_reducible first | refine vrun_cons fun KK hKK => ?_ | refine vhrun_cons fun KK hKK => ?_); go_simp; (first | (refine ⟨_, g3, ?_⟩) | skip); refine hKK _ ?_; clear hKK KK) | ((refine vdrawL 22 22 [] rfl (by kernel_rfl) (by kernel_rfl) ?_); simp only [List.take, List.drop]) | ((with_reducible refine vcondS ?_ (fun ht => ?_) (fun ht => ?_)); (focus (go_simp; done)); (all_goals (simp [go_sem] at ht; replace ht := ht.out))) | ((apply vrun_consG0 rfl); (focus (go_simp <;> exact rfl)); (focus (go_simp; done)); (focus (intro hb0; replace hb0 := hb0.out; go_simp <;> (first | exact rfl | exact g3 | exact ⟨g3, rfl⟩))); intro KK hKK; go_simp; refine hKK _ ?_; clear hKK KK) | ((apply vhrun_consG0 rfl); (focus (go_simp <;> exact rfl)); (focus (intro hb0; replace hb0 := hb0.out; go_simp <;> (first | exact rfl | exact g3 | exact ⟨g3, rfl⟩))); intro KK hKK; go_simp; refine hKK _ ?_; clear hKK KK))
            go_simp
          · repeat' (first | (with_reducible first | refine vseq ?_ | refine vthenN ?_ | refine vthenE ?_ | refine vthenR ?_ | refine vret ?_ | refine vskip ?_ | refine vexit ?_ | refine vblock ?_ | refine vblockN ?_ | refine vblockR ?_ | refine vblockH ?_ | refine vrun_nil ?_ | refine vblockE rfl ?_ | refine vregion [] ?_ | refine vhrun_nil ?_) | ((with_reducible refine vcondT ?_ ?_); (focus (go_simp; done))) | ((with_reducible refine vcondF ?_ ?_); (focus (go_simp; done))) | ((with_reducible first | refine vrun_cons fun KK hKK => ?_ | refine vhrun_cons fun KK hKK => ?_); go_simp; (first | (refine ⟨_, g3, ?_⟩) | (refine ⟨_, g4, ?_⟩) | skip); refine hKK _ ?_; clear hKK KK) | ((refine vdrawL 22 22 [] rfl (by kernel_rfl) (by kernel_rfl) ?_); simp only [List.take, List.drop]) | ((with_reducible refine vcondS ?_ (fun ht => ?_) (fun ht => ?_)); (focus (go_simp; done)); (all_goals (simp [go_sem] at ht; replace ht := ht.out))) | ((apply vrun_consG0 rfl); (focus (go_simp <;> exact rfl)); (focus (go_simp; done)); (focus (intro hb0; replace hb0 := hb0.out; go_simp <;> (first | exact rfl | exact g3 | exact g4 | exact ⟨g3, rfl⟩ | exact ⟨g4, rfl⟩))); intro KK hKK; go_simp; refine hKK _ ?_; clear hKK KK) | ((apply vhrun_consG0 rfl); (focus (go_simp <;> exact rfl)); (focus (intro hb0; replace hb0 := hb0.out; go_simp <;> (first | exact rfl | exact g3 | exact g4 | exact ⟨g3, rfl⟩ | exact ⟨g4, rfl⟩))); intro KK hKK; go_simp; refine hKK _ ?_; clear hKK KK))
            go_simp
          · have hTi : (11 : Int) < (T.size : Int) := by omega
            clear hT
            repeat' (first | (with_reducible first | refine vseq ?_ | refine vthenN ?_ | refine vthenE ?_ | refine vthenR ?_ | refine vret ?_ | refine vskip ?_ | refine vexit ?_ | refine vblock ?_ | refine vblockN ?_ | refine vblockR ?_ | refine vblockH ?_ | refine vrun_nil ?_ | refine vblockE rfl ?_ | refine vregion [] ?_ | refine vhrun_nil ?_) | ((with_reducible refine vcondT ?_ ?_); (focus (go_simp; done))) | ((with_reducible refine vcondF ?_ ?_); (focus (go_simp; done))) | ((with_reducible first | refine vrun_cons fun KK hKK => ?_ | refine vhrun_cons fun KK hKK => ?_); go_simp; (first | (refine ⟨_, g3, ?_⟩) | (refine ⟨_, g4, ?_⟩) | (refine ⟨_, g5, ?_⟩) | skip); refine hKK _ ?_; clear hKK KK) | ((refine vdrawL 22 22 [] rfl (by kernel_rfl) (by kernel_rfl) ?_); simp only [List.take, List.drop]) | ((with_reducible refine vcondS ?_ (fun ht => ?_) (fun ht => ?_)); (focus (go_simp; done)); (all_goals (simp [go_sem] at ht; replace ht := ht.out))) | ((apply vrun_consG0 rfl); (focus (go_simp <;> exact rfl)); (focus (go_simp; done)); (focus (intro hb0; replace hb0 := hb0.out; go_simp <;> (first | exact rfl | exact g3 | exact g4 | exact g5 | exact ⟨g3, rfl⟩ | exact ⟨g4, rfl⟩ | exact ⟨g5, rfl⟩))); intro KK hKK; go_simp; refine hKK _ ?_; clear hKK KK) | ((apply vhrun_consG0 rfl); (focus (go_simp <;> exact rfl)); (focus (intro hb0; replace hb0 := hb0.out; go_simp <;> (first | exact rfl | exact g3 | exact g4 | exact g5 | exact ⟨g3, rfl⟩ | exact ⟨g4, rfl⟩ | exact ⟨g5, rfl⟩))); intro KK hKK; go_simp; refine hKK _ ?_; clear hKK KK))
            go_simp
      · intro HB K
        have b1 := HB.out 0 (by decide)
        have b2 := HB.out 1 (by decide)
        simp only [Bool.not_eq_false', Nat.zero_add, Nat.reduceAdd] at b1 b2
        have e := HR.out
        rw [if_neg (by simp [b1, b2])] at e
        rw [ht 0 (by omega)] at e
        have g6 := w_recordErr ⟨w[0], progN (tat w 1).data.toList, progN (tat w 2).data.toList⟩ (HZ.out _ (List.getElem_mem _))
        simp only [recA] at g6
        have f1 : upN w 1 2 = progN (tat w 1).data.toList := rfl
        have f2 : upN w 2 2 = progN (tat w 2).data.toList := rfl
        rw [f1, f2]
        clear HB HR b1 b2 f1 f2
        generalize progN (tat w 1).data.toList = m at *
        generalize progN (tat w 2).data.toList = n at *
        generalize recE ⟨w[0], m, n⟩ = E at *
        by_cases hE : E = 0
        · rw [if_neg (by simpa using hE)] at e
          subst e
          repeat' (first | (with_reducible first | refine vseq ?_ | refine vthenN ?_ | refine vthenE ?_ | refine vthenR ?_ | refine vret ?_ | refine vskip ?_ | refine vexit ?_ | refine vblock ?_ | refine vblockN ?_ | refine vblockR ?_ | refine vblockH ?_ | refine vrun_nil ?_ | refine vblockE rfl ?_ | refine vregion [] ?_ | refine vhrun_nil ?_) | ((with_reducible refine vcondT ?_ ?_); (focus (go_simp; done))) | ((with_reducible refine vcondF ?_ ?_); (focus (go_simp; done))) | ((with_reducible first | refine vrun_cons fun KK hKK => ?_ | refine vhrun_cons fun KK hKK => ?_); go_simp; (first | (refine ⟨_, g6, ?_⟩) | skip); refine hKK _ ?_; clear hKK KK) | ((refine vdrawL 22 22 [] rfl (by kernel_rfl) (by kernel_rfl) ?_); simp only [List.append, List.take, List.drop]) | ((with_reducible refine vcondS ?_ (fun ht => ?_) (fun ht => ?_)); (focus (go_simp; done)); (all_goals (simp [go_sem] at ht; replace ht := ht.out))) | ((apply vrun_consG0 rfl); (focus (go_simp <;> exact rfl)); (focus (go_simp; done)); (focus (intro hb0; replace hb0 := hb0.out; go_simp <;> (first | exact rfl | exact g6 | exact ⟨g6, rfl⟩))); intro KK hKK; go_simp; refine hKK _ ?_; clear hKK KK) | ((apply vhrun_consG0 rfl); (focus (go_simp <;> exact rfl)); (focus (intro hb0; replace hb0 := hb0.out; go_simp <;> (first | exact rfl | exact g6 | exact ⟨g6, rfl⟩))); intro KK hKK; go_simp; refine hKK _ ?_; clear hKK KK))
          go_simp
        · rw [if_pos hE] at e
          subst e
          repeat' (first | (with_reducible first | refine vseq ?_ | refine vthenN ?_ | refine vthenE ?_ | refine vthenR ?_ | refine vret ?_ | refine vskip ?_ | refine vexit ?_ | refine vblock ?_ | refine vblockN ?_ | refine vblockR ?_ | refine vblockH ?_ | refine vrun_nil ?_ | refine vblockE rfl ?_ | refine vregion [] ?_ | refine vhrun_nil ?_) | ((with_reducible refine vcondT ?_ ?_); (focus (go_simp; done))) | ((with_reducible refine vcondF ?_ ?_); (focus (go_simp; done))) | ((with_reducible first | refine vrun_cons fun KK hKK => ?_ | refine vhrun_cons fun KK hKK => ?_); go_simp; (first | (refine ⟨_, g6, ?_⟩) | skip); refine hKK _ ?_; clear hKK KK) | ((refine vdrawL 22 22 [] rfl (by kernel_rfl) (by kernel_rfl) ?_); simp only [List.append, List.take, List.drop]) | ((with_reducible refine vcondS ?_ (fun ht => ?_) (fun ht => ?_)); (focus (go_simp; done)); (all_goals (simp [go_sem] at ht; replace ht := ht.out))) | ((apply vrun_consG0 rfl); (focus (go_simp <;> exact rfl)); (focus (go_simp; done)); (focus (intro hb0; replace hb0 := hb0.out; go_simp <;> (first | exact rfl | exact g6 | exact ⟨g6, rfl⟩))); intro KK hKK; go_simp; refine hKK _ ?_; clear hKK KK) | ((apply vhrun_consG0 rfl); (focus (go_simp <;> exact rfl)); (focus (intro hb0; replace hb0 := hb0.out; go_simp <;> (first | exact rfl | exact g6 | exact ⟨g6, rfl⟩))); intro KK hKK; go_simp; refine hKK _ ?_; clear hKK KK))
          go_simp
    · have e : R = (zeroRc, 7) := by rw [← hR]; unfold readRp; rw [if_pos (.inr hE)]
      subst e
      rw [hE] at g2
      have h5i : (w.length : Int) = 3 := by omega
      clear hz hR hE hl
      refine VC_of Tryz.func11 rfl (by kernel_rfl) (by kernel_rfl) rfl fun M0 w0 => ?_
      simp only [Tryz.ntmps11, Tryz.results11, enumA]
      repeat' (first | (with_reducible first | refine vseq ?_ | refine vthenN ?_ | refine vthenE ?_ | refine vthenR ?_ | refine vret ?_ | refine vskip ?_ | refine vexit ?_ | refine vblock ?_ | refine vblockN ?_ | refine vblockR ?_ | refine vblockH ?_ | refine vrun_nil ?_ | refine vblockE rfl ?_ | refine vregion [] ?_ | refine vhrun_nil ?_) | ((with_reducible refine vcondT ?_ ?_); (focus (go_simp; done))) | ((with_reducible refine vcondF ?_ ?_); (focus (go_simp; done))) | ((with_reducible first | refine vrun_cons fun KK hKK => ?_ | refine vhrun_cons fun KK hKK => ?_); go_simp; (first | (refine ⟨_, g1, ?_⟩) | (refine ⟨_, g2, ?_⟩) | skip); refine hKK _ ?_; clear hKK KK) | ((refine vdrawL 22 22 [] rfl (by kernel_rfl) (by kernel_rfl) ?_); simp only [List.append, List.take, List.drop]) | ((with_reducible refine vcondS ?_ (fun ht => ?_) (fun ht => ?_)); (focus (go_simp; done)); (all_goals (simp [go_sem] at ht; replace ht := ht.out))) | ((apply vrun_consG0 rfl); (focus (go_simp <;> exact rfl)); (focus (go_simp; done)); (focus (intro hb0; replace hb0 := hb0.out; go_simp <;> (first | exact rfl | exact g1 | exact g2 | exact ⟨g1, rfl⟩ | exact ⟨g2, rfl⟩))); intro KK hKK; go_simp; refine hKK _ ?_; clear hKK KK) | ((apply vhrun_consG0 rfl); (focus (go_simp <;> exact rfl)); (focus (intro hb0; replace hb0 := hb0.out; go_simp <;> (first | exact rfl | exact g1 | exact g2 | exact ⟨g1, rfl⟩ | exact ⟨g2, rfl⟩))); intro KK hKK; go_simp; refine hKK _ ?_; clear hKK KK))
      go_simp
  · have e : R = (zeroRc, 7) := by rw [← hR]; unfold readRp; rw [if_pos (.inl h5)]
    subst e
    have h5i : ¬ (w.length : Int) = 3 := by omega
    clear hz hR hl
    refine VC_of Tryz.func11 rfl (by kernel_rfl) (by kernel_rfl) rfl fun M0 w0 => ?_
    simp only [Tryz.ntmps11, Tryz.results11, enumA]
    repeat' (first | (with_reducible first | refine vseq ?_ | refine vthenN ?_ | refine vthenE ?_ | refine vthenR ?_ | refine vret ?_ | refine vskip ?_ | refine vexit ?_ | refine vblock ?_ | refine vblockN ?_ | refine vblockR ?_ | refine vblockH ?_ | refine vrun_nil ?_ | refine vblockE rfl ?_ | refine vregion [] ?_ | refine vhrun_nil ?_) | ((with_reducible refine vcondT ?_ ?_); (focus (go_simp; done))) | ((with_reducible refine vcondF ?_ ?_); (focus (go_simp; done))) | ((with_reducible first | refine vrun_cons fun KK hKK => ?_ | refine vhrun_cons fun KK hKK => ?_); go_simp; (first | (refine ⟨_, g1, ?_⟩) | (refine ⟨_, g2, ?_⟩) | skip); refine hKK _ ?_; clear hKK KK) | ((refine vdrawL 22 22 [] rfl (by kernel_rfl) (by kernel_rfl) ?_); simp only [List.append, List.take, List.drop]) | ((with_reducible refine vcondS ?_ (fun ht => ?_) (fun ht => ?_)); (focus (go_simp; done)); (all_goals (simp [go_sem] at ht; replace ht := ht.out))) | ((apply vrun_consG0 rfl); (focus (go_simp <;> exact rfl)); (focus (go_simp; done)); (focus (intro hb0; replace hb0 := hb0.out; go_simp <;> (first | exact rfl | exact g1 | exact g2 | exact ⟨g1, rfl⟩ | exact ⟨g2, rfl⟩))); intro KK hKK; go_simp; refine hKK _ ?_; clear hKK KK) | ((apply vhrun_consG0 rfl); (focus (go_simp <;> exact rfl)); (focus (intro hb0; replace hb0 := hb0.out; go_simp <;> (first | exact rfl | exact g1 | exact g2 | exact ⟨g1, rfl⟩ | exact ⟨g2, rfl⟩))); intro KK hKK; go_simp; refine hKK _ ?_; clear hKK KK))
    go_simp
end Go.Proofs.YtmfmpagfjgpodaaGreatDoor

/-! SWP3: Chapter 7: records that are written, by both; a right record is read back. -/
namespace Go.Proofs.YtmfmpagfjgpodaaGreatDoor
open Go.RowKit
set_option maxRecDepth 100000
set_option maxHeartbeats 1000000
theorem decT_size (n : Int) (h : -9223372036854775808 ≤ n ∧ n ≤ 9223372036854775807) : (decT n).size ≤ 20 := by
  unfold decT Lib.itoa
  rw [mkB_size]
  split
  · have := digits_len 18 n.natAbs (by omega)
    simp only [List.length_cons]
    omega
  · have := digits_len 18 n.toNat (by omega)
    omega
def recT (x : Rc) : ByteArray := x.driver ++ ⟨#[32]⟩ ++ decT x.lo ++ ⟨#[32]⟩ ++ decT x.hi
/-- The whole numbers of a word. -/
def Big (n : Int) : Prop := -9223372036854775808 ≤ n ∧ n ≤ 9223372036854775807
theorem w_FormatRecord (x : Rc) (h : x.driver.size ≤ 1000) (h1 : Big x.lo) (h2 : Big x.hi) : VC Tryz.prog 13 [recA x] (S (recT x)) := by
  have g1 := v_ItoaM x.lo h1
  have g2 := v_ItoaM x.hi h2
  have s1 := decT_size x.lo h1
  have s2 := decT_size x.hi h2
  unfold recT
  generalize decT x.lo = D at *
  generalize decT x.hi = F at *
  have hs1 : (⟨#[32]⟩ : ByteArray).size = 1 := rfl
  have z1 : x.driver.size + 1 ≤ 9223372036854775807 := by omega
  have z2 : x.driver.size + 1 + D.size ≤ 9223372036854775807 := by omega
  have z3 : x.driver.size + 1 + D.size + 1 ≤ 9223372036854775807 := by omega
  have z4 : x.driver.size + 1 + D.size + 1 + F.size ≤ 9223372036854775807 := by omega
  clear h h1 h2 s1 s2
  refine VC_of Tryz.func13 rfl (by kernel_rfl) (by kernel_rfl) rfl fun M0 w0 => ?_
  simp only [Tryz.ntmps13, Tryz.results13, enumA]
  repeat' (first | (with_reducible first | refine vseq ?_ | refine vthenN ?_ | refine vthenE ?_ | refine vthenR ?_ | refine vret ?_ | refine vskip ?_ | refine vexit ?_ | refine vblock ?_ | refine vblockN ?_ | refine vblockR ?_ | refine vblockH ?_ | refine vrun_nil ?_ | refine vblockE rfl ?_ | refine vregion [] ?_ | refine vhrun_nil ?_) | ((with_reducible refine vcondT ?_ ?_); (focus (go_simp; done))) | ((with_reducible refine vcondF ?_ ?_); (focus (go_simp; done))) | ((with_reducible first | refine vrun_cons fun KK hKK => ?_ | refine vhrun_cons fun KK hKK => ?_); go_simp; (first | (refine ⟨_, g1, ?_⟩) | (refine ⟨_, g2, ?_⟩) | skip); refine hKK _ ?_; clear hKK KK) | ((refine vdrawL 13 13 [] rfl (by kernel_rfl) (by kernel_rfl) ?_); simp only [List.take, List.drop]) | ((with_reducible refine vcondS ?_ (fun ht => ?_) (fun ht => ?_)); (focus (go_simp; done)); (all_goals (simp [go_sem] at ht; replace ht := ht.out))))
  go_simp
theorem v_FormatRecord (x : Rc) (h : x.driver.size ≤ 1000) (h1 : Big x.lo) (h2 : Big x.hi) : VC Tryz.prog 14 [recA x] (S (recT x)) := by
  have g1 := b_Decimal x.lo h1
  have g2 := b_Decimal x.hi h2
  have s1 := decT_size x.lo h1
  have s2 := decT_size x.hi h2
  unfold recT
  generalize decT x.lo = D at *
  generalize decT x.hi = F at *
  have hs1 : (⟨#[32]⟩ : ByteArray).size = 1 := rfl
  have z1 : x.driver.size + 1 ≤ 9223372036854775807 := by omega
  have z2 : x.driver.size + 1 + D.size ≤ 9223372036854775807 := by omega
  have z3 : x.driver.size + 1 + D.size + 1 ≤ 9223372036854775807 := by omega
  have z4 : x.driver.size + 1 + D.size + 1 + F.size ≤ 9223372036854775807 := by omega
  clear h h1 h2 s1 s2
  refine VC_of Tryz.func14 rfl (by kernel_rfl) (by kernel_rfl) rfl fun M0 w0 => ?_
  simp only [Tryz.ntmps14, Tryz.results14, enumA]
  repeat' (first | (with_reducible first | refine vseq ?_ | refine vthenN ?_ | refine vthenE ?_ | refine vthenR ?_ | refine vret ?_ | refine vskip ?_ | refine vexit ?_ | refine vblock ?_ | refine vblockN ?_ | refine vblockR ?_ | refine vblockH ?_ | refine vrun_nil ?_ | refine vblockE rfl ?_ | refine vregion [] ?_ | refine vhrun_nil ?_) | ((with_reducible refine vcondT ?_ ?_); (focus (go_simp; done))) | ((with_reducible refine vcondF ?_ ?_); (focus (go_simp; done))) | ((with_reducible first | refine vrun_cons fun KK hKK => ?_ | refine vhrun_cons fun KK hKK => ?_); go_simp; (first | (refine ⟨_, g1, ?_⟩) | (refine ⟨_, g2, ?_⟩) | skip); refine hKK _ ?_; clear hKK KK) | ((refine vdrawL 13 13 [] rfl (by kernel_rfl) (by kernel_rfl) ?_); simp only [List.take, List.drop]) | ((with_reducible refine vcondS ?_ (fun ht => ?_) (fun ht => ?_)); (focus (go_simp; done)); (all_goals (simp [go_sem] at ht; replace ht := ht.out))))
  go_simp
/-! ### Read back; no program in sight -/
theorem nm_no {s : ByteArray} {c : UInt8} (h : isName s = true) (hc : ∀ i, okChar i c.toNat = false) : c ∉ s.data.toList := by
  intro hm
  obtain ⟨i, hi, he⟩ := List.getElem_of_mem hm
  have hi2 : i < s.size := by rw [size_L] at hi; exact hi
  simp only [isName, Bool.and_eq_true] at h
  have := List.all_eq_true.1 h.2 i (by simpa using hi2)
  have e : byteAt s i = c := by
    rw [← he]
    unfold byteAt
    rw [List.getD, List.getElem?_eq_getElem (by rw [size_L]; exact hi2), Option.getD_some]
  rw [e, hc] at this
  cases this
theorem nm_ne {s : ByteArray} (h : isName s = true) : s ≠ ⟨#[]⟩ := by
  intro e
  subst e
  cases h
theorem itoa_no {c : UInt8} (n : Int) (h1 : c ≠ 45) (h2 : isD c = false) : c ∉ Lib.itoa n := by
  have hd : ∀ m : Nat, c ∉ Lib.decDigits m := fun m hm => by
    have := List.all_eq_true.1 (all_digits m) c hm
    rw [h2] at this
    cases this
  unfold Lib.itoa
  split
  · intro hm
    rcases List.mem_cons.1 hm with hm | hm
    · exact h1 hm
    · exact hd _ hm
  · exact hd _
theorem num_back {n : Int} (h : 0 ≤ n ∧ n ≤ 99999999999) : numT (Lib.itoa n) = some n := by
  refine prog_num rfl ?_
  obtain ⟨m, rfl⟩ : ∃ m : Nat, n = m := ⟨n.toNat, by omega⟩
  rw [Lib.itoa_nonneg]
  have hl := digits_len 10 m (by omega)
  unfold Lib.trimPrefix
  split
  · rw [List.length_drop]
    omega
  · exact hl
/-- A right record is read back. -/
theorem rc_back {x : Rc} (h : recE x = 0) : readRc (pieces 32 (recT x)) = (x, 0) := by
  have h0 := h
  have hn : isName x.driver = true ∧ isTm x.lo = true ∧ isTm x.hi = true := by
    unfold recE at h
    cases h1 : isName x.driver
    · rw [h1] at h; cases h
    · rw [h1] at h
      unfold spnE at h
      cases h2 : isTm x.lo
      · rw [h2] at h; cases h
      · cases h3 : isTm x.hi
        · rw [h2, h3] at h; cases h
        · exact ⟨rfl, rfl, rfl⟩
  obtain ⟨n1, n2, n3⟩ := hn
  have d2 := inR_iff.1 n2
  have d3 := inR_iff.1 n3
  have hp : pieces 32 (recT x) = [x.driver, decT x.lo, decT x.hi] := by
    have e : (recT x).data.toList = x.driver.data.toList ++ 32 :: (Lib.itoa x.lo ++ 32 :: Lib.itoa x.hi) := by
      unfold recT decT mkB
      simp [ByteArray.data_append]
    have ok32 : ∀ i, okChar i (32 : UInt8).toNat = false := by
      intro i
      cases i <;> rfl
    unfold pieces
    rw [e, cutL_at (nm_no n1 ok32), cutL_at (itoa_no _ (by decide) (by decide)), cutL_no (itoa_no _ (by decide) (by decide))]
    rfl
  rw [hp]
  unfold readRc
  simp only [tat, List.getD_cons_zero, List.getD_cons_succ]
  have e1 : numT (decT x.lo).data.toList = some x.lo := num_back ⟨d2.1, by omega⟩
  have e2 : numT (decT x.hi).data.toList = some x.hi := num_back ⟨d3.1, by omega⟩
  rw [e1, e2]
  have := nm_ne n1
  simp [numR, this, h0]
end Go.Proofs.YtmfmpagfjgpodaaGreatDoor
