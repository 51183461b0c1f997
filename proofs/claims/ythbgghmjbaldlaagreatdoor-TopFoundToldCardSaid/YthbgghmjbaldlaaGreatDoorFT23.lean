/- Texts in one: Walks on plain values: events that are read, as the reference reads them; texts of at most 1000 bytes. -/
import Derived.Test.YthbgghmjbaldlaaGreatDoorFT21
import Derived.Test.YthbgghmjbaldlaaGreatDoorFT17
import Derived.Test.YthbgghmjbaldlaaGreatDoorFT22
/-! QU3: Walks on plain values: events that are read, as the reference reads them; texts of at most 1000 bytes. -/
namespace Go.Proofs.YthbgghmjbaldlaaGreatDoor
open Go.RowKit
set_option maxRecDepth 100000
set_option maxHeartbeats 1000000
def pieces (c : UInt8) (s : ByteArray) : List ByteArray := (cutL c s.data.toList).map mkB
theorem pieces_len (c : UInt8) (s : ByteArray) : (pieces c s).length ≤ s.size + 1 := by
  have := cutL_len c s.data.toList
  rw [size_L] at this
  simpa [pieces] using this
theorem pieces_size {c : UInt8} {s p : ByteArray} (h : p ∈ pieces c s) : p.size ≤ s.size := by
  obtain ⟨l, hl, rfl⟩ := List.mem_map.1 h
  have := cutL_part c _ l hl
  rw [mkB_size, ← size_L]
  exact this
theorem b_CutP (s : ByteArray) (c : UInt8) (hs : s.size ≤ 1000000) : VC Tryz.prog 84 [S s, .lit (.int .u8 c.toNat)] (txtsA (pieces c s)) := by
  have := b_Cut s c hs
  have e : (pieces c s).map txtA = (cutL c s.data.toList).map txL := by
    unfold pieces
    rw [List.map_map]
    rfl
  rw [txtsA, e]
  exact this
theorem b_Cut32 (s : ByteArray) (hs : s.size ≤ 1000000) : VC Tryz.prog 84 [S s, .lit (.int .u8 32)] (txtsA (pieces 32 s)) := b_CutP s 32 hs
def kindTo (W : ByteArray) : Nat → Int
  | 0 => -1
  | k + 1 => if word k = W then (k : Int) else kindTo W k
@[go_sem] theorem kindTo_0 (W : ByteArray) : kindTo W 0 = -1 := rfl
@[go_sem] def zeroEv : Event := ⟨⟨#[]⟩, 0, 0, ⟨#[]⟩, ⟨#[]⟩⟩
def hasEmpty (w : List ByteArray) : Bool := anyP (isT w ⟨#[]⟩) 0 w.length
/-- The event that words tell, or the error. -/
def readEv (w : List ByteArray) : Event × Int :=
  if w.length ≠ 5 ∨ hasEmpty w = true then (zeroEv, 7) else
  if (numR (numT (tat w 1).data.toList)).2 = false ∨ kindTo (tat w 2) 5 < 0 then (zeroEv, 7) else
  if evE ⟨tat w 0, (numR (numT (tat w 1).data.toList)).1, kindTo (tat w 2) 5, tat w 3, tat w 4⟩ ≠ 0 then (zeroEv, evE ⟨tat w 0, (numR (numT (tat w 1).data.toList)).1, kindTo (tat w 2) 5, tat w 3, tat w 4⟩) else
  (⟨tat w 0, (numR (numT (tat w 1).data.toList)).1, kindTo (tat w 2) 5, tat w 3, tat w 4⟩, 0)
theorem r_ParseEvent (s : ByteArray) (hs : s.size ≤ 1000) : VC Tryz.prog 28 [S s] (.tup [.agg (readEv (pieces 32 s)).1.av, I (readEv (pieces 32 s)).2]) := by
  have g1 := b_Cut32 s (by omega)
  have hl := pieces_len 32 s
  have hz : ∀ p ∈ pieces 32 s, p.size ≤ 1000 := fun p hp => by have := pieces_size hp; omega
  generalize pieces 32 s = w at *
  have g2 := b_HasText w ⟨#[]⟩ (by omega)
  have he : anyP (isT w ⟨#[]⟩) 0 w.length = hasEmpty w := rfl
  rw [he] at g2
  unfold readEv
  by_cases h5 : w.length = 5
  · cases hE : hasEmpty w
    · rw [if_neg (by simp [h5])]
      rw [hE] at g2
      obtain ⟨a, b, c, d, e, rfl⟩ : ∃ a b c d e, w = [a, b, c, d, e] := by
        match w, h5 with
        | [a, b, c, d, e], _ => exact ⟨a, b, c, d, e, rfl⟩
      simp only [tat, List.getD_cons_zero, List.getD_cons_succ]
      have g3 := b_Number b (hz b (by simp))
      have hsm : SmallE ⟨a, (numR (numT b.data.toList)).1, kindTo c 5, d, e⟩ := ⟨hz a (by simp), hz d (by simp), hz e (by simp)⟩
      have g4 := r_EventErr _ hsm
      clear hsm hz he hE h5 hl
      generalize numR (numT b.data.toList) = N at *
      obtain ⟨n, ok⟩ := N
      simp only at g3 g4 ⊢
      generalize evE ⟨a, n, kindTo c 5, d, e⟩ = E at *
      obtain ⟨K, hK⟩ : ∃ K, kindTo c 5 = K := ⟨_, rfl⟩
      rw [hK] at g4 ⊢
      have HK := Lib.hid hK
      clear hK
      have G4 := Lib.hid g4
      clear g4
      refine VC_of Tryz.func28 rfl (by kernel_rfl) (by kernel_rfl) rfl fun M0 w0 => ?_
      simp only [Tryz.ntmps28, Tryz.results28, enumA]
      repeat' (first | (with_reducible first | refine vseq ?_ | refine vthenN ?_ | refine vthenE ?_ | refine vthenR ?_ | refine vret ?_ | refine vskip ?_ | refine vexit ?_ | refine vblock ?_ | refine vblockN ?_ | refine vblockR ?_ | refine vblockH ?_ | refine vrun_nil ?_ | refine vblockE rfl ?_ | refine vregion [] ?_ | refine vhrun_nil ?_) | ((with_reducible refine vcondT ?_ ?_); (focus (go_simp; done))) | ((with_reducible refine vcondF ?_ ?_); (focus (go_simp; done))) | ((with_reducible first | refine vrun_cons fun KK hKK => ?_ | refine vhrun_cons fun KK hKK => ?_); go_simp; (first | (refine ⟨_, g1, ?_⟩) | (refine ⟨_, g2, ?_⟩) | (with_reducible refine ⟨_, g3, ?_⟩) | skip); refine hKK _ ?_; clear hKK KK) | ((refine vdrawL 6 6 [] rfl (by kernel_rfl) (by kernel_rfl) ?_); simp only [List.append, List.take, List.drop]) | ((refine vdrawL 14 14 [] rfl (by kernel_rfl) (by kernel_rfl) ?_); simp only [List.append, List.take, List.drop]) | ((with_reducible refine vcondS ?_ (fun ht => ?_) (fun ht => ?_)); (focus (go_simp; done)); (all_goals (simp [go_sem] at ht; replace ht := ht.out))) | ((apply vrun_consG0 rfl); (focus (go_simp <;> exact rfl)); (focus (go_simp; done)); (focus (intro hb0; replace hb0 := hb0.out; go_simp <;> (first | exact rfl | exact g1 | exact g2 | exact g3 | exact ⟨g1, rfl⟩ | exact ⟨g2, rfl⟩ | exact ⟨g3, rfl⟩))); intro KK hKK; go_simp; refine hKK _ ?_; clear hKK KK) | ((apply vhrun_consG0 rfl); (focus (go_simp <;> exact rfl)); (focus (intro hb0; replace hb0 := hb0.out; go_simp <;> (first | exact rfl | exact g1 | exact g2 | exact g3 | exact ⟨g1, rfl⟩ | exact ⟨g2, rfl⟩ | exact ⟨g3, rfl⟩))); intro KK hKK; go_simp; refine hKK _ ?_; clear hKK KK))
      apply vcnt [2, 4, 5, 6] (fun k => [(8, I (k : Int)), (7, I (kindTo c k))]) (fun k => ([some (.box [S ⟨#[]⟩, I 0, I 0, S ⟨#[]⟩, S ⟨#[]⟩])] : Hp))  (5)
      · go_simp <;> exact rfl
      · go_simp
      · intro k hk KK hKK
        obtain ⟨w1, w2, w3, w4, w5, w6⟩ := ixs (m := k) (by omega)
        have hki : (k : Int) ≤ 4 := by omega
        have hst : kindTo c (k + 1) = if word k = c then (k : Int) else kindTo c k := rfl
        have gw := r_Word k
        generalize word k = W at *
        by_cases hw : W = c
        · rw [if_pos hw] at hst
          have HST := Lib.hid hst
          clear hst
          repeat' (first | (with_reducible first | refine vseq ?_ | refine vthenN ?_ | refine vthenE ?_ | refine vthenR ?_ | refine vret ?_ | refine vskip ?_ | refine vexit ?_ | refine vblock ?_ | refine vblockN ?_ | refine vblockR ?_ | refine vblockH ?_ | refine vrun_nil ?_ | refine vblockE rfl ?_ | refine vregion [] ?_ | refine vhrun_nil ?_) | ((with_reducible refine vcondT ?_ ?_); (focus (go_simp; done))) | ((with_reducible refine vcondF ?_ ?_); (focus (go_simp; done))) | ((with_reducible first | refine vrun_cons fun KK hKK => ?_ | refine vhrun_cons fun KK hKK => ?_); go_simp; (first | (with_reducible refine ⟨_, gw, ?_⟩) | skip); refine hKK _ ?_; clear hKK KK) | ((refine vdrawL 6 6 [] rfl (by kernel_rfl) (by kernel_rfl) ?_); simp only [List.take, List.drop]) | ((refine vdrawL 14 14 [] rfl (by kernel_rfl) (by kernel_rfl) ?_); simp only [List.append, List.take, List.drop]) | ((with_reducible refine vcondS ?_ (fun ht => ?_) (fun ht => ?_)); (focus (go_simp; done)); (all_goals (simp [go_sem] at ht; replace ht := ht.out))) | ((apply vrun_consG0 rfl); (focus (go_simp <;> exact rfl)); (focus (go_simp; done)); (focus (intro hb0; replace hb0 := hb0.out; go_simp <;> (first | exact rfl | exact gw | exact ⟨gw, rfl⟩))); intro KK hKK; go_simp; refine hKK _ ?_; clear hKK KK) | ((apply vhrun_consG0 rfl); (focus (go_simp <;> exact rfl)); (focus (intro hb0; replace hb0 := hb0.out; go_simp <;> (first | exact rfl | exact gw | exact ⟨gw, rfl⟩))); intro KK hKK; go_simp; refine hKK _ ?_; clear hKK KK))
          refine hKK _ ?_
          rw [HST.out]
          go_simp
        · rw [if_neg hw] at hst
          have HST := Lib.hid hst
          clear hst
          repeat' (first | (with_reducible first | refine vseq ?_ | refine vthenN ?_ | refine vthenE ?_ | refine vthenR ?_ | refine vret ?_ | refine vskip ?_ | refine vexit ?_ | refine vblock ?_ | refine vblockN ?_ | refine vblockR ?_ | refine vblockH ?_ | refine vrun_nil ?_ | refine vblockE rfl ?_ | refine vregion [] ?_ | refine vhrun_nil ?_) | ((with_reducible refine vcondT ?_ ?_); (focus (go_simp; done))) | ((with_reducible refine vcondF ?_ ?_); (focus (go_simp; done))) | ((with_reducible first | refine vrun_cons fun KK hKK => ?_ | refine vhrun_cons fun KK hKK => ?_); go_simp; (first | (with_reducible refine ⟨_, gw, ?_⟩) | skip); refine hKK _ ?_; clear hKK KK) | ((refine vdrawL 6 6 [] rfl (by kernel_rfl) (by kernel_rfl) ?_); simp only [List.take, List.drop]) | ((refine vdrawL 14 14 [] rfl (by kernel_rfl) (by kernel_rfl) ?_); simp only [List.append, List.take, List.drop]) | ((with_reducible refine vcondS ?_ (fun ht => ?_) (fun ht => ?_)); (focus (go_simp; done)); (all_goals (simp [go_sem] at ht; replace ht := ht.out))) | ((apply vrun_consG0 rfl); (focus (go_simp <;> exact rfl)); (focus (go_simp; done)); (focus (intro hb0; replace hb0 := hb0.out; go_simp <;> (first | exact rfl | exact gw | exact ⟨gw, rfl⟩))); intro KK hKK; go_simp; refine hKK _ ?_; clear hKK KK) | ((apply vhrun_consG0 rfl); (focus (go_simp <;> exact rfl)); (focus (intro hb0; replace hb0 := hb0.out; go_simp <;> (first | exact rfl | exact gw | exact ⟨gw, rfl⟩))); intro KK hKK; go_simp; refine hKK _ ?_; clear hKK KK))
          refine hKK _ ?_
          rw [HST.out]
          go_simp
      · intro KK
        have h54 : ¬ ((5 : Nat) : Int) ≤ 4 := by decide
        rw [HK.out]
        cases ok
        · rw [if_pos (.inl rfl)]
          repeat' (first | (with_reducible first | refine vseq ?_ | refine vthenN ?_ | refine vthenE ?_ | refine vthenR ?_ | refine vret ?_ | refine vskip ?_ | refine vexit ?_ | refine vblock ?_ | refine vblockN ?_ | refine vblockR ?_ | refine vblockH ?_ | refine vrun_nil ?_ | refine vblockE rfl ?_ | refine vregion [] ?_ | refine vhrun_nil ?_) | ((with_reducible refine vcondT ?_ ?_); (focus (go_simp; done))) | ((with_reducible refine vcondF ?_ ?_); (focus (go_simp; done))) | ((with_reducible first | refine vrun_cons fun KK hKK => ?_ | refine vhrun_cons fun KK hKK => ?_); go_simp; refine hKK _ ?_; clear hKK KK) | ((refine vdrawL 6 6 [] rfl (by kernel_rfl) (by kernel_rfl) ?_); simp only [List.append, List.take, List.drop]) | ((refine vdrawL 14 14 [] rfl (by kernel_rfl) (by kernel_rfl) ?_); simp only [List.append, List.take, List.drop]) | ((with_reducible refine vcondS ?_ (fun ht => ?_) (fun ht => ?_)); (focus (go_simp; done)); (all_goals (simp [go_sem] at ht; replace ht := ht.out))) | ((apply vrun_consG0 rfl); (focus (go_simp <;> exact rfl)); (focus (go_simp; done)); (focus (intro hb0; replace hb0 := hb0.out; go_simp <;> (first | exact rfl))); intro KK hKK; go_simp; refine hKK _ ?_; clear hKK KK) | ((apply vhrun_consG0 rfl); (focus (go_simp <;> exact rfl)); (focus (intro hb0; replace hb0 := hb0.out; go_simp <;> (first | exact rfl))); intro KK hKK; go_simp; refine hKK _ ?_; clear hKK KK))
          go_simp
        · by_cases hk0 : K < 0
          · rw [if_pos (.inr hk0)]
            repeat' (first | (with_reducible first | refine vseq ?_ | refine vthenN ?_ | refine vthenE ?_ | refine vthenR ?_ | refine vret ?_ | refine vskip ?_ | refine vexit ?_ | refine vblock ?_ | refine vblockN ?_ | refine vblockR ?_ | refine vblockH ?_ | refine vrun_nil ?_ | refine vblockE rfl ?_ | refine vregion [] ?_ | refine vhrun_nil ?_) | ((with_reducible refine vcondT ?_ ?_); (focus (go_simp; done))) | ((with_reducible refine vcondF ?_ ?_); (focus (go_simp; done))) | ((with_reducible first | refine vrun_cons fun KK hKK => ?_ | refine vhrun_cons fun KK hKK => ?_); go_simp; refine hKK _ ?_; clear hKK KK) | ((refine vdrawL 6 6 [] rfl (by kernel_rfl) (by kernel_rfl) ?_); simp only [List.append, List.take, List.drop]) | ((refine vdrawL 14 14 [] rfl (by kernel_rfl) (by kernel_rfl) ?_); simp only [List.append, List.take, List.drop]) | ((with_reducible refine vcondS ?_ (fun ht => ?_) (fun ht => ?_)); (focus (go_simp; done)); (all_goals (simp [go_sem] at ht; replace ht := ht.out))) | ((apply vrun_consG0 rfl); (focus (go_simp <;> exact rfl)); (focus (go_simp; done)); (focus (intro hb0; replace hb0 := hb0.out; go_simp <;> (first | exact rfl))); intro KK hKK; go_simp; refine hKK _ ?_; clear hKK KK) | ((apply vhrun_consG0 rfl); (focus (go_simp <;> exact rfl)); (focus (intro hb0; replace hb0 := hb0.out; go_simp <;> (first | exact rfl))); intro KK hKK; go_simp; refine hKK _ ?_; clear hKK KK))
            go_simp
          · rw [if_neg (by simp; omega)]
            by_cases hE0 : E = 0
            · rw [if_neg (by simpa using hE0)]
              repeat' (first | (with_reducible first | refine vseq ?_ | refine vthenN ?_ | refine vthenE ?_ | refine vthenR ?_ | refine vret ?_ | refine vskip ?_ | refine vexit ?_ | refine vblock ?_ | refine vblockN ?_ | refine vblockR ?_ | refine vblockH ?_ | refine vrun_nil ?_ | refine vblockE rfl ?_ | refine vregion [] ?_ | refine vhrun_nil ?_) | ((with_reducible refine vcondT ?_ ?_); (focus (go_simp; done))) | ((with_reducible refine vcondF ?_ ?_); (focus (go_simp; done))) | ((with_reducible first | refine vrun_cons fun KK hKK => ?_ | refine vhrun_cons fun KK hKK => ?_); go_simp; (first | (refine ⟨_, G4.out, ?_⟩) | skip); refine hKK _ ?_; clear hKK KK) | ((with_reducible refine vcondS ?_ (fun ht => ?_) (fun ht => ?_)); (focus (go_simp; done)); (all_goals (simp [go_sem] at ht; replace ht := ht.out))) | ((apply vrun_consG0 rfl); (focus (go_simp <;> exact rfl)); (focus (go_simp; done)); (focus (intro hb0; replace hb0 := hb0.out; go_simp <;> (first | exact rfl | exact G4.out | exact ⟨G4.out, rfl⟩))); intro KK hKK; go_simp; refine hKK _ ?_; clear hKK KK) | ((apply vhrun_consG0 rfl); (focus (go_simp <;> exact rfl)); (focus (intro hb0; replace hb0 := hb0.out; go_simp <;> (first | exact rfl | exact G4.out | exact ⟨G4.out, rfl⟩))); intro KK hKK; go_simp; refine hKK _ ?_; clear hKK KK))
              refine vdrawA 13 [] [⟨12, 9, [.string ⟨#[]⟩, .int .i64 0, .int .i64 0, .string ⟨#[]⟩, .string ⟨#[]⟩], none, []⟩] (by kernel_rfl) (by kernel_rfl) (by kernel_rfl) (by go_simp) (by go_simp) ?_
              simp only [List.take, List.drop]
              repeat (first | (with_reducible first | refine vseq ?_ | refine vthenN ?_ | refine vthenE ?_ | refine vthenR ?_ | refine vret ?_ | refine vskip ?_ | refine vexit ?_ | refine vblock ?_ | refine vblockN ?_ | refine vblockR ?_ | refine vblockH ?_ | refine vrun_nil ?_ | refine vblockE rfl ?_ | refine vregion [] ?_ | refine vhrun_nil ?_) | ((with_reducible refine vcondT ?_ ?_); (focus (go_simp; done))) | ((with_reducible refine vcondF ?_ ?_); (focus (go_simp; done))) | ((with_reducible first | refine vrun_cons fun KK hKK => ?_ | refine vhrun_cons fun KK hKK => ?_); go_simp; refine hKK _ ?_; clear hKK KK) | (refine vha_skip rfl ?_) | ((with_reducible refine vha_cons rfl fun KK hKK => ?_); go_simp; refine hKK _ (by go_simp) ?_; clear hKK KK) | (with_reducible refine vha_nil ?_))
              refine ⟨by go_simp, ?_⟩
              simp only [slotS, slotE, Slot.end_, List.cons_append, List.nil_append]
              repeat' (first | (with_reducible first | refine vseq ?_ | refine vthenN ?_ | refine vthenE ?_ | refine vthenR ?_ | refine vret ?_ | refine vskip ?_ | refine vexit ?_ | refine vblock ?_ | refine vblockN ?_ | refine vblockR ?_ | refine vblockH ?_ | refine vrun_nil ?_ | refine vblockE rfl ?_ | refine vregion [] ?_ | refine vhrun_nil ?_) | ((with_reducible refine vcondT ?_ ?_); (focus (go_simp; done))) | ((with_reducible refine vcondF ?_ ?_); (focus (go_simp; done))) | ((with_reducible first | refine vrun_cons fun KK hKK => ?_ | refine vhrun_cons fun KK hKK => ?_); go_simp; (first | (refine ⟨_, G4.out, ?_⟩) | skip); refine hKK _ ?_; clear hKK KK) | ((refine vdrawL 6 6 [] rfl (by kernel_rfl) (by kernel_rfl) ?_); simp only [List.append, List.take, List.drop]) | ((refine vdrawL 14 14 [] rfl (by kernel_rfl) (by kernel_rfl) ?_); simp only [List.append, List.take, List.drop]) | ((with_reducible refine vcondS ?_ (fun ht => ?_) (fun ht => ?_)); (focus (go_simp; done)); (all_goals (simp [go_sem] at ht; replace ht := ht.out))) | ((apply vrun_consG0 rfl); (focus (go_simp <;> exact rfl)); (focus (go_simp; done)); (focus (intro hb0; replace hb0 := hb0.out; go_simp <;> (first | exact rfl | exact G4.out | exact ⟨G4.out, rfl⟩))); intro KK hKK; go_simp; refine hKK _ ?_; clear hKK KK) | ((apply vhrun_consG0 rfl); (focus (go_simp <;> exact rfl)); (focus (intro hb0; replace hb0 := hb0.out; go_simp <;> (first | exact rfl | exact G4.out | exact ⟨G4.out, rfl⟩))); intro KK hKK; go_simp; refine hKK _ ?_; clear hKK KK))
              go_simp
            · rw [if_pos hE0]
              repeat' (first | (with_reducible first | refine vseq ?_ | refine vthenN ?_ | refine vthenE ?_ | refine vthenR ?_ | refine vret ?_ | refine vskip ?_ | refine vexit ?_ | refine vblock ?_ | refine vblockN ?_ | refine vblockR ?_ | refine vblockH ?_ | refine vrun_nil ?_ | refine vblockE rfl ?_ | refine vregion [] ?_ | refine vhrun_nil ?_) | ((with_reducible refine vcondT ?_ ?_); (focus (go_simp; done))) | ((with_reducible refine vcondF ?_ ?_); (focus (go_simp; done))) | ((with_reducible first | refine vrun_cons fun KK hKK => ?_ | refine vhrun_cons fun KK hKK => ?_); go_simp; (first | (refine ⟨_, G4.out, ?_⟩) | skip); refine hKK _ ?_; clear hKK KK) | ((with_reducible refine vcondS ?_ (fun ht => ?_) (fun ht => ?_)); (focus (go_simp; done)); (all_goals (simp [go_sem] at ht; replace ht := ht.out))) | ((apply vrun_consG0 rfl); (focus (go_simp <;> exact rfl)); (focus (go_simp; done)); (focus (intro hb0; replace hb0 := hb0.out; go_simp <;> (first | exact rfl | exact G4.out | exact ⟨G4.out, rfl⟩))); intro KK hKK; go_simp; refine hKK _ ?_; clear hKK KK) | ((apply vhrun_consG0 rfl); (focus (go_simp <;> exact rfl)); (focus (intro hb0; replace hb0 := hb0.out; go_simp <;> (first | exact rfl | exact G4.out | exact ⟨G4.out, rfl⟩))); intro KK hKK; go_simp; refine hKK _ ?_; clear hKK KK))
              refine vdrawA 13 [] [⟨12, 9, [.string ⟨#[]⟩, .int .i64 0, .int .i64 0, .string ⟨#[]⟩, .string ⟨#[]⟩], none, []⟩] (by kernel_rfl) (by kernel_rfl) (by kernel_rfl) (by go_simp) (by go_simp) ?_
              simp only [List.take, List.drop]
              repeat (first | (with_reducible first | refine vseq ?_ | refine vthenN ?_ | refine vthenE ?_ | refine vthenR ?_ | refine vret ?_ | refine vskip ?_ | refine vexit ?_ | refine vblock ?_ | refine vblockN ?_ | refine vblockR ?_ | refine vblockH ?_ | refine vrun_nil ?_ | refine vblockE rfl ?_ | refine vregion [] ?_ | refine vhrun_nil ?_) | ((with_reducible refine vcondT ?_ ?_); (focus (go_simp; done))) | ((with_reducible refine vcondF ?_ ?_); (focus (go_simp; done))) | ((with_reducible first | refine vrun_cons fun KK hKK => ?_ | refine vhrun_cons fun KK hKK => ?_); go_simp; refine hKK _ ?_; clear hKK KK) | (refine vha_skip rfl ?_) | ((with_reducible refine vha_cons rfl fun KK hKK => ?_); go_simp; refine hKK _ (by go_simp) ?_; clear hKK KK) | (with_reducible refine vha_nil ?_))
              refine ⟨by go_simp, ?_⟩
              simp only [slotS, slotE, Slot.end_, List.cons_append, List.nil_append]
              repeat' (first | (with_reducible first | refine vseq ?_ | refine vthenN ?_ | refine vthenE ?_ | refine vthenR ?_ | refine vret ?_ | refine vskip ?_ | refine vexit ?_ | refine vblock ?_ | refine vblockN ?_ | refine vblockR ?_ | refine vblockH ?_ | refine vrun_nil ?_ | refine vblockE rfl ?_ | refine vregion [] ?_ | refine vhrun_nil ?_) | ((with_reducible refine vcondT ?_ ?_); (focus (go_simp; done))) | ((with_reducible refine vcondF ?_ ?_); (focus (go_simp; done))) | ((with_reducible first | refine vrun_cons fun KK hKK => ?_ | refine vhrun_cons fun KK hKK => ?_); go_simp; (first | (refine ⟨_, G4.out, ?_⟩) | skip); refine hKK _ ?_; clear hKK KK) | ((refine vdrawL 6 6 [] rfl (by kernel_rfl) (by kernel_rfl) ?_); simp only [List.append, List.take, List.drop]) | ((refine vdrawL 14 14 [] rfl (by kernel_rfl) (by kernel_rfl) ?_); simp only [List.append, List.take, List.drop]) | ((with_reducible refine vcondS ?_ (fun ht => ?_) (fun ht => ?_)); (focus (go_simp; done)); (all_goals (simp [go_sem] at ht; replace ht := ht.out))) | ((apply vrun_consG0 rfl); (focus (go_simp <;> exact rfl)); (focus (go_simp; done)); (focus (intro hb0; replace hb0 := hb0.out; go_simp <;> (first | exact rfl | exact G4.out | exact ⟨G4.out, rfl⟩))); intro KK hKK; go_simp; refine hKK _ ?_; clear hKK KK) | ((apply vhrun_consG0 rfl); (focus (go_simp <;> exact rfl)); (focus (intro hb0; replace hb0 := hb0.out; go_simp <;> (first | exact rfl | exact G4.out | exact ⟨G4.out, rfl⟩))); intro KK hKK; go_simp; refine hKK _ ?_; clear hKK KK))
              go_simp
    · rw [if_pos (.inr rfl)]
      rw [hE] at g2
      clear hz he hE
      refine VC_of Tryz.func28 rfl (by kernel_rfl) (by kernel_rfl) rfl fun M0 w0 => ?_
      simp only [Tryz.ntmps28, Tryz.results28, enumA]
      repeat' (first | (with_reducible first | refine vseq ?_ | refine vthenN ?_ | refine vthenE ?_ | refine vthenR ?_ | refine vret ?_ | refine vskip ?_ | refine vexit ?_ | refine vblock ?_ | refine vblockN ?_ | refine vblockR ?_ | refine vblockH ?_ | refine vrun_nil ?_ | refine vblockE rfl ?_ | refine vregion [] ?_ | refine vhrun_nil ?_) | ((with_reducible refine vcondT ?_ ?_); (focus (go_simp; done))) | ((with_reducible refine vcondF ?_ ?_); (focus (go_simp; done))) | ((with_reducible first | refine vrun_cons fun KK hKK => ?_ | refine vhrun_cons fun KK hKK => ?_); go_simp; (first | (with_reducible refine ⟨_, g1, ?_⟩) | (refine ⟨_, g2, ?_⟩) | skip); refine hKK _ ?_; clear hKK KK) | ((refine vdrawL 6 6 [] rfl (by kernel_rfl) (by kernel_rfl) ?_); simp only [List.append, List.take, List.drop]) | ((refine vdrawL 14 14 [] rfl (by kernel_rfl) (by kernel_rfl) ?_); simp only [List.append, List.take, List.drop]) | ((with_reducible refine vcondS ?_ (fun ht => ?_) (fun ht => ?_)); (focus (go_simp; done)); (all_goals (simp [go_sem] at ht; replace ht := ht.out))) | ((apply vrun_consG0 rfl); (focus (go_simp <;> exact rfl)); (focus (go_simp; done)); (focus (intro hb0; replace hb0 := hb0.out; go_simp <;> (first | exact rfl | exact g1 | exact g2 | exact ⟨g1, rfl⟩ | exact ⟨g2, rfl⟩))); intro KK hKK; go_simp; refine hKK _ ?_; clear hKK KK) | ((apply vhrun_consG0 rfl); (focus (go_simp <;> exact rfl)); (focus (intro hb0; replace hb0 := hb0.out; go_simp <;> (first | exact rfl | exact g1 | exact g2 | exact ⟨g1, rfl⟩ | exact ⟨g2, rfl⟩))); intro KK hKK; go_simp; refine hKK _ ?_; clear hKK KK))
      go_simp
  · rw [if_pos (.inl h5)]
    have h5i : ¬ (w.length : Int) = 5 := by omega
    clear hz he
    refine VC_of Tryz.func28 rfl (by kernel_rfl) (by kernel_rfl) rfl fun M0 w0 => ?_
    simp only [Tryz.ntmps28, Tryz.results28, enumA]
    repeat' (first | (with_reducible first | refine vseq ?_ | refine vthenN ?_ | refine vthenE ?_ | refine vthenR ?_ | refine vret ?_ | refine vskip ?_ | refine vexit ?_ | refine vblock ?_ | refine vblockN ?_ | refine vblockR ?_ | refine vblockH ?_ | refine vrun_nil ?_ | refine vblockE rfl ?_ | refine vregion [] ?_ | refine vhrun_nil ?_) | ((with_reducible refine vcondT ?_ ?_); (focus (go_simp; done))) | ((with_reducible refine vcondF ?_ ?_); (focus (go_simp; done))) | ((with_reducible first | refine vrun_cons fun KK hKK => ?_ | refine vhrun_cons fun KK hKK => ?_); go_simp; (first | (with_reducible refine ⟨_, g1, ?_⟩) | skip); refine hKK _ ?_; clear hKK KK) | ((refine vdrawL 6 6 [] rfl (by kernel_rfl) (by kernel_rfl) ?_); simp only [List.append, List.take, List.drop]) | ((refine vdrawL 14 14 [] rfl (by kernel_rfl) (by kernel_rfl) ?_); simp only [List.append, List.take, List.drop]) | ((with_reducible refine vcondS ?_ (fun ht => ?_) (fun ht => ?_)); (focus (go_simp; done)); (all_goals (simp [go_sem] at ht; replace ht := ht.out))) | ((apply vrun_consG0 rfl); (focus (go_simp <;> exact rfl)); (focus (go_simp; done)); (focus (intro hb0; replace hb0 := hb0.out; go_simp <;> (first | exact rfl | exact g1 | exact ⟨g1, rfl⟩))); intro KK hKK; go_simp; refine hKK _ ?_; clear hKK KK) | ((apply vhrun_consG0 rfl); (focus (go_simp <;> exact rfl)); (focus (intro hb0; replace hb0 := hb0.out; go_simp <;> (first | exact rfl | exact g1 | exact ⟨g1, rfl⟩))); intro KK hKK; go_simp; refine hKK _ ?_; clear hKK KK))
    go_simp
end Go.Proofs.YthbgghmjbaldlaaGreatDoor

/-! QU4: Walks on plain values: texts of items, as the reference has them, and whether items are the same; texts of at most 1000 bytes. -/
namespace Go.Proofs.YthbgghmjbaldlaaGreatDoor
open Go.RowKit
set_option maxRecDepth 100000
set_option maxHeartbeats 1000000
def itTo (x : Item) : Nat → ByteArray
  | 0 => x.name ++ ⟨#[32]⟩ ++ decT x.day ++ ⟨#[32]⟩ ++ x.who
  | k + 1 => itTo x k ++ ⟨#[32]⟩ ++ (mat x.marks k).key ++ ⟨#[61]⟩ ++ (mat x.marks k).value
theorem itTo_size {x : Item} (h : SmallI x) (hd : -9223372036854775808 ≤ x.day ∧ x.day ≤ 9223372036854775807) : ∀ k, k ≤ x.marks.length → (itTo x k).size ≤ 3000 + 3000 * k
  | 0, _ => by
    have s1 := decT_size x.day hd
    have s2 := h.name
    have s3 := h.who
    have e : (⟨#[32]⟩ : ByteArray).size = 1 := rfl
    simp only [itTo, app_size, e]
    omega
  | k + 1, hk => by
    have ih := itTo_size h hd k (by omega)
    have hm := h.marks.at_ (k := k) (by omega)
    rw [← mat_get (show k < x.marks.length by omega)] at hm
    have e : (⟨#[32]⟩ : ByteArray).size = 1 := rfl
    have e2 : (⟨#[61]⟩ : ByteArray).size = 1 := rfl
    simp only [itTo, app_size, e, e2]
    omega
theorem r_FormatItem (x : Item) (h : SmallI x) (hd : -9223372036854775808 ≤ x.day ∧ x.day ≤ 9223372036854775807) : VC Tryz.prog 37 [itemA x] (S (itTo x x.marks.length)) := by
  have g2 := b_Decimal x.day hd
  have s1 := decT_size x.day hd
  have s2 := h.name
  have s3 := h.who
  have hfew := h.few
  have hs1 : (⟨#[32]⟩ : ByteArray).size = 1 := rfl
  have hs2 : (⟨#[61]⟩ : ByteArray).size = 1 := rfl
  have H := Lib.hid h
  have HD := Lib.hid hd
  have e0 : itTo x 0 = x.name ++ ⟨#[32]⟩ ++ decT x.day ++ ⟨#[32]⟩ ++ x.who := rfl
  have z1 : x.name.size + 1 ≤ 9223372036854775807 := by omega
  have z2 : x.name.size + 1 + (decT x.day).size ≤ 9223372036854775807 := by omega
  have z3 : x.name.size + 1 + (decT x.day).size + 1 ≤ 9223372036854775807 := by omega
  have z4 : x.name.size + 1 + (decT x.day).size + 1 + x.who.size ≤ 9223372036854775807 := by omega
  clear h hd s1 s2 s3
  refine VC_of Tryz.func37 rfl (by kernel_rfl) (by kernel_rfl) rfl fun M0 w0 => ?_
  simp only [Tryz.ntmps37, Tryz.results37, enumA]
  repeat' (first | (with_reducible first | refine vseq ?_ | refine vthenN ?_ | refine vthenE ?_ | refine vthenR ?_ | refine vret ?_ | refine vskip ?_ | refine vexit ?_ | refine vblock ?_ | refine vblockN ?_ | refine vblockR ?_ | refine vblockH ?_ | refine vrun_nil ?_ | refine vblockE rfl ?_ | refine vregion [] ?_ | refine vhrun_nil ?_) | ((with_reducible refine vcondT ?_ ?_); (focus (go_simp; done))) | ((with_reducible refine vcondF ?_ ?_); (focus (go_simp; done))) | ((with_reducible first | refine vrun_cons fun KK hKK => ?_ | refine vhrun_cons fun KK hKK => ?_); go_simp; (first | (with_reducible refine ⟨_, g2, ?_⟩) | skip); refine hKK _ ?_; clear hKK KK) | ((refine vdrawL 12 12 [] rfl (by kernel_rfl) (by kernel_rfl) ?_); simp only [List.take, List.drop]) | ((refine vdrawL 18 17 [] rfl (by kernel_rfl) (by kernel_rfl) ?_); simp only [List.append, List.take, List.drop]) | ((with_reducible refine vcondS ?_ (fun ht => ?_) (fun ht => ?_)); (focus (go_simp; done)); (all_goals (simp [go_sem] at ht; replace ht := ht.out))))
  apply vcnt [1] (fun k => [(3, S (itTo x k)), (4, I (k : Int))]) (fun k => ([] : Hp))  (x.marks.length)
  · go_simp <;> exact rfl
  · go_simp
  · intro k hk K hK
    obtain ⟨w1, w2, w3, w4, w5, w6⟩ := ixs (m := k) (by omega)
    have hsz := itTo_size H.out HD.out k (by omega)
    have hm := H.out.marks.at_ hk
    have hst : itTo x (k + 1) = itTo x k ++ ⟨#[32]⟩ ++ x.marks[k].key ++ ⟨#[61]⟩ ++ x.marks[k].value := by rw [itTo, mat_get hk]
    generalize itTo x k = T at *
    have HST := Lib.hid hst
    have y1 : T.size + 1 ≤ 9223372036854775807 := by omega
    have y2 : T.size + 1 + x.marks[k].key.size ≤ 9223372036854775807 := by omega
    have y3 : T.size + 1 + x.marks[k].key.size + 1 ≤ 9223372036854775807 := by omega
    have y4 : T.size + 1 + x.marks[k].key.size + 1 + x.marks[k].value.size ≤ 9223372036854775807 := by omega
    clear hst hsz hm e0 z1 z2 z3 z4
    repeat' (first | (with_reducible first | refine vseq ?_ | refine vthenN ?_ | refine vthenE ?_ | refine vthenR ?_ | refine vret ?_ | refine vskip ?_ | refine vexit ?_ | refine vblock ?_ | refine vblockN ?_ | refine vblockR ?_ | refine vblockH ?_ | refine vrun_nil ?_ | refine vblockE rfl ?_ | refine vregion [] ?_ | refine vhrun_nil ?_) | ((with_reducible refine vcondT ?_ ?_); (focus (go_simp; done))) | ((with_reducible refine vcondF ?_ ?_); (focus (go_simp; done))) | ((with_reducible first | refine vrun_cons fun KK hKK => ?_ | refine vhrun_cons fun KK hKK => ?_); go_simp; refine hKK _ ?_; clear hKK KK) | ((refine vdrawL 12 12 [] rfl (by kernel_rfl) (by kernel_rfl) ?_); simp only [List.append, List.take, List.drop]) | ((refine vdrawL 18 17 [] rfl (by kernel_rfl) (by kernel_rfl) ?_); simp only [List.take, List.drop]) | ((with_reducible refine vcondS ?_ (fun ht => ?_) (fun ht => ?_)); (focus (go_simp; done)); (all_goals (simp [go_sem] at ht; replace ht := ht.out))))
    refine hK _ ?_
    rw [HST.out]
    go_simp
  · intro K
    clear e0
    repeat' (first | (with_reducible first | refine vseq ?_ | refine vthenN ?_ | refine vthenE ?_ | refine vthenR ?_ | refine vret ?_ | refine vskip ?_ | refine vexit ?_ | refine vblock ?_ | refine vblockN ?_ | refine vblockR ?_ | refine vblockH ?_ | refine vrun_nil ?_ | refine vblockE rfl ?_ | refine vregion [] ?_ | refine vhrun_nil ?_) | ((with_reducible refine vcondT ?_ ?_); (focus (go_simp; done))) | ((with_reducible refine vcondF ?_ ?_); (focus (go_simp; done))) | ((with_reducible first | refine vrun_cons fun KK hKK => ?_ | refine vhrun_cons fun KK hKK => ?_); go_simp; refine hKK _ ?_; clear hKK KK) | ((refine vdrawL 12 12 [] rfl (by kernel_rfl) (by kernel_rfl) ?_); simp only [List.append, List.take, List.drop]) | ((refine vdrawL 18 17 [] rfl (by kernel_rfl) (by kernel_rfl) ?_); simp only [List.append, List.take, List.drop]) | ((with_reducible refine vcondS ?_ (fun ht => ?_) (fun ht => ?_)); (focus (go_simp; done)); (all_goals (simp [go_sem] at ht; replace ht := ht.out))))
    go_simp
end Go.Proofs.YthbgghmjbaldlaaGreatDoor
