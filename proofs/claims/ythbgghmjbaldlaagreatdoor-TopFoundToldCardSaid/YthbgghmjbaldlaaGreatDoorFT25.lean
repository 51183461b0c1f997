/- Texts in one: Walks on plain values: items that are read, as the reference reads them; texts of at most 900 bytes. -/
import Derived.Test.YthbgghmjbaldlaaGreatDoorFT23
import Derived.Test.YthbgghmjbaldlaaGreatDoorFT24
/-! QU5: Walks on plain values: items that are read, as the reference reads them; texts of at most 900 bytes. -/
namespace Go.Proofs.YthbgghmjbaldlaaGreatDoor
open Go.RowKit
set_option maxRecDepth 100000
set_option maxHeartbeats 1000000
theorem b_Cut61 (s : ByteArray) (hs : s.size ≤ 1000000) : VC Tryz.prog 84 [S s, .lit (.int .u8 61)] (txtsA (pieces 61 s)) := b_CutP s 61 hs
/-- The mark that a word tells, if it is two words around one '='. -/
def okMk (p : ByteArray) : Bool := !(decide ((pieces 61 p).length ≠ 2) || decide (tat (pieces 61 p) 0 = ⟨#[]⟩) || decide (tat (pieces 61 p) 1 = ⟨#[]⟩))
def mkOf (p : ByteArray) : Mark := ⟨tat (pieces 61 p) 0, tat (pieces 61 p) 1⟩
def badMk (w : List ByteArray) (k : Nat) : Bool := !okMk (tat w (k + 3))
def mksTo (w : List ByteArray) (k : Nat) : List Mark := ((w.drop 3).take k).map mkOf
@[go_sem] theorem mksTo_0 (w : List ByteArray) : mksTo w 0 = [] := rfl
theorem mksTo_s {w : List ByteArray} {k : Nat} (h : k + 3 < w.length) : mksTo w (k + 1) = mksTo w k ++ [mkOf (tat w (k + 3))] := by
  unfold mksTo
  have e : (w.drop 3)[k]? = some (tat w (k + 3)) := by
    rw [List.getElem?_drop, show 3 + k = k + 3 by omega]
    unfold tat
    rw [List.getElem?_eq_getElem h, List.getD, List.getElem?_eq_getElem h]
    rfl
  rw [List.take_add_one, e]
  simp
theorem mksTo_len {w : List ByteArray} {k : Nat} (h : k + 3 ≤ w.length) : (mksTo w k).length = k := by
  unfold mksTo
  simp
  omega
theorem mksTo_all {w : List ByteArray} : mksTo w (w.length - 3) = (w.drop 3).map mkOf := by
  unfold mksTo
  rw [List.take_of_length_le (by simp)]
@[go_sem] def zeroIt : Item := ⟨⟨#[]⟩, 0, ⟨#[]⟩, []⟩
def itemOf (w : List ByteArray) : Item := ⟨tat w 0, (numR (numT (tat w 1).data.toList)).1, tat w 2, mksTo w (w.length - 3)⟩
/-- The item that words tell, or the error. -/
def readIt (w : List ByteArray) : Item × Int :=
  if w.length < 3 ∨ hasEmpty w = true then (zeroIt, 7) else
  if (numR (numT (tat w 1).data.toList)).2 = false then (zeroIt, 7) else
  if anyP (badMk w) 0 (w.length - 3) = true then (zeroIt, 7) else
  if thingErr (itemOf w) ≠ 0 then (zeroIt, thingErr (itemOf w)) else (itemOf w, 0)
theorem itemOf_small {w : List ByteArray} (hl : w.length ≤ 901) (h : ∀ p ∈ w, p.size ≤ 900) : SmallI (itemOf w) := by
  have ht : ∀ k, (tat w k).size ≤ 900 := fun k => by
    by_cases hk : k < w.length
    · rw [tat_get hk]
      exact h _ (List.getElem_mem hk)
    · unfold tat
      rw [List.getD, List.getElem?_eq_none (by omega)]
      decide
  have hp : ∀ (p : ByteArray) (k : Nat), p.size ≤ 900 → (tat (pieces 61 p) k).size ≤ 900 := fun p k hp => by
    by_cases hk : k < (pieces 61 p).length
    · rw [tat_get hk]
      have := pieces_size (List.getElem_mem hk)
      omega
    · unfold tat
      rw [List.getD, List.getElem?_eq_none (by omega)]
      decide
  refine ⟨by have := ht 0; simp only [itemOf]; omega, by have := ht 2; simp only [itemOf]; omega, ?_, fun m hm => ?_⟩
  · simp only [itemOf]
    unfold mksTo
    simp
    omega
  · simp only [itemOf] at hm
    unfold mksTo at hm
    obtain ⟨p, hpm, rfl⟩ := List.mem_map.1 hm
    have hpw := h p (List.mem_of_mem_drop (List.mem_of_mem_take hpm))
    have h0 := hp p 0 hpw
    have h1 := hp p 1 hpw
    constructor <;> (simp only [mkOf]; omega)
/-- An item that is read, or no item, as a result. -/
@[go_sem] def itRes (r : Item × Int) : AV := .tup [.agg (if r.2 = 0 then r.1.av else [S ⟨#[]⟩, I 0, S ⟨#[]⟩, nil_]), I r.2]
theorem r_ParseItem (s : ByteArray) (hs : s.size ≤ 900) : VC Tryz.prog 36 [S s] (itRes (readIt (pieces 32 s))) := by
  have g1 := b_Cut32 s (by omega)
  have hl := pieces_len 32 s
  have hz : ∀ p ∈ pieces 32 s, p.size ≤ 900 := fun p hp => by have := pieces_size hp; omega
  generalize pieces 32 s = w at *
  have g2 := b_HasText w ⟨#[]⟩ (by omega)
  have he : anyP (isT w ⟨#[]⟩) 0 w.length = hasEmpty w := rfl
  rw [he] at g2
  unfold readIt
  by_cases h3 : w.length < 3
  · rw [if_pos (.inl h3)]
    have h3i : (w.length : Int) < 3 := by omega
    clear hz he
    refine VC_of Tryz.func36 rfl (by kernel_rfl) (by kernel_rfl) rfl fun M0 w0 => ?_
    simp only [Tryz.ntmps36, Tryz.results36, enumA]
    repeat' (first | (with_reducible first | refine vseq ?_ | refine vthenN ?_ | refine vthenE ?_ | refine vthenR ?_ | refine vret ?_ | refine vskip ?_ | refine vexit ?_ | refine vblock ?_ | refine vblockN ?_ | refine vblockR ?_ | refine vblockH ?_ | refine vrun_nil ?_ | refine vblockE rfl ?_ | refine vregion [] ?_ | refine vhrun_nil ?_) | ((with_reducible refine vcondT ?_ ?_); (focus (go_simp; done))) | ((with_reducible refine vcondF ?_ ?_); (focus (go_simp; done))) | ((with_reducible first | refine vrun_cons fun KK hKK => ?_ | refine vhrun_cons fun KK hKK => ?_); go_simp; (first | (with_reducible refine ⟨_, g1, ?_⟩) | skip); refine hKK _ ?_; clear hKK KK) | ((refine vdrawL 10 10 [] rfl (by kernel_rfl) (by kernel_rfl) ?_); simp only [List.append, List.take, List.drop]) | ((refine vdrawL 13 10 [] rfl (by kernel_rfl) (by kernel_rfl) ?_); simp only [List.append, List.take, List.drop]) | ((with_reducible refine vcondS ?_ (fun ht => ?_) (fun ht => ?_)); (focus (go_simp; done)); (all_goals (simp [go_sem] at ht; replace ht := ht.out))) | ((apply vrun_consG0 rfl); (focus (go_simp <;> exact rfl)); (focus (go_simp; done)); (focus (intro hb0; replace hb0 := hb0.out; go_simp <;> (first | exact rfl | exact g1 | exact ⟨g1, rfl⟩))); intro KK hKK; go_simp; refine hKK _ ?_; clear hKK KK) | ((apply vhrun_consG0 rfl); (focus (go_simp <;> exact rfl)); (focus (intro hb0; replace hb0 := hb0.out; go_simp <;> (first | exact rfl | exact g1 | exact ⟨g1, rfl⟩))); intro KK hKK; go_simp; refine hKK _ ?_; clear hKK KK))
    go_simp
  · have h3i : ¬ (w.length : Int) < 3 := by omega
    cases hE : hasEmpty w
    · rw [if_neg (by simp; omega)]
      rw [hE] at g2
      have hsm := itemOf_small (w := w) (by omega) hz
      have g4 := r_CheckItem _ hsm
      have l0 : 0 < w.length := by omega
      have l1 : 1 < w.length := by omega
      have l2 : 2 < w.length := by omega
      have q0 : w[0] = tat w 0 := (tat_get l0).symm
      have q1 : w[1] = tat w 1 := (tat_get l1).symm
      have q2 : w[2] = tat w 2 := (tat_get l2).symm
      have g3 := b_Number (tat w 1) (by have := hz w[1] (List.getElem_mem l1); rw [q1] at this; omega)
      unfold itemOf at *
      generalize tat w 0 = a at *
      generalize tat w 1 = b at *
      generalize tat w 2 = c at *
      generalize numR (numT b.data.toList) = N at *
      obtain ⟨n, ok⟩ := N
      simp only at g3 g4 hsm ⊢
      generalize thingErr ⟨a, n, c, mksTo w (w.length - 3)⟩ = E at *
      clear hsm
      cases ok
      · rw [if_pos rfl]
        clear hz
        refine VC_of Tryz.func36 rfl (by kernel_rfl) (by kernel_rfl) rfl fun M0 w0 => ?_
        simp only [Tryz.ntmps36, Tryz.results36, enumA]
        repeat' (first | (with_reducible first | refine vseq ?_ | refine vthenN ?_ | refine vthenE ?_ | refine vthenR ?_ | refine vret ?_ | refine vskip ?_ | refine vexit ?_ | refine vblock ?_ | refine vblockN ?_ | refine vblockR ?_ | refine vblockH ?_ | refine vrun_nil ?_ | refine vblockE rfl ?_ | refine vregion [] ?_ | refine vhrun_nil ?_) | ((with_reducible refine vcondT ?_ ?_); (focus (go_simp; done))) | ((with_reducible refine vcondF ?_ ?_); (focus (go_simp; done))) | ((with_reducible first | refine vrun_cons fun KK hKK => ?_ | refine vhrun_cons fun KK hKK => ?_); go_simp; (first | (refine ⟨_, g1, ?_⟩) | (refine ⟨_, g2, ?_⟩) | (with_reducible refine ⟨_, g3, ?_⟩) | skip); refine hKK _ ?_; clear hKK KK) | ((refine vdrawL 10 10 [] rfl (by kernel_rfl) (by kernel_rfl) ?_); simp only [List.append, List.take, List.drop]) | ((refine vdrawL 13 10 [] rfl (by kernel_rfl) (by kernel_rfl) ?_); simp only [List.append, List.take, List.drop]) | ((with_reducible refine vcondS ?_ (fun ht => ?_) (fun ht => ?_)); (focus (go_simp; done)); (all_goals (simp [go_sem] at ht; replace ht := ht.out))) | ((apply vrun_consG0 rfl); (focus (go_simp <;> exact rfl)); (focus (go_simp; done)); (focus (intro hb0; replace hb0 := hb0.out; go_simp <;> (first | exact rfl | exact g1 | exact g2 | exact g3 | exact ⟨g1, rfl⟩ | exact ⟨g2, rfl⟩ | exact ⟨g3, rfl⟩))); intro KK hKK; go_simp; refine hKK _ ?_; clear hKK KK) | ((apply vhrun_consG0 rfl); (focus (go_simp <;> exact rfl)); (focus (intro hb0; replace hb0 := hb0.out; go_simp <;> (first | exact rfl | exact g1 | exact g2 | exact g3 | exact ⟨g1, rfl⟩ | exact ⟨g2, rfl⟩ | exact ⟨g3, rfl⟩))); intro KK hKK; go_simp; refine hKK _ ?_; clear hKK KK))
        go_simp
      · rw [if_neg (by simp)]
        obtain ⟨R, hR⟩ : ∃ R, (if anyP (badMk w) 0 (w.length - 3) = true then (zeroIt, (7 : Int)) else if E ≠ 0 then (zeroIt, E) else (⟨a, n, c, mksTo w (w.length - 3)⟩, 0)) = R := ⟨_, rfl⟩
        rw [hR]
        have HR := Lib.hid hR
        have G4 := Lib.hid g4
        have HZ := Lib.hid hz
        clear hR g4 he hE hz
        refine VC_of Tryz.func36 rfl (by kernel_rfl) (by kernel_rfl) rfl fun M0 w0 => ?_
        simp only [Tryz.ntmps36, Tryz.results36, enumA]
        repeat' (first | (with_reducible first | refine vseq ?_ | refine vthenN ?_ | refine vthenE ?_ | refine vthenR ?_ | refine vret ?_ | refine vskip ?_ | refine vexit ?_ | refine vblock ?_ | refine vblockN ?_ | refine vblockR ?_ | refine vblockH ?_ | refine vrun_nil ?_ | refine vblockE rfl ?_ | refine vregion [] ?_ | refine vhrun_nil ?_) | ((with_reducible refine vcondT ?_ ?_); (focus (go_simp; done))) | ((with_reducible refine vcondF ?_ ?_); (focus (go_simp; done))) | ((with_reducible first | refine vrun_cons fun KK hKK => ?_ | refine vhrun_cons fun KK hKK => ?_); go_simp; (first | (refine ⟨_, g1, ?_⟩) | (refine ⟨_, g2, ?_⟩) | (with_reducible refine ⟨_, g3, ?_⟩) | skip); refine hKK _ ?_; clear hKK KK) | ((with_reducible refine vcondS ?_ (fun ht => ?_) (fun ht => ?_)); (focus (go_simp; done)); (all_goals (simp [go_sem] at ht; replace ht := ht.out))) | ((apply vrun_consG0 rfl); (focus (go_simp <;> exact rfl)); (focus (go_simp; done)); (focus (intro hb0; replace hb0 := hb0.out; go_simp <;> (first | exact rfl | exact g1 | exact g2 | exact g3 | exact ⟨g1, rfl⟩ | exact ⟨g2, rfl⟩ | exact ⟨g3, rfl⟩))); intro KK hKK; go_simp; refine hKK _ ?_; clear hKK KK) | ((apply vhrun_consG0 rfl); (focus (go_simp <;> exact rfl)); (focus (intro hb0; replace hb0 := hb0.out; go_simp <;> (first | exact rfl | exact g1 | exact g2 | exact g3 | exact ⟨g1, rfl⟩ | exact ⟨g2, rfl⟩ | exact ⟨g3, rfl⟩))); intro KK hKK; go_simp; refine hKK _ ?_; clear hKK KK))
        refine vdrawA 9 [] [⟨8, 7, [.string ⟨#[]⟩, .int .i64 0, .string ⟨#[]⟩, .slice none 0 0], none, []⟩] (by kernel_rfl) (by kernel_rfl) (by kernel_rfl) (by go_simp) (by go_simp) ?_
        simp only [List.take, List.drop]
        repeat (first | (with_reducible first | refine vseq ?_ | refine vthenN ?_ | refine vthenE ?_ | refine vthenR ?_ | refine vret ?_ | refine vskip ?_ | refine vexit ?_ | refine vblock ?_ | refine vblockN ?_ | refine vblockR ?_ | refine vblockH ?_ | refine vrun_nil ?_ | refine vblockE rfl ?_ | refine vregion [] ?_ | refine vhrun_nil ?_) | ((with_reducible refine vcondT ?_ ?_); (focus (go_simp; done))) | ((with_reducible refine vcondF ?_ ?_); (focus (go_simp; done))) | ((with_reducible first | refine vrun_cons fun KK hKK => ?_ | refine vhrun_cons fun KK hKK => ?_); go_simp; refine hKK _ ?_; clear hKK KK) | (refine vha_skip rfl ?_) | ((with_reducible refine vha_cons rfl fun KK hKK => ?_); go_simp; refine hKK _ (by go_simp) ?_; clear hKK KK) | (with_reducible refine vha_nil ?_))
        refine ⟨by go_simp, ?_⟩
        simp only [slotS, slotE, Slot.end_, List.cons_append, List.nil_append]
        repeat' (first | (with_reducible first | refine vseq ?_ | refine vthenN ?_ | refine vthenE ?_ | refine vthenR ?_ | refine vret ?_ | refine vskip ?_ | refine vexit ?_ | refine vblock ?_ | refine vblockN ?_ | refine vblockR ?_ | refine vblockH ?_ | refine vrun_nil ?_ | refine vblockE rfl ?_ | refine vregion [] ?_ | refine vhrun_nil ?_) | ((with_reducible refine vcondT ?_ ?_); (focus (go_simp; done))) | ((with_reducible refine vcondF ?_ ?_); (focus (go_simp; done))) | ((with_reducible first | refine vrun_cons fun KK hKK => ?_ | refine vhrun_cons fun KK hKK => ?_); go_simp; refine hKK _ ?_; clear hKK KK) | ((refine vdrawL 10 10 [] rfl (by kernel_rfl) (by kernel_rfl) ?_); simp only [List.append, List.take, List.drop]) | ((refine vdrawL 13 10 [] rfl (by kernel_rfl) (by kernel_rfl) ?_); simp only [List.append, List.take, List.drop]) | ((with_reducible refine vcondS ?_ (fun ht => ?_) (fun ht => ?_)); (focus (go_simp; done)); (all_goals (simp [go_sem] at ht; replace ht := ht.out))) | ((apply vrun_consG0 rfl); (focus (go_simp <;> exact rfl)); (focus (go_simp; done)); (focus (intro hb0; replace hb0 := hb0.out; go_simp <;> (first | exact rfl))); intro KK hKK; go_simp; refine hKK _ ?_; clear hKK KK) | ((apply vhrun_consG0 rfl); (focus (go_simp <;> exact rfl)); (focus (intro hb0; replace hb0 := hb0.out; go_simp <;> (first | exact rfl))); intro KK hKK; go_simp; refine hKK _ ?_; clear hKK KK))
        refine vconv (fun p a w R => ⟨_, Rel.nilCell R (bi := 1) (j := 3) (e := 134) (sz := 2) rfl rfl (by decide)⟩) ?_
        simp only [List.length_cons, List.length_nil, List.set, List.cons_append, List.nil_append]
        apply vfor [2, 4, 7] (fun k => [(8, I ((k : Int) + 3))]) (fun k => ([some (.box [S ⟨#[]⟩, I 0, S ⟨#[]⟩, nil_]), some (.box [S a, I n, S c, .osl 2]), some (.arr 134 2 (decide (mksTo w k = [])) ((mksTo w k).map Mark.av))] : Hp)) (badMk w) (w.length - 3)
        · go_simp <;> exact rfl
        · go_simp
        · intro k hk HB HP K hK
          have hk3 : k + 3 < w.length := by omega
          have x1 : (k : Int) + 3 < w.length := by omega
          have x2 : ((k : Int) + 3).toNat = k + 3 := by omega
          have x3 : (0 : Int) ≤ (k : Int) + 3 := by omega
          have x4 := wrap_eq (x := (k : Int) + 3 + 1) (by omega) (by omega)
          have qk : w[k + 3] = tat w (k + 3) := (tat_get hk3).symm
          have gc := b_Cut61 (tat w (k + 3)) (by have := HZ.out w[k + 3] (List.getElem_mem hk3); rw [qk] at this; omega)
          have hm := mksTo_s hk3
          have hml := mksTo_len (w := w) (k := k) (by omega)
          have hok : okMk (tat w (k + 3)) = true := by have := HP.out; simpa [badMk] using this
          unfold okMk mkOf at *
          generalize pieces 61 (tat w (k + 3)) = l at *
          generalize tat w (k + 3) = p at *
          simp only [Bool.not_eq_true', Bool.or_eq_false_iff, decide_eq_false_iff_not, ne_eq, Decidable.not_not] at hok
          obtain ⟨⟨z1, z2⟩, z3⟩ := hok
          obtain ⟨u, v, rfl⟩ : ∃ u v, l = [u, v] := by
            match l, z1 with
            | [u, v], _ => exact ⟨u, v, rfl⟩
          simp only [tat, List.getD_cons_zero, List.getD_cons_succ] at z2 z3 hm
          generalize mksTo w k = ms at *
          have HM := Lib.hid hm
          have hb : ms.length + 1 ≤ 1000000000 := by omega
          clear hm hml
          repeat' (first | (with_reducible first | refine vseq ?_ | refine vthenN ?_ | refine vthenE ?_ | refine vthenR ?_ | refine vret ?_ | refine vskip ?_ | refine vexit ?_ | refine vblock ?_ | refine vblockN ?_ | refine vblockR ?_ | refine vblockH ?_ | refine vrun_nil ?_ | refine vblockE rfl ?_ | refine vregion [] ?_ | refine vhrun_nil ?_) | ((with_reducible refine vcondT ?_ ?_); (focus (go_simp; done))) | ((with_reducible refine vcondF ?_ ?_); (focus (go_simp; done))) | ((with_reducible first | refine vrun_cons fun KK hKK => ?_ | refine vhrun_cons fun KK hKK => ?_); go_simp; (first | (refine ⟨_, gc, ?_⟩) | skip); refine hKK _ ?_; clear hKK KK) | ((refine vdrawL 10 10 [] rfl (by kernel_rfl) (by kernel_rfl) ?_); simp only [List.append, List.take, List.drop]) | ((refine vdrawL 13 10 [] rfl (by kernel_rfl) (by kernel_rfl) ?_); simp only [List.take, List.drop]) | ((with_reducible refine vcondS ?_ (fun ht => ?_) (fun ht => ?_)); (focus (go_simp; done)); (all_goals (simp [go_sem] at ht; replace ht := ht.out))) | ((apply vrun_consG0 rfl); (focus (go_simp <;> exact rfl)); (focus (go_simp; done)); (focus (intro hb0; replace hb0 := hb0.out; go_simp <;> (first | exact rfl | exact gc | exact ⟨gc, rfl⟩))); intro KK hKK; go_simp; refine hKK _ ?_; clear hKK KK) | ((apply vhrun_consG0 rfl); (focus (go_simp <;> exact rfl)); (focus (intro hb0; replace hb0 := hb0.out; go_simp <;> (first | exact rfl | exact gc | exact ⟨gc, rfl⟩))); intro KK hKK; go_simp; refine hKK _ ?_; clear hKK KK))
          refine hK _ ?_
          rw [HM.out, show ((k + 1 : Nat) : Int) + 3 = (k : Int) + 3 + 1 by omega]
          go_simp
        · intro k hk HB HP K
          have hk3 : k + 3 < w.length := by omega
          have x1 : (k : Int) + 3 < w.length := by omega
          have x2 : ((k : Int) + 3).toNat = k + 3 := by omega
          have x3 : (0 : Int) ≤ (k : Int) + 3 := by omega
          have qk : w[k + 3] = tat w (k + 3) := (tat_get hk3).symm
          have gc := b_Cut61 (tat w (k + 3)) (by have := HZ.out w[k + 3] (List.getElem_mem hk3); rw [qk] at this; omega)
          have hr := HR.out
          rw [if_pos (anyP_hit hk HP.out)] at hr
          subst hr
          have hok : okMk (tat w (k + 3)) = false := by have := HP.out; simpa [badMk] using this
          unfold okMk at hok
          generalize pieces 61 (tat w (k + 3)) = l at *
          generalize tat w (k + 3) = p at *
          generalize mksTo w k = ms at *
          clear HR HZ G4
          by_cases h2 : l.length = 2
          · obtain ⟨u, v, rfl⟩ : ∃ u v, l = [u, v] := by
              match l, h2 with
              | [u, v], _ => exact ⟨u, v, rfl⟩
            simp only [tat, List.getD_cons_zero, List.getD_cons_succ, List.length_cons, List.length_nil] at hok
            by_cases hu : u = ⟨#[]⟩
            · clear hok
              repeat' (first | (with_reducible first | refine vseq ?_ | refine vthenN ?_ | refine vthenE ?_ | refine vthenR ?_ | refine vret ?_ | refine vskip ?_ | refine vexit ?_ | refine vblock ?_ | refine vblockN ?_ | refine vblockR ?_ | refine vblockH ?_ | refine vrun_nil ?_ | refine vblockE rfl ?_ | refine vregion [] ?_ | refine vhrun_nil ?_) | ((with_reducible refine vcondT ?_ ?_); (focus (go_simp; done))) | ((with_reducible refine vcondF ?_ ?_); (focus (go_simp; done))) | ((with_reducible first | refine vrun_cons fun KK hKK => ?_ | refine vhrun_cons fun KK hKK => ?_); go_simp; (first | (refine ⟨_, gc, ?_⟩) | skip); refine hKK _ ?_; clear hKK KK) | ((refine vdrawL 10 10 [] rfl (by kernel_rfl) (by kernel_rfl) ?_); simp only [List.append, List.take, List.drop]) | ((refine vdrawL 13 10 [] rfl (by kernel_rfl) (by kernel_rfl) ?_); simp only [List.append, List.take, List.drop]) | ((with_reducible refine vcondS ?_ (fun ht => ?_) (fun ht => ?_)); (focus (go_simp; done)); (all_goals (simp [go_sem] at ht; replace ht := ht.out))) | ((apply vrun_consG0 rfl); (focus (go_simp <;> exact rfl)); (focus (go_simp; done)); (focus (intro hb0; replace hb0 := hb0.out; go_simp <;> (first | exact rfl | exact gc | exact ⟨gc, rfl⟩))); intro KK hKK; go_simp; refine hKK _ ?_; clear hKK KK) | ((apply vhrun_consG0 rfl); (focus (go_simp <;> exact rfl)); (focus (intro hb0; replace hb0 := hb0.out; go_simp <;> (first | exact rfl | exact gc | exact ⟨gc, rfl⟩))); intro KK hKK; go_simp; refine hKK _ ?_; clear hKK KK))
              go_simp
            · have hv : v = ⟨#[]⟩ := by simpa [hu] using hok
              clear hok
              repeat' (first | (with_reducible first | refine vseq ?_ | refine vthenN ?_ | refine vthenE ?_ | refine vthenR ?_ | refine vret ?_ | refine vskip ?_ | refine vexit ?_ | refine vblock ?_ | refine vblockN ?_ | refine vblockR ?_ | refine vblockH ?_ | refine vrun_nil ?_ | refine vblockE rfl ?_ | refine vregion [] ?_ | refine vhrun_nil ?_) | ((with_reducible refine vcondT ?_ ?_); (focus (go_simp; done))) | ((with_reducible refine vcondF ?_ ?_); (focus (go_simp; done))) | ((with_reducible first | refine vrun_cons fun KK hKK => ?_ | refine vhrun_cons fun KK hKK => ?_); go_simp; (first | (refine ⟨_, gc, ?_⟩) | skip); refine hKK _ ?_; clear hKK KK) | ((refine vdrawL 10 10 [] rfl (by kernel_rfl) (by kernel_rfl) ?_); simp only [List.append, List.take, List.drop]) | ((refine vdrawL 13 10 [] rfl (by kernel_rfl) (by kernel_rfl) ?_); simp only [List.append, List.take, List.drop]) | ((with_reducible refine vcondS ?_ (fun ht => ?_) (fun ht => ?_)); (focus (go_simp; done)); (all_goals (simp [go_sem] at ht; replace ht := ht.out))) | ((apply vrun_consG0 rfl); (focus (go_simp <;> exact rfl)); (focus (go_simp; done)); (focus (intro hb0; replace hb0 := hb0.out; go_simp <;> (first | exact rfl | exact gc | exact ⟨gc, rfl⟩))); intro KK hKK; go_simp; refine hKK _ ?_; clear hKK KK) | ((apply vhrun_consG0 rfl); (focus (go_simp <;> exact rfl)); (focus (intro hb0; replace hb0 := hb0.out; go_simp <;> (first | exact rfl | exact gc | exact ⟨gc, rfl⟩))); intro KK hKK; go_simp; refine hKK _ ?_; clear hKK KK))
              go_simp
          · have h2i : ¬ (l.length : Int) = 2 := by omega
            clear hok
            repeat' (first | (with_reducible first | refine vseq ?_ | refine vthenN ?_ | refine vthenE ?_ | refine vthenR ?_ | refine vret ?_ | refine vskip ?_ | refine vexit ?_ | refine vblock ?_ | refine vblockN ?_ | refine vblockR ?_ | refine vblockH ?_ | refine vrun_nil ?_ | refine vblockE rfl ?_ | refine vregion [] ?_ | refine vhrun_nil ?_) | ((with_reducible refine vcondT ?_ ?_); (focus (go_simp; done))) | ((with_reducible refine vcondF ?_ ?_); (focus (go_simp; done))) | ((with_reducible first | refine vrun_cons fun KK hKK => ?_ | refine vhrun_cons fun KK hKK => ?_); go_simp; (first | (refine ⟨_, gc, ?_⟩) | skip); refine hKK _ ?_; clear hKK KK) | ((refine vdrawL 10 10 [] rfl (by kernel_rfl) (by kernel_rfl) ?_); simp only [List.append, List.take, List.drop]) | ((refine vdrawL 13 10 [] rfl (by kernel_rfl) (by kernel_rfl) ?_); simp only [List.append, List.take, List.drop]) | ((with_reducible refine vcondS ?_ (fun ht => ?_) (fun ht => ?_)); (focus (go_simp; done)); (all_goals (simp [go_sem] at ht; replace ht := ht.out))) | ((apply vrun_consG0 rfl); (focus (go_simp <;> exact rfl)); (focus (go_simp; done)); (focus (intro hb0; replace hb0 := hb0.out; go_simp <;> (first | exact rfl | exact gc | exact ⟨gc, rfl⟩))); intro KK hKK; go_simp; refine hKK _ ?_; clear hKK KK) | ((apply vhrun_consG0 rfl); (focus (go_simp <;> exact rfl)); (focus (intro hb0; replace hb0 := hb0.out; go_simp <;> (first | exact rfl | exact gc | exact ⟨gc, rfl⟩))); intro KK hKK; go_simp; refine hKK _ ?_; clear hKK KK))
            go_simp
        · intro HB K
          have hr := HR.out
          rw [anyP_out HB.out, if_neg (by simp)] at hr
          have g4 := G4.out
          clear HB HR HZ G4
          generalize mksTo w (w.length - 3) = ms at *
          have h3n : ¬ ((w.length - 3 : Nat) : Int) + 3 < w.length := by omega
          by_cases hE0 : E = 0
          · rw [if_neg (by simpa using hE0)] at hr
            subst hr
            repeat' (first | (with_reducible first | refine vseq ?_ | refine vthenN ?_ | refine vthenE ?_ | refine vthenR ?_ | refine vret ?_ | refine vskip ?_ | refine vexit ?_ | refine vblock ?_ | refine vblockN ?_ | refine vblockR ?_ | refine vblockH ?_ | refine vrun_nil ?_ | refine vblockE rfl ?_ | refine vregion [] ?_ | refine vhrun_nil ?_) | ((with_reducible refine vcondT ?_ ?_); (focus (go_simp; done))) | ((with_reducible refine vcondF ?_ ?_); (focus (go_simp; done))) | ((with_reducible first | refine vrun_cons fun KK hKK => ?_ | refine vhrun_cons fun KK hKK => ?_); go_simp; (first | (refine ⟨_, ⟨g4, rfl⟩, ?_⟩) | skip); refine hKK _ ?_; clear hKK KK) | ((refine vdrawL 10 10 [] rfl (by kernel_rfl) (by kernel_rfl) ?_); simp only [List.append, List.take, List.drop]) | ((refine vdrawL 13 10 [] rfl (by kernel_rfl) (by kernel_rfl) ?_); simp only [List.append, List.take, List.drop]) | ((with_reducible refine vcondS ?_ (fun ht => ?_) (fun ht => ?_)); (focus (go_simp; done)); (all_goals (simp [go_sem] at ht; replace ht := ht.out))) | ((apply vrun_consG0 rfl); (focus (go_simp <;> exact rfl)); (focus (go_simp; done)); (focus (intro hb0; replace hb0 := hb0.out; go_simp <;> (first | exact rfl | exact g4 | exact ⟨g4, rfl⟩))); intro KK hKK; go_simp; refine hKK _ ?_; clear hKK KK) | ((apply vhrun_consG0 rfl); (focus (go_simp <;> exact rfl)); (focus (intro hb0; replace hb0 := hb0.out; go_simp <;> (first | exact rfl | exact g4 | exact ⟨g4, rfl⟩))); intro KK hKK; go_simp; refine hKK _ ?_; clear hKK KK))
            go_simp
          · rw [if_pos hE0] at hr
            subst hr
            repeat' (first | (with_reducible first | refine vseq ?_ | refine vthenN ?_ | refine vthenE ?_ | refine vthenR ?_ | refine vret ?_ | refine vskip ?_ | refine vexit ?_ | refine vblock ?_ | refine vblockN ?_ | refine vblockR ?_ | refine vblockH ?_ | refine vrun_nil ?_ | refine vblockE rfl ?_ | refine vregion [] ?_ | refine vhrun_nil ?_) | ((with_reducible refine vcondT ?_ ?_); (focus (go_simp; done))) | ((with_reducible refine vcondF ?_ ?_); (focus (go_simp; done))) | ((with_reducible first | refine vrun_cons fun KK hKK => ?_ | refine vhrun_cons fun KK hKK => ?_); go_simp; (first | (refine ⟨_, ⟨g4, rfl⟩, ?_⟩) | skip); refine hKK _ ?_; clear hKK KK) | ((refine vdrawL 10 10 [] rfl (by kernel_rfl) (by kernel_rfl) ?_); simp only [List.append, List.take, List.drop]) | ((refine vdrawL 13 10 [] rfl (by kernel_rfl) (by kernel_rfl) ?_); simp only [List.append, List.take, List.drop]) | ((with_reducible refine vcondS ?_ (fun ht => ?_) (fun ht => ?_)); (focus (go_simp; done)); (all_goals (simp [go_sem] at ht; replace ht := ht.out))) | ((apply vrun_consG0 rfl); (focus (go_simp <;> exact rfl)); (focus (go_simp; done)); (focus (intro hb0; replace hb0 := hb0.out; go_simp <;> (first | exact rfl | exact g4 | exact ⟨g4, rfl⟩))); intro KK hKK; go_simp; refine hKK _ ?_; clear hKK KK) | ((apply vhrun_consG0 rfl); (focus (go_simp <;> exact rfl)); (focus (intro hb0; replace hb0 := hb0.out; go_simp <;> (first | exact rfl | exact g4 | exact ⟨g4, rfl⟩))); intro KK hKK; go_simp; refine hKK _ ?_; clear hKK KK))
            go_simp
    · rw [if_pos (.inr rfl)]
      rw [hE] at g2
      clear hz he hE
      refine VC_of Tryz.func36 rfl (by kernel_rfl) (by kernel_rfl) rfl fun M0 w0 => ?_
      simp only [Tryz.ntmps36, Tryz.results36, enumA]
      repeat' (first | (with_reducible first | refine vseq ?_ | refine vthenN ?_ | refine vthenE ?_ | refine vthenR ?_ | refine vret ?_ | refine vskip ?_ | refine vexit ?_ | refine vblock ?_ | refine vblockN ?_ | refine vblockR ?_ | refine vblockH ?_ | refine vrun_nil ?_ | refine vblockE rfl ?_ | refine vregion [] ?_ | refine vhrun_nil ?_) | ((with_reducible refine vcondT ?_ ?_); (focus (go_simp; done))) | ((with_reducible refine vcondF ?_ ?_); (focus (go_simp; done))) | ((with_reducible first | refine vrun_cons fun KK hKK => ?_ | refine vhrun_cons fun KK hKK => ?_); go_simp; (first | (with_reducible refine ⟨_, g1, ?_⟩) | (refine ⟨_, g2, ?_⟩) | skip); refine hKK _ ?_; clear hKK KK) | ((refine vdrawL 10 10 [] rfl (by kernel_rfl) (by kernel_rfl) ?_); simp only [List.append, List.take, List.drop]) | ((refine vdrawL 13 10 [] rfl (by kernel_rfl) (by kernel_rfl) ?_); simp only [List.append, List.take, List.drop]) | ((with_reducible refine vcondS ?_ (fun ht => ?_) (fun ht => ?_)); (focus (go_simp; done)); (all_goals (simp [go_sem] at ht; replace ht := ht.out))) | ((apply vrun_consG0 rfl); (focus (go_simp <;> exact rfl)); (focus (go_simp; done)); (focus (intro hb0; replace hb0 := hb0.out; go_simp <;> (first | exact rfl | exact g1 | exact g2 | exact ⟨g1, rfl⟩ | exact ⟨g2, rfl⟩))); intro KK hKK; go_simp; refine hKK _ ?_; clear hKK KK) | ((apply vhrun_consG0 rfl); (focus (go_simp <;> exact rfl)); (focus (intro hb0; replace hb0 := hb0.out; go_simp <;> (first | exact rfl | exact g1 | exact g2 | exact ⟨g1, rfl⟩ | exact ⟨g2, rfl⟩))); intro KK hKK; go_simp; refine hKK _ ?_; clear hKK KK))
      go_simp
end Go.Proofs.YthbgghmjbaldlaaGreatDoor

/-! QU6: Walks on plain values: whether items are the same, as the reference has it; of every length up to a thousand million. -/
namespace Go.Proofs.YthbgghmjbaldlaaGreatDoor
open Go.RowKit
set_option maxRecDepth 100000
set_option maxHeartbeats 1000000
@[go_sem] theorem eq_mark : eqInfo Tryz.prog 134 = some [(0, 4), (1, 4)] := by kernel_rfl
/-- Whether mark number j differs. -/
def difM (a b : List Mark) (j : Nat) : Bool := !(decide ((mat a j).key = (mat b j).key) && decide ((mat a j).value = (mat b j).value))
def sameItem (a b : Item) : Bool := if a.name = b.name then (if a.day = b.day then (if a.who = b.who then (if a.marks.length = b.marks.length then !anyP (difM a.marks b.marks) 0 a.marks.length else false) else false) else false) else false
theorem r_SameItem (a b : Item) (hl : a.marks.length ≤ 1000000000) (_hl2 : b.marks.length ≤ 1000000000) : VC Tryz.prog 38 [itemA a, itemA b] (B (sameItem a b)) := by
  unfold sameItem
  by_cases h1 : a.name = b.name
  · rw [if_pos h1]
    by_cases h2 : a.day = b.day
    · rw [if_pos h2]
      by_cases h3 : a.who = b.who
      · rw [if_pos h3]
        by_cases h4 : a.marks.length = b.marks.length
        · rw [if_pos h4]
          obtain ⟨R, hR⟩ : ∃ R, anyP (difM a.marks b.marks) 0 a.marks.length = R := ⟨_, rfl⟩
          rw [hR]
          have HR := Lib.hid hR
          have H4 := Lib.hid h4
          have h4i : (a.marks.length : Int) = b.marks.length := by omega
          have H4i := Lib.hid h4i
          clear hR h4
          refine VC_of Tryz.func38 rfl (by kernel_rfl) (by kernel_rfl) rfl fun M0 w0 => ?_
          simp only [Tryz.ntmps38, Tryz.results38, enumA]
          repeat' (first | (with_reducible first | refine vseq ?_ | refine vthenN ?_ | refine vthenE ?_ | refine vthenR ?_ | refine vret ?_ | refine vskip ?_ | refine vexit ?_ | refine vblock ?_ | refine vblockN ?_ | refine vblockR ?_ | refine vblockH ?_ | refine vrun_nil ?_ | refine vblockE rfl ?_ | refine vregion [] ?_ | refine vhrun_nil ?_) | ((with_reducible refine vcondT ?_ ?_); (focus (go_simp; done))) | ((with_reducible refine vcondF ?_ ?_); (focus (go_simp; done))) | ((with_reducible first | refine vrun_cons fun KK hKK => ?_ | refine vhrun_cons fun KK hKK => ?_); go_simp; refine hKK _ ?_; clear hKK KK) | ((refine vdrawL 11 11 [] rfl (by kernel_rfl) (by kernel_rfl) ?_); simp only [List.append, List.take, List.drop]) | ((with_reducible refine vcondS ?_ (fun ht => ?_) (fun ht => ?_)); (focus (go_simp; done)); (all_goals (simp [go_sem] at ht; replace ht := ht.out))) | ((apply vrun_consG0 rfl); (focus (go_simp <;> exact rfl)); (focus (go_simp; done)); (focus (intro hb0; replace hb0 := hb0.out; go_simp <;> (first | exact rfl))); intro KK hKK; go_simp; refine hKK _ ?_; clear hKK KK) | ((apply vhrun_consG0 rfl); (focus (go_simp <;> exact rfl)); (focus (intro hb0; replace hb0 := hb0.out; go_simp <;> (first | exact rfl))); intro KK hKK; go_simp; refine hKK _ ?_; clear hKK KK))
          clear h4i
          apply vfor [2, 3] (fun k => [(5, I (k : Int))]) (fun k => ([] : Hp)) (difM a.marks b.marks) (a.marks.length)
          · go_simp <;> exact rfl
          · go_simp
          · intro k hk HB HP K hK
            obtain ⟨w1, w2, w3, w4, w5, w6⟩ := ixs (m := k) (by omega)
            have hkb : k < b.marks.length := by have := H4.out; omega
            have hp := HP.out
            rw [difM, mat_get hk, mat_get hkb, Bool.not_eq_false', Bool.and_eq_true, decide_eq_true_eq, decide_eq_true_eq] at hp
            obtain ⟨p1, p2⟩ := hp
            repeat' (first | (with_reducible first | refine vseq ?_ | refine vthenN ?_ | refine vthenE ?_ | refine vthenR ?_ | refine vret ?_ | refine vskip ?_ | refine vexit ?_ | refine vblock ?_ | refine vblockN ?_ | refine vblockR ?_ | refine vblockH ?_ | refine vrun_nil ?_ | refine vblockE rfl ?_ | refine vregion [] ?_ | refine vhrun_nil ?_) | ((with_reducible refine vcondT ?_ ?_); (focus (go_simp; done))) | ((with_reducible refine vcondF ?_ ?_); (focus (go_simp; done))) | ((with_reducible first | refine vrun_cons fun KK hKK => ?_ | refine vhrun_cons fun KK hKK => ?_); go_simp; refine hKK _ ?_; clear hKK KK) | ((refine vdrawL 11 11 [] rfl (by kernel_rfl) (by kernel_rfl) ?_); simp only [List.take, List.drop]) | ((with_reducible refine vcondS ?_ (fun ht => ?_) (fun ht => ?_)); (focus (go_simp; done)); (all_goals (simp [go_sem] at ht; replace ht := ht.out))) | ((apply vrun_consG0 rfl); (focus (go_simp <;> exact rfl)); (focus (go_simp; done)); (focus (intro hb0; replace hb0 := hb0.out; go_simp <;> (first | exact rfl))); intro KK hKK; go_simp; refine hKK _ ?_; clear hKK KK) | ((apply vhrun_consG0 rfl); (focus (go_simp <;> exact rfl)); (focus (intro hb0; replace hb0 := hb0.out; go_simp <;> (first | exact rfl))); intro KK hKK; go_simp; refine hKK _ ?_; clear hKK KK))
            refine hK _ ?_
            go_simp
          · intro k hk HB HP K
            have hkb : k < b.marks.length := by have := H4.out; omega
            have hp := HP.out
            rw [difM, mat_get hk, mat_get hkb, Bool.not_eq_true'] at hp
            have hr := HR.out
            rw [anyP_hit hk HP.out] at hr
            subst hr
            by_cases p1 : a.marks[k].key = b.marks[k].key
            · have p2 : ¬ a.marks[k].value = b.marks[k].value := by simpa [p1] using hp
              clear hp
              repeat' (first | (with_reducible first | refine vseq ?_ | refine vthenN ?_ | refine vthenE ?_ | refine vthenR ?_ | refine vret ?_ | refine vskip ?_ | refine vexit ?_ | refine vblock ?_ | refine vblockN ?_ | refine vblockR ?_ | refine vblockH ?_ | refine vrun_nil ?_ | refine vblockE rfl ?_ | refine vregion [] ?_ | refine vhrun_nil ?_) | ((with_reducible refine vcondT ?_ ?_); (focus (go_simp; done))) | ((with_reducible refine vcondF ?_ ?_); (focus (go_simp; done))) | ((with_reducible first | refine vrun_cons fun KK hKK => ?_ | refine vhrun_cons fun KK hKK => ?_); go_simp; refine hKK _ ?_; clear hKK KK) | ((refine vdrawL 11 11 [] rfl (by kernel_rfl) (by kernel_rfl) ?_); simp only [List.take, List.drop]) | ((with_reducible refine vcondS ?_ (fun ht => ?_) (fun ht => ?_)); (focus (go_simp; done)); (all_goals (simp [go_sem] at ht; replace ht := ht.out))) | ((apply vrun_consG0 rfl); (focus (go_simp <;> exact rfl)); (focus (go_simp; done)); (focus (intro hb0; replace hb0 := hb0.out; go_simp <;> (first | exact rfl))); intro KK hKK; go_simp; refine hKK _ ?_; clear hKK KK) | ((apply vhrun_consG0 rfl); (focus (go_simp <;> exact rfl)); (focus (intro hb0; replace hb0 := hb0.out; go_simp <;> (first | exact rfl))); intro KK hKK; go_simp; refine hKK _ ?_; clear hKK KK))
              go_simp
            · clear hp
              repeat' (first | (with_reducible first | refine vseq ?_ | refine vthenN ?_ | refine vthenE ?_ | refine vthenR ?_ | refine vret ?_ | refine vskip ?_ | refine vexit ?_ | refine vblock ?_ | refine vblockN ?_ | refine vblockR ?_ | refine vblockH ?_ | refine vrun_nil ?_ | refine vblockE rfl ?_ | refine vregion [] ?_ | refine vhrun_nil ?_) | ((with_reducible refine vcondT ?_ ?_); (focus (go_simp; done))) | ((with_reducible refine vcondF ?_ ?_); (focus (go_simp; done))) | ((with_reducible first | refine vrun_cons fun KK hKK => ?_ | refine vhrun_cons fun KK hKK => ?_); go_simp; refine hKK _ ?_; clear hKK KK) | ((refine vdrawL 11 11 [] rfl (by kernel_rfl) (by kernel_rfl) ?_); simp only [List.take, List.drop]) | ((with_reducible refine vcondS ?_ (fun ht => ?_) (fun ht => ?_)); (focus (go_simp; done)); (all_goals (simp [go_sem] at ht; replace ht := ht.out))) | ((apply vrun_consG0 rfl); (focus (go_simp <;> exact rfl)); (focus (go_simp; done)); (focus (intro hb0; replace hb0 := hb0.out; go_simp <;> (first | exact rfl))); intro KK hKK; go_simp; refine hKK _ ?_; clear hKK KK) | ((apply vhrun_consG0 rfl); (focus (go_simp <;> exact rfl)); (focus (intro hb0; replace hb0 := hb0.out; go_simp <;> (first | exact rfl))); intro KK hKK; go_simp; refine hKK _ ?_; clear hKK KK))
              go_simp
          · intro HB K
            have hr := HR.out
            rw [anyP_out HB.out] at hr
            subst hr
            repeat' (first | (with_reducible first | refine vseq ?_ | refine vthenN ?_ | refine vthenE ?_ | refine vthenR ?_ | refine vret ?_ | refine vskip ?_ | refine vexit ?_ | refine vblock ?_ | refine vblockN ?_ | refine vblockR ?_ | refine vblockH ?_ | refine vrun_nil ?_ | refine vblockE rfl ?_ | refine vregion [] ?_ | refine vhrun_nil ?_) | ((with_reducible refine vcondT ?_ ?_); (focus (go_simp; done))) | ((with_reducible refine vcondF ?_ ?_); (focus (go_simp; done))) | ((with_reducible first | refine vrun_cons fun KK hKK => ?_ | refine vhrun_cons fun KK hKK => ?_); go_simp; refine hKK _ ?_; clear hKK KK) | ((refine vdrawL 11 11 [] rfl (by kernel_rfl) (by kernel_rfl) ?_); simp only [List.append, List.take, List.drop]) | ((with_reducible refine vcondS ?_ (fun ht => ?_) (fun ht => ?_)); (focus (go_simp; done)); (all_goals (simp [go_sem] at ht; replace ht := ht.out))) | ((apply vrun_consG0 rfl); (focus (go_simp <;> exact rfl)); (focus (go_simp; done)); (focus (intro hb0; replace hb0 := hb0.out; go_simp <;> (first | exact rfl))); intro KK hKK; go_simp; refine hKK _ ?_; clear hKK KK) | ((apply vhrun_consG0 rfl); (focus (go_simp <;> exact rfl)); (focus (intro hb0; replace hb0 := hb0.out; go_simp <;> (first | exact rfl))); intro KK hKK; go_simp; refine hKK _ ?_; clear hKK KK))
            go_simp
        · rw [if_neg h4]
          have h4i : ¬ (a.marks.length : Int) = b.marks.length := by omega
          refine VC_of Tryz.func38 rfl (by kernel_rfl) (by kernel_rfl) rfl fun M0 w0 => ?_
          simp only [Tryz.ntmps38, Tryz.results38, enumA]
          repeat' (first | (with_reducible first | refine vseq ?_ | refine vthenN ?_ | refine vthenE ?_ | refine vthenR ?_ | refine vret ?_ | refine vskip ?_ | refine vexit ?_ | refine vblock ?_ | refine vblockN ?_ | refine vblockR ?_ | refine vblockH ?_ | refine vrun_nil ?_ | refine vblockE rfl ?_ | refine vregion [] ?_ | refine vhrun_nil ?_) | ((with_reducible refine vcondT ?_ ?_); (focus (go_simp; done))) | ((with_reducible refine vcondF ?_ ?_); (focus (go_simp; done))) | ((with_reducible first | refine vrun_cons fun KK hKK => ?_ | refine vhrun_cons fun KK hKK => ?_); go_simp; refine hKK _ ?_; clear hKK KK) | ((refine vdrawL 11 11 [] rfl (by kernel_rfl) (by kernel_rfl) ?_); simp only [List.append, List.take, List.drop]) | ((with_reducible refine vcondS ?_ (fun ht => ?_) (fun ht => ?_)); (focus (go_simp; done)); (all_goals (simp [go_sem] at ht; replace ht := ht.out))) | ((apply vrun_consG0 rfl); (focus (go_simp <;> exact rfl)); (focus (go_simp; done)); (focus (intro hb0; replace hb0 := hb0.out; go_simp <;> (first | exact rfl))); intro KK hKK; go_simp; refine hKK _ ?_; clear hKK KK) | ((apply vhrun_consG0 rfl); (focus (go_simp <;> exact rfl)); (focus (intro hb0; replace hb0 := hb0.out; go_simp <;> (first | exact rfl))); intro KK hKK; go_simp; refine hKK _ ?_; clear hKK KK))
          go_simp
      · rw [if_neg h3]
        refine VC_of Tryz.func38 rfl (by kernel_rfl) (by kernel_rfl) rfl fun M0 w0 => ?_
        simp only [Tryz.ntmps38, Tryz.results38, enumA]
        repeat' (first | (with_reducible first | refine vseq ?_ | refine vthenN ?_ | refine vthenE ?_ | refine vthenR ?_ | refine vret ?_ | refine vskip ?_ | refine vexit ?_ | refine vblock ?_ | refine vblockN ?_ | refine vblockR ?_ | refine vblockH ?_ | refine vrun_nil ?_ | refine vblockE rfl ?_ | refine vregion [] ?_ | refine vhrun_nil ?_) | ((with_reducible refine vcondT ?_ ?_); (focus (go_simp; done))) | ((with_reducible refine vcondF ?_ ?_); (focus (go_simp; done))) | ((with_reducible first | refine vrun_cons fun KK hKK => ?_ | refine vhrun_cons fun KK hKK => ?_); go_simp; refine hKK _ ?_; clear hKK KK) | ((refine vdrawL 11 11 [] rfl (by kernel_rfl) (by kernel_rfl) ?_); simp only [List.append, List.take, List.drop]) | ((with_reducible refine vcondS ?_ (fun ht => ?_) (fun ht => ?_)); (focus (go_simp; done)); (all_goals (simp [go_sem] at ht; replace ht := ht.out))) | ((apply vrun_consG0 rfl); (focus (go_simp <;> exact rfl)); (focus (go_simp; done)); (focus (intro hb0; replace hb0 := hb0.out; go_simp <;> (first | exact rfl))); intro KK hKK; go_simp; refine hKK _ ?_; clear hKK KK) | ((apply vhrun_consG0 rfl); (focus (go_simp <;> exact rfl)); (focus (intro hb0; replace hb0 := hb0.out; go_simp <;> (first | exact rfl))); intro KK hKK; go_simp; refine hKK _ ?_; clear hKK KK))
        go_simp
    · rw [if_neg h2]
      refine VC_of Tryz.func38 rfl (by kernel_rfl) (by kernel_rfl) rfl fun M0 w0 => ?_
      simp only [Tryz.ntmps38, Tryz.results38, enumA]
      repeat' (first | (with_reducible first | refine vseq ?_ | refine vthenN ?_ | refine vthenE ?_ | refine vthenR ?_ | refine vret ?_ | refine vskip ?_ | refine vexit ?_ | refine vblock ?_ | refine vblockN ?_ | refine vblockR ?_ | refine vblockH ?_ | refine vrun_nil ?_ | refine vblockE rfl ?_ | refine vregion [] ?_ | refine vhrun_nil ?_) | ((with_reducible refine vcondT ?_ ?_); (focus (go_simp; done))) | ((with_reducible refine vcondF ?_ ?_); (focus (go_simp; done))) | ((with_reducible first | refine vrun_cons fun KK hKK => ?_ | refine vhrun_cons fun KK hKK => ?_); go_simp; refine hKK _ ?_; clear hKK KK) | ((refine vdrawL 11 11 [] rfl (by kernel_rfl) (by kernel_rfl) ?_); simp only [List.append, List.take, List.drop]) | ((with_reducible refine vcondS ?_ (fun ht => ?_) (fun ht => ?_)); (focus (go_simp; done)); (all_goals (simp [go_sem] at ht; replace ht := ht.out))) | ((apply vrun_consG0 rfl); (focus (go_simp <;> exact rfl)); (focus (go_simp; done)); (focus (intro hb0; replace hb0 := hb0.out; go_simp <;> (first | exact rfl))); intro KK hKK; go_simp; refine hKK _ ?_; clear hKK KK) | ((apply vhrun_consG0 rfl); (focus (go_simp <;> exact rfl)); (focus (intro hb0; replace hb0 := hb0.out; go_simp <;> (first | exact rfl))); intro KK hKK; go_simp; refine hKK _ ?_; clear hKK KK))
      go_simp
  · rw [if_neg h1]
    refine VC_of Tryz.func38 rfl (by kernel_rfl) (by kernel_rfl) rfl fun M0 w0 => ?_
    simp only [Tryz.ntmps38, Tryz.results38, enumA]
    repeat' (first | (with_reducible first | refine vseq ?_ | refine vthenN ?_ | refine vthenE ?_ | refine vthenR ?_ | refine vret ?_ | refine vskip ?_ | refine vexit ?_ | refine vblock ?_ | refine vblockN ?_ | refine vblockR ?_ | refine vblockH ?_ | refine vrun_nil ?_ | refine vblockE rfl ?_ | refine vregion [] ?_ | refine vhrun_nil ?_) | ((with_reducible refine vcondT ?_ ?_); (focus (go_simp; done))) | ((with_reducible refine vcondF ?_ ?_); (focus (go_simp; done))) | ((with_reducible first | refine vrun_cons fun KK hKK => ?_ | refine vhrun_cons fun KK hKK => ?_); go_simp; refine hKK _ ?_; clear hKK KK) | ((refine vdrawL 11 11 [] rfl (by kernel_rfl) (by kernel_rfl) ?_); simp only [List.append, List.take, List.drop]) | ((with_reducible refine vcondS ?_ (fun ht => ?_) (fun ht => ?_)); (focus (go_simp; done)); (all_goals (simp [go_sem] at ht; replace ht := ht.out))) | ((apply vrun_consG0 rfl); (focus (go_simp <;> exact rfl)); (focus (go_simp; done)); (focus (intro hb0; replace hb0 := hb0.out; go_simp <;> (first | exact rfl))); intro KK hKK; go_simp; refine hKK _ ?_; clear hKK KK) | ((apply vhrun_consG0 rfl); (focus (go_simp <;> exact rfl)); (focus (intro hb0; replace hb0 := hb0.out; go_simp <;> (first | exact rfl))); intro KK hKK; go_simp; refine hKK _ ?_; clear hKK KK))
    go_simp
end Go.Proofs.YthbgghmjbaldlaaGreatDoor
