/- Texts in one: Texts of events by the program, and events that it reads; texts of at most 1000 bytes. -/
import Derived.Test.YthbgghmjbaldlaaGreatDoorFT25
import Derived.Test.YthbgghmjbaldlaaGreatDoorFT17
import Derived.Test.YthbgghmjbaldlaaGreatDoorFT6
/-! QP4: Texts of events by the program, and events that it reads; texts of at most 1000 bytes. -/
namespace Go.Proofs.YthbgghmjbaldlaaGreatDoor
open Go.RowKit Go.Shelf
set_option maxRecDepth 100000
set_option maxHeartbeats 1000000
theorem bl_app (a b : ByteArray) : bl (a ++ b) = bl a ++ bl b := by
  show (a ++ b).data.toList = a.data.toList ++ b.data.toList
  rw [ByteArray.data_append, Array.toList_append]
theorem bl_inj {a b : ByteArray} (h : bl a = bl b) : a = b := by
  have : a.data = b.data := Array.toList_inj.1 h
  cases a
  cases b
  simpa using this
theorem bl_len (a : ByteArray) : (bl a).length = a.size := (size_L a)
theorem join_five (a b c d e s : ByteArray) : joinB [a, b, c, d, e] s = a ++ s ++ b ++ s ++ c ++ s ++ d ++ s ++ e := by
  apply bl_inj
  simp only [bl_app]
  show (Lib.join ([a, b, c, d, e].map bl) (bl s)) = _
  rw [List.map_cons, Lib.join_cons]
  simp [Lib.joinTail, List.append_assoc]
theorem joinlen_five (a b c d e s : ByteArray) : (Lib.join ([a, b, c, d, e].map bl) (bl s)).length = a.size + s.size + b.size + s.size + c.size + s.size + d.size + s.size + e.size := by
  simp only [← bl_len]
  rw [List.map_cons, Lib.join_cons]
  simp [Lib.joinTail]
  omega
theorem word_ne {k : Int} (h : 0 ≤ k ∧ k ≤ 4) : word k ≠ ⟨#[]⟩ := by
  have : k = 0 ∨ k = 1 ∨ k = 2 ∨ k = 3 ∨ k = 4 := by omega
  rcases this with rfl | rfl | rfl | rfl | rfl <;> (unfold word; decide)
theorem word_no {k : Int} (h : ¬ (0 ≤ k ∧ k ≤ 4)) : word k = ⟨#[]⟩ := by
  unfold word
  rw [if_neg (by omega), if_neg (by omega), if_neg (by omega), if_neg (by omega), if_neg (by omega)]
theorem p_FormatEvent (x : Event) (h : SmallE x) (hd : -9223372036854775808 ≤ x.day ∧ x.day ≤ 9223372036854775807) : VC Tryz.prog 26 [.agg x.av] (S (evText x)) := by
  obtain ⟨it, day, k, f, t⟩ := x
  have g2 := v_ItoaM day hd
  have s1 := decT_size day hd
  have s2 := h.item
  have s3 := h.frm
  have s4 := h.dst
  simp only at s2 s3 s4
  have hsp : (⟨#[32]⟩ : ByteArray).size = 1 := rfl
  have hJ := fun w : ByteArray => fun hw : w.size ≤ 8 => v_Join [it, decT day, w, f, t] ⟨#[32]⟩ (by rw [joinlen_five, hsp]; omega) (by show 5 ≤ 1000000000; decide)
  have g1 := p_within k 0 4
  unfold evText
  simp only
  by_cases hk : 0 ≤ k ∧ k ≤ 4
  · rw [if_neg (word_ne hk)]
    have hin : inR k 0 4 = true := by simp [inR, hk.1, hk.2]
    rw [hin] at g1
    have hj2 := hJ (word k) (word_size k)
    rw [join_five] at hj2
    generalize decT day = D at *
    clear hd s1 s2 s3 s4 hJ h hin hsp
    obtain ⟨R, hR⟩ : ∃ R, it ++ ⟨#[32]⟩ ++ D ++ ⟨#[32]⟩ ++ word k ++ ⟨#[32]⟩ ++ f ++ ⟨#[32]⟩ ++ t = R := ⟨_, rfl⟩
    rw [hR] at hj2 ⊢
    clear hR
    have : k = 0 ∨ k = 1 ∨ k = 2 ∨ k = 3 ∨ k = 4 := by omega
    clear hk
    rcases this with rfl | rfl | rfl | rfl | rfl
    · refine VC_of Tryz.func26 rfl (by kernel_rfl) (by kernel_rfl) rfl fun M0 w0 => ?_
      simp only [Tryz.ntmps26, Tryz.results26, enumA]
      repeat' (first | (with_reducible first | refine vseq ?_ | refine vthenN ?_ | refine vthenE ?_ | refine vthenR ?_ | refine vret ?_ | refine vskip ?_ | refine vexit ?_ | refine vblock ?_ | refine vblockN ?_ | refine vblockR ?_ | refine vblockH ?_ | refine vrun_nil ?_ | refine vblockE rfl ?_ | refine vregion [] ?_ | refine vhrun_nil ?_) | ((with_reducible refine vcondT ?_ ?_); (focus (go_simp; done))) | ((with_reducible refine vcondF ?_ ?_); (focus (go_simp; done))) | ((with_reducible first | refine vrun_cons fun KK hKK => ?_ | refine vhrun_cons fun KK hKK => ?_); go_simp; (first | (with_reducible refine ⟨_, g1, ?_⟩) | (with_reducible refine ⟨_, g2, ?_⟩) | (refine ⟨_, hj2, ?_⟩) | skip); refine hKK _ ?_; clear hKK KK) | ((refine vdrawL 16 16 [] rfl (by kernel_rfl) (by kernel_rfl) ?_); simp only [List.take, List.drop]) | ((with_reducible refine vcondS ?_ (fun ht => ?_) (fun ht => ?_)); (focus (go_simp; done)); (all_goals (simp [go_sem] at ht; replace ht := ht.out))))
      go_simp
    · refine VC_of Tryz.func26 rfl (by kernel_rfl) (by kernel_rfl) rfl fun M0 w0 => ?_
      simp only [Tryz.ntmps26, Tryz.results26, enumA]
      repeat' (first | (with_reducible first | refine vseq ?_ | refine vthenN ?_ | refine vthenE ?_ | refine vthenR ?_ | refine vret ?_ | refine vskip ?_ | refine vexit ?_ | refine vblock ?_ | refine vblockN ?_ | refine vblockR ?_ | refine vblockH ?_ | refine vrun_nil ?_ | refine vblockE rfl ?_ | refine vregion [] ?_ | refine vhrun_nil ?_) | ((with_reducible refine vcondT ?_ ?_); (focus (go_simp; done))) | ((with_reducible refine vcondF ?_ ?_); (focus (go_simp; done))) | ((with_reducible first | refine vrun_cons fun KK hKK => ?_ | refine vhrun_cons fun KK hKK => ?_); go_simp; (first | (with_reducible refine ⟨_, g1, ?_⟩) | (with_reducible refine ⟨_, g2, ?_⟩) | (refine ⟨_, hj2, ?_⟩) | skip); refine hKK _ ?_; clear hKK KK) | ((refine vdrawL 16 16 [] rfl (by kernel_rfl) (by kernel_rfl) ?_); simp only [List.take, List.drop]) | ((with_reducible refine vcondS ?_ (fun ht => ?_) (fun ht => ?_)); (focus (go_simp; done)); (all_goals (simp [go_sem] at ht; replace ht := ht.out))))
      go_simp
    · refine VC_of Tryz.func26 rfl (by kernel_rfl) (by kernel_rfl) rfl fun M0 w0 => ?_
      simp only [Tryz.ntmps26, Tryz.results26, enumA]
      repeat' (first | (with_reducible first | refine vseq ?_ | refine vthenN ?_ | refine vthenE ?_ | refine vthenR ?_ | refine vret ?_ | refine vskip ?_ | refine vexit ?_ | refine vblock ?_ | refine vblockN ?_ | refine vblockR ?_ | refine vblockH ?_ | refine vrun_nil ?_ | refine vblockE rfl ?_ | refine vregion [] ?_ | refine vhrun_nil ?_) | ((with_reducible refine vcondT ?_ ?_); (focus (go_simp; done))) | ((with_reducible refine vcondF ?_ ?_); (focus (go_simp; done))) | ((with_reducible first | refine vrun_cons fun KK hKK => ?_ | refine vhrun_cons fun KK hKK => ?_); go_simp; (first | (with_reducible refine ⟨_, g1, ?_⟩) | (with_reducible refine ⟨_, g2, ?_⟩) | (refine ⟨_, hj2, ?_⟩) | skip); refine hKK _ ?_; clear hKK KK) | ((refine vdrawL 16 16 [] rfl (by kernel_rfl) (by kernel_rfl) ?_); simp only [List.take, List.drop]) | ((with_reducible refine vcondS ?_ (fun ht => ?_) (fun ht => ?_)); (focus (go_simp; done)); (all_goals (simp [go_sem] at ht; replace ht := ht.out))))
      go_simp
    · refine VC_of Tryz.func26 rfl (by kernel_rfl) (by kernel_rfl) rfl fun M0 w0 => ?_
      simp only [Tryz.ntmps26, Tryz.results26, enumA]
      repeat' (first | (with_reducible first | refine vseq ?_ | refine vthenN ?_ | refine vthenE ?_ | refine vthenR ?_ | refine vret ?_ | refine vskip ?_ | refine vexit ?_ | refine vblock ?_ | refine vblockN ?_ | refine vblockR ?_ | refine vblockH ?_ | refine vrun_nil ?_ | refine vblockE rfl ?_ | refine vregion [] ?_ | refine vhrun_nil ?_) | ((with_reducible refine vcondT ?_ ?_); (focus (go_simp; done))) | ((with_reducible refine vcondF ?_ ?_); (focus (go_simp; done))) | ((with_reducible first | refine vrun_cons fun KK hKK => ?_ | refine vhrun_cons fun KK hKK => ?_); go_simp; (first | (with_reducible refine ⟨_, g1, ?_⟩) | (with_reducible refine ⟨_, g2, ?_⟩) | (refine ⟨_, hj2, ?_⟩) | skip); refine hKK _ ?_; clear hKK KK) | ((refine vdrawL 16 16 [] rfl (by kernel_rfl) (by kernel_rfl) ?_); simp only [List.take, List.drop]) | ((with_reducible refine vcondS ?_ (fun ht => ?_) (fun ht => ?_)); (focus (go_simp; done)); (all_goals (simp [go_sem] at ht; replace ht := ht.out))))
      go_simp
    · refine VC_of Tryz.func26 rfl (by kernel_rfl) (by kernel_rfl) rfl fun M0 w0 => ?_
      simp only [Tryz.ntmps26, Tryz.results26, enumA]
      repeat' (first | (with_reducible first | refine vseq ?_ | refine vthenN ?_ | refine vthenE ?_ | refine vthenR ?_ | refine vret ?_ | refine vskip ?_ | refine vexit ?_ | refine vblock ?_ | refine vblockN ?_ | refine vblockR ?_ | refine vblockH ?_ | refine vrun_nil ?_ | refine vblockE rfl ?_ | refine vregion [] ?_ | refine vhrun_nil ?_) | ((with_reducible refine vcondT ?_ ?_); (focus (go_simp; done))) | ((with_reducible refine vcondF ?_ ?_); (focus (go_simp; done))) | ((with_reducible first | refine vrun_cons fun KK hKK => ?_ | refine vhrun_cons fun KK hKK => ?_); go_simp; (first | (with_reducible refine ⟨_, g1, ?_⟩) | (with_reducible refine ⟨_, g2, ?_⟩) | (refine ⟨_, hj2, ?_⟩) | skip); refine hKK _ ?_; clear hKK KK) | ((refine vdrawL 16 16 [] rfl (by kernel_rfl) (by kernel_rfl) ?_); simp only [List.take, List.drop]) | ((with_reducible refine vcondS ?_ (fun ht => ?_) (fun ht => ?_)); (focus (go_simp; done)); (all_goals (simp [go_sem] at ht; replace ht := ht.out))))
      go_simp
  · rw [if_pos (word_no hk)]
    have hin : inR k 0 4 = false := by
      simp only [inR, Bool.and_eq_false_iff, decide_eq_false_iff_not]
      omega
    rw [hin] at g1
    clear hJ g2 hd s1 s2 s3 s4 h hin
    refine VC_of Tryz.func26 rfl (by kernel_rfl) (by kernel_rfl) rfl fun M0 w0 => ?_
    simp only [Tryz.ntmps26, Tryz.results26, enumA]
    repeat' (first | (with_reducible first | refine vseq ?_ | refine vthenN ?_ | refine vthenE ?_ | refine vthenR ?_ | refine vret ?_ | refine vskip ?_ | refine vexit ?_ | refine vblock ?_ | refine vblockN ?_ | refine vblockR ?_ | refine vblockH ?_ | refine vrun_nil ?_ | refine vblockE rfl ?_ | refine vregion [] ?_ | refine vhrun_nil ?_) | ((with_reducible refine vcondT ?_ ?_); (focus (go_simp; done))) | ((with_reducible refine vcondF ?_ ?_); (focus (go_simp; done))) | ((with_reducible first | refine vrun_cons fun KK hKK => ?_ | refine vhrun_cons fun KK hKK => ?_); go_simp; (first | (with_reducible refine ⟨_, g1, ?_⟩) | skip); refine hKK _ ?_; clear hKK KK) | ((refine vdrawL 16 16 [] rfl (by kernel_rfl) (by kernel_rfl) ?_); simp only [List.append, List.take, List.drop]) | ((with_reducible refine vcondS ?_ (fun ht => ?_) (fun ht => ?_)); (focus (go_simp; done)); (all_goals (simp [go_sem] at ht; replace ht := ht.out))))
    go_simp
end Go.Proofs.YthbgghmjbaldlaaGreatDoor

/-! QP5: Events that the program reads; texts of at most 1000 bytes. -/
namespace Go.Proofs.YthbgghmjbaldlaaGreatDoor
open Go.RowKit Go.Shelf
set_option maxRecDepth 100000
set_option maxHeartbeats 1000000
def kindsL : List ByteArray := [⟨#[115, 116, 111, 114, 101, 100]⟩, ⟨#[109, 111, 118, 101, 100]⟩, ⟨#[114, 101, 116, 117, 114, 110, 101, 100]⟩, ⟨#[116, 97, 107, 101, 110]⟩, ⟨#[115, 111, 108, 100]⟩]
theorem kind_ix (W : ByteArray) : ixP (isT kindsL W) 0 5 = kindTo W 5 := by
  simp only [ixP, kindTo, isT]
  by_cases h0 : tat kindsL 0 = W
  · subst h0
    decide
  by_cases h1 : tat kindsL 1 = W
  · subst h1
    decide
  by_cases h2 : tat kindsL 2 = W
  · subst h2
    decide
  by_cases h3 : tat kindsL 3 = W
  · subst h3
    decide
  by_cases h4 : tat kindsL 4 = W
  · subst h4
    decide
  have e0 : word ((0 : Nat) : Int) = tat kindsL 0 := by decide
  have e1 : word ((1 : Nat) : Int) = tat kindsL 1 := by decide
  have e2 : word ((2 : Nat) : Int) = tat kindsL 2 := by decide
  have e3 : word ((3 : Nat) : Int) = tat kindsL 3 := by decide
  have e4 : word ((4 : Nat) : Int) = tat kindsL 4 := by decide
  rw [e0, e1, e2, e3, e4]
  simp [h0, h1, h2, h3, h4]
/-- The event that words tell, or the error, as the program has it. -/
def readP (w : List ByteArray) : Event × Int :=
  if w.length ≠ 5 ∨ hasEmpty w = true then (zeroEv, 7) else
  if fst [unl (progOK (tat w 1).data.toList && decide (0 ≤ kindTo (tat w 2) 5)) 7, unl (isName (tat w 0) && isName (tat w 3) && isName (tat w 4)) 4, unl (isDate (progN (tat w 1).data.toList)) 2] ≠ 0 then
    (zeroEv, fst [unl (progOK (tat w 1).data.toList && decide (0 ≤ kindTo (tat w 2) 5)) 7, unl (isName (tat w 0) && isName (tat w 3) && isName (tat w 4)) 4, unl (isDate (progN (tat w 1).data.toList)) 2])
  else (⟨tat w 0, progN (tat w 1).data.toList, kindTo (tat w 2) 5, tat w 3, tat w 4⟩, 0)
theorem progN_num {l : List UInt8} {v : Int} (h : numT l = some v) : progN l = v := by
  unfold progN
  rw [(num_prog h).1]
theorem readP_eq (w : List ByteArray) : readP w = readEv w := by
  unfold readP readEv evE
  split
  · rfl
  · rw [progOK_eq]
    generalize tat w 0 = a
    generalize tat w 2 = c
    generalize tat w 3 = d
    generalize tat w 4 = e
    cases hn : numT (tat w 1).data.toList with
    | none => simp [numR, fst, unl]
    | some v =>
      rw [progN_num hn]
      simp only [numR, Option.isSome_some, Bool.true_and]
      generalize kindTo c 5 = K
      by_cases hK : K < 0
      · have : decide (0 ≤ K) = false := by simpa using hK
        simp [this, hK, fst, unl]
      · have : decide (0 ≤ K) = true := by simpa using hK
        simp only [this, hK, fst, unl, isDate]
        by_cases hI : inR v 0 100000 = true <;> by_cases hA : isName a = true <;> by_cases hD : isName d = true <;> by_cases hE : isName e = true <;> simp [hI, hA, hD, hE]
theorem p_ParseEvent (s : ByteArray) (hs : s.size ≤ 1000) : VC Tryz.prog 27 [S s] (.tup [.agg (readEv (pieces 32 s)).1.av, I (readEv (pieces 32 s)).2]) := by
  rw [← readP_eq]
  have g1 := v_Split s 32 (by omega)
  have hl := pieces_len 32 s
  have hz : ∀ p ∈ pieces 32 s, p.size ≤ 1000 := fun p hp => by have := pieces_size hp; omega
  generalize pieces 32 s = w at *
  have g2 := v_ContainsTxt w ⟨#[]⟩ (by omega)
  have he : anyP (isT w ⟨#[]⟩) 0 w.length = hasEmpty w := rfl
  rw [he] at g2
  unfold readP
  by_cases h5 : w.length = 5
  · cases hE : hasEmpty w
    · rw [if_neg (by simp [h5])]
      rw [hE] at g2
      obtain ⟨a, b, c, d, e, rfl⟩ : ∃ a b c d e, w = [a, b, c, d, e] := by
        match w, h5 with
        | [a, b, c, d, e], _ => exact ⟨a, b, c, d, e, rfl⟩
      simp only [tat, List.getD_cons_zero, List.getD_cons_succ]
      have g3 := p_number b (by have := hz b (by simp); omega)
      have g4 := v_IndexTxt kindsL c (by decide)
      have n1 := p_isName a (hz a (by simp))
      have n2 := p_isName d (hz d (by simp))
      have n3 := p_isName e (hz e (by simp))
      have hk := kind_ix c
      rw [show kindsL.length = 5 from rfl, hk] at g4
      clear hz he hE h5 hl hk
      generalize progN b.data.toList = n at *
      generalize progOK b.data.toList = ok at *
      generalize kindTo c 5 = K at *
      generalize isName a = A1 at *
      generalize isName d = A2 at *
      generalize isName e = A3 at *
      obtain ⟨R, hR⟩ : ∃ R, fst [unl (ok && decide (0 ≤ K)) 7, unl (A1 && A2 && A3) 4, unl (isDate n) 2] = R := ⟨_, rfl⟩
      rw [hR]
      have HR := Lib.hid hR
      clear hR
      refine VC_of Tryz.func27 rfl (by kernel_rfl) (by kernel_rfl) rfl fun M0 w0 => ?_
      simp only [Tryz.ntmps27, Tryz.results27, enumA]
      by_cases h0 : R = 0
      · rw [if_neg (by simpa using h0)]
        subst h0
        have hR2 := HR.out
        clear HR
        repeat' (first | (with_reducible first | refine vseq ?_ | refine vthenN ?_ | refine vthenE ?_ | refine vthenR ?_ | refine vret ?_ | refine vskip ?_ | refine vexit ?_ | refine vblock ?_ | refine vblockN ?_ | refine vblockR ?_ | refine vblockH ?_ | refine vrun_nil ?_ | refine vblockE rfl ?_ | refine vregion [] ?_ | refine vhrun_nil ?_) | ((with_reducible refine vcondT ?_ ?_); (focus (go_simp; done))) | ((with_reducible refine vcondF ?_ ?_); (focus (go_simp; done))) | ((with_reducible first | refine vrun_cons fun KK hKK => ?_ | refine vhrun_cons fun KK hKK => ?_); go_simp; (first | (with_reducible refine ⟨_, g1, ?_⟩) | (refine ⟨_, g2, ?_⟩) | (with_reducible refine ⟨_, g3, ?_⟩) | (refine ⟨_, g4, ?_⟩) | (with_reducible refine ⟨_, n1, ?_⟩) | (with_reducible refine ⟨_, n2, ?_⟩) | (with_reducible refine ⟨_, n3, ?_⟩) | (with_reducible refine ⟨_, p_unless _ _, ?_⟩) | (with_reducible refine ⟨_, p_isDate _, ?_⟩) | (refine ⟨_, p_firstA _ rfl rfl, ?_⟩) | skip); refine hKK _ ?_; clear hKK KK) | ((refine vdrawL 6 6 [] rfl (by kernel_rfl) (by kernel_rfl) ?_); simp only [List.take, List.drop]) | ((refine vdrawL 14 12 [] rfl (by kernel_rfl) (by kernel_rfl) ?_); simp only [List.take, List.drop]) | ((refine vdrawL 29 29 [] rfl (by kernel_rfl) (by kernel_rfl) ?_); simp only [List.take, List.drop]) | ((with_reducible refine vcondS ?_ (fun ht => ?_) (fun ht => ?_)); (focus (go_simp; done)); (all_goals (simp [go_sem] at ht; replace ht := ht.out))) | ((apply vrun_consG0 rfl); (focus (go_simp <;> exact rfl)); (focus (go_simp; done)); (focus (intro hb0; replace hb0 := hb0.out; go_simp <;> (first | exact rfl | exact g1 | exact g2 | exact g3 | exact g4 | exact n1 | exact n2 | exact n3 | exact p_unless _ _ | exact p_isDate _ | exact p_firstA _ rfl rfl | exact ⟨g1, rfl⟩ | exact ⟨g2, rfl⟩ | exact ⟨g3, rfl⟩ | exact ⟨g4, rfl⟩ | exact ⟨n1, rfl⟩ | exact ⟨n2, rfl⟩ | exact ⟨n3, rfl⟩ | exact ⟨p_unless _ _, rfl⟩ | exact ⟨p_isDate _, rfl⟩ | exact ⟨p_firstA _ rfl rfl, rfl⟩))); intro KK hKK; go_simp; refine hKK _ ?_; clear hKK KK) | ((apply vhrun_consG0 rfl); (focus (go_simp <;> exact rfl)); (focus (intro hb0; replace hb0 := hb0.out; go_simp <;> (first | exact rfl | exact g1 | exact g2 | exact g3 | exact g4 | exact n1 | exact n2 | exact n3 | exact p_unless _ _ | exact p_isDate _ | exact p_firstA _ rfl rfl | exact ⟨g1, rfl⟩ | exact ⟨g2, rfl⟩ | exact ⟨g3, rfl⟩ | exact ⟨g4, rfl⟩ | exact ⟨n1, rfl⟩ | exact ⟨n2, rfl⟩ | exact ⟨n3, rfl⟩ | exact ⟨p_unless _ _, rfl⟩ | exact ⟨p_isDate _, rfl⟩ | exact ⟨p_firstA _ rfl rfl, rfl⟩))); intro KK hKK; go_simp; refine hKK _ ?_; clear hKK KK))
        go_simp
      · rw [if_pos h0]
        have hR2 := HR.out
        clear HR
        repeat' (first | (with_reducible first | refine vseq ?_ | refine vthenN ?_ | refine vthenE ?_ | refine vthenR ?_ | refine vret ?_ | refine vskip ?_ | refine vexit ?_ | refine vblock ?_ | refine vblockN ?_ | refine vblockR ?_ | refine vblockH ?_ | refine vrun_nil ?_ | refine vblockE rfl ?_ | refine vregion [] ?_ | refine vhrun_nil ?_) | ((with_reducible refine vcondT ?_ ?_); (focus (go_simp; done))) | ((with_reducible refine vcondF ?_ ?_); (focus (go_simp; done))) | ((with_reducible first | refine vrun_cons fun KK hKK => ?_ | refine vhrun_cons fun KK hKK => ?_); go_simp; (first | (with_reducible refine ⟨_, g1, ?_⟩) | (refine ⟨_, g2, ?_⟩) | (with_reducible refine ⟨_, g3, ?_⟩) | (refine ⟨_, g4, ?_⟩) | (with_reducible refine ⟨_, n1, ?_⟩) | (with_reducible refine ⟨_, n2, ?_⟩) | (with_reducible refine ⟨_, n3, ?_⟩) | (with_reducible refine ⟨_, p_unless _ _, ?_⟩) | (with_reducible refine ⟨_, p_isDate _, ?_⟩) | (refine ⟨_, p_firstA _ rfl rfl, ?_⟩) | skip); refine hKK _ ?_; clear hKK KK) | ((refine vdrawL 6 6 [] rfl (by kernel_rfl) (by kernel_rfl) ?_); simp only [List.take, List.drop]) | ((refine vdrawL 14 12 [] rfl (by kernel_rfl) (by kernel_rfl) ?_); simp only [List.append, List.take, List.drop]) | ((refine vdrawL 29 29 [] rfl (by kernel_rfl) (by kernel_rfl) ?_); simp only [List.take, List.drop]) | ((with_reducible refine vcondS ?_ (fun ht => ?_) (fun ht => ?_)); (focus (go_simp; done)); (all_goals (simp [go_sem] at ht; replace ht := ht.out))) | ((apply vrun_consG0 rfl); (focus (go_simp <;> exact rfl)); (focus (go_simp; done)); (focus (intro hb0; replace hb0 := hb0.out; go_simp <;> (first | exact rfl | exact g1 | exact g2 | exact g3 | exact g4 | exact n1 | exact n2 | exact n3 | exact p_unless _ _ | exact p_isDate _ | exact p_firstA _ rfl rfl | exact ⟨g1, rfl⟩ | exact ⟨g2, rfl⟩ | exact ⟨g3, rfl⟩ | exact ⟨g4, rfl⟩ | exact ⟨n1, rfl⟩ | exact ⟨n2, rfl⟩ | exact ⟨n3, rfl⟩ | exact ⟨p_unless _ _, rfl⟩ | exact ⟨p_isDate _, rfl⟩ | exact ⟨p_firstA _ rfl rfl, rfl⟩))); intro KK hKK; go_simp; refine hKK _ ?_; clear hKK KK) | ((apply vhrun_consG0 rfl); (focus (go_simp <;> exact rfl)); (focus (intro hb0; replace hb0 := hb0.out; go_simp <;> (first | exact rfl | exact g1 | exact g2 | exact g3 | exact g4 | exact n1 | exact n2 | exact n3 | exact p_unless _ _ | exact p_isDate _ | exact p_firstA _ rfl rfl | exact ⟨g1, rfl⟩ | exact ⟨g2, rfl⟩ | exact ⟨g3, rfl⟩ | exact ⟨g4, rfl⟩ | exact ⟨n1, rfl⟩ | exact ⟨n2, rfl⟩ | exact ⟨n3, rfl⟩ | exact ⟨p_unless _ _, rfl⟩ | exact ⟨p_isDate _, rfl⟩ | exact ⟨p_firstA _ rfl rfl, rfl⟩))); intro KK hKK; go_simp; refine hKK _ ?_; clear hKK KK))
        go_simp
    · rw [if_pos (.inr rfl)]
      rw [hE] at g2
      clear hz he hE
      refine VC_of Tryz.func27 rfl (by kernel_rfl) (by kernel_rfl) rfl fun M0 w0 => ?_
      simp only [Tryz.ntmps27, Tryz.results27, enumA]
      repeat' (first | (with_reducible first | refine vseq ?_ | refine vthenN ?_ | refine vthenE ?_ | refine vthenR ?_ | refine vret ?_ | refine vskip ?_ | refine vexit ?_ | refine vblock ?_ | refine vblockN ?_ | refine vblockR ?_ | refine vblockH ?_ | refine vrun_nil ?_ | refine vblockE rfl ?_ | refine vregion [] ?_ | refine vhrun_nil ?_) | ((with_reducible refine vcondT ?_ ?_); (focus (go_simp; done))) | ((with_reducible refine vcondF ?_ ?_); (focus (go_simp; done))) | ((with_reducible first | refine vrun_cons fun KK hKK => ?_ | refine vhrun_cons fun KK hKK => ?_); go_simp; (first | (with_reducible refine ⟨_, g1, ?_⟩) | (refine ⟨_, g2, ?_⟩) | skip); refine hKK _ ?_; clear hKK KK) | ((refine vdrawL 6 6 [] rfl (by kernel_rfl) (by kernel_rfl) ?_); simp only [List.append, List.take, List.drop]) | ((refine vdrawL 14 12 [] rfl (by kernel_rfl) (by kernel_rfl) ?_); simp only [List.append, List.take, List.drop]) | ((refine vdrawL 29 29 [] rfl (by kernel_rfl) (by kernel_rfl) ?_); simp only [List.append, List.take, List.drop]) | ((with_reducible refine vcondS ?_ (fun ht => ?_) (fun ht => ?_)); (focus (go_simp; done)); (all_goals (simp [go_sem] at ht; replace ht := ht.out))) | ((apply vrun_consG0 rfl); (focus (go_simp <;> exact rfl)); (focus (go_simp; done)); (focus (intro hb0; replace hb0 := hb0.out; go_simp <;> (first | exact rfl | exact g1 | exact g2 | exact ⟨g1, rfl⟩ | exact ⟨g2, rfl⟩))); intro KK hKK; go_simp; refine hKK _ ?_; clear hKK KK) | ((apply vhrun_consG0 rfl); (focus (go_simp <;> exact rfl)); (focus (intro hb0; replace hb0 := hb0.out; go_simp <;> (first | exact rfl | exact g1 | exact g2 | exact ⟨g1, rfl⟩ | exact ⟨g2, rfl⟩))); intro KK hKK; go_simp; refine hKK _ ?_; clear hKK KK))
      go_simp
  · rw [if_pos (.inl h5)]
    have h5i : ¬ (w.length : Int) = 5 := by omega
    clear hz he
    refine VC_of Tryz.func27 rfl (by kernel_rfl) (by kernel_rfl) rfl fun M0 w0 => ?_
    simp only [Tryz.ntmps27, Tryz.results27, enumA]
    repeat' (first | (with_reducible first | refine vseq ?_ | refine vthenN ?_ | refine vthenE ?_ | refine vthenR ?_ | refine vret ?_ | refine vskip ?_ | refine vexit ?_ | refine vblock ?_ | refine vblockN ?_ | refine vblockR ?_ | refine vblockH ?_ | refine vrun_nil ?_ | refine vblockE rfl ?_ | refine vregion [] ?_ | refine vhrun_nil ?_) | ((with_reducible refine vcondT ?_ ?_); (focus (go_simp; done))) | ((with_reducible refine vcondF ?_ ?_); (focus (go_simp; done))) | ((with_reducible first | refine vrun_cons fun KK hKK => ?_ | refine vhrun_cons fun KK hKK => ?_); go_simp; (first | (with_reducible refine ⟨_, g1, ?_⟩) | skip); refine hKK _ ?_; clear hKK KK) | ((refine vdrawL 6 6 [] rfl (by kernel_rfl) (by kernel_rfl) ?_); simp only [List.append, List.take, List.drop]) | ((refine vdrawL 14 12 [] rfl (by kernel_rfl) (by kernel_rfl) ?_); simp only [List.append, List.take, List.drop]) | ((refine vdrawL 29 29 [] rfl (by kernel_rfl) (by kernel_rfl) ?_); simp only [List.append, List.take, List.drop]) | ((with_reducible refine vcondS ?_ (fun ht => ?_) (fun ht => ?_)); (focus (go_simp; done)); (all_goals (simp [go_sem] at ht; replace ht := ht.out))) | ((apply vrun_consG0 rfl); (focus (go_simp <;> exact rfl)); (focus (go_simp; done)); (focus (intro hb0; replace hb0 := hb0.out; go_simp <;> (first | exact rfl | exact g1 | exact ⟨g1, rfl⟩))); intro KK hKK; go_simp; refine hKK _ ?_; clear hKK KK) | ((apply vhrun_consG0 rfl); (focus (go_simp <;> exact rfl)); (focus (intro hb0; replace hb0 := hb0.out; go_simp <;> (first | exact rfl | exact g1 | exact ⟨g1, rfl⟩))); intro KK hKK; go_simp; refine hKK _ ?_; clear hKK KK))
    go_simp
end Go.Proofs.YthbgghmjbaldlaaGreatDoor

/-! QP6: What is told is read back: events; no program in sight. -/
namespace Go.Proofs.YthbgghmjbaldlaaGreatDoor
open Go.RowKit
set_option maxRecDepth 100000
theorem name_no {s : ByteArray} {c : UInt8} (h : isName s = true) (hc : ∀ i, okChar i c.toNat = false) : c ∉ bl s := by
  intro hm
  obtain ⟨i, hi, he⟩ := List.getElem_of_mem hm
  have hi2 : i < s.size := by rw [bl_len] at hi; exact hi
  simp only [isName, Bool.and_eq_true] at h
  have := List.all_eq_true.1 h.2 i (by simpa using hi2)
  have e : byteAt s i = c := by
    rw [← he]
    unfold byteAt bl
    rw [List.getD, List.getElem?_eq_getElem (by rw [size_L]; exact hi2), Option.getD_some]
    rfl
  rw [e, hc] at this
  cases this
theorem name_ne {s : ByteArray} (h : isName s = true) : s ≠ ⟨#[]⟩ := by
  intro e
  subst e
  cases h
theorem name_le {s : ByteArray} (h : isName s = true) : s.size ≤ 12 := by
  simp only [isName, Bool.and_eq_true, decide_eq_true_eq] at h
  exact h.1.2
theorem bl_dec (n : Int) : bl (decT n) = Lib.itoa n := rfl
theorem dec_no {c : UInt8} (n : Int) (h1 : c ≠ 45) (h2 : isD c = false) : c ∉ bl (decT n) := by
  have hd : ∀ m : Nat, c ∉ Lib.decDigits m := fun m hm => by
    have := List.all_eq_true.1 (all_digits m) c hm
    rw [h2] at this
    cases this
  rw [bl_dec]
  unfold Lib.itoa
  split
  · intro hm
    rcases List.mem_cons.1 hm with hm | hm
    · exact h1 hm
    · exact hd _ hm
  · exact hd _
theorem dec_ne (n : Int) : decT n ≠ ⟨#[]⟩ := by
  intro e
  have h : bl (decT n) = [] := by rw [e]; rfl
  rw [bl_dec] at h
  unfold Lib.itoa at h
  split at h
  · cases h
  · exact digits_ne _ h
theorem num_dec {n : Int} (h : 0 ≤ n ∧ n ≤ 999999999) : numT (decT n).data.toList = some n := by
  have e : (decT n).data.toList = Lib.itoa n := rfl
  rw [e]
  refine prog_num rfl ?_
  obtain ⟨m, rfl⟩ : ∃ m : Nat, n = m := ⟨n.toNat, by omega⟩
  rw [Lib.itoa_nonneg]
  have hl := digits_len 8 m (by omega)
  unfold Lib.trimPrefix
  split
  · rw [List.length_drop]
    omega
  · exact hl
theorem join_two (x y : List UInt8) (r : List (List UInt8)) (s : List UInt8) : Lib.join (x :: y :: r) s = x ++ (s ++ Lib.join (y :: r) s) := by
  rw [Lib.join_cons, Lib.join_cons]
  simp [Lib.joinTail]
theorem cut_join {c : UInt8} : ∀ (r : List (List UInt8)) (x : List UInt8), (∀ p ∈ x :: r, c ∉ p) → cutL c (Lib.join (x :: r) [c]) = x :: r
  | [], x, h => by
    rw [Lib.join_one]
    exact cutL_no (h x (by simp))
  | y :: r, x, h => by
    rw [join_two]
    show cutL c (x ++ c :: Lib.join (y :: r) [c]) = _
    rw [cutL_at (h x (by simp)), cut_join r y fun p hp => h p (List.mem_cons_of_mem _ hp)]
theorem pieces_join {c : UInt8} {l : List ByteArray} (hne : l ≠ []) (h : ∀ p ∈ l, c ∉ bl p) : pieces c (joinB l ⟨#[c]⟩) = l := by
  cases l with
  | nil => exact absurd rfl hne
  | cons x r =>
    unfold pieces
    have e : (joinB (x :: r) ⟨#[c]⟩).data.toList = Lib.join (bl x :: r.map bl) [c] := rfl
    rw [e, cut_join _ _ fun p hp => by
      rcases List.mem_cons.1 hp with rfl | hp
      · exact h x (by simp)
      · obtain ⟨q, hq, rfl⟩ := List.mem_map.1 hp
        exact h q (by simp [hq])]
    show (List.map mkB ((x :: r).map bl)) = x :: r
    rw [List.map_map]
    exact (List.map_congr_left fun a _ => rfl).trans (List.map_id _)
theorem ok32 (i : Nat) : okChar i (32 : UInt8).toNat = false := by
  simp [okChar]
theorem ok61 (i : Nat) : okChar i (61 : UInt8).toNat = false := by
  simp [okChar]
theorem word_kind {k : Int} (h : word k ≠ ⟨#[]⟩) : 0 ≤ k ∧ k ≤ 4 := by
  apply Classical.byContradiction
  intro hn
  exact h (word_no hn)
theorem kind_word {k : Int} (h : 0 ≤ k ∧ k ≤ 4) : kindTo (word k) 5 = k ∧ (32 : UInt8) ∉ bl (word k) := by
  have : k = 0 ∨ k = 1 ∨ k = 2 ∨ k = 3 ∨ k = 4 := by omega
  rcases this with rfl | rfl | rfl | rfl | rfl <;> exact ⟨by decide, by decide⟩
/-- A right event with a word is read back. -/
theorem ev_back {x : Event} (h : evE x = 0) (hw : word x.kind ≠ ⟨#[]⟩) : readEv (pieces 32 (evText x)) = (x, 0) := by
  have h0 := h
  have hn : isName x.item = true ∧ isName x.frm = true ∧ isName x.dst = true ∧ inR x.day 0 100000 = true := by
    unfold evE at h
    split at h
    · rename_i hn
      split at h
      · rename_i hd
        simp only [Bool.and_eq_true] at hn
        exact ⟨hn.1.1, hn.1.2, hn.2, hd⟩
      · cases h
    · cases h
  obtain ⟨n1, n2, n3, hd⟩ := hn
  have hd2 := inR_iff.1 hd
  have hk := word_kind hw
  have hkw := kind_word hk
  have e : evText x = joinB [x.item, decT x.day, word x.kind, x.frm, x.dst] ⟨#[32]⟩ := by rw [join_five, evText, if_neg hw]
  rw [e, pieces_join (by simp) (by
    intro p hp
    simp only [List.mem_cons, List.not_mem_nil, or_false] at hp
    rcases hp with rfl | rfl | rfl | rfl | rfl
    · exact name_no n1 ok32
    · exact dec_no _ (by decide) (by decide)
    · exact hkw.2
    · exact name_no n2 ok32
    · exact name_no n3 ok32)]
  have hE : hasEmpty [x.item, decT x.day, word x.kind, x.frm, x.dst] = false := by
    refine anyP_out fun j hj => ?_
    simp only [List.length_cons, List.length_nil] at hj
    rw [isT, decide_eq_false_iff_not]
    have : j = 0 ∨ j = 1 ∨ j = 2 ∨ j = 3 ∨ j = 4 := by omega
    rcases this with rfl | rfl | rfl | rfl | rfl
    · exact name_ne n1
    · exact dec_ne _
    · exact hw
    · exact name_ne n2
    · exact name_ne n3
  unfold readEv
  rw [if_neg (by simp [hE])]
  simp only [tat, List.getD_cons_zero, List.getD_cons_succ]
  rw [num_dec ⟨hd2.1, by omega⟩, hkw.1]
  rw [if_neg (by simp [numR]; omega), if_neg (by simpa [numR] using h0)]
  rfl
end Go.Proofs.YthbgghmjbaldlaaGreatDoor
