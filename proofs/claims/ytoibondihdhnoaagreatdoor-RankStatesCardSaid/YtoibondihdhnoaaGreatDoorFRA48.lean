/- Texts in one: Walks: which states are right, as the reference has them. -/
import Derived.Test.YtoibondihdhnoaaGreatDoorFRA46
import Derived.Test.YtoibondihdhnoaaGreatDoorFRA47
import Derived.Test.YtoibondihdhnoaaGreatDoorFRA32
import Derived.Test.YtoibondihdhnoaaGreatDoorFRA35
namespace Go.Proofs.YtoibondihdhnoaaGreatDoor
open Go.RowKit
set_option maxRecDepth 100000
set_option maxHeartbeats 4000000
theorem fst_app (a b : List Int) : fst (a ++ b) = if fst a = 0 then fst b else fst a := by
 induction a with
 | nil => rfl
 | cons x a ih =>
  by_cases h : x = 0
  ·simp [fst, h, ih]
  ·simp [fst, h]
theorem allE_succ (E : Nat → Int) (n : Nat) : allE E (n + 1) = if allE E n = 0 then E n else allE E n := by
 unfold allE
 rw [List.range_succ, List.map_append, fst_app]
 congr 1
 simp only [List.map_cons, List.map_nil, fst]
 split
 ·rfl
 ·rename_i h
  simp at h
  rw [h]
theorem allE_go {E : Nat → Int} : ∀ {n : Nat}, (∀ j, j < n → (!decide (E j = 0)) = false) → allE E n = 0 := fun h => allE_iff.2 fun j hj => by simpa using h j hj
theorem allE_hit {E : Nat → Int} {k : Nat} : ∀ {n : Nat}, k < n → (∀ j, j < k → (!decide (E j = 0)) = false) → (!decide (E k = 0)) = true → allE E n = E k
 | 0, h, _, _ => by omega
 | n + 1, h, hb, hp => by
  have hne : E k ≠ 0 := by simpa using hp
  rw [allE_succ]
  by_cases he : k = n
  ·subst he
   rw [if_pos (allE_go hb)]
  ·rw [allE_hit (by omega : k < n) hb hp, if_neg hne]
theorem any_in (l : List ByteArray) (c : ByteArray) : anyP (isT l c) 0 l.length = inL c l := by
 rw [Bool.eq_iff_iff, inL_iff]
 constructor
 ·intro h
  apply Classical.byContradiction
  intro hno
  rw [anyP_out fun j hj => by
   rw [isT, decide_eq_false_iff_not, tat_get hj]
   exact fun he => hno (he ▸ List.getElem_mem hj)] at h
  cases h
 ·intro h
  obtain ⟨j, hj, he⟩ := List.getElem_of_mem h
  exact anyP_hit hj (by rw [isT, tat_get hj, he]; simp)
theorem carE_no {c : ByteArray} {l : List ByteArray} (h : isName c = false) : carE c l = 4 := by simp [carE, fst, unl, h]
theorem carE_in {c : ByteArray} {l : List ByteArray} (h : isName c = true) (h2 : inL c l = true) : carE c l = 5 := by simp [carE, fst, unl, h, h2]
theorem carE_ok {c : ByteArray} {l : List ByteArray} (h : isName c = true) (h2 : inL c l = false) : carE c l = 0 := by simp [carE, fst, unl, h, h2]
def rowsK (s : St) (k : Nat) : List ByteArray := (s.q.take k).flatten
@[go_sem] theorem rowsK_0 (s : St) : rowsK s 0 = [] := by simp [rowsK]
theorem rowsK_le {s : St} (h : ∀ k, k < s.q.length → (qat s.q k).length ≤ 300) : ∀ k, k ≤ s.q.length → (rowsK s k).length ≤ k * 300
 | 0, _ => by simp [rowsK]
 | k + 1, hk => by
  have := rowsK_le h k (by omega)
  have h2 := h k (by omega)
  unfold rowsK at this ⊢
  rw [flat_take (by omega), List.length_append]
  omega
def takeS (s : St) (k : Nat) : List ByteArray := s.q.flatten ++ (s.tk.take k).map (·.car)
@[go_sem] theorem takeS_0 (s : St) : takeS s 0 = rowsK s s.q.length := by simp [takeS, rowsK]
theorem takeS_succ {s : St} {k : Nat} (h : k < s.tk.length) : takeS s (k + 1) = takeS s k ++ [(tkat s.tk k).car] := by
 unfold takeS
 rw [takeS_at h, List.map_append, ← List.append_assoc, tkat_get h]
 rfl
theorem takeS_le {s : St} (h : ∀ k, k < s.q.length → (qat s.q k).length ≤ 300) (k : Nat) (hk : k ≤ s.tk.length) : (takeS s k).length ≤ s.q.length * 300 + k := by
 have := rowsK_le h s.q.length (Nat.le_refl _)
 unfold rowsK at this
 rw [List.take_length] at this
 unfold takeS
 rw [List.length_append, List.length_map, List.length_take]
 omega
theorem ck_q {r : Ru} {s : St} {m : Nat} (h : s.q.length = r.ranks.length) (hm : m < s.q.length) (hb : ∀ j, j < m → (!decide (queueE r s j = 0)) = false) (hp : (!decide (queueE r s m = 0)) = true) : checkS r s = queueE r s m := by
 have hne : queueE r s m ≠ 0 := by simpa using hp
 unfold checkS
 rw [decide_eq_true h, allE_hit hm hb hp]
 simp [fst, unl, hne]
theorem ck_8 {r : Ru} {s : St} (h : s.q.length = r.ranks.length) (hq : ∀ j, j < s.q.length → (!decide (queueE r s j = 0)) = false) (h4 : ¬ (s.tk.length : Int) ≤ 40) : checkS r s = 8 := by
 unfold checkS
 rw [decide_eq_true h, allE_go hq, decide_eq_false h4]
 simp [fst, unl]
theorem ck_t {r : Ru} {s : St} {m : Nat} (h : s.q.length = r.ranks.length) (hq : ∀ j, j < s.q.length → (!decide (queueE r s j = 0)) = false) (h4 : (s.tk.length : Int) ≤ 40) (hm : m < s.tk.length) (hb : ∀ j, j < m → (!decide (takeE r s j = 0)) = false) (hp : (!decide (takeE r s m = 0)) = true) : checkS r s = takeE r s m := by
 have hne : takeE r s m ≠ 0 := by simpa using hp
 unfold checkS
 rw [decide_eq_true h, allE_go hq, decide_eq_true h4, allE_hit hm hb hp]
 simp [fst, unl, hne]
theorem ck_e {r : Ru} {s : St} (h : s.q.length = r.ranks.length) (hq : ∀ j, j < s.q.length → (!decide (queueE r s j = 0)) = false) (h4 : (s.tk.length : Int) ≤ 40) (ht : ∀ j, j < s.tk.length → (!decide (takeE r s j = 0)) = false) : checkS r s = fst [unl (inR s.time 0 604800) 2, unl (decide (nextR r s < 0)) 22] := by
 unfold checkS
 rw [decide_eq_true h, allE_go hq, decide_eq_true h4, allE_go ht]
 simp [fst, unl]
theorem take_parts {r : Ru} {s : St} {k : Nat} (h : takeE r s k = 0) : (isName (tkat s.tk k).car = true ∧ (tkat s.tk k).car ∉ takeS s k) ∧ inR (tkat s.tk k).rank 0 ((r.ranks.length : Int) - 1) = true ∧ inR (tkat s.tk k).time 0 s.time = true ∧ (k = 0 ∨ (tkat s.tk (k - 1)).time ≤ (tkat s.tk k).time) := by
 unfold takeE at h
 rw [fst_cons, fst_cons, fst_cons, fst_cons] at h
 have h4 := unl_zero (by decide) h.2.2.2.1
 simp only [Bool.or_eq_true, decide_eq_true_eq] at h4
 exact ⟨carE_iff.1 h.1, unl_zero (by decide) h.2.1, unl_zero (by decide) h.2.2.1, h4⟩
theorem r_CheckState (r : Ru) (s : St) (hr : RuOK r) (hn : r.ranks.length ≤ 1000000) (hs : SmallS s) : VC Tryz.prog 55 [rulesA r, stateA s] (I (checkS r s)) := by
 obtain ⟨E, hE⟩ : ∃ E, checkS r s = E := ⟨_, rfl⟩
 rw [hE]
 have HE := Lib.hid hE
 have hq : ∀ k, k < s.q.length → (qat s.q k).length ≤ 300 := fun k hk => by rw [qat_get hk]; exact (hs.q1 _ (List.getElem_mem hk)).1
 have hqc : ∀ k, k < s.q.length → ∀ j, j < (qat s.q k).length → (tat (qat s.q k) j).size ≤ 1000 := fun k hk j hj => by
  rw [tat_get hj]
  refine (hs.q1 _ ?_).2 _ (List.getElem_mem hj)
  rw [qat_get hk]
  exact List.getElem_mem hk
 have htc : ∀ k, k < s.tk.length → (tkat s.tk k).car.size ≤ 1000 := fun k hk => by rw [tkat_get hk]; exact (hs.t1 _ (List.getElem_mem hk)).1
 have hle := rowsK_le hq
 have hnq := hs.nq
 have hnt := hs.nt
 have HQ := Lib.hid hq
 have HC := Lib.hid hqc
 have HT := Lib.hid htc
 have HL := Lib.hid hle
 have HU := Lib.hid hr
 clear hE hq hqc htc hle hs hr
 by_cases hsh : s.q.length = r.ranks.length
 ·have hsi : (s.q.length : Int) = (r.ranks.length : Int) := by omega
  have HF : FeedOK r s.q.length := by rw [hsh]; exact HU.out.feed
  have gm := r_moves r s hn hsh.symm HF
  have i5 := b_within s.time 0 604800
  have HSH := Lib.hid hsh
  have HFF := Lib.hid HF
  clear HF hsh
  refine VC_of Tryz.func55 rfl (by kernel_rfl) (by kernel_rfl) rfl fun M0 w0 => ?_
  simp only [Tryz.ntmps55, Tryz.results55, enumA]
  repeat' (first | (with_reducible first | refine vseq ?_ | refine vthenN ?_ | refine vskip ?_ | refine vblock ?_ | refine vrun_nil ?_ | refine vregion [5] ?_) | ((with_reducible refine vcondF ?_ ?_); (focus (go_simp; done))) | ((with_reducible refine vrun_cons fun KK hKK => ?_); go_simp; refine hKK _ ?_; clear hKK KK))
  apply vfor [2, 3] (fun k => [(6, I k), (5, .osl 0)]) (fun k => ([some (.arr 9 1 (decide (rowsK s k = [])) ((rowsK s k).map txtA))] : Hp)) (fun k => !decide (queueE r s k = 0)) (s.q.length)
  ·go_simp <;> exact rfl
  ·go_simp
  ·intro m hm HB HP K hK
   obtain ⟨w1, w2, w3, w4, w5, w6⟩ := ixs (m := m) (by omega)
   have hmr : m < r.ranks.length := by have := HSH.out; omega
   have hql := HQ.out m hm
   have hrl := HL.out m (by omega)
   have hp : queueE r s m = 0 := by simpa using HP.out
   unfold queueE at hp
   have hpl : ¬ (rat r.ranks m).places < ((qat s.q m).length : Int) := fun h => by rw [if_pos h] at hp; simp at hp
   rw [if_neg hpl, allE_iff] at hp
   have HPP := Lib.hid hp
   have HK2 := Lib.hid (show rowsK s (m + 1) = rowsK s m ++ qat s.q m from flat_take hm)
   clear hp
   repeat' (first | (with_reducible first | refine vseq ?_ | refine vthenN ?_ | refine vskip ?_ | refine vblock ?_ | refine vrun_nil ?_ | refine vregion [] ?_ | refine vhrun_nil ?_) | ((with_reducible refine vcondT ?_ ?_); (focus (go_simp; done))) | ((with_reducible refine vcondF ?_ ?_); (focus (go_simp; done))) | ((with_reducible first | refine vrun_cons fun KK hKK => ?_ | refine vhrun_cons fun KK hKK => ?_); go_simp; refine hKK _ ?_; clear hKK KK) | ((refine vdrawL 13 13 [] rfl (by kernel_rfl) (by kernel_rfl) ?_); simp only [List.take, List.drop]))
   apply vfor [2, 3, 6] (fun k => [(7, I k), (5, .osl 0)]) (fun k => ([some (.arr 9 1 (decide (rowsK s m ++ (qat s.q m).take k = [])) ((rowsK s m ++ (qat s.q m).take k).map txtA))] : Hp)) (fun j => !decide (nameE (rowsK s m) (qat s.q m) j = 0)) ((qat s.q m).length)
   ·go_simp <;> exact rfl
   ·go_simp
   ·intro j hj HB2 HP2 K2 hK2
    obtain ⟨x1, x2, x3, x4, x5, x6⟩ := ixs (m := j) (by omega)
    have hp2 : nameE (rowsK s m) (qat s.q m) j = 0 := HPP.out j hj
    unfold nameE at hp2
    have hc := carE_iff.1 hp2
    have g1 := b_isName (tat (qat s.q m) j) (by have := HC.out m hm j hj; omega)
    have g2 := b_HasText (rowsK s m ++ (qat s.q m).take j) (tat (qat s.q m) j) (by rw [List.length_append, List.length_take]; omega)
    rw [any_in, show inL (tat (qat s.q m) j) (rowsK s m ++ (qat s.q m).take j) = false by rw [← Bool.not_eq_true, inL_iff]; exact hc.2] at g2
    rw [hc.1] at g1
    have hat := (tat_get hj).symm
    have hts : (qat s.q m).take (j + 1) = (qat s.q m).take j ++ [tat (qat s.q m) j] := by rw [takeS_at hj, tat_get hj]
    have hbl : (rowsK s m ++ (qat s.q m).take j).length + 1 ≤ 1000000000 := by rw [List.length_append, List.length_take]; omega
    rw [hts, ← List.append_assoc] at hK2
    clear hp2 hc hts
    generalize rowsK s m ++ (qat s.q m).take j = L at *
    generalize tat (qat s.q m) j = C at *
    repeat' (first | (with_reducible first | refine vseq ?_ | refine vthenN ?_ | refine vskip ?_ | refine vblock ?_ | refine vblockN ?_ | refine vrun_nil ?_ | refine vregion [] ?_) | ((with_reducible refine vcondT ?_ ?_); (focus (go_simp; done))) | ((with_reducible refine vcondF ?_ ?_); (focus (go_simp; done))) | ((with_reducible refine vrun_cons fun KK hKK => ?_); go_simp; (first | (with_reducible refine ⟨_, g1, ?_⟩) | (refine ⟨_, ⟨g2, rfl⟩, ?_⟩) | skip); refine hKK _ ?_; clear hKK KK))
    refine hK2 _ ?_
    go_simp
   ·intro j hj HB2 HP2 K2
    have h1 : nameE (rowsK s m) (qat s.q m) j = 0 := HPP.out j hj
    have h2 := HP2.out
    rw [h1] at h2
    cases h2
   ·intro HB2 K2
    rw [HK2.out] at hK
    rw [List.take_length]
    repeat' (first | (with_reducible first | refine vseq ?_ | refine vthenN ?_ | refine vthenE ?_ | refine vexit ?_ | refine vblockN ?_ | refine vblockH ?_ | refine vrun_nil ?_ | refine vregion [] ?_) | ((with_reducible refine vcondF ?_ ?_); (focus (go_simp; done))) | ((with_reducible refine vrun_cons fun KK hKK => ?_); go_simp; refine hKK _ ?_; clear hKK KK))
    refine hK _ ?_
    go_simp
  ·intro m hm HB HP K
   obtain ⟨w1, w2, w3, w4, w5, w6⟩ := ixs (m := m) (by omega)
   have hmr : m < r.ranks.length := by have := HSH.out; omega
   have hql := HQ.out m hm
   have hrl := HL.out m (by omega)
   have e := ck_q HSH.out hm HB.out HP.out
   have hp : ¬ queueE r s m = 0 := by simpa using HP.out
   rw [HE.out] at e
   unfold queueE at e hp
   by_cases hpl : (rat r.ranks m).places < ((qat s.q m).length : Int)
   ·rw [if_pos hpl] at e
    subst e
    clear hp
    repeat' (first | (with_reducible first | refine vseq ?_ | refine vthenN ?_ | refine vthenR ?_ | refine vret ?_ | refine vskip ?_ | refine vblock ?_ | refine vblockR ?_ | refine vrun_nil ?_ | refine vregion [] ?_ | refine vhrun_nil ?_) | ((with_reducible refine vcondT ?_ ?_); (focus (go_simp; done))) | ((with_reducible first | refine vrun_cons fun KK hKK => ?_ | refine vhrun_cons fun KK hKK => ?_); go_simp; refine hKK _ ?_; clear hKK KK) | ((refine vdrawL 13 13 [] rfl (by kernel_rfl) (by kernel_rfl) ?_); simp only [List.take, List.drop]))
    go_simp
   rw [if_neg hpl] at e hp
   have HEE := Lib.hid e
   have HPP := Lib.hid hp
   clear e hp
   repeat' (first | (with_reducible first | refine vseq ?_ | refine vthenN ?_ | refine vskip ?_ | refine vblock ?_ | refine vrun_nil ?_ | refine vregion [] ?_ | refine vhrun_nil ?_) | ((with_reducible refine vcondT ?_ ?_); (focus (go_simp; done))) | ((with_reducible refine vcondF ?_ ?_); (focus (go_simp; done))) | ((with_reducible first | refine vrun_cons fun KK hKK => ?_ | refine vhrun_cons fun KK hKK => ?_); go_simp; refine hKK _ ?_; clear hKK KK) | ((refine vdrawL 13 13 [] rfl (by kernel_rfl) (by kernel_rfl) ?_); simp only [List.take, List.drop]))
   apply vfor [2, 3, 6] (fun k => [(7, I k), (5, .osl 0)]) (fun k => ([some (.arr 9 1 (decide (rowsK s m ++ (qat s.q m).take k = [])) ((rowsK s m ++ (qat s.q m).take k).map txtA))] : Hp)) (fun j => !decide (nameE (rowsK s m) (qat s.q m) j = 0)) ((qat s.q m).length)
   ·go_simp <;> exact rfl
   ·go_simp
   ·intro j hj HB2 HP2 K2 hK2
    obtain ⟨x1, x2, x3, x4, x5, x6⟩ := ixs (m := j) (by omega)
    have hp2 : nameE (rowsK s m) (qat s.q m) j = 0 := by simpa using HP2.out
    unfold nameE at hp2
    have hc := carE_iff.1 hp2
    have g1 := b_isName (tat (qat s.q m) j) (by have := HC.out m hm j hj; omega)
    have g2 := b_HasText (rowsK s m ++ (qat s.q m).take j) (tat (qat s.q m) j) (by rw [List.length_append, List.length_take]; omega)
    rw [any_in, show inL (tat (qat s.q m) j) (rowsK s m ++ (qat s.q m).take j) = false by rw [← Bool.not_eq_true, inL_iff]; exact hc.2] at g2
    rw [hc.1] at g1
    have hat := (tat_get hj).symm
    have hts : (qat s.q m).take (j + 1) = (qat s.q m).take j ++ [tat (qat s.q m) j] := by rw [takeS_at hj, tat_get hj]
    have hbl : (rowsK s m ++ (qat s.q m).take j).length + 1 ≤ 1000000000 := by rw [List.length_append, List.length_take]; omega
    rw [hts, ← List.append_assoc] at hK2
    clear hp2 hc hts
    generalize rowsK s m ++ (qat s.q m).take j = L at *
    generalize tat (qat s.q m) j = C at *
    repeat' (first | (with_reducible first | refine vseq ?_ | refine vthenN ?_ | refine vskip ?_ | refine vblock ?_ | refine vblockN ?_ | refine vrun_nil ?_ | refine vregion [] ?_) | ((with_reducible refine vcondT ?_ ?_); (focus (go_simp; done))) | ((with_reducible refine vcondF ?_ ?_); (focus (go_simp; done))) | ((with_reducible refine vrun_cons fun KK hKK => ?_); go_simp; (first | (with_reducible refine ⟨_, g1, ?_⟩) | (refine ⟨_, ⟨g2, rfl⟩, ?_⟩) | skip); refine hKK _ ?_; clear hKK KK))
    refine hK2 _ ?_
    go_simp
   ·intro j hj HB2 HP2 K2
    obtain ⟨x1, x2, x3, x4, x5, x6⟩ := ixs (m := j) (by omega)
    have e : E = allE (nameE (rowsK s m) (qat s.q m)) (qat s.q m).length := HEE.out
    rw [allE_hit hj HB2.out HP2.out] at e
    unfold nameE at e
    have g1 := b_isName (tat (qat s.q m) j) (by have := HC.out m hm j hj; omega)
    have g2 := b_HasText (rowsK s m ++ (qat s.q m).take j) (tat (qat s.q m) j) (by rw [List.length_append, List.length_take]; omega)
    rw [any_in] at g2
    have hat := (tat_get hj).symm
    have hnz : ¬ carE (tat (qat s.q m) j) (rowsK s m ++ (qat s.q m).take j) = 0 := fun h => by
     have h2 := HP2.out
     rw [show nameE (rowsK s m) (qat s.q m) j = 0 from h] at h2
     cases h2
    generalize rowsK s m ++ (qat s.q m).take j = L at *
    generalize tat (qat s.q m) j = C at *
    cases hD : isName C
    ·rw [carE_no hD] at e
     rw [hD] at g1
     subst e
     clear hnz
     repeat' (first | (with_reducible first | refine vseq ?_ | refine vthenN ?_ | refine vthenR ?_ | refine vret ?_ | refine vskip ?_ | refine vblock ?_ | refine vblockR ?_ | refine vrun_nil ?_ | refine vregion [] ?_) | ((with_reducible refine vcondT ?_ ?_); (focus (go_simp; done))) | ((with_reducible refine vrun_cons fun KK hKK => ?_); go_simp; (first | (with_reducible refine ⟨_, g1, ?_⟩) | skip); refine hKK _ ?_; clear hKK KK))
     go_simp
    ·rw [hD] at g1
     cases hI : inL C L
     ·rw [carE_ok hD hI] at hnz
      exact absurd rfl hnz
     ·rw [carE_in hD hI] at e
      rw [hI] at g2
      subst e
      clear hnz
      repeat' (first | (with_reducible first | refine vseq ?_ | refine vthenN ?_ | refine vthenR ?_ | refine vret ?_ | refine vskip ?_ | refine vblock ?_ | refine vblockR ?_ | refine vrun_nil ?_ | refine vregion [] ?_) | ((with_reducible refine vcondT ?_ ?_); (focus (go_simp; done))) | ((with_reducible refine vcondF ?_ ?_); (focus (go_simp; done))) | ((with_reducible refine vrun_cons fun KK hKK => ?_); go_simp; (first | (with_reducible refine ⟨_, g1, ?_⟩) | (refine ⟨_, ⟨g2, rfl⟩, ?_⟩) | skip); refine hKK _ ?_; clear hKK KK))
      go_simp
   ·intro HB2 K2
    exfalso
    exact HPP.out (allE_go HB2.out)
  ·intro HB K
   have HBQ := HB
   clear HB
   by_cases h4 : (s.tk.length : Int) ≤ 40
   ·have h40 : ¬ (40 : Int) < (s.tk.length : Int) := by omega
    have hnil : decide (rowsK s s.q.length = []) = decide (takeS s 0 = []) := by rw [takeS_0]
    repeat' (first | (with_reducible first | refine vseq ?_ | refine vthenN ?_ | refine vthenE ?_ | refine vskip ?_ | refine vexit ?_ | refine vblock ?_ | refine vblockH ?_ | refine vrun_nil ?_ | refine vregion [] ?_) | ((with_reducible refine vcondF ?_ ?_); (focus (go_simp; done))) | ((with_reducible refine vrun_cons fun KK hKK => ?_); go_simp; refine hKK _ ?_; clear hKK KK))
    apply vfor [2, 3] (fun k => [(8, I k), (5, .osl 0)]) (fun k => ([some (.arr 9 1 (decide (takeS s k = [])) ((takeS s k).map txtA))] : Hp)) (fun k => !decide (takeE r s k = 0)) (s.tk.length)
    ·go_simp <;> exact rfl
    ·go_simp
    ·intro k hk HB HP K hK
     obtain ⟨w1, w2, w3, w4, w5, w6⟩ := ixs (m := k) (by omega)
     have hp : takeE r s k = 0 := by simpa using HP.out
     obtain ⟨⟨c1, c2⟩, c3, c4, c5⟩ := take_parts hp
     have hsl := takeS_le HQ.out k (by omega)
     have hbl : (takeS s k).length + 1 ≤ 1000000000 := by omega
     have g1 := b_isName (tkat s.tk k).car (by have := HT.out k hk; omega)
     have g2 := b_HasText (takeS s k) (tkat s.tk k).car (by omega)
     have g3 := r_HasRank r (tkat s.tk k).rank hn
     have g4 := b_within (tkat s.tk k).time 0 s.time
     rw [any_in, show inL (tkat s.tk k).car (takeS s k) = false by rw [← Bool.not_eq_true, inL_iff]; exact c2] at g2
     rw [c1] at g1
     rw [c3] at g3
     rw [c4] at g4
     rw [takeS_succ hk] at hK
     clear hp c1 c2 c3 c4 hsl
     generalize takeS s k = L at *
     rcases k with _ | p
     ·clear c5
      repeat' (first | (with_reducible first | refine vseq ?_ | refine vthenN ?_ | refine vskip ?_ | refine vblock ?_ | refine vblockN ?_ | refine vrun_nil ?_ | refine vregion [] ?_ | refine vhrun_nil ?_) | ((with_reducible refine vcondT ?_ ?_); (focus (go_simp; done))) | ((with_reducible refine vcondF ?_ ?_); (focus (go_simp; done))) | ((with_reducible first | refine vrun_cons fun KK hKK => ?_ | refine vhrun_cons fun KK hKK => ?_); go_simp; (first | (with_reducible refine ⟨_, g1, ?_⟩) | (refine ⟨_, ⟨g2, rfl⟩, ?_⟩) | (refine ⟨_, g3, ?_⟩) | (with_reducible refine ⟨_, g4, ?_⟩) | skip); refine hKK _ ?_; clear hKK KK) | ((refine vdrawL 14 14 [] rfl (by kernel_rfl) (by kernel_rfl) ?_); simp only [List.take, List.drop]))
      refine hK _ ?_
      go_simp
     ·have ho : ¬ (tkat s.tk (p + 1)).time < (tkat s.tk p).time := by
       have : p + 1 - 1 = p := by omega
       rw [this] at c5
       omega
      obtain ⟨x1, x2, x3, x4, x5, x6⟩ := ixs (m := p) (by omega)
      have hpl : p < s.tk.length := by omega
      have hpl2 : (p : Int) + 1 < (s.tk.length : Int) := by omega
      have hpl3 : ¬ (p : Int) + 1 ≤ 0 := by omega
      have hpl4 : (0 : Int) < (p : Int) + 1 := by omega
      clear c5
      repeat' (first | (with_reducible first | refine vseq ?_ | refine vthenN ?_ | refine vskip ?_ | refine vblock ?_ | refine vblockN ?_ | refine vrun_nil ?_ | refine vregion [] ?_ | refine vhrun_nil ?_) | ((with_reducible refine vcondT ?_ ?_); (focus (go_simp; done))) | ((with_reducible refine vcondF ?_ ?_); (focus (go_simp; done))) | ((with_reducible first | refine vrun_cons fun KK hKK => ?_ | refine vhrun_cons fun KK hKK => ?_); go_simp; (first | (with_reducible refine ⟨_, g1, ?_⟩) | (refine ⟨_, ⟨g2, rfl⟩, ?_⟩) | (refine ⟨_, g3, ?_⟩) | (with_reducible refine ⟨_, g4, ?_⟩) | skip); refine hKK _ ?_; clear hKK KK) | ((refine vdrawL 14 14 [] rfl (by kernel_rfl) (by kernel_rfl) ?_); simp only [List.take, List.drop]))
      refine hK _ ?_
      go_simp
    ·intro k hk HB HP K
     obtain ⟨w1, w2, w3, w4, w5, w6⟩ := ixs (m := k) (by omega)
     have e := ck_t HSH.out HBQ.out h4 hk HB.out HP.out
     have hp : ¬ takeE r s k = 0 := by simpa using HP.out
     rw [HE.out] at e
     have hsl := takeS_le HQ.out k (by omega)
     have g1 := b_isName (tkat s.tk k).car (by have := HT.out k hk; omega)
     have g2 := b_HasText (takeS s k) (tkat s.tk k).car (by omega)
     have g3 := r_HasRank r (tkat s.tk k).rank hn
     have g4 := b_within (tkat s.tk k).time 0 s.time
     rw [any_in] at g2
     unfold takeE at e hp
     rw [show s.q.flatten ++ (s.tk.take k).map (·.car) = takeS s k from rfl] at e hp
     clear hsl
     generalize takeS s k = L at *
     cases hD : isName (tkat s.tk k).car
     ·rw [carE_no hD] at e
      rw [hD] at g1
      have e2 : E = 4 := by rw [e]; rfl
      subst e2
      clear hp e
      repeat' (first | (with_reducible first | refine vseq ?_ | refine vthenN ?_ | refine vthenR ?_ | refine vret ?_ | refine vskip ?_ | refine vblock ?_ | refine vblockR ?_ | refine vrun_nil ?_ | refine vregion [] ?_) | ((with_reducible refine vcondT ?_ ?_); (focus (go_simp; done))) | ((with_reducible refine vrun_cons fun KK hKK => ?_); go_simp; (first | (with_reducible refine ⟨_, g1, ?_⟩) | skip); refine hKK _ ?_; clear hKK KK))
      go_simp
     rw [hD] at g1
     by_cases hI' : inL (tkat s.tk k).car L = true
     ·have hI := hI'
      rw [carE_in hD hI] at e
      rw [hI] at g2
      have e2 : E = 5 := by rw [e]; rfl
      subst e2
      clear hp e
      repeat' (first | (with_reducible first | refine vseq ?_ | refine vthenN ?_ | refine vthenR ?_ | refine vret ?_ | refine vskip ?_ | refine vblock ?_ | refine vblockR ?_ | refine vrun_nil ?_ | refine vregion [] ?_) | ((with_reducible refine vcondT ?_ ?_); (focus (go_simp; done))) | ((with_reducible refine vcondF ?_ ?_); (focus (go_simp; done))) | ((with_reducible refine vrun_cons fun KK hKK => ?_); go_simp; (first | (with_reducible refine ⟨_, g1, ?_⟩) | (refine ⟨_, ⟨g2, rfl⟩, ?_⟩) | skip); refine hKK _ ?_; clear hKK KK))
      go_simp
     have hI : inL (tkat s.tk k).car L = false := by simpa using hI'
     clear hI'
     rw [carE_ok hD hI] at e hp
     rw [hI] at g2
     cases hR : inR (tkat s.tk k).rank 0 ((r.ranks.length : Int) - 1)
     ·rw [hR] at e g3
      have e2 : E = 6 := by rw [e]; rfl
      subst e2
      clear hp e
      repeat' (first | (with_reducible first | refine vseq ?_ | refine vthenN ?_ | refine vthenR ?_ | refine vret ?_ | refine vskip ?_ | refine vblock ?_ | refine vblockR ?_ | refine vrun_nil ?_ | refine vregion [] ?_) | ((with_reducible refine vcondT ?_ ?_); (focus (go_simp; done))) | ((with_reducible refine vcondF ?_ ?_); (focus (go_simp; done))) | ((with_reducible refine vrun_cons fun KK hKK => ?_); go_simp; (first | (with_reducible refine ⟨_, g1, ?_⟩) | (refine ⟨_, ⟨g2, rfl⟩, ?_⟩) | (refine ⟨_, g3, ?_⟩) | skip); refine hKK _ ?_; clear hKK KK))
      go_simp
     rw [hR] at e g3 hp
     cases hM : inR (tkat s.tk k).time 0 s.time
     ·rw [hM] at e g4
      have e2 : E = 2 := by rw [e]; rfl
      subst e2
      clear hp e
      repeat' (first | (with_reducible first | refine vseq ?_ | refine vthenN ?_ | refine vthenR ?_ | refine vret ?_ | refine vskip ?_ | refine vblock ?_ | refine vblockR ?_ | refine vrun_nil ?_ | refine vregion [] ?_) | ((with_reducible refine vcondT ?_ ?_); (focus (go_simp; done))) | ((with_reducible refine vcondF ?_ ?_); (focus (go_simp; done))) | ((with_reducible refine vrun_cons fun KK hKK => ?_); go_simp; (first | (with_reducible refine ⟨_, g1, ?_⟩) | (refine ⟨_, ⟨g2, rfl⟩, ?_⟩) | (refine ⟨_, g3, ?_⟩) | (with_reducible refine ⟨_, g4, ?_⟩) | skip); refine hKK _ ?_; clear hKK KK))
      go_simp
     rw [hM] at e g4 hp
     rcases k with _ | p
     ·exact absurd rfl hp
     ·have hsub : p + 1 - 1 = p := by omega
      rw [hsub] at e hp
      have ho : (tkat s.tk (p + 1)).time < (tkat s.tk p).time := by
       apply Classical.byContradiction
       intro hh
       rw [decide_eq_true (by omega : (tkat s.tk p).time ≤ (tkat s.tk (p + 1)).time), Bool.or_true] at hp
       exact hp rfl
      obtain ⟨x1, x2, x3, x4, x5, x6⟩ := ixs (m := p) (by omega)
      have hpl : p < s.tk.length := by omega
      have hpl2 : (p : Int) + 1 < (s.tk.length : Int) := by omega
      have hpl3 : ¬ (p : Int) + 1 ≤ 0 := by omega
      have hpl4 : (0 : Int) < (p : Int) + 1 := by omega
      have e2 : E = 9 := by rw [e, decide_eq_false (by omega : ¬ (tkat s.tk p).time ≤ (tkat s.tk (p + 1)).time), decide_eq_false (by omega : ¬ p + 1 = 0)]; rfl
      subst e2
      clear hp e
      repeat' (first | (with_reducible first | refine vseq ?_ | refine vthenN ?_ | refine vthenR ?_ | refine vret ?_ | refine vskip ?_ | refine vblock ?_ | refine vblockR ?_ | refine vrun_nil ?_ | refine vregion [] ?_ | refine vhrun_nil ?_) | ((with_reducible refine vcondT ?_ ?_); (focus (go_simp; done))) | ((with_reducible refine vcondF ?_ ?_); (focus (go_simp; done))) | ((with_reducible first | refine vrun_cons fun KK hKK => ?_ | refine vhrun_cons fun KK hKK => ?_); go_simp; (first | (with_reducible refine ⟨_, g1, ?_⟩) | (refine ⟨_, ⟨g2, rfl⟩, ?_⟩) | (refine ⟨_, g3, ?_⟩) | (with_reducible refine ⟨_, g4, ?_⟩) | skip); refine hKK _ ?_; clear hKK KK) | ((refine vdrawL 14 14 [] rfl (by kernel_rfl) (by kernel_rfl) ?_); simp only [List.take, List.drop]))
      go_simp
    ·intro HB K
     have e := ck_e HSH.out HBQ.out h4 HB.out
     rw [HE.out] at e
     cases hM : inR s.time 0 604800
     ·rw [hM] at e i5
      have e2 : E = 2 := by rw [e]; rfl
      subst e2
      clear e
      repeat' (first | (with_reducible first | refine vseq ?_ | refine vthenN ?_ | refine vthenE ?_ | refine vthenR ?_ | refine vret ?_ | refine vexit ?_ | refine vblockH ?_ | refine vrun_nil ?_ | refine vregion [] ?_) | ((with_reducible refine vcondT ?_ ?_); (focus (go_simp; done))) | ((with_reducible refine vcondF ?_ ?_); (focus (go_simp; done))) | ((with_reducible refine vrun_cons fun KK hKK => ?_); go_simp; (first | (with_reducible refine ⟨_, i5, ?_⟩) | skip); refine hKK _ ?_; clear hKK KK))
      go_simp
     ·rw [hM] at e i5
      by_cases hx : nextR r s < 0
      ·rw [decide_eq_true hx] at e
       have e2 : E = 0 := by rw [e]; rfl
       subst e2
       have hx2 : ¬ 0 ≤ nextR r s := by omega
       clear e
       generalize nextR r s = NX at *
       repeat' (first | (with_reducible first | refine vseq ?_ | refine vthenN ?_ | refine vthenE ?_ | refine vret ?_ | refine vskip ?_ | refine vexit ?_ | refine vblockH ?_ | refine vrun_nil ?_ | refine vregion [] ?_) | ((with_reducible refine vcondF ?_ ?_); (focus (go_simp; done))) | ((with_reducible refine vrun_cons fun KK hKK => ?_); go_simp; (first | (with_reducible refine ⟨_, i5, ?_⟩) | (refine ⟨_, gm, ?_⟩) | skip); refine hKK _ ?_; clear hKK KK))
       go_simp
      ·rw [decide_eq_false hx] at e
       have e2 : E = 22 := by rw [e]; rfl
       subst e2
       have hx2 : 0 ≤ nextR r s := by omega
       clear e
       generalize nextR r s = NX at *
       repeat' (first | (with_reducible first | refine vseq ?_ | refine vthenN ?_ | refine vthenE ?_ | refine vthenR ?_ | refine vret ?_ | refine vskip ?_ | refine vexit ?_ | refine vblockH ?_ | refine vrun_nil ?_ | refine vregion [] ?_) | ((with_reducible refine vcondT ?_ ?_); (focus (go_simp; done))) | ((with_reducible refine vcondF ?_ ?_); (focus (go_simp; done))) | ((with_reducible refine vrun_cons fun KK hKK => ?_); go_simp; (first | (with_reducible refine ⟨_, i5, ?_⟩) | (refine ⟨_, gm, ?_⟩) | skip); refine hKK _ ?_; clear hKK KK))
       go_simp
   ·have h40 : (40 : Int) < (s.tk.length : Int) := by omega
    have e := ck_8 HSH.out HBQ.out h4
    rw [HE.out] at e
    subst e
    repeat' (first | (with_reducible first | refine vseq ?_ | refine vthenN ?_ | refine vthenE ?_ | refine vthenR ?_ | refine vret ?_ | refine vexit ?_ | refine vblockH ?_ | refine vrun_nil ?_ | refine vregion [] ?_) | ((with_reducible refine vcondT ?_ ?_); (focus (go_simp; done))) | ((with_reducible refine vcondF ?_ ?_); (focus (go_simp; done))) | ((with_reducible refine vrun_cons fun KK hKK => ?_); go_simp; refine hKK _ ?_; clear hKK KK))
    go_simp
 ·have hsi : ¬ (s.q.length : Int) = (r.ranks.length : Int) := by omega
  have e : checkS r s = 10 := by
   unfold checkS
   rw [decide_eq_false hsh]
   rfl
  rw [HE.out] at e
  subst e
  refine VC_of Tryz.func55 rfl (by kernel_rfl) (by kernel_rfl) rfl fun M0 w0 => ?_
  simp only [Tryz.ntmps55, Tryz.results55, enumA]
  repeat' (first | (with_reducible first | refine vseq ?_ | refine vthenN ?_ | refine vthenR ?_ | refine vret ?_ | refine vrun_nil ?_ | refine vregion [] ?_) | ((with_reducible refine vcondT ?_ ?_); (focus (go_simp; done))) | ((with_reducible refine vrun_cons fun KK hKK => ?_); go_simp; refine hKK _ ?_; clear hKK KK))
  go_simp
end Go.Proofs.YtoibondihdhnoaaGreatDoor
namespace Go.Proofs.YtoibondihdhnoaaGreatDoor
open Go.RowKit
set_option maxRecDepth 100000
set_option maxHeartbeats 4000000
def kvOf (L : List ByteArray) : KV := L.foldl (fun m c => updK (.string c) (.bool true) m) []
@[go_sem] theorem kvOf_0 : kvOf [] = [] := rfl
theorem kvOf_snoc (L : List ByteArray) (c : ByteArray) : kvOf (L ++ [c]) = updK (.string c) (.bool true) (kvOf L) := by simp [kvOf]
theorem snoc_ind {P : List ByteArray → Prop} (h0 : P []) (h1 : ∀ l c, P l → P (l ++ [c])) (l : List ByteArray) : P l := by
 have h : ∀ r : List ByteArray, P r.reverse := fun r => by
  induction r with
  | nil => exact h0
  | cons c r ih =>
   rw [List.reverse_cons]
   exact h1 _ _ ih
 have := h l.reverse
 rwa [List.reverse_reverse] at this
theorem inL_snoc (c d : ByteArray) (l : List ByteArray) : inL c (l ++ [d]) = (inL c l || decide (c = d)) := by
 rw [Bool.eq_iff_iff, inL_iff]
 simp [inL_iff]
theorem kvOf_find (c : ByteArray) (L : List ByteArray) : findK (.string c) (kvOf L) = if inL c L = true then some (.bool true) else none := by
 refine snoc_ind (P := fun L => findK (.string c) (kvOf L) = if inL c L = true then some (.bool true) else none) ?_ (fun l d ih => ?_) L
 ·rw [if_neg (by rw [inL_iff]; simp)]
  rfl
 rw [kvOf_snoc, find_upd, ih, inL_snoc]
 by_cases h : c = d
 ·rw [if_pos h, if_pos (by simp [h])]
 ·rw [if_neg h, decide_eq_false h, Bool.or_false]
theorem kvOf_get (c : ByteArray) (L : List ByteArray) : (findK (.string c) (kvOf L)).getD (.bool false) = .bool (inL c L) := by
 rw [kvOf_find]
 cases h : inL c L <;> rfl
theorem w_name (c : ByteArray) (L : List ByteArray) (hc : c.size ≤ 1000) : VH Tryz.prog 114 [some (.box [.mp 1]), some (.mpo (4, .i64) (kvOf L))] [S c, .ref 0 0] [1] [some (.box [.mp 1]), some (.mpo (4, .i64) (kvOf (L ++ [c])))] (I (carE c L)) := by
 have g1 := p_isName c hc
 have g2 := p_unless (isName c) 4
 have g3 := p_unless (!inL c L) 5
 have g4 : VC Tryz.prog 88 [.sl 1 ([unl (isName c) 4, unl (!inL c L) 5].map intA)] (I (carE c L)) := p_firstR _ rfl rfl
 have hf := kvOf_get c L
 rw [kvOf_snoc]
 generalize carE c L = E at *
 generalize isName c = D1 at *
 generalize inL c L = D2 at *
 generalize unl D1 4 = A1 at *
 generalize unl (!D2) 5 = A2 at *
 generalize kvOf L = M at *
 refine VH_of Tryz.func114 rfl (by kernel_rfl) rfl (fun _ => by kernel_rfl) fun M0 w0 vs => ?_
 simp only [Tryz.ntmps114, Tryz.results114, enumA]
 repeat' (first | (with_reducible first | refine vseq ?_ | refine vthenN ?_ | refine vret ?_ | refine vrun_nil ?_ | refine vregion [] ?_ | refine vhrun_nil ?_) | ((with_reducible first | refine vrun_cons fun KK hKK => ?_ | refine vhrun_cons fun KK hKK => ?_); go_simp; (first | (with_reducible refine ⟨_, g1, ?_⟩) | (with_reducible refine ⟨_, g2, ?_⟩) | (with_reducible refine ⟨_, g3, ?_⟩) | (refine ⟨_, g4, ?_⟩) | skip); refine hKK _ ?_; clear hKK KK) | ((refine vdrawL 11 11 [] rfl (by kernel_rfl) (by kernel_rfl) ?_); simp only [List.take, List.drop]))
 go_simp
theorem VC.args {P : Program} {f : FuncId} {args args' : List AV} {r : AV} (h : VC P f args r) (hl : args'.length = args.length) (ha : ∀ (i : Nat) (a a' : AV), args[i]? = some a → args'[i]? = some a' → ∀ (w : World) (M : Nat → Nat → Prop) (v : Value), V0 w M a' v → V0 w M a v) : VC P f args' r :=
 ⟨h.1, fun w M vs hM hvl hv => h.2 w M vs hM (hvl.trans hl) fun i a v hi hvi => by
  have hlt : i < args'.length := by
   rw [hl]
   exact (List.getElem?_eq_some_iff.1 hi).1
  exact ha i a _ hi (List.getElem?_eq_getElem hlt) w M v (hv i _ v (List.getElem?_eq_getElem hlt) hvi)⟩
theorem V0.vpNil {w : World} {M : Nat → Nat → Prop} {v : Value} {a b c d e g : AV} (h : V0 w M (.vp [a, b, c, d, e, g, nil_]) v) : V0 w M (.vp [a, b, c, d, e, g, .sl 3 []]) v := by
 cases h with
 | vp _ bk o u hb hM h1 hc hv =>
  refine .vp _ bk o u hb (fun j hj => hM j (by simpa using hj)) (fun x hx => ?_) (fun j hj => hc j (by simpa using hj)) fun j x hj => ?_
  ·simp only [List.mem_cons, List.not_mem_nil, or_false] at hx
   rcases hx with rfl | rfl | rfl | rfl | rfl | rfl | rfl
   ·exact h1 _ (by simp)
   ·exact h1 _ (by simp)
   ·exact h1 _ (by simp)
   ·exact h1 _ (by simp)
   ·exact h1 _ (by simp)
   ·exact h1 _ (by simp)
   ·rfl
  ·rcases j with _ | _ | _ | _ | _ | _ | _ | j
   ·exact hv 0 x hj
   ·exact hv 1 x hj
   ·exact hv 2 x hj
   ·exact hv 3 x hj
   ·exact hv 4 x hj
   ·exact hv 5 x hj
   ·simp only [List.getElem?_cons_zero, List.getElem?_cons_succ, Option.some.injEq] at hj
    subst hj
    exact (hv 6 _ rfl).nilSl 3
   ·simp at hj
theorem p_nextN (r : Ru) (s : St) (hl : r.ranks.length ≤ 1000000) (hr : r.ranks.length = s.q.length) (hf : FeedOK r s.q.length) : VC Tryz.prog 115 [.vp [queuesA s.q, .sl 3 (s.tk.map Tk.av), I s.time, .sl 4 (r.ranks.map Rk.av), I r.back, I r.ret, nil_]] (I (nextR r s)) :=
 (p_next r s [] hl hr hf).args rfl fun i a a' h1 h2 w M v hv => by
  rcases i with _ | i
  ·simp only [List.getElem?_cons_zero, Option.some.injEq] at h1 h2
   subst h1
   subst h2
   exact hv.vpNil
  ·simp at h1
end Go.Proofs.YtoibondihdhnoaaGreatDoor
namespace Go.Proofs.YtoibondihdhnoaaGreatDoor
open Go.RowKit
set_option maxRecDepth 100000
set_option maxHeartbeats 4000000
theorem p_CheckStateR (r : Ru) (s : St) (hn : r.ranks.length ≤ 1000000) (hnm : ∀ k, k < r.ranks.length → (rat r.ranks k).name.size ≤ 1000) (hs : SmallS s) (h : (checkR r).2 ≠ 0 ∨ s.q.length ≠ r.ranks.length) : VC Tryz.prog 52 [rulesA r, stateA s] (I (fst [(checkR r).2, 10])) := by
 have g1 := p_rulesErr r hn hnm
 have hnq := hs.nq
 have ed : decide ((s.q.length : Int) = (r.ranks.length : Int)) = decide (s.q.length = r.ranks.length) := by
  by_cases hh : s.q.length = r.ranks.length
  ·rw [decide_eq_true hh, decide_eq_true (by omega)]
  ·rw [decide_eq_false hh, decide_eq_false (by omega)]
 have g2 := p_unless (decide (s.q.length = r.ranks.length)) 10
 have g3 : VC Tryz.prog 88 [.sl 1 ([(checkR r).2, unl (decide (s.q.length = r.ranks.length)) 10].map intA)] (I (fst [(checkR r).2, unl (decide (s.q.length = r.ranks.length)) 10])) := p_firstR _ rfl rfl
 have e : fst [(checkR r).2, unl (decide (s.q.length = r.ranks.length)) 10] = fst [(checkR r).2, 10] := by
  rcases h with h | h
  ·simp [fst, h]
  ·rw [decide_eq_false h]
   rfl
 have hne : fst [(checkR r).2, 10] ≠ 0 := by
  simp only [fst]
  split
  ·assumption
  ·decide
 rw [e] at g3
 rw [← ed] at g2 g3
 generalize fst [(checkR r).2, 10] = F at *
 generalize (checkR r).2 = A1 at *
 clear e h
 generalize unl (decide ((s.q.length : Int) = (r.ranks.length : Int))) 10 = A2 at *
 by_cases hq : (s.q.length : Int) = (r.ranks.length : Int)
 ·rw [decide_eq_true hq] at g2 ed
  clear ed
  refine VC_of Tryz.func52 rfl (by kernel_rfl) (by kernel_rfl) rfl fun M0 w0 => ?_
  simp only [Tryz.ntmps52, Tryz.results52, enumA]
  repeat' (first | (with_reducible first | refine vseq ?_ | refine vthenN ?_ | refine vthenR ?_ | refine vret ?_ | refine vrun_nil ?_ | refine vregion [] ?_ | refine vhrun_nil ?_) | ((with_reducible refine vcondT ?_ ?_); (focus (go_simp; done))) | ((with_reducible first | refine vrun_cons fun KK hKK => ?_ | refine vhrun_cons fun KK hKK => ?_); go_simp; (first | (with_reducible refine ⟨_, g1, ?_⟩) | (with_reducible refine ⟨_, g2, ?_⟩) | (refine ⟨_, g3, ?_⟩) | skip); refine hKK _ ?_; clear hKK KK) | ((refine vdrawL 13 13 [] rfl (by kernel_rfl) (by kernel_rfl) ?_); simp only [List.take, List.drop]))
  go_simp
 ·rw [decide_eq_false hq] at g2 ed
  clear ed
  refine VC_of Tryz.func52 rfl (by kernel_rfl) (by kernel_rfl) rfl fun M0 w0 => ?_
  simp only [Tryz.ntmps52, Tryz.results52, enumA]
  repeat' (first | (with_reducible first | refine vseq ?_ | refine vthenN ?_ | refine vthenR ?_ | refine vret ?_ | refine vrun_nil ?_ | refine vregion [] ?_ | refine vhrun_nil ?_) | ((with_reducible refine vcondT ?_ ?_); (focus (go_simp; done))) | ((with_reducible first | refine vrun_cons fun KK hKK => ?_ | refine vhrun_cons fun KK hKK => ?_); go_simp; (first | (with_reducible refine ⟨_, g1, ?_⟩) | (with_reducible refine ⟨_, g2, ?_⟩) | (refine ⟨_, g3, ?_⟩) | skip); refine hKK _ ?_; clear hKK KK) | ((refine vdrawL 13 13 [] rfl (by kernel_rfl) (by kernel_rfl) ?_); simp only [List.take, List.drop]))
  go_simp
theorem p_CheckState0 (r : Ru) (s : St) (hn : r.ranks.length ≤ 1000000) (hnm : ∀ k, k < r.ranks.length → (rat r.ranks k).name.size ≤ 1000) (hs : SmallS s) (h0 : (checkR r).2 = 0) (hsh : s.q.length = r.ranks.length) : VC Tryz.prog 52 [rulesA r, stateA s] (I (checkS r s)) := by
 obtain ⟨E, hE⟩ : ∃ E, checkS r s = E := ⟨_, rfl⟩
 rw [hE]
 have HE := Lib.hid hE
 have g1 := p_rulesErr r hn hnm
 have g2 := p_unless true 10
 have g3 : VC Tryz.prog 88 [.sl 1 ([(checkR r).2, unl true 10].map intA)] (I (fst [(checkR r).2, unl true 10])) := p_firstR _ rfl rfl
 rw [h0] at g1 g3
 have e0 : unl true 10 = 0 := rfl
 have e1 : fst [0, unl true 10] = 0 := rfl
 rw [e1] at g3
 rw [e0] at g2 g3
 have hr := (checkR_ok h0).1
 have hq : ∀ k, k < s.q.length → (qat s.q k).length ≤ 300 := fun k hk => by rw [qat_get hk]; exact (hs.q1 _ (List.getElem_mem hk)).1
 have hqc : ∀ k, k < s.q.length → ∀ j, j < (qat s.q k).length → (tat (qat s.q k) j).size ≤ 1000 := fun k hk j hj => by
  rw [tat_get hj]
  refine (hs.q1 _ ?_).2 _ (List.getElem_mem hj)
  rw [qat_get hk]
  exact List.getElem_mem hk
 have htc : ∀ k, k < s.tk.length → (tkat s.tk k).car.size ≤ 1000 := fun k hk => by rw [tkat_get hk]; exact (hs.t1 _ (List.getElem_mem hk)).1
 have hnq := hs.nq
 have hnt := hs.nt
 have HF : FeedOK r s.q.length := by rw [hsh]; exact hr.feed
 have gm := p_nextN r s hn hsh.symm HF
 have i5 := p_within s.time 0 604800
 have u5 := p_unless (inR s.time 0 604800) 2
 have u6 := p_unless (decide (nextR r s < 0)) 22
 have g6 : VC Tryz.prog 88 [.sl 1 ([unl (inR s.time 0 604800) 2, unl (decide (nextR r s < 0)) 22].map intA)] (I (fst [unl (inR s.time 0 604800) 2, unl (decide (nextR r s < 0)) 22])) := p_firstR _ rfl rfl
 have hsi : (s.q.length : Int) = (r.ranks.length : Int) := by omega
 have HQ := Lib.hid hq
 have HC := Lib.hid hqc
 have HT := Lib.hid htc
 have HSH := Lib.hid hsh
 have HKV : Hid (kvOf (rowsK s 0) = []) := Lib.hid (by rw [rowsK_0]; rfl)
 clear hE hq hqc htc hr hs hsh h0 e0 e1 HF hnm
 refine VC_of Tryz.func52 rfl (by kernel_rfl) (by kernel_rfl) rfl fun M0 w0 => ?_
 simp only [Tryz.ntmps52, Tryz.results52, enumA]
 repeat' (first | (with_reducible first | refine vseq ?_ | refine vthenN ?_ | refine vskip ?_ | refine vblock ?_ | refine vrun_nil ?_ | refine vregion [] ?_ | refine vhrun_nil ?_) | ((with_reducible refine vcondF ?_ ?_); (focus (go_simp; done))) | ((with_reducible first | refine vrun_cons fun KK hKK => ?_ | refine vhrun_cons fun KK hKK => ?_); go_simp; (first | (with_reducible refine ⟨_, g1, ?_⟩) | (with_reducible refine ⟨_, g2, ?_⟩) | (refine ⟨_, g3, ?_⟩) | skip); refine hKK _ ?_; clear hKK KK) | ((refine vdrawL 13 13 [] rfl (by kernel_rfl) (by kernel_rfl) ?_); simp only [List.take, List.drop]))
 apply vfor [2, 3, 7, 35, 36] (fun k => [(37, I k)]) (fun k => ([some (.mpo (4, .i64) (kvOf (rowsK s k))), some (.box [.mp 0])] : Hp)) (fun k => !decide (queueE r s k = 0)) (s.q.length)
 ·go_simp <;> exact rfl
 ·go_simp
 ·intro m hm HB HP K hK
  obtain ⟨w1, w2, w3, w4, w5, w6⟩ := ixs (m := m) (by omega)
  have hmr : m < r.ranks.length := by have := HSH.out; omega
  have hql := HQ.out m hm
  have hp : queueE r s m = 0 := by simpa using HP.out
  unfold queueE at hp
  have hpl : ¬ (rat r.ranks m).places < ((qat s.q m).length : Int) := fun h => by rw [if_pos h] at hp; simp at hp
  rw [if_neg hpl, allE_iff] at hp
  have HPP := Lib.hid hp
  have HK2 := Lib.hid (show rowsK s (m + 1) = rowsK s m ++ qat s.q m from flat_take hm)
  clear hp
  repeat' (first | (with_reducible first | refine vseq ?_ | refine vthenN ?_ | refine vskip ?_ | refine vblock ?_ | refine vrun_nil ?_ | refine vregion [] ?_) | ((with_reducible refine vcondT ?_ ?_); (focus (go_simp; done))) | ((with_reducible refine vcondF ?_ ?_); (focus (go_simp; done))) | ((with_reducible refine vrun_cons fun KK hKK => ?_); go_simp; refine hKK _ ?_; clear hKK KK))
  apply vfor [2, 3, 7, 35, 36, 37, 51, 52] (fun k => [(53, I k)]) (fun k => ([some (.mpo (4, .i64) (kvOf (rowsK s m ++ (qat s.q m).take k))), some (.box [.mp 0])] : Hp)) (fun j => !decide (nameE (rowsK s m) (qat s.q m) j = 0)) ((qat s.q m).length)
  ·go_simp <;> exact rfl
  ·go_simp
  ·intro j hj HB2 HP2 K2 hK2
   obtain ⟨x1, x2, x3, x4, x5, x6⟩ := ixs (m := j) (by omega)
   have hp2 : nameE (rowsK s m) (qat s.q m) j = 0 := HPP.out j hj
   unfold nameE at hp2
   have hcs := HC.out m hm j hj
   have wn := w_name (tat (qat s.q m) j) (rowsK s m ++ (qat s.q m).take j) hcs
   rw [hp2] at wn
   have hat := (tat_get hj).symm
   have hts : (qat s.q m).take (j + 1) = (qat s.q m).take j ++ [tat (qat s.q m) j] := by rw [takeS_at hj, tat_get hj]
   rw [hts, ← List.append_assoc] at hK2
   clear hp2 hts
   generalize rowsK s m ++ (qat s.q m).take j = L at *
   generalize tat (qat s.q m) j = C at *
   generalize kvOf (L ++ [C]) = M2 at *
   generalize kvOf L = M1 at *
   repeat' (with_reducible refine vseq ?_)
   refine vregion [] ?_
   repeat' (first | (with_reducible first | refine vseq ?_ | refine vthenN ?_ | refine vskip ?_ | refine vblock ?_ | refine vrun_nil ?_) | ((with_reducible refine vcondT ?_ ?_); (focus (go_simp; done))) | ((with_reducible refine vrun_cons fun KK hKK => ?_); go_simp; refine hKK _ ?_; clear hKK KK))
   refine vregion [] ?_
   repeat' (first | (with_reducible first | refine vseq ?_ | refine vthenN ?_ | refine vrun_nil ?_) | ((with_reducible refine vrun_cons fun KK hKK => ?_); go_simp; refine hKK _ ?_; clear hKK KK))
   refine vregionL (vl_run [] 2 ⟨rfl, rfl⟩ ?_)
   simp only [List.take, List.drop]
   repeat' (first | (with_reducible refine vrun_nil ?_) | ((with_reducible refine vrun_cons fun KK hKK => ?_); go_simp; refine hKK _ ?_; clear hKK KK))
   refine vl_call [1, 0] [1] [] [some (.box [.mp 1]), some (.mpo (4, .i64) (M2))] (I 0) rfl (by go_simp) ?_ ?_
   ·unfold HCall
    go_simp
    refine ⟨_, _, _, wn, ?_⟩
    go_simp
    kernel_rfl
   go_simp
   refine vl_run [] 1 ⟨rfl, rfl⟩ ?_
   simp only [List.take, List.drop]
   repeat' (first | (with_reducible refine vrun_nil ?_) | ((with_reducible refine vrun_cons fun KK hKK => ?_); go_simp; refine hKK _ ?_; clear hKK KK))
   refine vl_nil ?_
   repeat' (first | (with_reducible first | refine vseq ?_ | refine vthenN ?_ | refine vskip ?_ | refine vblockN ?_ | refine vrun_nil ?_ | refine vregion [] ?_) | ((with_reducible refine vcondF ?_ ?_); (focus (go_simp; done))) | ((with_reducible refine vrun_cons fun KK hKK => ?_); go_simp; refine hKK _ ?_; clear hKK KK))
   refine hK2 _ ?_
   go_simp
  ·intro j hj HB2 HP2 K2
   have h1 : nameE (rowsK s m) (qat s.q m) j = 0 := HPP.out j hj
   have h2 := HP2.out
   rw [h1] at h2
   cases h2
  ·intro HB2 K2
   rw [HK2.out] at hK
   rw [List.take_length]
   repeat' (first | (with_reducible first | refine vseq ?_ | refine vthenN ?_ | refine vthenE ?_ | refine vexit ?_ | refine vblockN ?_ | refine vblockH ?_ | refine vrun_nil ?_ | refine vregion [] ?_) | ((with_reducible refine vcondF ?_ ?_); (focus (go_simp; done))) | ((with_reducible refine vrun_cons fun KK hKK => ?_); go_simp; refine hKK _ ?_; clear hKK KK))
   refine hK _ ?_
   go_simp
 ·intro m hm HB HP K
  obtain ⟨w1, w2, w3, w4, w5, w6⟩ := ixs (m := m) (by omega)
  have hmr : m < r.ranks.length := by have := HSH.out; omega
  have hql := HQ.out m hm
  have e := ck_q HSH.out hm HB.out HP.out
  have hp : ¬ queueE r s m = 0 := by simpa using HP.out
  rw [HE.out] at e
  unfold queueE at e hp
  by_cases hpl : (rat r.ranks m).places < ((qat s.q m).length : Int)
  ·rw [if_pos hpl] at e
   subst e
   clear hp
   repeat' (first | (with_reducible first | refine vseq ?_ | refine vthenN ?_ | refine vthenR ?_ | refine vret ?_ | refine vskip ?_ | refine vblock ?_ | refine vblockR ?_ | refine vrun_nil ?_ | refine vregion [] ?_) | ((with_reducible refine vcondT ?_ ?_); (focus (go_simp; done))) | ((with_reducible refine vrun_cons fun KK hKK => ?_); go_simp; refine hKK _ ?_; clear hKK KK))
   go_simp
  rw [if_neg hpl] at e hp
  have HEE := Lib.hid e
  have HPP := Lib.hid hp
  clear e hp
  repeat' (first | (with_reducible first | refine vseq ?_ | refine vthenN ?_ | refine vskip ?_ | refine vblock ?_ | refine vrun_nil ?_ | refine vregion [] ?_) | ((with_reducible refine vcondT ?_ ?_); (focus (go_simp; done))) | ((with_reducible refine vcondF ?_ ?_); (focus (go_simp; done))) | ((with_reducible refine vrun_cons fun KK hKK => ?_); go_simp; refine hKK _ ?_; clear hKK KK))
  apply vfor [2, 3, 7, 35, 36, 37, 51, 52] (fun k => [(53, I k)]) (fun k => ([some (.mpo (4, .i64) (kvOf (rowsK s m ++ (qat s.q m).take k))), some (.box [.mp 0])] : Hp)) (fun j => !decide (nameE (rowsK s m) (qat s.q m) j = 0)) ((qat s.q m).length)
  ·go_simp <;> exact rfl
  ·go_simp
  ·intro j hj HB2 HP2 K2 hK2
   obtain ⟨x1, x2, x3, x4, x5, x6⟩ := ixs (m := j) (by omega)
   have hp2 : nameE (rowsK s m) (qat s.q m) j = 0 := by simpa using HP2.out
   unfold nameE at hp2
   have hcs := HC.out m hm j hj
   have wn := w_name (tat (qat s.q m) j) (rowsK s m ++ (qat s.q m).take j) hcs
   rw [hp2] at wn
   have hat := (tat_get hj).symm
   have hts : (qat s.q m).take (j + 1) = (qat s.q m).take j ++ [tat (qat s.q m) j] := by rw [takeS_at hj, tat_get hj]
   rw [hts, ← List.append_assoc] at hK2
   clear hp2 hts
   generalize rowsK s m ++ (qat s.q m).take j = L at *
   generalize tat (qat s.q m) j = C at *
   generalize kvOf (L ++ [C]) = M2 at *
   generalize kvOf L = M1 at *
   repeat' (with_reducible refine vseq ?_)
   refine vregion [] ?_
   repeat' (first | (with_reducible first | refine vseq ?_ | refine vthenN ?_ | refine vskip ?_ | refine vblock ?_ | refine vrun_nil ?_) | ((with_reducible refine vcondT ?_ ?_); (focus (go_simp; done))) | ((with_reducible refine vrun_cons fun KK hKK => ?_); go_simp; refine hKK _ ?_; clear hKK KK))
   refine vregion [] ?_
   repeat' (first | (with_reducible first | refine vseq ?_ | refine vthenN ?_ | refine vrun_nil ?_) | ((with_reducible refine vrun_cons fun KK hKK => ?_); go_simp; refine hKK _ ?_; clear hKK KK))
   refine vregionL (vl_run [] 2 ⟨rfl, rfl⟩ ?_)
   simp only [List.take, List.drop]
   repeat' (first | (with_reducible refine vrun_nil ?_) | ((with_reducible refine vrun_cons fun KK hKK => ?_); go_simp; refine hKK _ ?_; clear hKK KK))
   refine vl_call [1, 0] [1] [] [some (.box [.mp 1]), some (.mpo (4, .i64) M2)] (I 0) rfl (by go_simp) ?_ ?_
   ·unfold HCall
    go_simp
    refine ⟨_, _, _, wn, ?_⟩
    go_simp
    kernel_rfl
   go_simp
   refine vl_run [] 1 ⟨rfl, rfl⟩ ?_
   simp only [List.take, List.drop]
   repeat' (first | (with_reducible refine vrun_nil ?_) | ((with_reducible refine vrun_cons fun KK hKK => ?_); go_simp; refine hKK _ ?_; clear hKK KK))
   refine vl_nil ?_
   repeat' (first | (with_reducible first | refine vseq ?_ | refine vthenN ?_ | refine vskip ?_ | refine vblockN ?_ | refine vrun_nil ?_ | refine vregion [] ?_) | ((with_reducible refine vcondF ?_ ?_); (focus (go_simp; done))) | ((with_reducible refine vrun_cons fun KK hKK => ?_); go_simp; refine hKK _ ?_; clear hKK KK))
   refine hK2 _ ?_
   go_simp
  ·intro j hj HB2 HP2 K2
   obtain ⟨x1, x2, x3, x4, x5, x6⟩ := ixs (m := j) (by omega)
   have e : E = allE (nameE (rowsK s m) (qat s.q m)) (qat s.q m).length := HEE.out
   rw [allE_hit hj HB2.out HP2.out] at e
   unfold nameE at e
   have hcs := HC.out m hm j hj
   have wn := w_name (tat (qat s.q m) j) (rowsK s m ++ (qat s.q m).take j) hcs
   have hat := (tat_get hj).symm
   have hnz : ¬ carE (tat (qat s.q m) j) (rowsK s m ++ (qat s.q m).take j) = 0 := fun h => by
    have h2 := HP2.out
    rw [show nameE (rowsK s m) (qat s.q m) j = 0 from h] at h2
    cases h2
   subst e
   generalize rowsK s m ++ (qat s.q m).take j = L at *
   generalize tat (qat s.q m) j = C at *
   generalize carE C L = E2 at *
   generalize kvOf (L ++ [C]) = M2 at *
   generalize kvOf L = M1 at *
   repeat' (with_reducible refine vseq ?_)
   refine vregion [] ?_
   repeat' (first | (with_reducible first | refine vseq ?_ | refine vthenN ?_ | refine vskip ?_ | refine vblock ?_ | refine vrun_nil ?_) | ((with_reducible refine vcondT ?_ ?_); (focus (go_simp; done))) | ((with_reducible refine vrun_cons fun KK hKK => ?_); go_simp; refine hKK _ ?_; clear hKK KK))
   refine vregion [] ?_
   repeat' (first | (with_reducible first | refine vseq ?_ | refine vthenN ?_ | refine vrun_nil ?_) | ((with_reducible refine vrun_cons fun KK hKK => ?_); go_simp; refine hKK _ ?_; clear hKK KK))
   refine vregionL (vl_run [] 2 ⟨rfl, rfl⟩ ?_)
   simp only [List.take, List.drop]
   repeat' (first | (with_reducible refine vrun_nil ?_) | ((with_reducible refine vrun_cons fun KK hKK => ?_); go_simp; refine hKK _ ?_; clear hKK KK))
   refine vl_call [1, 0] [1] [] [some (.box [.mp 1]), some (.mpo (4, .i64) M2)] (I E2) rfl (by go_simp) ?_ ?_
   ·unfold HCall
    go_simp
    refine ⟨_, _, _, wn, ?_⟩
    go_simp
    kernel_rfl
   go_simp
   refine vl_run [] 1 ⟨rfl, rfl⟩ ?_
   simp only [List.take, List.drop]
   repeat' (first | (with_reducible refine vrun_nil ?_) | ((with_reducible refine vrun_cons fun KK hKK => ?_); go_simp; refine hKK _ ?_; clear hKK KK))
   refine vl_nil ?_
   repeat' (first | (with_reducible first | refine vseq ?_ | refine vthenN ?_ | refine vthenR ?_ | refine vret ?_ | refine vblockR ?_ | refine vrun_nil ?_ | refine vregion [] ?_) | ((with_reducible refine vcondT ?_ ?_); (focus (go_simp; done))) | ((with_reducible refine vrun_cons fun KK hKK => ?_); go_simp; refine hKK _ ?_; clear hKK KK))
   go_simp
  ·intro HB2 K2
   exfalso
   exact HPP.out (allE_go HB2.out)
 ·intro HB K
  have HBQ := HB
  clear HB
  by_cases h4 : (s.tk.length : Int) ≤ 40
  ·have h40 : ¬ (40 : Int) < (s.tk.length : Int) := by omega
   repeat' (first | (with_reducible first | refine vseq ?_ | refine vthenN ?_ | refine vthenE ?_ | refine vskip ?_ | refine vexit ?_ | refine vblock ?_ | refine vblockH ?_ | refine vrun_nil ?_ | refine vregion [] ?_) | ((with_reducible refine vcondF ?_ ?_); (focus (go_simp; done))) | ((with_reducible refine vrun_cons fun KK hKK => ?_); go_simp; refine hKK _ ?_; clear hKK KK))
   apply vfor [2, 3, 7, 70, 71] (fun k => [(72, I k)]) (fun k => ([some (.mpo (4, .i64) (kvOf (takeS s k))), some (.box [.mp 0])] : Hp)) (fun k => !decide (takeE r s k = 0)) (s.tk.length)
   ·go_simp <;> exact rfl
   ·go_simp
   ·intro k hk HB HP K hK
    obtain ⟨w1, w2, w3, w4, w5, w6⟩ := ixs (m := k) (by omega)
    have hcs := HT.out k hk
    have wn := w_name (tkat s.tk k).car (takeS s k) hcs
    have i1 := p_within (tkat s.tk k).rank 0 ((r.ranks.length : Int) - 1)
    have i2 := p_within (tkat s.tk k).time 0 s.time
    have u1 := p_unless (inR (tkat s.tk k).rank 0 ((r.ranks.length : Int) - 1)) 6
    have u2 := p_unless (inR (tkat s.tk k).time 0 s.time) 2
    have hw : IntKind.i64.wrap ((r.ranks.length : Int) - 1) = (r.ranks.length : Int) - 1 := wrap_eq (by omega) (by omega)
    have u3 := p_unless (decide (k = 0) || decide ((tkat s.tk (k - 1)).time ≤ (tkat s.tk k).time)) 9
    have gF : VC Tryz.prog 88 [.sl 1 ([carE (tkat s.tk k).car (takeS s k), unl (inR (tkat s.tk k).rank 0 ((r.ranks.length : Int) - 1)) 6, unl (inR (tkat s.tk k).time 0 s.time) 2, unl (decide (k = 0) || decide ((tkat s.tk (k - 1)).time ≤ (tkat s.tk k).time)) 9].map intA)] (I (takeE r s k)) := p_firstR _ rfl rfl
    have hp : takeE r s k = 0 := by simpa using HP.out
    rw [hp] at gF
    rw [takeS_succ hk] at hK
    clear hp
    generalize inR (tkat s.tk k).rank 0 ((r.ranks.length : Int) - 1) = D1 at *
    generalize inR (tkat s.tk k).time 0 s.time = D2 at *
    generalize unl D1 6 = A1 at *
    generalize unl D2 2 = A2 at *
    generalize carE (tkat s.tk k).car (takeS s k) = CE at *
    generalize kvOf (takeS s k ++ [(tkat s.tk k).car]) = M2 at *
    generalize kvOf (takeS s k) = M1 at *
    rcases k with _ | p
    ·have d0 : (decide (0 = 0) || decide ((tkat s.tk (0 - 1)).time ≤ (tkat s.tk 0).time)) = true := rfl
     rw [d0] at u3 gF
     generalize unl true 9 = A3 at *
     clear d0
     repeat' (with_reducible refine vseq ?_)
     refine vregion [] ?_
     repeat' (first | (with_reducible first | refine vseq ?_ | refine vthenN ?_ | refine vskip ?_ | refine vblock ?_ | refine vrun_nil ?_) | ((with_reducible refine vcondT ?_ ?_); (focus (go_simp; done))) | ((with_reducible refine vrun_cons fun KK hKK => ?_); go_simp; refine hKK _ ?_; clear hKK KK))
     refine vregion [] ?_
     repeat' (first | (with_reducible first | refine vseq ?_ | refine vthenN ?_ | refine vrun_nil ?_) | ((with_reducible refine vrun_cons fun KK hKK => ?_); go_simp; refine hKK _ ?_; clear hKK KK))
     refine vregionL (vl_run [] 3 ⟨rfl, rfl⟩ ?_)
     simp only [List.take, List.drop]
     repeat' (first | (with_reducible refine vrun_nil ?_) | ((with_reducible refine vrun_cons fun KK hKK => ?_); go_simp; refine hKK _ ?_; clear hKK KK))
     refine vl_call [1, 0] [1] [] [some (.box [.mp 1]), some (.mpo (4, .i64) M2)] (I CE) rfl (by go_simp) ?_ ?_
     ·unfold HCall
      go_simp
      refine ⟨_, _, _, wn, ?_⟩
      go_simp
      kernel_rfl
     go_simp
     refine vl_run [] 1 ⟨rfl, rfl⟩ ?_
     simp only [List.take, List.drop]
     repeat' (first | (with_reducible refine vrun_nil ?_) | ((with_reducible refine vrun_cons fun KK hKK => ?_); go_simp; refine hKK _ ?_; clear hKK KK))
     refine vl_nil ?_
     repeat' (first | (with_reducible first | refine vseq ?_ | refine vthenN ?_ | refine vskip ?_ | refine vblockN ?_ | refine vrun_nil ?_ | refine vregion [] ?_ | refine vhrun_nil ?_) | ((with_reducible refine vcondF ?_ ?_); (focus (go_simp; done))) | ((with_reducible first | refine vrun_cons fun KK hKK => ?_ | refine vhrun_cons fun KK hKK => ?_); go_simp; (first | (with_reducible refine ⟨_, i1, ?_⟩) | (with_reducible refine ⟨_, i2, ?_⟩) | (with_reducible refine ⟨_, u1, ?_⟩) | (with_reducible refine ⟨_, u2, ?_⟩) | (with_reducible refine ⟨_, u3, ?_⟩) | (refine ⟨_, gF, ?_⟩) | skip); refine hKK _ ?_; clear hKK KK) | ((refine vdrawL 34 33 [] rfl (by kernel_rfl) (by kernel_rfl) ?_); simp only [List.take, List.drop]))
     refine hK _ ?_
     go_simp
    ·have hsub : p + 1 - 1 = p := by omega
     rw [hsub, decide_eq_false (by omega : ¬ p + 1 = 0), Bool.false_or] at u3 gF
     obtain ⟨x1, x2, x3, x4, x5, x6⟩ := ixs (m := p) (by omega)
     have hpl : p < s.tk.length := by omega
     have hpl2 : (p : Int) + 1 < (s.tk.length : Int) := by omega
     have hpl3 : ¬ (p : Int) + 1 ≤ 0 := by omega
     have hpl4 : (0 : Int) < (p : Int) + 1 := by omega
     have hpl5 : ¬ (p : Int) + 1 = 0 := by omega
     have hpl6 : (0 : Int) ≤ (p : Int) := by omega
     have hpm : (if 0 < p then (p : Int) else 0) = (p : Int) := by split <;> omega
     generalize unl (decide ((tkat s.tk p).time ≤ (tkat s.tk (p + 1)).time)) 9 = A3 at *
     clear hsub
     repeat' (with_reducible refine vseq ?_)
     refine vregion [] ?_
     repeat' (first | (with_reducible first | refine vseq ?_ | refine vthenN ?_ | refine vskip ?_ | refine vblock ?_ | refine vrun_nil ?_) | ((with_reducible refine vcondT ?_ ?_); (focus (go_simp; done))) | ((with_reducible refine vrun_cons fun KK hKK => ?_); go_simp; refine hKK _ ?_; clear hKK KK))
     refine vregion [] ?_
     repeat' (first | (with_reducible first | refine vseq ?_ | refine vthenN ?_ | refine vrun_nil ?_) | ((with_reducible refine vrun_cons fun KK hKK => ?_); go_simp; refine hKK _ ?_; clear hKK KK))
     refine vregionL (vl_run [] 3 ⟨rfl, rfl⟩ ?_)
     simp only [List.take, List.drop]
     repeat' (first | (with_reducible refine vrun_nil ?_) | ((with_reducible refine vrun_cons fun KK hKK => ?_); go_simp; refine hKK _ ?_; clear hKK KK))
     refine vl_call [1, 0] [1] [] [some (.box [.mp 1]), some (.mpo (4, .i64) M2)] (I CE) rfl (by go_simp) ?_ ?_
     ·unfold HCall
      go_simp
      refine ⟨_, _, _, wn, ?_⟩
      go_simp
      kernel_rfl
     go_simp
     refine vl_run [] 1 ⟨rfl, rfl⟩ ?_
     simp only [List.take, List.drop]
     repeat' (first | (with_reducible refine vrun_nil ?_) | ((with_reducible refine vrun_cons fun KK hKK => ?_); go_simp; refine hKK _ ?_; clear hKK KK))
     refine vl_nil ?_
     repeat' (first | (with_reducible first | refine vseq ?_ | refine vthenN ?_ | refine vskip ?_ | refine vblockN ?_ | refine vrun_nil ?_ | refine vregion [] ?_ | refine vhrun_nil ?_) | ((with_reducible refine vcondF ?_ ?_); (focus (go_simp; done))) | ((with_reducible first | refine vrun_cons fun KK hKK => ?_ | refine vhrun_cons fun KK hKK => ?_); go_simp; (first | (with_reducible refine ⟨_, i1, ?_⟩) | (with_reducible refine ⟨_, i2, ?_⟩) | (with_reducible refine ⟨_, u1, ?_⟩) | (with_reducible refine ⟨_, u2, ?_⟩) | (with_reducible refine ⟨_, u3, ?_⟩) | (refine ⟨_, gF, ?_⟩) | skip); refine hKK _ ?_; clear hKK KK) | ((refine vdrawL 34 33 [] rfl (by kernel_rfl) (by kernel_rfl) ?_); simp only [List.take, List.drop]))
     refine hK _ ?_
     go_simp
   ·intro k hk HB HP K
    obtain ⟨w1, w2, w3, w4, w5, w6⟩ := ixs (m := k) (by omega)
    have hcs := HT.out k hk
    have wn := w_name (tkat s.tk k).car (takeS s k) hcs
    have i1 := p_within (tkat s.tk k).rank 0 ((r.ranks.length : Int) - 1)
    have i2 := p_within (tkat s.tk k).time 0 s.time
    have u1 := p_unless (inR (tkat s.tk k).rank 0 ((r.ranks.length : Int) - 1)) 6
    have u2 := p_unless (inR (tkat s.tk k).time 0 s.time) 2
    have hw : IntKind.i64.wrap ((r.ranks.length : Int) - 1) = (r.ranks.length : Int) - 1 := wrap_eq (by omega) (by omega)
    have u3 := p_unless (decide (k = 0) || decide ((tkat s.tk (k - 1)).time ≤ (tkat s.tk k).time)) 9
    have gF : VC Tryz.prog 88 [.sl 1 ([carE (tkat s.tk k).car (takeS s k), unl (inR (tkat s.tk k).rank 0 ((r.ranks.length : Int) - 1)) 6, unl (inR (tkat s.tk k).time 0 s.time) 2, unl (decide (k = 0) || decide ((tkat s.tk (k - 1)).time ≤ (tkat s.tk k).time)) 9].map intA)] (I (takeE r s k)) := p_firstR _ rfl rfl
    have e := ck_t HSH.out HBQ.out h4 hk HB.out HP.out
    have hp : ¬ takeE r s k = 0 := by simpa using HP.out
    rw [HE.out] at e
    subst e
    generalize takeE r s k = TE at *
    generalize inR (tkat s.tk k).rank 0 ((r.ranks.length : Int) - 1) = D1 at *
    generalize inR (tkat s.tk k).time 0 s.time = D2 at *
    generalize unl D1 6 = A1 at *
    generalize unl D2 2 = A2 at *
    generalize carE (tkat s.tk k).car (takeS s k) = CE at *
    generalize kvOf (takeS s k ++ [(tkat s.tk k).car]) = M2 at *
    generalize kvOf (takeS s k) = M1 at *
    rcases k with _ | p
    ·have d0 : (decide (0 = 0) || decide ((tkat s.tk (0 - 1)).time ≤ (tkat s.tk 0).time)) = true := rfl
     rw [d0] at u3 gF
     generalize unl true 9 = A3 at *
     clear d0
     repeat' (with_reducible refine vseq ?_)
     refine vregion [] ?_
     repeat' (first | (with_reducible first | refine vseq ?_ | refine vthenN ?_ | refine vskip ?_ | refine vblock ?_ | refine vrun_nil ?_) | ((with_reducible refine vcondT ?_ ?_); (focus (go_simp; done))) | ((with_reducible refine vrun_cons fun KK hKK => ?_); go_simp; refine hKK _ ?_; clear hKK KK))
     refine vregion [] ?_
     repeat' (first | (with_reducible first | refine vseq ?_ | refine vthenN ?_ | refine vrun_nil ?_) | ((with_reducible refine vrun_cons fun KK hKK => ?_); go_simp; refine hKK _ ?_; clear hKK KK))
     refine vregionL (vl_run [] 3 ⟨rfl, rfl⟩ ?_)
     simp only [List.take, List.drop]
     repeat' (first | (with_reducible refine vrun_nil ?_) | ((with_reducible refine vrun_cons fun KK hKK => ?_); go_simp; refine hKK _ ?_; clear hKK KK))
     refine vl_call [1, 0] [1] [] [some (.box [.mp 1]), some (.mpo (4, .i64) M2)] (I CE) rfl (by go_simp) ?_ ?_
     ·unfold HCall
      go_simp
      refine ⟨_, _, _, wn, ?_⟩
      go_simp
      kernel_rfl
     go_simp
     refine vl_run [] 1 ⟨rfl, rfl⟩ ?_
     simp only [List.take, List.drop]
     repeat' (first | (with_reducible refine vrun_nil ?_) | ((with_reducible refine vrun_cons fun KK hKK => ?_); go_simp; refine hKK _ ?_; clear hKK KK))
     refine vl_nil ?_
     repeat' (first | (with_reducible first | refine vseq ?_ | refine vthenN ?_ | refine vthenR ?_ | refine vret ?_ | refine vblockR ?_ | refine vrun_nil ?_ | refine vregion [] ?_ | refine vhrun_nil ?_) | ((with_reducible refine vcondT ?_ ?_); (focus (go_simp; done))) | ((with_reducible first | refine vrun_cons fun KK hKK => ?_ | refine vhrun_cons fun KK hKK => ?_); go_simp; (first | (with_reducible refine ⟨_, i1, ?_⟩) | (with_reducible refine ⟨_, i2, ?_⟩) | (with_reducible refine ⟨_, u1, ?_⟩) | (with_reducible refine ⟨_, u2, ?_⟩) | (with_reducible refine ⟨_, u3, ?_⟩) | (refine ⟨_, gF, ?_⟩) | skip); refine hKK _ ?_; clear hKK KK) | ((refine vdrawL 34 33 [] rfl (by kernel_rfl) (by kernel_rfl) ?_); simp only [List.take, List.drop]))
     go_simp
    ·have hsub : p + 1 - 1 = p := by omega
     rw [hsub, decide_eq_false (by omega : ¬ p + 1 = 0), Bool.false_or] at u3 gF
     obtain ⟨x1, x2, x3, x4, x5, x6⟩ := ixs (m := p) (by omega)
     have hpl : p < s.tk.length := by omega
     have hpl2 : (p : Int) + 1 < (s.tk.length : Int) := by omega
     have hpl3 : ¬ (p : Int) + 1 ≤ 0 := by omega
     have hpl4 : (0 : Int) < (p : Int) + 1 := by omega
     have hpl5 : ¬ (p : Int) + 1 = 0 := by omega
     have hpl6 : (0 : Int) ≤ (p : Int) := by omega
     have hpm : (if 0 < p then (p : Int) else 0) = (p : Int) := by split <;> omega
     generalize unl (decide ((tkat s.tk p).time ≤ (tkat s.tk (p + 1)).time)) 9 = A3 at *
     clear hsub
     repeat' (with_reducible refine vseq ?_)
     refine vregion [] ?_
     repeat' (first | (with_reducible first | refine vseq ?_ | refine vthenN ?_ | refine vskip ?_ | refine vblock ?_ | refine vrun_nil ?_) | ((with_reducible refine vcondT ?_ ?_); (focus (go_simp; done))) | ((with_reducible refine vrun_cons fun KK hKK => ?_); go_simp; refine hKK _ ?_; clear hKK KK))
     refine vregion [] ?_
     repeat' (first | (with_reducible first | refine vseq ?_ | refine vthenN ?_ | refine vrun_nil ?_) | ((with_reducible refine vrun_cons fun KK hKK => ?_); go_simp; refine hKK _ ?_; clear hKK KK))
     refine vregionL (vl_run [] 3 ⟨rfl, rfl⟩ ?_)
     simp only [List.take, List.drop]
     repeat' (first | (with_reducible refine vrun_nil ?_) | ((with_reducible refine vrun_cons fun KK hKK => ?_); go_simp; refine hKK _ ?_; clear hKK KK))
     refine vl_call [1, 0] [1] [] [some (.box [.mp 1]), some (.mpo (4, .i64) M2)] (I CE) rfl (by go_simp) ?_ ?_
     ·unfold HCall
      go_simp
      refine ⟨_, _, _, wn, ?_⟩
      go_simp
      kernel_rfl
     go_simp
     refine vl_run [] 1 ⟨rfl, rfl⟩ ?_
     simp only [List.take, List.drop]
     repeat' (first | (with_reducible refine vrun_nil ?_) | ((with_reducible refine vrun_cons fun KK hKK => ?_); go_simp; refine hKK _ ?_; clear hKK KK))
     refine vl_nil ?_
     repeat' (first | (with_reducible first | refine vseq ?_ | refine vthenN ?_ | refine vthenR ?_ | refine vret ?_ | refine vblockR ?_ | refine vrun_nil ?_ | refine vregion [] ?_ | refine vhrun_nil ?_) | ((with_reducible refine vcondT ?_ ?_); (focus (go_simp; done))) | ((with_reducible first | refine vrun_cons fun KK hKK => ?_ | refine vhrun_cons fun KK hKK => ?_); go_simp; (first | (with_reducible refine ⟨_, i1, ?_⟩) | (with_reducible refine ⟨_, i2, ?_⟩) | (with_reducible refine ⟨_, u1, ?_⟩) | (with_reducible refine ⟨_, u2, ?_⟩) | (with_reducible refine ⟨_, u3, ?_⟩) | (refine ⟨_, gF, ?_⟩) | skip); refine hKK _ ?_; clear hKK KK) | ((refine vdrawL 34 33 [] rfl (by kernel_rfl) (by kernel_rfl) ?_); simp only [List.take, List.drop]))
     go_simp
   ·intro HB K
    have e := ck_e HSH.out HBQ.out h4 HB.out
    rw [HE.out] at e
    rw [← e] at g6
    generalize inR s.time 0 604800 = D1 at *
    generalize hNX : nextR r s = NX at *
    have hdn : decide (NX < 0) = decide (NX < 0) := rfl
    clear e hdn hNX
    generalize unl D1 2 = A1 at *
    generalize unl (decide (NX < 0)) 22 = A2 at *
    repeat' (first | (with_reducible first | refine vseq ?_ | refine vthenN ?_ | refine vthenE ?_ | refine vret ?_ | refine vexit ?_ | refine vblockH ?_ | refine vrun_nil ?_ | refine vregion [] ?_) | ((with_reducible refine vcondF ?_ ?_); (focus (go_simp; done))) | ((with_reducible refine vrun_cons fun KK hKK => ?_); go_simp; (first | (with_reducible refine ⟨_, i5, ?_⟩) | (with_reducible refine ⟨_, u5, ?_⟩) | (with_reducible refine ⟨_, gm, ?_⟩) | (with_reducible refine ⟨_, u6, ?_⟩) | (refine ⟨_, g6, ?_⟩) | skip); refine hKK _ ?_; clear hKK KK))
    go_simp
  ·have h40 : (40 : Int) < (s.tk.length : Int) := by omega
   have e := ck_8 HSH.out HBQ.out h4
   rw [HE.out] at e
   subst e
   repeat' (first | (with_reducible first | refine vseq ?_ | refine vthenN ?_ | refine vthenE ?_ | refine vthenR ?_ | refine vret ?_ | refine vexit ?_ | refine vblockH ?_ | refine vrun_nil ?_ | refine vregion [] ?_) | ((with_reducible refine vcondT ?_ ?_); (focus (go_simp; done))) | ((with_reducible refine vcondF ?_ ?_); (focus (go_simp; done))) | ((with_reducible refine vrun_cons fun KK hKK => ?_); go_simp; refine hKK _ ?_; clear hKK KK))
   go_simp
end Go.Proofs.YtoibondihdhnoaaGreatDoor
namespace Go.Proofs.YtoibondihdhnoaaGreatDoor
open Go.RowKit
set_option maxRecDepth 100000
set_option maxHeartbeats 4000000
def ckE (r : Ru) (s : St) : Int := if (checkR r).2 ≠ 0 then (checkR r).2 else checkS r s
theorem p_CheckState (r : Ru) (s : St) (hn : r.ranks.length ≤ 1000000) (hnm : ∀ k, k < r.ranks.length → (rat r.ranks k).name.size ≤ 1000) (hs : SmallS s) : VC Tryz.prog 52 [rulesA r, stateA s] (I (ckE r s)) := by
 unfold ckE
 by_cases h0 : (checkR r).2 = 0
 ·rw [if_neg (by simp [h0])]
  by_cases hsh : s.q.length = r.ranks.length
  ·exact p_CheckState0 r s hn hnm hs h0 hsh
  ·have g := p_CheckStateR r s hn hnm hs (.inr hsh)
   have e : checkS r s = 10 := by
    unfold checkS
    rw [decide_eq_false hsh]
    rfl
   rw [e]
   rw [h0] at g
   exact g
 ·rw [if_pos h0]
  have g := p_CheckStateR r s hn hnm hs (.inl h0)
  have e : fst [(checkR r).2, 10] = (checkR r).2 := by simp [fst, h0]
  rw [e] at g
  exact g
theorem p_CheckEvent (r : Ru) (x : Ev) (hn : r.ranks.length ≤ 1000000) (hnm : ∀ k, k < r.ranks.length → (rat r.ranks k).name.size ≤ 1000) (hc : x.car.size ≤ 1000) : VC Tryz.prog 54 [rulesA r, evA x] (I (fst [(checkR r).2, evE r x])) := by
 have g1 := p_rulesErr r hn hnm
 have g2 := p_eventErr r x hn hc
 have g3 : VC Tryz.prog 88 [.sl 1 ([(checkR r).2, evE r x].map intA)] (I (fst [(checkR r).2, evE r x])) := p_firstR _ rfl rfl
 generalize fst [(checkR r).2, evE r x] = F at *
 generalize (checkR r).2 = A1 at *
 generalize evE r x = A2 at *
 refine VC_of Tryz.func54 rfl (by kernel_rfl) (by kernel_rfl) rfl fun M0 w0 => ?_
 simp only [Tryz.ntmps54, Tryz.results54, enumA]
 repeat' (first | (with_reducible first | refine vseq ?_ | refine vthenN ?_ | refine vret ?_ | refine vrun_nil ?_ | refine vregion [] ?_ | refine vhrun_nil ?_) | ((with_reducible first | refine vrun_cons fun KK hKK => ?_ | refine vhrun_cons fun KK hKK => ?_); go_simp; (first | (refine ⟨_, g1, ?_⟩) | (refine ⟨_, g2, ?_⟩) | (refine ⟨_, g3, ?_⟩) | skip); refine hKK _ ?_; clear hKK KK) | ((refine vdrawL 8 8 [] rfl (by kernel_rfl) (by kernel_rfl) ?_); simp only [List.take, List.drop]))
 go_simp
def longC2 (l : List ByteArray) (j : Nat) : Bool := decide (20 < (tat l j).size)
def longQ (s : St) (k : Nat) : Bool := decide (14 < (qat s.q k).length) || anyP (longC2 (qat s.q k)) 0 (qat s.q k).length
def longK (s : St) (k : Nat) : Bool := decide (20 < (tkat s.tk k).car.size)
def smallB (s : St) : Bool := decide (s.q.length ≤ 8 ∧ (s.tk.length ≤ 8 ∨ 40 < s.tk.length ∧ s.tk.length ≤ 42)) && !anyP (longQ s) 0 s.q.length && !anyP (longK s) 0 s.tk.length
theorem l_Small (s : St) (hq : s.q.length ≤ 9223372036854775807) (ht : s.tk.length ≤ 9223372036854775807) : VC Tryz.prog 51 [stateA s] (B (smallB s)) := by
 unfold smallB
 by_cases h8 : s.q.length ≤ 8 ∧ (s.tk.length ≤ 8 ∨ 40 < s.tk.length ∧ s.tk.length ≤ 42)
 ·obtain ⟨h1, h2⟩ := h8
  rw [decide_eq_true (show s.q.length ≤ 8 ∧ (s.tk.length ≤ 8 ∨ 40 < s.tk.length ∧ s.tk.length ≤ 42) from ⟨h1, h2⟩), Bool.true_and]
  have h3 : ¬ (8 : Int) < (s.q.length : Int) := by omega
  have h42 : ¬ (42 : Int) < (s.tk.length : Int) := by omega
  have hb : (8 : Int) < (s.tk.length : Int) → ¬ (s.tk.length : Int) ≤ 40 := by omega
  have htl : s.tk.length ≤ 42 := by omega
  obtain ⟨R1, hR1⟩ : ∃ R, anyP (longQ s) 0 s.q.length = R := ⟨_, rfl⟩
  obtain ⟨R2, hR2⟩ : ∃ R, anyP (longK s) 0 s.tk.length = R := ⟨_, rfl⟩
  rw [hR1, hR2]
  have HR1 := Lib.hid hR1
  have HR2 := Lib.hid hR2
  have HQL := Lib.hid h1
  have HTL := Lib.hid htl
  clear h1 h2 hq ht hR1 hR2 htl
  by_cases h5 : (8 : Int) < (s.tk.length : Int)
  all_goals (
   first
    | (have h6 := hb h5)
    | skip
   clear hb
   refine VC_of Tryz.func51 rfl (by kernel_rfl) (by kernel_rfl) rfl fun M0 w0 => ?_
   simp only [Tryz.ntmps51, Tryz.results51, enumA]
   repeat' (first | (with_reducible first | refine vseq ?_ | refine vthenN ?_ | refine vskip ?_ | refine vblock ?_ | refine vrun_nil ?_ | refine vregion [] ?_) | ((with_reducible refine vcondF ?_ ?_); (focus (go_simp; done))) | ((with_reducible refine vrun_cons fun KK hKK => ?_); go_simp; refine hKK _ ?_; clear hKK KK))
   apply vfor [1] (fun k => [(3, I k)]) (fun k => ([] : Hp)) (longQ s) (s.q.length)
   ·go_simp <;> exact rfl
   ·go_simp
   ·intro m hm HB HP K hK
    have := HQL.out
    obtain ⟨w1, w2, w3, w4, w5, w6⟩ := ixs (m := m) (by omega)
    have hp := HP.out
    unfold longQ at hp
    rw [Bool.or_eq_false_iff, decide_eq_false_iff_not] at hp
    obtain ⟨hp1, hp2⟩ := hp
    have hp3 : ¬ (14 : Int) < ((qat s.q m).length : Int) := by omega
    have HP2 := Lib.hid hp2
    have HP1 := Lib.hid hp1
    clear hp1 hp2 this
    repeat' (first | (with_reducible first | refine vseq ?_ | refine vthenN ?_ | refine vskip ?_ | refine vblock ?_ | refine vrun_nil ?_ | refine vregion [] ?_) | ((with_reducible refine vcondT ?_ ?_); (focus (go_simp; done))) | ((with_reducible refine vcondF ?_ ?_); (focus (go_simp; done))) | ((with_reducible refine vrun_cons fun KK hKK => ?_); go_simp; refine hKK _ ?_; clear hKK KK))
    apply vfor [1, 3] (fun k => [(4, I k)]) (fun k => ([] : Hp)) (longC2 (qat s.q m)) ((qat s.q m).length)
    ·go_simp <;> exact rfl
    ·go_simp
    ·intro j hj HB2 HPj K2 hK2
     have := HP1.out
     obtain ⟨x1, x2, x3, x4, x5, x6⟩ := ixs (m := j) (by omega)
     have hpj := HPj.out
     rw [longC2, decide_eq_false_iff_not, tat_get hj] at hpj
     have hpk : ¬ (20 : Int) < ((qat s.q m)[j].size : Int) := by omega
     clear hpj this
     repeat' (first | (with_reducible first | refine vseq ?_ | refine vthenN ?_ | refine vskip ?_ | refine vblock ?_ | refine vblockN ?_ | refine vrun_nil ?_ | refine vregion [] ?_) | ((with_reducible refine vcondT ?_ ?_); (focus (go_simp; done))) | ((with_reducible refine vcondF ?_ ?_); (focus (go_simp; done))) | ((with_reducible refine vrun_cons fun KK hKK => ?_); go_simp; refine hKK _ ?_; clear hKK KK))
     refine hK2 _ ?_
     go_simp
    ·intro j hj HB2 HPj K2
     have h := HP2.out
     rw [anyP_hit hj HPj.out] at h
     cases h
    ·intro HB2 K2
     repeat' (first | (with_reducible first | refine vseq ?_ | refine vthenN ?_ | refine vthenE ?_ | refine vexit ?_ | refine vblockN ?_ | refine vblockH ?_ | refine vrun_nil ?_ | refine vregion [] ?_) | ((with_reducible refine vcondF ?_ ?_); (focus (go_simp; done))) | ((with_reducible refine vrun_cons fun KK hKK => ?_); go_simp; refine hKK _ ?_; clear hKK KK))
     refine hK _ ?_
     go_simp
   ·intro m hm HB HP K
    have := HQL.out
    obtain ⟨w1, w2, w3, w4, w5, w6⟩ := ixs (m := m) (by omega)
    have e := HR1.out
    rw [anyP_hit hm HP.out] at e
    subst e
    rw [Bool.not_true, Bool.false_and]
    have hp := HP.out
    unfold longQ at hp
    by_cases hp1 : 14 < (qat s.q m).length
    ·have hp3 : (14 : Int) < ((qat s.q m).length : Int) := by omega
     clear hp hp1 this
     repeat' (first | (with_reducible first | refine vseq ?_ | refine vthenN ?_ | refine vthenR ?_ | refine vret ?_ | refine vskip ?_ | refine vblock ?_ | refine vblockR ?_ | refine vrun_nil ?_ | refine vregion [] ?_) | ((with_reducible refine vcondT ?_ ?_); (focus (go_simp; done))) | ((with_reducible refine vrun_cons fun KK hKK => ?_); go_simp; refine hKK _ ?_; clear hKK KK))
     go_simp
    ·rw [decide_eq_false hp1, Bool.false_or] at hp
     have hp3 : ¬ (14 : Int) < ((qat s.q m).length : Int) := by omega
     have HP2 := Lib.hid hp
     have HP1 := Lib.hid hp1
     clear hp hp1 this
     repeat' (first | (with_reducible first | refine vseq ?_ | refine vthenN ?_ | refine vskip ?_ | refine vblock ?_ | refine vrun_nil ?_ | refine vregion [] ?_) | ((with_reducible refine vcondT ?_ ?_); (focus (go_simp; done))) | ((with_reducible refine vcondF ?_ ?_); (focus (go_simp; done))) | ((with_reducible refine vrun_cons fun KK hKK => ?_); go_simp; refine hKK _ ?_; clear hKK KK))
     apply vfor [1, 3] (fun k => [(4, I k)]) (fun k => ([] : Hp)) (longC2 (qat s.q m)) ((qat s.q m).length)
     ·go_simp <;> exact rfl
     ·go_simp
     ·intro j hj HB2 HPj K2 hK2
      have := HP1.out
      obtain ⟨x1, x2, x3, x4, x5, x6⟩ := ixs (m := j) (by omega)
      have hpj := HPj.out
      rw [longC2, decide_eq_false_iff_not, tat_get hj] at hpj
      have hpk : ¬ (20 : Int) < ((qat s.q m)[j].size : Int) := by omega
      clear hpj this
      repeat' (first | (with_reducible first | refine vseq ?_ | refine vthenN ?_ | refine vskip ?_ | refine vblock ?_ | refine vblockN ?_ | refine vrun_nil ?_ | refine vregion [] ?_) | ((with_reducible refine vcondT ?_ ?_); (focus (go_simp; done))) | ((with_reducible refine vcondF ?_ ?_); (focus (go_simp; done))) | ((with_reducible refine vrun_cons fun KK hKK => ?_); go_simp; refine hKK _ ?_; clear hKK KK))
      refine hK2 _ ?_
      go_simp
     ·intro j hj HB2 HPj K2
      have := HP1.out
      obtain ⟨x1, x2, x3, x4, x5, x6⟩ := ixs (m := j) (by omega)
      have hpj := HPj.out
      rw [longC2, decide_eq_true_eq, tat_get hj] at hpj
      have hpk : (20 : Int) < ((qat s.q m)[j].size : Int) := by omega
      clear hpj this
      repeat' (first | (with_reducible first | refine vseq ?_ | refine vthenN ?_ | refine vthenR ?_ | refine vret ?_ | refine vskip ?_ | refine vblock ?_ | refine vblockR ?_ | refine vrun_nil ?_ | refine vregion [] ?_) | ((with_reducible refine vcondT ?_ ?_); (focus (go_simp; done))) | ((with_reducible refine vrun_cons fun KK hKK => ?_); go_simp; refine hKK _ ?_; clear hKK KK))
      go_simp
     ·intro HB2 K2
      have h := HP2.out
      rw [anyP_out HB2.out] at h
      cases h
   ·intro HB K
    have e := HR1.out
    rw [anyP_out HB.out] at e
    subst e
    rw [Bool.not_false, Bool.true_and]
    repeat' (first | (with_reducible first | refine vseq ?_ | refine vthenN ?_ | refine vthenE ?_ | refine vexit ?_ | refine vblock ?_ | refine vblockH ?_ | refine vrun_nil ?_ | refine vregion [] ?_) | ((with_reducible refine vcondF ?_ ?_); (focus (go_simp; done))) | ((with_reducible refine vrun_cons fun KK hKK => ?_); go_simp; refine hKK _ ?_; clear hKK KK))
    apply vfor [1] (fun k => [(5, I k)]) (fun k => ([] : Hp)) (longK s) (s.tk.length)
    ·go_simp <;> exact rfl
    ·go_simp
    ·intro k hk HB2 HP K2 hK
     have := HTL.out
     obtain ⟨w1, w2, w3, w4, w5, w6⟩ := ixs (m := k) (by omega)
     have hp := HP.out
     rw [longK, decide_eq_false_iff_not] at hp
     have hp2 : ¬ (20 : Int) < ((tkat s.tk k).car.size : Int) := by omega
     clear hp this
     repeat' (first | (with_reducible first | refine vseq ?_ | refine vthenN ?_ | refine vskip ?_ | refine vblock ?_ | refine vblockN ?_ | refine vrun_nil ?_ | refine vregion [] ?_) | ((with_reducible refine vcondT ?_ ?_); (focus (go_simp; done))) | ((with_reducible refine vcondF ?_ ?_); (focus (go_simp; done))) | ((with_reducible refine vrun_cons fun KK hKK => ?_); go_simp; refine hKK _ ?_; clear hKK KK))
     refine hK _ ?_
     go_simp
    ·intro k hk HB2 HP K2
     have := HTL.out
     obtain ⟨w1, w2, w3, w4, w5, w6⟩ := ixs (m := k) (by omega)
     have hp := HP.out
     rw [longK, decide_eq_true_eq] at hp
     have hp2 : (20 : Int) < ((tkat s.tk k).car.size : Int) := by omega
     have e := HR2.out
     rw [anyP_hit hk HP.out] at e
     subst e
     clear hp this
     repeat' (first | (with_reducible first | refine vseq ?_ | refine vthenN ?_ | refine vthenR ?_ | refine vret ?_ | refine vskip ?_ | refine vblock ?_ | refine vblockR ?_ | refine vrun_nil ?_ | refine vregion [] ?_) | ((with_reducible refine vcondT ?_ ?_); (focus (go_simp; done))) | ((with_reducible refine vrun_cons fun KK hKK => ?_); go_simp; refine hKK _ ?_; clear hKK KK))
     go_simp
    ·intro HB2 K2
     have e := HR2.out
     rw [anyP_out HB2.out] at e
     subst e
     repeat' (first | (with_reducible first | refine vseq ?_ | refine vthenN ?_ | refine vthenE ?_ | refine vret ?_ | refine vexit ?_ | refine vblockH ?_ | refine vrun_nil ?_ | refine vregion [] ?_) | ((with_reducible refine vcondF ?_ ?_); (focus (go_simp; done))) | ((with_reducible refine vrun_cons fun KK hKK => ?_); go_simp; refine hKK _ ?_; clear hKK KK))
     go_simp)
 ·rw [decide_eq_false h8, Bool.false_and, Bool.false_and]
  by_cases h1 : (8 : Int) < (s.q.length : Int)
  ·clear h8 hq ht
   refine VC_of Tryz.func51 rfl (by kernel_rfl) (by kernel_rfl) rfl fun M0 w0 => ?_
   simp only [Tryz.ntmps51, Tryz.results51, enumA]
   repeat' (first | (with_reducible first | refine vseq ?_ | refine vthenN ?_ | refine vthenR ?_ | refine vret ?_ | refine vrun_nil ?_ | refine vregion [] ?_) | ((with_reducible refine vcondT ?_ ?_); (focus (go_simp; done))) | ((with_reducible refine vrun_cons fun KK hKK => ?_); go_simp; refine hKK _ ?_; clear hKK KK))
   go_simp
  ·by_cases h2 : (42 : Int) < (s.tk.length : Int)
   ·have h3 : (8 : Int) < (s.tk.length : Int) := by omega
    have h4 : ¬ (s.tk.length : Int) ≤ 40 := by omega
    clear h8 hq ht
    refine VC_of Tryz.func51 rfl (by kernel_rfl) (by kernel_rfl) rfl fun M0 w0 => ?_
    simp only [Tryz.ntmps51, Tryz.results51, enumA]
    repeat' (first | (with_reducible first | refine vseq ?_ | refine vthenN ?_ | refine vthenR ?_ | refine vret ?_ | refine vrun_nil ?_ | refine vregion [] ?_) | ((with_reducible refine vcondT ?_ ?_); (focus (go_simp; done))) | ((with_reducible refine vrun_cons fun KK hKK => ?_); go_simp; refine hKK _ ?_; clear hKK KK))
    go_simp
   ·have h3 : (8 : Int) < (s.tk.length : Int) := by omega
    have h4 : (s.tk.length : Int) ≤ 40 := by omega
    clear h8 hq ht
    refine VC_of Tryz.func51 rfl (by kernel_rfl) (by kernel_rfl) rfl fun M0 w0 => ?_
    simp only [Tryz.ntmps51, Tryz.results51, enumA]
    repeat' (first | (with_reducible first | refine vseq ?_ | refine vthenN ?_ | refine vthenR ?_ | refine vret ?_ | refine vrun_nil ?_ | refine vregion [] ?_) | ((with_reducible refine vcondT ?_ ?_); (focus (go_simp; done))) | ((with_reducible refine vrun_cons fun KK hKK => ?_); go_simp; refine hKK _ ?_; clear hKK KK))
    go_simp
theorem small_is {s : St} (h : smallB s = true) (ht : ∀ t ∈ s.tk, i64 t.rank ∧ i64 t.time) (hm : i64 s.time) : SmallS s := by
 unfold smallB at h
 simp only [Bool.and_eq_true, decide_eq_true_eq, Bool.not_eq_true'] at h
 obtain ⟨⟨⟨h1, h2⟩, h3⟩, h4⟩ := h
 have hno : ∀ {p : Nat → Bool} {n : Nat}, anyP p 0 n = false → ∀ k, k < n → p k = false := fun {p n} hp k hk => by
  cases hb : p k
  ·rfl
  ·rw [anyP_hit hk hb] at hp
   cases hp
 refine ⟨by omega, fun l hl => ?_, by omega, fun t htm => ?_, hm⟩
 ·obtain ⟨k, hk, rfl⟩ := List.getElem_of_mem hl
  have hq := hno h3 k hk
  unfold longQ at hq
  rw [qat_get hk, Bool.or_eq_false_iff, decide_eq_false_iff_not] at hq
  refine ⟨by omega, fun c hc => ?_⟩
  obtain ⟨j, hj, rfl⟩ := List.getElem_of_mem hc
  have := hno hq.2 j hj
  rw [longC2, decide_eq_false_iff_not, tat_get hj] at this
  omega
 ·obtain ⟨k, hk, rfl⟩ := List.getElem_of_mem htm
  have := hno h4 k hk
  rw [longK, decide_eq_false_iff_not, tkat_get hk] at this
  exact ⟨by omega, ht _ htm⟩
end Go.Proofs.YtoibondihdhnoaaGreatDoor
