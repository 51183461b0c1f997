/- Texts in one: Joined texts, words of events: plain laws; no condition. -/
import Derived.Test.YthbgghmjbaldlaaGreatDoorFT26
import Derived.Test.YthbgghmjbaldlaaGreatDoorFT18
import Derived.Test.YthbgghmjbaldlaaGreatDoorFT6
import Derived.Test.YthbgghmjbaldlaaGreatDoorFT4
/-! QP4: Joined texts, words of events: plain laws; no condition. -/
namespace Go.Proofs.YthbgghmjbaldlaaGreatDoor
open Go.RowKit Go.Shelf
set_option maxRecDepth 100000
set_option maxHeartbeats 1000000
theorem bl_app (a b : ByteArray) : bl (a ++ b) = bl a ++ bl b := by
  show (a ++ b).data.toList = a.data.toList ++ b.data.toList
  rw [ByteArray.data_append, Array.toList_append]
theorem bl_inj {a b : ByteArray} (h : bl a = bl b) : a = b := by
  have : a.data = b.data := Array.toList_inj.1 h
  cases a
  cases b
  simpa using this
theorem bl_len (a : ByteArray) : (bl a).length = a.size := (size_L a)
theorem join_five (a b c d e s : ByteArray) : joinB [a, b, c, d, e] s = a ++ s ++ b ++ s ++ c ++ s ++ d ++ s ++ e := by
  apply bl_inj
  simp only [bl_app]
  show (Lib.join ([a, b, c, d, e].map bl) (bl s)) = _
  rw [List.map_cons, Lib.join_cons]
  simp [Lib.joinTail, List.append_assoc]
theorem joinlen_five (a b c d e s : ByteArray) : (Lib.join ([a, b, c, d, e].map bl) (bl s)).length = a.size + s.size + b.size + s.size + c.size + s.size + d.size + s.size + e.size := by
  simp only [← bl_len]
  rw [List.map_cons, Lib.join_cons]
  simp [Lib.joinTail]
  omega
theorem word_ne {k : Int} (h : 0 ≤ k ∧ k ≤ 4) : word k ≠ ⟨#[]⟩ := by
  have : k = 0 ∨ k = 1 ∨ k = 2 ∨ k = 3 ∨ k = 4 := by omega
  rcases this with rfl | rfl | rfl | rfl | rfl <;> (unfold word; decide)
theorem word_no {k : Int} (h : ¬ (0 ≤ k ∧ k ≤ 4)) : word k = ⟨#[]⟩ := by
  unfold word
  rw [if_neg (by omega), if_neg (by omega), if_neg (by omega), if_neg (by omega), if_neg (by omega)]
end Go.Proofs.YthbgghmjbaldlaaGreatDoor

/-! QP5: Events that are read, in plain words; no condition. -/
namespace Go.Proofs.YthbgghmjbaldlaaGreatDoor
open Go.RowKit Go.Shelf
set_option maxRecDepth 100000
set_option maxHeartbeats 1000000
def kindsL : List ByteArray := [⟨#[115, 116, 111, 114, 101, 100]⟩, ⟨#[109, 111, 118, 101, 100]⟩, ⟨#[114, 101, 116, 117, 114, 110, 101, 100]⟩, ⟨#[116, 97, 107, 101, 110]⟩, ⟨#[115, 111, 108, 100]⟩]
theorem kind_ix (W : ByteArray) : ixP (isT kindsL W) 0 5 = kindTo W 5 := by
  simp only [ixP, kindTo, isT]
  by_cases h0 : tat kindsL 0 = W
  · subst h0
    decide
  by_cases h1 : tat kindsL 1 = W
  · subst h1
    decide
  by_cases h2 : tat kindsL 2 = W
  · subst h2
    decide
  by_cases h3 : tat kindsL 3 = W
  · subst h3
    decide
  by_cases h4 : tat kindsL 4 = W
  · subst h4
    decide
  have e0 : word ((0 : Nat) : Int) = tat kindsL 0 := by decide
  have e1 : word ((1 : Nat) : Int) = tat kindsL 1 := by decide
  have e2 : word ((2 : Nat) : Int) = tat kindsL 2 := by decide
  have e3 : word ((3 : Nat) : Int) = tat kindsL 3 := by decide
  have e4 : word ((4 : Nat) : Int) = tat kindsL 4 := by decide
  rw [e0, e1, e2, e3, e4]
  simp [h0, h1, h2, h3, h4]
/-- The event that words tell, or the error, as the program has it. -/
def readP (w : List ByteArray) : Event × Int :=
  if w.length ≠ 5 ∨ hasEmpty w = true then (zeroEv, 7) else
  if fst [unl (progOK (tat w 1).data.toList && decide (0 ≤ kindTo (tat w 2) 5)) 7, unl (isName (tat w 0) && isName (tat w 3) && isName (tat w 4)) 4, unl (isDate (progN (tat w 1).data.toList)) 2] ≠ 0 then
    (zeroEv, fst [unl (progOK (tat w 1).data.toList && decide (0 ≤ kindTo (tat w 2) 5)) 7, unl (isName (tat w 0) && isName (tat w 3) && isName (tat w 4)) 4, unl (isDate (progN (tat w 1).data.toList)) 2])
  else (⟨tat w 0, progN (tat w 1).data.toList, kindTo (tat w 2) 5, tat w 3, tat w 4⟩, 0)
theorem progN_num {l : List UInt8} {v : Int} (h : numT l = some v) : progN l = v := by
  unfold progN
  rw [(num_prog h).1]
theorem readP_eq (w : List ByteArray) : readP w = readEv w := by
  unfold readP readEv evE
  split
  · rfl
  · rw [progOK_eq]
    generalize tat w 0 = a
    generalize tat w 2 = c
    generalize tat w 3 = d
    generalize tat w 4 = e
    cases hn : numT (tat w 1).data.toList with
    | none => simp [numR, fst, unl]
    | some v =>
      rw [progN_num hn]
      simp only [numR, Option.isSome_some, Bool.true_and]
      generalize kindTo c 5 = K
      by_cases hK : K < 0
      · have : decide (0 ≤ K) = false := by simpa using hK
        simp [this, hK, fst, unl]
      · have : decide (0 ≤ K) = true := by simpa using hK
        simp only [this, hK, fst, unl, isDate]
        by_cases hI : inR v 0 100000 = true <;> by_cases hA : isName a = true <;> by_cases hD : isName d = true <;> by_cases hE : isName e = true <;> simp [hI, hA, hD, hE]
end Go.Proofs.YthbgghmjbaldlaaGreatDoor

/-! QP6: What is told is read back: events; no program in sight. -/
namespace Go.Proofs.YthbgghmjbaldlaaGreatDoor
open Go.RowKit
set_option maxRecDepth 100000
theorem name_no {s : ByteArray} {c : UInt8} (h : isName s = true) (hc : ∀ i, okChar i c.toNat = false) : c ∉ bl s := by
  intro hm
  obtain ⟨i, hi, he⟩ := List.getElem_of_mem hm
  have hi2 : i < s.size := by rw [bl_len] at hi; exact hi
  simp only [isName, Bool.and_eq_true] at h
  have := List.all_eq_true.1 h.2 i (by simpa using hi2)
  have e : byteAt s i = c := by
    rw [← he]
    unfold byteAt bl
    rw [List.getD, List.getElem?_eq_getElem (by rw [size_L]; exact hi2), Option.getD_some]
    rfl
  rw [e, hc] at this
  cases this
theorem name_ne {s : ByteArray} (h : isName s = true) : s ≠ ⟨#[]⟩ := by
  intro e
  subst e
  cases h
theorem name_le {s : ByteArray} (h : isName s = true) : s.size ≤ 12 := by
  simp only [isName, Bool.and_eq_true, decide_eq_true_eq] at h
  exact h.1.2
theorem bl_dec (n : Int) : bl (decT n) = Lib.itoa n := rfl
theorem dec_no {c : UInt8} (n : Int) (h1 : c ≠ 45) (h2 : isD c = false) : c ∉ bl (decT n) := by
  have hd : ∀ m : Nat, c ∉ Lib.decDigits m := fun m hm => by
    have := List.all_eq_true.1 (all_digits m) c hm
    rw [h2] at this
    cases this
  rw [bl_dec]
  unfold Lib.itoa
  split
  · intro hm
    rcases List.mem_cons.1 hm with hm | hm
    · exact h1 hm
    · exact hd _ hm
  · exact hd _
theorem dec_ne (n : Int) : decT n ≠ ⟨#[]⟩ := by
  intro e
  have h : bl (decT n) = [] := by rw [e]; rfl
  rw [bl_dec] at h
  unfold Lib.itoa at h
  split at h
  · cases h
  · exact digits_ne _ h
theorem num_dec {n : Int} (h : 0 ≤ n ∧ n ≤ 999999999) : numT (decT n).data.toList = some n := by
  have e : (decT n).data.toList = Lib.itoa n := rfl
  rw [e]
  refine prog_num rfl ?_
  obtain ⟨m, rfl⟩ : ∃ m : Nat, n = m := ⟨n.toNat, by omega⟩
  rw [Lib.itoa_nonneg]
  have hl := digits_len 8 m (by omega)
  unfold Lib.trimPrefix
  split
  · rw [List.length_drop]
    omega
  · exact hl
theorem join_two (x y : List UInt8) (r : List (List UInt8)) (s : List UInt8) : Lib.join (x :: y :: r) s = x ++ (s ++ Lib.join (y :: r) s) := by
  rw [Lib.join_cons, Lib.join_cons]
  simp [Lib.joinTail]
theorem cut_join {c : UInt8} : ∀ (r : List (List UInt8)) (x : List UInt8), (∀ p ∈ x :: r, c ∉ p) → cutL c (Lib.join (x :: r) [c]) = x :: r
  | [], x, h => by
    rw [Lib.join_one]
    exact cutL_no (h x (by simp))
  | y :: r, x, h => by
    rw [join_two]
    show cutL c (x ++ c :: Lib.join (y :: r) [c]) = _
    rw [cutL_at (h x (by simp)), cut_join r y fun p hp => h p (List.mem_cons_of_mem _ hp)]
theorem pieces_join {c : UInt8} {l : List ByteArray} (hne : l ≠ []) (h : ∀ p ∈ l, c ∉ bl p) : pieces c (joinB l ⟨#[c]⟩) = l := by
  cases l with
  | nil => exact absurd rfl hne
  | cons x r =>
    unfold pieces
    have e : (joinB (x :: r) ⟨#[c]⟩).data.toList = Lib.join (bl x :: r.map bl) [c] := rfl
    rw [e, cut_join _ _ fun p hp => by
      rcases List.mem_cons.1 hp with rfl | hp
      · exact h x (by simp)
      · obtain ⟨q, hq, rfl⟩ := List.mem_map.1 hp
        exact h q (by simp [hq])]
    show (List.map mkB ((x :: r).map bl)) = x :: r
    rw [List.map_map]
    exact (List.map_congr_left fun a _ => rfl).trans (List.map_id _)
theorem ok32 (i : Nat) : okChar i (32 : UInt8).toNat = false := by
  simp [okChar]
theorem ok61 (i : Nat) : okChar i (61 : UInt8).toNat = false := by
  simp [okChar]
theorem word_kind {k : Int} (h : word k ≠ ⟨#[]⟩) : 0 ≤ k ∧ k ≤ 4 := by
  apply Classical.byContradiction
  intro hn
  exact h (word_no hn)
theorem kind_word {k : Int} (h : 0 ≤ k ∧ k ≤ 4) : kindTo (word k) 5 = k ∧ (32 : UInt8) ∉ bl (word k) := by
  have : k = 0 ∨ k = 1 ∨ k = 2 ∨ k = 3 ∨ k = 4 := by omega
  rcases this with rfl | rfl | rfl | rfl | rfl <;> exact ⟨by decide, by decide⟩
/-- A right event with a word is read back. -/
theorem ev_back {x : Event} (h : evE x = 0) (hw : word x.kind ≠ ⟨#[]⟩) : readEv (pieces 32 (evText x)) = (x, 0) := by
  have h0 := h
  have hn : isName x.item = true ∧ isName x.frm = true ∧ isName x.dst = true ∧ inR x.day 0 100000 = true := by
    unfold evE at h
    split at h
    · rename_i hn
      split at h
      · rename_i hd
        simp only [Bool.and_eq_true] at hn
        exact ⟨hn.1.1, hn.1.2, hn.2, hd⟩
      · cases h
    · cases h
  obtain ⟨n1, n2, n3, hd⟩ := hn
  have hd2 := inR_iff.1 hd
  have hk := word_kind hw
  have hkw := kind_word hk
  have e : evText x = joinB [x.item, decT x.day, word x.kind, x.frm, x.dst] ⟨#[32]⟩ := by rw [join_five, evText, if_neg hw]
  rw [e, pieces_join (by simp) (by
    intro p hp
    simp only [List.mem_cons, List.not_mem_nil, or_false] at hp
    rcases hp with rfl | rfl | rfl | rfl | rfl
    · exact name_no n1 ok32
    · exact dec_no _ (by decide) (by decide)
    · exact hkw.2
    · exact name_no n2 ok32
    · exact name_no n3 ok32)]
  have hE : hasEmpty [x.item, decT x.day, word x.kind, x.frm, x.dst] = false := by
    refine anyP_out fun j hj => ?_
    simp only [List.length_cons, List.length_nil] at hj
    rw [isT, decide_eq_false_iff_not]
    have : j = 0 ∨ j = 1 ∨ j = 2 ∨ j = 3 ∨ j = 4 := by omega
    rcases this with rfl | rfl | rfl | rfl | rfl
    · exact name_ne n1
    · exact dec_ne _
    · exact hw
    · exact name_ne n2
    · exact name_ne n3
  unfold readEv
  rw [if_neg (by simp [hE])]
  simp only [tat, List.getD_cons_zero, List.getD_cons_succ]
  rw [num_dec ⟨hd2.1, by omega⟩, hkw.1]
  rw [if_neg (by simp [numR]; omega), if_neg (by simpa [numR] using h0)]
  rfl
end Go.Proofs.YthbgghmjbaldlaaGreatDoor

/-! QP7: Items that the program reads; texts of at most 900 bytes. -/
namespace Go.Proofs.YthbgghmjbaldlaaGreatDoor
open Go.RowKit Go.Shelf
set_option maxRecDepth 100000
set_option maxHeartbeats 1000000
def mkC (p : ByteArray) : Mark := ⟨cutA 61 p, cutB 61 p⟩
theorem mkC_of {p : ByteArray} (h : okMk p = true) : mkC p = mkOf p := by
  have h2 : (pieces 61 p).length = 2 := by
    simp only [okMk, Bool.not_eq_true', Bool.or_eq_false_iff, decide_eq_false_iff_not, ne_eq, Decidable.not_not] at h
    exact h.1.1
  unfold mkC mkOf
  rw [cut_two h2]
  rfl
theorem cut_small (p : ByteArray) : (mkC p).key.size ≤ p.size ∧ (mkC p).value.size ≤ p.size := by
  unfold mkC cutA cutB Lib.cut
  rw [mkB_size, mkB_size]
  split
  · simp only [List.length_take, List.length_drop, ← size_L]
    omega
  · simp only [size_L, List.length_nil]
    omega
def mksC (w : List ByteArray) (k : Nat) : List Mark := ((w.drop 3).take k).map mkC
@[go_sem] theorem mksC_0 (w : List ByteArray) : mksC w 0 = [] := rfl
theorem mksC_s {w : List ByteArray} {k : Nat} (h : k + 3 < w.length) : mksC w (k + 1) = mksC w k ++ [mkC (tat w (k + 3))] := by
  unfold mksC
  have e : (w.drop 3)[k]? = some (tat w (k + 3)) := by
    rw [List.getElem?_drop, show 3 + k = k + 3 by omega]
    unfold tat
    rw [List.getElem?_eq_getElem h, List.getD, List.getElem?_eq_getElem h]
    rfl
  rw [List.take_add_one, e]
  simp
theorem mksC_len {w : List ByteArray} {k : Nat} (h : k + 3 ≤ w.length) : (mksC w k).length = k := by
  unfold mksC
  simp
  omega
def okK (w : List ByteArray) (ok : Bool) : Nat → Bool
  | 0 => ok
  | k + 1 => okK w ok k && okMk (tat w (k + 3))
@[go_sem] theorem okK_0 (w : List ByteArray) (ok : Bool) : okK w ok 0 = ok := rfl
theorem okK_any (w : List ByteArray) (ok : Bool) : ∀ k, okK w ok k = (ok && decide (∀ j, j < k → okMk (tat w (j + 3)) = true))
  | 0 => by simp [okK]
  | k + 1 => by
    rw [okK, okK_any w ok k, Bool.and_assoc, Bool.eq_iff_iff]
    simp only [Bool.and_eq_true, decide_eq_true_eq]
    constructor
    · rintro ⟨h1, h2, h3⟩
      refine ⟨h1, fun j hj => ?_⟩
      by_cases e : j = k
      · subst e
        exact h3
      · exact h2 j (by omega)
    · rintro ⟨h1, h2⟩
      exact ⟨h1, fun j hj => h2 j (by omega), h2 k (by omega)⟩
def itemP (w : List ByteArray) : Item := ⟨tat w 0, progN (tat w 1).data.toList, tat w 2, mksC w (w.length - 3)⟩
def readItP (w : List ByteArray) : Item × Int :=
  if w.length < 3 ∨ hasEmpty w = true then (zeroIt, 7) else
  if fst [unl (okK w (progOK (tat w 1).data.toList) (w.length - 3)) 7, thingErr (itemP w)] ≠ 0 then (zeroIt, fst [unl (okK w (progOK (tat w 1).data.toList) (w.length - 3)) 7, thingErr (itemP w)]) else (itemP w, 0)
theorem readItP_eq (w : List ByteArray) : readItP w = readIt w := by
  unfold readItP readIt
  split
  · rfl
  · rename_i h3
    have hl : 3 ≤ w.length := by omega
    rw [progOK_eq, okK_any]
    cases hn : numT (tat w 1).data.toList with
    | none => simp [numR, fst, unl]
    | some v =>
      have hv := progN_num hn
      by_cases hb : anyP (badMk w) 0 (w.length - 3) = true
      · obtain ⟨j, _, hj, hp⟩ := anyP_iff.1 hb
        have hno : ¬ ∀ j, j < w.length - 3 → okMk (tat w (j + 3)) = true := fun h => by
          have := h j (by omega)
          simp [badMk, this] at hp
        simp [numR, fst, unl, hno, hb]
      · have hall : ∀ j, j < w.length - 3 → okMk (tat w (j + 3)) = true := fun j hj => by
          cases ho : okMk (tat w (j + 3))
          · exact absurd (anyP_hit hj (show badMk w j = true by simp [badMk, ho])) hb
          · rfl
        have hm : mksC w (w.length - 3) = mksTo w (w.length - 3) := by
          unfold mksC mksTo
          refine List.map_congr_left fun p hp => ?_
          obtain ⟨i, hi, rfl⟩ := List.getElem_of_mem hp
          have hi2 : i + 3 < w.length := by
            simp only [List.length_take, List.length_drop] at hi
            omega
          have e : ((w.drop 3).take (w.length - 3))[i] = tat w (i + 3) := by
            simp only [List.getElem_take, List.getElem_drop, tat]
            rw [List.getD, List.getElem?_eq_getElem hi2]
            simp only [Option.getD_some]
            congr 1
            omega
          rw [e]
          exact mkC_of (hall i (by omega))
        have hi : itemP w = itemOf w := by
          unfold itemP itemOf
          rw [hv, hm, hn]
          rfl
        rw [hi]
        have hb2 : anyP (badMk w) 0 (w.length - 3) = false := by simpa using hb
        rw [decide_eq_true hall, hb2]
        by_cases h0 : thingErr (itemOf w) = 0 <;> simp [numR, fst, unl, h0]
theorem itemP_small {w : List ByteArray} (hl : w.length ≤ 901) (h : ∀ p ∈ w, p.size ≤ 900) : SmallI (itemP w) := by
  have ht : ∀ k, (tat w k).size ≤ 900 := fun k => by
    by_cases hk : k < w.length
    · rw [tat_get hk]
      exact h _ (List.getElem_mem hk)
    · unfold tat
      rw [List.getD, List.getElem?_eq_none (by omega)]
      decide
  refine ⟨by have := ht 0; simp only [itemP]; omega, by have := ht 2; simp only [itemP]; omega, ?_, fun m hm => ?_⟩
  · simp only [itemP]
    unfold mksC
    simp
    omega
  · simp only [itemP] at hm
    unfold mksC at hm
    obtain ⟨p, hpm, rfl⟩ := List.mem_map.1 hm
    have hpw := h p (List.mem_of_mem_drop (List.mem_of_mem_take hpm))
    have := cut_small p
    omega
theorem p_ParseItem (s : ByteArray) (hs : s.size ≤ 900) : VC Tryz.prog 35 [S s] (itRes (readIt (pieces 32 s))) := by
  rw [← readItP_eq]
  have g1 := v_Split s 32 (by omega)
  have hl := pieces_len 32 s
  have hz : ∀ p ∈ pieces 32 s, p.size ≤ 900 := fun p hp => by have := pieces_size hp; omega
  generalize pieces 32 s = w at *
  have g2 := v_ContainsTxt w ⟨#[]⟩ (by omega)
  have he : anyP (isT w ⟨#[]⟩) 0 w.length = hasEmpty w := rfl
  rw [he] at g2
  unfold readItP
  by_cases h3 : w.length < 3
  · rw [if_pos (.inl h3)]
    have h3i : (w.length : Int) < 3 := by omega
    clear hz he
    refine VC_of Tryz.func35 rfl (by kernel_rfl) (by kernel_rfl) rfl fun M0 w0 => ?_
    simp only [Tryz.ntmps35, Tryz.results35, enumA]
    repeat' (first | (with_reducible first | refine vseq ?_ | refine vthenN ?_ | refine vthenE ?_ | refine vthenR ?_ | refine vret ?_ | refine vskip ?_ | refine vexit ?_ | refine vblock ?_ | refine vblockN ?_ | refine vblockR ?_ | refine vblockH ?_ | refine vrun_nil ?_ | refine vblockE rfl ?_ | refine vregion [] ?_ | refine vhrun_nil ?_) | ((with_reducible refine vcondT ?_ ?_); (focus (go_simp; done))) | ((with_reducible refine vcondF ?_ ?_); (focus (go_simp; done))) | ((with_reducible first | refine vrun_cons fun KK hKK => ?_ | refine vhrun_cons fun KK hKK => ?_); go_simp; (first | (with_reducible refine ⟨_, g1, ?_⟩) | skip); refine hKK _ ?_; clear hKK KK) | ((refine vdrawL 7 7 [] rfl (by kernel_rfl) (by kernel_rfl) ?_); simp only [List.append, List.take, List.drop]) | ((refine vdrawL 10 10 [] rfl (by kernel_rfl) (by kernel_rfl) ?_); simp only [List.append, List.take, List.drop]) | ((with_reducible refine vcondS ?_ (fun ht => ?_) (fun ht => ?_)); (focus (go_simp; done)); (all_goals (simp [go_sem] at ht; replace ht := ht.out))) | ((apply vrun_consG0 rfl); (focus (go_simp <;> exact rfl)); (focus (go_simp; done)); (focus (intro hb0; replace hb0 := hb0.out; go_simp <;> (first | exact rfl | exact g1 | exact ⟨g1, rfl⟩))); intro KK hKK; go_simp; refine hKK _ ?_; clear hKK KK) | ((apply vhrun_consG0 rfl); (focus (go_simp <;> exact rfl)); (focus (intro hb0; replace hb0 := hb0.out; go_simp <;> (first | exact rfl | exact g1 | exact ⟨g1, rfl⟩))); intro KK hKK; go_simp; refine hKK _ ?_; clear hKK KK))
    go_simp
  · have h3i : ¬ (w.length : Int) < 3 := by omega
    cases hE : hasEmpty w
    · rw [if_neg (by simp; omega)]
      rw [hE] at g2
      have hsm := itemP_small (w := w) (by omega) hz
      have g4 := p_CheckItem _ hsm
      have l0 : 0 < w.length := by omega
      have l1 : 1 < w.length := by omega
      have l2 : 2 < w.length := by omega
      have q0 : w[0] = tat w 0 := (tat_get l0).symm
      have q1 : w[1] = tat w 1 := (tat_get l1).symm
      have q2 : w[2] = tat w 2 := (tat_get l2).symm
      have g3 := p_number (tat w 1) (by have := hz w[1] (List.getElem_mem l1); rw [q1] at this; omega)
      unfold itemP at *
      generalize tat w 0 = a at *
      generalize tat w 1 = b at *
      generalize tat w 2 = c at *
      generalize progN b.data.toList = n at *
      generalize progOK b.data.toList = ok at *
      clear hsm
      generalize thingErr ⟨a, n, c, mksC w (w.length - 3)⟩ = E at *
      obtain ⟨R, hR⟩ : ∃ R, fst [unl (okK w ok (w.length - 3)) 7, E] = R := ⟨_, rfl⟩
      rw [hR]
      have HR := Lib.hid hR
      have G4 := Lib.hid g4
      have HZ := Lib.hid hz
      have x3 : (3 : Int) ≤ w.length := by omega
      have hdl : (w.drop 3).length = w.length - 3 := List.length_drop ..
      clear hR g4 he hE hz
      refine VC_of Tryz.func35 rfl (by kernel_rfl) (by kernel_rfl) rfl fun M0 w0 => ?_
      simp only [Tryz.ntmps35, Tryz.results35, enumA]
      repeat' (first | (with_reducible first | refine vseq ?_ | refine vthenN ?_ | refine vthenE ?_ | refine vthenR ?_ | refine vret ?_ | refine vskip ?_ | refine vexit ?_ | refine vblock ?_ | refine vblockN ?_ | refine vblockR ?_ | refine vblockH ?_ | refine vrun_nil ?_ | refine vblockE rfl ?_ | refine vregion [] ?_ | refine vhrun_nil ?_) | ((with_reducible refine vcondT ?_ ?_); (focus (go_simp; done))) | ((with_reducible refine vcondF ?_ ?_); (focus (go_simp; done))) | ((with_reducible first | refine vrun_cons fun KK hKK => ?_ | refine vhrun_cons fun KK hKK => ?_); go_simp; (first | (refine ⟨_, g1, ?_⟩) | (refine ⟨_, g2, ?_⟩) | (with_reducible refine ⟨_, g3, ?_⟩) | skip); refine hKK _ ?_; clear hKK KK) | ((with_reducible refine vcondS ?_ (fun ht => ?_) (fun ht => ?_)); (focus (go_simp; done)); (all_goals (simp [go_sem] at ht; replace ht := ht.out))) | ((apply vrun_consG0 rfl); (focus (go_simp <;> exact rfl)); (focus (go_simp; done)); (focus (intro hb0; replace hb0 := hb0.out; go_simp <;> (first | exact rfl | exact g1 | exact g2 | exact g3 | exact ⟨g1, rfl⟩ | exact ⟨g2, rfl⟩ | exact ⟨g3, rfl⟩))); intro KK hKK; go_simp; refine hKK _ ?_; clear hKK KK) | ((apply vhrun_consG0 rfl); (focus (go_simp <;> exact rfl)); (focus (intro hb0; replace hb0 := hb0.out; go_simp <;> (first | exact rfl | exact g1 | exact g2 | exact g3 | exact ⟨g1, rfl⟩ | exact ⟨g2, rfl⟩ | exact ⟨g3, rfl⟩))); intro KK hKK; go_simp; refine hKK _ ?_; clear hKK KK))
      refine vdrawA 9 [] [⟨8, 7, [.string ⟨#[]⟩, .int .i64 0, .string ⟨#[]⟩, .slice none 0 0], none, []⟩] (by kernel_rfl) (by kernel_rfl) (by kernel_rfl) (by go_simp) (by go_simp) ?_
      simp only [List.take, List.drop]
      repeat (first | (with_reducible first | refine vseq ?_ | refine vthenN ?_ | refine vthenE ?_ | refine vthenR ?_ | refine vret ?_ | refine vskip ?_ | refine vexit ?_ | refine vblock ?_ | refine vblockN ?_ | refine vblockR ?_ | refine vblockH ?_ | refine vrun_nil ?_ | refine vblockE rfl ?_ | refine vregion [] ?_ | refine vhrun_nil ?_) | ((with_reducible refine vcondT ?_ ?_); (focus (go_simp; done))) | ((with_reducible refine vcondF ?_ ?_); (focus (go_simp; done))) | ((with_reducible first | refine vrun_cons fun KK hKK => ?_ | refine vhrun_cons fun KK hKK => ?_); go_simp; refine hKK _ ?_; clear hKK KK) | (refine vha_skip rfl ?_) | ((with_reducible refine vha_cons rfl fun KK hKK => ?_); go_simp; refine hKK _ (by go_simp) ?_; clear hKK KK) | (with_reducible refine vha_nil ?_))
      refine ⟨by go_simp, ?_⟩
      simp only [slotS, slotE, Slot.end_, List.cons_append, List.nil_append]
      repeat' (first | (with_reducible first | refine vseq ?_ | refine vthenN ?_ | refine vthenE ?_ | refine vthenR ?_ | refine vret ?_ | refine vskip ?_ | refine vexit ?_ | refine vblock ?_ | refine vblockN ?_ | refine vblockR ?_ | refine vblockH ?_ | refine vrun_nil ?_ | refine vblockE rfl ?_ | refine vregion [] ?_ | refine vhrun_nil ?_) | ((with_reducible refine vcondT ?_ ?_); (focus (go_simp; done))) | ((with_reducible refine vcondF ?_ ?_); (focus (go_simp; done))) | ((with_reducible first | refine vrun_cons fun KK hKK => ?_ | refine vhrun_cons fun KK hKK => ?_); go_simp; refine hKK _ ?_; clear hKK KK) | ((refine vdrawL 7 7 [] rfl (by kernel_rfl) (by kernel_rfl) ?_); simp only [List.append, List.take, List.drop]) | ((refine vdrawL 10 10 [] rfl (by kernel_rfl) (by kernel_rfl) ?_); simp only [List.append, List.take, List.drop]) | ((with_reducible refine vcondS ?_ (fun ht => ?_) (fun ht => ?_)); (focus (go_simp; done)); (all_goals (simp [go_sem] at ht; replace ht := ht.out))) | ((apply vrun_consG0 rfl); (focus (go_simp <;> exact rfl)); (focus (go_simp; done)); (focus (intro hb0; replace hb0 := hb0.out; go_simp <;> (first | exact rfl))); intro KK hKK; go_simp; refine hKK _ ?_; clear hKK KK) | ((apply vhrun_consG0 rfl); (focus (go_simp <;> exact rfl)); (focus (intro hb0; replace hb0 := hb0.out; go_simp <;> (first | exact rfl))); intro KK hKK; go_simp; refine hKK _ ?_; clear hKK KK))
      refine vconv (fun p a w R => ⟨_, Rel.nilCell R (bi := 1) (j := 3) (e := 134) (sz := 2) rfl rfl (by decide)⟩) ?_
      simp only [List.length_cons, List.length_nil, List.set, List.cons_append, List.nil_append]
      apply vcnt [2, 7, 39, 40] (fun k => [(41, I (k : Int)), (6, B (okK w ok k))]) (fun k => ([some (.box [S ⟨#[]⟩, I 0, S ⟨#[]⟩, nil_]), some (.box [S a, I n, S c, .osl 2]), some (.arr 134 2 (decide (mksC w k = [])) ((mksC w k).map Mark.av))] : Hp))  (w.length - 3)
      · go_simp <;> exact rfl
      · go_simp
      · intro k hk K hK
        obtain ⟨w1, w2, w3, w4, w5, w6⟩ := ixs (m := k) (by omega)
        have hk3 : 3 + k < w.length := by omega
        have qk : w[3 + k] = tat w (k + 3) := by
          rw [tat_get (show k + 3 < w.length by omega)]
          congr 1
          omega
        have gc := p_markOf (tat w (k + 3)) (by have := HZ.out w[3 + k] (List.getElem_mem hk3); rw [qk] at this; omega)
        have hm := mksC_s (w := w) (k := k) (by omega)
        have hml := mksC_len (w := w) (k := k) (by omega)
        have hok : okK w ok (k + 1) = (okK w ok k && okMk (tat w (k + 3))) := rfl
        rw [mkC] at hm
        generalize tat w (k + 3) = p at *
        generalize cutA 61 p = u at *
        generalize cutB 61 p = v at *
        generalize okMk p = Q at *
        generalize mksC w k = ms at *
        generalize okK w ok k = O at *
        have HM := Lib.hid hm
        have HO := Lib.hid hok
        have hb : ms.length + 1 ≤ 1000000000 := by omega
        clear hm hml hok
        repeat' (first | (with_reducible first | refine vseq ?_ | refine vthenN ?_ | refine vthenE ?_ | refine vthenR ?_ | refine vret ?_ | refine vskip ?_ | refine vexit ?_ | refine vblock ?_ | refine vblockN ?_ | refine vblockR ?_ | refine vblockH ?_ | refine vrun_nil ?_ | refine vblockE rfl ?_ | refine vregion [] ?_ | refine vhrun_nil ?_) | ((with_reducible refine vcondT ?_ ?_); (focus (go_simp; done))) | ((with_reducible refine vcondF ?_ ?_); (focus (go_simp; done))) | ((with_reducible first | refine vrun_cons fun KK hKK => ?_ | refine vhrun_cons fun KK hKK => ?_); go_simp; (first | (with_reducible refine ⟨_, gc, ?_⟩) | skip); refine hKK _ ?_; clear hKK KK) | ((refine vdrawL 7 7 [] rfl (by kernel_rfl) (by kernel_rfl) ?_); simp only [List.append, List.take, List.drop]) | ((refine vdrawL 10 10 [] rfl (by kernel_rfl) (by kernel_rfl) ?_); simp only [List.append, List.take, List.drop]) | ((with_reducible refine vcondS ?_ (fun ht => ?_) (fun ht => ?_)); (focus (go_simp; done)); (all_goals (simp [go_sem] at ht; replace ht := ht.out))) | ((apply vrun_consG0 rfl); (focus (go_simp <;> exact rfl)); (focus (go_simp; done)); (focus (intro hb0; replace hb0 := hb0.out; go_simp <;> (first | exact rfl | exact gc | exact ⟨gc, rfl⟩))); intro KK hKK; go_simp; refine hKK _ ?_; clear hKK KK) | ((apply vhrun_consG0 rfl); (focus (go_simp <;> exact rfl)); (focus (intro hb0; replace hb0 := hb0.out; go_simp <;> (first | exact rfl | exact gc | exact ⟨gc, rfl⟩))); intro KK hKK; go_simp; refine hKK _ ?_; clear hKK KK))
        refine hK _ ?_
        rw [HM.out, HO.out]
        go_simp
      · intro K
        have hr := HR.out
        have g4 := G4.out
        generalize mksC w (w.length - 3) = ms at *
        generalize okK w ok (w.length - 3) = O at *
        clear HR HZ G4
        by_cases h0 : R = 0
        · rw [if_neg (by simpa using h0)]
          subst h0
          repeat' (first | (with_reducible first | refine vseq ?_ | refine vthenN ?_ | refine vthenE ?_ | refine vthenR ?_ | refine vret ?_ | refine vskip ?_ | refine vexit ?_ | refine vblock ?_ | refine vblockN ?_ | refine vblockR ?_ | refine vblockH ?_ | refine vrun_nil ?_ | refine vblockE rfl ?_ | refine vregion [] ?_ | refine vhrun_nil ?_) | ((with_reducible refine vcondT ?_ ?_); (focus (go_simp; done))) | ((with_reducible refine vcondF ?_ ?_); (focus (go_simp; done))) | ((with_reducible first | refine vrun_cons fun KK hKK => ?_ | refine vhrun_cons fun KK hKK => ?_); go_simp; (first | (with_reducible refine ⟨_, p_unless _ _, ?_⟩) | (refine ⟨_, ⟨g4, rfl⟩, ?_⟩) | (refine ⟨_, p_firstA _ rfl rfl, ?_⟩) | skip); refine hKK _ ?_; clear hKK KK) | ((refine vdrawL 7 7 [] rfl (by kernel_rfl) (by kernel_rfl) ?_); simp only [List.take, List.drop]) | ((refine vdrawL 10 10 [] rfl (by kernel_rfl) (by kernel_rfl) ?_); simp only [List.append, List.take, List.drop]) | ((with_reducible refine vcondS ?_ (fun ht => ?_) (fun ht => ?_)); (focus (go_simp; done)); (all_goals (simp [go_sem] at ht; replace ht := ht.out))) | ((apply vrun_consG0 rfl); (focus (go_simp <;> exact rfl)); (focus (go_simp; done)); (focus (intro hb0; replace hb0 := hb0.out; go_simp <;> (first | exact rfl | exact p_unless _ _ | exact g4 | exact p_firstA _ rfl rfl | exact ⟨p_unless _ _, rfl⟩ | exact ⟨g4, rfl⟩ | exact ⟨p_firstA _ rfl rfl, rfl⟩))); intro KK hKK; go_simp; refine hKK _ ?_; clear hKK KK) | ((apply vhrun_consG0 rfl); (focus (go_simp <;> exact rfl)); (focus (intro hb0; replace hb0 := hb0.out; go_simp <;> (first | exact rfl | exact p_unless _ _ | exact g4 | exact p_firstA _ rfl rfl | exact ⟨p_unless _ _, rfl⟩ | exact ⟨g4, rfl⟩ | exact ⟨p_firstA _ rfl rfl, rfl⟩))); intro KK hKK; go_simp; refine hKK _ ?_; clear hKK KK))
          go_simp
        · rw [if_pos h0]
          repeat' (first | (with_reducible first | refine vseq ?_ | refine vthenN ?_ | refine vthenE ?_ | refine vthenR ?_ | refine vret ?_ | refine vskip ?_ | refine vexit ?_ | refine vblock ?_ | refine vblockN ?_ | refine vblockR ?_ | refine vblockH ?_ | refine vrun_nil ?_ | refine vblockE rfl ?_ | refine vregion [] ?_ | refine vhrun_nil ?_) | ((with_reducible refine vcondT ?_ ?_); (focus (go_simp; done))) | ((with_reducible refine vcondF ?_ ?_); (focus (go_simp; done))) | ((with_reducible first | refine vrun_cons fun KK hKK => ?_ | refine vhrun_cons fun KK hKK => ?_); go_simp; (first | (with_reducible refine ⟨_, p_unless _ _, ?_⟩) | (refine ⟨_, ⟨g4, rfl⟩, ?_⟩) | (refine ⟨_, p_firstA _ rfl rfl, ?_⟩) | skip); refine hKK _ ?_; clear hKK KK) | ((refine vdrawL 7 7 [] rfl (by kernel_rfl) (by kernel_rfl) ?_); simp only [List.take, List.drop]) | ((refine vdrawL 10 10 [] rfl (by kernel_rfl) (by kernel_rfl) ?_); simp only [List.append, List.take, List.drop]) | ((with_reducible refine vcondS ?_ (fun ht => ?_) (fun ht => ?_)); (focus (go_simp; done)); (all_goals (simp [go_sem] at ht; replace ht := ht.out))) | ((apply vrun_consG0 rfl); (focus (go_simp <;> exact rfl)); (focus (go_simp; done)); (focus (intro hb0; replace hb0 := hb0.out; go_simp <;> (first | exact rfl | exact p_unless _ _ | exact g4 | exact p_firstA _ rfl rfl | exact ⟨p_unless _ _, rfl⟩ | exact ⟨g4, rfl⟩ | exact ⟨p_firstA _ rfl rfl, rfl⟩))); intro KK hKK; go_simp; refine hKK _ ?_; clear hKK KK) | ((apply vhrun_consG0 rfl); (focus (go_simp <;> exact rfl)); (focus (intro hb0; replace hb0 := hb0.out; go_simp <;> (first | exact rfl | exact p_unless _ _ | exact g4 | exact p_firstA _ rfl rfl | exact ⟨p_unless _ _, rfl⟩ | exact ⟨g4, rfl⟩ | exact ⟨p_firstA _ rfl rfl, rfl⟩))); intro KK hKK; go_simp; refine hKK _ ?_; clear hKK KK))
          go_simp
    · rw [if_pos (.inr rfl)]
      rw [hE] at g2
      clear hz he hE
      refine VC_of Tryz.func35 rfl (by kernel_rfl) (by kernel_rfl) rfl fun M0 w0 => ?_
      simp only [Tryz.ntmps35, Tryz.results35, enumA]
      repeat' (first | (with_reducible first | refine vseq ?_ | refine vthenN ?_ | refine vthenE ?_ | refine vthenR ?_ | refine vret ?_ | refine vskip ?_ | refine vexit ?_ | refine vblock ?_ | refine vblockN ?_ | refine vblockR ?_ | refine vblockH ?_ | refine vrun_nil ?_ | refine vblockE rfl ?_ | refine vregion [] ?_ | refine vhrun_nil ?_) | ((with_reducible refine vcondT ?_ ?_); (focus (go_simp; done))) | ((with_reducible refine vcondF ?_ ?_); (focus (go_simp; done))) | ((with_reducible first | refine vrun_cons fun KK hKK => ?_ | refine vhrun_cons fun KK hKK => ?_); go_simp; (first | (with_reducible refine ⟨_, g1, ?_⟩) | (refine ⟨_, g2, ?_⟩) | skip); refine hKK _ ?_; clear hKK KK) | ((refine vdrawL 7 7 [] rfl (by kernel_rfl) (by kernel_rfl) ?_); simp only [List.append, List.take, List.drop]) | ((refine vdrawL 10 10 [] rfl (by kernel_rfl) (by kernel_rfl) ?_); simp only [List.append, List.take, List.drop]) | ((with_reducible refine vcondS ?_ (fun ht => ?_) (fun ht => ?_)); (focus (go_simp; done)); (all_goals (simp [go_sem] at ht; replace ht := ht.out))) | ((apply vrun_consG0 rfl); (focus (go_simp <;> exact rfl)); (focus (go_simp; done)); (focus (intro hb0; replace hb0 := hb0.out; go_simp <;> (first | exact rfl | exact g1 | exact g2 | exact ⟨g1, rfl⟩ | exact ⟨g2, rfl⟩))); intro KK hKK; go_simp; refine hKK _ ?_; clear hKK KK) | ((apply vhrun_consG0 rfl); (focus (go_simp <;> exact rfl)); (focus (intro hb0; replace hb0 := hb0.out; go_simp <;> (first | exact rfl | exact g1 | exact g2 | exact ⟨g1, rfl⟩ | exact ⟨g2, rfl⟩))); intro KK hKK; go_simp; refine hKK _ ?_; clear hKK KK))
      go_simp
end Go.Proofs.YthbgghmjbaldlaaGreatDoor

/-! QP8: What is told is read back: items; no program in sight but at the end. -/
namespace Go.Proofs.YthbgghmjbaldlaaGreatDoor
open Go.RowKit
set_option maxRecDepth 100000
set_option maxHeartbeats 1000000
theorem join_snoc {l : List ByteArray} (h : l ≠ []) (y s : ByteArray) : joinB (l ++ [y]) s = joinB l s ++ s ++ y := by
  cases l with
  | nil => exact absurd rfl h
  | cons x r =>
    apply bl_inj
    simp only [bl_app]
    show Lib.join (((x :: r) ++ [y]).map bl) (bl s) = Lib.join ((x :: r).map bl) (bl s) ++ bl s ++ bl y
    rw [List.cons_append, List.map_cons, List.map_cons, Lib.join_cons, Lib.join_cons, List.map_append]
    simp [Lib.joinTail, List.append_assoc]
theorem join_three (a b c s : ByteArray) : joinB [a, b, c] s = a ++ s ++ b ++ s ++ c := by
  apply bl_inj
  simp only [bl_app]
  show (Lib.join ([a, b, c].map bl) (bl s)) = _
  rw [List.map_cons, Lib.join_cons]
  simp [Lib.joinTail, List.append_assoc]
theorem itTo_join (x : Item) : ∀ k, k ≤ x.marks.length → itTo x k = joinB (wordsTo x (decT x.day) k) ⟨#[32]⟩
  | 0, _ => by
    rw [wordsTo_0, join_three]
    rfl
  | k + 1, h => by
    have hk : k < x.marks.length := by omega
    rw [wordsTo_succ hk, join_snoc (by simp [wordsTo]), ← itTo_join x k (by omega), itTo, mat_get hk, markWord]
    apply bl_inj
    simp only [bl_app, List.append_assoc]
theorem join_size (l : List ByteArray) (s : ByteArray) : (Lib.join (l.map bl) (bl s)).length = (joinB l s).size := by
  rw [← bl_len]
  rfl
theorem p_FormatItem2 (x : Item) (h : SmallI x) (hd : -9223372036854775808 ≤ x.day ∧ x.day ≤ 9223372036854775807) : VC Tryz.prog 33 [itemA x] (S (itTo x x.marks.length)) := by
  have hs := itTo_size h hd x.marks.length (Nat.le_refl _)
  have hf := h.few
  rw [itTo_join x _ (Nat.le_refl _)] at hs ⊢
  exact p_FormatItem x (decT x.day) (v_ItoaM x.day hd) h (by
    have e : (Lib.join ((wordsTo x (decT x.day) x.marks.length).map bl) [32]).length = _ := join_size _ ⟨#[32]⟩
    omega)
theorem shortM_20 {l : List Mark} (h : shortM l = true) : ∀ m ∈ l, m.key.size ≤ 20 ∧ m.value.size ≤ 20 := by
  simp only [shortM, Bool.and_eq_true, Bool.not_eq_true', decide_eq_false_iff_not] at h
  intro m hm
  obtain ⟨k, hk, rfl⟩ := List.getElem_of_mem hm
  have hn : longM l k = false := by
    cases hb : longM l k
    · rfl
    · rw [anyP_hit hk hb] at h
      exact absurd h.2 (by simp)
  rw [longM, mat_get hk, Bool.or_eq_false_iff, decide_eq_false_iff_not, decide_eq_false_iff_not] at hn
  omega
theorem itTo_size2 {x : Item} (h : shortI x = true) (hd : -9223372036854775808 ≤ x.day ∧ x.day ≤ 9223372036854775807) : ∀ k, k ≤ x.marks.length → (itTo x k).size ≤ 62 + 42 * k
  | 0, _ => by
    simp only [shortI, Bool.and_eq_true, decide_eq_true_eq] at h
    have s1 := decT_size x.day hd
    have e : (⟨#[32]⟩ : ByteArray).size = 1 := rfl
    simp only [itTo, app_size, e]
    omega
  | k + 1, hk => by
    have ih := itTo_size2 h hd k (by omega)
    have hm := shortM_20 (by simp only [shortI, Bool.and_eq_true] at h; exact h.2) _ (List.getElem_mem (show k < x.marks.length by omega))
    rw [← mat_get (show k < x.marks.length by omega)] at hm
    have e : (⟨#[32]⟩ : ByteArray).size = 1 := rfl
    have e2 : (⟨#[61]⟩ : ByteArray).size = 1 := rfl
    simp only [itTo, app_size, e, e2]
    omega
theorem marks_names {l : List Mark} (h : (checkMarks l).2 = 0) : l.length ≤ 8 ∧ ∀ k, k < l.length → isName (mat l k).key = true ∧ isName (mat l k).value = true := by
  unfold checkMarks checkL at h
  split at h
  · cases h
  · rename_i hl
    refine ⟨by omega, fun k hk => ?_⟩
    have hz : markE l k = 0 := by
      apply Classical.byContradiction
      intro hn
      have : ∀ n j, j ≤ k → k < j + n → (firstErr (markE l) j n).2 ≠ 0 := by
        intro n
        induction n with
        | zero => intro j h1 h2; omega
        | succ n ih =>
          intro j h1 h2
          rw [firstErr]
          split
          · assumption
          · rename_i hj
            have : j ≠ k := fun e => by subst e; exact hj hn
            exact ih (j + 1) (by omega) (by omega)
      exact this l.length 0 (by omega) (by omega) h
    have hu := fst_zero hz (unl (isName (mat l k).key && isName (mat l k).value) 4) (by simp)
    cases hb : (isName (mat l k).key && isName (mat l k).value)
    · rw [hb] at hu
      cases hu
    · simpa using hb
theorem pieces_no {c : UInt8} {p : ByteArray} (h : c ∉ bl p) : pieces c p = [p] := by
  have := pieces_join (c := c) (l := [p]) (by simp) (by simpa using h)
  have e : joinB [p] ⟨#[c]⟩ = p := by
    apply bl_inj
    show Lib.join [bl p] (bl ⟨#[c]⟩) = bl p
    exact Lib.join_one _ _
  rwa [e] at this
theorem mark_back {m : Mark} (h1 : isName m.key = true) (h2 : isName m.value = true) : okMk (markWord m) = true ∧ mkOf (markWord m) = m ∧ (32 : UInt8) ∉ bl (markWord m) ∧ markWord m ≠ ⟨#[]⟩ := by
  have e : pieces 61 (markWord m) = [m.key, m.value] := by
    have := pieces_join (c := 61) (l := [m.key, m.value]) (by simp) (by
      intro p hp
      simp only [List.mem_cons, List.not_mem_nil, or_false] at hp
      rcases hp with rfl | rfl
      · exact name_no h1 ok61
      · exact name_no h2 ok61)
    have e2 : joinB [m.key, m.value] ⟨#[61]⟩ = markWord m := by
      apply bl_inj
      simp only [markWord, bl_app]
      show Lib.join ([m.key, m.value].map bl) (bl ⟨#[61]⟩) = _
      rw [List.map_cons, Lib.join_cons]
      simp [Lib.joinTail, List.append_assoc]
    rwa [e2] at this
  refine ⟨?_, ?_, ?_, ?_⟩
  · unfold okMk
    rw [e]
    simp [tat, name_ne h1, name_ne h2]
  · unfold mkOf
    rw [e]
    rfl
  · simp only [markWord, bl_app, List.mem_append, not_or]
    exact ⟨⟨name_no h1 ok32, by decide⟩, name_no h2 ok32⟩
  · intro hz
    have : (bl (markWord m)).length = 0 := by rw [hz]; rfl
    simp only [markWord, bl_app, List.length_append] at this
    have e : (bl ⟨#[61]⟩).length = 1 := rfl
    omega
theorem day_of {x : Item} (h : thingErr x = 0) : isName x.name = true ∧ isName x.who = true ∧ (0 ≤ x.day ∧ x.day ≤ 100000) ∧ (checkMarks x.marks).2 = 0 := by
  unfold thingErr at h
  have z1 := fst_zero h (unl (isName x.name && isName x.who) 4) (by simp)
  have z2 := fst_zero h (unl (isDate x.day) 2) (by simp)
  have z3 := fst_zero h (checkMarks x.marks).2 (by simp)
  have u1 : (isName x.name && isName x.who) = true := by
    cases hb : (isName x.name && isName x.who)
    · rw [hb] at z1
      cases z1
    · rfl
  have u2 : isDate x.day = true := by
    cases hb : isDate x.day
    · rw [hb] at z2
      cases z2
    · rfl
  rw [Bool.and_eq_true] at u1
  exact ⟨u1.1, u1.2, inR_iff.1 u2, z3⟩
/-- A right item is read back. -/
theorem it_back {x : Item} (h : thingErr x = 0) : readIt (pieces 32 (itTo x x.marks.length)) = (x, 0) := by
  obtain ⟨n1, n2, hd, hm⟩ := day_of h
  obtain ⟨hl, hn⟩ := marks_names hm
  have hmk : ∀ m ∈ x.marks, isName m.key = true ∧ isName m.value = true := fun m hmm => by
    obtain ⟨k, hk, rfl⟩ := List.getElem_of_mem hmm
    have := hn k hk
    rwa [mat_get hk] at this
  have hw : wordsTo x (decT x.day) x.marks.length = [x.name, decT x.day, x.who] ++ x.marks.map markWord := by
    unfold wordsTo
    rw [List.take_length]
  rw [itTo_join x _ (Nat.le_refl _), hw, pieces_join (by simp) (by
    intro p hp
    simp only [List.mem_append, List.mem_cons, List.not_mem_nil, or_false] at hp
    rcases hp with (rfl | rfl | rfl) | hp
    · exact name_no n1 ok32
    · exact dec_no _ (by decide) (by decide)
    · exact name_no n2 ok32
    · obtain ⟨m, hmm, rfl⟩ := List.mem_map.1 hp
      exact (mark_back (hmk m hmm).1 (hmk m hmm).2).2.2.1)]
  have hE : hasEmpty ([x.name, decT x.day, x.who] ++ x.marks.map markWord) = false := by
    refine anyP_out fun j hj => ?_
    rw [isT, decide_eq_false_iff_not, tat_get hj]
    have hmem := List.getElem_mem hj
    intro he
    rw [he] at hmem
    simp only [List.mem_append, List.mem_cons, List.not_mem_nil, or_false, List.mem_map] at hmem
    rcases hmem with (e | e | e) | ⟨m, hmm, e⟩
    · exact name_ne n1 e.symm
    · exact dec_ne _ e.symm
    · exact name_ne n2 e.symm
    · exact (mark_back (hmk m hmm).1 (hmk m hmm).2).2.2.2 e
  have hlen : ([x.name, decT x.day, x.who] ++ x.marks.map markWord).length - 3 = x.marks.length := by simp
  have hbad : anyP (badMk ([x.name, decT x.day, x.who] ++ x.marks.map markWord)) 0 x.marks.length = false := by
    refine anyP_out fun j hj => ?_
    have e : tat ([x.name, decT x.day, x.who] ++ x.marks.map markWord) (j + 3) = markWord x.marks[j] := by simp [tat, hj]
    rw [badMk, e, (mark_back (hmk _ (List.getElem_mem hj)).1 (hmk _ (List.getElem_mem hj)).2).1]
    rfl
  have hit : itemOf ([x.name, decT x.day, x.who] ++ x.marks.map markWord) = x := by
    unfold itemOf
    rw [mksTo_all]
    have e3 : ([x.name, decT x.day, x.who] ++ x.marks.map markWord).drop 3 = x.marks.map markWord := rfl
    have e1 : tat ([x.name, decT x.day, x.who] ++ x.marks.map markWord) 1 = decT x.day := rfl
    rw [e3, e1, num_dec ⟨hd.1, by omega⟩, List.map_map]
    have : x.marks.map (mkOf ∘ markWord) = x.marks := (List.map_congr_left fun m hmm => (mark_back (hmk m hmm).1 (hmk m hmm).2).2.1).trans (List.map_id _)
    rw [this]
    rfl
  unfold readIt
  rw [if_neg (fun h => h.elim (fun h => absurd h (by rw [List.length_append]; show ¬ (3 + _ < 3); omega)) (fun h => by rw [hE] at h; cases h)), hlen, hbad, hit]
  have e1 : tat ([x.name, decT x.day, x.who] ++ x.marks.map markWord) 1 = decT x.day := rfl
  rw [e1, num_dec ⟨hd.1, by omega⟩, if_neg (by simp [numR]), if_neg (by simp), if_neg (by simpa using h)]
theorem sameItem_self (x : Item) : sameItem x x = true := by
  unfold sameItem
  simp only [if_true]
  rw [anyP_out fun j _ => by simp [difM]]
  rfl
/-- What is read, nothing where there is an error. -/
def rdI (r : Item × Int) : Item := if r.2 = 0 then r.1 else zeroIt
theorem rd_weak {f : FuncId} {args : List AV} {r : Item × Int} (h : VC Tryz.prog f args (itRes r)) : VC Tryz.prog f args (.tup [itemA (rdI r), I r.2]) := by
  refine VC.weak h fun w M v hv => ?_
  unfold itRes at hv
  unfold rdI
  by_cases h0 : r.2 = 0
  · rw [if_pos h0] at hv ⊢
    exact hv
  · rw [if_neg h0] at hv ⊢
    cases hv with
    | tup _ us hl hh =>
      refine .tup _ us hl fun i c u hc hu => ?_
      match i with
      | 0 =>
        simp only [List.getElem?_cons_zero, Option.some.injEq] at hc
        subst hc
        have h1 := hh 0 _ u rfl hu
        cases h1 with
        | agg _ vs hvl h1 h2 =>
          refine .agg _ vs (by simpa using hvl) (by simp [oneAV, Value.oneCell', zeroIt]) fun j c2 u2 hc2 hu2 => ?_
          match j with
          | 0 => simp only [List.getElem?_cons_zero, Option.some.injEq] at hc2; subst hc2; exact h2 0 _ u2 rfl hu2
          | 1 => simp only [List.getElem?_cons_zero, List.getElem?_cons_succ, Option.some.injEq] at hc2; subst hc2; exact h2 1 _ u2 rfl hu2
          | 2 => simp only [List.getElem?_cons_zero, List.getElem?_cons_succ, Option.some.injEq] at hc2; subst hc2; exact h2 2 _ u2 rfl hu2
          | 3 => simp only [List.getElem?_cons_zero, List.getElem?_cons_succ, Option.some.injEq] at hc2; subst hc2; exact (h2 3 _ u2 rfl hu2).nilSl 2
          | q + 4 => simp at hc2
      | 1 =>
        simp only [List.getElem?_cons_zero, List.getElem?_cons_succ, Option.some.injEq] at hc
        subst hc
        exact hh 1 _ u rfl hu
      | q + 2 => simp at hc
theorem rd_len (s : ByteArray) : (rdI (readIt (pieces 32 s))).marks.length ≤ s.size + 1 := by
  unfold rdI
  split
  · have hl := pieces_len 32 s
    unfold readIt
    have : ∀ w : List ByteArray, w.length ≤ s.size + 1 → (itemOf w).marks.length ≤ s.size + 1 := fun w hw => by
      unfold itemOf mksTo
      simp
      omega
    repeat' split
    all_goals first | exact this _ hl | (simp [zeroIt])
  · simp [zeroIt]
end Go.Proofs.YthbgghmjbaldlaaGreatDoor
