/- Texts in one: Chapter 9: what its functions compute, as plain functions; no condition. -/
import Derived.Test.YthbgghmjbaldlaaGreatDoorFT4
import Derived.Test.YthbgghmjbaldlaaGreatDoorFT5
/-! P9: Chapter 9: what its functions compute, as plain functions; no condition. -/
namespace Go.Proofs.YthbgghmjbaldlaaGreatDoor
open Go.RowKit
/-- A mark. -/
structure Mark where
  key : ByteArray
  value : ByteArray
instance : Inhabited Mark := ⟨⟨ByteArray.empty, ByteArray.empty⟩⟩
@[go_sem] def Mark.av (m : Mark) : List AV := [S m.key, S m.value]
abbrev marksA (l : List Mark) : AV := .sl 2 (l.map Mark.av)
def mat (l : List Mark) (k : Nat) : Mark := l.getD k default
theorem mat_get {l : List Mark} {k : Nat} (h : k < l.length) : mat l k = l[k] := by simp [mat, h]
/-- An item, or a claim. -/
structure Item where
  name : ByteArray
  day : Int
  who : ByteArray
  marks : List Mark
instance : Inhabited Item := ⟨⟨ByteArray.empty, 0, ByteArray.empty, []⟩⟩
@[go_sem] def Item.av (x : Item) : List AV := [S x.name, I x.day, S x.who, .sl 2 (x.marks.map Mark.av)]
abbrev itemA (x : Item) : AV := .agg [S x.name, I x.day, S x.who, .sl 2 (x.marks.map Mark.av)]
abbrev itemsA (l : List Item) : AV := .sl 4 (l.map Item.av)
def xat (l : List Item) (k : Nat) : Item := l.getD k default
theorem xat_get {l : List Item} {k : Nat} (h : k < l.length) : xat l k = l[k] := by simp [xat, h]
/-- An event. -/
structure Event where
  item : ByteArray
  day : Int
  kind : Int
  frm : ByteArray
  dst : ByteArray
instance : Inhabited Event := ⟨⟨ByteArray.empty, 0, 0, ByteArray.empty, ByteArray.empty⟩⟩
@[go_sem] def Event.av (x : Event) : List AV := [S x.item, I x.day, I x.kind, S x.frm, S x.dst]
abbrev eventsA (l : List Event) : AV := .sl 5 (l.map Event.av)
def eat (l : List Event) (k : Nat) : Event := l.getD k default
theorem eat_get {l : List Event} {k : Nat} (h : k < l.length) : eat l k = l[k] := by simp [eat, h]
/-- An item with its events. -/
abbrev chainA (x : Item) (l : List Event) : AV := .agg [S x.name, I x.day, S x.who, .sl 2 (x.marks.map Mark.av), .sl 5 (l.map Event.av)]
structure Kept where
  item : Item
  events : List Event
instance : Inhabited Kept := ⟨⟨default, []⟩⟩
@[go_sem] def Kept.av (x : Kept) : List AV := [S x.item.name, I x.item.day, S x.item.who, .sl 2 (x.item.marks.map Mark.av), .sl 5 (x.events.map Event.av)]
abbrev keptsA (l : List Kept) : AV := .sl 5 (l.map Kept.av)
def kat (l : List Kept) (k : Nat) : Kept := l.getD k default
theorem kat_get {l : List Kept} {k : Nat} (h : k < l.length) : kat l k = l[k] := by simp [kat, h]
abbrev intsA (l : List Int) : AV := .sl 1 (l.map intA)
abbrev txtsA (l : List ByteArray) : AV := .sl 1 (l.map txtA)
abbrev nil_ : AV := .lit (.slice none 0 0)

/-- Small numbers behind one another. -/
theorem ixs {m : Nat} (h : m ≤ 1000000000) : IntKind.i64.wrap (m : Int) = m ∧ IntKind.i64.wrap ((m : Int) + 1) = m + 1 ∧ ((m : Int) + 1).toNat = m + 1 ∧ (0 : Int) ≤ (m : Int) + 1 ∧ (0 : Int) < (m : Int) + 1 ∧ IntKind.i64.wrap ((m : Int) + 1 + 1) = m + 1 + 1 :=
  ⟨wrap_eq (by omega) (by omega), wrap_eq (by omega) (by omega), by omega, by omega, by omega, wrap_eq (by omega) (by omega)⟩
theorem wrap1 : IntKind.i64.wrap 1 = 1 := rfl
attribute [go_sem] wrap1
theorem ite0 (e : Int) : (if e = 0 then 0 else e) = e := by split <;> simp_all
/-! ### Sizes -/
def SmallM (l : List Mark) : Prop := ∀ m ∈ l, m.key.size ≤ 1000 ∧ m.value.size ≤ 1000
theorem SmallM.at_ {l : List Mark} (h : SmallM l) {k : Nat} (hk : k < l.length) : l[k].key.size ≤ 1000 ∧ l[k].value.size ≤ 1000 := h _ (List.getElem_mem hk)
structure SmallI (x : Item) : Prop where
  name : x.name.size ≤ 1000
  who : x.who.size ≤ 1000
  few : x.marks.length ≤ 1000
  marks : SmallM x.marks
structure SmallE (x : Event) : Prop where
  item : x.item.size ≤ 1000
  frm : x.frm.size ≤ 1000
  dst : x.dst.size ≤ 1000
/-- Sizes as large as any. -/
structure BigI (x : Item) : Prop where
  name : x.name.size ≤ 9223372036854775807
  who : x.who.size ≤ 9223372036854775807
  few : x.marks.length ≤ 9223372036854775807
  marks : ∀ m ∈ x.marks, m.key.size ≤ 9223372036854775807 ∧ m.value.size ≤ 9223372036854775807
structure BigE (x : Event) : Prop where
  item : x.item.size ≤ 9223372036854775807
  frm : x.frm.size ≤ 9223372036854775807
  dst : x.dst.size ≤ 9223372036854775807

/-! ### Marks, items, claims -/
/-- A text behind another one. -/
def gtB (a b : ByteArray) : Bool := !Op.bytesLess a.toList b.toList && !decide (a = b)
/-- The error of mark number k. -/
def markE (l : List Mark) (k : Nat) : Int := fst [unl (isName (mat l k).key && isName (mat l k).value) 4, unl (decide (k = 0) || gtB (mat l k).key (mat l (k - 1)).key) 9]
def checkMarks (l : List Mark) : Nat × Int := checkL l.length 8 (markE l)
def bef (l : List Mark) (k : Nat) : ByteArray := if k = 0 then ⟨#[]⟩ else (mat l (k - 1)).key
def thingErr (x : Item) : Int := fst [unl (isName x.name && isName x.who) 4, unl (isDate x.day) 2, (checkMarks x.marks).2]
/-- The value of the last of the first n marks of a key. -/
def valTo (l : List Mark) (key : ByteArray) : Nat → Option ByteArray
  | 0 => none
  | n + 1 => if (mat l n).key = key then some (mat l n).value else valTo l key n
def valOf (l : List Mark) (key : ByteArray) : Option ByteArray := valTo l key l.length
/-- In how many of the first n keys marks agree, and in how many they differ. -/
def agrTo (a b : List Mark) : Nat → Int × Int
  | 0 => (0, 0)
  | n + 1 => match valOf a (mat b n).key with
    | none => agrTo a b n
    | some v => if v = (mat b n).value then ((agrTo a b n).1 + 1, (agrTo a b n).2) else ((agrTo a b n).1, (agrTo a b n).2 + 1)
def agr (a b : List Mark) : Int × Int := agrTo a b b.length
def canBe (x c : Item) : Bool := decide (x.day ≥ c.day - 3) && decide ((agr x.marks c.marks).2 = 0) && decide ((agr x.marks c.marks).1 ≥ 2)
/-- The numbers below n for which p holds. -/
def numF (p : Nat → Bool) : Nat → List Int
  | 0 => []
  | n + 1 => if p n then numF p n ++ [(n : Int)] else numF p n
def cands (l : List Item) (c : Item) : List Int := numF (fun k => canBe (xat l k) c) l.length
/-- Whether some number from k on, n of them, has p. -/
def anyP (p : Nat → Bool) : Nat → Nat → Bool
  | _, 0 => false
  | k, n + 1 => p k || anyP p (k + 1) n
theorem anyP_at {p : Nat → Bool} {k n : Nat} (h : k < n) : anyP p k (n - k) = (p k || anyP p (k + 1) (n - (k + 1))) := by
  rw [show n - k = (n - (k + 1)) + 1 by omega, anyP]
theorem anyP_iff {p : Nat → Bool} : ∀ {n k : Nat}, anyP p k n = true ↔ ∃ j, k ≤ j ∧ j < k + n ∧ p j = true
  | 0, k => by
    simp only [anyP, Bool.false_eq_true, false_iff]
    rintro ⟨j, h1, h2, _⟩
    omega
  | n + 1, k => by
    rw [anyP, Bool.or_eq_true, anyP_iff]
    constructor
    · rintro (h | ⟨j, h1, h2, h3⟩)
      · exact ⟨k, Nat.le_refl _, by omega, h⟩
      · exact ⟨j, by omega, by omega, h3⟩
    · rintro ⟨j, h1, h2, h3⟩
      by_cases hj : j = k
      · subst hj
        exact .inl h3
      · exact .inr ⟨j, by omega, by omega, h3⟩
/-- The first number from k on, n of them, that has p; -1: none. -/
def ixP (p : Nat → Bool) : Nat → Nat → Int
  | _, 0 => -1
  | k, n + 1 => if p k then (k : Int) else ixP p (k + 1) n
theorem ixP_at {p : Nat → Bool} {k n : Nat} (h : k < n) : ixP p k (n - k) = if p k then (k : Int) else ixP p (k + 1) (n - (k + 1)) := by
  rw [show n - k = (n - (k + 1)) + 1 by omega, ixP]
theorem ixP_any {p : Nat → Bool} : ∀ (n k : Nat), decide (0 ≤ ixP p k n) = anyP p k n
  | 0, k => by simp [ixP, anyP]
  | n + 1, k => by
    rw [ixP, anyP]
    by_cases h : p k
    · rw [if_pos h, h]
      simp
    · rw [if_neg h, ixP_any n (k + 1)]
      simp [h]
theorem anyP_hit {p : Nat → Bool} {k n : Nat} (hk : k < n) (h : p k = true) : anyP p 0 n = true := anyP_iff.2 ⟨k, Nat.zero_le _, by omega, h⟩
theorem anyP_out {p : Nat → Bool} {n : Nat} (h : ∀ j, j < n → p j = false) : anyP p 0 n = false := by
  cases ha : anyP p 0 n
  · rfl
  · obtain ⟨j, _, hj, hp⟩ := anyP_iff.1 ha
    rw [h j (by omega)] at hp
    cases hp
theorem ixP_hitF {p : Nat → Bool} {k : Nat} (h : p k = true) : ∀ (n a : Nat), a ≤ k → k < a + n → (∀ j, a ≤ j → j < k → p j = false) → ixP p a n = k
  | 0, a, h1, h2, _ => by omega
  | n + 1, a, h1, h2, hb => by
    rw [ixP]
    by_cases he : a = k
    · subst he
      rw [if_pos h]
    · rw [if_neg (by rw [hb a (Nat.le_refl _) (by omega)]; decide)]
      exact ixP_hitF h n (a + 1) (by omega) (by omega) fun j h1 h2 => hb j (by omega) h2
theorem ixP_hit {p : Nat → Bool} {k n : Nat} (hk : k < n) (hb : ∀ j, j < k → p j = false) (h : p k = true) : ixP p 0 n = k := ixP_hitF h n 0 (Nat.zero_le _) (by omega) fun j _ hj => hb j hj
theorem ixP_outF {p : Nat → Bool} : ∀ (n a : Nat), (∀ j, a ≤ j → j < a + n → p j = false) → ixP p a n = -1
  | 0, _, _ => rfl
  | n + 1, a, h => by
    rw [ixP, if_neg (by rw [h a (Nat.le_refl _) (by omega)]; decide)]
    exact ixP_outF n (a + 1) fun j h1 h2 => h j (by omega) (by omega)
theorem ixP_out {p : Nat → Bool} {n : Nat} (h : ∀ j, j < n → p j = false) : ixP p 0 n = -1 := ixP_outF n 0 fun j _ hj => h j (by omega)
theorem firstErr_hitF {E : Nat → Int} {k : Nat} (h : E k ≠ 0) : ∀ (n a : Nat), a ≤ k → k < a + n → (∀ j, a ≤ j → j < k → E j = 0) → firstErr E a n = (k, E k)
  | 0, a, h1, h2, _ => by omega
  | n + 1, a, h1, h2, hb => by
    rw [firstErr]
    by_cases he : a = k
    · subst he
      rw [if_pos h]
    · rw [if_neg (by rw [hb a (Nat.le_refl _) (by omega)]; decide)]
      exact firstErr_hitF h n (a + 1) (by omega) (by omega) fun j h1 h2 => hb j (by omega) h2
/-- Whether number k is wrong. -/
def bad (E : Nat → Int) (k : Nat) : Bool := decide (E k ≠ 0)
theorem bad_no {E : Nat → Int} {k : Nat} (h : bad E k = false) : E k = 0 := by simpa [bad] using h
theorem bad_yes {E : Nat → Int} {k : Nat} (h : bad E k = true) : E k ≠ 0 := by simpa [bad] using h
theorem firstErr_hit {E : Nat → Int} {k n : Nat} (hk : k < n) (hb : ∀ j, j < k → bad E j = false) (h : bad E k = true) : firstErr E 0 n = (k, E k) := firstErr_hitF (bad_yes h) n 0 (Nat.zero_le _) (by omega) fun j _ hj => bad_no (hb j hj)
theorem firstErr_outF {E : Nat → Int} : ∀ (n a : Nat), (∀ j, a ≤ j → j < a + n → E j = 0) → firstErr E a n = (0, 0)
  | 0, _, _ => rfl
  | n + 1, a, h => by
    rw [firstErr, if_neg (by rw [h a (Nat.le_refl _) (by omega)]; decide)]
    exact firstErr_outF n (a + 1) fun j h1 h2 => h j (by omega) (by omega)
theorem firstErr_out {E : Nat → Int} {n : Nat} (h : ∀ j, j < n → bad E j = false) : firstErr E 0 n = (0, 0) := firstErr_outF n 0 fun j _ hj => bad_no (h j (by omega))
/-- The error of items, or claims. -/
def listE (l : List Item) (k : Nat) : Int := fst [thingErr (xat l k), unl (!anyP (fun j => decide ((xat l j).name = (xat l k).name)) 0 k) 5]
def itemsErr (l : List Item) : Int := (checkL l.length 12 (listE l)).2

/-! ### Chains -/
def holder (x : Item) (l : List Event) : ByteArray := if l.length = 0 then x.who else (eat l (l.length - 1)).dst
def state (l : List Event) : Int := if l.length = 0 then 0 else if (eat l (l.length - 1)).kind = 2 then 2 else if (eat l (l.length - 1)).kind = 3 then 3 else if (eat l (l.length - 1)).kind = 4 then 4 else 1
def isDone (l : List Event) : Bool := !(decide (state l = 0) || decide (state l = 1))
def since (l : List Event) (day : Int) : Int := IntKind.i64.wrap (day - (eat l 0).day)
def right (l : List Event) (day : Int) : Int := if isDone l then 0 else if state l = 0 then 1 else if since l day ≤ 180 then 1 else if since l day ≤ 210 then 2 else 3
def lastDay (x : Item) (l : List Event) : Int := if l.length = 0 then x.day else (eat l (l.length - 1)).day
def nextE (x : Item) (l : List Event) (v : Event) : Int := fst [unl (decide (v.item = x.name)) 6, unl (isDate v.day) 2, unl (inR v.kind 0 4) 15, unl (isName v.frm && isName v.dst) 4, unl (decide (lastDay x l ≤ v.day)) 9,
  unl ((decide (v.kind = 0) == decide (l.length = 0)) && !isDone l) 22, unl (decide (v.frm = holder x l)) 13, unl (decide (v.kind ≠ 3) || decide (v.dst = x.who)) 18,
  unl (if v.kind = 3 then decide (right l v.day = 2) else if v.kind = 4 then decide (right l v.day = 3) else true) 25]
def chainE (x : Item) (l : List Event) (k : Nat) : Int := nextE x (l.take k) (eat l k)
def checkChain (x : Item) (l : List Event) : Nat × Int := if thingErr x ≠ 0 then (0, thingErr x) else checkL l.length 30 (chainE x l)
/-- How many events there are up to the end of a day. -/
def upTo (l : List Event) (day : Int) : Nat → Nat → Nat
  | k, 0 => k
  | k, n + 1 => if (eat l k).day ≤ day then upTo l day (k + 1) n else k
def untilL (l : List Event) (day : Int) : List Event := l.take (upTo l day 0 l.length)
def atErr (x : Item) (l : List Event) (day : Int) : Int := fst [(checkChain x l).2, unl (inR day x.day 100000) 2]
end Go.Proofs.YthbgghmjbaldlaaGreatDoor

/-! QB: Walks on plain values: marks, items, claims; texts of at most 1000 bytes. -/
namespace Go.Proofs.YthbgghmjbaldlaaGreatDoor
open Go.RowKit
set_option maxRecDepth 100000
theorem markE_at {l : List Mark} {k : Nat} (hk : k < l.length) : markE l k = fst [unl (isName l[k].key && isName l[k].value) 4, unl (decide (k = 0) || gtB l[k].key (bef l k)) 9] := by
  unfold markE bef
  rw [mat_get hk]
  by_cases h0 : k = 0
  · simp [h0]
  · rw [if_neg h0]
theorem bef_next {l : List Mark} {k : Nat} (hk : k < l.length) : bef l (k + 1) = l[k].key := by
  unfold bef
  rw [if_neg (by omega), Nat.add_sub_cancel, mat_get hk]
theorem p_CheckMarks (l : List Mark) (hl : l.length ≤ 1000000) (hd : SmallM l) : VC Tryz.prog 170 [marksA l] (.tup [I (checkMarks l).1, I (checkMarks l).2]) := by
  obtain ⟨R, hR⟩ : ∃ R, checkMarks l = R := ⟨_, rfl⟩
  rw [hR]
  obtain ⟨Rk, Re⟩ := R
  unfold checkMarks checkL at hR
  have HR := Lib.hid hR
  have HD := Lib.hid hd
  clear hR hd
  refine VC_of Tryz.func170 rfl (by kernel_rfl) (by kernel_rfl) rfl fun M0 w0 => ?_
  simp only [Tryz.ntmps170, Tryz.results170, enumA]
  by_cases h8 : (8 : Int) < l.length
  · repeat (first | (with_reducible first | refine vseq ?_ | refine vthenN ?_ | refine vthenE ?_ | refine vthenR ?_ | refine vret ?_ | refine vskip ?_ | refine vexit ?_ | refine vblock ?_ | refine vblockN ?_ | refine vblockR ?_ | refine vblockH ?_ | refine vrun_nil ?_ | refine vblockE rfl ?_ | refine vregion [] ?_ | refine vhrun_nil ?_) | ((with_reducible refine vcondT ?_ ?_); (focus (go_simp; done))) | ((with_reducible refine vcondF ?_ ?_); (focus (go_simp; done))) | ((with_reducible first | refine vrun_cons fun KK hKK => ?_ | refine vhrun_cons fun KK hKK => ?_); go_simp; refine hKK _ ?_; clear hKK KK))
    have e := HR.out
    rw [if_pos (by omega)] at e
    injection e with e1 e2
    subst e1 e2
    go_simp
  · repeat (first | (with_reducible first | refine vseq ?_ | refine vthenN ?_ | refine vthenE ?_ | refine vthenR ?_ | refine vret ?_ | refine vskip ?_ | refine vexit ?_ | refine vblock ?_ | refine vblockN ?_ | refine vblockR ?_ | refine vblockH ?_ | refine vrun_nil ?_ | refine vblockE rfl ?_ | refine vregion [] ?_ | refine vhrun_nil ?_) | ((with_reducible refine vcondT ?_ ?_); (focus (go_simp; done))) | ((with_reducible refine vcondF ?_ ?_); (focus (go_simp; done))) | ((with_reducible first | refine vrun_cons fun KK hKK => ?_ | refine vhrun_cons fun KK hKK => ?_); go_simp; refine hKK _ ?_; clear hKK KK))
    apply vfor [11, 12] (fun k => [(13, I k), (4, S (bef l k))]) (fun _ => []) (bad (markE l)) l.length
    · go_simp <;> exact rfl
    · go_simp
      rfl
    · intro k hk HB HP K hK
      have hw := wrap_eq (x := (k : Int) + 1) (by omega) (by omega)
      have hs := HD.out.at_ hk
      have g1 := p_isName l[k].key hs.1
      have g2 := p_isName l[k].value hs.2
      have g3 := p_first [unl (isName l[k].key && isName l[k].value) 4, unl (decide (k = 0) || gtB l[k].key (bef l k)) 9] (by simp)
      rw [← markE_at hk, bad_no HP.out] at g3
      unfold gtB at g3
      have HN := Lib.hid (bef_next hk)
      have G3 := Lib.hid g3
      clear g3 hs
      repeat' (first | (with_reducible first | refine vseq ?_ | refine vthenN ?_ | refine vthenE ?_ | refine vthenR ?_ | refine vret ?_ | refine vskip ?_ | refine vexit ?_ | refine vblock ?_ | refine vblockN ?_ | refine vblockR ?_ | refine vblockH ?_ | refine vrun_nil ?_ | refine vblockE rfl ?_ | refine vregion [] ?_ | refine vhrun_nil ?_) | ((with_reducible refine vcondT ?_ ?_); (focus (go_simp; done))) | ((with_reducible refine vcondF ?_ ?_); (focus (go_simp; done))) | ((with_reducible first | refine vrun_cons fun KK hKK => ?_ | refine vhrun_cons fun KK hKK => ?_); go_simp; (first | (with_reducible refine ⟨_, g1, ?_⟩) | (with_reducible refine ⟨_, g2, ?_⟩) | (with_reducible refine ⟨_, p_unless _ _, ?_⟩) | (refine ⟨_, G3.out, ?_⟩) | skip); refine hKK _ ?_; clear hKK KK) | ((with_reducible refine vcondS ?_ (fun ht => ?_) (fun ht => ?_)); (focus (go_simp; done)); (all_goals (simp [go_sem] at ht; replace ht := ht.out))) | ((apply vrun_consG0 rfl); (focus (go_simp <;> exact rfl)); (focus (go_simp; done)); (focus (intro hb0; replace hb0 := hb0.out; go_simp <;> (first | exact rfl | exact g1 | exact g2 | exact p_unless _ _ | exact G3.out | exact ⟨g1, rfl⟩ | exact ⟨g2, rfl⟩ | exact ⟨p_unless _ _, rfl⟩ | exact ⟨G3.out, rfl⟩))); intro KK hKK; go_simp; refine hKK _ ?_; clear hKK KK))
      refine hK _ ?_
      rw [HN.out]
      go_simp
    · intro k hk HB HP K
      have hs := HD.out.at_ hk
      have g1 := p_isName l[k].key hs.1
      have g2 := p_isName l[k].value hs.2
      have g3 := p_first [unl (isName l[k].key && isName l[k].value) 4, unl (decide (k = 0) || gtB l[k].key (bef l k)) 9] (by simp)
      have e := HR.out
      rw [if_neg (by omega), firstErr_hit hk HB.out HP.out] at e
      injection e with e1 e2
      rw [← markE_at hk, e2] at g3
      have he := bad_yes HP.out
      rw [e2] at he
      unfold gtB at g3
      have G3 := Lib.hid g3
      subst e1
      clear g3 hs e2
      repeat' (first | (with_reducible first | refine vseq ?_ | refine vthenN ?_ | refine vthenE ?_ | refine vthenR ?_ | refine vret ?_ | refine vskip ?_ | refine vexit ?_ | refine vblock ?_ | refine vblockN ?_ | refine vblockR ?_ | refine vblockH ?_ | refine vrun_nil ?_ | refine vblockE rfl ?_ | refine vregion [] ?_ | refine vhrun_nil ?_) | ((with_reducible refine vcondT ?_ ?_); (focus (go_simp; done))) | ((with_reducible refine vcondF ?_ ?_); (focus (go_simp; done))) | ((with_reducible first | refine vrun_cons fun KK hKK => ?_ | refine vhrun_cons fun KK hKK => ?_); go_simp; (first | (with_reducible refine ⟨_, g1, ?_⟩) | (with_reducible refine ⟨_, g2, ?_⟩) | (with_reducible refine ⟨_, p_unless _ _, ?_⟩) | (refine ⟨_, G3.out, ?_⟩) | skip); refine hKK _ ?_; clear hKK KK) | ((with_reducible refine vcondS ?_ (fun ht => ?_) (fun ht => ?_)); (focus (go_simp; done)); (all_goals (simp [go_sem] at ht; replace ht := ht.out))) | ((apply vrun_consG0 rfl); (focus (go_simp <;> exact rfl)); (focus (go_simp; done)); (focus (intro hb0; replace hb0 := hb0.out; go_simp <;> (first | exact rfl | exact g1 | exact g2 | exact p_unless _ _ | exact G3.out | exact ⟨g1, rfl⟩ | exact ⟨g2, rfl⟩ | exact ⟨p_unless _ _, rfl⟩ | exact ⟨G3.out, rfl⟩))); intro KK hKK; go_simp; refine hKK _ ?_; clear hKK KK))
      go_simp
    · intro HB K
      have e := HR.out
      rw [if_neg (by omega), firstErr_out HB.out] at e
      injection e with e1 e2
      subst e1 e2
      repeat (first | (with_reducible first | refine vseq ?_ | refine vthenN ?_ | refine vthenE ?_ | refine vthenR ?_ | refine vret ?_ | refine vskip ?_ | refine vexit ?_ | refine vblock ?_ | refine vblockN ?_ | refine vblockR ?_ | refine vblockH ?_ | refine vrun_nil ?_ | refine vblockE rfl ?_ | refine vregion [] ?_ | refine vhrun_nil ?_) | ((with_reducible refine vcondT ?_ ?_); (focus (go_simp; done))) | ((with_reducible refine vcondF ?_ ?_); (focus (go_simp; done))) | ((with_reducible first | refine vrun_cons fun KK hKK => ?_ | refine vhrun_cons fun KK hKK => ?_); go_simp; refine hKK _ ?_; clear hKK KK))
      go_simp
theorem r_CheckMarks (l : List Mark) (hl : l.length ≤ 1000000) (hd : SmallM l) : VC Tryz.prog 151 [marksA l] (.tup [I (checkMarks l).1, I (checkMarks l).2]) := by
  obtain ⟨R, hR⟩ : ∃ R, checkMarks l = R := ⟨_, rfl⟩
  rw [hR]
  obtain ⟨Rk, Re⟩ := R
  unfold checkMarks checkL at hR
  have HR := Lib.hid hR
  have HD := Lib.hid hd
  clear hR hd
  refine VC_of Tryz.func151 rfl (by kernel_rfl) (by kernel_rfl) rfl fun M0 w0 => ?_
  simp only [Tryz.ntmps151, Tryz.results151, enumA]
  by_cases h8 : (8 : Int) < l.length
  · repeat (first | (with_reducible first | refine vseq ?_ | refine vthenN ?_ | refine vthenE ?_ | refine vthenR ?_ | refine vret ?_ | refine vskip ?_ | refine vexit ?_ | refine vblock ?_ | refine vblockN ?_ | refine vblockR ?_ | refine vblockH ?_ | refine vrun_nil ?_ | refine vblockE rfl ?_ | refine vregion [] ?_ | refine vhrun_nil ?_) | ((with_reducible refine vcondT ?_ ?_); (focus (go_simp; done))) | ((with_reducible refine vcondF ?_ ?_); (focus (go_simp; done))) | ((with_reducible first | refine vrun_cons fun KK hKK => ?_ | refine vhrun_cons fun KK hKK => ?_); go_simp; refine hKK _ ?_; clear hKK KK) | ((refine vdrawL 16 16 [] rfl (by kernel_rfl) (by kernel_rfl) ?_); simp only [List.append, List.take, List.drop]))
    have e := HR.out
    rw [if_pos (by omega)] at e
    injection e with e1 e2
    subst e1 e2
    go_simp
  · repeat (first | (with_reducible first | refine vseq ?_ | refine vthenN ?_ | refine vthenE ?_ | refine vthenR ?_ | refine vret ?_ | refine vskip ?_ | refine vexit ?_ | refine vblock ?_ | refine vblockN ?_ | refine vblockR ?_ | refine vblockH ?_ | refine vrun_nil ?_ | refine vblockE rfl ?_ | refine vregion [] ?_ | refine vhrun_nil ?_) | ((with_reducible refine vcondT ?_ ?_); (focus (go_simp; done))) | ((with_reducible refine vcondF ?_ ?_); (focus (go_simp; done))) | ((with_reducible first | refine vrun_cons fun KK hKK => ?_ | refine vhrun_cons fun KK hKK => ?_); go_simp; refine hKK _ ?_; clear hKK KK) | ((refine vdrawL 16 16 [] rfl (by kernel_rfl) (by kernel_rfl) ?_); simp only [List.append, List.take, List.drop]))
    apply vfor [0] (fun k => [(4, I k)]) (fun _ => []) (bad (markE l)) l.length
    · go_simp <;> exact rfl
    · go_simp
    · intro k hk HB HP K hK
      have hw := wrap_eq (x := (k : Int) + 1) (by omega) (by omega)
      have hs := HD.out.at_ hk
      have g1 := b_isName l[k].key (by omega)
      have g2 := b_isName l[k].value (by omega)
      have hE := bad_no HP.out
      unfold markE at hE
      rw [mat_get hk] at hE
      cases n1 : isName l[k].key
      · rw [n1] at hE
        simp [fst, unl] at hE
      · cases n2 : isName l[k].value
        · rw [n1, n2] at hE
          simp [fst, unl] at hE
        · rw [n1, n2] at hE
          rw [n1] at g1
          rw [n2] at g2
          rcases k with _ | m
          · clear hE HD HR hs
            repeat' (first | (with_reducible first | refine vseq ?_ | refine vthenN ?_ | refine vthenE ?_ | refine vthenR ?_ | refine vret ?_ | refine vskip ?_ | refine vexit ?_ | refine vblock ?_ | refine vblockN ?_ | refine vblockR ?_ | refine vblockH ?_ | refine vrun_nil ?_ | refine vblockE rfl ?_ | refine vregion [] ?_ | refine vhrun_nil ?_) | ((with_reducible refine vcondT ?_ ?_); (focus (go_simp; done))) | ((with_reducible refine vcondF ?_ ?_); (focus (go_simp; done))) | ((with_reducible first | refine vrun_cons fun KK hKK => ?_ | refine vhrun_cons fun KK hKK => ?_); go_simp; (first | (with_reducible refine ⟨_, g1, ?_⟩) | (with_reducible refine ⟨_, g2, ?_⟩) | skip); refine hKK _ ?_; clear hKK KK) | ((refine vdrawL 16 16 [] rfl (by kernel_rfl) (by kernel_rfl) ?_); simp only [List.take, List.drop]) | ((with_reducible refine vcondS ?_ (fun ht => ?_) (fun ht => ?_)); (focus (go_simp; done)); (all_goals (simp [go_sem] at ht; replace ht := ht.out))) | ((apply vrun_consG0 rfl); (focus (go_simp <;> exact rfl)); (focus (go_simp; done)); (focus (intro hb0; replace hb0 := hb0.out; go_simp <;> (first | exact rfl | exact g1 | exact g2 | exact ⟨g1, rfl⟩ | exact ⟨g2, rfl⟩))); intro KK hKK; go_simp; refine hKK _ ?_; clear hKK KK) | ((apply vhrun_consG0 rfl); (focus (go_simp <;> exact rfl)); (focus (intro hb0; replace hb0 := hb0.out; go_simp <;> (first | exact rfl | exact g1 | exact g2 | exact ⟨g1, rfl⟩ | exact ⟨g2, rfl⟩))); intro KK hKK; go_simp; refine hKK _ ?_; clear hKK KK))
            refine hK _ ?_
            go_simp
          · have hm : m < l.length := by omega
            rw [Nat.add_sub_cancel, mat_get hm] at hE
            have hgt : (Op.bytesLess l[m + 1].key.toList l[m].key.toList || decide (l[m + 1].key = l[m].key)) = false := by
              cases hc : (Op.bytesLess l[m + 1].key.toList l[m].key.toList || decide (l[m + 1].key = l[m].key))
              · rfl
              · rw [Bool.or_eq_true] at hc
                rcases hc with hc | hc <;> simp [fst, unl, gtB, hc] at hE
            obtain ⟨w1, w2, w3, w4, w5, w6⟩ := ixs (m := m) (by omega)
            have hki : (m : Int) + 1 < l.length := by omega
            clear hE HD HR hs
            repeat' (first | (with_reducible first | refine vseq ?_ | refine vthenN ?_ | refine vthenE ?_ | refine vthenR ?_ | refine vret ?_ | refine vskip ?_ | refine vexit ?_ | refine vblock ?_ | refine vblockN ?_ | refine vblockR ?_ | refine vblockH ?_ | refine vrun_nil ?_ | refine vblockE rfl ?_ | refine vregion [] ?_ | refine vhrun_nil ?_) | ((with_reducible refine vcondT ?_ ?_); (focus (go_simp; done))) | ((with_reducible refine vcondF ?_ ?_); (focus (go_simp; done))) | ((with_reducible first | refine vrun_cons fun KK hKK => ?_ | refine vhrun_cons fun KK hKK => ?_); go_simp; (first | (with_reducible refine ⟨_, g1, ?_⟩) | (with_reducible refine ⟨_, g2, ?_⟩) | skip); refine hKK _ ?_; clear hKK KK) | ((refine vdrawL 16 16 [] rfl (by kernel_rfl) (by kernel_rfl) ?_); simp only [List.take, List.drop]) | ((with_reducible refine vcondS ?_ (fun ht => ?_) (fun ht => ?_)); (focus (go_simp; done)); (all_goals (simp [go_sem] at ht; replace ht := ht.out))) | ((apply vrun_consG0 rfl); (focus (go_simp <;> exact rfl)); (focus (go_simp; done)); (focus (intro hb0; replace hb0 := hb0.out; go_simp <;> (first | exact rfl | exact g1 | exact g2 | exact ⟨g1, rfl⟩ | exact ⟨g2, rfl⟩))); intro KK hKK; go_simp; refine hKK _ ?_; clear hKK KK) | ((apply vhrun_consG0 rfl); (focus (go_simp <;> exact rfl)); (focus (intro hb0; replace hb0 := hb0.out; go_simp <;> (first | exact rfl | exact g1 | exact g2 | exact ⟨g1, rfl⟩ | exact ⟨g2, rfl⟩))); intro KK hKK; go_simp; refine hKK _ ?_; clear hKK KK))
            refine hK _ ?_
            go_simp
    · intro k hk HB HP K
      have hs := HD.out.at_ hk
      have g1 := b_isName l[k].key (by omega)
      have g2 := b_isName l[k].value (by omega)
      have e := HR.out
      rw [if_neg (by omega), firstErr_hit hk HB.out HP.out] at e
      injection e with e1 e2
      have hE := bad_yes HP.out
      subst e1
      unfold markE at hE e2
      rw [mat_get hk] at hE e2
      cases n1 : isName l[k].key
      · rw [n1] at e2 g1
        simp [fst, unl] at e2
        subst e2
        clear hE HD HR hs
        repeat' (first | (with_reducible first | refine vseq ?_ | refine vthenN ?_ | refine vthenE ?_ | refine vthenR ?_ | refine vret ?_ | refine vskip ?_ | refine vexit ?_ | refine vblock ?_ | refine vblockN ?_ | refine vblockR ?_ | refine vblockH ?_ | refine vrun_nil ?_ | refine vblockE rfl ?_ | refine vregion [] ?_ | refine vhrun_nil ?_) | ((with_reducible refine vcondT ?_ ?_); (focus (go_simp; done))) | ((with_reducible refine vcondF ?_ ?_); (focus (go_simp; done))) | ((with_reducible first | refine vrun_cons fun KK hKK => ?_ | refine vhrun_cons fun KK hKK => ?_); go_simp; (first | (with_reducible refine ⟨_, g1, ?_⟩) | (with_reducible refine ⟨_, g2, ?_⟩) | skip); refine hKK _ ?_; clear hKK KK) | ((refine vdrawL 16 16 [] rfl (by kernel_rfl) (by kernel_rfl) ?_); simp only [List.append, List.take, List.drop]) | ((with_reducible refine vcondS ?_ (fun ht => ?_) (fun ht => ?_)); (focus (go_simp; done)); (all_goals (simp [go_sem] at ht; replace ht := ht.out))) | ((apply vrun_consG0 rfl); (focus (go_simp <;> exact rfl)); (focus (go_simp; done)); (focus (intro hb0; replace hb0 := hb0.out; go_simp <;> (first | exact rfl | exact g1 | exact g2 | exact ⟨g1, rfl⟩ | exact ⟨g2, rfl⟩))); intro KK hKK; go_simp; refine hKK _ ?_; clear hKK KK) | ((apply vhrun_consG0 rfl); (focus (go_simp <;> exact rfl)); (focus (intro hb0; replace hb0 := hb0.out; go_simp <;> (first | exact rfl | exact g1 | exact g2 | exact ⟨g1, rfl⟩ | exact ⟨g2, rfl⟩))); intro KK hKK; go_simp; refine hKK _ ?_; clear hKK KK))
        go_simp
      · cases n2 : isName l[k].value
        · rw [n1, n2] at e2
          rw [n1] at g1
          rw [n2] at g2
          simp [fst, unl] at e2
          subst e2
          clear hE HD HR hs
          repeat' (first | (with_reducible first | refine vseq ?_ | refine vthenN ?_ | refine vthenE ?_ | refine vthenR ?_ | refine vret ?_ | refine vskip ?_ | refine vexit ?_ | refine vblock ?_ | refine vblockN ?_ | refine vblockR ?_ | refine vblockH ?_ | refine vrun_nil ?_ | refine vblockE rfl ?_ | refine vregion [] ?_ | refine vhrun_nil ?_) | ((with_reducible refine vcondT ?_ ?_); (focus (go_simp; done))) | ((with_reducible refine vcondF ?_ ?_); (focus (go_simp; done))) | ((with_reducible first | refine vrun_cons fun KK hKK => ?_ | refine vhrun_cons fun KK hKK => ?_); go_simp; (first | (with_reducible refine ⟨_, g1, ?_⟩) | (with_reducible refine ⟨_, g2, ?_⟩) | skip); refine hKK _ ?_; clear hKK KK) | ((refine vdrawL 16 16 [] rfl (by kernel_rfl) (by kernel_rfl) ?_); simp only [List.append, List.take, List.drop]) | ((with_reducible refine vcondS ?_ (fun ht => ?_) (fun ht => ?_)); (focus (go_simp; done)); (all_goals (simp [go_sem] at ht; replace ht := ht.out))) | ((apply vrun_consG0 rfl); (focus (go_simp <;> exact rfl)); (focus (go_simp; done)); (focus (intro hb0; replace hb0 := hb0.out; go_simp <;> (first | exact rfl | exact g1 | exact g2 | exact ⟨g1, rfl⟩ | exact ⟨g2, rfl⟩))); intro KK hKK; go_simp; refine hKK _ ?_; clear hKK KK) | ((apply vhrun_consG0 rfl); (focus (go_simp <;> exact rfl)); (focus (intro hb0; replace hb0 := hb0.out; go_simp <;> (first | exact rfl | exact g1 | exact g2 | exact ⟨g1, rfl⟩ | exact ⟨g2, rfl⟩))); intro KK hKK; go_simp; refine hKK _ ?_; clear hKK KK))
          go_simp
        · rw [n1, n2] at e2 hE
          rw [n1] at g1
          rw [n2] at g2
          rcases k with _ | m
          · simp [fst, unl] at hE
          · have hm : m < l.length := by omega
            rw [Nat.add_sub_cancel, mat_get hm] at hE e2
            have hgt : (Op.bytesLess l[m + 1].key.toList l[m].key.toList || decide (l[m + 1].key = l[m].key)) = true := by
              cases hc : (Op.bytesLess l[m + 1].key.toList l[m].key.toList || decide (l[m + 1].key = l[m].key))
              · rw [Bool.or_eq_false_iff] at hc
                simp [fst, unl, gtB, hc.1, hc.2] at hE
              · rfl
            have e3 : Re = 9 := by
              rw [← e2]
              have hgt := hgt
              rw [Bool.or_eq_true] at hgt
              rcases hgt with h | h <;> simp [fst, unl, gtB, h]
            subst e3
            obtain ⟨w1, w2, w3, w4, w5, w6⟩ := ixs (m := m) (by omega)
            have hki : (m : Int) + 1 < l.length := by omega
            clear hE HD HR hs e2
            repeat' (first | (with_reducible first | refine vseq ?_ | refine vthenN ?_ | refine vthenE ?_ | refine vthenR ?_ | refine vret ?_ | refine vskip ?_ | refine vexit ?_ | refine vblock ?_ | refine vblockN ?_ | refine vblockR ?_ | refine vblockH ?_ | refine vrun_nil ?_ | refine vblockE rfl ?_ | refine vregion [] ?_ | refine vhrun_nil ?_) | ((with_reducible refine vcondT ?_ ?_); (focus (go_simp; done))) | ((with_reducible refine vcondF ?_ ?_); (focus (go_simp; done))) | ((with_reducible first | refine vrun_cons fun KK hKK => ?_ | refine vhrun_cons fun KK hKK => ?_); go_simp; (first | (with_reducible refine ⟨_, g1, ?_⟩) | (with_reducible refine ⟨_, g2, ?_⟩) | skip); refine hKK _ ?_; clear hKK KK) | ((refine vdrawL 16 16 [] rfl (by kernel_rfl) (by kernel_rfl) ?_); simp only [List.take, List.drop]) | ((with_reducible refine vcondS ?_ (fun ht => ?_) (fun ht => ?_)); (focus (go_simp; done)); (all_goals (simp [go_sem] at ht; replace ht := ht.out))) | ((apply vrun_consG0 rfl); (focus (go_simp <;> exact rfl)); (focus (go_simp; done)); (focus (intro hb0; replace hb0 := hb0.out; go_simp <;> (first | exact rfl | exact g1 | exact g2 | exact ⟨g1, rfl⟩ | exact ⟨g2, rfl⟩))); intro KK hKK; go_simp; refine hKK _ ?_; clear hKK KK) | ((apply vhrun_consG0 rfl); (focus (go_simp <;> exact rfl)); (focus (intro hb0; replace hb0 := hb0.out; go_simp <;> (first | exact rfl | exact g1 | exact g2 | exact ⟨g1, rfl⟩ | exact ⟨g2, rfl⟩))); intro KK hKK; go_simp; refine hKK _ ?_; clear hKK KK))
            go_simp
    · intro HB K
      have e := HR.out
      rw [if_neg (by omega), firstErr_out HB.out] at e
      injection e with e1 e2
      subst e1 e2
      repeat (first | (with_reducible first | refine vseq ?_ | refine vthenN ?_ | refine vthenE ?_ | refine vthenR ?_ | refine vret ?_ | refine vskip ?_ | refine vexit ?_ | refine vblock ?_ | refine vblockN ?_ | refine vblockR ?_ | refine vblockH ?_ | refine vrun_nil ?_ | refine vblockE rfl ?_ | refine vregion [] ?_ | refine vhrun_nil ?_) | ((with_reducible refine vcondT ?_ ?_); (focus (go_simp; done))) | ((with_reducible refine vcondF ?_ ?_); (focus (go_simp; done))) | ((with_reducible first | refine vrun_cons fun KK hKK => ?_ | refine vhrun_cons fun KK hKK => ?_); go_simp; refine hKK _ ?_; clear hKK KK) | ((refine vdrawL 16 16 [] rfl (by kernel_rfl) (by kernel_rfl) ?_); simp only [List.append, List.take, List.drop]))
      go_simp
end Go.Proofs.YthbgghmjbaldlaaGreatDoor

/-! QC: Walks on plain values: items and claims alone; texts of at most 1000 bytes. -/
namespace Go.Proofs.YthbgghmjbaldlaaGreatDoor
open Go.RowKit
set_option maxRecDepth 100000
theorem p_both (x : Item) (h : SmallI x) : VC Tryz.prog 150 [S x.name, S x.who, I x.day, marksA x.marks] (I (thingErr x)) := by
  have h1 := p_CheckMarks x.marks (by have := h.few; omega) h.marks
  have g1 := p_isName x.name h.name
  have g2 := p_isName x.who h.who
  unfold thingErr
  clear h
  generalize checkMarks x.marks = E at *
  refine VC_of Tryz.func150 rfl (by kernel_rfl) (by kernel_rfl) rfl fun M0 w0 => ?_
  simp only [Tryz.ntmps150, Tryz.results150, enumA]
  repeat' (first | (with_reducible first | refine vseq ?_ | refine vthenN ?_ | refine vthenE ?_ | refine vthenR ?_ | refine vret ?_ | refine vskip ?_ | refine vexit ?_ | refine vblock ?_ | refine vblockN ?_ | refine vblockR ?_ | refine vblockH ?_ | refine vrun_nil ?_ | refine vblockE rfl ?_ | refine vregion [] ?_ | refine vhrun_nil ?_) | ((with_reducible refine vcondT ?_ ?_); (focus (go_simp; done))) | ((with_reducible refine vcondF ?_ ?_); (focus (go_simp; done))) | ((with_reducible first | refine vrun_cons fun KK hKK => ?_ | refine vhrun_cons fun KK hKK => ?_); go_simp; (first | (with_reducible refine ⟨_, h1, ?_⟩) | (with_reducible refine ⟨_, g1, ?_⟩) | (with_reducible refine ⟨_, g2, ?_⟩) | (with_reducible refine ⟨_, p_unless _ _, ?_⟩) | (with_reducible refine ⟨_, p_isDate _, ?_⟩) | (refine ⟨_, p_first [_, _, _] (by simp), ?_⟩) | skip); refine hKK _ ?_; clear hKK KK) | ((with_reducible refine vcondS ?_ (fun ht => ?_) (fun ht => ?_)); (focus (go_simp; done)); (all_goals (simp [go_sem] at ht; replace ht := ht.out))) | ((apply vrun_consG0 rfl); (focus (go_simp <;> exact rfl)); (focus (go_simp; done)); (focus (intro hb0; replace hb0 := hb0.out; go_simp <;> (first | exact rfl | exact h1 | exact g1 | exact g2 | exact p_unless _ _ | exact p_isDate _ | exact p_first [_, _, _] (by simp) | exact ⟨h1, rfl⟩ | exact ⟨g1, rfl⟩ | exact ⟨g2, rfl⟩ | exact ⟨p_unless _ _, rfl⟩ | exact ⟨p_isDate _, rfl⟩ | exact ⟨p_first [_, _, _] (by simp), rfl⟩))); intro KK hKK; go_simp; refine hKK _ ?_; clear hKK KK))
  go_simp
theorem r_MarksErr (l : List Mark) (hl : l.length ≤ 1000000) (hd : SmallM l) : VC Tryz.prog 128 [marksA l] (I (checkMarks l).2) := by
  have h1 := r_CheckMarks l hl hd
  clear hd
  generalize checkMarks l = E at *
  refine VC_of Tryz.func128 rfl (by kernel_rfl) (by kernel_rfl) rfl fun M0 w0 => ?_
  simp only [Tryz.ntmps128, Tryz.results128, enumA]
  repeat' (first | (with_reducible first | refine vseq ?_ | refine vthenN ?_ | refine vthenE ?_ | refine vthenR ?_ | refine vret ?_ | refine vskip ?_ | refine vexit ?_ | refine vblock ?_ | refine vblockN ?_ | refine vblockR ?_ | refine vblockH ?_ | refine vrun_nil ?_ | refine vblockE rfl ?_ | refine vregion [] ?_ | refine vhrun_nil ?_) | ((with_reducible refine vcondT ?_ ?_); (focus (go_simp; done))) | ((with_reducible refine vcondF ?_ ?_); (focus (go_simp; done))) | ((with_reducible first | refine vrun_cons fun KK hKK => ?_ | refine vhrun_cons fun KK hKK => ?_); go_simp; (first | (with_reducible refine ⟨_, h1, ?_⟩) | skip); refine hKK _ ?_; clear hKK KK) | ((with_reducible refine vcondS ?_ (fun ht => ?_) (fun ht => ?_)); (focus (go_simp; done)); (all_goals (simp [go_sem] at ht; replace ht := ht.out))))
  go_simp
theorem r_thingErr (x : Item) (h : SmallI x) : VC Tryz.prog 93 [S x.name, S x.who, I x.day, marksA x.marks] (I (thingErr x)) := by
  have h1 := r_MarksErr x.marks (by have := h.few; omega) h.marks
  have g1 := b_isName x.name (by have := h.name; omega)
  have g2 := b_isName x.who (by have := h.who; omega)
  unfold thingErr
  clear h
  generalize checkMarks x.marks = E at *
  refine VC_of Tryz.func93 rfl (by kernel_rfl) (by kernel_rfl) rfl fun M0 w0 => ?_
  simp only [Tryz.ntmps93, Tryz.results93, enumA]
  repeat' (first | (with_reducible first | refine vseq ?_ | refine vthenN ?_ | refine vthenE ?_ | refine vthenR ?_ | refine vret ?_ | refine vskip ?_ | refine vexit ?_ | refine vblock ?_ | refine vblockN ?_ | refine vblockR ?_ | refine vblockH ?_ | refine vrun_nil ?_ | refine vblockE rfl ?_ | refine vregion [] ?_ | refine vhrun_nil ?_) | ((with_reducible refine vcondT ?_ ?_); (focus (go_simp; done))) | ((with_reducible refine vcondF ?_ ?_); (focus (go_simp; done))) | ((with_reducible first | refine vrun_cons fun KK hKK => ?_ | refine vhrun_cons fun KK hKK => ?_); go_simp; (first | (with_reducible refine ⟨_, h1, ?_⟩) | (with_reducible refine ⟨_, g1, ?_⟩) | (with_reducible refine ⟨_, g2, ?_⟩) | (with_reducible refine ⟨_, b_within _ _ _, ?_⟩) | skip); refine hKK _ ?_; clear hKK KK) | ((with_reducible refine vcondS ?_ (fun ht => ?_) (fun ht => ?_)); (focus (go_simp; done)); (all_goals (simp [go_sem] at ht; replace ht := ht.out))) | ((apply vrun_consG0 rfl); (focus (go_simp <;> exact rfl)); (focus (go_simp; done)); (focus (intro hb0; replace hb0 := hb0.out; go_simp <;> (first | exact rfl | exact h1 | exact g1 | exact g2 | exact b_within _ _ _ | exact ⟨h1, rfl⟩ | exact ⟨g1, rfl⟩ | exact ⟨g2, rfl⟩ | exact ⟨b_within _ _ _, rfl⟩))); intro KK hKK; go_simp; refine hKK _ ?_; clear hKK KK))
  all_goals (go_simp; (cases hA0 : isName x.name) <;> (cases hA1 : isName x.who) <;> (cases hA2 : inR x.day 0 100000) <;> simp_all [fst, unl, isDate, ite0])
theorem p_itemErr (x : Item) (h : SmallI x) : VC Tryz.prog 127 [itemA x] (I (thingErr x)) := by
  have h1 := p_both x h
  clear h
  generalize thingErr x = E at *
  refine VC_of Tryz.func127 rfl (by kernel_rfl) (by kernel_rfl) rfl fun M0 w0 => ?_
  simp only [Tryz.ntmps127, Tryz.results127, enumA]
  repeat' (first | (with_reducible first | refine vseq ?_ | refine vthenN ?_ | refine vthenE ?_ | refine vthenR ?_ | refine vret ?_ | refine vskip ?_ | refine vexit ?_ | refine vblock ?_ | refine vblockN ?_ | refine vblockR ?_ | refine vblockH ?_ | refine vrun_nil ?_ | refine vblockE rfl ?_ | refine vregion [] ?_ | refine vhrun_nil ?_) | ((with_reducible refine vcondT ?_ ?_); (focus (go_simp; done))) | ((with_reducible refine vcondF ?_ ?_); (focus (go_simp; done))) | ((with_reducible first | refine vrun_cons fun KK hKK => ?_ | refine vhrun_cons fun KK hKK => ?_); go_simp; (first | (with_reducible refine ⟨_, h1, ?_⟩) | skip); refine hKK _ ?_; clear hKK KK) | ((with_reducible refine vcondS ?_ (fun ht => ?_) (fun ht => ?_)); (focus (go_simp; done)); (all_goals (simp [go_sem] at ht; replace ht := ht.out))))
  go_simp
theorem p_claimErr (x : Item) (h : SmallI x) : VC Tryz.prog 133 [itemA x] (I (thingErr x)) := by
  have h1 := p_both x h
  clear h
  generalize thingErr x = E at *
  refine VC_of Tryz.func133 rfl (by kernel_rfl) (by kernel_rfl) rfl fun M0 w0 => ?_
  simp only [Tryz.ntmps133, Tryz.results133, enumA]
  repeat' (first | (with_reducible first | refine vseq ?_ | refine vthenN ?_ | refine vthenE ?_ | refine vthenR ?_ | refine vret ?_ | refine vskip ?_ | refine vexit ?_ | refine vblock ?_ | refine vblockN ?_ | refine vblockR ?_ | refine vblockH ?_ | refine vrun_nil ?_ | refine vblockE rfl ?_ | refine vregion [] ?_ | refine vhrun_nil ?_) | ((with_reducible refine vcondT ?_ ?_); (focus (go_simp; done))) | ((with_reducible refine vcondF ?_ ?_); (focus (go_simp; done))) | ((with_reducible first | refine vrun_cons fun KK hKK => ?_ | refine vhrun_cons fun KK hKK => ?_); go_simp; (first | (with_reducible refine ⟨_, h1, ?_⟩) | skip); refine hKK _ ?_; clear hKK KK) | ((with_reducible refine vcondS ?_ (fun ht => ?_) (fun ht => ?_)); (focus (go_simp; done)); (all_goals (simp [go_sem] at ht; replace ht := ht.out))))
  go_simp
theorem p_CheckItem (x : Item) (h : SmallI x) : VC Tryz.prog 92 [itemA x] (I (thingErr x)) := by
  have h1 := p_itemErr x h
  clear h
  generalize thingErr x = E at *
  refine VC_of Tryz.func92 rfl (by kernel_rfl) (by kernel_rfl) rfl fun M0 w0 => ?_
  simp only [Tryz.ntmps92, Tryz.results92, enumA]
  repeat' (first | (with_reducible first | refine vseq ?_ | refine vthenN ?_ | refine vthenE ?_ | refine vthenR ?_ | refine vret ?_ | refine vskip ?_ | refine vexit ?_ | refine vblock ?_ | refine vblockN ?_ | refine vblockR ?_ | refine vblockH ?_ | refine vrun_nil ?_ | refine vblockE rfl ?_ | refine vregion [] ?_ | refine vhrun_nil ?_) | ((with_reducible refine vcondT ?_ ?_); (focus (go_simp; done))) | ((with_reducible refine vcondF ?_ ?_); (focus (go_simp; done))) | ((with_reducible first | refine vrun_cons fun KK hKK => ?_ | refine vhrun_cons fun KK hKK => ?_); go_simp; (first | (with_reducible refine ⟨_, h1, ?_⟩) | skip); refine hKK _ ?_; clear hKK KK) | ((with_reducible refine vcondS ?_ (fun ht => ?_) (fun ht => ?_)); (focus (go_simp; done)); (all_goals (simp [go_sem] at ht; replace ht := ht.out))))
  go_simp
theorem p_CheckClaim (x : Item) (h : SmallI x) : VC Tryz.prog 99 [itemA x] (I (thingErr x)) := by
  have h1 := p_claimErr x h
  clear h
  generalize thingErr x = E at *
  refine VC_of Tryz.func99 rfl (by kernel_rfl) (by kernel_rfl) rfl fun M0 w0 => ?_
  simp only [Tryz.ntmps99, Tryz.results99, enumA]
  repeat' (first | (with_reducible first | refine vseq ?_ | refine vthenN ?_ | refine vthenE ?_ | refine vthenR ?_ | refine vret ?_ | refine vskip ?_ | refine vexit ?_ | refine vblock ?_ | refine vblockN ?_ | refine vblockR ?_ | refine vblockH ?_ | refine vrun_nil ?_ | refine vblockE rfl ?_ | refine vregion [] ?_ | refine vhrun_nil ?_) | ((with_reducible refine vcondT ?_ ?_); (focus (go_simp; done))) | ((with_reducible refine vcondF ?_ ?_); (focus (go_simp; done))) | ((with_reducible first | refine vrun_cons fun KK hKK => ?_ | refine vhrun_cons fun KK hKK => ?_); go_simp; (first | (with_reducible refine ⟨_, h1, ?_⟩) | skip); refine hKK _ ?_; clear hKK KK) | ((with_reducible refine vcondS ?_ (fun ht => ?_) (fun ht => ?_)); (focus (go_simp; done)); (all_goals (simp [go_sem] at ht; replace ht := ht.out))))
  go_simp
theorem r_CheckItem (x : Item) (h : SmallI x) : VC Tryz.prog 39 [itemA x] (I (thingErr x)) := by
  have h1 := r_thingErr x h
  clear h
  generalize thingErr x = E at *
  refine VC_of Tryz.func39 rfl (by kernel_rfl) (by kernel_rfl) rfl fun M0 w0 => ?_
  simp only [Tryz.ntmps39, Tryz.results39, enumA]
  repeat' (first | (with_reducible first | refine vseq ?_ | refine vthenN ?_ | refine vthenE ?_ | refine vthenR ?_ | refine vret ?_ | refine vskip ?_ | refine vexit ?_ | refine vblock ?_ | refine vblockN ?_ | refine vblockR ?_ | refine vblockH ?_ | refine vrun_nil ?_ | refine vblockE rfl ?_ | refine vregion [] ?_ | refine vhrun_nil ?_) | ((with_reducible refine vcondT ?_ ?_); (focus (go_simp; done))) | ((with_reducible refine vcondF ?_ ?_); (focus (go_simp; done))) | ((with_reducible first | refine vrun_cons fun KK hKK => ?_ | refine vhrun_cons fun KK hKK => ?_); go_simp; (first | (with_reducible refine ⟨_, h1, ?_⟩) | skip); refine hKK _ ?_; clear hKK KK) | ((with_reducible refine vcondS ?_ (fun ht => ?_) (fun ht => ?_)); (focus (go_simp; done)); (all_goals (simp [go_sem] at ht; replace ht := ht.out))))
  go_simp
theorem r_CheckClaim (x : Item) (h : SmallI x) : VC Tryz.prog 112 [itemA x] (I (thingErr x)) := by
  have h1 := r_thingErr x h
  clear h
  generalize thingErr x = E at *
  refine VC_of Tryz.func112 rfl (by kernel_rfl) (by kernel_rfl) rfl fun M0 w0 => ?_
  simp only [Tryz.ntmps112, Tryz.results112, enumA]
  repeat' (first | (with_reducible first | refine vseq ?_ | refine vthenN ?_ | refine vthenE ?_ | refine vthenR ?_ | refine vret ?_ | refine vskip ?_ | refine vexit ?_ | refine vblock ?_ | refine vblockN ?_ | refine vblockR ?_ | refine vblockH ?_ | refine vrun_nil ?_ | refine vblockE rfl ?_ | refine vregion [] ?_ | refine vhrun_nil ?_) | ((with_reducible refine vcondT ?_ ?_); (focus (go_simp; done))) | ((with_reducible refine vcondF ?_ ?_); (focus (go_simp; done))) | ((with_reducible first | refine vrun_cons fun KK hKK => ?_ | refine vhrun_cons fun KK hKK => ?_); go_simp; (first | (with_reducible refine ⟨_, h1, ?_⟩) | skip); refine hKK _ ?_; clear hKK KK) | ((with_reducible refine vcondS ?_ (fun ht => ?_) (fun ht => ?_)); (focus (go_simp; done)); (all_goals (simp [go_sem] at ht; replace ht := ht.out))))
  go_simp
/-! ### Copies -/
theorem o_CopyMarks (l : List Mark) (hl : l.length ≤ 1000000) : VCo Tryz.prog 90 [marksA l] 134 2 false (l.map Mark.av) := by
  refine VCo_of Tryz.func90 rfl (by kernel_rfl) (by kernel_rfl) rfl Tryz.results90 (by decide) (fun k x hx => by obtain ⟨y, hy, rfl⟩ := map_at hx; exact ⟨rfl, by simp [Mark.av, oneAV, Value.oneCell']⟩) fun M0 w0 => ?_
  simp only [Tryz.ntmps90, enumA]
  have hl2 : l.length ≤ 1000000000 := by omega
  repeat (first | (with_reducible first | refine vseq ?_ | refine vthenN ?_ | refine vthenE ?_ | refine vthenR ?_ | refine vret ?_ | refine vskip ?_ | refine vexit ?_ | refine vblock ?_ | refine vblockN ?_ | refine vblockR ?_ | refine vblockH ?_ | refine vrun_nil ?_ | refine vblockE rfl ?_ | refine vregion [3] ?_ | refine vhrun_nil ?_) | ((with_reducible refine vcondT ?_ ?_); (focus (go_simp; done))) | ((with_reducible refine vcondF ?_ ?_); (focus (go_simp; done))) | ((with_reducible first | refine vrun_cons fun KK hKK => ?_ | refine vhrun_cons fun KK hKK => ?_); go_simp; refine hKK _ ?_; clear hKK KK))
  exact ⟨0, rfl, rfl⟩
theorem v_CopyItem (x : Item) (hl : x.marks.length ≤ 1000000) : VC Tryz.prog 34 [itemA x] (itemA x) := by
  have h1 := VC_of_own (o_CopyMarks x.marks hl)
  refine VC_of Tryz.func34 rfl (by kernel_rfl) (by kernel_rfl) rfl fun M0 w0 => ?_
  simp only [Tryz.ntmps34, Tryz.results34, enumA]
  repeat' (first | (with_reducible first | refine vseq ?_ | refine vthenN ?_ | refine vthenE ?_ | refine vthenR ?_ | refine vret ?_ | refine vskip ?_ | refine vexit ?_ | refine vblock ?_ | refine vblockN ?_ | refine vblockR ?_ | refine vblockH ?_ | refine vrun_nil ?_ | refine vblockE rfl ?_ | refine vregion [1] ?_ | refine vhrun_nil ?_) | ((with_reducible refine vcondT ?_ ?_); (focus (go_simp; done))) | ((with_reducible refine vcondF ?_ ?_); (focus (go_simp; done))) | ((with_reducible first | refine vrun_cons fun KK hKK => ?_ | refine vhrun_cons fun KK hKK => ?_); go_simp; (first | (with_reducible refine ⟨_, h1, ?_⟩) | skip); refine hKK _ ?_; clear hKK KK) | ((with_reducible refine vcondS ?_ (fun ht => ?_) (fun ht => ?_)); (focus (go_simp; done)); (all_goals (simp [go_sem] at ht; replace ht := ht.out))))
  go_simp
theorem v_CopyClaim (x : Item) (hl : x.marks.length ≤ 1000000) : VC Tryz.prog 57 [itemA x] (itemA x) := by
  have h1 := VC_of_own (o_CopyMarks x.marks hl)
  refine VC_of Tryz.func57 rfl (by kernel_rfl) (by kernel_rfl) rfl fun M0 w0 => ?_
  simp only [Tryz.ntmps57, Tryz.results57, enumA]
  repeat' (first | (with_reducible first | refine vseq ?_ | refine vthenN ?_ | refine vthenE ?_ | refine vthenR ?_ | refine vret ?_ | refine vskip ?_ | refine vexit ?_ | refine vblock ?_ | refine vblockN ?_ | refine vblockR ?_ | refine vblockH ?_ | refine vrun_nil ?_ | refine vblockE rfl ?_ | refine vregion [1] ?_ | refine vhrun_nil ?_) | ((with_reducible refine vcondT ?_ ?_); (focus (go_simp; done))) | ((with_reducible refine vcondF ?_ ?_); (focus (go_simp; done))) | ((with_reducible first | refine vrun_cons fun KK hKK => ?_ | refine vhrun_cons fun KK hKK => ?_); go_simp; (first | (with_reducible refine ⟨_, h1, ?_⟩) | skip); refine hKK _ ?_; clear hKK KK) | ((with_reducible refine vcondS ?_ (fun ht => ?_) (fun ht => ?_)); (focus (go_simp; done)); (all_goals (simp [go_sem] at ht; replace ht := ht.out))))
  go_simp
theorem o_CopyEvents (l : List Event) (hl : l.length ≤ 1000000) : VCo Tryz.prog 44 [eventsA l] 54 5 false (l.map Event.av) := by
  refine VCo_of Tryz.func44 rfl (by kernel_rfl) (by kernel_rfl) rfl Tryz.results44 (by decide) (fun k x hx => by obtain ⟨y, hy, rfl⟩ := map_at hx; exact ⟨rfl, by simp [Event.av, oneAV, Value.oneCell']⟩) fun M0 w0 => ?_
  simp only [Tryz.ntmps44, enumA]
  have hl2 : l.length ≤ 1000000000 := by omega
  repeat (first | (with_reducible first | refine vseq ?_ | refine vthenN ?_ | refine vthenE ?_ | refine vthenR ?_ | refine vret ?_ | refine vskip ?_ | refine vexit ?_ | refine vblock ?_ | refine vblockN ?_ | refine vblockR ?_ | refine vblockH ?_ | refine vrun_nil ?_ | refine vblockE rfl ?_ | refine vregion [3] ?_ | refine vhrun_nil ?_) | ((with_reducible refine vcondT ?_ ?_); (focus (go_simp; done))) | ((with_reducible refine vcondF ?_ ?_); (focus (go_simp; done))) | ((with_reducible first | refine vrun_cons fun KK hKK => ?_ | refine vhrun_cons fun KK hKK => ?_); go_simp; refine hKK _ ?_; clear hKK KK))
  exact ⟨0, rfl, rfl⟩
end Go.Proofs.YthbgghmjbaldlaaGreatDoor

/-! QD: Walks on plain values: chains of events, each by itself; texts of at most 1000 bytes. -/
namespace Go.Proofs.YthbgghmjbaldlaaGreatDoor
open Go.RowKit
set_option maxRecDepth 100000
def iat (l : List Int) (k : Nat) : Int := l.getD k 0
theorem iat_get {l : List Int} {k : Nat} (h : k < l.length) : iat l k = l[k] := by simp [iat, h]
def isI (l : List Int) (x : Int) (k : Nat) : Bool := decide (x = iat l k)
theorem v_IndexInt (l : List Int) (x : Int) (hl : l.length ≤ 1000000) : VC Tryz.prog 114 [intsA l, I x] (I (ixP (isI l x) 0 l.length)) := by
  obtain ⟨R, hR⟩ : ∃ R, ixP (isI l x) 0 l.length = R := ⟨_, rfl⟩
  rw [hR]
  have HR := Lib.hid hR
  clear hR
  refine VC_of Tryz.func114 rfl (by kernel_rfl) (by kernel_rfl) rfl fun M0 w0 => ?_
  simp only [Tryz.ntmps114, Tryz.results114, enumA]
  repeat (first | (with_reducible first | refine vseq ?_ | refine vthenN ?_ | refine vthenE ?_ | refine vthenR ?_ | refine vret ?_ | refine vskip ?_ | refine vexit ?_ | refine vblock ?_ | refine vblockN ?_ | refine vblockR ?_ | refine vblockH ?_ | refine vrun_nil ?_ | refine vblockE rfl ?_ | refine vregion [] ?_ | refine vhrun_nil ?_) | ((with_reducible refine vcondT ?_ ?_); (focus (go_simp; done))) | ((with_reducible refine vcondF ?_ ?_); (focus (go_simp; done))) | ((with_reducible first | refine vrun_cons fun KK hKK => ?_ | refine vhrun_cons fun KK hKK => ?_); go_simp; refine hKK _ ?_; clear hKK KK))
  apply vfor [0, 1, 7] (fun k => [(8, I k)]) (fun k => ([] : Hp)) (isI l x) (l.length)
  · go_simp <;> exact rfl
  · go_simp
  · intro k hk HB HP K hK
    obtain ⟨w1, w2, w3, w4, w5, w6⟩ := ixs (m := k) (by omega)
    have hp : ¬ x = l[k] := by
      have := HP.out
      simpa [isI, iat_get hk] using this
    repeat' (first | (with_reducible first | refine vseq ?_ | refine vthenN ?_ | refine vthenE ?_ | refine vthenR ?_ | refine vret ?_ | refine vskip ?_ | refine vexit ?_ | refine vblock ?_ | refine vblockN ?_ | refine vblockR ?_ | refine vblockH ?_ | refine vrun_nil ?_ | refine vblockE rfl ?_ | refine vregion [] ?_ | refine vhrun_nil ?_) | ((with_reducible refine vcondT ?_ ?_); (focus (go_simp; done))) | ((with_reducible refine vcondF ?_ ?_); (focus (go_simp; done))) | ((with_reducible first | refine vrun_cons fun KK hKK => ?_ | refine vhrun_cons fun KK hKK => ?_); go_simp; refine hKK _ ?_; clear hKK KK) | ((with_reducible refine vcondS ?_ (fun ht => ?_) (fun ht => ?_)); (focus (go_simp; done)); (all_goals (simp [go_sem] at ht; replace ht := ht.out))))
    refine hK _ ?_
    go_simp
  · intro k hk HB HP K
    have hp : x = l[k] := by
      have := HP.out
      simpa [isI, iat_get hk] using this
    have e := HR.out
    rw [ixP_hit hk HB.out HP.out] at e
    subst e
    repeat' (first | (with_reducible first | refine vseq ?_ | refine vthenN ?_ | refine vthenE ?_ | refine vthenR ?_ | refine vret ?_ | refine vskip ?_ | refine vexit ?_ | refine vblock ?_ | refine vblockN ?_ | refine vblockR ?_ | refine vblockH ?_ | refine vrun_nil ?_ | refine vblockE rfl ?_ | refine vregion [] ?_ | refine vhrun_nil ?_) | ((with_reducible refine vcondT ?_ ?_); (focus (go_simp; done))) | ((with_reducible refine vcondF ?_ ?_); (focus (go_simp; done))) | ((with_reducible first | refine vrun_cons fun KK hKK => ?_ | refine vhrun_cons fun KK hKK => ?_); go_simp; refine hKK _ ?_; clear hKK KK) | ((with_reducible refine vcondS ?_ (fun ht => ?_) (fun ht => ?_)); (focus (go_simp; done)); (all_goals (simp [go_sem] at ht; replace ht := ht.out))))
    go_simp
  · intro HB K
    have e := HR.out
    rw [ixP_out HB.out] at e
    subst e
    repeat (first | (with_reducible first | refine vseq ?_ | refine vthenN ?_ | refine vthenE ?_ | refine vthenR ?_ | refine vret ?_ | refine vskip ?_ | refine vexit ?_ | refine vblock ?_ | refine vblockN ?_ | refine vblockR ?_ | refine vblockH ?_ | refine vrun_nil ?_ | refine vblockE rfl ?_ | refine vregion [] ?_ | refine vhrun_nil ?_) | ((with_reducible refine vcondT ?_ ?_); (focus (go_simp; done))) | ((with_reducible refine vcondF ?_ ?_); (focus (go_simp; done))) | ((with_reducible first | refine vrun_cons fun KK hKK => ?_ | refine vhrun_cons fun KK hKK => ?_); go_simp; refine hKK _ ?_; clear hKK KK))
    go_simp
theorem v_ContainsInt (l : List Int) (x : Int) (hl : l.length ≤ 1000000) : VC Tryz.prog 67 [intsA l, I x] (B (anyP (isI l x) 0 l.length)) := by
  have h1 := v_IndexInt l x hl
  have h2 := ixP_any (p := isI l x) l.length 0
  generalize ixP (isI l x) 0 l.length = E at *
  generalize anyP (isI l x) 0 l.length = F at *
  refine VC_of Tryz.func67 rfl (by kernel_rfl) (by kernel_rfl) rfl fun M0 w0 => ?_
  simp only [Tryz.ntmps67, Tryz.results67, enumA]
  repeat' (first | (with_reducible first | refine vseq ?_ | refine vthenN ?_ | refine vthenE ?_ | refine vthenR ?_ | refine vret ?_ | refine vskip ?_ | refine vexit ?_ | refine vblock ?_ | refine vblockN ?_ | refine vblockR ?_ | refine vblockH ?_ | refine vrun_nil ?_ | refine vblockE rfl ?_ | refine vregion [] ?_ | refine vhrun_nil ?_) | ((with_reducible refine vcondT ?_ ?_); (focus (go_simp; done))) | ((with_reducible refine vcondF ?_ ?_); (focus (go_simp; done))) | ((with_reducible first | refine vrun_cons fun KK hKK => ?_ | refine vhrun_cons fun KK hKK => ?_); go_simp; (first | (with_reducible refine ⟨_, h1, ?_⟩) | skip); refine hKK _ ?_; clear hKK KK) | ((with_reducible refine vcondS ?_ (fun ht => ?_) (fun ht => ?_)); (focus (go_simp; done)); (all_goals (simp [go_sem] at ht; replace ht := ht.out))))
  go_simp
theorem p_holder (x : Item) (l : List Event) (hl : l.length ≤ 1000000) : VC Tryz.prog 96 [chainA x l] (S (holder x l)) := by
  unfold holder
  refine VC_of Tryz.func96 rfl (by kernel_rfl) (by kernel_rfl) rfl fun M0 w0 => ?_
  simp only [Tryz.ntmps96, Tryz.results96, enumA]
  rcases hn : l.length with _ | m
  · repeat' (first | (with_reducible first | refine vseq ?_ | refine vthenN ?_ | refine vthenE ?_ | refine vthenR ?_ | refine vret ?_ | refine vskip ?_ | refine vexit ?_ | refine vblock ?_ | refine vblockN ?_ | refine vblockR ?_ | refine vblockH ?_ | refine vrun_nil ?_ | refine vblockE rfl ?_ | refine vregion [] ?_ | refine vhrun_nil ?_) | ((with_reducible refine vcondT ?_ ?_); (focus (go_simp; done))) | ((with_reducible refine vcondF ?_ ?_); (focus (go_simp; done))) | ((with_reducible first | refine vrun_cons fun KK hKK => ?_ | refine vhrun_cons fun KK hKK => ?_); go_simp; refine hKK _ ?_; clear hKK KK) | ((with_reducible refine vcondS ?_ (fun ht => ?_) (fun ht => ?_)); (focus (go_simp; done)); (all_goals (simp [go_sem] at ht; replace ht := ht.out))))
    go_simp
  · obtain ⟨w1, w2, w3, w4, w5, w6⟩ := ixs (m := m) (by omega)
    have hne : ¬ (m : Int) + 1 = 0 := by omega
    have hm : m < l.length := by omega
    rw [if_neg (by omega), Nat.add_sub_cancel, eat_get hm]
    repeat' (first | (with_reducible first | refine vseq ?_ | refine vthenN ?_ | refine vthenE ?_ | refine vthenR ?_ | refine vret ?_ | refine vskip ?_ | refine vexit ?_ | refine vblock ?_ | refine vblockN ?_ | refine vblockR ?_ | refine vblockH ?_ | refine vrun_nil ?_ | refine vblockE rfl ?_ | refine vregion [] ?_ | refine vhrun_nil ?_) | ((with_reducible refine vcondT ?_ ?_); (focus (go_simp; done))) | ((with_reducible refine vcondF ?_ ?_); (focus (go_simp; done))) | ((with_reducible first | refine vrun_cons fun KK hKK => ?_ | refine vhrun_cons fun KK hKK => ?_); go_simp; refine hKK _ ?_; clear hKK KK) | ((with_reducible refine vcondS ?_ (fun ht => ?_) (fun ht => ?_)); (focus (go_simp; done)); (all_goals (simp [go_sem] at ht; replace ht := ht.out))))
    go_simp
theorem p_state (x : Item) (l : List Event) (hl : l.length ≤ 1000000) : VC Tryz.prog 97 [chainA x l] (I (state l)) := by
  unfold state
  refine VC_of Tryz.func97 rfl (by kernel_rfl) (by kernel_rfl) rfl fun M0 w0 => ?_
  simp only [Tryz.ntmps97, Tryz.results97, enumA]
  rcases hn : l.length with _ | m
  · repeat' (first | (with_reducible first | refine vseq ?_ | refine vthenN ?_ | refine vthenE ?_ | refine vthenR ?_ | refine vret ?_ | refine vskip ?_ | refine vexit ?_ | refine vblock ?_ | refine vblockN ?_ | refine vblockR ?_ | refine vblockH ?_ | refine vrun_nil ?_ | refine vblockE rfl ?_ | refine vregion [] ?_ | refine vhrun_nil ?_) | ((with_reducible refine vcondT ?_ ?_); (focus (go_simp; done))) | ((with_reducible refine vcondF ?_ ?_); (focus (go_simp; done))) | ((with_reducible first | refine vrun_cons fun KK hKK => ?_ | refine vhrun_cons fun KK hKK => ?_); go_simp; refine hKK _ ?_; clear hKK KK) | ((with_reducible refine vcondS ?_ (fun ht => ?_) (fun ht => ?_)); (focus (go_simp; done)); (all_goals (simp [go_sem] at ht; replace ht := ht.out))))
    go_simp
  · obtain ⟨w1, w2, w3, w4, w5, w6⟩ := ixs (m := m) (by omega)
    have hne : ¬ (m : Int) + 1 = 0 := by omega
    have hm : m < l.length := by omega
    rw [if_neg (by omega), Nat.add_sub_cancel, eat_get hm]
    repeat' (first | (with_reducible first | refine vseq ?_ | refine vthenN ?_ | refine vthenE ?_ | refine vthenR ?_ | refine vret ?_ | refine vskip ?_ | refine vexit ?_ | refine vblock ?_ | refine vblockN ?_ | refine vblockR ?_ | refine vblockH ?_ | refine vrun_nil ?_ | refine vblockE rfl ?_ | refine vregion [] ?_ | refine vhrun_nil ?_) | ((with_reducible refine vcondT ?_ ?_); (focus (go_simp; done))) | ((with_reducible refine vcondF ?_ ?_); (focus (go_simp; done))) | ((with_reducible first | refine vrun_cons fun KK hKK => ?_ | refine vhrun_cons fun KK hKK => ?_); go_simp; refine hKK _ ?_; clear hKK KK) | ((with_reducible refine vcondS ?_ (fun ht => ?_) (fun ht => ?_)); (focus (go_simp; done)); (all_goals (simp [go_sem] at ht; replace ht := ht.out))))
    all_goals (go_simp; simp_all)
theorem p_isDone (x : Item) (l : List Event) (hl : l.length ≤ 1000000) : VC Tryz.prog 132 [chainA x l] (B (isDone l)) := by
  have h1 := p_state x l hl
  have h2 := v_ContainsInt [0, 1] (state l) (by simp)
  have h3 : anyP (isI [0, 1] (state l)) 0 [(0 : Int), 1].length = !isDone l := by
    simp [anyP, isI, iat, isDone]
  rw [h3] at h2
  have H2 := Lib.hid h2
  clear h2 h3
  generalize state l = E at *
  refine VC_of Tryz.func132 rfl (by kernel_rfl) (by kernel_rfl) rfl fun M0 w0 => ?_
  simp only [Tryz.ntmps132, Tryz.results132, enumA]
  repeat' (first | (with_reducible first | refine vseq ?_ | refine vthenN ?_ | refine vthenE ?_ | refine vthenR ?_ | refine vret ?_ | refine vskip ?_ | refine vexit ?_ | refine vblock ?_ | refine vblockN ?_ | refine vblockR ?_ | refine vblockH ?_ | refine vrun_nil ?_ | refine vblockE rfl ?_ | refine vregion [] ?_ | refine vhrun_nil ?_) | ((with_reducible refine vcondT ?_ ?_); (focus (go_simp; done))) | ((with_reducible refine vcondF ?_ ?_); (focus (go_simp; done))) | ((with_reducible first | refine vrun_cons fun KK hKK => ?_ | refine vhrun_cons fun KK hKK => ?_); go_simp; (first | (with_reducible refine ⟨_, h1, ?_⟩) | (refine ⟨_, H2.out, ?_⟩) | skip); refine hKK _ ?_; clear hKK KK) | ((with_reducible refine vcondS ?_ (fun ht => ?_) (fun ht => ?_)); (focus (go_simp; done)); (all_goals (simp [go_sem] at ht; replace ht := ht.out))))
  go_simp
theorem p_right (x : Item) (l : List Event) (day : Int) (hl : l.length ≤ 1000000) : VC Tryz.prog 98 [chainA x l, I day] (I (right l day)) := by
  have h1 := p_state x l hl
  have h2 := p_isDone x l hl
  unfold right
  refine VC_of Tryz.func98 rfl (by kernel_rfl) (by kernel_rfl) rfl fun M0 w0 => ?_
  simp only [Tryz.ntmps98, Tryz.results98, enumA]
  cases hd : isDone l
  · rw [hd] at h2
    by_cases hs : state l = 0
    · rw [hs] at h1
      repeat' (first | (with_reducible first | refine vseq ?_ | refine vthenN ?_ | refine vthenE ?_ | refine vthenR ?_ | refine vret ?_ | refine vskip ?_ | refine vexit ?_ | refine vblock ?_ | refine vblockN ?_ | refine vblockR ?_ | refine vblockH ?_ | refine vrun_nil ?_ | refine vblockE rfl ?_ | refine vregion [] ?_ | refine vhrun_nil ?_) | ((with_reducible refine vcondT ?_ ?_); (focus (go_simp; done))) | ((with_reducible refine vcondF ?_ ?_); (focus (go_simp; done))) | ((with_reducible first | refine vrun_cons fun KK hKK => ?_ | refine vhrun_cons fun KK hKK => ?_); go_simp; (first | (with_reducible refine ⟨_, h1, ?_⟩) | (with_reducible refine ⟨_, h2, ?_⟩) | skip); refine hKK _ ?_; clear hKK KK) | ((with_reducible refine vcondS ?_ (fun ht => ?_) (fun ht => ?_)); (focus (go_simp; done)); (all_goals (simp [go_sem] at ht; replace ht := ht.out))))
      go_simp
    · have hl0 : 0 < l.length := by
        rcases hn : l.length with _ | m
        · exact absurd (by simp [state, hn]) hs
        · omega
      have hsi : since l day = IntKind.i64.wrap (day - l[0].day) := by unfold since; rw [eat_get hl0]
      obtain ⟨s, hs2⟩ : ∃ s, IntKind.i64.wrap (day - l[0].day) = s := ⟨_, rfl⟩
      rw [hsi, hs2]
      clear hd hsi
      generalize state l = E at *
      repeat' (first | (with_reducible first | refine vseq ?_ | refine vthenN ?_ | refine vthenE ?_ | refine vthenR ?_ | refine vret ?_ | refine vskip ?_ | refine vexit ?_ | refine vblock ?_ | refine vblockN ?_ | refine vblockR ?_ | refine vblockH ?_ | refine vrun_nil ?_ | refine vblockE rfl ?_ | refine vregion [] ?_ | refine vhrun_nil ?_) | ((with_reducible refine vcondT ?_ ?_); (focus (go_simp; done))) | ((with_reducible refine vcondF ?_ ?_); (focus (go_simp; done))) | ((with_reducible first | refine vrun_cons fun KK hKK => ?_ | refine vhrun_cons fun KK hKK => ?_); go_simp; (first | (with_reducible refine ⟨_, h1, ?_⟩) | (with_reducible refine ⟨_, h2, ?_⟩) | skip); refine hKK _ ?_; clear hKK KK) | ((with_reducible refine vcondS ?_ (fun ht => ?_) (fun ht => ?_)); (focus (go_simp; done)); (all_goals (simp [go_sem] at ht; replace ht := ht.out))))
      all_goals (go_simp; first | done | (simp_all []; done) | (simp only []; (try intros); (repeat' split) <;> (first | rfl | omega | (simp_all; done) | (simp_all; omega))) | ((try intros); (repeat' split) <;> (first | rfl | omega | (simp_all; done) | (simp_all; omega))))
  · rw [hd] at h2
    repeat' (first | (with_reducible first | refine vseq ?_ | refine vthenN ?_ | refine vthenE ?_ | refine vthenR ?_ | refine vret ?_ | refine vskip ?_ | refine vexit ?_ | refine vblock ?_ | refine vblockN ?_ | refine vblockR ?_ | refine vblockH ?_ | refine vrun_nil ?_ | refine vblockE rfl ?_ | refine vregion [] ?_ | refine vhrun_nil ?_) | ((with_reducible refine vcondT ?_ ?_); (focus (go_simp; done))) | ((with_reducible refine vcondF ?_ ?_); (focus (go_simp; done))) | ((with_reducible first | refine vrun_cons fun KK hKK => ?_ | refine vhrun_cons fun KK hKK => ?_); go_simp; (first | (with_reducible refine ⟨_, h2, ?_⟩) | skip); refine hKK _ ?_; clear hKK KK) | ((with_reducible refine vcondS ?_ (fun ht => ?_) (fun ht => ?_)); (focus (go_simp; done)); (all_goals (simp [go_sem] at ht; replace ht := ht.out))))
    go_simp
theorem b_done (k : Int) : VC Tryz.prog 152 [I k] (B (decide (k ≥ 2))) := by
  refine VC_of Tryz.func152 rfl (by kernel_rfl) (by kernel_rfl) rfl fun M0 w0 => ?_
  simp only [Tryz.ntmps152, Tryz.results152, enumA]
  repeat' (first | (with_reducible first | refine vseq ?_ | refine vthenN ?_ | refine vthenE ?_ | refine vthenR ?_ | refine vret ?_ | refine vskip ?_ | refine vexit ?_ | refine vblock ?_ | refine vblockN ?_ | refine vblockR ?_ | refine vblockH ?_ | refine vrun_nil ?_ | refine vblockE rfl ?_ | refine vregion [] ?_ | refine vhrun_nil ?_) | ((with_reducible refine vcondT ?_ ?_); (focus (go_simp; done))) | ((with_reducible refine vcondF ?_ ?_); (focus (go_simp; done))) | ((with_reducible first | refine vrun_cons fun KK hKK => ?_ | refine vhrun_cons fun KK hKK => ?_); go_simp; refine hKK _ ?_; clear hKK KK) | ((with_reducible refine vcondS ?_ (fun ht => ?_) (fun ht => ?_)); (focus (go_simp; done)); (all_goals (simp [go_sem] at ht; replace ht := ht.out))))
  go_simp
end Go.Proofs.YthbgghmjbaldlaaGreatDoor

/-! QE: Walks on plain values: chains of events, told up to a day, and one more event; texts of at most 1000 bytes. -/
namespace Go.Proofs.YthbgghmjbaldlaaGreatDoor
open Go.RowKit
set_option maxRecDepth 100000
/-- The right, as the reference has it. -/
def rightR (l : List Event) (day : Int) : Int := if l.length = 0 then 1 else if (eat l (l.length - 1)).kind ≥ 2 then 0 else if since l day ≤ 180 then 1 else if since l day ≤ 210 then 2 else 3
theorem rightR_eq {l : List Event} {day : Int} (h : l.length ≠ 0 → (eat l (l.length - 1)).kind ≤ 4) : rightR l day = right l day := by
  unfold rightR right
  by_cases h0 : l.length = 0
  · have hs : state l = 0 := by simp [state, h0]
    rw [if_pos h0]
    simp [isDone, hs]
  · rw [if_neg h0]
    have h4 := h h0
    generalize hk : (eat l (l.length - 1)).kind = k at *
    have hs : state l = if k = 2 then 2 else if k = 3 then 3 else if k = 4 then 4 else 1 := by
      unfold state
      rw [if_neg h0, hk]
    have hne : state l ≠ 0 := by rw [hs]; split <;> (try split) <;> (try split) <;> decide
    by_cases h2 : k ≥ 2
    · have : isDone l = true := by
        unfold isDone
        rw [hs]
        have : k = 2 ∨ k = 3 ∨ k = 4 := by omega
        rcases this with h | h | h <;> subst h <;> rfl
      rw [if_pos h2, this]
      rfl
    · have : isDone l = false := by
        unfold isDone
        rw [hs, if_neg (by omega), if_neg (by omega), if_neg (by omega)]
        rfl
      rw [if_neg h2, this, if_neg hne]
      rfl
theorem r_right (l : List Event) (day : Int) (hl : l.length ≤ 1000000) : VC Tryz.prog 153 [eventsA l, I day] (I (rightR l day)) := by
  unfold rightR
  refine VC_of Tryz.func153 rfl (by kernel_rfl) (by kernel_rfl) rfl fun M0 w0 => ?_
  simp only [Tryz.ntmps153, Tryz.results153, enumA]
  rcases hn : l.length with _ | m
  · repeat' (first | (with_reducible first | refine vseq ?_ | refine vthenN ?_ | refine vthenE ?_ | refine vthenR ?_ | refine vret ?_ | refine vskip ?_ | refine vexit ?_ | refine vblock ?_ | refine vblockN ?_ | refine vblockR ?_ | refine vblockH ?_ | refine vrun_nil ?_ | refine vblockE rfl ?_ | refine vregion [] ?_ | refine vhrun_nil ?_) | ((with_reducible refine vcondT ?_ ?_); (focus (go_simp; done))) | ((with_reducible refine vcondF ?_ ?_); (focus (go_simp; done))) | ((with_reducible first | refine vrun_cons fun KK hKK => ?_ | refine vhrun_cons fun KK hKK => ?_); go_simp; refine hKK _ ?_; clear hKK KK) | ((with_reducible refine vcondS ?_ (fun ht => ?_) (fun ht => ?_)); (focus (go_simp; done)); (all_goals (simp [go_sem] at ht; replace ht := ht.out))))
    go_simp
  · obtain ⟨w1, w2, w3, w4, w5, w6⟩ := ixs (m := m) (by omega)
    have hne : ¬ (m : Int) + 1 = 0 := by omega
    have hm : m < l.length := by omega
    have hl0 : 0 < l.length := by omega
    have hsi : since l day = IntKind.i64.wrap (day - l[0].day) := by unfold since; rw [eat_get hl0]
    obtain ⟨s, hs2⟩ : ∃ s, IntKind.i64.wrap (day - l[0].day) = s := ⟨_, rfl⟩
    rw [if_neg (by omega), Nat.add_sub_cancel, eat_get hm, hsi, hs2]
    clear hsi
    repeat' (first | (with_reducible first | refine vseq ?_ | refine vthenN ?_ | refine vthenE ?_ | refine vthenR ?_ | refine vret ?_ | refine vskip ?_ | refine vexit ?_ | refine vblock ?_ | refine vblockN ?_ | refine vblockR ?_ | refine vblockH ?_ | refine vrun_nil ?_ | refine vblockE rfl ?_ | refine vregion [] ?_ | refine vhrun_nil ?_) | ((with_reducible refine vcondT ?_ ?_); (focus (go_simp; done))) | ((with_reducible refine vcondF ?_ ?_); (focus (go_simp; done))) | ((with_reducible first | refine vrun_cons fun KK hKK => ?_ | refine vhrun_cons fun KK hKK => ?_); go_simp; (first | (with_reducible refine ⟨_, b_done _, ?_⟩) | skip); refine hKK _ ?_; clear hKK KK) | ((with_reducible refine vcondS ?_ (fun ht => ?_) (fun ht => ?_)); (focus (go_simp; done)); (all_goals (simp [go_sem] at ht; replace ht := ht.out))))
    all_goals (go_simp; first | done | (simp_all []; done) | (simp only []; (try intros); (repeat' split) <;> (first | rfl | omega | (simp_all; done) | (simp_all; omega))) | ((try intros); (repeat' split) <;> (first | rfl | omega | (simp_all; done) | (simp_all; omega))))
theorem upTo_hit {l : List Event} {day : Int} {k : Nat} : ∀ (n a : Nat), a ≤ k → k < a + n → (∀ j, a ≤ j → j < k → (eat l j).day ≤ day) → ¬ (eat l k).day ≤ day → upTo l day a n = k
  | 0, a, h1, h2, _, _ => by omega
  | n + 1, a, h1, h2, hb, h => by
    rw [upTo]
    by_cases he : a = k
    · subst he
      rw [if_neg h]
    · rw [if_pos (hb a (Nat.le_refl _) (by omega))]
      exact upTo_hit n (a + 1) (by omega) (by omega) (fun j h1 h2 => hb j (by omega) h2) h
theorem upTo_out {l : List Event} {day : Int} : ∀ (n a : Nat), (∀ j, a ≤ j → j < a + n → (eat l j).day ≤ day) → upTo l day a n = a + n
  | 0, a, _ => by rw [upTo]; omega
  | n + 1, a, h => by
    rw [upTo, if_pos (h a (Nat.le_refl _) (by omega)), upTo_out n (a + 1) fun j h1 h2 => h j (by omega) (by omega)]
    omega
def late (l : List Event) (day : Int) (k : Nat) : Bool := !decide ((eat l k).day ≤ day)
theorem late_no {l : List Event} {day : Int} {k : Nat} (h : late l day k = false) : (eat l k).day ≤ day := by simpa [late] using h
theorem late_yes {l : List Event} {day : Int} {k : Nat} (h : late l day k = true) : ¬ (eat l k).day ≤ day := by simpa [late] using h
theorem p_until (x : Item) (l : List Event) (day : Int) (hl : l.length ≤ 1000000) : VC Tryz.prog 131 [chainA x l, I day] (chainA x (untilL l day)) := by
  obtain ⟨R, hR⟩ : ∃ R, untilL l day = R := ⟨_, rfl⟩
  rw [hR]
  unfold untilL at hR
  have HR := Lib.hid hR
  clear hR
  refine VC_of Tryz.func131 rfl (by kernel_rfl) (by kernel_rfl) rfl fun M0 w0 => ?_
  simp only [Tryz.ntmps131, Tryz.results131, enumA]
  repeat' (first | (with_reducible first | refine vseq ?_ | refine vthenN ?_ | refine vthenE ?_ | refine vthenR ?_ | refine vret ?_ | refine vskip ?_ | refine vexit ?_ | refine vblock ?_ | refine vblockN ?_ | refine vblockR ?_ | refine vblockH ?_ | refine vrun_nil ?_ | refine vblockE rfl ?_ | refine vregion [] ?_ | refine vhrun_nil ?_) | ((with_reducible refine vcondT ?_ ?_); (focus (go_simp; done))) | ((with_reducible refine vcondF ?_ ?_); (focus (go_simp; done))) | ((with_reducible first | refine vrun_cons fun KK hKK => ?_ | refine vhrun_cons fun KK hKK => ?_); go_simp; refine hKK _ ?_; clear hKK KK) | ((refine vdrawL 8 7 [] rfl (by kernel_rfl) (by kernel_rfl) ?_); simp only [List.append, List.take, List.drop]) | ((with_reducible refine vcondS ?_ (fun ht => ?_) (fun ht => ?_)); (focus (go_simp; done)); (all_goals (simp [go_sem] at ht; replace ht := ht.out))) | ((apply vrun_consG0 rfl); (focus (go_simp <;> exact rfl)); (focus (go_simp; done)); (focus (intro hb0; replace hb0 := hb0.out; go_simp <;> (first | exact rfl))); intro KK hKK; go_simp; refine hKK _ ?_; clear hKK KK) | ((apply vhrun_consG0 rfl); (focus (go_simp <;> exact rfl)); (focus (intro hb0; replace hb0 := hb0.out; go_simp <;> (first | exact rfl))); intro KK hKK; go_simp; refine hKK _ ?_; clear hKK KK))
  apply vfor [1, 2, 4] (fun k => [(5, I k)]) (fun k => ([some (.box [.lit (.string ⟨#[]⟩), .lit (.int .i64 0), .lit (.string ⟨#[]⟩), nil_, nil_])] : Hp)) (late l day) (l.length)
  · go_simp <;> exact rfl
  · go_simp
  · intro k hk HB HP K hK
    obtain ⟨w1, w2, w3, w4, w5, w6⟩ := ixs (m := k) (by omega)
    have hp := late_no HP.out
    rw [eat_get hk] at hp
    repeat' (first | (with_reducible first | refine vseq ?_ | refine vthenN ?_ | refine vthenE ?_ | refine vthenR ?_ | refine vret ?_ | refine vskip ?_ | refine vexit ?_ | refine vblock ?_ | refine vblockN ?_ | refine vblockR ?_ | refine vblockH ?_ | refine vrun_nil ?_ | refine vblockE rfl ?_ | refine vregion [] ?_ | refine vhrun_nil ?_) | ((with_reducible refine vcondT ?_ ?_); (focus (go_simp; done))) | ((with_reducible refine vcondF ?_ ?_); (focus (go_simp; done))) | ((with_reducible first | refine vrun_cons fun KK hKK => ?_ | refine vhrun_cons fun KK hKK => ?_); go_simp; refine hKK _ ?_; clear hKK KK) | ((refine vdrawL 8 7 [] rfl (by kernel_rfl) (by kernel_rfl) ?_); simp only [List.append, List.take, List.drop]) | ((with_reducible refine vcondS ?_ (fun ht => ?_) (fun ht => ?_)); (focus (go_simp; done)); (all_goals (simp [go_sem] at ht; replace ht := ht.out))) | ((apply vrun_consG0 rfl); (focus (go_simp <;> exact rfl)); (focus (go_simp; done)); (focus (intro hb0; replace hb0 := hb0.out; go_simp <;> (first | exact rfl))); intro KK hKK; go_simp; refine hKK _ ?_; clear hKK KK) | ((apply vhrun_consG0 rfl); (focus (go_simp <;> exact rfl)); (focus (intro hb0; replace hb0 := hb0.out; go_simp <;> (first | exact rfl))); intro KK hKK; go_simp; refine hKK _ ?_; clear hKK KK))
    refine hK _ ?_
    go_simp
  · intro k hk HB HP K
    have hp := late_yes HP.out
    have e := HR.out
    rw [upTo_hit _ 0 (Nat.zero_le _) (by omega) (fun j _ hj => late_no (HB.out j hj)) hp] at e
    subst e
    rw [eat_get hk] at hp
    have hkl : k ≤ l.length := by omega
    repeat' (first | (with_reducible first | refine vseq ?_ | refine vthenN ?_ | refine vthenE ?_ | refine vthenR ?_ | refine vret ?_ | refine vskip ?_ | refine vexit ?_ | refine vblock ?_ | refine vblockN ?_ | refine vblockR ?_ | refine vblockH ?_ | refine vrun_nil ?_ | refine vblockE rfl ?_ | refine vregion [] ?_ | refine vhrun_nil ?_) | ((with_reducible refine vcondT ?_ ?_); (focus (go_simp; done))) | ((with_reducible refine vcondF ?_ ?_); (focus (go_simp; done))) | ((with_reducible first | refine vrun_cons fun KK hKK => ?_ | refine vhrun_cons fun KK hKK => ?_); go_simp; refine hKK _ ?_; clear hKK KK) | ((with_reducible refine vcondS ?_ (fun ht => ?_) (fun ht => ?_)); (focus (go_simp; done)); (all_goals (simp [go_sem] at ht; replace ht := ht.out))) | ((apply vrun_consG0 rfl); (focus (go_simp <;> exact rfl)); (focus (go_simp; done)); (focus (intro hb0; replace hb0 := hb0.out; go_simp <;> (first | exact rfl))); intro KK hKK; go_simp; refine hKK _ ?_; clear hKK KK) | ((apply vhrun_consG0 rfl); (focus (go_simp <;> exact rfl)); (focus (intro hb0; replace hb0 := hb0.out; go_simp <;> (first | exact rfl))); intro KK hKK; go_simp; refine hKK _ ?_; clear hKK KK))
    refine vdraw 7 [] (by kernel_rfl) (by kernel_rfl) ?_
    simp only [List.take, List.drop]
    repeat' (first | (with_reducible first | refine vseq ?_ | refine vthenN ?_ | refine vthenE ?_ | refine vthenR ?_ | refine vret ?_ | refine vskip ?_ | refine vexit ?_ | refine vblock ?_ | refine vblockN ?_ | refine vblockR ?_ | refine vblockH ?_ | refine vrun_nil ?_ | refine vblockE rfl ?_ | refine vregion [] ?_ | refine vhrun_nil ?_) | ((with_reducible refine vcondT ?_ ?_); (focus (go_simp; done))) | ((with_reducible refine vcondF ?_ ?_); (focus (go_simp; done))) | ((with_reducible first | refine vrun_cons fun KK hKK => ?_ | refine vhrun_cons fun KK hKK => ?_); go_simp; refine hKK _ ?_; clear hKK KK) | ((refine vdrawL 8 7 [] rfl (by kernel_rfl) (by kernel_rfl) ?_); simp only [List.append, List.take, List.drop]) | ((with_reducible refine vcondS ?_ (fun ht => ?_) (fun ht => ?_)); (focus (go_simp; done)); (all_goals (simp [go_sem] at ht; replace ht := ht.out))) | ((apply vrun_consG0 rfl); (focus (go_simp <;> exact rfl)); (focus (go_simp; done)); (focus (intro hb0; replace hb0 := hb0.out; go_simp <;> (first | exact rfl))); intro KK hKK; go_simp; refine hKK _ ?_; clear hKK KK) | ((apply vhrun_consG0 rfl); (focus (go_simp <;> exact rfl)); (focus (intro hb0; replace hb0 := hb0.out; go_simp <;> (first | exact rfl))); intro KK hKK; go_simp; refine hKK _ ?_; clear hKK KK))
    go_simp
  · intro HB K
    have e := HR.out
    rw [upTo_out _ 0 (fun j _ hj => late_no (HB.out j (by omega))), Nat.zero_add, List.take_length] at e
    subst e
    have htk : List.take l.length (l.map Event.av) = l.map Event.av := List.take_of_length_le (by simp)
    repeat' (first | (with_reducible first | refine vseq ?_ | refine vthenN ?_ | refine vthenE ?_ | refine vthenR ?_ | refine vret ?_ | refine vskip ?_ | refine vexit ?_ | refine vblock ?_ | refine vblockN ?_ | refine vblockR ?_ | refine vblockH ?_ | refine vrun_nil ?_ | refine vblockE rfl ?_ | refine vregion [] ?_ | refine vhrun_nil ?_) | ((with_reducible refine vcondT ?_ ?_); (focus (go_simp; done))) | ((with_reducible refine vcondF ?_ ?_); (focus (go_simp; done))) | ((with_reducible first | refine vrun_cons fun KK hKK => ?_ | refine vhrun_cons fun KK hKK => ?_); go_simp; refine hKK _ ?_; clear hKK KK) | ((with_reducible refine vcondS ?_ (fun ht => ?_) (fun ht => ?_)); (focus (go_simp; done)); (all_goals (simp [go_sem] at ht; replace ht := ht.out))) | ((apply vrun_consG0 rfl); (focus (go_simp <;> exact rfl)); (focus (go_simp; done)); (focus (intro hb0; replace hb0 := hb0.out; go_simp <;> (first | exact rfl))); intro KK hKK; go_simp; refine hKK _ ?_; clear hKK KK) | ((apply vhrun_consG0 rfl); (focus (go_simp <;> exact rfl)); (focus (intro hb0; replace hb0 := hb0.out; go_simp <;> (first | exact rfl))); intro KK hKK; go_simp; refine hKK _ ?_; clear hKK KK))
    refine vdraw 7 [] (by kernel_rfl) (by kernel_rfl) ?_
    simp only [List.take, List.drop]
    repeat' (first | (with_reducible first | refine vseq ?_ | refine vthenN ?_ | refine vthenE ?_ | refine vthenR ?_ | refine vret ?_ | refine vskip ?_ | refine vexit ?_ | refine vblock ?_ | refine vblockN ?_ | refine vblockR ?_ | refine vblockH ?_ | refine vrun_nil ?_ | refine vblockE rfl ?_ | refine vregion [] ?_ | refine vhrun_nil ?_) | ((with_reducible refine vcondT ?_ ?_); (focus (go_simp; done))) | ((with_reducible refine vcondF ?_ ?_); (focus (go_simp; done))) | ((with_reducible first | refine vrun_cons fun KK hKK => ?_ | refine vhrun_cons fun KK hKK => ?_); go_simp; refine hKK _ ?_; clear hKK KK) | ((refine vdrawL 8 7 [] rfl (by kernel_rfl) (by kernel_rfl) ?_); simp only [List.append, List.take, List.drop]) | ((with_reducible refine vcondS ?_ (fun ht => ?_) (fun ht => ?_)); (focus (go_simp; done)); (all_goals (simp [go_sem] at ht; replace ht := ht.out))) | ((apply vrun_consG0 rfl); (focus (go_simp <;> exact rfl)); (focus (go_simp; done)); (focus (intro hb0; replace hb0 := hb0.out; go_simp <;> (first | exact rfl))); intro KK hKK; go_simp; refine hKK _ ?_; clear hKK KK) | ((apply vhrun_consG0 rfl); (focus (go_simp <;> exact rfl)); (focus (intro hb0; replace hb0 := hb0.out; go_simp <;> (first | exact rfl))); intro KK hKK; go_simp; refine hKK _ ?_; clear hKK KK))
    go_simp
end Go.Proofs.YthbgghmjbaldlaaGreatDoor

/-! QF: Walks on plain values: one more event, and chains; texts of at most 1000 bytes. -/
namespace Go.Proofs.YthbgghmjbaldlaaGreatDoor
open Go.RowKit
set_option maxRecDepth 100000
set_option maxHeartbeats 1000000
def intsOf : List (List AV) → List Int
  | [.lit (.int _ n)] :: r => n :: intsOf r
  | _ => []
attribute [go_sem] intsOf
/-- The first error of a row as it lies. -/
theorem p_firstA (es : List (List AV)) (h : es = (intsOf es).map intA) (hl : Nat.ble (intsOf es).length 1000 = true) : VC Tryz.prog 53 [.sl 1 es] (I (fst (intsOf es))) := by
  have := p_first (intsOf es) (Nat.le_of_ble_eq_true hl)
  rwa [← h] at this
theorem nextE_nil {x : Item} {l : List Event} {v : Event} (h : l.length = 0) : nextE x l v = fst [unl (decide (v.item = x.name)) 6, unl (isDate v.day) 2, unl (inR v.kind 0 4) 15, unl (isName v.frm && isName v.dst) 4, unl (decide (x.day ≤ v.day)) 9,
  unl (decide (v.kind = 0)) 22, unl (decide (v.frm = x.who)) 13, unl (decide (v.kind ≠ 3) || decide (v.dst = x.who)) 18, unl (!(decide (v.kind = 3) || decide (v.kind = 4))) 25] := by
  have hs : state l = 0 := by simp [state, h]
  have hr : ∀ d, right l d = 1 := fun d => by simp [right, isDone, hs]
  unfold nextE lastDay holder
  rw [hr]
  simp only [h, if_true, isDone, hs]
  by_cases h3 : v.kind = 3
  · simp [h3]
  · by_cases h4 : v.kind = 4
    · simp [h4]
    · simp [h3, h4]
theorem p_next (x : Item) (l : List Event) (v : Event) (hl : l.length ≤ 1000000) (hv : SmallE v) : VC Tryz.prog 154 [chainA x l, .agg v.av] (I (nextE x l v)) := by
  have h1 := p_isName v.frm hv.frm
  have h2 := p_isName v.dst hv.dst
  have h3 := p_isDone x l hl
  have h4 := p_holder x l hl
  have h5 := p_right x l v.day hl
  clear hv
  unfold nextE lastDay
  generalize isDone l = D at *
  generalize holder x l = Hd at *
  generalize right l v.day = Rt at *
  obtain ⟨R, hR⟩ : ∃ R, IsB (decide (R = (0 : Int))) true := ⟨0, rfl⟩
  clear hR R
  refine VC_of Tryz.func154 rfl (by kernel_rfl) (by kernel_rfl) rfl fun M0 w0 => ?_
  simp only [Tryz.ntmps154, Tryz.results154, enumA]
  by_cases k3 : v.kind = 3
  · have hf : findK (.int .i64 3) (updK (.int .i64 4) (.int .i64 3) (updK (.int .i64 3) (.int .i64 2) [])) = some (.int .i64 2) := rfl
    rcases hln : l.length with _ | m
    · repeat' (first | (with_reducible first | refine vseq ?_ | refine vthenN ?_ | refine vthenE ?_ | refine vthenR ?_ | refine vret ?_ | refine vskip ?_ | refine vexit ?_ | refine vblock ?_ | refine vblockN ?_ | refine vblockR ?_ | refine vblockH ?_ | refine vrun_nil ?_ | refine vblockE rfl ?_ | refine vregion [] ?_ | refine vhrun_nil ?_) | ((with_reducible refine vcondT ?_ ?_); (focus (go_simp; done))) | ((with_reducible refine vcondF ?_ ?_); (focus (go_simp; done))) | ((with_reducible first | refine vrun_cons fun KK hKK => ?_ | refine vhrun_cons fun KK hKK => ?_); go_simp; (first | (with_reducible refine ⟨_, h1, ?_⟩) | (with_reducible refine ⟨_, h2, ?_⟩) | (with_reducible refine ⟨_, h3, ?_⟩) | (with_reducible refine ⟨_, h4, ?_⟩) | (with_reducible refine ⟨_, h5, ?_⟩) | (with_reducible refine ⟨_, p_unless _ _, ?_⟩) | (with_reducible refine ⟨_, p_isDate _, ?_⟩) | (with_reducible refine ⟨_, p_within _ _ _, ?_⟩) | (refine ⟨_, p_firstA _ rfl rfl, ?_⟩) | skip); refine hKK _ ?_; clear hKK KK) | ((refine vdrawL 77 77 [] rfl (by kernel_rfl) (by kernel_rfl) ?_); simp only [List.append, List.take, List.drop]) | ((with_reducible refine vcondS ?_ (fun ht => ?_) (fun ht => ?_)); (focus (go_simp; done)); (all_goals (simp [go_sem] at ht; replace ht := ht.out))) | ((apply vrun_consG0 rfl); (focus (go_simp <;> exact rfl)); (focus (go_simp; done)); (focus (intro hb0; replace hb0 := hb0.out; go_simp <;> (first | exact rfl | exact h1 | exact h2 | exact h3 | exact h4 | exact h5 | exact p_unless _ _ | exact p_isDate _ | exact p_within _ _ _ | exact p_firstA _ rfl rfl | exact ⟨h1, rfl⟩ | exact ⟨h2, rfl⟩ | exact ⟨h3, rfl⟩ | exact ⟨h4, rfl⟩ | exact ⟨h5, rfl⟩ | exact ⟨p_unless _ _, rfl⟩ | exact ⟨p_isDate _, rfl⟩ | exact ⟨p_within _ _ _, rfl⟩ | exact ⟨p_firstA _ rfl rfl, rfl⟩))); intro KK hKK; go_simp; refine hKK _ ?_; clear hKK KK) | ((apply vhrun_consG0 rfl); (focus (go_simp <;> exact rfl)); (focus (intro hb0; replace hb0 := hb0.out; go_simp <;> (first | exact rfl | exact h1 | exact h2 | exact h3 | exact h4 | exact h5 | exact p_unless _ _ | exact p_isDate _ | exact p_within _ _ _ | exact p_firstA _ rfl rfl | exact ⟨h1, rfl⟩ | exact ⟨h2, rfl⟩ | exact ⟨h3, rfl⟩ | exact ⟨h4, rfl⟩ | exact ⟨h5, rfl⟩ | exact ⟨p_unless _ _, rfl⟩ | exact ⟨p_isDate _, rfl⟩ | exact ⟨p_within _ _ _, rfl⟩ | exact ⟨p_firstA _ rfl rfl, rfl⟩))); intro KK hKK; go_simp; refine hKK _ ?_; clear hKK KK))
      go_simp
    · obtain ⟨w1, w2, w3, w4, w5, w6⟩ := ixs (m := m) (by omega)
      have hne : ¬ (m : Int) + 1 = 0 := by omega
      have hm : m < l.length := by omega
      have hem := eat_get hm
      repeat' (first | (with_reducible first | refine vseq ?_ | refine vthenN ?_ | refine vthenE ?_ | refine vthenR ?_ | refine vret ?_ | refine vskip ?_ | refine vexit ?_ | refine vblock ?_ | refine vblockN ?_ | refine vblockR ?_ | refine vblockH ?_ | refine vrun_nil ?_ | refine vblockE rfl ?_ | refine vregion [] ?_ | refine vhrun_nil ?_) | ((with_reducible refine vcondT ?_ ?_); (focus (go_simp; done))) | ((with_reducible refine vcondF ?_ ?_); (focus (go_simp; done))) | ((with_reducible first | refine vrun_cons fun KK hKK => ?_ | refine vhrun_cons fun KK hKK => ?_); go_simp; (first | (with_reducible refine ⟨_, h1, ?_⟩) | (with_reducible refine ⟨_, h2, ?_⟩) | (with_reducible refine ⟨_, h3, ?_⟩) | (with_reducible refine ⟨_, h4, ?_⟩) | (with_reducible refine ⟨_, h5, ?_⟩) | (with_reducible refine ⟨_, p_unless _ _, ?_⟩) | (with_reducible refine ⟨_, p_isDate _, ?_⟩) | (with_reducible refine ⟨_, p_within _ _ _, ?_⟩) | (refine ⟨_, p_firstA _ rfl rfl, ?_⟩) | skip); refine hKK _ ?_; clear hKK KK) | ((refine vdrawL 77 77 [] rfl (by kernel_rfl) (by kernel_rfl) ?_); simp only [List.append, List.take, List.drop]) | ((with_reducible refine vcondS ?_ (fun ht => ?_) (fun ht => ?_)); (focus (go_simp; done)); (all_goals (simp [go_sem] at ht; replace ht := ht.out))) | ((apply vrun_consG0 rfl); (focus (go_simp <;> exact rfl)); (focus (go_simp; done)); (focus (intro hb0; replace hb0 := hb0.out; go_simp <;> (first | exact rfl | exact h1 | exact h2 | exact h3 | exact h4 | exact h5 | exact p_unless _ _ | exact p_isDate _ | exact p_within _ _ _ | exact p_firstA _ rfl rfl | exact ⟨h1, rfl⟩ | exact ⟨h2, rfl⟩ | exact ⟨h3, rfl⟩ | exact ⟨h4, rfl⟩ | exact ⟨h5, rfl⟩ | exact ⟨p_unless _ _, rfl⟩ | exact ⟨p_isDate _, rfl⟩ | exact ⟨p_within _ _ _, rfl⟩ | exact ⟨p_firstA _ rfl rfl, rfl⟩))); intro KK hKK; go_simp; refine hKK _ ?_; clear hKK KK) | ((apply vhrun_consG0 rfl); (focus (go_simp <;> exact rfl)); (focus (intro hb0; replace hb0 := hb0.out; go_simp <;> (first | exact rfl | exact h1 | exact h2 | exact h3 | exact h4 | exact h5 | exact p_unless _ _ | exact p_isDate _ | exact p_within _ _ _ | exact p_firstA _ rfl rfl | exact ⟨h1, rfl⟩ | exact ⟨h2, rfl⟩ | exact ⟨h3, rfl⟩ | exact ⟨h4, rfl⟩ | exact ⟨h5, rfl⟩ | exact ⟨p_unless _ _, rfl⟩ | exact ⟨p_isDate _, rfl⟩ | exact ⟨p_within _ _ _, rfl⟩ | exact ⟨p_firstA _ rfl rfl, rfl⟩))); intro KK hKK; go_simp; refine hKK _ ?_; clear hKK KK))
      go_simp
  · by_cases k4 : v.kind = 4
    · have hf : findK (.int .i64 4) (updK (.int .i64 4) (.int .i64 3) (updK (.int .i64 3) (.int .i64 2) [])) = some (.int .i64 3) := rfl
      rcases hln : l.length with _ | m
      · repeat' (first | (with_reducible first | refine vseq ?_ | refine vthenN ?_ | refine vthenE ?_ | refine vthenR ?_ | refine vret ?_ | refine vskip ?_ | refine vexit ?_ | refine vblock ?_ | refine vblockN ?_ | refine vblockR ?_ | refine vblockH ?_ | refine vrun_nil ?_ | refine vblockE rfl ?_ | refine vregion [] ?_ | refine vhrun_nil ?_) | ((with_reducible refine vcondT ?_ ?_); (focus (go_simp; done))) | ((with_reducible refine vcondF ?_ ?_); (focus (go_simp; done))) | ((with_reducible first | refine vrun_cons fun KK hKK => ?_ | refine vhrun_cons fun KK hKK => ?_); go_simp; (first | (with_reducible refine ⟨_, h1, ?_⟩) | (with_reducible refine ⟨_, h2, ?_⟩) | (with_reducible refine ⟨_, h3, ?_⟩) | (with_reducible refine ⟨_, h4, ?_⟩) | (with_reducible refine ⟨_, h5, ?_⟩) | (with_reducible refine ⟨_, p_unless _ _, ?_⟩) | (with_reducible refine ⟨_, p_isDate _, ?_⟩) | (with_reducible refine ⟨_, p_within _ _ _, ?_⟩) | (refine ⟨_, p_firstA _ rfl rfl, ?_⟩) | skip); refine hKK _ ?_; clear hKK KK) | ((refine vdrawL 77 77 [] rfl (by kernel_rfl) (by kernel_rfl) ?_); simp only [List.append, List.take, List.drop]) | ((with_reducible refine vcondS ?_ (fun ht => ?_) (fun ht => ?_)); (focus (go_simp; done)); (all_goals (simp [go_sem] at ht; replace ht := ht.out))) | ((apply vrun_consG0 rfl); (focus (go_simp <;> exact rfl)); (focus (go_simp; done)); (focus (intro hb0; replace hb0 := hb0.out; go_simp <;> (first | exact rfl | exact h1 | exact h2 | exact h3 | exact h4 | exact h5 | exact p_unless _ _ | exact p_isDate _ | exact p_within _ _ _ | exact p_firstA _ rfl rfl | exact ⟨h1, rfl⟩ | exact ⟨h2, rfl⟩ | exact ⟨h3, rfl⟩ | exact ⟨h4, rfl⟩ | exact ⟨h5, rfl⟩ | exact ⟨p_unless _ _, rfl⟩ | exact ⟨p_isDate _, rfl⟩ | exact ⟨p_within _ _ _, rfl⟩ | exact ⟨p_firstA _ rfl rfl, rfl⟩))); intro KK hKK; go_simp; refine hKK _ ?_; clear hKK KK) | ((apply vhrun_consG0 rfl); (focus (go_simp <;> exact rfl)); (focus (intro hb0; replace hb0 := hb0.out; go_simp <;> (first | exact rfl | exact h1 | exact h2 | exact h3 | exact h4 | exact h5 | exact p_unless _ _ | exact p_isDate _ | exact p_within _ _ _ | exact p_firstA _ rfl rfl | exact ⟨h1, rfl⟩ | exact ⟨h2, rfl⟩ | exact ⟨h3, rfl⟩ | exact ⟨h4, rfl⟩ | exact ⟨h5, rfl⟩ | exact ⟨p_unless _ _, rfl⟩ | exact ⟨p_isDate _, rfl⟩ | exact ⟨p_within _ _ _, rfl⟩ | exact ⟨p_firstA _ rfl rfl, rfl⟩))); intro KK hKK; go_simp; refine hKK _ ?_; clear hKK KK))
        go_simp
      · obtain ⟨w1, w2, w3, w4, w5, w6⟩ := ixs (m := m) (by omega)
        have hne : ¬ (m : Int) + 1 = 0 := by omega
        have hm : m < l.length := by omega
        have hem := eat_get hm
        repeat' (first | (with_reducible first | refine vseq ?_ | refine vthenN ?_ | refine vthenE ?_ | refine vthenR ?_ | refine vret ?_ | refine vskip ?_ | refine vexit ?_ | refine vblock ?_ | refine vblockN ?_ | refine vblockR ?_ | refine vblockH ?_ | refine vrun_nil ?_ | refine vblockE rfl ?_ | refine vregion [] ?_ | refine vhrun_nil ?_) | ((with_reducible refine vcondT ?_ ?_); (focus (go_simp; done))) | ((with_reducible refine vcondF ?_ ?_); (focus (go_simp; done))) | ((with_reducible first | refine vrun_cons fun KK hKK => ?_ | refine vhrun_cons fun KK hKK => ?_); go_simp; (first | (with_reducible refine ⟨_, h1, ?_⟩) | (with_reducible refine ⟨_, h2, ?_⟩) | (with_reducible refine ⟨_, h3, ?_⟩) | (with_reducible refine ⟨_, h4, ?_⟩) | (with_reducible refine ⟨_, h5, ?_⟩) | (with_reducible refine ⟨_, p_unless _ _, ?_⟩) | (with_reducible refine ⟨_, p_isDate _, ?_⟩) | (with_reducible refine ⟨_, p_within _ _ _, ?_⟩) | (refine ⟨_, p_firstA _ rfl rfl, ?_⟩) | skip); refine hKK _ ?_; clear hKK KK) | ((refine vdrawL 77 77 [] rfl (by kernel_rfl) (by kernel_rfl) ?_); simp only [List.append, List.take, List.drop]) | ((with_reducible refine vcondS ?_ (fun ht => ?_) (fun ht => ?_)); (focus (go_simp; done)); (all_goals (simp [go_sem] at ht; replace ht := ht.out))) | ((apply vrun_consG0 rfl); (focus (go_simp <;> exact rfl)); (focus (go_simp; done)); (focus (intro hb0; replace hb0 := hb0.out; go_simp <;> (first | exact rfl | exact h1 | exact h2 | exact h3 | exact h4 | exact h5 | exact p_unless _ _ | exact p_isDate _ | exact p_within _ _ _ | exact p_firstA _ rfl rfl | exact ⟨h1, rfl⟩ | exact ⟨h2, rfl⟩ | exact ⟨h3, rfl⟩ | exact ⟨h4, rfl⟩ | exact ⟨h5, rfl⟩ | exact ⟨p_unless _ _, rfl⟩ | exact ⟨p_isDate _, rfl⟩ | exact ⟨p_within _ _ _, rfl⟩ | exact ⟨p_firstA _ rfl rfl, rfl⟩))); intro KK hKK; go_simp; refine hKK _ ?_; clear hKK KK) | ((apply vhrun_consG0 rfl); (focus (go_simp <;> exact rfl)); (focus (intro hb0; replace hb0 := hb0.out; go_simp <;> (first | exact rfl | exact h1 | exact h2 | exact h3 | exact h4 | exact h5 | exact p_unless _ _ | exact p_isDate _ | exact p_within _ _ _ | exact p_firstA _ rfl rfl | exact ⟨h1, rfl⟩ | exact ⟨h2, rfl⟩ | exact ⟨h3, rfl⟩ | exact ⟨h4, rfl⟩ | exact ⟨h5, rfl⟩ | exact ⟨p_unless _ _, rfl⟩ | exact ⟨p_isDate _, rfl⟩ | exact ⟨p_within _ _ _, rfl⟩ | exact ⟨p_firstA _ rfl rfl, rfl⟩))); intro KK hKK; go_simp; refine hKK _ ?_; clear hKK KK))
        go_simp
    · have hf : findK (.int .i64 v.kind) (updK (.int .i64 4) (.int .i64 3) (updK (.int .i64 3) (.int .i64 2) [])) = none := by
        have e1 : updK (.int .i64 4) (.int .i64 3) (updK (.int .i64 3) (.int .i64 2) []) = [(.int .i64 3, .int .i64 2), (.int .i64 4, .int .i64 3)] := rfl
        rw [e1]
        simp [findK, sameKey, k3, k4]
      rcases hln : l.length with _ | m
      · repeat' (first | (with_reducible first | refine vseq ?_ | refine vthenN ?_ | refine vthenE ?_ | refine vthenR ?_ | refine vret ?_ | refine vskip ?_ | refine vexit ?_ | refine vblock ?_ | refine vblockN ?_ | refine vblockR ?_ | refine vblockH ?_ | refine vrun_nil ?_ | refine vblockE rfl ?_ | refine vregion [] ?_ | refine vhrun_nil ?_) | ((with_reducible refine vcondT ?_ ?_); (focus (go_simp; done))) | ((with_reducible refine vcondF ?_ ?_); (focus (go_simp; done))) | ((with_reducible first | refine vrun_cons fun KK hKK => ?_ | refine vhrun_cons fun KK hKK => ?_); go_simp; (first | (with_reducible refine ⟨_, h1, ?_⟩) | (with_reducible refine ⟨_, h2, ?_⟩) | (with_reducible refine ⟨_, h3, ?_⟩) | (with_reducible refine ⟨_, h4, ?_⟩) | (with_reducible refine ⟨_, h5, ?_⟩) | (with_reducible refine ⟨_, p_unless _ _, ?_⟩) | (with_reducible refine ⟨_, p_isDate _, ?_⟩) | (with_reducible refine ⟨_, p_within _ _ _, ?_⟩) | (refine ⟨_, p_firstA _ rfl rfl, ?_⟩) | skip); refine hKK _ ?_; clear hKK KK) | ((refine vdrawL 77 77 [] rfl (by kernel_rfl) (by kernel_rfl) ?_); simp only [List.append, List.take, List.drop]) | ((with_reducible refine vcondS ?_ (fun ht => ?_) (fun ht => ?_)); (focus (go_simp; done)); (all_goals (simp [go_sem] at ht; replace ht := ht.out))) | ((apply vrun_consG0 rfl); (focus (go_simp <;> exact rfl)); (focus (go_simp; done)); (focus (intro hb0; replace hb0 := hb0.out; go_simp <;> (first | exact rfl | exact h1 | exact h2 | exact h3 | exact h4 | exact h5 | exact p_unless _ _ | exact p_isDate _ | exact p_within _ _ _ | exact p_firstA _ rfl rfl | exact ⟨h1, rfl⟩ | exact ⟨h2, rfl⟩ | exact ⟨h3, rfl⟩ | exact ⟨h4, rfl⟩ | exact ⟨h5, rfl⟩ | exact ⟨p_unless _ _, rfl⟩ | exact ⟨p_isDate _, rfl⟩ | exact ⟨p_within _ _ _, rfl⟩ | exact ⟨p_firstA _ rfl rfl, rfl⟩))); intro KK hKK; go_simp; refine hKK _ ?_; clear hKK KK) | ((apply vhrun_consG0 rfl); (focus (go_simp <;> exact rfl)); (focus (intro hb0; replace hb0 := hb0.out; go_simp <;> (first | exact rfl | exact h1 | exact h2 | exact h3 | exact h4 | exact h5 | exact p_unless _ _ | exact p_isDate _ | exact p_within _ _ _ | exact p_firstA _ rfl rfl | exact ⟨h1, rfl⟩ | exact ⟨h2, rfl⟩ | exact ⟨h3, rfl⟩ | exact ⟨h4, rfl⟩ | exact ⟨h5, rfl⟩ | exact ⟨p_unless _ _, rfl⟩ | exact ⟨p_isDate _, rfl⟩ | exact ⟨p_within _ _ _, rfl⟩ | exact ⟨p_firstA _ rfl rfl, rfl⟩))); intro KK hKK; go_simp; refine hKK _ ?_; clear hKK KK))
        go_simp
      · obtain ⟨w1, w2, w3, w4, w5, w6⟩ := ixs (m := m) (by omega)
        have hne : ¬ (m : Int) + 1 = 0 := by omega
        have hm : m < l.length := by omega
        have hem := eat_get hm
        repeat' (first | (with_reducible first | refine vseq ?_ | refine vthenN ?_ | refine vthenE ?_ | refine vthenR ?_ | refine vret ?_ | refine vskip ?_ | refine vexit ?_ | refine vblock ?_ | refine vblockN ?_ | refine vblockR ?_ | refine vblockH ?_ | refine vrun_nil ?_ | refine vblockE rfl ?_ | refine vregion [] ?_ | refine vhrun_nil ?_) | ((with_reducible refine vcondT ?_ ?_); (focus (go_simp; done))) | ((with_reducible refine vcondF ?_ ?_); (focus (go_simp; done))) | ((with_reducible first | refine vrun_cons fun KK hKK => ?_ | refine vhrun_cons fun KK hKK => ?_); go_simp; (first | (with_reducible refine ⟨_, h1, ?_⟩) | (with_reducible refine ⟨_, h2, ?_⟩) | (with_reducible refine ⟨_, h3, ?_⟩) | (with_reducible refine ⟨_, h4, ?_⟩) | (with_reducible refine ⟨_, h5, ?_⟩) | (with_reducible refine ⟨_, p_unless _ _, ?_⟩) | (with_reducible refine ⟨_, p_isDate _, ?_⟩) | (with_reducible refine ⟨_, p_within _ _ _, ?_⟩) | (refine ⟨_, p_firstA _ rfl rfl, ?_⟩) | skip); refine hKK _ ?_; clear hKK KK) | ((refine vdrawL 77 77 [] rfl (by kernel_rfl) (by kernel_rfl) ?_); simp only [List.append, List.take, List.drop]) | ((with_reducible refine vcondS ?_ (fun ht => ?_) (fun ht => ?_)); (focus (go_simp; done)); (all_goals (simp [go_sem] at ht; replace ht := ht.out))) | ((apply vrun_consG0 rfl); (focus (go_simp <;> exact rfl)); (focus (go_simp; done)); (focus (intro hb0; replace hb0 := hb0.out; go_simp <;> (first | exact rfl | exact h1 | exact h2 | exact h3 | exact h4 | exact h5 | exact p_unless _ _ | exact p_isDate _ | exact p_within _ _ _ | exact p_firstA _ rfl rfl | exact ⟨h1, rfl⟩ | exact ⟨h2, rfl⟩ | exact ⟨h3, rfl⟩ | exact ⟨h4, rfl⟩ | exact ⟨h5, rfl⟩ | exact ⟨p_unless _ _, rfl⟩ | exact ⟨p_isDate _, rfl⟩ | exact ⟨p_within _ _ _, rfl⟩ | exact ⟨p_firstA _ rfl rfl, rfl⟩))); intro KK hKK; go_simp; refine hKK _ ?_; clear hKK KK) | ((apply vhrun_consG0 rfl); (focus (go_simp <;> exact rfl)); (focus (intro hb0; replace hb0 := hb0.out; go_simp <;> (first | exact rfl | exact h1 | exact h2 | exact h3 | exact h4 | exact h5 | exact p_unless _ _ | exact p_isDate _ | exact p_within _ _ _ | exact p_firstA _ rfl rfl | exact ⟨h1, rfl⟩ | exact ⟨h2, rfl⟩ | exact ⟨h3, rfl⟩ | exact ⟨h4, rfl⟩ | exact ⟨h5, rfl⟩ | exact ⟨p_unless _ _, rfl⟩ | exact ⟨p_isDate _, rfl⟩ | exact ⟨p_within _ _ _, rfl⟩ | exact ⟨p_firstA _ rfl rfl, rfl⟩))); intro KK hKK; go_simp; refine hKK _ ?_; clear hKK KK))
        go_simp
end Go.Proofs.YthbgghmjbaldlaaGreatDoor

/-! QG: Walks on plain values: one more event, as the reference has it; chains; texts of at most 1000 bytes. -/
namespace Go.Proofs.YthbgghmjbaldlaaGreatDoor
open Go.RowKit
set_option maxRecDepth 100000
set_option maxHeartbeats 1000000
def endR (l : List Event) : Bool := if l.length = 0 then false else decide ((eat l (l.length - 1)).kind ≥ 2)
def evR (x : Item) (l : List Event) (v : Event) : Int :=
  if ¬ v.item = x.name then 6 else if inR v.day 0 100000 = false then 2 else if inR v.kind 0 4 = false then 15 else if (isName v.frm && isName v.dst) = false then 4 else if v.day < lastDay x l then 9
  else if (decide (v.kind = 0) == decide (l.length = 0)) = false ∨ endR l = true then 22 else if ¬ v.frm = holder x l then 13 else if v.kind = 3 ∧ ¬ v.dst = x.who then 18
  else if (v.kind = 3 ∧ ¬ rightR l v.day = 2) ∨ (v.kind = 4 ∧ ¬ rightR l v.day = 3) then 25 else 0
/-- The kind of the last event is one that there is. -/
def KindOK (l : List Event) : Prop := l.length ≠ 0 → 0 ≤ (eat l (l.length - 1)).kind ∧ (eat l (l.length - 1)).kind ≤ 4
theorem isDone_eq {l : List Event} (h : KindOK l) : isDone l = endR l := by
  unfold isDone endR
  by_cases h0 : l.length = 0
  · have hs : state l = 0 := by simp [state, h0]
    simp [hs, h0]
  · rw [if_neg h0]
    have h4 := h h0
    generalize hk : (eat l (l.length - 1)).kind = k at *
    have hs : state l = if k = 2 then 2 else if k = 3 then 3 else if k = 4 then 4 else 1 := by
      unfold state
      rw [if_neg h0, hk]
    rw [hs]
    have : k = 0 ∨ k = 1 ∨ k = 2 ∨ k = 3 ∨ k = 4 := by omega
    rcases this with h | h | h | h | h <;> subst h <;> rfl
theorem evR_eq {x : Item} {l : List Event} {v : Event} (h : KindOK l) : evR x l v = nextE x l v := by
  unfold evR nextE
  rw [rightR_eq (fun h0 => (h h0).2), ← isDone_eq h]
  have e : decide (lastDay x l ≤ v.day) = !decide (v.day < lastDay x l) := by
    by_cases hlt : v.day < lastDay x l
    · simp [hlt]
    · simp [hlt]
      omega
  rw [e]
  generalize lastDay x l = ld
  generalize holder x l = hd
  generalize right l v.day = rt
  unfold isDate
  generalize (decide (v.kind = 0) == decide (l.length = 0)) = q
  by_cases c1 : v.item = x.name
  · cases c2 : inR v.day 0 100000
    · simp [fst, unl, c1]
    · cases c3 : inR v.kind 0 4
      · simp [fst, unl, c1]
      · cases c4 : (isName v.frm && isName v.dst)
        · simp [fst, unl, c1]
        · by_cases c5 : v.day < ld
          · simp [fst, unl, c1, c5]
          · cases q
            · simp [fst, unl, c1, c5]
            · cases isDone l
              · by_cases c6 : v.frm = hd
                · by_cases c7 : v.kind = 3
                  · by_cases c8 : v.dst = x.who
                    · by_cases c9 : rt = 2 <;> simp [fst, unl, c1, c5, c6, c7, c8, c9]
                    · simp [fst, unl, c1, c5, c6, c7, c8]
                  · by_cases c8 : v.kind = 4
                    · by_cases c9 : rt = 3 <;> simp [fst, unl, c1, c5, c6, c8, c9]
                    · simp [fst, unl, c1, c5, c6, c7, c8]
                · simp [fst, unl, c1, c5, c6]
              · simp [fst, unl, c1, c5]
  · simp [fst, unl, c1]
theorem r_eventErr (x : Item) (l : List Event) (v : Event) (hl : l.length ≤ 1000000) (hv : SmallE v) : VC Tryz.prog 129 [itemA x, eventsA l, .agg v.av] (I (evR x l v)) := by
  have h1 := b_isName v.frm (by have := hv.frm; omega)
  have h2 := b_isName v.dst (by have := hv.dst; omega)
  have h5 := r_right l v.day hl
  clear hv
  unfold evR lastDay endR holder
  generalize rightR l v.day = Rt at *
  refine VC_of Tryz.func129 rfl (by kernel_rfl) (by kernel_rfl) rfl fun M0 w0 => ?_
  simp only [Tryz.ntmps129, Tryz.results129, enumA]
  rcases hln : l.length with _ | m
  · repeat' (first | (with_reducible first | refine vseq ?_ | refine vthenN ?_ | refine vthenE ?_ | refine vthenR ?_ | refine vret ?_ | refine vskip ?_ | refine vexit ?_ | refine vblock ?_ | refine vblockN ?_ | refine vblockR ?_ | refine vblockH ?_ | refine vrun_nil ?_ | refine vblockE rfl ?_ | refine vregion [] ?_ | refine vhrun_nil ?_) | ((with_reducible refine vcondT ?_ ?_); (focus (go_simp; done))) | ((with_reducible refine vcondF ?_ ?_); (focus (go_simp; done))) | ((with_reducible first | refine vrun_cons fun KK hKK => ?_ | refine vhrun_cons fun KK hKK => ?_); go_simp; (first | (with_reducible refine ⟨_, h1, ?_⟩) | (with_reducible refine ⟨_, h2, ?_⟩) | (with_reducible refine ⟨_, h5, ?_⟩) | (with_reducible refine ⟨_, b_within _ _ _, ?_⟩) | skip); refine hKK _ ?_; clear hKK KK) | ((refine vdrawL 7 7 [] rfl (by kernel_rfl) (by kernel_rfl) ?_); simp only [List.take, List.drop]) | ((refine vdrawL 22 22 [] rfl (by kernel_rfl) (by kernel_rfl) ?_); simp only [List.append, List.take, List.drop]) | ((with_reducible refine vcondS ?_ (fun ht => ?_) (fun ht => ?_)); (focus (go_simp; done)); (all_goals (simp [go_sem] at ht; replace ht := ht.out))) | ((apply vrun_consG0 rfl); (focus (go_simp <;> exact rfl)); (focus (go_simp; done)); (focus (intro hb0; replace hb0 := hb0.out; go_simp <;> (first | exact rfl | exact h1 | exact h2 | exact h5 | exact b_within _ _ _ | exact ⟨h1, rfl⟩ | exact ⟨h2, rfl⟩ | exact ⟨h5, rfl⟩ | exact ⟨b_within _ _ _, rfl⟩))); intro KK hKK; go_simp; refine hKK _ ?_; clear hKK KK) | ((apply vhrun_consG0 rfl); (focus (go_simp <;> exact rfl)); (focus (intro hb0; replace hb0 := hb0.out; go_simp <;> (first | exact rfl | exact h1 | exact h2 | exact h5 | exact b_within _ _ _ | exact ⟨h1, rfl⟩ | exact ⟨h2, rfl⟩ | exact ⟨h5, rfl⟩ | exact ⟨b_within _ _ _, rfl⟩))); intro KK hKK; go_simp; refine hKK _ ?_; clear hKK KK) | ((apply vrun_consG1 rfl); (focus (go_simp <;> exact rfl)); (focus (go_simp; done)); (focus (intro hb0 hb1; replace hb0 := hb0.out; replace hb1 := hb1.out; go_simp <;> (first | exact rfl | exact h1 | exact h2 | exact h5 | exact b_within _ _ _ | exact ⟨h1, rfl⟩ | exact ⟨h2, rfl⟩ | exact ⟨h5, rfl⟩ | exact ⟨b_within _ _ _, rfl⟩))); intro KK hKK; go_simp; refine hKK _ ?_; clear hKK KK) | ((apply vhrun_consG1 rfl); (focus (go_simp <;> exact rfl)); (focus (intro hb0 hb1; replace hb0 := hb0.out; replace hb1 := hb1.out; go_simp <;> (first | exact rfl | exact h1 | exact h2 | exact h5 | exact b_within _ _ _ | exact ⟨h1, rfl⟩ | exact ⟨h2, rfl⟩ | exact ⟨h5, rfl⟩ | exact ⟨b_within _ _ _, rfl⟩))); intro KK hKK; go_simp; refine hKK _ ?_; clear hKK KK))
    all_goals (go_simp; first | done | (simp_all []; done) | (simp only []; (try intros); (repeat' split) <;> (first | rfl | omega | (simp_all; done) | (simp_all; omega))) | ((try intros); (repeat' split) <;> (first | rfl | omega | (simp_all; done) | (simp_all; omega))))
  · obtain ⟨w1, w2, w3, w4, w5, w6⟩ := ixs (m := m) (by omega)
    have hne : ¬ (m : Int) + 1 = 0 := by omega
    have hm : m < l.length := by omega
    have hem := eat_get hm
    repeat' (first | (with_reducible first | refine vseq ?_ | refine vthenN ?_ | refine vthenE ?_ | refine vthenR ?_ | refine vret ?_ | refine vskip ?_ | refine vexit ?_ | refine vblock ?_ | refine vblockN ?_ | refine vblockR ?_ | refine vblockH ?_ | refine vrun_nil ?_ | refine vblockE rfl ?_ | refine vregion [] ?_ | refine vhrun_nil ?_) | ((with_reducible refine vcondT ?_ ?_); (focus (go_simp; done))) | ((with_reducible refine vcondF ?_ ?_); (focus (go_simp; done))) | ((with_reducible first | refine vrun_cons fun KK hKK => ?_ | refine vhrun_cons fun KK hKK => ?_); go_simp; (first | (with_reducible refine ⟨_, h1, ?_⟩) | (with_reducible refine ⟨_, h2, ?_⟩) | (with_reducible refine ⟨_, h5, ?_⟩) | (with_reducible refine ⟨_, b_within _ _ _, ?_⟩) | (with_reducible refine ⟨_, b_done _, ?_⟩) | skip); refine hKK _ ?_; clear hKK KK) | ((refine vdrawL 7 7 [] rfl (by kernel_rfl) (by kernel_rfl) ?_); simp only [List.take, List.drop]) | ((refine vdrawL 22 22 [] rfl (by kernel_rfl) (by kernel_rfl) ?_); simp only [List.take, List.drop]) | ((with_reducible refine vcondS ?_ (fun ht => ?_) (fun ht => ?_)); (focus (go_simp; done)); (all_goals (simp [go_sem] at ht; replace ht := ht.out))) | ((apply vrun_consG0 rfl); (focus (go_simp <;> exact rfl)); (focus (go_simp; done)); (focus (intro hb0; replace hb0 := hb0.out; go_simp <;> (first | exact rfl | exact h1 | exact h2 | exact h5 | exact b_within _ _ _ | exact b_done _ | exact ⟨h1, rfl⟩ | exact ⟨h2, rfl⟩ | exact ⟨h5, rfl⟩ | exact ⟨b_within _ _ _, rfl⟩ | exact ⟨b_done _, rfl⟩))); intro KK hKK; go_simp; refine hKK _ ?_; clear hKK KK) | ((apply vhrun_consG0 rfl); (focus (go_simp <;> exact rfl)); (focus (intro hb0; replace hb0 := hb0.out; go_simp <;> (first | exact rfl | exact h1 | exact h2 | exact h5 | exact b_within _ _ _ | exact b_done _ | exact ⟨h1, rfl⟩ | exact ⟨h2, rfl⟩ | exact ⟨h5, rfl⟩ | exact ⟨b_within _ _ _, rfl⟩ | exact ⟨b_done _, rfl⟩))); intro KK hKK; go_simp; refine hKK _ ?_; clear hKK KK) | ((apply vrun_consG1 rfl); (focus (go_simp <;> exact rfl)); (focus (go_simp; done)); (focus (intro hb0 hb1; replace hb0 := hb0.out; replace hb1 := hb1.out; go_simp <;> (first | exact rfl | exact h1 | exact h2 | exact h5 | exact b_within _ _ _ | exact b_done _ | exact ⟨h1, rfl⟩ | exact ⟨h2, rfl⟩ | exact ⟨h5, rfl⟩ | exact ⟨b_within _ _ _, rfl⟩ | exact ⟨b_done _, rfl⟩))); intro KK hKK; go_simp; refine hKK _ ?_; clear hKK KK) | ((apply vhrun_consG1 rfl); (focus (go_simp <;> exact rfl)); (focus (intro hb0 hb1; replace hb0 := hb0.out; replace hb1 := hb1.out; go_simp <;> (first | exact rfl | exact h1 | exact h2 | exact h5 | exact b_within _ _ _ | exact b_done _ | exact ⟨h1, rfl⟩ | exact ⟨h2, rfl⟩ | exact ⟨h5, rfl⟩ | exact ⟨b_within _ _ _, rfl⟩ | exact ⟨b_done _, rfl⟩))); intro KK hKK; go_simp; refine hKK _ ?_; clear hKK KK))
    all_goals go_simp
    all_goals clear hem
    all_goals generalize l[m] = z at *
    all_goals clear h1 h2 h5 w1 w2 w3 w4 w5 w6 hne hm hl hln
    all_goals go_simp
    all_goals (try (simp_all []; done))
    all_goals (by_cases hs0 : v.item = x.name)
    all_goals (try (first | (simp_all []; done) | (simp [*]; done)))
    all_goals (cases hs1 : inR v.day 0 100000)
    all_goals (try (first | (simp_all []; done) | (simp [*]; done)))
    all_goals (cases hs2 : inR v.kind 0 4)
    all_goals (try (first | (simp_all []; done) | (simp [*]; done)))
    all_goals (cases hs3 : isName v.frm)
    all_goals (try (first | (simp_all []; done) | (simp [*]; done)))
    all_goals (cases hs4 : isName v.dst)
    all_goals (try (first | (simp_all []; done) | (simp [*]; done)))
    all_goals (by_cases hs5 : v.day < z.day)
    all_goals (try (first | (simp_all []; done) | (simp [*]; done)))
    all_goals (by_cases hs6 : v.kind = 0)
    all_goals (try (first | (simp_all []; done) | (simp [*]; done)))
    all_goals (by_cases hs7 : 2 ≤ z.kind)
    all_goals (try (first | (simp_all []; done) | (simp [*]; done)))
    all_goals (by_cases hs8 : v.frm = z.dst)
    all_goals (try (first | (simp_all []; done) | (simp [*]; done)))
    all_goals (by_cases hs9 : v.kind = 3)
    all_goals (try (first | (simp_all []; done) | (simp [*]; done)))
    all_goals (by_cases hs10 : v.dst = x.who)
    all_goals (try (first | (simp_all []; done) | (simp [*]; done)))
    all_goals (by_cases hs11 : Rt = 2)
    all_goals (try (first | (simp_all []; done) | (simp [*]; done)))
    all_goals (by_cases hs12 : v.kind = 4)
    all_goals (try (first | (simp_all []; done) | (simp [*]; done)))
    all_goals (by_cases hs13 : Rt = 3)
    all_goals (try (first | (simp_all []; done) | (simp [*]; done)))
end Go.Proofs.YthbgghmjbaldlaaGreatDoor

/-! QH: Walks on plain values: chains, right or not; texts of at most 1000 bytes. -/
namespace Go.Proofs.YthbgghmjbaldlaaGreatDoor
open Go.RowKit
set_option maxRecDepth 100000
set_option maxHeartbeats 1000000
@[go_sem] theorem unl_t (e : Int) : unl true e = 0 := rfl
@[go_sem] theorem unl_f (e : Int) : unl false e = e := rfl
@[go_sem] theorem fst_0 (r : List Int) : fst (0 :: r) = fst r := rfl
@[go_sem] theorem fst_nil : fst [] = 0 := rfl
@[go_sem] theorem fst_8 (r : List Int) : fst (8 :: r) = 8 := rfl
theorem fst_zero : ∀ {l : List Int}, fst l = 0 → ∀ a ∈ l, a = 0
  | [], _, a, ha => by cases ha
  | x :: r, h, a, ha => by
    rw [fst] at h
    by_cases hx : x = 0
    · rw [if_neg (by simpa using hx)] at h
      rcases List.mem_cons.1 ha with rfl | ha
      · exact hx
      · exact fst_zero h a ha
    · rw [if_pos hx] at h
      exact absurd h hx
theorem unl_zero {c : Bool} {e : Int} (h : unl c e = 0) (he : e ≠ 0) : c = true := by
  cases c
  · exact absurd h he
  · rfl
theorem nextE_kind {x : Item} {l : List Event} {v : Event} (h : nextE x l v = 0) : inR v.kind 0 4 = true := unl_zero (fst_zero h (unl (inR v.kind 0 4) 15) (by simp)) (by decide)
def SmallL (l : List Event) : Prop := ∀ v ∈ l, SmallE v
theorem take_len {α : Type} {l : List α} {k : Nat} (h : k ≤ l.length) : (l.take k).length = k := by simp; omega
theorem eat_take {l : List Event} {k j : Nat} (h : j < k) : eat (l.take k) j = eat l j := by simp [eat, List.getD, h]
theorem kindOK_take {x : Item} {l : List Event} {k : Nat} (hk : k ≤ l.length) (h : ∀ j, j < k → bad (chainE x l) j = false) : KindOK (l.take k) := by
  intro h0
  rw [take_len hk] at h0 ⊢
  rw [eat_take (by omega)]
  have := nextE_kind (bad_no (h (k - 1) (by omega)))
  exact inR_iff.1 this
theorem p_CheckChain (x : Item) (l : List Event) (hl : l.length ≤ 1000000) (hx : SmallI x) (hs : SmallL l) : VC Tryz.prog 130 [itemA x, eventsA l] (.tup [I (checkChain x l).1, I (checkChain x l).2]) := by
  obtain ⟨R, hR⟩ : ∃ R, checkChain x l = R := ⟨_, rfl⟩
  rw [hR]
  obtain ⟨Rk, Re⟩ := R
  unfold checkChain checkL at hR
  have HR := Lib.hid hR
  have HS := Lib.hid hs
  have h1 := p_CheckItem x hx
  generalize thingErr x = T at *
  clear hR hs hx
  refine VC_of Tryz.func130 rfl (by kernel_rfl) (by kernel_rfl) rfl fun M0 w0 => ?_
  simp only [Tryz.ntmps130, Tryz.results130, enumA]
  by_cases hT : T = 0
  · subst hT
    by_cases h30 : (30 : Int) < l.length
    · have h30' : ¬ (l.length : Int) ≤ 30 := by omega
      repeat' (first | (with_reducible first | refine vseq ?_ | refine vthenN ?_ | refine vthenE ?_ | refine vthenR ?_ | refine vret ?_ | refine vskip ?_ | refine vexit ?_ | refine vblock ?_ | refine vblockN ?_ | refine vblockR ?_ | refine vblockH ?_ | refine vrun_nil ?_ | refine vblockE rfl ?_ | refine vregion [] ?_ | refine vhrun_nil ?_) | ((with_reducible refine vcondT ?_ ?_); (focus (go_simp; done))) | ((with_reducible refine vcondF ?_ ?_); (focus (go_simp; done))) | ((with_reducible first | refine vrun_cons fun KK hKK => ?_ | refine vhrun_cons fun KK hKK => ?_); go_simp; (first | (with_reducible refine ⟨_, h1, ?_⟩) | (with_reducible refine ⟨_, p_unless _ _, ?_⟩) | (refine ⟨_, p_firstA _ rfl rfl, ?_⟩) | skip); refine hKK _ ?_; clear hKK KK) | ((refine vdrawL 9 9 [] rfl (by kernel_rfl) (by kernel_rfl) ?_); simp only [List.append, List.take, List.drop]) | ((with_reducible refine vcondS ?_ (fun ht => ?_) (fun ht => ?_)); (focus (go_simp; done)); (all_goals (simp [go_sem] at ht; replace ht := ht.out))))
      have e := HR.out
      rw [if_neg (by decide), if_pos h30] at e
      injection e with e1 e2
      subst e1 e2
      go_simp
    · have h30' : (l.length : Int) ≤ 30 := by omega
      repeat' (first | (with_reducible first | refine vseq ?_ | refine vthenN ?_ | refine vthenE ?_ | refine vthenR ?_ | refine vret ?_ | refine vskip ?_ | refine vexit ?_ | refine vblock ?_ | refine vblockN ?_ | refine vblockR ?_ | refine vblockH ?_ | refine vrun_nil ?_ | refine vblockE rfl ?_ | refine vregion [] ?_ | refine vhrun_nil ?_) | ((with_reducible refine vcondT ?_ ?_); (focus (go_simp; done))) | ((with_reducible refine vcondF ?_ ?_); (focus (go_simp; done))) | ((with_reducible first | refine vrun_cons fun KK hKK => ?_ | refine vhrun_cons fun KK hKK => ?_); go_simp; (first | (with_reducible refine ⟨_, h1, ?_⟩) | (with_reducible refine ⟨_, p_unless _ _, ?_⟩) | (refine ⟨_, p_firstA _ rfl rfl, ?_⟩) | skip); refine hKK _ ?_; clear hKK KK) | ((refine vdrawL 9 9 [] rfl (by kernel_rfl) (by kernel_rfl) ?_); simp only [List.append, List.take, List.drop]) | ((with_reducible refine vcondS ?_ (fun ht => ?_) (fun ht => ?_)); (focus (go_simp; done)); (all_goals (simp [go_sem] at ht; replace ht := ht.out))))
      apply vfor [1, 2, 21, 22] (fun k => [(23, I k)]) (fun k => ([] : Hp)) (bad (chainE x l)) (l.length)
      · go_simp <;> exact rfl
      · go_simp
      · intro k hk HB HP K hK
        obtain ⟨w1, w2, w3, w4, w5, w6⟩ := ixs (m := k) (by omega)
        have hkl : k ≤ l.length := by omega
        have g := p_next x (l.take k) l[k] (by rw [take_len hkl]; omega) (HS.out _ (List.getElem_mem hk))
        have e := bad_no HP.out
        unfold chainE at e
        rw [eat_get hk] at e
        rw [e, chainA, List.map_take] at g
        have G := Lib.hid g
        clear g e
        repeat' (first | (with_reducible first | refine vseq ?_ | refine vthenN ?_ | refine vthenE ?_ | refine vthenR ?_ | refine vret ?_ | refine vskip ?_ | refine vexit ?_ | refine vblock ?_ | refine vblockN ?_ | refine vblockR ?_ | refine vblockH ?_ | refine vrun_nil ?_ | refine vblockE rfl ?_ | refine vregion [] ?_ | refine vhrun_nil ?_) | ((with_reducible refine vcondT ?_ ?_); (focus (go_simp; done))) | ((with_reducible refine vcondF ?_ ?_); (focus (go_simp; done))) | ((with_reducible first | refine vrun_cons fun KK hKK => ?_ | refine vhrun_cons fun KK hKK => ?_); go_simp; (first | (refine ⟨_, G.out, ?_⟩) | skip); refine hKK _ ?_; clear hKK KK) | ((refine vdrawL 9 9 [] rfl (by kernel_rfl) (by kernel_rfl) ?_); simp only [List.take, List.drop]) | ((with_reducible refine vcondS ?_ (fun ht => ?_) (fun ht => ?_)); (focus (go_simp; done)); (all_goals (simp [go_sem] at ht; replace ht := ht.out))))
        refine hK _ ?_
        go_simp
      · intro k hk HB HP K
        have hkl : k ≤ l.length := by omega
        have g := p_next x (l.take k) l[k] (by rw [take_len hkl]; omega) (HS.out _ (List.getElem_mem hk))
        have e := HR.out
        rw [if_neg (by decide), if_neg (by omega), firstErr_hit hk HB.out HP.out] at e
        injection e with e1 e2
        have hne := bad_yes HP.out
        rw [e2] at hne
        unfold chainE at e2
        rw [eat_get hk] at e2
        rw [e2, chainA, List.map_take] at g
        have G := Lib.hid g
        subst e1
        clear g e2
        repeat' (first | (with_reducible first | refine vseq ?_ | refine vthenN ?_ | refine vthenE ?_ | refine vthenR ?_ | refine vret ?_ | refine vskip ?_ | refine vexit ?_ | refine vblock ?_ | refine vblockN ?_ | refine vblockR ?_ | refine vblockH ?_ | refine vrun_nil ?_ | refine vblockE rfl ?_ | refine vregion [] ?_ | refine vhrun_nil ?_) | ((with_reducible refine vcondT ?_ ?_); (focus (go_simp; done))) | ((with_reducible refine vcondF ?_ ?_); (focus (go_simp; done))) | ((with_reducible first | refine vrun_cons fun KK hKK => ?_ | refine vhrun_cons fun KK hKK => ?_); go_simp; (first | (refine ⟨_, G.out, ?_⟩) | skip); refine hKK _ ?_; clear hKK KK) | ((refine vdrawL 9 9 [] rfl (by kernel_rfl) (by kernel_rfl) ?_); simp only [List.take, List.drop]) | ((with_reducible refine vcondS ?_ (fun ht => ?_) (fun ht => ?_)); (focus (go_simp; done)); (all_goals (simp [go_sem] at ht; replace ht := ht.out))))
        go_simp
      · intro HB K
        have e := HR.out
        rw [if_neg (by decide), if_neg (by omega), firstErr_out HB.out] at e
        injection e with e1 e2
        subst e1 e2
        repeat (first | (with_reducible first | refine vseq ?_ | refine vthenN ?_ | refine vthenE ?_ | refine vthenR ?_ | refine vret ?_ | refine vskip ?_ | refine vexit ?_ | refine vblock ?_ | refine vblockN ?_ | refine vblockR ?_ | refine vblockH ?_ | refine vrun_nil ?_ | refine vblockE rfl ?_ | refine vregion [] ?_ | refine vhrun_nil ?_) | ((with_reducible refine vcondT ?_ ?_); (focus (go_simp; done))) | ((with_reducible refine vcondF ?_ ?_); (focus (go_simp; done))) | ((with_reducible first | refine vrun_cons fun KK hKK => ?_ | refine vhrun_cons fun KK hKK => ?_); go_simp; refine hKK _ ?_; clear hKK KK) | ((refine vdrawL 9 9 [] rfl (by kernel_rfl) (by kernel_rfl) ?_); simp only [List.append, List.take, List.drop]))
        go_simp
  · have hf : ∀ a, fst [T, a] = T := fun a => by simp [fst, hT]
    repeat' (first | (with_reducible first | refine vseq ?_ | refine vthenN ?_ | refine vthenE ?_ | refine vthenR ?_ | refine vret ?_ | refine vskip ?_ | refine vexit ?_ | refine vblock ?_ | refine vblockN ?_ | refine vblockR ?_ | refine vblockH ?_ | refine vrun_nil ?_ | refine vblockE rfl ?_ | refine vregion [] ?_ | refine vhrun_nil ?_) | ((with_reducible refine vcondT ?_ ?_); (focus (go_simp; done))) | ((with_reducible refine vcondF ?_ ?_); (focus (go_simp; done))) | ((with_reducible first | refine vrun_cons fun KK hKK => ?_ | refine vhrun_cons fun KK hKK => ?_); go_simp; (first | (with_reducible refine ⟨_, h1, ?_⟩) | (with_reducible refine ⟨_, p_unless _ _, ?_⟩) | (refine ⟨_, p_firstA _ rfl rfl, ?_⟩) | skip); refine hKK _ ?_; clear hKK KK) | ((refine vdrawL 9 9 [] rfl (by kernel_rfl) (by kernel_rfl) ?_); simp only [List.append, List.take, List.drop]) | ((with_reducible refine vcondS ?_ (fun ht => ?_) (fun ht => ?_)); (focus (go_simp; done)); (all_goals (simp [go_sem] at ht; replace ht := ht.out))))
    have e := HR.out
    rw [if_pos hT] at e
    injection e with e1 e2
    subst e1 e2
    go_simp
theorem r_CheckChain (x : Item) (l : List Event) (hl : l.length ≤ 1000000) (hx : SmallI x) (hs : SmallL l) : VC Tryz.prog 94 [itemA x, eventsA l] (.tup [I (checkChain x l).1, I (checkChain x l).2]) := by
  obtain ⟨R, hR⟩ : ∃ R, checkChain x l = R := ⟨_, rfl⟩
  rw [hR]
  obtain ⟨Rk, Re⟩ := R
  unfold checkChain checkL at hR
  have HR := Lib.hid hR
  have HS := Lib.hid hs
  have h1 := r_CheckItem x hx
  generalize thingErr x = T at *
  clear hR hs hx
  refine VC_of Tryz.func94 rfl (by kernel_rfl) (by kernel_rfl) rfl fun M0 w0 => ?_
  simp only [Tryz.ntmps94, Tryz.results94, enumA]
  by_cases hT : T = 0
  · subst hT
    by_cases h30 : (30 : Int) < l.length
    · repeat' (first | (with_reducible first | refine vseq ?_ | refine vthenN ?_ | refine vthenE ?_ | refine vthenR ?_ | refine vret ?_ | refine vskip ?_ | refine vexit ?_ | refine vblock ?_ | refine vblockN ?_ | refine vblockR ?_ | refine vblockH ?_ | refine vrun_nil ?_ | refine vblockE rfl ?_ | refine vregion [] ?_ | refine vhrun_nil ?_) | ((with_reducible refine vcondT ?_ ?_); (focus (go_simp; done))) | ((with_reducible refine vcondF ?_ ?_); (focus (go_simp; done))) | ((with_reducible first | refine vrun_cons fun KK hKK => ?_ | refine vhrun_cons fun KK hKK => ?_); go_simp; (first | (with_reducible refine ⟨_, h1, ?_⟩) | skip); refine hKK _ ?_; clear hKK KK) | ((refine vdrawL 10 10 [] rfl (by kernel_rfl) (by kernel_rfl) ?_); simp only [List.append, List.take, List.drop]) | ((with_reducible refine vcondS ?_ (fun ht => ?_) (fun ht => ?_)); (focus (go_simp; done)); (all_goals (simp [go_sem] at ht; replace ht := ht.out))))
      have e := HR.out
      rw [if_neg (by decide), if_pos h30] at e
      injection e with e1 e2
      subst e1 e2
      go_simp
    · repeat' (first | (with_reducible first | refine vseq ?_ | refine vthenN ?_ | refine vthenE ?_ | refine vthenR ?_ | refine vret ?_ | refine vskip ?_ | refine vexit ?_ | refine vblock ?_ | refine vblockN ?_ | refine vblockR ?_ | refine vblockH ?_ | refine vrun_nil ?_ | refine vblockE rfl ?_ | refine vregion [] ?_ | refine vhrun_nil ?_) | ((with_reducible refine vcondT ?_ ?_); (focus (go_simp; done))) | ((with_reducible refine vcondF ?_ ?_); (focus (go_simp; done))) | ((with_reducible first | refine vrun_cons fun KK hKK => ?_ | refine vhrun_cons fun KK hKK => ?_); go_simp; (first | (with_reducible refine ⟨_, h1, ?_⟩) | skip); refine hKK _ ?_; clear hKK KK) | ((refine vdrawL 10 10 [] rfl (by kernel_rfl) (by kernel_rfl) ?_); simp only [List.append, List.take, List.drop]) | ((with_reducible refine vcondS ?_ (fun ht => ?_) (fun ht => ?_)); (focus (go_simp; done)); (all_goals (simp [go_sem] at ht; replace ht := ht.out))))
      apply vfor [1, 2] (fun k => [(7, I k)]) (fun k => ([] : Hp)) (bad (chainE x l)) (l.length)
      · go_simp <;> exact rfl
      · go_simp
      · intro k hk HB HP K hK
        obtain ⟨w1, w2, w3, w4, w5, w6⟩ := ixs (m := k) (by omega)
        have hkl : k ≤ l.length := by omega
        have g := r_eventErr x (l.take k) l[k] (by rw [take_len hkl]; omega) (HS.out _ (List.getElem_mem hk))
        rw [evR_eq (kindOK_take hkl HB.out)] at g
        have e := bad_no HP.out
        unfold chainE at e
        rw [eat_get hk] at e
        rw [e, eventsA, List.map_take] at g
        have G := Lib.hid g
        clear g e
        repeat' (first | (with_reducible first | refine vseq ?_ | refine vthenN ?_ | refine vthenE ?_ | refine vthenR ?_ | refine vret ?_ | refine vskip ?_ | refine vexit ?_ | refine vblock ?_ | refine vblockN ?_ | refine vblockR ?_ | refine vblockH ?_ | refine vrun_nil ?_ | refine vblockE rfl ?_ | refine vregion [] ?_ | refine vhrun_nil ?_) | ((with_reducible refine vcondT ?_ ?_); (focus (go_simp; done))) | ((with_reducible refine vcondF ?_ ?_); (focus (go_simp; done))) | ((with_reducible first | refine vrun_cons fun KK hKK => ?_ | refine vhrun_cons fun KK hKK => ?_); go_simp; (first | (refine ⟨_, G.out, ?_⟩) | skip); refine hKK _ ?_; clear hKK KK) | ((refine vdrawL 10 10 [] rfl (by kernel_rfl) (by kernel_rfl) ?_); simp only [List.take, List.drop]) | ((with_reducible refine vcondS ?_ (fun ht => ?_) (fun ht => ?_)); (focus (go_simp; done)); (all_goals (simp [go_sem] at ht; replace ht := ht.out))))
        refine hK _ ?_
        go_simp
      · intro k hk HB HP K
        have hkl : k ≤ l.length := by omega
        have g := r_eventErr x (l.take k) l[k] (by rw [take_len hkl]; omega) (HS.out _ (List.getElem_mem hk))
        rw [evR_eq (kindOK_take hkl HB.out)] at g
        have e := HR.out
        rw [if_neg (by decide), if_neg (by omega), firstErr_hit hk HB.out HP.out] at e
        injection e with e1 e2
        have hne := bad_yes HP.out
        rw [e2] at hne
        unfold chainE at e2
        rw [eat_get hk] at e2
        rw [e2, eventsA, List.map_take] at g
        have G := Lib.hid g
        subst e1
        clear g e2
        repeat' (first | (with_reducible first | refine vseq ?_ | refine vthenN ?_ | refine vthenE ?_ | refine vthenR ?_ | refine vret ?_ | refine vskip ?_ | refine vexit ?_ | refine vblock ?_ | refine vblockN ?_ | refine vblockR ?_ | refine vblockH ?_ | refine vrun_nil ?_ | refine vblockE rfl ?_ | refine vregion [] ?_ | refine vhrun_nil ?_) | ((with_reducible refine vcondT ?_ ?_); (focus (go_simp; done))) | ((with_reducible refine vcondF ?_ ?_); (focus (go_simp; done))) | ((with_reducible first | refine vrun_cons fun KK hKK => ?_ | refine vhrun_cons fun KK hKK => ?_); go_simp; (first | (refine ⟨_, G.out, ?_⟩) | skip); refine hKK _ ?_; clear hKK KK) | ((refine vdrawL 10 10 [] rfl (by kernel_rfl) (by kernel_rfl) ?_); simp only [List.take, List.drop]) | ((with_reducible refine vcondS ?_ (fun ht => ?_) (fun ht => ?_)); (focus (go_simp; done)); (all_goals (simp [go_sem] at ht; replace ht := ht.out))))
        go_simp
      · intro HB K
        have e := HR.out
        rw [if_neg (by decide), if_neg (by omega), firstErr_out HB.out] at e
        injection e with e1 e2
        subst e1 e2
        repeat (first | (with_reducible first | refine vseq ?_ | refine vthenN ?_ | refine vthenE ?_ | refine vthenR ?_ | refine vret ?_ | refine vskip ?_ | refine vexit ?_ | refine vblock ?_ | refine vblockN ?_ | refine vblockR ?_ | refine vblockH ?_ | refine vrun_nil ?_ | refine vblockE rfl ?_ | refine vregion [] ?_ | refine vhrun_nil ?_) | ((with_reducible refine vcondT ?_ ?_); (focus (go_simp; done))) | ((with_reducible refine vcondF ?_ ?_); (focus (go_simp; done))) | ((with_reducible first | refine vrun_cons fun KK hKK => ?_ | refine vhrun_cons fun KK hKK => ?_); go_simp; refine hKK _ ?_; clear hKK KK) | ((refine vdrawL 10 10 [] rfl (by kernel_rfl) (by kernel_rfl) ?_); simp only [List.append, List.take, List.drop]))
        go_simp
  · repeat' (first | (with_reducible first | refine vseq ?_ | refine vthenN ?_ | refine vthenE ?_ | refine vthenR ?_ | refine vret ?_ | refine vskip ?_ | refine vexit ?_ | refine vblock ?_ | refine vblockN ?_ | refine vblockR ?_ | refine vblockH ?_ | refine vrun_nil ?_ | refine vblockE rfl ?_ | refine vregion [] ?_ | refine vhrun_nil ?_) | ((with_reducible refine vcondT ?_ ?_); (focus (go_simp; done))) | ((with_reducible refine vcondF ?_ ?_); (focus (go_simp; done))) | ((with_reducible first | refine vrun_cons fun KK hKK => ?_ | refine vhrun_cons fun KK hKK => ?_); go_simp; (first | (with_reducible refine ⟨_, h1, ?_⟩) | skip); refine hKK _ ?_; clear hKK KK) | ((refine vdrawL 10 10 [] rfl (by kernel_rfl) (by kernel_rfl) ?_); simp only [List.append, List.take, List.drop]) | ((with_reducible refine vcondS ?_ (fun ht => ?_) (fun ht => ?_)); (focus (go_simp; done)); (all_goals (simp [go_sem] at ht; replace ht := ht.out))))
    have e := HR.out
    rw [if_pos hT] at e
    injection e with e1 e2
    subst e1 e2
    go_simp
end Go.Proofs.YthbgghmjbaldlaaGreatDoor
