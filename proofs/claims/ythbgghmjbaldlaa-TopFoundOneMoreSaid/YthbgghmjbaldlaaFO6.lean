/- Texts in one: Chapter 9: what its functions compute, as plain functions; no condition. -/
import Derived.Test.YthbgghmjbaldlaaFO5
import Derived.Test.YthbgghmjbaldlaaFO4
/-! P9: Chapter 9: what its functions compute, as plain functions; no condition. -/
namespace Go.Proofs.Ythbgghmjbaldlaa
open Go.RowKit
/-- A mark. -/
structure Mark where
  key : ByteArray
  value : ByteArray
instance : Inhabited Mark := ⟨⟨ByteArray.empty, ByteArray.empty⟩⟩
@[go_sem] def Mark.av (m : Mark) : List AV := [S m.key, S m.value]
abbrev marksA (l : List Mark) : AV := .sl 2 (l.map Mark.av)
def mat (l : List Mark) (k : Nat) : Mark := l.getD k default
theorem mat_get {l : List Mark} {k : Nat} (h : k < l.length) : mat l k = l[k] := by simp [mat, h]
/-- An item, or a claim. -/
structure Item where
  name : ByteArray
  day : Int
  who : ByteArray
  marks : List Mark
instance : Inhabited Item := ⟨⟨ByteArray.empty, 0, ByteArray.empty, []⟩⟩
@[go_sem] def Item.av (x : Item) : List AV := [S x.name, I x.day, S x.who, .sl 2 (x.marks.map Mark.av)]
abbrev itemA (x : Item) : AV := .agg [S x.name, I x.day, S x.who, .sl 2 (x.marks.map Mark.av)]
abbrev itemsA (l : List Item) : AV := .sl 4 (l.map Item.av)
def xat (l : List Item) (k : Nat) : Item := l.getD k default
theorem xat_get {l : List Item} {k : Nat} (h : k < l.length) : xat l k = l[k] := by simp [xat, h]
/-- An event. -/
structure Event where
  item : ByteArray
  day : Int
  kind : Int
  frm : ByteArray
  dst : ByteArray
instance : Inhabited Event := ⟨⟨ByteArray.empty, 0, 0, ByteArray.empty, ByteArray.empty⟩⟩
@[go_sem] def Event.av (x : Event) : List AV := [S x.item, I x.day, I x.kind, S x.frm, S x.dst]
abbrev eventsA (l : List Event) : AV := .sl 5 (l.map Event.av)
def eat (l : List Event) (k : Nat) : Event := l.getD k default
theorem eat_get {l : List Event} {k : Nat} (h : k < l.length) : eat l k = l[k] := by simp [eat, h]
/-- An item with its events. -/
abbrev chainA (x : Item) (l : List Event) : AV := .agg [S x.name, I x.day, S x.who, .sl 2 (x.marks.map Mark.av), .sl 5 (l.map Event.av)]
structure Kept where
  item : Item
  events : List Event
instance : Inhabited Kept := ⟨⟨default, []⟩⟩
@[go_sem] def Kept.av (x : Kept) : List AV := [S x.item.name, I x.item.day, S x.item.who, .sl 2 (x.item.marks.map Mark.av), .sl 5 (x.events.map Event.av)]
abbrev intsA (l : List Int) : AV := .sl 1 (l.map intA)
abbrev txtsA (l : List ByteArray) : AV := .sl 1 (l.map txtA)
abbrev nil_ : AV := .lit (.slice none 0 0)

/-- Small numbers behind one another. -/
theorem ixs {m : Nat} (h : m ≤ 1000000000) : IntKind.i64.wrap (m : Int) = m ∧ IntKind.i64.wrap ((m : Int) + 1) = m + 1 ∧ ((m : Int) + 1).toNat = m + 1 ∧ (0 : Int) ≤ (m : Int) + 1 ∧ (0 : Int) < (m : Int) + 1 ∧ IntKind.i64.wrap ((m : Int) + 1 + 1) = m + 1 + 1 :=
  ⟨wrap_eq (by omega) (by omega), wrap_eq (by omega) (by omega), by omega, by omega, by omega, wrap_eq (by omega) (by omega)⟩
theorem wrap1 : IntKind.i64.wrap 1 = 1 := rfl
attribute [go_sem] wrap1
theorem ite0 (e : Int) : (if e = 0 then 0 else e) = e := by split <;> simp_all
/-! ### Sizes -/
def SmallM (l : List Mark) : Prop := ∀ m ∈ l, m.key.size ≤ 1000 ∧ m.value.size ≤ 1000
theorem SmallM.at_ {l : List Mark} (h : SmallM l) {k : Nat} (hk : k < l.length) : l[k].key.size ≤ 1000 ∧ l[k].value.size ≤ 1000 := h _ (List.getElem_mem hk)
structure SmallI (x : Item) : Prop where
  name : x.name.size ≤ 1000
  who : x.who.size ≤ 1000
  few : x.marks.length ≤ 1000
  marks : SmallM x.marks
structure SmallE (x : Event) : Prop where
  item : x.item.size ≤ 1000
  frm : x.frm.size ≤ 1000
  dst : x.dst.size ≤ 1000
/-- Sizes as large as any. -/
structure BigI (x : Item) : Prop where
  name : x.name.size ≤ 9223372036854775807
  who : x.who.size ≤ 9223372036854775807
  few : x.marks.length ≤ 9223372036854775807
  marks : ∀ m ∈ x.marks, m.key.size ≤ 9223372036854775807 ∧ m.value.size ≤ 9223372036854775807
structure BigE (x : Event) : Prop where
  item : x.item.size ≤ 9223372036854775807
  frm : x.frm.size ≤ 9223372036854775807
  dst : x.dst.size ≤ 9223372036854775807

/-! ### Marks, items, claims -/
/-- A text behind another one. -/
def gtB (a b : ByteArray) : Bool := !Op.bytesLess a.toList b.toList && !decide (a = b)
/-- The error of mark number k. -/
def markE (l : List Mark) (k : Nat) : Int := fst [unl (isName (mat l k).key && isName (mat l k).value) 4, unl (decide (k = 0) || gtB (mat l k).key (mat l (k - 1)).key) 9]
def checkMarks (l : List Mark) : Nat × Int := checkL l.length 8 (markE l)
def bef (l : List Mark) (k : Nat) : ByteArray := if k = 0 then ⟨#[]⟩ else (mat l (k - 1)).key
def thingErr (x : Item) : Int := fst [unl (isName x.name && isName x.who) 4, unl (isDate x.day) 2, (checkMarks x.marks).2]
/-- The value of the last of the first n marks of a key. -/
def valTo (l : List Mark) (key : ByteArray) : Nat → Option ByteArray
  | 0 => none
  | n + 1 => if (mat l n).key = key then some (mat l n).value else valTo l key n
def valOf (l : List Mark) (key : ByteArray) : Option ByteArray := valTo l key l.length
/-- In how many of the first n keys marks agree, and in how many they differ. -/
def agrTo (a b : List Mark) : Nat → Int × Int
  | 0 => (0, 0)
  | n + 1 => match valOf a (mat b n).key with
    | none => agrTo a b n
    | some v => if v = (mat b n).value then ((agrTo a b n).1 + 1, (agrTo a b n).2) else ((agrTo a b n).1, (agrTo a b n).2 + 1)
def agr (a b : List Mark) : Int × Int := agrTo a b b.length
def canBe (x c : Item) : Bool := decide (x.day ≥ c.day - 3) && decide ((agr x.marks c.marks).2 = 0) && decide ((agr x.marks c.marks).1 ≥ 2)
/-- The numbers below n for which p holds. -/
def numF (p : Nat → Bool) : Nat → List Int
  | 0 => []
  | n + 1 => if p n then numF p n ++ [(n : Int)] else numF p n
def cands (l : List Item) (c : Item) : List Int := numF (fun k => canBe (xat l k) c) l.length
/-- Whether some number from k on, n of them, has p. -/
def anyP (p : Nat → Bool) : Nat → Nat → Bool
  | _, 0 => false
  | k, n + 1 => p k || anyP p (k + 1) n
theorem anyP_iff {p : Nat → Bool} : ∀ {n k : Nat}, anyP p k n = true ↔ ∃ j, k ≤ j ∧ j < k + n ∧ p j = true
  | 0, k => by
    simp only [anyP, Bool.false_eq_true, false_iff]
    rintro ⟨j, h1, h2, _⟩
    omega
  | n + 1, k => by
    rw [anyP, Bool.or_eq_true, anyP_iff]
    constructor
    · rintro (h | ⟨j, h1, h2, h3⟩)
      · exact ⟨k, Nat.le_refl _, by omega, h⟩
      · exact ⟨j, by omega, by omega, h3⟩
    · rintro ⟨j, h1, h2, h3⟩
      by_cases hj : j = k
      · subst hj
        exact .inl h3
      · exact .inr ⟨j, by omega, by omega, h3⟩
/-- The first number from k on, n of them, that has p; -1: none. -/
def ixP (p : Nat → Bool) : Nat → Nat → Int
  | _, 0 => -1
  | k, n + 1 => if p k then (k : Int) else ixP p (k + 1) n
theorem ixP_any {p : Nat → Bool} : ∀ (n k : Nat), decide (0 ≤ ixP p k n) = anyP p k n
  | 0, k => by simp [ixP, anyP]
  | n + 1, k => by
    rw [ixP, anyP]
    by_cases h : p k
    · rw [if_pos h, h]
      simp
    · rw [if_neg h, ixP_any n (k + 1)]
      simp [h]
theorem anyP_hit {p : Nat → Bool} {k n : Nat} (hk : k < n) (h : p k = true) : anyP p 0 n = true := anyP_iff.2 ⟨k, Nat.zero_le _, by omega, h⟩
theorem anyP_out {p : Nat → Bool} {n : Nat} (h : ∀ j, j < n → p j = false) : anyP p 0 n = false := by
  cases ha : anyP p 0 n
  · rfl
  · obtain ⟨j, _, hj, hp⟩ := anyP_iff.1 ha
    rw [h j (by omega)] at hp
    cases hp
theorem ixP_hitF {p : Nat → Bool} {k : Nat} (h : p k = true) : ∀ (n a : Nat), a ≤ k → k < a + n → (∀ j, a ≤ j → j < k → p j = false) → ixP p a n = k
  | 0, a, h1, h2, _ => by omega
  | n + 1, a, h1, h2, hb => by
    rw [ixP]
    by_cases he : a = k
    · subst he
      rw [if_pos h]
    · rw [if_neg (by rw [hb a (Nat.le_refl _) (by omega)]; decide)]
      exact ixP_hitF h n (a + 1) (by omega) (by omega) fun j h1 h2 => hb j (by omega) h2
theorem ixP_hit {p : Nat → Bool} {k n : Nat} (hk : k < n) (hb : ∀ j, j < k → p j = false) (h : p k = true) : ixP p 0 n = k := ixP_hitF h n 0 (Nat.zero_le _) (by omega) fun j _ hj => hb j hj
theorem ixP_outF {p : Nat → Bool} : ∀ (n a : Nat), (∀ j, a ≤ j → j < a + n → p j = false) → ixP p a n = -1
  | 0, _, _ => rfl
  | n + 1, a, h => by
    rw [ixP, if_neg (by rw [h a (Nat.le_refl _) (by omega)]; decide)]
    exact ixP_outF n (a + 1) fun j h1 h2 => h j (by omega) (by omega)
theorem ixP_out {p : Nat → Bool} {n : Nat} (h : ∀ j, j < n → p j = false) : ixP p 0 n = -1 := ixP_outF n 0 fun j _ hj => h j (by omega)
theorem firstErr_hitF {E : Nat → Int} {k : Nat} (h : E k ≠ 0) : ∀ (n a : Nat), a ≤ k → k < a + n → (∀ j, a ≤ j → j < k → E j = 0) → firstErr E a n = (k, E k)
  | 0, a, h1, h2, _ => by omega
  | n + 1, a, h1, h2, hb => by
    rw [firstErr]
    by_cases he : a = k
    · subst he
      rw [if_pos h]
    · rw [if_neg (by rw [hb a (Nat.le_refl _) (by omega)]; decide)]
      exact firstErr_hitF h n (a + 1) (by omega) (by omega) fun j h1 h2 => hb j (by omega) h2
/-- Whether number k is wrong. -/
def bad (E : Nat → Int) (k : Nat) : Bool := decide (E k ≠ 0)
theorem bad_no {E : Nat → Int} {k : Nat} (h : bad E k = false) : E k = 0 := by simpa [bad] using h
theorem bad_yes {E : Nat → Int} {k : Nat} (h : bad E k = true) : E k ≠ 0 := by simpa [bad] using h
theorem firstErr_hit {E : Nat → Int} {k n : Nat} (hk : k < n) (hb : ∀ j, j < k → bad E j = false) (h : bad E k = true) : firstErr E 0 n = (k, E k) := firstErr_hitF (bad_yes h) n 0 (Nat.zero_le _) (by omega) fun j _ hj => bad_no (hb j hj)
theorem firstErr_outF {E : Nat → Int} : ∀ (n a : Nat), (∀ j, a ≤ j → j < a + n → E j = 0) → firstErr E a n = (0, 0)
  | 0, _, _ => rfl
  | n + 1, a, h => by
    rw [firstErr, if_neg (by rw [h a (Nat.le_refl _) (by omega)]; decide)]
    exact firstErr_outF n (a + 1) fun j h1 h2 => h j (by omega) (by omega)
theorem firstErr_out {E : Nat → Int} {n : Nat} (h : ∀ j, j < n → bad E j = false) : firstErr E 0 n = (0, 0) := firstErr_outF n 0 fun j _ hj => bad_no (h j (by omega))
/-- The error of items, or claims. -/
def listE (l : List Item) (k : Nat) : Int := fst [thingErr (xat l k), unl (!anyP (fun j => decide ((xat l j).name = (xat l k).name)) 0 k) 5]
def itemsErr (l : List Item) : Int := (checkL l.length 12 (listE l)).2

/-! ### Chains -/
def holder (x : Item) (l : List Event) : ByteArray := if l.length = 0 then x.who else (eat l (l.length - 1)).dst
def state (l : List Event) : Int := if l.length = 0 then 0 else if (eat l (l.length - 1)).kind = 2 then 2 else if (eat l (l.length - 1)).kind = 3 then 3 else if (eat l (l.length - 1)).kind = 4 then 4 else 1
def isDone (l : List Event) : Bool := !(decide (state l = 0) || decide (state l = 1))
def since (l : List Event) (day : Int) : Int := IntKind.i64.wrap (day - (eat l 0).day)
def right (l : List Event) (day : Int) : Int := if isDone l then 0 else if state l = 0 then 1 else if since l day ≤ 180 then 1 else if since l day ≤ 210 then 2 else 3
def lastDay (x : Item) (l : List Event) : Int := if l.length = 0 then x.day else (eat l (l.length - 1)).day
def nextE (x : Item) (l : List Event) (v : Event) : Int := fst [unl (decide (v.item = x.name)) 6, unl (isDate v.day) 2, unl (inR v.kind 0 4) 15, unl (isName v.frm && isName v.dst) 4, unl (decide (lastDay x l ≤ v.day)) 9,
  unl ((decide (v.kind = 0) == decide (l.length = 0)) && !isDone l) 22, unl (decide (v.frm = holder x l)) 13, unl (decide (v.kind ≠ 3) || decide (v.dst = x.who)) 18,
  unl (if v.kind = 3 then decide (right l v.day = 2) else if v.kind = 4 then decide (right l v.day = 3) else true) 25]
def chainE (x : Item) (l : List Event) (k : Nat) : Int := nextE x (l.take k) (eat l k)
def checkChain (x : Item) (l : List Event) : Nat × Int := if thingErr x ≠ 0 then (0, thingErr x) else checkL l.length 30 (chainE x l)
/-- How many events there are up to the end of a day. -/
def upTo (l : List Event) (day : Int) : Nat → Nat → Nat
  | k, 0 => k
  | k, n + 1 => if (eat l k).day ≤ day then upTo l day (k + 1) n else k
def untilL (l : List Event) (day : Int) : List Event := l.take (upTo l day 0 l.length)
def atErr (x : Item) (l : List Event) (day : Int) : Int := fst [(checkChain x l).2, unl (inR day x.day 100000) 2]
end Go.Proofs.Ythbgghmjbaldlaa

/-! P9b: Chapter 9: in how many keys marks agree: the plain law; no program in sight. -/
namespace Go.Proofs.Ythbgghmjbaldlaa
open Go.RowKit
/-- The map of the first n marks. -/
def mapTo (l : List Mark) : Nat → List (Value × Value)
  | 0 => []
  | n + 1 => updK (.string (mat l n).key) (.string (mat l n).value) (mapTo l n)
theorem same_str {a : ByteArray} {k : Value} (h : sameKey (.string a) k = true) : k = .string a := by
  cases k <;> simp [sameKey] at h
  rw [h]
theorem find_upd (a b : ByteArray) (v : Value) : ∀ m, findK (.string a) (updK (.string b) v m) = if a = b then some v else findK (.string a) m
  | [] => by
    simp only [updK, findK]
    by_cases h : a = b <;> simp [sameKey, h]
  | (k, u) :: r => by
    have ih := find_upd a b v r
    simp only [updK]
    by_cases hb : sameKey (.string b) k = true
    · have := same_str hb
      subst this
      rw [if_pos hb]
      simp only [findK]
      by_cases h : a = b <;> simp [sameKey, h]
    · rw [if_neg hb]
      simp only [findK]
      rw [ih]
      by_cases h : a = b
      · subst h
        simp [hb]
      · simp [h]
theorem find_map (l : List Mark) (key : ByteArray) : ∀ n, findK (.string key) (mapTo l n) = (valTo l key n).map .string
  | 0 => rfl
  | n + 1 => by
    rw [mapTo, find_upd, find_map l key n, valTo]
    by_cases h : (mat l n).key = key
    · rw [if_pos h.symm, if_pos h]; rfl
    · rw [if_neg (fun e => h e.symm), if_neg h]
theorem agrTo_le (a b : List Mark) : ∀ n, 0 ≤ (agrTo a b n).1 ∧ 0 ≤ (agrTo a b n).2 ∧ (agrTo a b n).1 + (agrTo a b n).2 ≤ n
  | 0 => by simp [agrTo]
  | n + 1 => by
    have := agrTo_le a b n
    rw [agrTo]
    split
    · omega
    · split <;> simp only <;> omega
theorem agrTo_none {a b : List Mark} {n : Nat} (h : valOf a (mat b n).key = none) : agrTo a b (n + 1) = agrTo a b n := by rw [agrTo, h]
theorem agrTo_eq {a b : List Mark} {n : Nat} {v : ByteArray} (h : valOf a (mat b n).key = some v) (hv : v = (mat b n).value) : agrTo a b (n + 1) = ((agrTo a b n).1 + 1, (agrTo a b n).2) := by rw [agrTo, h]; simp only; rw [if_pos hv]
theorem agrTo_ne {a b : List Mark} {n : Nat} {v : ByteArray} (h : valOf a (mat b n).key = some v) (hv : ¬ v = (mat b n).value) : agrTo a b (n + 1) = ((agrTo a b n).1, (agrTo a b n).2 + 1) := by rw [agrTo, h]; simp only; rw [if_neg hv]
@[go_sem] theorem mapTo_0 (l : List Mark) : mapTo l 0 = [] := rfl
@[go_sem] theorem agrTo_0 (a b : List Mark) : agrTo a b 0 = (0, 0) := rfl
/-! ### Pair by pair -/
def sum1 (f : Nat → Int) : Nat → Int
  | 0 => 0
  | n + 1 => sum1 f n + f n
def eqC (m n : Mark) : Int := if m.key = n.key ∧ m.value = n.value then 1 else 0
def neC (m n : Mark) : Int := if m.key = n.key ∧ ¬ m.value = n.value then 1 else 0
def row1 (a b : List Mark) (i : Nat) : Nat → Int := sum1 fun k => eqC (mat a i) (mat b k)
def row2 (a b : List Mark) (i : Nat) : Nat → Int := sum1 fun k => neC (mat a i) (mat b k)
def sq1 (a b : List Mark) : Nat → Int := sum1 fun i => row1 a b i b.length
def sq2 (a b : List Mark) : Nat → Int := sum1 fun i => row2 a b i b.length
@[go_sem] theorem row1_0 (a b : List Mark) (i : Nat) : row1 a b i 0 = 0 := rfl
@[go_sem] theorem row2_0 (a b : List Mark) (i : Nat) : row2 a b i 0 = 0 := rfl
@[go_sem] theorem sq1_0 (a b : List Mark) : sq1 a b 0 = 0 := rfl
@[go_sem] theorem sq2_0 (a b : List Mark) : sq2 a b 0 = 0 := rfl
/-- No key stands twice. -/
def Keys (l : List Mark) : Prop := ∀ i j, i < j → j < l.length → (mat l i).key ≠ (mat l j).key
end Go.Proofs.Ythbgghmjbaldlaa

/-! P9c: Chapter 9: keys of right marks stand in order: the plain law; no program in sight. -/
namespace Go.Proofs.Ythbgghmjbaldlaa
open Go.RowKit
open Op (bytesLess)
theorem less_irrefl : ∀ x : List UInt8, bytesLess x x = false
  | [] => rfl
  | a :: x => by
    have h : ¬ a < a := fun h => by rw [UInt8.lt_iff_toNat_lt] at h; omega
    simp [bytesLess, less_irrefl x, h]
theorem less_trans : ∀ x y z : List UInt8, bytesLess x y = true → bytesLess y z = true → bytesLess x z = true
  | _, y, [], _, h => by
    cases y <;> simp [bytesLess] at h
  | x, [], c :: z, h, _ => by
    cases x <;> simp [bytesLess] at h
  | [], b :: y, c :: z, _, _ => rfl
  | a :: x, b :: y, c :: z, h1, h2 => by
    simp only [bytesLess, Bool.or_eq_true, decide_eq_true_eq, Bool.and_eq_true, beq_iff_eq] at h1 h2 ⊢
    rcases h1 with h1 | ⟨rfl, h1⟩
    · rcases h2 with h2 | ⟨rfl, h2⟩
      · left
        rw [UInt8.lt_iff_toNat_lt] at *
        omega
      · exact .inl h1
    · rcases h2 with h2 | ⟨rfl, h2⟩
      · exact .inl h2
      · exact .inr ⟨rfl, less_trans x y z h1 h2⟩
theorem less_total : ∀ x y : List UInt8, x ≠ y → bytesLess x y = false → bytesLess y x = true
  | [], [], h, _ => absurd rfl h
  | [], b :: y, _, h => by cases h
  | a :: x, [], _, _ => rfl
  | a :: x, b :: y, hne, h => by
    simp only [bytesLess, Bool.or_eq_false_iff, decide_eq_false_iff_not, Bool.and_eq_false_iff, beq_eq_false_iff_ne] at h
    simp only [bytesLess, Bool.or_eq_true, decide_eq_true_eq, Bool.and_eq_true, beq_iff_eq]
    by_cases he : a = b
    · subst he
      refine .inr ⟨rfl, less_total x y (fun e => hne (by rw [e])) ?_⟩
      rcases h.2 with h | h
      · exact absurd rfl h
      · exact h
    · left
      rw [UInt8.lt_iff_toNat_lt]
      have h1 := h.1
      rw [UInt8.lt_iff_toNat_lt] at h1
      have h3 : a.toNat ≠ b.toNat := fun e => he (UInt8.toNat_inj.1 e)
      omega
theorem toL_inj {a b : ByteArray} (h : a.toList = b.toList) : a = b := by
  have : sameS a b = true := by unfold sameS; rw [h]; simp
  exact sameS_iff.1 this
theorem gtB_less {a b : ByteArray} (h : gtB a b = true) : bytesLess b.toList a.toList = true := by
  simp only [gtB, Bool.and_eq_true, Bool.not_eq_true', decide_eq_false_iff_not] at h
  exact less_total _ _ (fun e => h.2 (toL_inj e)) h.1
theorem marks_zero {l : List Mark} (h : (checkMarks l).2 = 0) : l.length ≤ 8 ∧ ∀ k, k < l.length → markE l k = 0 := by
  unfold checkMarks checkL at h
  split at h
  · cases h
  · refine ⟨by omega, fun k hk => ?_⟩
    by_cases hb : ∀ j, j < l.length → bad (markE l) j = false
    · exact bad_no (hb k hk)
    · exfalso
      have hex : ∃ j, j < l.length ∧ bad (markE l) j = true := by
        refine Classical.byContradiction fun hno => hb fun j hj => ?_
        cases hc : bad (markE l) j
        · rfl
        · exact absurd ⟨j, hj, hc⟩ hno
      obtain ⟨j, hj, hc⟩ := hex
      obtain ⟨m, hm1, hm2, hm3⟩ : ∃ m, m < l.length ∧ bad (markE l) m = true ∧ ∀ i, i < m → bad (markE l) i = false := by
        clear h hb
        induction j using Nat.strongRecOn with
        | _ j ih =>
          by_cases hm : ∀ i, i < j → bad (markE l) i = false
          · exact ⟨j, hj, hc, hm⟩
          · have : ∃ i, i < j ∧ bad (markE l) i = true := by
              refine Classical.byContradiction fun hno => hm fun i hi => ?_
              cases hc2 : bad (markE l) i
              · rfl
              · exact absurd ⟨i, hi, hc2⟩ hno
            obtain ⟨i, hi, hc2⟩ := this
            exact ih i hi (by omega) hc2
      rw [firstErr_hit hm1 hm3 hm2] at h
      exact bad_yes hm2 h
theorem markE_parts {l : List Mark} {k : Nat} (h : markE l k = 0) : isName (mat l k).key = true ∧ isName (mat l k).value = true ∧ (k = 0 ∨ gtB (mat l k).key (mat l (k - 1)).key = true) := by
  unfold markE at h
  cases h1 : isName (mat l k).key <;> cases h2 : isName (mat l k).value <;> simp [h1, h2, fst, unl] at h
  refine ⟨rfl, rfl, ?_⟩
  by_cases h0 : k = 0
  · exact .inl h0
  · cases hg : gtB (mat l k).key (mat l (k - 1)).key
    · exact absurd (h h0 hg h0) (by rw [hg]; decide)
    · exact .inr rfl
theorem keys_less {l : List Mark} (h : (checkMarks l).2 = 0) (i : Nat) : ∀ d, i + (d + 1) < l.length → bytesLess (mat l i).key.toList (mat l (i + (d + 1))).key.toList = true
  | 0, hd => by
    have h1 := (markE_parts ((marks_zero h).2 (i + 1) hd)).2.2
    rcases h1 with h1 | h1
    · omega
    · exact gtB_less h1
  | d + 1, hd => by
    have h0 := keys_less h i d (by omega)
    have h1 := (markE_parts ((marks_zero h).2 (i + (d + 1) + 1) hd)).2.2
    rcases h1 with h1 | h1
    · omega
    · exact less_trans _ _ _ h0 (gtB_less h1)
theorem keys_of {l : List Mark} (h : (checkMarks l).2 = 0) : Keys l := fun i j hij hj he => by
  have := keys_less h i (j - i - 1) (by omega)
  rw [show i + (j - i - 1 + 1) = j by omega, he, less_irrefl] at this
  cases this
end Go.Proofs.Ythbgghmjbaldlaa
