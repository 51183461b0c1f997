/- Texts in one: Chapter 9: what its functions compute, as plain functions; no condition. -/
import Derived.Test.YthbgghmjbaldlaaDoorFR4
import Derived.Test.YthbgghmjbaldlaaDoorFR3
/-! P9: Chapter 9: what its functions compute, as plain functions; no condition. -/
namespace Go.Proofs.YthbgghmjbaldlaaDoor
open Go.RowKit
/-- A mark. -/
structure Mark where
  key : ByteArray
  value : ByteArray
instance : Inhabited Mark := ⟨⟨ByteArray.empty, ByteArray.empty⟩⟩
@[go_sem] def Mark.av (m : Mark) : List AV := [S m.key, S m.value]
abbrev marksA (l : List Mark) : AV := .sl 2 (l.map Mark.av)
def mat (l : List Mark) (k : Nat) : Mark := l.getD k default
theorem mat_get {l : List Mark} {k : Nat} (h : k < l.length) : mat l k = l[k] := by simp [mat, h]
/-- An item, or a claim. -/
structure Item where
  name : ByteArray
  day : Int
  who : ByteArray
  marks : List Mark
instance : Inhabited Item := ⟨⟨ByteArray.empty, 0, ByteArray.empty, []⟩⟩
@[go_sem] def Item.av (x : Item) : List AV := [S x.name, I x.day, S x.who, .sl 2 (x.marks.map Mark.av)]
abbrev itemA (x : Item) : AV := .agg [S x.name, I x.day, S x.who, .sl 2 (x.marks.map Mark.av)]
abbrev itemsA (l : List Item) : AV := .sl 4 (l.map Item.av)
def xat (l : List Item) (k : Nat) : Item := l.getD k default
theorem xat_get {l : List Item} {k : Nat} (h : k < l.length) : xat l k = l[k] := by simp [xat, h]
/-- An event. -/
structure Event where
  item : ByteArray
  day : Int
  kind : Int
  frm : ByteArray
  dst : ByteArray
instance : Inhabited Event := ⟨⟨ByteArray.empty, 0, 0, ByteArray.empty, ByteArray.empty⟩⟩
@[go_sem] def Event.av (x : Event) : List AV := [S x.item, I x.day, I x.kind, S x.frm, S x.dst]
abbrev eventsA (l : List Event) : AV := .sl 5 (l.map Event.av)
def eat (l : List Event) (k : Nat) : Event := l.getD k default
theorem eat_get {l : List Event} {k : Nat} (h : k < l.length) : eat l k = l[k] := by simp [eat, h]
/-- An item with its events. -/
abbrev chainA (x : Item) (l : List Event) : AV := .agg [S x.name, I x.day, S x.who, .sl 2 (x.marks.map Mark.av), .sl 5 (l.map Event.av)]
structure Kept where
  item : Item
  events : List Event
instance : Inhabited Kept := ⟨⟨default, []⟩⟩
@[go_sem] def Kept.av (x : Kept) : List AV := [S x.item.name, I x.item.day, S x.item.who, .sl 2 (x.item.marks.map Mark.av), .sl 5 (x.events.map Event.av)]
abbrev keptsA (l : List Kept) : AV := .sl 5 (l.map Kept.av)
def kat (l : List Kept) (k : Nat) : Kept := l.getD k default
theorem kat_get {l : List Kept} {k : Nat} (h : k < l.length) : kat l k = l[k] := by simp [kat, h]
abbrev intsA (l : List Int) : AV := .sl 1 (l.map intA)
abbrev txtsA (l : List ByteArray) : AV := .sl 1 (l.map txtA)
abbrev nil_ : AV := .lit (.slice none 0 0)

/-- Small numbers behind one another. -/
theorem ixs {m : Nat} (h : m ≤ 1000000000) : IntKind.i64.wrap (m : Int) = m ∧ IntKind.i64.wrap ((m : Int) + 1) = m + 1 ∧ ((m : Int) + 1).toNat = m + 1 ∧ (0 : Int) ≤ (m : Int) + 1 ∧ (0 : Int) < (m : Int) + 1 ∧ IntKind.i64.wrap ((m : Int) + 1 + 1) = m + 1 + 1 :=
  ⟨wrap_eq (by omega) (by omega), wrap_eq (by omega) (by omega), by omega, by omega, by omega, wrap_eq (by omega) (by omega)⟩
theorem wrap1 : IntKind.i64.wrap 1 = 1 := rfl
attribute [go_sem] wrap1
theorem ite0 (e : Int) : (if e = 0 then 0 else e) = e := by split <;> simp_all
/-! ### Sizes -/
def SmallM (l : List Mark) : Prop := ∀ m ∈ l, m.key.size ≤ 1000 ∧ m.value.size ≤ 1000
theorem SmallM.at_ {l : List Mark} (h : SmallM l) {k : Nat} (hk : k < l.length) : l[k].key.size ≤ 1000 ∧ l[k].value.size ≤ 1000 := h _ (List.getElem_mem hk)
structure SmallI (x : Item) : Prop where
  name : x.name.size ≤ 1000
  who : x.who.size ≤ 1000
  few : x.marks.length ≤ 1000
  marks : SmallM x.marks
structure SmallE (x : Event) : Prop where
  item : x.item.size ≤ 1000
  frm : x.frm.size ≤ 1000
  dst : x.dst.size ≤ 1000
/-- Sizes as large as any. -/
structure BigI (x : Item) : Prop where
  name : x.name.size ≤ 9223372036854775807
  who : x.who.size ≤ 9223372036854775807
  few : x.marks.length ≤ 9223372036854775807
  marks : ∀ m ∈ x.marks, m.key.size ≤ 9223372036854775807 ∧ m.value.size ≤ 9223372036854775807
structure BigE (x : Event) : Prop where
  item : x.item.size ≤ 9223372036854775807
  frm : x.frm.size ≤ 9223372036854775807
  dst : x.dst.size ≤ 9223372036854775807

/-! ### Marks, items, claims -/
/-- A text behind another one. -/
def gtB (a b : ByteArray) : Bool := !Op.bytesLess a.toList b.toList && !decide (a = b)
/-- The error of mark number k. -/
def markE (l : List Mark) (k : Nat) : Int := fst [unl (isName (mat l k).key && isName (mat l k).value) 4, unl (decide (k = 0) || gtB (mat l k).key (mat l (k - 1)).key) 9]
def checkMarks (l : List Mark) : Nat × Int := checkL l.length 8 (markE l)
def bef (l : List Mark) (k : Nat) : ByteArray := if k = 0 then ⟨#[]⟩ else (mat l (k - 1)).key
def thingErr (x : Item) : Int := fst [unl (isName x.name && isName x.who) 4, unl (isDate x.day) 2, (checkMarks x.marks).2]
/-- The value of the last of the first n marks of a key. -/
def valTo (l : List Mark) (key : ByteArray) : Nat → Option ByteArray
  | 0 => none
  | n + 1 => if (mat l n).key = key then some (mat l n).value else valTo l key n
def valOf (l : List Mark) (key : ByteArray) : Option ByteArray := valTo l key l.length
/-- In how many of the first n keys marks agree, and in how many they differ. -/
def agrTo (a b : List Mark) : Nat → Int × Int
  | 0 => (0, 0)
  | n + 1 => match valOf a (mat b n).key with
    | none => agrTo a b n
    | some v => if v = (mat b n).value then ((agrTo a b n).1 + 1, (agrTo a b n).2) else ((agrTo a b n).1, (agrTo a b n).2 + 1)
def agr (a b : List Mark) : Int × Int := agrTo a b b.length
def canBe (x c : Item) : Bool := decide (x.day ≥ c.day - 3) && decide ((agr x.marks c.marks).2 = 0) && decide ((agr x.marks c.marks).1 ≥ 2)
/-- The numbers below n for which p holds. -/
def numF (p : Nat → Bool) : Nat → List Int
  | 0 => []
  | n + 1 => if p n then numF p n ++ [(n : Int)] else numF p n
def cands (l : List Item) (c : Item) : List Int := numF (fun k => canBe (xat l k) c) l.length
/-- Whether some number from k on, n of them, has p. -/
def anyP (p : Nat → Bool) : Nat → Nat → Bool
  | _, 0 => false
  | k, n + 1 => p k || anyP p (k + 1) n
theorem anyP_at {p : Nat → Bool} {k n : Nat} (h : k < n) : anyP p k (n - k) = (p k || anyP p (k + 1) (n - (k + 1))) := by
  rw [show n - k = (n - (k + 1)) + 1 by omega, anyP]
theorem anyP_iff {p : Nat → Bool} : ∀ {n k : Nat}, anyP p k n = true ↔ ∃ j, k ≤ j ∧ j < k + n ∧ p j = true
  | 0, k => by
    simp only [anyP, Bool.false_eq_true, false_iff]
    rintro ⟨j, h1, h2, _⟩
    omega
  | n + 1, k => by
    rw [anyP, Bool.or_eq_true, anyP_iff]
    constructor
    · rintro (h | ⟨j, h1, h2, h3⟩)
      · exact ⟨k, Nat.le_refl _, by omega, h⟩
      · exact ⟨j, by omega, by omega, h3⟩
    · rintro ⟨j, h1, h2, h3⟩
      by_cases hj : j = k
      · subst hj
        exact .inl h3
      · exact .inr ⟨j, by omega, by omega, h3⟩
/-- The first number from k on, n of them, that has p; -1: none. -/
def ixP (p : Nat → Bool) : Nat → Nat → Int
  | _, 0 => -1
  | k, n + 1 => if p k then (k : Int) else ixP p (k + 1) n
theorem ixP_at {p : Nat → Bool} {k n : Nat} (h : k < n) : ixP p k (n - k) = if p k then (k : Int) else ixP p (k + 1) (n - (k + 1)) := by
  rw [show n - k = (n - (k + 1)) + 1 by omega, ixP]
theorem ixP_any {p : Nat → Bool} : ∀ (n k : Nat), decide (0 ≤ ixP p k n) = anyP p k n
  | 0, k => by simp [ixP, anyP]
  | n + 1, k => by
    rw [ixP, anyP]
    by_cases h : p k
    · rw [if_pos h, h]
      simp
    · rw [if_neg h, ixP_any n (k + 1)]
      simp [h]
theorem anyP_hit {p : Nat → Bool} {k n : Nat} (hk : k < n) (h : p k = true) : anyP p 0 n = true := anyP_iff.2 ⟨k, Nat.zero_le _, by omega, h⟩
theorem anyP_out {p : Nat → Bool} {n : Nat} (h : ∀ j, j < n → p j = false) : anyP p 0 n = false := by
  cases ha : anyP p 0 n
  · rfl
  · obtain ⟨j, _, hj, hp⟩ := anyP_iff.1 ha
    rw [h j (by omega)] at hp
    cases hp
theorem ixP_hitF {p : Nat → Bool} {k : Nat} (h : p k = true) : ∀ (n a : Nat), a ≤ k → k < a + n → (∀ j, a ≤ j → j < k → p j = false) → ixP p a n = k
  | 0, a, h1, h2, _ => by omega
  | n + 1, a, h1, h2, hb => by
    rw [ixP]
    by_cases he : a = k
    · subst he
      rw [if_pos h]
    · rw [if_neg (by rw [hb a (Nat.le_refl _) (by omega)]; decide)]
      exact ixP_hitF h n (a + 1) (by omega) (by omega) fun j h1 h2 => hb j (by omega) h2
theorem ixP_hit {p : Nat → Bool} {k n : Nat} (hk : k < n) (hb : ∀ j, j < k → p j = false) (h : p k = true) : ixP p 0 n = k := ixP_hitF h n 0 (Nat.zero_le _) (by omega) fun j _ hj => hb j hj
theorem ixP_outF {p : Nat → Bool} : ∀ (n a : Nat), (∀ j, a ≤ j → j < a + n → p j = false) → ixP p a n = -1
  | 0, _, _ => rfl
  | n + 1, a, h => by
    rw [ixP, if_neg (by rw [h a (Nat.le_refl _) (by omega)]; decide)]
    exact ixP_outF n (a + 1) fun j h1 h2 => h j (by omega) (by omega)
theorem ixP_out {p : Nat → Bool} {n : Nat} (h : ∀ j, j < n → p j = false) : ixP p 0 n = -1 := ixP_outF n 0 fun j _ hj => h j (by omega)
theorem firstErr_hitF {E : Nat → Int} {k : Nat} (h : E k ≠ 0) : ∀ (n a : Nat), a ≤ k → k < a + n → (∀ j, a ≤ j → j < k → E j = 0) → firstErr E a n = (k, E k)
  | 0, a, h1, h2, _ => by omega
  | n + 1, a, h1, h2, hb => by
    rw [firstErr]
    by_cases he : a = k
    · subst he
      rw [if_pos h]
    · rw [if_neg (by rw [hb a (Nat.le_refl _) (by omega)]; decide)]
      exact firstErr_hitF h n (a + 1) (by omega) (by omega) fun j h1 h2 => hb j (by omega) h2
/-- Whether number k is wrong. -/
def bad (E : Nat → Int) (k : Nat) : Bool := decide (E k ≠ 0)
theorem bad_no {E : Nat → Int} {k : Nat} (h : bad E k = false) : E k = 0 := by simpa [bad] using h
theorem bad_yes {E : Nat → Int} {k : Nat} (h : bad E k = true) : E k ≠ 0 := by simpa [bad] using h
theorem firstErr_hit {E : Nat → Int} {k n : Nat} (hk : k < n) (hb : ∀ j, j < k → bad E j = false) (h : bad E k = true) : firstErr E 0 n = (k, E k) := firstErr_hitF (bad_yes h) n 0 (Nat.zero_le _) (by omega) fun j _ hj => bad_no (hb j hj)
theorem firstErr_outF {E : Nat → Int} : ∀ (n a : Nat), (∀ j, a ≤ j → j < a + n → E j = 0) → firstErr E a n = (0, 0)
  | 0, _, _ => rfl
  | n + 1, a, h => by
    rw [firstErr, if_neg (by rw [h a (Nat.le_refl _) (by omega)]; decide)]
    exact firstErr_outF n (a + 1) fun j h1 h2 => h j (by omega) (by omega)
theorem firstErr_out {E : Nat → Int} {n : Nat} (h : ∀ j, j < n → bad E j = false) : firstErr E 0 n = (0, 0) := firstErr_outF n 0 fun j _ hj => bad_no (h j (by omega))
/-- The error of items, or claims. -/
def listE (l : List Item) (k : Nat) : Int := fst [thingErr (xat l k), unl (!anyP (fun j => decide ((xat l j).name = (xat l k).name)) 0 k) 5]
def itemsErr (l : List Item) : Int := (checkL l.length 12 (listE l)).2

/-! ### Chains -/
def holder (x : Item) (l : List Event) : ByteArray := if l.length = 0 then x.who else (eat l (l.length - 1)).dst
def state (l : List Event) : Int := if l.length = 0 then 0 else if (eat l (l.length - 1)).kind = 2 then 2 else if (eat l (l.length - 1)).kind = 3 then 3 else if (eat l (l.length - 1)).kind = 4 then 4 else 1
def isDone (l : List Event) : Bool := !(decide (state l = 0) || decide (state l = 1))
def since (l : List Event) (day : Int) : Int := IntKind.i64.wrap (day - (eat l 0).day)
def right (l : List Event) (day : Int) : Int := if isDone l then 0 else if state l = 0 then 1 else if since l day ≤ 180 then 1 else if since l day ≤ 210 then 2 else 3
def lastDay (x : Item) (l : List Event) : Int := if l.length = 0 then x.day else (eat l (l.length - 1)).day
def nextE (x : Item) (l : List Event) (v : Event) : Int := fst [unl (decide (v.item = x.name)) 6, unl (isDate v.day) 2, unl (inR v.kind 0 4) 15, unl (isName v.frm && isName v.dst) 4, unl (decide (lastDay x l ≤ v.day)) 9,
  unl ((decide (v.kind = 0) == decide (l.length = 0)) && !isDone l) 22, unl (decide (v.frm = holder x l)) 13, unl (decide (v.kind ≠ 3) || decide (v.dst = x.who)) 18,
  unl (if v.kind = 3 then decide (right l v.day = 2) else if v.kind = 4 then decide (right l v.day = 3) else true) 25]
def chainE (x : Item) (l : List Event) (k : Nat) : Int := nextE x (l.take k) (eat l k)
def checkChain (x : Item) (l : List Event) : Nat × Int := if thingErr x ≠ 0 then (0, thingErr x) else checkL l.length 30 (chainE x l)
/-- How many events there are up to the end of a day. -/
def upTo (l : List Event) (day : Int) : Nat → Nat → Nat
  | k, 0 => k
  | k, n + 1 => if (eat l k).day ≤ day then upTo l day (k + 1) n else k
def untilL (l : List Event) (day : Int) : List Event := l.take (upTo l day 0 l.length)
def atErr (x : Item) (l : List Event) (day : Int) : Int := fst [(checkChain x l).2, unl (inR day x.day 100000) 2]
end Go.Proofs.YthbgghmjbaldlaaDoor

/-! QB: Walks on plain values: marks, items, claims; texts of at most 1000 bytes. -/
namespace Go.Proofs.YthbgghmjbaldlaaDoor
open Go.RowKit
set_option maxRecDepth 100000
theorem markE_at {l : List Mark} {k : Nat} (hk : k < l.length) : markE l k = fst [unl (isName l[k].key && isName l[k].value) 4, unl (decide (k = 0) || gtB l[k].key (bef l k)) 9] := by
  unfold markE bef
  rw [mat_get hk]
  by_cases h0 : k = 0
  · simp [h0]
  · rw [if_neg h0]
theorem bef_next {l : List Mark} {k : Nat} (hk : k < l.length) : bef l (k + 1) = l[k].key := by
  unfold bef
  rw [if_neg (by omega), Nat.add_sub_cancel, mat_get hk]
theorem p_CheckMarks (l : List Mark) (hl : l.length ≤ 1000000) (hd : SmallM l) : VC Tryd.prog 31 [marksA l] (.tup [I (checkMarks l).1, I (checkMarks l).2]) := by
  obtain ⟨R, hR⟩ : ∃ R, checkMarks l = R := ⟨_, rfl⟩
  rw [hR]
  obtain ⟨Rk, Re⟩ := R
  unfold checkMarks checkL at hR
  have HR := Lib.hid hR
  have HD := Lib.hid hd
  clear hR hd
  refine VC_of Tryd.func31 rfl (by kernel_rfl) (by kernel_rfl) rfl fun M0 w0 => ?_
  simp only [Tryd.ntmps31, Tryd.results31, enumA]
  by_cases h8 : (8 : Int) < l.length
  · repeat (first | (with_reducible refine vseq ?_) | (with_reducible refine vthenN ?_) | (with_reducible refine vthenE ?_) | (with_reducible refine vthenR ?_) | (with_reducible refine vret ?_) | (with_reducible refine vskip ?_) | (with_reducible refine vexit ?_) | (with_reducible refine vblock ?_) | (with_reducible refine vblockN ?_) | (with_reducible refine vblockR ?_) | (with_reducible refine vblockH ?_) | (with_reducible refine vrun_nil ?_) | (with_reducible refine vblockE rfl ?_) | (with_reducible refine vregion [] ?_) | (with_reducible refine vhrun_nil ?_) | ((with_reducible refine vcondT ?_ ?_); (focus (go_simp; done))) | ((with_reducible refine vcondF ?_ ?_); (focus (go_simp; done))) | ((with_reducible refine vrun_cons fun KK hKK => ?_); go_simp; refine hKK _ ?_; clear hKK KK) | ((with_reducible refine vhrun_cons fun KK hKK => ?_); go_simp; refine hKK _ ?_; clear hKK KK))
    have e := HR.out
    rw [if_pos (by omega)] at e
    injection e with e1 e2
    subst e1 e2
    go_simp
  · repeat (first | (with_reducible refine vseq ?_) | (with_reducible refine vthenN ?_) | (with_reducible refine vthenE ?_) | (with_reducible refine vthenR ?_) | (with_reducible refine vret ?_) | (with_reducible refine vskip ?_) | (with_reducible refine vexit ?_) | (with_reducible refine vblock ?_) | (with_reducible refine vblockN ?_) | (with_reducible refine vblockR ?_) | (with_reducible refine vblockH ?_) | (with_reducible refine vrun_nil ?_) | (with_reducible refine vblockE rfl ?_) | (with_reducible refine vregion [] ?_) | (with_reducible refine vhrun_nil ?_) | ((with_reducible refine vcondT ?_ ?_); (focus (go_simp; done))) | ((with_reducible refine vcondF ?_ ?_); (focus (go_simp; done))) | ((with_reducible refine vrun_cons fun KK hKK => ?_); go_simp; refine hKK _ ?_; clear hKK KK) | ((with_reducible refine vhrun_cons fun KK hKK => ?_); go_simp; refine hKK _ ?_; clear hKK KK))
    apply vfor [11, 12] (fun k => [(13, I k), (4, S (bef l k))]) (fun _ => []) (bad (markE l)) l.length
    · go_simp <;> exact rfl
    · go_simp
      rfl
    · intro k hk HB HP K hK
      have hw := wrap_eq (x := (k : Int) + 1) (by omega) (by omega)
      have hs := HD.out.at_ hk
      have g1 := p_isName l[k].key hs.1
      have g2 := p_isName l[k].value hs.2
      have g3 := p_first [unl (isName l[k].key && isName l[k].value) 4, unl (decide (k = 0) || gtB l[k].key (bef l k)) 9] (by simp)
      rw [← markE_at hk, bad_no HP.out] at g3
      unfold gtB at g3
      have HN := Lib.hid (bef_next hk)
      have G3 := Lib.hid g3
      clear g3 hs
      repeat' (first | (with_reducible refine vseq ?_) | (with_reducible refine vthenN ?_) | (with_reducible refine vthenE ?_) | (with_reducible refine vthenR ?_) | (with_reducible refine vret ?_) | (with_reducible refine vskip ?_) | (with_reducible refine vexit ?_) | (with_reducible refine vblock ?_) | (with_reducible refine vblockN ?_) | (with_reducible refine vblockR ?_) | (with_reducible refine vblockH ?_) | (with_reducible refine vrun_nil ?_) | (with_reducible refine vblockE rfl ?_) | (with_reducible refine vregion [] ?_) | (with_reducible refine vhrun_nil ?_) | ((with_reducible refine vcondT ?_ ?_); (focus (go_simp; done))) | ((with_reducible refine vcondF ?_ ?_); (focus (go_simp; done))) | ((with_reducible refine vrun_cons fun KK hKK => ?_); go_simp; (first | (with_reducible refine ⟨_, g1, ?_⟩) | (with_reducible refine ⟨_, g2, ?_⟩) | (with_reducible refine ⟨_, p_unless _ _, ?_⟩) | (refine ⟨_, G3.out, ?_⟩) | skip); refine hKK _ ?_; clear hKK KK) | ((with_reducible refine vhrun_cons fun KK hKK => ?_); go_simp; (first | (with_reducible refine ⟨_, g1, ?_⟩) | (with_reducible refine ⟨_, g2, ?_⟩) | (with_reducible refine ⟨_, p_unless _ _, ?_⟩) | (refine ⟨_, G3.out, ?_⟩) | skip); refine hKK _ ?_; clear hKK KK) | ((with_reducible refine vcondS ?_ (fun ht => ?_) (fun ht => ?_)); (focus (go_simp; done)); (all_goals (simp [go_sem] at ht; replace ht := ht.out))) | ((apply vrun_consG0 rfl); (focus (go_simp <;> exact rfl)); (focus (go_simp; done)); (focus (intro hb0; replace hb0 := hb0.out; go_simp <;> (first | exact rfl | exact g1 | exact g2 | exact p_unless _ _ | exact G3.out | exact ⟨g1, rfl⟩ | exact ⟨g2, rfl⟩ | exact ⟨p_unless _ _, rfl⟩ | exact ⟨G3.out, rfl⟩))); intro KK hKK; go_simp; refine hKK _ ?_; clear hKK KK) | ((apply vhrun_consG0 rfl); (focus (go_simp <;> exact rfl)); (focus (intro hb0; replace hb0 := hb0.out; go_simp <;> (first | exact rfl | exact g1 | exact g2 | exact p_unless _ _ | exact G3.out | exact ⟨g1, rfl⟩ | exact ⟨g2, rfl⟩ | exact ⟨p_unless _ _, rfl⟩ | exact ⟨G3.out, rfl⟩))); intro KK hKK; go_simp; refine hKK _ ?_; clear hKK KK) | ((apply vrun_consG1 rfl); (focus (go_simp <;> exact rfl)); (focus (go_simp; done)); (focus (intro hb0 hb1; replace hb0 := hb0.out; replace hb1 := hb1.out; go_simp <;> (first | exact rfl | exact g1 | exact g2 | exact p_unless _ _ | exact G3.out | exact ⟨g1, rfl⟩ | exact ⟨g2, rfl⟩ | exact ⟨p_unless _ _, rfl⟩ | exact ⟨G3.out, rfl⟩))); intro KK hKK; go_simp; refine hKK _ ?_; clear hKK KK) | ((apply vhrun_consG1 rfl); (focus (go_simp <;> exact rfl)); (focus (intro hb0 hb1; replace hb0 := hb0.out; replace hb1 := hb1.out; go_simp <;> (first | exact rfl | exact g1 | exact g2 | exact p_unless _ _ | exact G3.out | exact ⟨g1, rfl⟩ | exact ⟨g2, rfl⟩ | exact ⟨p_unless _ _, rfl⟩ | exact ⟨G3.out, rfl⟩))); intro KK hKK; go_simp; refine hKK _ ?_; clear hKK KK) | ((apply vrun_consG2 rfl); (focus (go_simp <;> exact rfl)); (focus (go_simp; done)); (focus (intro hb0 hb1 hb2; replace hb0 := hb0.out; replace hb1 := hb1.out; replace hb2 := hb2.out; go_simp <;> (first | exact rfl | exact g1 | exact g2 | exact p_unless _ _ | exact G3.out | exact ⟨g1, rfl⟩ | exact ⟨g2, rfl⟩ | exact ⟨p_unless _ _, rfl⟩ | exact ⟨G3.out, rfl⟩))); intro KK hKK; go_simp; refine hKK _ ?_; clear hKK KK) | ((apply vhrun_consG2 rfl); (focus (go_simp <;> exact rfl)); (focus (intro hb0 hb1 hb2; replace hb0 := hb0.out; replace hb1 := hb1.out; replace hb2 := hb2.out; go_simp <;> (first | exact rfl | exact g1 | exact g2 | exact p_unless _ _ | exact G3.out | exact ⟨g1, rfl⟩ | exact ⟨g2, rfl⟩ | exact ⟨p_unless _ _, rfl⟩ | exact ⟨G3.out, rfl⟩))); intro KK hKK; go_simp; refine hKK _ ?_; clear hKK KK) | ((apply vrun_consG3 rfl); (focus (go_simp <;> exact rfl)); (focus (go_simp; done)); (focus (intro hb0 hb1 hb2 hb3; replace hb0 := hb0.out; replace hb1 := hb1.out; replace hb2 := hb2.out; replace hb3 := hb3.out; go_simp <;> (first | exact rfl | exact g1 | exact g2 | exact p_unless _ _ | exact G3.out | exact ⟨g1, rfl⟩ | exact ⟨g2, rfl⟩ | exact ⟨p_unless _ _, rfl⟩ | exact ⟨G3.out, rfl⟩))); intro KK hKK; go_simp; refine hKK _ ?_; clear hKK KK) | ((apply vhrun_consG3 rfl); (focus (go_simp <;> exact rfl)); (focus (intro hb0 hb1 hb2 hb3; replace hb0 := hb0.out; replace hb1 := hb1.out; replace hb2 := hb2.out; replace hb3 := hb3.out; go_simp <;> (first | exact rfl | exact g1 | exact g2 | exact p_unless _ _ | exact G3.out | exact ⟨g1, rfl⟩ | exact ⟨g2, rfl⟩ | exact ⟨p_unless _ _, rfl⟩ | exact ⟨G3.out, rfl⟩))); intro KK hKK; go_simp; refine hKK _ ?_; clear hKK KK))
      refine hK _ ?_
      rw [HN.out]
      go_simp
    · intro k hk HB HP K
      have hs := HD.out.at_ hk
      have g1 := p_isName l[k].key hs.1
      have g2 := p_isName l[k].value hs.2
      have g3 := p_first [unl (isName l[k].key && isName l[k].value) 4, unl (decide (k = 0) || gtB l[k].key (bef l k)) 9] (by simp)
      have e := HR.out
      rw [if_neg (by omega), firstErr_hit hk HB.out HP.out] at e
      injection e with e1 e2
      rw [← markE_at hk, e2] at g3
      have he := bad_yes HP.out
      rw [e2] at he
      unfold gtB at g3
      have G3 := Lib.hid g3
      subst e1
      clear g3 hs e2
      repeat' (first | (with_reducible refine vseq ?_) | (with_reducible refine vthenN ?_) | (with_reducible refine vthenE ?_) | (with_reducible refine vthenR ?_) | (with_reducible refine vret ?_) | (with_reducible refine vskip ?_) | (with_reducible refine vexit ?_) | (with_reducible refine vblock ?_) | (with_reducible refine vblockN ?_) | (with_reducible refine vblockR ?_) | (with_reducible refine vblockH ?_) | (with_reducible refine vrun_nil ?_) | (with_reducible refine vblockE rfl ?_) | (with_reducible refine vregion [] ?_) | (with_reducible refine vhrun_nil ?_) | ((with_reducible refine vcondT ?_ ?_); (focus (go_simp; done))) | ((with_reducible refine vcondF ?_ ?_); (focus (go_simp; done))) | ((with_reducible refine vrun_cons fun KK hKK => ?_); go_simp; (first | (with_reducible refine ⟨_, g1, ?_⟩) | (with_reducible refine ⟨_, g2, ?_⟩) | (with_reducible refine ⟨_, p_unless _ _, ?_⟩) | (refine ⟨_, G3.out, ?_⟩) | skip); refine hKK _ ?_; clear hKK KK) | ((with_reducible refine vhrun_cons fun KK hKK => ?_); go_simp; (first | (with_reducible refine ⟨_, g1, ?_⟩) | (with_reducible refine ⟨_, g2, ?_⟩) | (with_reducible refine ⟨_, p_unless _ _, ?_⟩) | (refine ⟨_, G3.out, ?_⟩) | skip); refine hKK _ ?_; clear hKK KK) | ((with_reducible refine vcondS ?_ (fun ht => ?_) (fun ht => ?_)); (focus (go_simp; done)); (all_goals (simp [go_sem] at ht; replace ht := ht.out))) | ((apply vrun_consG0 rfl); (focus (go_simp <;> exact rfl)); (focus (go_simp; done)); (focus (intro hb0; replace hb0 := hb0.out; go_simp <;> (first | exact rfl | exact g1 | exact g2 | exact p_unless _ _ | exact G3.out | exact ⟨g1, rfl⟩ | exact ⟨g2, rfl⟩ | exact ⟨p_unless _ _, rfl⟩ | exact ⟨G3.out, rfl⟩))); intro KK hKK; go_simp; refine hKK _ ?_; clear hKK KK) | ((apply vhrun_consG0 rfl); (focus (go_simp <;> exact rfl)); (focus (intro hb0; replace hb0 := hb0.out; go_simp <;> (first | exact rfl | exact g1 | exact g2 | exact p_unless _ _ | exact G3.out | exact ⟨g1, rfl⟩ | exact ⟨g2, rfl⟩ | exact ⟨p_unless _ _, rfl⟩ | exact ⟨G3.out, rfl⟩))); intro KK hKK; go_simp; refine hKK _ ?_; clear hKK KK) | ((apply vrun_consG1 rfl); (focus (go_simp <;> exact rfl)); (focus (go_simp; done)); (focus (intro hb0 hb1; replace hb0 := hb0.out; replace hb1 := hb1.out; go_simp <;> (first | exact rfl | exact g1 | exact g2 | exact p_unless _ _ | exact G3.out | exact ⟨g1, rfl⟩ | exact ⟨g2, rfl⟩ | exact ⟨p_unless _ _, rfl⟩ | exact ⟨G3.out, rfl⟩))); intro KK hKK; go_simp; refine hKK _ ?_; clear hKK KK) | ((apply vhrun_consG1 rfl); (focus (go_simp <;> exact rfl)); (focus (intro hb0 hb1; replace hb0 := hb0.out; replace hb1 := hb1.out; go_simp <;> (first | exact rfl | exact g1 | exact g2 | exact p_unless _ _ | exact G3.out | exact ⟨g1, rfl⟩ | exact ⟨g2, rfl⟩ | exact ⟨p_unless _ _, rfl⟩ | exact ⟨G3.out, rfl⟩))); intro KK hKK; go_simp; refine hKK _ ?_; clear hKK KK) | ((apply vrun_consG2 rfl); (focus (go_simp <;> exact rfl)); (focus (go_simp; done)); (focus (intro hb0 hb1 hb2; replace hb0 := hb0.out; replace hb1 := hb1.out; replace hb2 := hb2.out; go_simp <;> (first | exact rfl | exact g1 | exact g2 | exact p_unless _ _ | exact G3.out | exact ⟨g1, rfl⟩ | exact ⟨g2, rfl⟩ | exact ⟨p_unless _ _, rfl⟩ | exact ⟨G3.out, rfl⟩))); intro KK hKK; go_simp; refine hKK _ ?_; clear hKK KK) | ((apply vhrun_consG2 rfl); (focus (go_simp <;> exact rfl)); (focus (intro hb0 hb1 hb2; replace hb0 := hb0.out; replace hb1 := hb1.out; replace hb2 := hb2.out; go_simp <;> (first | exact rfl | exact g1 | exact g2 | exact p_unless _ _ | exact G3.out | exact ⟨g1, rfl⟩ | exact ⟨g2, rfl⟩ | exact ⟨p_unless _ _, rfl⟩ | exact ⟨G3.out, rfl⟩))); intro KK hKK; go_simp; refine hKK _ ?_; clear hKK KK) | ((apply vrun_consG3 rfl); (focus (go_simp <;> exact rfl)); (focus (go_simp; done)); (focus (intro hb0 hb1 hb2 hb3; replace hb0 := hb0.out; replace hb1 := hb1.out; replace hb2 := hb2.out; replace hb3 := hb3.out; go_simp <;> (first | exact rfl | exact g1 | exact g2 | exact p_unless _ _ | exact G3.out | exact ⟨g1, rfl⟩ | exact ⟨g2, rfl⟩ | exact ⟨p_unless _ _, rfl⟩ | exact ⟨G3.out, rfl⟩))); intro KK hKK; go_simp; refine hKK _ ?_; clear hKK KK) | ((apply vhrun_consG3 rfl); (focus (go_simp <;> exact rfl)); (focus (intro hb0 hb1 hb2 hb3; replace hb0 := hb0.out; replace hb1 := hb1.out; replace hb2 := hb2.out; replace hb3 := hb3.out; go_simp <;> (first | exact rfl | exact g1 | exact g2 | exact p_unless _ _ | exact G3.out | exact ⟨g1, rfl⟩ | exact ⟨g2, rfl⟩ | exact ⟨p_unless _ _, rfl⟩ | exact ⟨G3.out, rfl⟩))); intro KK hKK; go_simp; refine hKK _ ?_; clear hKK KK))
      go_simp
    · intro HB K
      have e := HR.out
      rw [if_neg (by omega), firstErr_out HB.out] at e
      injection e with e1 e2
      subst e1 e2
      repeat (first | (with_reducible refine vseq ?_) | (with_reducible refine vthenN ?_) | (with_reducible refine vthenE ?_) | (with_reducible refine vthenR ?_) | (with_reducible refine vret ?_) | (with_reducible refine vskip ?_) | (with_reducible refine vexit ?_) | (with_reducible refine vblock ?_) | (with_reducible refine vblockN ?_) | (with_reducible refine vblockR ?_) | (with_reducible refine vblockH ?_) | (with_reducible refine vrun_nil ?_) | (with_reducible refine vblockE rfl ?_) | (with_reducible refine vregion [] ?_) | (with_reducible refine vhrun_nil ?_) | ((with_reducible refine vcondT ?_ ?_); (focus (go_simp; done))) | ((with_reducible refine vcondF ?_ ?_); (focus (go_simp; done))) | ((with_reducible refine vrun_cons fun KK hKK => ?_); go_simp; refine hKK _ ?_; clear hKK KK) | ((with_reducible refine vhrun_cons fun KK hKK => ?_); go_simp; refine hKK _ ?_; clear hKK KK))
      go_simp
theorem r_CheckMarks (l : List Mark) (hl : l.length ≤ 1000000) (hd : SmallM l) : VC Tryd.prog 33 [marksA l] (.tup [I (checkMarks l).1, I (checkMarks l).2]) := by
  obtain ⟨R, hR⟩ : ∃ R, checkMarks l = R := ⟨_, rfl⟩
  rw [hR]
  obtain ⟨Rk, Re⟩ := R
  unfold checkMarks checkL at hR
  have HR := Lib.hid hR
  have HD := Lib.hid hd
  clear hR hd
  refine VC_of Tryd.func33 rfl (by kernel_rfl) (by kernel_rfl) rfl fun M0 w0 => ?_
  simp only [Tryd.ntmps33, Tryd.results33, enumA]
  by_cases h8 : (8 : Int) < l.length
  · repeat (first | (with_reducible refine vseq ?_) | (with_reducible refine vthenN ?_) | (with_reducible refine vthenE ?_) | (with_reducible refine vthenR ?_) | (with_reducible refine vret ?_) | (with_reducible refine vskip ?_) | (with_reducible refine vexit ?_) | (with_reducible refine vblock ?_) | (with_reducible refine vblockN ?_) | (with_reducible refine vblockR ?_) | (with_reducible refine vblockH ?_) | (with_reducible refine vrun_nil ?_) | (with_reducible refine vblockE rfl ?_) | (with_reducible refine vregion [] ?_) | (with_reducible refine vhrun_nil ?_) | ((with_reducible refine vcondT ?_ ?_); (focus (go_simp; done))) | ((with_reducible refine vcondF ?_ ?_); (focus (go_simp; done))) | ((with_reducible refine vrun_cons fun KK hKK => ?_); go_simp; refine hKK _ ?_; clear hKK KK) | ((with_reducible refine vhrun_cons fun KK hKK => ?_); go_simp; refine hKK _ ?_; clear hKK KK) | ((refine vdrawL 16 16 [] rfl (by kernel_rfl) (by kernel_rfl) ?_); simp only [List.append, List.take, List.drop]))
    have e := HR.out
    rw [if_pos (by omega)] at e
    injection e with e1 e2
    subst e1 e2
    go_simp
  · repeat (first | (with_reducible refine vseq ?_) | (with_reducible refine vthenN ?_) | (with_reducible refine vthenE ?_) | (with_reducible refine vthenR ?_) | (with_reducible refine vret ?_) | (with_reducible refine vskip ?_) | (with_reducible refine vexit ?_) | (with_reducible refine vblock ?_) | (with_reducible refine vblockN ?_) | (with_reducible refine vblockR ?_) | (with_reducible refine vblockH ?_) | (with_reducible refine vrun_nil ?_) | (with_reducible refine vblockE rfl ?_) | (with_reducible refine vregion [] ?_) | (with_reducible refine vhrun_nil ?_) | ((with_reducible refine vcondT ?_ ?_); (focus (go_simp; done))) | ((with_reducible refine vcondF ?_ ?_); (focus (go_simp; done))) | ((with_reducible refine vrun_cons fun KK hKK => ?_); go_simp; refine hKK _ ?_; clear hKK KK) | ((with_reducible refine vhrun_cons fun KK hKK => ?_); go_simp; refine hKK _ ?_; clear hKK KK) | ((refine vdrawL 16 16 [] rfl (by kernel_rfl) (by kernel_rfl) ?_); simp only [List.append, List.take, List.drop]))
    apply vfor [0] (fun k => [(4, I k)]) (fun _ => []) (bad (markE l)) l.length
    · go_simp <;> exact rfl
    · go_simp
    · intro k hk HB HP K hK
      have hw := wrap_eq (x := (k : Int) + 1) (by omega) (by omega)
      have hs := HD.out.at_ hk
      have g1 := b_isName l[k].key (by omega)
      have g2 := b_isName l[k].value (by omega)
      have hE := bad_no HP.out
      unfold markE at hE
      rw [mat_get hk] at hE
      cases n1 : isName l[k].key
      · rw [n1] at hE
        simp [fst, unl] at hE
      · cases n2 : isName l[k].value
        · rw [n1, n2] at hE
          simp [fst, unl] at hE
        · rw [n1, n2] at hE
          rw [n1] at g1
          rw [n2] at g2
          rcases k with _ | m
          · clear hE HD HR hs
            repeat' (first | (with_reducible refine vseq ?_) | (with_reducible refine vthenN ?_) | (with_reducible refine vthenE ?_) | (with_reducible refine vthenR ?_) | (with_reducible refine vret ?_) | (with_reducible refine vskip ?_) | (with_reducible refine vexit ?_) | (with_reducible refine vblock ?_) | (with_reducible refine vblockN ?_) | (with_reducible refine vblockR ?_) | (with_reducible refine vblockH ?_) | (with_reducible refine vrun_nil ?_) | (with_reducible refine vblockE rfl ?_) | (with_reducible refine vregion [] ?_) | (with_reducible refine vhrun_nil ?_) | ((with_reducible refine vcondT ?_ ?_); (focus (go_simp; done))) | ((with_reducible refine vcondF ?_ ?_); (focus (go_simp; done))) | ((with_reducible refine vrun_cons fun KK hKK => ?_); go_simp; (first | (with_reducible refine ⟨_, g1, ?_⟩) | (with_reducible refine ⟨_, g2, ?_⟩) | skip); refine hKK _ ?_; clear hKK KK) | ((with_reducible refine vhrun_cons fun KK hKK => ?_); go_simp; (first | (with_reducible refine ⟨_, g1, ?_⟩) | (with_reducible refine ⟨_, g2, ?_⟩) | skip); refine hKK _ ?_; clear hKK KK) | ((refine vdrawL 16 16 [] rfl (by kernel_rfl) (by kernel_rfl) ?_); simp only [List.take, List.drop]) | ((with_reducible refine vcondS ?_ (fun ht => ?_) (fun ht => ?_)); (focus (go_simp; done)); (all_goals (simp [go_sem] at ht; replace ht := ht.out))) | ((apply vrun_consG0 rfl); (focus (go_simp <;> exact rfl)); (focus (go_simp; done)); (focus (intro hb0; replace hb0 := hb0.out; go_simp <;> (first | exact rfl | exact g1 | exact g2 | exact ⟨g1, rfl⟩ | exact ⟨g2, rfl⟩))); intro KK hKK; go_simp; refine hKK _ ?_; clear hKK KK) | ((apply vhrun_consG0 rfl); (focus (go_simp <;> exact rfl)); (focus (intro hb0; replace hb0 := hb0.out; go_simp <;> (first | exact rfl | exact g1 | exact g2 | exact ⟨g1, rfl⟩ | exact ⟨g2, rfl⟩))); intro KK hKK; go_simp; refine hKK _ ?_; clear hKK KK) | ((apply vrun_consG1 rfl); (focus (go_simp <;> exact rfl)); (focus (go_simp; done)); (focus (intro hb0 hb1; replace hb0 := hb0.out; replace hb1 := hb1.out; go_simp <;> (first | exact rfl | exact g1 | exact g2 | exact ⟨g1, rfl⟩ | exact ⟨g2, rfl⟩))); intro KK hKK; go_simp; refine hKK _ ?_; clear hKK KK) | ((apply vhrun_consG1 rfl); (focus (go_simp <;> exact rfl)); (focus (intro hb0 hb1; replace hb0 := hb0.out; replace hb1 := hb1.out; go_simp <;> (first | exact rfl | exact g1 | exact g2 | exact ⟨g1, rfl⟩ | exact ⟨g2, rfl⟩))); intro KK hKK; go_simp; refine hKK _ ?_; clear hKK KK) | ((apply vrun_consG2 rfl); (focus (go_simp <;> exact rfl)); (focus (go_simp; done)); (focus (intro hb0 hb1 hb2; replace hb0 := hb0.out; replace hb1 := hb1.out; replace hb2 := hb2.out; go_simp <;> (first | exact rfl | exact g1 | exact g2 | exact ⟨g1, rfl⟩ | exact ⟨g2, rfl⟩))); intro KK hKK; go_simp; refine hKK _ ?_; clear hKK KK) | ((apply vhrun_consG2 rfl); (focus (go_simp <;> exact rfl)); (focus (intro hb0 hb1 hb2; replace hb0 := hb0.out; replace hb1 := hb1.out; replace hb2 := hb2.out; go_simp <;> (first | exact rfl | exact g1 | exact g2 | exact ⟨g1, rfl⟩ | exact ⟨g2, rfl⟩))); intro KK hKK; go_simp; refine hKK _ ?_; clear hKK KK) | ((apply vrun_consG3 rfl); (focus (go_simp <;> exact rfl)); (focus (go_simp; done)); (focus (intro hb0 hb1 hb2 hb3; replace hb0 := hb0.out; replace hb1 := hb1.out; replace hb2 := hb2.out; replace hb3 := hb3.out; go_simp <;> (first | exact rfl | exact g1 | exact g2 | exact ⟨g1, rfl⟩ | exact ⟨g2, rfl⟩))); intro KK hKK; go_simp; refine hKK _ ?_; clear hKK KK) | ((apply vhrun_consG3 rfl); (focus (go_simp <;> exact rfl)); (focus (intro hb0 hb1 hb2 hb3; replace hb0 := hb0.out; replace hb1 := hb1.out; replace hb2 := hb2.out; replace hb3 := hb3.out; go_simp <;> (first | exact rfl | exact g1 | exact g2 | exact ⟨g1, rfl⟩ | exact ⟨g2, rfl⟩))); intro KK hKK; go_simp; refine hKK _ ?_; clear hKK KK))
            refine hK _ ?_
            go_simp
          · have hm : m < l.length := by omega
            rw [Nat.add_sub_cancel, mat_get hm] at hE
            have hgt : (Op.bytesLess l[m + 1].key.toList l[m].key.toList || decide (l[m + 1].key = l[m].key)) = false := by
              cases hc : (Op.bytesLess l[m + 1].key.toList l[m].key.toList || decide (l[m + 1].key = l[m].key))
              · rfl
              · rw [Bool.or_eq_true] at hc
                rcases hc with hc | hc <;> simp [fst, unl, gtB, hc] at hE
            obtain ⟨w1, w2, w3, w4, w5, w6⟩ := ixs (m := m) (by omega)
            have hki : (m : Int) + 1 < l.length := by omega
            clear hE HD HR hs
            repeat' (first | (with_reducible refine vseq ?_) | (with_reducible refine vthenN ?_) | (with_reducible refine vthenE ?_) | (with_reducible refine vthenR ?_) | (with_reducible refine vret ?_) | (with_reducible refine vskip ?_) | (with_reducible refine vexit ?_) | (with_reducible refine vblock ?_) | (with_reducible refine vblockN ?_) | (with_reducible refine vblockR ?_) | (with_reducible refine vblockH ?_) | (with_reducible refine vrun_nil ?_) | (with_reducible refine vblockE rfl ?_) | (with_reducible refine vregion [] ?_) | (with_reducible refine vhrun_nil ?_) | ((with_reducible refine vcondT ?_ ?_); (focus (go_simp; done))) | ((with_reducible refine vcondF ?_ ?_); (focus (go_simp; done))) | ((with_reducible refine vrun_cons fun KK hKK => ?_); go_simp; (first | (with_reducible refine ⟨_, g1, ?_⟩) | (with_reducible refine ⟨_, g2, ?_⟩) | skip); refine hKK _ ?_; clear hKK KK) | ((with_reducible refine vhrun_cons fun KK hKK => ?_); go_simp; (first | (with_reducible refine ⟨_, g1, ?_⟩) | (with_reducible refine ⟨_, g2, ?_⟩) | skip); refine hKK _ ?_; clear hKK KK) | ((refine vdrawL 16 16 [] rfl (by kernel_rfl) (by kernel_rfl) ?_); simp only [List.take, List.drop]) | ((with_reducible refine vcondS ?_ (fun ht => ?_) (fun ht => ?_)); (focus (go_simp; done)); (all_goals (simp [go_sem] at ht; replace ht := ht.out))) | ((apply vrun_consG0 rfl); (focus (go_simp <;> exact rfl)); (focus (go_simp; done)); (focus (intro hb0; replace hb0 := hb0.out; go_simp <;> (first | exact rfl | exact g1 | exact g2 | exact ⟨g1, rfl⟩ | exact ⟨g2, rfl⟩))); intro KK hKK; go_simp; refine hKK _ ?_; clear hKK KK) | ((apply vhrun_consG0 rfl); (focus (go_simp <;> exact rfl)); (focus (intro hb0; replace hb0 := hb0.out; go_simp <;> (first | exact rfl | exact g1 | exact g2 | exact ⟨g1, rfl⟩ | exact ⟨g2, rfl⟩))); intro KK hKK; go_simp; refine hKK _ ?_; clear hKK KK) | ((apply vrun_consG1 rfl); (focus (go_simp <;> exact rfl)); (focus (go_simp; done)); (focus (intro hb0 hb1; replace hb0 := hb0.out; replace hb1 := hb1.out; go_simp <;> (first | exact rfl | exact g1 | exact g2 | exact ⟨g1, rfl⟩ | exact ⟨g2, rfl⟩))); intro KK hKK; go_simp; refine hKK _ ?_; clear hKK KK) | ((apply vhrun_consG1 rfl); (focus (go_simp <;> exact rfl)); (focus (intro hb0 hb1; replace hb0 := hb0.out; replace hb1 := hb1.out; go_simp <;> (first | exact rfl | exact g1 | exact g2 | exact ⟨g1, rfl⟩ | exact ⟨g2, rfl⟩))); intro KK hKK; go_simp; refine hKK _ ?_; clear hKK KK) | ((apply vrun_consG2 rfl); (focus (go_simp <;> exact rfl)); (focus (go_simp; done)); (focus (intro hb0 hb1 hb2; replace hb0 := hb0.out; replace hb1 := hb1.out; replace hb2 := hb2.out; go_simp <;> (first | exact rfl | exact g1 | exact g2 | exact ⟨g1, rfl⟩ | exact ⟨g2, rfl⟩))); intro KK hKK; go_simp; refine hKK _ ?_; clear hKK KK) | ((apply vhrun_consG2 rfl); (focus (go_simp <;> exact rfl)); (focus (intro hb0 hb1 hb2; replace hb0 := hb0.out; replace hb1 := hb1.out; replace hb2 := hb2.out; go_simp <;> (first | exact rfl | exact g1 | exact g2 | exact ⟨g1, rfl⟩ | exact ⟨g2, rfl⟩))); intro KK hKK; go_simp; refine hKK _ ?_; clear hKK KK) | ((apply vrun_consG3 rfl); (focus (go_simp <;> exact rfl)); (focus (go_simp; done)); (focus (intro hb0 hb1 hb2 hb3; replace hb0 := hb0.out; replace hb1 := hb1.out; replace hb2 := hb2.out; replace hb3 := hb3.out; go_simp <;> (first | exact rfl | exact g1 | exact g2 | exact ⟨g1, rfl⟩ | exact ⟨g2, rfl⟩))); intro KK hKK; go_simp; refine hKK _ ?_; clear hKK KK) | ((apply vhrun_consG3 rfl); (focus (go_simp <;> exact rfl)); (focus (intro hb0 hb1 hb2 hb3; replace hb0 := hb0.out; replace hb1 := hb1.out; replace hb2 := hb2.out; replace hb3 := hb3.out; go_simp <;> (first | exact rfl | exact g1 | exact g2 | exact ⟨g1, rfl⟩ | exact ⟨g2, rfl⟩))); intro KK hKK; go_simp; refine hKK _ ?_; clear hKK KK))
            refine hK _ ?_
            go_simp
    · intro k hk HB HP K
      have hs := HD.out.at_ hk
      have g1 := b_isName l[k].key (by omega)
      have g2 := b_isName l[k].value (by omega)
      have e := HR.out
      rw [if_neg (by omega), firstErr_hit hk HB.out HP.out] at e
      injection e with e1 e2
      have hE := bad_yes HP.out
      subst e1
      unfold markE at hE e2
      rw [mat_get hk] at hE e2
      cases n1 : isName l[k].key
      · rw [n1] at e2 g1
        simp [fst, unl] at e2
        subst e2
        clear hE HD HR hs
        repeat' (first | (with_reducible refine vseq ?_) | (with_reducible refine vthenN ?_) | (with_reducible refine vthenE ?_) | (with_reducible refine vthenR ?_) | (with_reducible refine vret ?_) | (with_reducible refine vskip ?_) | (with_reducible refine vexit ?_) | (with_reducible refine vblock ?_) | (with_reducible refine vblockN ?_) | (with_reducible refine vblockR ?_) | (with_reducible refine vblockH ?_) | (with_reducible refine vrun_nil ?_) | (with_reducible refine vblockE rfl ?_) | (with_reducible refine vregion [] ?_) | (with_reducible refine vhrun_nil ?_) | ((with_reducible refine vcondT ?_ ?_); (focus (go_simp; done))) | ((with_reducible refine vcondF ?_ ?_); (focus (go_simp; done))) | ((with_reducible refine vrun_cons fun KK hKK => ?_); go_simp; (first | (with_reducible refine ⟨_, g1, ?_⟩) | (with_reducible refine ⟨_, g2, ?_⟩) | skip); refine hKK _ ?_; clear hKK KK) | ((with_reducible refine vhrun_cons fun KK hKK => ?_); go_simp; (first | (with_reducible refine ⟨_, g1, ?_⟩) | (with_reducible refine ⟨_, g2, ?_⟩) | skip); refine hKK _ ?_; clear hKK KK) | ((refine vdrawL 16 16 [] rfl (by kernel_rfl) (by kernel_rfl) ?_); simp only [List.append, List.take, List.drop]) | ((with_reducible refine vcondS ?_ (fun ht => ?_) (fun ht => ?_)); (focus (go_simp; done)); (all_goals (simp [go_sem] at ht; replace ht := ht.out))) | ((apply vrun_consG0 rfl); (focus (go_simp <;> exact rfl)); (focus (go_simp; done)); (focus (intro hb0; replace hb0 := hb0.out; go_simp <;> (first | exact rfl | exact g1 | exact g2 | exact ⟨g1, rfl⟩ | exact ⟨g2, rfl⟩))); intro KK hKK; go_simp; refine hKK _ ?_; clear hKK KK) | ((apply vhrun_consG0 rfl); (focus (go_simp <;> exact rfl)); (focus (intro hb0; replace hb0 := hb0.out; go_simp <;> (first | exact rfl | exact g1 | exact g2 | exact ⟨g1, rfl⟩ | exact ⟨g2, rfl⟩))); intro KK hKK; go_simp; refine hKK _ ?_; clear hKK KK) | ((apply vrun_consG1 rfl); (focus (go_simp <;> exact rfl)); (focus (go_simp; done)); (focus (intro hb0 hb1; replace hb0 := hb0.out; replace hb1 := hb1.out; go_simp <;> (first | exact rfl | exact g1 | exact g2 | exact ⟨g1, rfl⟩ | exact ⟨g2, rfl⟩))); intro KK hKK; go_simp; refine hKK _ ?_; clear hKK KK) | ((apply vhrun_consG1 rfl); (focus (go_simp <;> exact rfl)); (focus (intro hb0 hb1; replace hb0 := hb0.out; replace hb1 := hb1.out; go_simp <;> (first | exact rfl | exact g1 | exact g2 | exact ⟨g1, rfl⟩ | exact ⟨g2, rfl⟩))); intro KK hKK; go_simp; refine hKK _ ?_; clear hKK KK) | ((apply vrun_consG2 rfl); (focus (go_simp <;> exact rfl)); (focus (go_simp; done)); (focus (intro hb0 hb1 hb2; replace hb0 := hb0.out; replace hb1 := hb1.out; replace hb2 := hb2.out; go_simp <;> (first | exact rfl | exact g1 | exact g2 | exact ⟨g1, rfl⟩ | exact ⟨g2, rfl⟩))); intro KK hKK; go_simp; refine hKK _ ?_; clear hKK KK) | ((apply vhrun_consG2 rfl); (focus (go_simp <;> exact rfl)); (focus (intro hb0 hb1 hb2; replace hb0 := hb0.out; replace hb1 := hb1.out; replace hb2 := hb2.out; go_simp <;> (first | exact rfl | exact g1 | exact g2 | exact ⟨g1, rfl⟩ | exact ⟨g2, rfl⟩))); intro KK hKK; go_simp; refine hKK _ ?_; clear hKK KK) | ((apply vrun_consG3 rfl); (focus (go_simp <;> exact rfl)); (focus (go_simp; done)); (focus (intro hb0 hb1 hb2 hb3; replace hb0 := hb0.out; replace hb1 := hb1.out; replace hb2 := hb2.out; replace hb3 := hb3.out; go_simp <;> (first | exact rfl | exact g1 | exact g2 | exact ⟨g1, rfl⟩ | exact ⟨g2, rfl⟩))); intro KK hKK; go_simp; refine hKK _ ?_; clear hKK KK) | ((apply vhrun_consG3 rfl); (focus (go_simp <;> exact rfl)); (focus (intro hb0 hb1 hb2 hb3; replace hb0 := hb0.out; replace hb1 := hb1.out; replace hb2 := hb2.out; replace hb3 := hb3.out; go_simp <;> (first | exact rfl | exact g1 | exact g2 | exact ⟨g1, rfl⟩ | exact ⟨g2, rfl⟩))); intro KK hKK; go_simp; refine hKK _ ?_; clear hKK KK))
        go_simp
      · cases n2 : isName l[k].value
        · rw [n1, n2] at e2
          rw [n1] at g1
          rw [n2] at g2
          simp [fst, unl] at e2
          subst e2
          clear hE HD HR hs
          repeat' (first | (with_reducible refine vseq ?_) | (with_reducible refine vthenN ?_) | (with_reducible refine vthenE ?_) | (with_reducible refine vthenR ?_) | (with_reducible refine vret ?_) | (with_reducible refine vskip ?_) | (with_reducible refine vexit ?_) | (with_reducible refine vblock ?_) | (with_reducible refine vblockN ?_) | (with_reducible refine vblockR ?_) | (with_reducible refine vblockH ?_) | (with_reducible refine vrun_nil ?_) | (with_reducible refine vblockE rfl ?_) | (with_reducible refine vregion [] ?_) | (with_reducible refine vhrun_nil ?_) | ((with_reducible refine vcondT ?_ ?_); (focus (go_simp; done))) | ((with_reducible refine vcondF ?_ ?_); (focus (go_simp; done))) | ((with_reducible refine vrun_cons fun KK hKK => ?_); go_simp; (first | (with_reducible refine ⟨_, g1, ?_⟩) | (with_reducible refine ⟨_, g2, ?_⟩) | skip); refine hKK _ ?_; clear hKK KK) | ((with_reducible refine vhrun_cons fun KK hKK => ?_); go_simp; (first | (with_reducible refine ⟨_, g1, ?_⟩) | (with_reducible refine ⟨_, g2, ?_⟩) | skip); refine hKK _ ?_; clear hKK KK) | ((refine vdrawL 16 16 [] rfl (by kernel_rfl) (by kernel_rfl) ?_); simp only [List.append, List.take, List.drop]) | ((with_reducible refine vcondS ?_ (fun ht => ?_) (fun ht => ?_)); (focus (go_simp; done)); (all_goals (simp [go_sem] at ht; replace ht := ht.out))) | ((apply vrun_consG0 rfl); (focus (go_simp <;> exact rfl)); (focus (go_simp; done)); (focus (intro hb0; replace hb0 := hb0.out; go_simp <;> (first | exact rfl | exact g1 | exact g2 | exact ⟨g1, rfl⟩ | exact ⟨g2, rfl⟩))); intro KK hKK; go_simp; refine hKK _ ?_; clear hKK KK) | ((apply vhrun_consG0 rfl); (focus (go_simp <;> exact rfl)); (focus (intro hb0; replace hb0 := hb0.out; go_simp <;> (first | exact rfl | exact g1 | exact g2 | exact ⟨g1, rfl⟩ | exact ⟨g2, rfl⟩))); intro KK hKK; go_simp; refine hKK _ ?_; clear hKK KK) | ((apply vrun_consG1 rfl); (focus (go_simp <;> exact rfl)); (focus (go_simp; done)); (focus (intro hb0 hb1; replace hb0 := hb0.out; replace hb1 := hb1.out; go_simp <;> (first | exact rfl | exact g1 | exact g2 | exact ⟨g1, rfl⟩ | exact ⟨g2, rfl⟩))); intro KK hKK; go_simp; refine hKK _ ?_; clear hKK KK) | ((apply vhrun_consG1 rfl); (focus (go_simp <;> exact rfl)); (focus (intro hb0 hb1; replace hb0 := hb0.out; replace hb1 := hb1.out; go_simp <;> (first | exact rfl | exact g1 | exact g2 | exact ⟨g1, rfl⟩ | exact ⟨g2, rfl⟩))); intro KK hKK; go_simp; refine hKK _ ?_; clear hKK KK) | ((apply vrun_consG2 rfl); (focus (go_simp <;> exact rfl)); (focus (go_simp; done)); (focus (intro hb0 hb1 hb2; replace hb0 := hb0.out; replace hb1 := hb1.out; replace hb2 := hb2.out; go_simp <;> (first | exact rfl | exact g1 | exact g2 | exact ⟨g1, rfl⟩ | exact ⟨g2, rfl⟩))); intro KK hKK; go_simp; refine hKK _ ?_; clear hKK KK) | ((apply vhrun_consG2 rfl); (focus (go_simp <;> exact rfl)); (focus (intro hb0 hb1 hb2; replace hb0 := hb0.out; replace hb1 := hb1.out; replace hb2 := hb2.out; go_simp <;> (first | exact rfl | exact g1 | exact g2 | exact ⟨g1, rfl⟩ | exact ⟨g2, rfl⟩))); intro KK hKK; go_simp; refine hKK _ ?_; clear hKK KK) | ((apply vrun_consG3 rfl); (focus (go_simp <;> exact rfl)); (focus (go_simp; done)); (focus (intro hb0 hb1 hb2 hb3; replace hb0 := hb0.out; replace hb1 := hb1.out; replace hb2 := hb2.out; replace hb3 := hb3.out; go_simp <;> (first | exact rfl | exact g1 | exact g2 | exact ⟨g1, rfl⟩ | exact ⟨g2, rfl⟩))); intro KK hKK; go_simp; refine hKK _ ?_; clear hKK KK) | ((apply vhrun_consG3 rfl); (focus (go_simp <;> exact rfl)); (focus (intro hb0 hb1 hb2 hb3; replace hb0 := hb0.out; replace hb1 := hb1.out; replace hb2 := hb2.out; replace hb3 := hb3.out; go_simp <;> (first | exact rfl | exact g1 | exact g2 | exact ⟨g1, rfl⟩ | exact ⟨g2, rfl⟩))); intro KK hKK; go_simp; refine hKK _ ?_; clear hKK KK))
          go_simp
        · rw [n1, n2] at e2 hE
          rw [n1] at g1
          rw [n2] at g2
          rcases k with _ | m
          · simp [fst, unl] at hE
          · have hm : m < l.length := by omega
            rw [Nat.add_sub_cancel, mat_get hm] at hE e2
            have hgt : (Op.bytesLess l[m + 1].key.toList l[m].key.toList || decide (l[m + 1].key = l[m].key)) = true := by
              cases hc : (Op.bytesLess l[m + 1].key.toList l[m].key.toList || decide (l[m + 1].key = l[m].key))
              · rw [Bool.or_eq_false_iff] at hc
                simp [fst, unl, gtB, hc.1, hc.2] at hE
              · rfl
            have e3 : Re = 9 := by
              rw [← e2]
              have hgt := hgt
              rw [Bool.or_eq_true] at hgt
              rcases hgt with h | h <;> simp [fst, unl, gtB, h]
            subst e3
            obtain ⟨w1, w2, w3, w4, w5, w6⟩ := ixs (m := m) (by omega)
            have hki : (m : Int) + 1 < l.length := by omega
            clear hE HD HR hs e2
            repeat' (first | (with_reducible refine vseq ?_) | (with_reducible refine vthenN ?_) | (with_reducible refine vthenE ?_) | (with_reducible refine vthenR ?_) | (with_reducible refine vret ?_) | (with_reducible refine vskip ?_) | (with_reducible refine vexit ?_) | (with_reducible refine vblock ?_) | (with_reducible refine vblockN ?_) | (with_reducible refine vblockR ?_) | (with_reducible refine vblockH ?_) | (with_reducible refine vrun_nil ?_) | (with_reducible refine vblockE rfl ?_) | (with_reducible refine vregion [] ?_) | (with_reducible refine vhrun_nil ?_) | ((with_reducible refine vcondT ?_ ?_); (focus (go_simp; done))) | ((with_reducible refine vcondF ?_ ?_); (focus (go_simp; done))) | ((with_reducible refine vrun_cons fun KK hKK => ?_); go_simp; (first | (with_reducible refine ⟨_, g1, ?_⟩) | (with_reducible refine ⟨_, g2, ?_⟩) | skip); refine hKK _ ?_; clear hKK KK) | ((with_reducible refine vhrun_cons fun KK hKK => ?_); go_simp; (first | (with_reducible refine ⟨_, g1, ?_⟩) | (with_reducible refine ⟨_, g2, ?_⟩) | skip); refine hKK _ ?_; clear hKK KK) | ((refine vdrawL 16 16 [] rfl (by kernel_rfl) (by kernel_rfl) ?_); simp only [List.take, List.drop]) | ((with_reducible refine vcondS ?_ (fun ht => ?_) (fun ht => ?_)); (focus (go_simp; done)); (all_goals (simp [go_sem] at ht; replace ht := ht.out))) | ((apply vrun_consG0 rfl); (focus (go_simp <;> exact rfl)); (focus (go_simp; done)); (focus (intro hb0; replace hb0 := hb0.out; go_simp <;> (first | exact rfl | exact g1 | exact g2 | exact ⟨g1, rfl⟩ | exact ⟨g2, rfl⟩))); intro KK hKK; go_simp; refine hKK _ ?_; clear hKK KK) | ((apply vhrun_consG0 rfl); (focus (go_simp <;> exact rfl)); (focus (intro hb0; replace hb0 := hb0.out; go_simp <;> (first | exact rfl | exact g1 | exact g2 | exact ⟨g1, rfl⟩ | exact ⟨g2, rfl⟩))); intro KK hKK; go_simp; refine hKK _ ?_; clear hKK KK) | ((apply vrun_consG1 rfl); (focus (go_simp <;> exact rfl)); (focus (go_simp; done)); (focus (intro hb0 hb1; replace hb0 := hb0.out; replace hb1 := hb1.out; go_simp <;> (first | exact rfl | exact g1 | exact g2 | exact ⟨g1, rfl⟩ | exact ⟨g2, rfl⟩))); intro KK hKK; go_simp; refine hKK _ ?_; clear hKK KK) | ((apply vhrun_consG1 rfl); (focus (go_simp <;> exact rfl)); (focus (intro hb0 hb1; replace hb0 := hb0.out; replace hb1 := hb1.out; go_simp <;> (first | exact rfl | exact g1 | exact g2 | exact ⟨g1, rfl⟩ | exact ⟨g2, rfl⟩))); intro KK hKK; go_simp; refine hKK _ ?_; clear hKK KK) | ((apply vrun_consG2 rfl); (focus (go_simp <;> exact rfl)); (focus (go_simp; done)); (focus (intro hb0 hb1 hb2; replace hb0 := hb0.out; replace hb1 := hb1.out; replace hb2 := hb2.out; go_simp <;> (first | exact rfl | exact g1 | exact g2 | exact ⟨g1, rfl⟩ | exact ⟨g2, rfl⟩))); intro KK hKK; go_simp; refine hKK _ ?_; clear hKK KK) | ((apply vhrun_consG2 rfl); (focus (go_simp <;> exact rfl)); (focus (intro hb0 hb1 hb2; replace hb0 := hb0.out; replace hb1 := hb1.out; replace hb2 := hb2.out; go_simp <;> (first | exact rfl | exact g1 | exact g2 | exact ⟨g1, rfl⟩ | exact ⟨g2, rfl⟩))); intro KK hKK; go_simp; refine hKK _ ?_; clear hKK KK) | ((apply vrun_consG3 rfl); (focus (go_simp <;> exact rfl)); (focus (go_simp; done)); (focus (intro hb0 hb1 hb2 hb3; replace hb0 := hb0.out; replace hb1 := hb1.out; replace hb2 := hb2.out; replace hb3 := hb3.out; go_simp <;> (first | exact rfl | exact g1 | exact g2 | exact ⟨g1, rfl⟩ | exact ⟨g2, rfl⟩))); intro KK hKK; go_simp; refine hKK _ ?_; clear hKK KK) | ((apply vhrun_consG3 rfl); (focus (go_simp <;> exact rfl)); (focus (intro hb0 hb1 hb2 hb3; replace hb0 := hb0.out; replace hb1 := hb1.out; replace hb2 := hb2.out; replace hb3 := hb3.out; go_simp <;> (first | exact rfl | exact g1 | exact g2 | exact ⟨g1, rfl⟩ | exact ⟨g2, rfl⟩))); intro KK hKK; go_simp; refine hKK _ ?_; clear hKK KK))
            go_simp
    · intro HB K
      have e := HR.out
      rw [if_neg (by omega), firstErr_out HB.out] at e
      injection e with e1 e2
      subst e1 e2
      repeat (first | (with_reducible refine vseq ?_) | (with_reducible refine vthenN ?_) | (with_reducible refine vthenE ?_) | (with_reducible refine vthenR ?_) | (with_reducible refine vret ?_) | (with_reducible refine vskip ?_) | (with_reducible refine vexit ?_) | (with_reducible refine vblock ?_) | (with_reducible refine vblockN ?_) | (with_reducible refine vblockR ?_) | (with_reducible refine vblockH ?_) | (with_reducible refine vrun_nil ?_) | (with_reducible refine vblockE rfl ?_) | (with_reducible refine vregion [] ?_) | (with_reducible refine vhrun_nil ?_) | ((with_reducible refine vcondT ?_ ?_); (focus (go_simp; done))) | ((with_reducible refine vcondF ?_ ?_); (focus (go_simp; done))) | ((with_reducible refine vrun_cons fun KK hKK => ?_); go_simp; refine hKK _ ?_; clear hKK KK) | ((with_reducible refine vhrun_cons fun KK hKK => ?_); go_simp; refine hKK _ ?_; clear hKK KK) | ((refine vdrawL 16 16 [] rfl (by kernel_rfl) (by kernel_rfl) ?_); simp only [List.append, List.take, List.drop]))
      go_simp
end Go.Proofs.YthbgghmjbaldlaaDoor

/-! QC: Walks on plain values: items and claims alone; texts of at most 1000 bytes. -/
namespace Go.Proofs.YthbgghmjbaldlaaDoor
open Go.RowKit
set_option maxRecDepth 100000
theorem p_both (x : Item) (h : SmallI x) : VC Tryd.prog 108 [S x.name, S x.who, I x.day, marksA x.marks] (I (thingErr x)) := by
  have h1 := p_CheckMarks x.marks (by have := h.few; omega) h.marks
  have g1 := p_isName x.name h.name
  have g2 := p_isName x.who h.who
  unfold thingErr
  clear h
  generalize checkMarks x.marks = E at *
  refine VC_of Tryd.func108 rfl (by kernel_rfl) (by kernel_rfl) rfl fun M0 w0 => ?_
  simp only [Tryd.ntmps108, Tryd.results108, enumA]
  repeat' (first | (with_reducible refine vseq ?_) | (with_reducible refine vthenN ?_) | (with_reducible refine vthenE ?_) | (with_reducible refine vthenR ?_) | (with_reducible refine vret ?_) | (with_reducible refine vskip ?_) | (with_reducible refine vexit ?_) | (with_reducible refine vblock ?_) | (with_reducible refine vblockN ?_) | (with_reducible refine vblockR ?_) | (with_reducible refine vblockH ?_) | (with_reducible refine vrun_nil ?_) | (with_reducible refine vblockE rfl ?_) | (with_reducible refine vregion [] ?_) | (with_reducible refine vhrun_nil ?_) | ((with_reducible refine vcondT ?_ ?_); (focus (go_simp; done))) | ((with_reducible refine vcondF ?_ ?_); (focus (go_simp; done))) | ((with_reducible refine vrun_cons fun KK hKK => ?_); go_simp; (first | (with_reducible refine ⟨_, h1, ?_⟩) | (with_reducible refine ⟨_, g1, ?_⟩) | (with_reducible refine ⟨_, g2, ?_⟩) | (with_reducible refine ⟨_, p_unless _ _, ?_⟩) | (with_reducible refine ⟨_, p_isDate _, ?_⟩) | (refine ⟨_, p_first [_, _, _] (by simp), ?_⟩) | skip); refine hKK _ ?_; clear hKK KK) | ((with_reducible refine vhrun_cons fun KK hKK => ?_); go_simp; (first | (with_reducible refine ⟨_, h1, ?_⟩) | (with_reducible refine ⟨_, g1, ?_⟩) | (with_reducible refine ⟨_, g2, ?_⟩) | (with_reducible refine ⟨_, p_unless _ _, ?_⟩) | (with_reducible refine ⟨_, p_isDate _, ?_⟩) | (refine ⟨_, p_first [_, _, _] (by simp), ?_⟩) | skip); refine hKK _ ?_; clear hKK KK) | ((with_reducible refine vcondS ?_ (fun ht => ?_) (fun ht => ?_)); (focus (go_simp; done)); (all_goals (simp [go_sem] at ht; replace ht := ht.out))) | ((apply vrun_consG0 rfl); (focus (go_simp <;> exact rfl)); (focus (go_simp; done)); (focus (intro hb0; replace hb0 := hb0.out; go_simp <;> (first | exact rfl | exact h1 | exact g1 | exact g2 | exact p_unless _ _ | exact p_isDate _ | exact p_first [_, _, _] (by simp) | exact ⟨h1, rfl⟩ | exact ⟨g1, rfl⟩ | exact ⟨g2, rfl⟩ | exact ⟨p_unless _ _, rfl⟩ | exact ⟨p_isDate _, rfl⟩ | exact ⟨p_first [_, _, _] (by simp), rfl⟩))); intro KK hKK; go_simp; refine hKK _ ?_; clear hKK KK) | ((apply vhrun_consG0 rfl); (focus (go_simp <;> exact rfl)); (focus (intro hb0; replace hb0 := hb0.out; go_simp <;> (first | exact rfl | exact h1 | exact g1 | exact g2 | exact p_unless _ _ | exact p_isDate _ | exact p_first [_, _, _] (by simp) | exact ⟨h1, rfl⟩ | exact ⟨g1, rfl⟩ | exact ⟨g2, rfl⟩ | exact ⟨p_unless _ _, rfl⟩ | exact ⟨p_isDate _, rfl⟩ | exact ⟨p_first [_, _, _] (by simp), rfl⟩))); intro KK hKK; go_simp; refine hKK _ ?_; clear hKK KK) | ((apply vrun_consG1 rfl); (focus (go_simp <;> exact rfl)); (focus (go_simp; done)); (focus (intro hb0 hb1; replace hb0 := hb0.out; replace hb1 := hb1.out; go_simp <;> (first | exact rfl | exact h1 | exact g1 | exact g2 | exact p_unless _ _ | exact p_isDate _ | exact p_first [_, _, _] (by simp) | exact ⟨h1, rfl⟩ | exact ⟨g1, rfl⟩ | exact ⟨g2, rfl⟩ | exact ⟨p_unless _ _, rfl⟩ | exact ⟨p_isDate _, rfl⟩ | exact ⟨p_first [_, _, _] (by simp), rfl⟩))); intro KK hKK; go_simp; refine hKK _ ?_; clear hKK KK) | ((apply vhrun_consG1 rfl); (focus (go_simp <;> exact rfl)); (focus (intro hb0 hb1; replace hb0 := hb0.out; replace hb1 := hb1.out; go_simp <;> (first | exact rfl | exact h1 | exact g1 | exact g2 | exact p_unless _ _ | exact p_isDate _ | exact p_first [_, _, _] (by simp) | exact ⟨h1, rfl⟩ | exact ⟨g1, rfl⟩ | exact ⟨g2, rfl⟩ | exact ⟨p_unless _ _, rfl⟩ | exact ⟨p_isDate _, rfl⟩ | exact ⟨p_first [_, _, _] (by simp), rfl⟩))); intro KK hKK; go_simp; refine hKK _ ?_; clear hKK KK) | ((apply vrun_consG2 rfl); (focus (go_simp <;> exact rfl)); (focus (go_simp; done)); (focus (intro hb0 hb1 hb2; replace hb0 := hb0.out; replace hb1 := hb1.out; replace hb2 := hb2.out; go_simp <;> (first | exact rfl | exact h1 | exact g1 | exact g2 | exact p_unless _ _ | exact p_isDate _ | exact p_first [_, _, _] (by simp) | exact ⟨h1, rfl⟩ | exact ⟨g1, rfl⟩ | exact ⟨g2, rfl⟩ | exact ⟨p_unless _ _, rfl⟩ | exact ⟨p_isDate _, rfl⟩ | exact ⟨p_first [_, _, _] (by simp), rfl⟩))); intro KK hKK; go_simp; refine hKK _ ?_; clear hKK KK) | ((apply vhrun_consG2 rfl); (focus (go_simp <;> exact rfl)); (focus (intro hb0 hb1 hb2; replace hb0 := hb0.out; replace hb1 := hb1.out; replace hb2 := hb2.out; go_simp <;> (first | exact rfl | exact h1 | exact g1 | exact g2 | exact p_unless _ _ | exact p_isDate _ | exact p_first [_, _, _] (by simp) | exact ⟨h1, rfl⟩ | exact ⟨g1, rfl⟩ | exact ⟨g2, rfl⟩ | exact ⟨p_unless _ _, rfl⟩ | exact ⟨p_isDate _, rfl⟩ | exact ⟨p_first [_, _, _] (by simp), rfl⟩))); intro KK hKK; go_simp; refine hKK _ ?_; clear hKK KK) | ((apply vrun_consG3 rfl); (focus (go_simp <;> exact rfl)); (focus (go_simp; done)); (focus (intro hb0 hb1 hb2 hb3; replace hb0 := hb0.out; replace hb1 := hb1.out; replace hb2 := hb2.out; replace hb3 := hb3.out; go_simp <;> (first | exact rfl | exact h1 | exact g1 | exact g2 | exact p_unless _ _ | exact p_isDate _ | exact p_first [_, _, _] (by simp) | exact ⟨h1, rfl⟩ | exact ⟨g1, rfl⟩ | exact ⟨g2, rfl⟩ | exact ⟨p_unless _ _, rfl⟩ | exact ⟨p_isDate _, rfl⟩ | exact ⟨p_first [_, _, _] (by simp), rfl⟩))); intro KK hKK; go_simp; refine hKK _ ?_; clear hKK KK) | ((apply vhrun_consG3 rfl); (focus (go_simp <;> exact rfl)); (focus (intro hb0 hb1 hb2 hb3; replace hb0 := hb0.out; replace hb1 := hb1.out; replace hb2 := hb2.out; replace hb3 := hb3.out; go_simp <;> (first | exact rfl | exact h1 | exact g1 | exact g2 | exact p_unless _ _ | exact p_isDate _ | exact p_first [_, _, _] (by simp) | exact ⟨h1, rfl⟩ | exact ⟨g1, rfl⟩ | exact ⟨g2, rfl⟩ | exact ⟨p_unless _ _, rfl⟩ | exact ⟨p_isDate _, rfl⟩ | exact ⟨p_first [_, _, _] (by simp), rfl⟩))); intro KK hKK; go_simp; refine hKK _ ?_; clear hKK KK))
  go_simp
theorem r_MarksErr (l : List Mark) (hl : l.length ≤ 1000000) (hd : SmallM l) : VC Tryd.prog 40 [marksA l] (I (checkMarks l).2) := by
  have h1 := r_CheckMarks l hl hd
  clear hd
  generalize checkMarks l = E at *
  refine VC_of Tryd.func40 rfl (by kernel_rfl) (by kernel_rfl) rfl fun M0 w0 => ?_
  simp only [Tryd.ntmps40, Tryd.results40, enumA]
  repeat' (first | (with_reducible refine vseq ?_) | (with_reducible refine vthenN ?_) | (with_reducible refine vthenE ?_) | (with_reducible refine vthenR ?_) | (with_reducible refine vret ?_) | (with_reducible refine vskip ?_) | (with_reducible refine vexit ?_) | (with_reducible refine vblock ?_) | (with_reducible refine vblockN ?_) | (with_reducible refine vblockR ?_) | (with_reducible refine vblockH ?_) | (with_reducible refine vrun_nil ?_) | (with_reducible refine vblockE rfl ?_) | (with_reducible refine vregion [] ?_) | (with_reducible refine vhrun_nil ?_) | ((with_reducible refine vcondT ?_ ?_); (focus (go_simp; done))) | ((with_reducible refine vcondF ?_ ?_); (focus (go_simp; done))) | ((with_reducible refine vrun_cons fun KK hKK => ?_); go_simp; (first | (with_reducible refine ⟨_, h1, ?_⟩) | skip); refine hKK _ ?_; clear hKK KK) | ((with_reducible refine vhrun_cons fun KK hKK => ?_); go_simp; (first | (with_reducible refine ⟨_, h1, ?_⟩) | skip); refine hKK _ ?_; clear hKK KK) | ((with_reducible refine vcondS ?_ (fun ht => ?_) (fun ht => ?_)); (focus (go_simp; done)); (all_goals (simp [go_sem] at ht; replace ht := ht.out))) | ((apply vrun_consG0 rfl); (focus (go_simp <;> exact rfl)); (focus (go_simp; done)); (focus (intro hb0; replace hb0 := hb0.out; go_simp <;> (first | exact rfl | exact h1 | exact ⟨h1, rfl⟩))); intro KK hKK; go_simp; refine hKK _ ?_; clear hKK KK) | ((apply vhrun_consG0 rfl); (focus (go_simp <;> exact rfl)); (focus (intro hb0; replace hb0 := hb0.out; go_simp <;> (first | exact rfl | exact h1 | exact ⟨h1, rfl⟩))); intro KK hKK; go_simp; refine hKK _ ?_; clear hKK KK) | ((apply vrun_consG1 rfl); (focus (go_simp <;> exact rfl)); (focus (go_simp; done)); (focus (intro hb0 hb1; replace hb0 := hb0.out; replace hb1 := hb1.out; go_simp <;> (first | exact rfl | exact h1 | exact ⟨h1, rfl⟩))); intro KK hKK; go_simp; refine hKK _ ?_; clear hKK KK) | ((apply vhrun_consG1 rfl); (focus (go_simp <;> exact rfl)); (focus (intro hb0 hb1; replace hb0 := hb0.out; replace hb1 := hb1.out; go_simp <;> (first | exact rfl | exact h1 | exact ⟨h1, rfl⟩))); intro KK hKK; go_simp; refine hKK _ ?_; clear hKK KK) | ((apply vrun_consG2 rfl); (focus (go_simp <;> exact rfl)); (focus (go_simp; done)); (focus (intro hb0 hb1 hb2; replace hb0 := hb0.out; replace hb1 := hb1.out; replace hb2 := hb2.out; go_simp <;> (first | exact rfl | exact h1 | exact ⟨h1, rfl⟩))); intro KK hKK; go_simp; refine hKK _ ?_; clear hKK KK) | ((apply vhrun_consG2 rfl); (focus (go_simp <;> exact rfl)); (focus (intro hb0 hb1 hb2; replace hb0 := hb0.out; replace hb1 := hb1.out; replace hb2 := hb2.out; go_simp <;> (first | exact rfl | exact h1 | exact ⟨h1, rfl⟩))); intro KK hKK; go_simp; refine hKK _ ?_; clear hKK KK) | ((apply vrun_consG3 rfl); (focus (go_simp <;> exact rfl)); (focus (go_simp; done)); (focus (intro hb0 hb1 hb2 hb3; replace hb0 := hb0.out; replace hb1 := hb1.out; replace hb2 := hb2.out; replace hb3 := hb3.out; go_simp <;> (first | exact rfl | exact h1 | exact ⟨h1, rfl⟩))); intro KK hKK; go_simp; refine hKK _ ?_; clear hKK KK) | ((apply vhrun_consG3 rfl); (focus (go_simp <;> exact rfl)); (focus (intro hb0 hb1 hb2 hb3; replace hb0 := hb0.out; replace hb1 := hb1.out; replace hb2 := hb2.out; replace hb3 := hb3.out; go_simp <;> (first | exact rfl | exact h1 | exact ⟨h1, rfl⟩))); intro KK hKK; go_simp; refine hKK _ ?_; clear hKK KK))
  go_simp
theorem r_thingErr (x : Item) (h : SmallI x) : VC Tryd.prog 80 [S x.name, S x.who, I x.day, marksA x.marks] (I (thingErr x)) := by
  have h1 := r_MarksErr x.marks (by have := h.few; omega) h.marks
  have g1 := b_isName x.name (by have := h.name; omega)
  have g2 := b_isName x.who (by have := h.who; omega)
  unfold thingErr
  clear h
  generalize checkMarks x.marks = E at *
  refine VC_of Tryd.func80 rfl (by kernel_rfl) (by kernel_rfl) rfl fun M0 w0 => ?_
  simp only [Tryd.ntmps80, Tryd.results80, enumA]
  repeat' (first | (with_reducible refine vseq ?_) | (with_reducible refine vthenN ?_) | (with_reducible refine vthenE ?_) | (with_reducible refine vthenR ?_) | (with_reducible refine vret ?_) | (with_reducible refine vskip ?_) | (with_reducible refine vexit ?_) | (with_reducible refine vblock ?_) | (with_reducible refine vblockN ?_) | (with_reducible refine vblockR ?_) | (with_reducible refine vblockH ?_) | (with_reducible refine vrun_nil ?_) | (with_reducible refine vblockE rfl ?_) | (with_reducible refine vregion [] ?_) | (with_reducible refine vhrun_nil ?_) | ((with_reducible refine vcondT ?_ ?_); (focus (go_simp; done))) | ((with_reducible refine vcondF ?_ ?_); (focus (go_simp; done))) | ((with_reducible refine vrun_cons fun KK hKK => ?_); go_simp; (first | (with_reducible refine ⟨_, h1, ?_⟩) | (with_reducible refine ⟨_, g1, ?_⟩) | (with_reducible refine ⟨_, g2, ?_⟩) | (with_reducible refine ⟨_, b_within _ _ _, ?_⟩) | skip); refine hKK _ ?_; clear hKK KK) | ((with_reducible refine vhrun_cons fun KK hKK => ?_); go_simp; (first | (with_reducible refine ⟨_, h1, ?_⟩) | (with_reducible refine ⟨_, g1, ?_⟩) | (with_reducible refine ⟨_, g2, ?_⟩) | (with_reducible refine ⟨_, b_within _ _ _, ?_⟩) | skip); refine hKK _ ?_; clear hKK KK) | ((with_reducible refine vcondS ?_ (fun ht => ?_) (fun ht => ?_)); (focus (go_simp; done)); (all_goals (simp [go_sem] at ht; replace ht := ht.out))) | ((apply vrun_consG0 rfl); (focus (go_simp <;> exact rfl)); (focus (go_simp; done)); (focus (intro hb0; replace hb0 := hb0.out; go_simp <;> (first | exact rfl | exact h1 | exact g1 | exact g2 | exact b_within _ _ _ | exact ⟨h1, rfl⟩ | exact ⟨g1, rfl⟩ | exact ⟨g2, rfl⟩ | exact ⟨b_within _ _ _, rfl⟩))); intro KK hKK; go_simp; refine hKK _ ?_; clear hKK KK) | ((apply vhrun_consG0 rfl); (focus (go_simp <;> exact rfl)); (focus (intro hb0; replace hb0 := hb0.out; go_simp <;> (first | exact rfl | exact h1 | exact g1 | exact g2 | exact b_within _ _ _ | exact ⟨h1, rfl⟩ | exact ⟨g1, rfl⟩ | exact ⟨g2, rfl⟩ | exact ⟨b_within _ _ _, rfl⟩))); intro KK hKK; go_simp; refine hKK _ ?_; clear hKK KK) | ((apply vrun_consG1 rfl); (focus (go_simp <;> exact rfl)); (focus (go_simp; done)); (focus (intro hb0 hb1; replace hb0 := hb0.out; replace hb1 := hb1.out; go_simp <;> (first | exact rfl | exact h1 | exact g1 | exact g2 | exact b_within _ _ _ | exact ⟨h1, rfl⟩ | exact ⟨g1, rfl⟩ | exact ⟨g2, rfl⟩ | exact ⟨b_within _ _ _, rfl⟩))); intro KK hKK; go_simp; refine hKK _ ?_; clear hKK KK) | ((apply vhrun_consG1 rfl); (focus (go_simp <;> exact rfl)); (focus (intro hb0 hb1; replace hb0 := hb0.out; replace hb1 := hb1.out; go_simp <;> (first | exact rfl | exact h1 | exact g1 | exact g2 | exact b_within _ _ _ | exact ⟨h1, rfl⟩ | exact ⟨g1, rfl⟩ | exact ⟨g2, rfl⟩ | exact ⟨b_within _ _ _, rfl⟩))); intro KK hKK; go_simp; refine hKK _ ?_; clear hKK KK) | ((apply vrun_consG2 rfl); (focus (go_simp <;> exact rfl)); (focus (go_simp; done)); (focus (intro hb0 hb1 hb2; replace hb0 := hb0.out; replace hb1 := hb1.out; replace hb2 := hb2.out; go_simp <;> (first | exact rfl | exact h1 | exact g1 | exact g2 | exact b_within _ _ _ | exact ⟨h1, rfl⟩ | exact ⟨g1, rfl⟩ | exact ⟨g2, rfl⟩ | exact ⟨b_within _ _ _, rfl⟩))); intro KK hKK; go_simp; refine hKK _ ?_; clear hKK KK) | ((apply vhrun_consG2 rfl); (focus (go_simp <;> exact rfl)); (focus (intro hb0 hb1 hb2; replace hb0 := hb0.out; replace hb1 := hb1.out; replace hb2 := hb2.out; go_simp <;> (first | exact rfl | exact h1 | exact g1 | exact g2 | exact b_within _ _ _ | exact ⟨h1, rfl⟩ | exact ⟨g1, rfl⟩ | exact ⟨g2, rfl⟩ | exact ⟨b_within _ _ _, rfl⟩))); intro KK hKK; go_simp; refine hKK _ ?_; clear hKK KK) | ((apply vrun_consG3 rfl); (focus (go_simp <;> exact rfl)); (focus (go_simp; done)); (focus (intro hb0 hb1 hb2 hb3; replace hb0 := hb0.out; replace hb1 := hb1.out; replace hb2 := hb2.out; replace hb3 := hb3.out; go_simp <;> (first | exact rfl | exact h1 | exact g1 | exact g2 | exact b_within _ _ _ | exact ⟨h1, rfl⟩ | exact ⟨g1, rfl⟩ | exact ⟨g2, rfl⟩ | exact ⟨b_within _ _ _, rfl⟩))); intro KK hKK; go_simp; refine hKK _ ?_; clear hKK KK) | ((apply vhrun_consG3 rfl); (focus (go_simp <;> exact rfl)); (focus (intro hb0 hb1 hb2 hb3; replace hb0 := hb0.out; replace hb1 := hb1.out; replace hb2 := hb2.out; replace hb3 := hb3.out; go_simp <;> (first | exact rfl | exact h1 | exact g1 | exact g2 | exact b_within _ _ _ | exact ⟨h1, rfl⟩ | exact ⟨g1, rfl⟩ | exact ⟨g2, rfl⟩ | exact ⟨b_within _ _ _, rfl⟩))); intro KK hKK; go_simp; refine hKK _ ?_; clear hKK KK))
  all_goals (go_simp; (cases hA0 : isName x.name) <;> (cases hA1 : isName x.who) <;> (cases hA2 : inR x.day 0 100000) <;> simp_all [fst, unl, isDate, ite0])
theorem p_itemErr (x : Item) (h : SmallI x) : VC Tryd.prog 79 [itemA x] (I (thingErr x)) := by
  have h1 := p_both x h
  clear h
  generalize thingErr x = E at *
  refine VC_of Tryd.func79 rfl (by kernel_rfl) (by kernel_rfl) rfl fun M0 w0 => ?_
  simp only [Tryd.ntmps79, Tryd.results79, enumA]
  repeat' (first | (with_reducible refine vseq ?_) | (with_reducible refine vthenN ?_) | (with_reducible refine vthenE ?_) | (with_reducible refine vthenR ?_) | (with_reducible refine vret ?_) | (with_reducible refine vskip ?_) | (with_reducible refine vexit ?_) | (with_reducible refine vblock ?_) | (with_reducible refine vblockN ?_) | (with_reducible refine vblockR ?_) | (with_reducible refine vblockH ?_) | (with_reducible refine vrun_nil ?_) | (with_reducible refine vblockE rfl ?_) | (with_reducible refine vregion [] ?_) | (with_reducible refine vhrun_nil ?_) | ((with_reducible refine vcondT ?_ ?_); (focus (go_simp; done))) | ((with_reducible refine vcondF ?_ ?_); (focus (go_simp; done))) | ((with_reducible refine vrun_cons fun KK hKK => ?_); go_simp; (first | (with_reducible refine ⟨_, h1, ?_⟩) | skip); refine hKK _ ?_; clear hKK KK) | ((with_reducible refine vhrun_cons fun KK hKK => ?_); go_simp; (first | (with_reducible refine ⟨_, h1, ?_⟩) | skip); refine hKK _ ?_; clear hKK KK) | ((with_reducible refine vcondS ?_ (fun ht => ?_) (fun ht => ?_)); (focus (go_simp; done)); (all_goals (simp [go_sem] at ht; replace ht := ht.out))) | ((apply vrun_consG0 rfl); (focus (go_simp <;> exact rfl)); (focus (go_simp; done)); (focus (intro hb0; replace hb0 := hb0.out; go_simp <;> (first | exact rfl | exact h1 | exact ⟨h1, rfl⟩))); intro KK hKK; go_simp; refine hKK _ ?_; clear hKK KK) | ((apply vhrun_consG0 rfl); (focus (go_simp <;> exact rfl)); (focus (intro hb0; replace hb0 := hb0.out; go_simp <;> (first | exact rfl | exact h1 | exact ⟨h1, rfl⟩))); intro KK hKK; go_simp; refine hKK _ ?_; clear hKK KK) | ((apply vrun_consG1 rfl); (focus (go_simp <;> exact rfl)); (focus (go_simp; done)); (focus (intro hb0 hb1; replace hb0 := hb0.out; replace hb1 := hb1.out; go_simp <;> (first | exact rfl | exact h1 | exact ⟨h1, rfl⟩))); intro KK hKK; go_simp; refine hKK _ ?_; clear hKK KK) | ((apply vhrun_consG1 rfl); (focus (go_simp <;> exact rfl)); (focus (intro hb0 hb1; replace hb0 := hb0.out; replace hb1 := hb1.out; go_simp <;> (first | exact rfl | exact h1 | exact ⟨h1, rfl⟩))); intro KK hKK; go_simp; refine hKK _ ?_; clear hKK KK) | ((apply vrun_consG2 rfl); (focus (go_simp <;> exact rfl)); (focus (go_simp; done)); (focus (intro hb0 hb1 hb2; replace hb0 := hb0.out; replace hb1 := hb1.out; replace hb2 := hb2.out; go_simp <;> (first | exact rfl | exact h1 | exact ⟨h1, rfl⟩))); intro KK hKK; go_simp; refine hKK _ ?_; clear hKK KK) | ((apply vhrun_consG2 rfl); (focus (go_simp <;> exact rfl)); (focus (intro hb0 hb1 hb2; replace hb0 := hb0.out; replace hb1 := hb1.out; replace hb2 := hb2.out; go_simp <;> (first | exact rfl | exact h1 | exact ⟨h1, rfl⟩))); intro KK hKK; go_simp; refine hKK _ ?_; clear hKK KK) | ((apply vrun_consG3 rfl); (focus (go_simp <;> exact rfl)); (focus (go_simp; done)); (focus (intro hb0 hb1 hb2 hb3; replace hb0 := hb0.out; replace hb1 := hb1.out; replace hb2 := hb2.out; replace hb3 := hb3.out; go_simp <;> (first | exact rfl | exact h1 | exact ⟨h1, rfl⟩))); intro KK hKK; go_simp; refine hKK _ ?_; clear hKK KK) | ((apply vhrun_consG3 rfl); (focus (go_simp <;> exact rfl)); (focus (intro hb0 hb1 hb2 hb3; replace hb0 := hb0.out; replace hb1 := hb1.out; replace hb2 := hb2.out; replace hb3 := hb3.out; go_simp <;> (first | exact rfl | exact h1 | exact ⟨h1, rfl⟩))); intro KK hKK; go_simp; refine hKK _ ?_; clear hKK KK))
  go_simp
theorem p_claimErr (x : Item) (h : SmallI x) : VC Tryd.prog 81 [itemA x] (I (thingErr x)) := by
  have h1 := p_both x h
  clear h
  generalize thingErr x = E at *
  refine VC_of Tryd.func81 rfl (by kernel_rfl) (by kernel_rfl) rfl fun M0 w0 => ?_
  simp only [Tryd.ntmps81, Tryd.results81, enumA]
  repeat' (first | (with_reducible refine vseq ?_) | (with_reducible refine vthenN ?_) | (with_reducible refine vthenE ?_) | (with_reducible refine vthenR ?_) | (with_reducible refine vret ?_) | (with_reducible refine vskip ?_) | (with_reducible refine vexit ?_) | (with_reducible refine vblock ?_) | (with_reducible refine vblockN ?_) | (with_reducible refine vblockR ?_) | (with_reducible refine vblockH ?_) | (with_reducible refine vrun_nil ?_) | (with_reducible refine vblockE rfl ?_) | (with_reducible refine vregion [] ?_) | (with_reducible refine vhrun_nil ?_) | ((with_reducible refine vcondT ?_ ?_); (focus (go_simp; done))) | ((with_reducible refine vcondF ?_ ?_); (focus (go_simp; done))) | ((with_reducible refine vrun_cons fun KK hKK => ?_); go_simp; (first | (with_reducible refine ⟨_, h1, ?_⟩) | skip); refine hKK _ ?_; clear hKK KK) | ((with_reducible refine vhrun_cons fun KK hKK => ?_); go_simp; (first | (with_reducible refine ⟨_, h1, ?_⟩) | skip); refine hKK _ ?_; clear hKK KK) | ((with_reducible refine vcondS ?_ (fun ht => ?_) (fun ht => ?_)); (focus (go_simp; done)); (all_goals (simp [go_sem] at ht; replace ht := ht.out))) | ((apply vrun_consG0 rfl); (focus (go_simp <;> exact rfl)); (focus (go_simp; done)); (focus (intro hb0; replace hb0 := hb0.out; go_simp <;> (first | exact rfl | exact h1 | exact ⟨h1, rfl⟩))); intro KK hKK; go_simp; refine hKK _ ?_; clear hKK KK) | ((apply vhrun_consG0 rfl); (focus (go_simp <;> exact rfl)); (focus (intro hb0; replace hb0 := hb0.out; go_simp <;> (first | exact rfl | exact h1 | exact ⟨h1, rfl⟩))); intro KK hKK; go_simp; refine hKK _ ?_; clear hKK KK) | ((apply vrun_consG1 rfl); (focus (go_simp <;> exact rfl)); (focus (go_simp; done)); (focus (intro hb0 hb1; replace hb0 := hb0.out; replace hb1 := hb1.out; go_simp <;> (first | exact rfl | exact h1 | exact ⟨h1, rfl⟩))); intro KK hKK; go_simp; refine hKK _ ?_; clear hKK KK) | ((apply vhrun_consG1 rfl); (focus (go_simp <;> exact rfl)); (focus (intro hb0 hb1; replace hb0 := hb0.out; replace hb1 := hb1.out; go_simp <;> (first | exact rfl | exact h1 | exact ⟨h1, rfl⟩))); intro KK hKK; go_simp; refine hKK _ ?_; clear hKK KK) | ((apply vrun_consG2 rfl); (focus (go_simp <;> exact rfl)); (focus (go_simp; done)); (focus (intro hb0 hb1 hb2; replace hb0 := hb0.out; replace hb1 := hb1.out; replace hb2 := hb2.out; go_simp <;> (first | exact rfl | exact h1 | exact ⟨h1, rfl⟩))); intro KK hKK; go_simp; refine hKK _ ?_; clear hKK KK) | ((apply vhrun_consG2 rfl); (focus (go_simp <;> exact rfl)); (focus (intro hb0 hb1 hb2; replace hb0 := hb0.out; replace hb1 := hb1.out; replace hb2 := hb2.out; go_simp <;> (first | exact rfl | exact h1 | exact ⟨h1, rfl⟩))); intro KK hKK; go_simp; refine hKK _ ?_; clear hKK KK) | ((apply vrun_consG3 rfl); (focus (go_simp <;> exact rfl)); (focus (go_simp; done)); (focus (intro hb0 hb1 hb2 hb3; replace hb0 := hb0.out; replace hb1 := hb1.out; replace hb2 := hb2.out; replace hb3 := hb3.out; go_simp <;> (first | exact rfl | exact h1 | exact ⟨h1, rfl⟩))); intro KK hKK; go_simp; refine hKK _ ?_; clear hKK KK) | ((apply vhrun_consG3 rfl); (focus (go_simp <;> exact rfl)); (focus (intro hb0 hb1 hb2 hb3; replace hb0 := hb0.out; replace hb1 := hb1.out; replace hb2 := hb2.out; replace hb3 := hb3.out; go_simp <;> (first | exact rfl | exact h1 | exact ⟨h1, rfl⟩))); intro KK hKK; go_simp; refine hKK _ ?_; clear hKK KK))
  go_simp
theorem p_CheckItem (x : Item) (h : SmallI x) : VC Tryd.prog 34 [itemA x] (I (thingErr x)) := by
  have h1 := p_itemErr x h
  clear h
  generalize thingErr x = E at *
  refine VC_of Tryd.func34 rfl (by kernel_rfl) (by kernel_rfl) rfl fun M0 w0 => ?_
  simp only [Tryd.ntmps34, Tryd.results34, enumA]
  repeat' (first | (with_reducible refine vseq ?_) | (with_reducible refine vthenN ?_) | (with_reducible refine vthenE ?_) | (with_reducible refine vthenR ?_) | (with_reducible refine vret ?_) | (with_reducible refine vskip ?_) | (with_reducible refine vexit ?_) | (with_reducible refine vblock ?_) | (with_reducible refine vblockN ?_) | (with_reducible refine vblockR ?_) | (with_reducible refine vblockH ?_) | (with_reducible refine vrun_nil ?_) | (with_reducible refine vblockE rfl ?_) | (with_reducible refine vregion [] ?_) | (with_reducible refine vhrun_nil ?_) | ((with_reducible refine vcondT ?_ ?_); (focus (go_simp; done))) | ((with_reducible refine vcondF ?_ ?_); (focus (go_simp; done))) | ((with_reducible refine vrun_cons fun KK hKK => ?_); go_simp; (first | (with_reducible refine ⟨_, h1, ?_⟩) | skip); refine hKK _ ?_; clear hKK KK) | ((with_reducible refine vhrun_cons fun KK hKK => ?_); go_simp; (first | (with_reducible refine ⟨_, h1, ?_⟩) | skip); refine hKK _ ?_; clear hKK KK) | ((with_reducible refine vcondS ?_ (fun ht => ?_) (fun ht => ?_)); (focus (go_simp; done)); (all_goals (simp [go_sem] at ht; replace ht := ht.out))) | ((apply vrun_consG0 rfl); (focus (go_simp <;> exact rfl)); (focus (go_simp; done)); (focus (intro hb0; replace hb0 := hb0.out; go_simp <;> (first | exact rfl | exact h1 | exact ⟨h1, rfl⟩))); intro KK hKK; go_simp; refine hKK _ ?_; clear hKK KK) | ((apply vhrun_consG0 rfl); (focus (go_simp <;> exact rfl)); (focus (intro hb0; replace hb0 := hb0.out; go_simp <;> (first | exact rfl | exact h1 | exact ⟨h1, rfl⟩))); intro KK hKK; go_simp; refine hKK _ ?_; clear hKK KK) | ((apply vrun_consG1 rfl); (focus (go_simp <;> exact rfl)); (focus (go_simp; done)); (focus (intro hb0 hb1; replace hb0 := hb0.out; replace hb1 := hb1.out; go_simp <;> (first | exact rfl | exact h1 | exact ⟨h1, rfl⟩))); intro KK hKK; go_simp; refine hKK _ ?_; clear hKK KK) | ((apply vhrun_consG1 rfl); (focus (go_simp <;> exact rfl)); (focus (intro hb0 hb1; replace hb0 := hb0.out; replace hb1 := hb1.out; go_simp <;> (first | exact rfl | exact h1 | exact ⟨h1, rfl⟩))); intro KK hKK; go_simp; refine hKK _ ?_; clear hKK KK) | ((apply vrun_consG2 rfl); (focus (go_simp <;> exact rfl)); (focus (go_simp; done)); (focus (intro hb0 hb1 hb2; replace hb0 := hb0.out; replace hb1 := hb1.out; replace hb2 := hb2.out; go_simp <;> (first | exact rfl | exact h1 | exact ⟨h1, rfl⟩))); intro KK hKK; go_simp; refine hKK _ ?_; clear hKK KK) | ((apply vhrun_consG2 rfl); (focus (go_simp <;> exact rfl)); (focus (intro hb0 hb1 hb2; replace hb0 := hb0.out; replace hb1 := hb1.out; replace hb2 := hb2.out; go_simp <;> (first | exact rfl | exact h1 | exact ⟨h1, rfl⟩))); intro KK hKK; go_simp; refine hKK _ ?_; clear hKK KK) | ((apply vrun_consG3 rfl); (focus (go_simp <;> exact rfl)); (focus (go_simp; done)); (focus (intro hb0 hb1 hb2 hb3; replace hb0 := hb0.out; replace hb1 := hb1.out; replace hb2 := hb2.out; replace hb3 := hb3.out; go_simp <;> (first | exact rfl | exact h1 | exact ⟨h1, rfl⟩))); intro KK hKK; go_simp; refine hKK _ ?_; clear hKK KK) | ((apply vhrun_consG3 rfl); (focus (go_simp <;> exact rfl)); (focus (intro hb0 hb1 hb2 hb3; replace hb0 := hb0.out; replace hb1 := hb1.out; replace hb2 := hb2.out; replace hb3 := hb3.out; go_simp <;> (first | exact rfl | exact h1 | exact ⟨h1, rfl⟩))); intro KK hKK; go_simp; refine hKK _ ?_; clear hKK KK))
  go_simp
theorem p_CheckClaim (x : Item) (h : SmallI x) : VC Tryd.prog 36 [itemA x] (I (thingErr x)) := by
  have h1 := p_claimErr x h
  clear h
  generalize thingErr x = E at *
  refine VC_of Tryd.func36 rfl (by kernel_rfl) (by kernel_rfl) rfl fun M0 w0 => ?_
  simp only [Tryd.ntmps36, Tryd.results36, enumA]
  repeat' (first | (with_reducible refine vseq ?_) | (with_reducible refine vthenN ?_) | (with_reducible refine vthenE ?_) | (with_reducible refine vthenR ?_) | (with_reducible refine vret ?_) | (with_reducible refine vskip ?_) | (with_reducible refine vexit ?_) | (with_reducible refine vblock ?_) | (with_reducible refine vblockN ?_) | (with_reducible refine vblockR ?_) | (with_reducible refine vblockH ?_) | (with_reducible refine vrun_nil ?_) | (with_reducible refine vblockE rfl ?_) | (with_reducible refine vregion [] ?_) | (with_reducible refine vhrun_nil ?_) | ((with_reducible refine vcondT ?_ ?_); (focus (go_simp; done))) | ((with_reducible refine vcondF ?_ ?_); (focus (go_simp; done))) | ((with_reducible refine vrun_cons fun KK hKK => ?_); go_simp; (first | (with_reducible refine ⟨_, h1, ?_⟩) | skip); refine hKK _ ?_; clear hKK KK) | ((with_reducible refine vhrun_cons fun KK hKK => ?_); go_simp; (first | (with_reducible refine ⟨_, h1, ?_⟩) | skip); refine hKK _ ?_; clear hKK KK) | ((with_reducible refine vcondS ?_ (fun ht => ?_) (fun ht => ?_)); (focus (go_simp; done)); (all_goals (simp [go_sem] at ht; replace ht := ht.out))) | ((apply vrun_consG0 rfl); (focus (go_simp <;> exact rfl)); (focus (go_simp; done)); (focus (intro hb0; replace hb0 := hb0.out; go_simp <;> (first | exact rfl | exact h1 | exact ⟨h1, rfl⟩))); intro KK hKK; go_simp; refine hKK _ ?_; clear hKK KK) | ((apply vhrun_consG0 rfl); (focus (go_simp <;> exact rfl)); (focus (intro hb0; replace hb0 := hb0.out; go_simp <;> (first | exact rfl | exact h1 | exact ⟨h1, rfl⟩))); intro KK hKK; go_simp; refine hKK _ ?_; clear hKK KK) | ((apply vrun_consG1 rfl); (focus (go_simp <;> exact rfl)); (focus (go_simp; done)); (focus (intro hb0 hb1; replace hb0 := hb0.out; replace hb1 := hb1.out; go_simp <;> (first | exact rfl | exact h1 | exact ⟨h1, rfl⟩))); intro KK hKK; go_simp; refine hKK _ ?_; clear hKK KK) | ((apply vhrun_consG1 rfl); (focus (go_simp <;> exact rfl)); (focus (intro hb0 hb1; replace hb0 := hb0.out; replace hb1 := hb1.out; go_simp <;> (first | exact rfl | exact h1 | exact ⟨h1, rfl⟩))); intro KK hKK; go_simp; refine hKK _ ?_; clear hKK KK) | ((apply vrun_consG2 rfl); (focus (go_simp <;> exact rfl)); (focus (go_simp; done)); (focus (intro hb0 hb1 hb2; replace hb0 := hb0.out; replace hb1 := hb1.out; replace hb2 := hb2.out; go_simp <;> (first | exact rfl | exact h1 | exact ⟨h1, rfl⟩))); intro KK hKK; go_simp; refine hKK _ ?_; clear hKK KK) | ((apply vhrun_consG2 rfl); (focus (go_simp <;> exact rfl)); (focus (intro hb0 hb1 hb2; replace hb0 := hb0.out; replace hb1 := hb1.out; replace hb2 := hb2.out; go_simp <;> (first | exact rfl | exact h1 | exact ⟨h1, rfl⟩))); intro KK hKK; go_simp; refine hKK _ ?_; clear hKK KK) | ((apply vrun_consG3 rfl); (focus (go_simp <;> exact rfl)); (focus (go_simp; done)); (focus (intro hb0 hb1 hb2 hb3; replace hb0 := hb0.out; replace hb1 := hb1.out; replace hb2 := hb2.out; replace hb3 := hb3.out; go_simp <;> (first | exact rfl | exact h1 | exact ⟨h1, rfl⟩))); intro KK hKK; go_simp; refine hKK _ ?_; clear hKK KK) | ((apply vhrun_consG3 rfl); (focus (go_simp <;> exact rfl)); (focus (intro hb0 hb1 hb2 hb3; replace hb0 := hb0.out; replace hb1 := hb1.out; replace hb2 := hb2.out; replace hb3 := hb3.out; go_simp <;> (first | exact rfl | exact h1 | exact ⟨h1, rfl⟩))); intro KK hKK; go_simp; refine hKK _ ?_; clear hKK KK))
  go_simp
theorem r_CheckItem (x : Item) (h : SmallI x) : VC Tryd.prog 35 [itemA x] (I (thingErr x)) := by
  have h1 := r_thingErr x h
  clear h
  generalize thingErr x = E at *
  refine VC_of Tryd.func35 rfl (by kernel_rfl) (by kernel_rfl) rfl fun M0 w0 => ?_
  simp only [Tryd.ntmps35, Tryd.results35, enumA]
  repeat' (first | (with_reducible refine vseq ?_) | (with_reducible refine vthenN ?_) | (with_reducible refine vthenE ?_) | (with_reducible refine vthenR ?_) | (with_reducible refine vret ?_) | (with_reducible refine vskip ?_) | (with_reducible refine vexit ?_) | (with_reducible refine vblock ?_) | (with_reducible refine vblockN ?_) | (with_reducible refine vblockR ?_) | (with_reducible refine vblockH ?_) | (with_reducible refine vrun_nil ?_) | (with_reducible refine vblockE rfl ?_) | (with_reducible refine vregion [] ?_) | (with_reducible refine vhrun_nil ?_) | ((with_reducible refine vcondT ?_ ?_); (focus (go_simp; done))) | ((with_reducible refine vcondF ?_ ?_); (focus (go_simp; done))) | ((with_reducible refine vrun_cons fun KK hKK => ?_); go_simp; (first | (with_reducible refine ⟨_, h1, ?_⟩) | skip); refine hKK _ ?_; clear hKK KK) | ((with_reducible refine vhrun_cons fun KK hKK => ?_); go_simp; (first | (with_reducible refine ⟨_, h1, ?_⟩) | skip); refine hKK _ ?_; clear hKK KK) | ((with_reducible refine vcondS ?_ (fun ht => ?_) (fun ht => ?_)); (focus (go_simp; done)); (all_goals (simp [go_sem] at ht; replace ht := ht.out))) | ((apply vrun_consG0 rfl); (focus (go_simp <;> exact rfl)); (focus (go_simp; done)); (focus (intro hb0; replace hb0 := hb0.out; go_simp <;> (first | exact rfl | exact h1 | exact ⟨h1, rfl⟩))); intro KK hKK; go_simp; refine hKK _ ?_; clear hKK KK) | ((apply vhrun_consG0 rfl); (focus (go_simp <;> exact rfl)); (focus (intro hb0; replace hb0 := hb0.out; go_simp <;> (first | exact rfl | exact h1 | exact ⟨h1, rfl⟩))); intro KK hKK; go_simp; refine hKK _ ?_; clear hKK KK) | ((apply vrun_consG1 rfl); (focus (go_simp <;> exact rfl)); (focus (go_simp; done)); (focus (intro hb0 hb1; replace hb0 := hb0.out; replace hb1 := hb1.out; go_simp <;> (first | exact rfl | exact h1 | exact ⟨h1, rfl⟩))); intro KK hKK; go_simp; refine hKK _ ?_; clear hKK KK) | ((apply vhrun_consG1 rfl); (focus (go_simp <;> exact rfl)); (focus (intro hb0 hb1; replace hb0 := hb0.out; replace hb1 := hb1.out; go_simp <;> (first | exact rfl | exact h1 | exact ⟨h1, rfl⟩))); intro KK hKK; go_simp; refine hKK _ ?_; clear hKK KK) | ((apply vrun_consG2 rfl); (focus (go_simp <;> exact rfl)); (focus (go_simp; done)); (focus (intro hb0 hb1 hb2; replace hb0 := hb0.out; replace hb1 := hb1.out; replace hb2 := hb2.out; go_simp <;> (first | exact rfl | exact h1 | exact ⟨h1, rfl⟩))); intro KK hKK; go_simp; refine hKK _ ?_; clear hKK KK) | ((apply vhrun_consG2 rfl); (focus (go_simp <;> exact rfl)); (focus (intro hb0 hb1 hb2; replace hb0 := hb0.out; replace hb1 := hb1.out; replace hb2 := hb2.out; go_simp <;> (first | exact rfl | exact h1 | exact ⟨h1, rfl⟩))); intro KK hKK; go_simp; refine hKK _ ?_; clear hKK KK) | ((apply vrun_consG3 rfl); (focus (go_simp <;> exact rfl)); (focus (go_simp; done)); (focus (intro hb0 hb1 hb2 hb3; replace hb0 := hb0.out; replace hb1 := hb1.out; replace hb2 := hb2.out; replace hb3 := hb3.out; go_simp <;> (first | exact rfl | exact h1 | exact ⟨h1, rfl⟩))); intro KK hKK; go_simp; refine hKK _ ?_; clear hKK KK) | ((apply vhrun_consG3 rfl); (focus (go_simp <;> exact rfl)); (focus (intro hb0 hb1 hb2 hb3; replace hb0 := hb0.out; replace hb1 := hb1.out; replace hb2 := hb2.out; replace hb3 := hb3.out; go_simp <;> (first | exact rfl | exact h1 | exact ⟨h1, rfl⟩))); intro KK hKK; go_simp; refine hKK _ ?_; clear hKK KK))
  go_simp
theorem r_CheckClaim (x : Item) (h : SmallI x) : VC Tryd.prog 38 [itemA x] (I (thingErr x)) := by
  have h1 := r_thingErr x h
  clear h
  generalize thingErr x = E at *
  refine VC_of Tryd.func38 rfl (by kernel_rfl) (by kernel_rfl) rfl fun M0 w0 => ?_
  simp only [Tryd.ntmps38, Tryd.results38, enumA]
  repeat' (first | (with_reducible refine vseq ?_) | (with_reducible refine vthenN ?_) | (with_reducible refine vthenE ?_) | (with_reducible refine vthenR ?_) | (with_reducible refine vret ?_) | (with_reducible refine vskip ?_) | (with_reducible refine vexit ?_) | (with_reducible refine vblock ?_) | (with_reducible refine vblockN ?_) | (with_reducible refine vblockR ?_) | (with_reducible refine vblockH ?_) | (with_reducible refine vrun_nil ?_) | (with_reducible refine vblockE rfl ?_) | (with_reducible refine vregion [] ?_) | (with_reducible refine vhrun_nil ?_) | ((with_reducible refine vcondT ?_ ?_); (focus (go_simp; done))) | ((with_reducible refine vcondF ?_ ?_); (focus (go_simp; done))) | ((with_reducible refine vrun_cons fun KK hKK => ?_); go_simp; (first | (with_reducible refine ⟨_, h1, ?_⟩) | skip); refine hKK _ ?_; clear hKK KK) | ((with_reducible refine vhrun_cons fun KK hKK => ?_); go_simp; (first | (with_reducible refine ⟨_, h1, ?_⟩) | skip); refine hKK _ ?_; clear hKK KK) | ((with_reducible refine vcondS ?_ (fun ht => ?_) (fun ht => ?_)); (focus (go_simp; done)); (all_goals (simp [go_sem] at ht; replace ht := ht.out))) | ((apply vrun_consG0 rfl); (focus (go_simp <;> exact rfl)); (focus (go_simp; done)); (focus (intro hb0; replace hb0 := hb0.out; go_simp <;> (first | exact rfl | exact h1 | exact ⟨h1, rfl⟩))); intro KK hKK; go_simp; refine hKK _ ?_; clear hKK KK) | ((apply vhrun_consG0 rfl); (focus (go_simp <;> exact rfl)); (focus (intro hb0; replace hb0 := hb0.out; go_simp <;> (first | exact rfl | exact h1 | exact ⟨h1, rfl⟩))); intro KK hKK; go_simp; refine hKK _ ?_; clear hKK KK) | ((apply vrun_consG1 rfl); (focus (go_simp <;> exact rfl)); (focus (go_simp; done)); (focus (intro hb0 hb1; replace hb0 := hb0.out; replace hb1 := hb1.out; go_simp <;> (first | exact rfl | exact h1 | exact ⟨h1, rfl⟩))); intro KK hKK; go_simp; refine hKK _ ?_; clear hKK KK) | ((apply vhrun_consG1 rfl); (focus (go_simp <;> exact rfl)); (focus (intro hb0 hb1; replace hb0 := hb0.out; replace hb1 := hb1.out; go_simp <;> (first | exact rfl | exact h1 | exact ⟨h1, rfl⟩))); intro KK hKK; go_simp; refine hKK _ ?_; clear hKK KK) | ((apply vrun_consG2 rfl); (focus (go_simp <;> exact rfl)); (focus (go_simp; done)); (focus (intro hb0 hb1 hb2; replace hb0 := hb0.out; replace hb1 := hb1.out; replace hb2 := hb2.out; go_simp <;> (first | exact rfl | exact h1 | exact ⟨h1, rfl⟩))); intro KK hKK; go_simp; refine hKK _ ?_; clear hKK KK) | ((apply vhrun_consG2 rfl); (focus (go_simp <;> exact rfl)); (focus (intro hb0 hb1 hb2; replace hb0 := hb0.out; replace hb1 := hb1.out; replace hb2 := hb2.out; go_simp <;> (first | exact rfl | exact h1 | exact ⟨h1, rfl⟩))); intro KK hKK; go_simp; refine hKK _ ?_; clear hKK KK) | ((apply vrun_consG3 rfl); (focus (go_simp <;> exact rfl)); (focus (go_simp; done)); (focus (intro hb0 hb1 hb2 hb3; replace hb0 := hb0.out; replace hb1 := hb1.out; replace hb2 := hb2.out; replace hb3 := hb3.out; go_simp <;> (first | exact rfl | exact h1 | exact ⟨h1, rfl⟩))); intro KK hKK; go_simp; refine hKK _ ?_; clear hKK KK) | ((apply vhrun_consG3 rfl); (focus (go_simp <;> exact rfl)); (focus (intro hb0 hb1 hb2 hb3; replace hb0 := hb0.out; replace hb1 := hb1.out; replace hb2 := hb2.out; replace hb3 := hb3.out; go_simp <;> (first | exact rfl | exact h1 | exact ⟨h1, rfl⟩))); intro KK hKK; go_simp; refine hKK _ ?_; clear hKK KK))
  go_simp
/-! ### Copies -/
theorem o_CopyMarks (l : List Mark) (hl : l.length ≤ 1000000) : VCo Tryd.prog 32 [marksA l] 125 2 false (l.map Mark.av) := by
  refine VCo_of Tryd.func32 rfl (by kernel_rfl) (by kernel_rfl) rfl Tryd.results32 (by decide) (fun k x hx => by obtain ⟨y, hy, rfl⟩ := map_at hx; exact ⟨rfl, by simp [Mark.av, oneAV, Value.oneCell']⟩) fun M0 w0 => ?_
  simp only [Tryd.ntmps32, enumA]
  have hl2 : l.length ≤ 1000000000 := by omega
  repeat (first | (with_reducible refine vseq ?_) | (with_reducible refine vthenN ?_) | (with_reducible refine vthenE ?_) | (with_reducible refine vthenR ?_) | (with_reducible refine vret ?_) | (with_reducible refine vskip ?_) | (with_reducible refine vexit ?_) | (with_reducible refine vblock ?_) | (with_reducible refine vblockN ?_) | (with_reducible refine vblockR ?_) | (with_reducible refine vblockH ?_) | (with_reducible refine vrun_nil ?_) | (with_reducible refine vblockE rfl ?_) | (with_reducible refine vregion [3] ?_) | (with_reducible refine vhrun_nil ?_) | ((with_reducible refine vcondT ?_ ?_); (focus (go_simp; done))) | ((with_reducible refine vcondF ?_ ?_); (focus (go_simp; done))) | ((with_reducible refine vrun_cons fun KK hKK => ?_); go_simp; refine hKK _ ?_; clear hKK KK) | ((with_reducible refine vhrun_cons fun KK hKK => ?_); go_simp; refine hKK _ ?_; clear hKK KK))
  exact ⟨0, rfl, rfl⟩
theorem v_CopyItem (x : Item) (hl : x.marks.length ≤ 1000000) : VC Tryd.prog 16 [itemA x] (itemA x) := by
  have h1 := VC_of_own (o_CopyMarks x.marks hl)
  refine VC_of Tryd.func16 rfl (by kernel_rfl) (by kernel_rfl) rfl fun M0 w0 => ?_
  simp only [Tryd.ntmps16, Tryd.results16, enumA]
  repeat' (first | (with_reducible refine vseq ?_) | (with_reducible refine vthenN ?_) | (with_reducible refine vthenE ?_) | (with_reducible refine vthenR ?_) | (with_reducible refine vret ?_) | (with_reducible refine vskip ?_) | (with_reducible refine vexit ?_) | (with_reducible refine vblock ?_) | (with_reducible refine vblockN ?_) | (with_reducible refine vblockR ?_) | (with_reducible refine vblockH ?_) | (with_reducible refine vrun_nil ?_) | (with_reducible refine vblockE rfl ?_) | (with_reducible refine vregion [1] ?_) | (with_reducible refine vhrun_nil ?_) | ((with_reducible refine vcondT ?_ ?_); (focus (go_simp; done))) | ((with_reducible refine vcondF ?_ ?_); (focus (go_simp; done))) | ((with_reducible refine vrun_cons fun KK hKK => ?_); go_simp; (first | (with_reducible refine ⟨_, h1, ?_⟩) | skip); refine hKK _ ?_; clear hKK KK) | ((with_reducible refine vhrun_cons fun KK hKK => ?_); go_simp; (first | (with_reducible refine ⟨_, h1, ?_⟩) | skip); refine hKK _ ?_; clear hKK KK) | ((with_reducible refine vcondS ?_ (fun ht => ?_) (fun ht => ?_)); (focus (go_simp; done)); (all_goals (simp [go_sem] at ht; replace ht := ht.out))) | ((apply vrun_consG0 rfl); (focus (go_simp <;> exact rfl)); (focus (go_simp; done)); (focus (intro hb0; replace hb0 := hb0.out; go_simp <;> (first | exact rfl | exact h1 | exact ⟨h1, rfl⟩))); intro KK hKK; go_simp; refine hKK _ ?_; clear hKK KK) | ((apply vhrun_consG0 rfl); (focus (go_simp <;> exact rfl)); (focus (intro hb0; replace hb0 := hb0.out; go_simp <;> (first | exact rfl | exact h1 | exact ⟨h1, rfl⟩))); intro KK hKK; go_simp; refine hKK _ ?_; clear hKK KK) | ((apply vrun_consG1 rfl); (focus (go_simp <;> exact rfl)); (focus (go_simp; done)); (focus (intro hb0 hb1; replace hb0 := hb0.out; replace hb1 := hb1.out; go_simp <;> (first | exact rfl | exact h1 | exact ⟨h1, rfl⟩))); intro KK hKK; go_simp; refine hKK _ ?_; clear hKK KK) | ((apply vhrun_consG1 rfl); (focus (go_simp <;> exact rfl)); (focus (intro hb0 hb1; replace hb0 := hb0.out; replace hb1 := hb1.out; go_simp <;> (first | exact rfl | exact h1 | exact ⟨h1, rfl⟩))); intro KK hKK; go_simp; refine hKK _ ?_; clear hKK KK) | ((apply vrun_consG2 rfl); (focus (go_simp <;> exact rfl)); (focus (go_simp; done)); (focus (intro hb0 hb1 hb2; replace hb0 := hb0.out; replace hb1 := hb1.out; replace hb2 := hb2.out; go_simp <;> (first | exact rfl | exact h1 | exact ⟨h1, rfl⟩))); intro KK hKK; go_simp; refine hKK _ ?_; clear hKK KK) | ((apply vhrun_consG2 rfl); (focus (go_simp <;> exact rfl)); (focus (intro hb0 hb1 hb2; replace hb0 := hb0.out; replace hb1 := hb1.out; replace hb2 := hb2.out; go_simp <;> (first | exact rfl | exact h1 | exact ⟨h1, rfl⟩))); intro KK hKK; go_simp; refine hKK _ ?_; clear hKK KK) | ((apply vrun_consG3 rfl); (focus (go_simp <;> exact rfl)); (focus (go_simp; done)); (focus (intro hb0 hb1 hb2 hb3; replace hb0 := hb0.out; replace hb1 := hb1.out; replace hb2 := hb2.out; replace hb3 := hb3.out; go_simp <;> (first | exact rfl | exact h1 | exact ⟨h1, rfl⟩))); intro KK hKK; go_simp; refine hKK _ ?_; clear hKK KK) | ((apply vhrun_consG3 rfl); (focus (go_simp <;> exact rfl)); (focus (intro hb0 hb1 hb2 hb3; replace hb0 := hb0.out; replace hb1 := hb1.out; replace hb2 := hb2.out; replace hb3 := hb3.out; go_simp <;> (first | exact rfl | exact h1 | exact ⟨h1, rfl⟩))); intro KK hKK; go_simp; refine hKK _ ?_; clear hKK KK))
  go_simp
theorem v_CopyClaim (x : Item) (hl : x.marks.length ≤ 1000000) : VC Tryd.prog 37 [itemA x] (itemA x) := by
  have h1 := VC_of_own (o_CopyMarks x.marks hl)
  refine VC_of Tryd.func37 rfl (by kernel_rfl) (by kernel_rfl) rfl fun M0 w0 => ?_
  simp only [Tryd.ntmps37, Tryd.results37, enumA]
  repeat' (first | (with_reducible refine vseq ?_) | (with_reducible refine vthenN ?_) | (with_reducible refine vthenE ?_) | (with_reducible refine vthenR ?_) | (with_reducible refine vret ?_) | (with_reducible refine vskip ?_) | (with_reducible refine vexit ?_) | (with_reducible refine vblock ?_) | (with_reducible refine vblockN ?_) | (with_reducible refine vblockR ?_) | (with_reducible refine vblockH ?_) | (with_reducible refine vrun_nil ?_) | (with_reducible refine vblockE rfl ?_) | (with_reducible refine vregion [1] ?_) | (with_reducible refine vhrun_nil ?_) | ((with_reducible refine vcondT ?_ ?_); (focus (go_simp; done))) | ((with_reducible refine vcondF ?_ ?_); (focus (go_simp; done))) | ((with_reducible refine vrun_cons fun KK hKK => ?_); go_simp; (first | (with_reducible refine ⟨_, h1, ?_⟩) | skip); refine hKK _ ?_; clear hKK KK) | ((with_reducible refine vhrun_cons fun KK hKK => ?_); go_simp; (first | (with_reducible refine ⟨_, h1, ?_⟩) | skip); refine hKK _ ?_; clear hKK KK) | ((with_reducible refine vcondS ?_ (fun ht => ?_) (fun ht => ?_)); (focus (go_simp; done)); (all_goals (simp [go_sem] at ht; replace ht := ht.out))) | ((apply vrun_consG0 rfl); (focus (go_simp <;> exact rfl)); (focus (go_simp; done)); (focus (intro hb0; replace hb0 := hb0.out; go_simp <;> (first | exact rfl | exact h1 | exact ⟨h1, rfl⟩))); intro KK hKK; go_simp; refine hKK _ ?_; clear hKK KK) | ((apply vhrun_consG0 rfl); (focus (go_simp <;> exact rfl)); (focus (intro hb0; replace hb0 := hb0.out; go_simp <;> (first | exact rfl | exact h1 | exact ⟨h1, rfl⟩))); intro KK hKK; go_simp; refine hKK _ ?_; clear hKK KK) | ((apply vrun_consG1 rfl); (focus (go_simp <;> exact rfl)); (focus (go_simp; done)); (focus (intro hb0 hb1; replace hb0 := hb0.out; replace hb1 := hb1.out; go_simp <;> (first | exact rfl | exact h1 | exact ⟨h1, rfl⟩))); intro KK hKK; go_simp; refine hKK _ ?_; clear hKK KK) | ((apply vhrun_consG1 rfl); (focus (go_simp <;> exact rfl)); (focus (intro hb0 hb1; replace hb0 := hb0.out; replace hb1 := hb1.out; go_simp <;> (first | exact rfl | exact h1 | exact ⟨h1, rfl⟩))); intro KK hKK; go_simp; refine hKK _ ?_; clear hKK KK) | ((apply vrun_consG2 rfl); (focus (go_simp <;> exact rfl)); (focus (go_simp; done)); (focus (intro hb0 hb1 hb2; replace hb0 := hb0.out; replace hb1 := hb1.out; replace hb2 := hb2.out; go_simp <;> (first | exact rfl | exact h1 | exact ⟨h1, rfl⟩))); intro KK hKK; go_simp; refine hKK _ ?_; clear hKK KK) | ((apply vhrun_consG2 rfl); (focus (go_simp <;> exact rfl)); (focus (intro hb0 hb1 hb2; replace hb0 := hb0.out; replace hb1 := hb1.out; replace hb2 := hb2.out; go_simp <;> (first | exact rfl | exact h1 | exact ⟨h1, rfl⟩))); intro KK hKK; go_simp; refine hKK _ ?_; clear hKK KK) | ((apply vrun_consG3 rfl); (focus (go_simp <;> exact rfl)); (focus (go_simp; done)); (focus (intro hb0 hb1 hb2 hb3; replace hb0 := hb0.out; replace hb1 := hb1.out; replace hb2 := hb2.out; replace hb3 := hb3.out; go_simp <;> (first | exact rfl | exact h1 | exact ⟨h1, rfl⟩))); intro KK hKK; go_simp; refine hKK _ ?_; clear hKK KK) | ((apply vhrun_consG3 rfl); (focus (go_simp <;> exact rfl)); (focus (intro hb0 hb1 hb2 hb3; replace hb0 := hb0.out; replace hb1 := hb1.out; replace hb2 := hb2.out; replace hb3 := hb3.out; go_simp <;> (first | exact rfl | exact h1 | exact ⟨h1, rfl⟩))); intro KK hKK; go_simp; refine hKK _ ?_; clear hKK KK))
  go_simp
theorem o_CopyEvents (l : List Event) (hl : l.length ≤ 1000000) : VCo Tryd.prog 17 [eventsA l] 48 5 false (l.map Event.av) := by
  refine VCo_of Tryd.func17 rfl (by kernel_rfl) (by kernel_rfl) rfl Tryd.results17 (by decide) (fun k x hx => by obtain ⟨y, hy, rfl⟩ := map_at hx; exact ⟨rfl, by simp [Event.av, oneAV, Value.oneCell']⟩) fun M0 w0 => ?_
  simp only [Tryd.ntmps17, enumA]
  have hl2 : l.length ≤ 1000000000 := by omega
  repeat (first | (with_reducible refine vseq ?_) | (with_reducible refine vthenN ?_) | (with_reducible refine vthenE ?_) | (with_reducible refine vthenR ?_) | (with_reducible refine vret ?_) | (with_reducible refine vskip ?_) | (with_reducible refine vexit ?_) | (with_reducible refine vblock ?_) | (with_reducible refine vblockN ?_) | (with_reducible refine vblockR ?_) | (with_reducible refine vblockH ?_) | (with_reducible refine vrun_nil ?_) | (with_reducible refine vblockE rfl ?_) | (with_reducible refine vregion [3] ?_) | (with_reducible refine vhrun_nil ?_) | ((with_reducible refine vcondT ?_ ?_); (focus (go_simp; done))) | ((with_reducible refine vcondF ?_ ?_); (focus (go_simp; done))) | ((with_reducible refine vrun_cons fun KK hKK => ?_); go_simp; refine hKK _ ?_; clear hKK KK) | ((with_reducible refine vhrun_cons fun KK hKK => ?_); go_simp; refine hKK _ ?_; clear hKK KK))
  exact ⟨0, rfl, rfl⟩
end Go.Proofs.YthbgghmjbaldlaaDoor
