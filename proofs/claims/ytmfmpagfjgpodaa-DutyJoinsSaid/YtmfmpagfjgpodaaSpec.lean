/- What the functions of chapter 7 compute, as plain functions; no condition. -/
import Derived.Test.YtmfmpagfjgpodaaMem
namespace Go.Proofs.Ytmfmpagfjgpodaa
open Go.RowKit

/-- A record, a licence or a use. -/
structure Rec where
  driver : ByteArray
  lo : Int
  hi : Int
instance : Inhabited Rec := ⟨⟨ByteArray.empty, 0, 0⟩⟩
/-- Its value. -/
def Rec.val (r : Rec) : Value := .agg #[.string r.driver, .int .i64 r.lo, .int .i64 r.hi]

def Rec.cells (r : Rec) : List Value := [.string r.driver, .int .i64 r.lo, .int .i64 r.hi]
theorem Rec.cells_len (r : Rec) : r.cells.length = 3 := rfl
def intC (n : Int) : List Value := [.int .i64 n]
def strC (s : ByteArray) : List Value := [.string s]
def pairC (p : Int × Int) : List Value := [.int .i64 p.1, .int .i64 p.2]

theorem Sl.recAt {w : World} {A : Option Addr} {l : List Rec} (h : Sl Rec.cells 3 w A l) {k : Nat} (hk : k < l.length) :
    ∃ b o, A = some ⟨b, o, none⟩ ∧ w.cell? ⟨b, o + k * 3, none⟩ = some (.string l[k].driver) ∧ w.cell? ⟨b, o + k * 3 + 1, none⟩ = some (.int .i64 l[k].lo) ∧ w.cell? ⟨b, o + k * 3 + 2, none⟩ = some (.int .i64 l[k].hi) := by
  obtain ⟨b, o, hA, hc⟩ := h.at_ hk
  exact ⟨b, o, hA, hc 0 _ rfl, hc 1 _ rfl, hc 2 _ rfl⟩
theorem Sl.intAt {w : World} {A : Option Addr} {l : List Int} (h : Sl intC 1 w A l) {k : Nat} (hk : k < l.length) :
    ∃ b o, A = some ⟨b, o, none⟩ ∧ w.cell? ⟨b, o + k, none⟩ = some (.int .i64 l[k]) := by
  obtain ⟨b, o, hA, hc⟩ := h.at_ hk
  exact ⟨b, o, hA, by simpa using hc 0 _ rfl⟩
theorem Sl.strAt {w : World} {A : Option Addr} {l : List ByteArray} (h : Sl strC 1 w A l) {k : Nat} (hk : k < l.length) :
    ∃ b o, A = some ⟨b, o, none⟩ ∧ w.cell? ⟨b, o + k, none⟩ = some (.string l[k]) := by
  obtain ⟨b, o, hA, hc⟩ := h.at_ hk
  exact ⟨b, o, hA, by simpa using hc 0 _ rfl⟩
theorem Sl.pairAt {w : World} {A : Option Addr} {l : List (Int × Int)} (h : Sl pairC 2 w A l) {k : Nat} (hk : k < l.length) :
    ∃ b o, A = some ⟨b, o, none⟩ ∧ w.cell? ⟨b, o + k * 2, none⟩ = some (.int .i64 l[k].1) ∧ w.cell? ⟨b, o + k * 2 + 1, none⟩ = some (.int .i64 l[k].2) := by
  obtain ⟨b, o, hA, hc⟩ := h.at_ hk
  exact ⟨b, o, hA, hc 0 _ rfl, hc 1 _ rfl⟩

/-! ### Numbers and errors -/
def inR (n lo hi : Int) : Bool := decide (lo ≤ n) && decide (n ≤ hi)
def unl (c : Bool) (e : Int) : Int := if c then 0 else e
def fst : List Int → Int
  | [] => 0
  | x :: r => if x ≠ 0 then x else fst r
def isTime (n : Int) : Bool := inR n 0 8640000000
def isTake (n : Int) : Bool := inR n 0 200000
def isDate (n : Int) : Bool := inR n 0 100000
theorem inR_iff {n lo hi : Int} : inR n lo hi = true ↔ lo ≤ n ∧ n ≤ hi := by simp [inR]
theorem inR_no {n lo hi : Int} : inR n lo hi = false ↔ n < lo ∨ hi < n := by simp [inR]; omega
/-- A byte of a name, by its place. -/
def okChar (i : Nat) (n : Int) : Bool :=
  (decide (97 ≤ n) && decide (n ≤ 122)) || (decide (65 ≤ n) && decide (n ≤ 90)) || (decide (i ≠ 0) && (decide (n = 45) || (decide (48 ≤ n) && decide (n ≤ 57))))
theorem okChar_iff {i : Nat} {n : Int} : okChar i n = true ↔ (97 ≤ n ∧ n ≤ 122) ∨ (65 ≤ n ∧ n ≤ 90) ∨ (i ≠ 0 ∧ (n = 45 ∨ (48 ≤ n ∧ n ≤ 57))) := by
  simp [okChar, or_assoc]
def okTo (s : ByteArray) (n : Nat) : Bool := (List.range n).all fun i => okChar i (byteAt s i).toNat
theorem okTo_succ (s : ByteArray) (n : Nat) : okTo s (n + 1) = (okTo s n && okChar n (byteAt s n).toNat) := by
  simp [okTo, List.range_succ]
theorem okTo_no (s : ByteArray) {n m : Nat} (h : n < m) (ho : okChar n (byteAt s n).toNat = false) : okTo s m = false := by
  unfold okTo
  rw [List.all_eq_false]
  exact ⟨n, by simpa using h, by simp [ho]⟩
def isName (s : ByteArray) : Bool := decide (1 ≤ s.size) && decide (s.size ≤ 12) && okTo s s.size
def timeErr (n : Int) : Int := unl (isTime n) 2
def dateErr (n : Int) : Int := unl (isDate n) 2
def nameErr (s : ByteArray) : Int := unl (isName s) 4
def spanErr (lo hi : Int) : Int := if isTime lo && isTime hi then (if lo < hi then 0 else 9) else 2
def recErr (r : Rec) : Int := if isName r.driver then spanErr r.lo r.hi else 4
theorem spanErr_fst (lo hi : Int) : fst [timeErr lo, timeErr hi, unl (decide (hi > lo)) 9] = spanErr lo hi := by
  unfold timeErr spanErr unl
  cases isTime lo <;> cases isTime hi <;> by_cases h : lo < hi <;> simp [fst, h]
theorem recErr_fst (r : Rec) : fst [nameErr r.driver, spanErr r.lo r.hi] = recErr r := by
  unfold nameErr recErr unl
  cases isName r.driver <;> simp [fst]
  omega

/-! ### Checks of lists -/
/-- The first k below n with E k ≠ 0, and that error; (0, 0) if there is none. -/
def firstErr (E : Nat → Int) : Nat → Nat → Nat × Int
  | _, 0 => (0, 0)
  | k, n + 1 => if E k ≠ 0 then (k, E k) else firstErr E (k + 1) n
theorem firstErr_at {E : Nat → Int} {k n : Nat} (h : k < n) : firstErr E k (n - k) = if E k ≠ 0 then (k, E k) else firstErr E (k + 1) (n - (k + 1)) := by
  rw [show n - k = (n - (k + 1)) + 1 by omega, firstErr]
def checkL (n : Nat) (most : Int) (E : Nat → Int) : Nat × Int := if (n : Int) > most then (0, 8) else firstErr E 0 n

def sameS (a b : ByteArray) : Bool := a.toList == b.toList
theorem sameS_iff {a b : ByteArray} : sameS a b = true ↔ a = b := by
  unfold sameS
  rw [beq_iff_eq, toList_data, toList_data]
  constructor
  · intro h
    cases a
    cases b
    congr
    exact Array.toList_inj.1 h
  · exact fun h => by rw [h]
def rat (l : List Rec) (k : Nat) : Rec := l.getD k default
theorem rat_get {l : List Rec} {k : Nat} (h : k < l.length) : rat l k = l[k] := by simp [rat, h]
/-- No text is long. -/
def Small (l : List Rec) : Prop := ∀ x ∈ l, x.driver.size ≤ 1000
theorem Small.at_ {l : List Rec} (h : Small l) {k : Nat} (hk : k < l.length) : l[k].driver.size ≤ 1000 := h _ (List.getElem_mem hk)
/-- The error of record number k of one driver, or of any. -/
def chkE (one : Bool) (l : List Rec) (k : Nat) : Int :=
  if recErr (rat l k) ≠ 0 then recErr (rat l k)
  else if k = 0 then 0
  else if one && !sameS (rat l k).driver (rat l (k - 1)).driver then 13
  else if (rat l k).lo < (rat l (k - 1)).hi then 26 else 0
theorem chkE_one (l : List Rec) {k : Nat} (hk : k ≠ 0) : fst [recErr (rat l k), unl (sameS (rat l k).driver (rat l (k - 1)).driver) 13, unl (decide ((rat l (k - 1)).hi ≤ (rat l k).lo)) 26] = chkE true l k := by
  unfold chkE unl
  by_cases h1 : recErr (rat l k) = 0 <;> cases h2 : sameS (rat l k).driver (rat l (k - 1)).driver <;> by_cases h3 : (rat l (k - 1)).hi ≤ (rat l k).lo <;> simp [fst, h1, hk, h3] <;> omega
theorem chkE_zero (one : Bool) (l : List Rec) : chkE one l 0 = recErr (rat l 0) := by
  unfold chkE
  by_cases h1 : recErr (rat l 0) = 0 <;> simp [h1]
theorem chkE_any (l : List Rec) {k : Nat} (hk : k ≠ 0) : fst [recErr (rat l k), unl (decide ((rat l (k - 1)).hi ≤ (rat l k).lo)) 26] = chkE false l k := by
  unfold chkE unl
  by_cases h1 : recErr (rat l k) = 0 <;> by_cases h3 : (rat l (k - 1)).hi ≤ (rat l k).lo <;> simp [fst, h1, hk, h3] <;> omega
def checkRecs (one : Bool) (l : List Rec) : Nat × Int := checkL l.length 40 (chkE one l)

end Go.Proofs.Ytmfmpagfjgpodaa
