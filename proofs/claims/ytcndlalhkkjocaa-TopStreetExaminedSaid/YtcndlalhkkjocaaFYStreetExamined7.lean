/- Texts in one: Chapter 4: what its functions compute, as plain functions; no condition. -/
import Derived.Test.YtcndlalhkkjocaaFYStreetExamined6
import Derived.Test.YtcndlalhkkjocaaFYStreetExamined5
/-! P13: Chapter 4: what its functions compute, as plain functions; no condition. -/
namespace Go.Proofs.Ytcndlalhkkjocaa
open Go.RowKit
/-- A rank of the rules. -/
structure Rk where
  name : ByteArray
  places : Int
  feeder : Int
  called : Bool
instance : Inhabited Rk := ⟨⟨ByteArray.empty, 0, 0, false⟩⟩
@[go_sem] def Rk.av (x : Rk) : List AV := [S x.name, I x.places, I x.feeder, B x.called]
def rat (l : List Rk) (k : Nat) : Rk := l.getD k default
theorem rat_get {l : List Rk} {k : Nat} (h : k < l.length) : rat l k = l[k] := by simp [rat, h]
/-- The rules. -/
structure Ru where
  ranks : List Rk
  back : Int
  ret : Int
/-- A car that was taken. -/
structure Tk where
  car : ByteArray
  rank : Int
  time : Int
instance : Inhabited Tk := ⟨⟨ByteArray.empty, 0, 0⟩⟩
@[go_sem] def Tk.av (x : Tk) : List AV := [S x.car, I x.rank, I x.time]
def tkat (l : List Tk) (k : Nat) : Tk := l.getD k default
theorem tkat_get {l : List Tk} {k : Nat} (h : k < l.length) : tkat l k = l[k] := by simp [tkat, h]
/-- An event. -/
structure Ev where
  kind : Int
  time : Int
  rank : Int
  car : ByteArray
instance : Inhabited Ev := ⟨⟨0, 0, 0, ByteArray.empty⟩⟩
@[go_sem] def Ev.av (x : Ev) : List AV := [I x.kind, I x.time, I x.rank, S x.car]
def evat (l : List Ev) (k : Nat) : Ev := l.getD k default
theorem evat_get {l : List Ev} {k : Nat} (h : k < l.length) : evat l k = l[k] := by simp [evat, h]
/-- A sighting. -/
structure Sg where
  kind : Int
  rank : Int
  car : ByteArray
instance : Inhabited Sg := ⟨⟨0, 0, ByteArray.empty⟩⟩
@[go_sem] def Sg.av (x : Sg) : List AV := [I x.kind, I x.rank, S x.car]
def sgat (l : List Sg) (k : Nat) : Sg := l.getD k default
theorem sgat_get {l : List Sg} {k : Nat} (h : k < l.length) : sgat l k = l[k] := by simp [sgat, h]
abbrev nil_ : AV := .lit (.slice none 0 0)
/-- Rows of texts, as a row of rows has them, and as a slice of slices. -/
def rowsC (q : List (List ByteArray)) : List (List (List AV)) := q.map fun l => l.map txtA
theorem rowsC_len (q : List (List ByteArray)) : (rowsC q).length = q.length := by simp [rowsC]
def qat (q : List (List ByteArray)) (k : Nat) : List ByteArray := q.getD k []
theorem qat_get {q : List (List ByteArray)} {k : Nat} (h : k < q.length) : qat q k = q[k] := by simp [qat, h]
theorem rowsC_get {q : List (List ByteArray)} {k : Nat} : (rowsC q).getD k [] = (qat q k).map txtA := by
  unfold rowsC qat
  rw [List.getD_eq_getElem?_getD, List.getElem?_map, List.getD_eq_getElem?_getD]
  cases q[k]? <;> rfl
theorem rowsC_at {q : List (List ByteArray)} {k : Nat} (h : k < (rowsC q).length) : (rowsC q)[k] = (qat q k).map txtA := by
  have hq : k < q.length := by rw [← rowsC_len]; exact h
  rw [qat_get hq]
  simp [rowsC]
theorem rk_at {l : List Rk} {k : Nat} (h : k < l.length) : l[k] = rat l k := (rat_get h).symm
theorem tk_at {l : List Tk} {k : Nat} (h : k < l.length) : l[k] = tkat l k := (tkat_get h).symm
theorem ev_at {l : List Ev} {k : Nat} (h : k < l.length) : l[k] = evat l k := (evat_get h).symm
theorem sg_at {l : List Sg} {k : Nat} (h : k < l.length) : l[k] = sgat l k := (sgat_get h).symm
attribute [go_sem] rowsC_len rowsC_get rowsC_at rk_at tk_at ev_at sg_at
/-- A state. -/
structure St where
  q : List (List ByteArray)
  tk : List Tk
  time : Int
/-- Small numbers behind one another. -/
theorem ixs {m : Nat} (h : m ≤ 1000000000) : IntKind.i64.wrap (m : Int) = m ∧ IntKind.i64.wrap ((m : Int) + 1) = m + 1 ∧ ((m : Int) + 1).toNat = m + 1 ∧ (0 : Int) ≤ (m : Int) + 1 ∧ (0 : Int) < (m : Int) + 1 ∧ IntKind.i64.wrap ((m : Int) + 1 + 1) = m + 1 + 1 :=
  ⟨wrap_eq (by omega) (by omega), wrap_eq (by omega) (by omega), by omega, by omega, by omega, wrap_eq (by omega) (by omega)⟩
theorem wrap1 : IntKind.i64.wrap 1 = 1 := rfl
attribute [go_sem] wrap1
/-- Whether some k below n has p. -/
def anyP (p : Nat → Bool) (k n : Nat) : Bool := (List.range n).any fun j => p (k + j)
theorem anyP_hit {p : Nat → Bool} {k n : Nat} (hk : k < n) (h : p k = true) : anyP p 0 n = true := by
  unfold anyP
  rw [List.any_eq_true]
  exact ⟨k, List.mem_range.2 hk, by simpa using h⟩
theorem anyP_out {p : Nat → Bool} {n : Nat} (h : ∀ j, j < n → p j = false) : anyP p 0 n = false := by
  unfold anyP
  rw [List.any_eq_false]
  intro j hj
  simp [h j (List.mem_range.1 hj)]
end Go.Proofs.Ytcndlalhkkjocaa
