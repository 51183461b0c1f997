/- Texts in one: Chapter 4: what its functions compute, as plain functions; no condition. -/
import Derived.Test.YtmfmpagfjgpodaaGreatDoorFW7
import Derived.Test.YtmfmpagfjgpodaaGreatDoorFW8
/-! P13: Chapter 4: what its functions compute, as plain functions; no condition. -/
namespace Go.Proofs.YtmfmpagfjgpodaaGreatDoor
open Go.RowKit
/-- A rank of the rules. -/
structure Rk where
  name : ByteArray
  places : Int
  feeder : Int
  called : Bool
instance : Inhabited Rk := ⟨⟨ByteArray.empty, 0, 0, false⟩⟩
@[go_sem] def Rk.av (x : Rk) : List AV := [S x.name, I x.places, I x.feeder, B x.called]
def rat (l : List Rk) (k : Nat) : Rk := l.getD k default
theorem rat_get {l : List Rk} {k : Nat} (h : k < l.length) : rat l k = l[k] := by simp [rat, h]
/-- The rules. -/
structure Ru where
  ranks : List Rk
  back : Int
  ret : Int
abbrev ranksA (l : List Rk) : AV := .sl 4 (l.map Rk.av)
abbrev rulesA (r : Ru) : AV := .agg [.sl 4 (r.ranks.map Rk.av), I r.back, I r.ret]
/-- A car that was taken. -/
structure Tk where
  car : ByteArray
  rank : Int
  time : Int
instance : Inhabited Tk := ⟨⟨ByteArray.empty, 0, 0⟩⟩
@[go_sem] def Tk.av (x : Tk) : List AV := [S x.car, I x.rank, I x.time]
def tkat (l : List Tk) (k : Nat) : Tk := l.getD k default
theorem tkat_get {l : List Tk} {k : Nat} (h : k < l.length) : tkat l k = l[k] := by simp [tkat, h]
/-- An event. -/
structure Ev where
  kind : Int
  time : Int
  rank : Int
  car : ByteArray
instance : Inhabited Ev := ⟨⟨0, 0, 0, ByteArray.empty⟩⟩
@[go_sem] def Ev.av (x : Ev) : List AV := [I x.kind, I x.time, I x.rank, S x.car]
abbrev evA (x : Ev) : AV := .agg [I x.kind, I x.time, I x.rank, S x.car]
abbrev evsA (l : List Ev) : AV := .sl 4 (l.map Ev.av)
def evat (l : List Ev) (k : Nat) : Ev := l.getD k default
theorem evat_get {l : List Ev} {k : Nat} (h : k < l.length) : evat l k = l[k] := by simp [evat, h]
/-- A sighting. -/
structure Sg where
  kind : Int
  rank : Int
  car : ByteArray
instance : Inhabited Sg := ⟨⟨0, 0, ByteArray.empty⟩⟩
@[go_sem] def Sg.av (x : Sg) : List AV := [I x.kind, I x.rank, S x.car]
abbrev sgsA (l : List Sg) : AV := .sl 3 (l.map Sg.av)
def sgat (l : List Sg) (k : Nat) : Sg := l.getD k default
theorem sgat_get {l : List Sg} {k : Nat} (h : k < l.length) : sgat l k = l[k] := by simp [sgat, h]
abbrev txtsA (l : List ByteArray) : AV := .sl 1 (l.map txtA)
abbrev nil_ : AV := .lit (.slice none 0 0)
/-- Rows of texts, as a row of rows has them, and as a slice of slices. -/
def rowsC (q : List (List ByteArray)) : List (List (List AV)) := q.map fun l => l.map txtA
def slC (l : List (List AV)) : List AV := [.sl 1 l]
abbrev queuesA (q : List (List ByteArray)) : AV := .sl 1 ((rowsC q).map fun l => [.sl 1 l])
theorem rowsC_len (q : List (List ByteArray)) : (rowsC q).length = q.length := by simp [rowsC]
def qat (q : List (List ByteArray)) (k : Nat) : List ByteArray := q.getD k []
theorem qat_get {q : List (List ByteArray)} {k : Nat} (h : k < q.length) : qat q k = q[k] := by simp [qat, h]
theorem rowsC_get {q : List (List ByteArray)} {k : Nat} : (rowsC q).getD k [] = (qat q k).map txtA := by
  unfold rowsC qat
  rw [List.getD_eq_getElem?_getD, List.getElem?_map, List.getD_eq_getElem?_getD]
  cases q[k]? <;> rfl
theorem rowsC_sl {q : List (List ByteArray)} {k : Nat} (h : k < q.length) : ((rowsC q).map fun l => [AV.sl 1 l]).getD k [] = [.sl 1 ((qat q k).map txtA)] := by
  rw [← rowsC_get]
  simp [rowsC, h]
theorem rowsC_set {q : List (List ByteArray)} {k : Nat} {l : List ByteArray} : (rowsC q).set k (l.map txtA) = rowsC (q.set k l) := by
  unfold rowsC
  rw [List.map_set]
theorem rowsC_at {q : List (List ByteArray)} {k : Nat} (h : k < (rowsC q).length) : (rowsC q)[k] = (qat q k).map txtA := by
  have hq : k < q.length := by rw [← rowsC_len]; exact h
  rw [qat_get hq]
  simp [rowsC]
theorem rk_at {l : List Rk} {k : Nat} (h : k < l.length) : l[k] = rat l k := (rat_get h).symm
theorem tk_at {l : List Tk} {k : Nat} (h : k < l.length) : l[k] = tkat l k := (tkat_get h).symm
theorem ev_at {l : List Ev} {k : Nat} (h : k < l.length) : l[k] = evat l k := (evat_get h).symm
theorem sg_at {l : List Sg} {k : Nat} (h : k < l.length) : l[k] = sgat l k := (sgat_get h).symm
attribute [go_sem] rowsC_len rowsC_get rowsC_at rk_at tk_at ev_at sg_at
/-- A state. -/
structure St where
  q : List (List ByteArray)
  tk : List Tk
  time : Int
abbrev stateA (s : St) : AV := .agg [queuesA s.q, .sl 3 (s.tk.map Tk.av), I s.time]
/-- A town that is only looked at: rules, a state, how cars moved up. -/
abbrev townA (r : Ru) (s : St) (mv : List Sg) : AV := .vp [queuesA s.q, .sl 3 (s.tk.map Tk.av), I s.time, .sl 4 (r.ranks.map Rk.av), I r.back, I r.ret, .sl 3 (mv.map Sg.av)]
/-- Small numbers behind one another. -/
theorem ixs {m : Nat} (h : m ≤ 1000000000) : IntKind.i64.wrap (m : Int) = m ∧ IntKind.i64.wrap ((m : Int) + 1) = m + 1 ∧ ((m : Int) + 1).toNat = m + 1 ∧ (0 : Int) ≤ (m : Int) + 1 ∧ (0 : Int) < (m : Int) + 1 ∧ IntKind.i64.wrap ((m : Int) + 1 + 1) = m + 1 + 1 :=
  ⟨wrap_eq (by omega) (by omega), wrap_eq (by omega) (by omega), by omega, by omega, by omega, wrap_eq (by omega) (by omega)⟩
theorem wrap1 : IntKind.i64.wrap 1 = 1 := rfl
attribute [go_sem] wrap1
/-- Whether some k below n has p. -/
def anyP (p : Nat → Bool) (k n : Nat) : Bool := (List.range n).any fun j => p (k + j)
theorem anyP_hit {p : Nat → Bool} {k n : Nat} (hk : k < n) (h : p k = true) : anyP p 0 n = true := by
  unfold anyP
  rw [List.any_eq_true]
  exact ⟨k, List.mem_range.2 hk, by simpa using h⟩
theorem anyP_out {p : Nat → Bool} {n : Nat} (h : ∀ j, j < n → p j = false) : anyP p 0 n = false := by
  unfold anyP
  rw [List.any_eq_false]
  intro j hj
  simp [h j (List.mem_range.1 hj)]
/-- The first k below n that has p, or -1. -/
def ixP (p : Nat → Bool) (k : Nat) : Nat → Int
  | 0 => -1
  | n + 1 => if p k then k else ixP p (k + 1) n
theorem ixP_from {p : Nat → Bool} : ∀ (n k i : Nat), k ≤ i → i < k + n → (∀ j, k ≤ j → j < i → p j = false) → p i = true → ixP p k n = i
  | 0, k, i, h1, h2, _, _ => by omega
  | n + 1, k, i, h1, h2, hb, hp => by
    rw [ixP]
    by_cases he : k = i
    · subst he
      rw [if_pos hp]
    · rw [if_neg (by simp [hb k (Nat.le_refl k) (by omega)])]
      exact ixP_from n (k + 1) i (by omega) (by omega) (fun j h3 h4 => hb j (by omega) h4) hp
theorem ixP_hit {p : Nat → Bool} {k n : Nat} (hk : k < n) (hb : ∀ j, j < k → p j = false) (hp : p k = true) : ixP p 0 n = k := ixP_from n 0 k (Nat.zero_le k) (by omega) (fun j _ h => hb j h) hp
theorem ixP_none {p : Nat → Bool} : ∀ (n k : Nat), (∀ j, k ≤ j → j < k + n → p j = false) → ixP p k n = -1
  | 0, _, _ => rfl
  | n + 1, k, h => by
    rw [ixP, if_neg (by simp [h k (Nat.le_refl k) (by omega)])]
    exact ixP_none n (k + 1) fun j h1 h2 => h j (by omega) (by omega)
theorem ixP_out {p : Nat → Bool} {n : Nat} (h : ∀ j, j < n → p j = false) : ixP p 0 n = -1 := ixP_none n 0 fun j _ h2 => h j (by omega)
/-- What ixP says. -/
theorem ixP_spec (p : Nat → Bool) (n : Nat) : (ixP p 0 n = -1 ∧ ∀ j, j < n → p j = false) ∨ ∃ k, k < n ∧ ixP p 0 n = k ∧ p k = true ∧ ∀ j, j < k → p j = false := by
  by_cases h : ∀ j, j < n → p j = false
  · exact .inl ⟨ixP_out h, h⟩
  · right
    have hex : ∃ j, j < n ∧ p j = true := by
      apply Classical.byContradiction
      intro hn
      refine h fun j hj => ?_
      cases hp : p j
      · rfl
      · exact absurd ⟨j, hj, hp⟩ hn
    obtain ⟨k, hk, hmin⟩ : ∃ k, (k < n ∧ p k = true) ∧ ∀ j, j < k → ¬ (j < n ∧ p j = true) := by
      obtain ⟨j, hj⟩ := hex
      induction j using Nat.strongRecOn with
      | ind j ih =>
        by_cases h2 : ∃ i, i < j ∧ (i < n ∧ p i = true)
        · obtain ⟨i, hi, hi2⟩ := h2
          exact ih i hi hi2
        · exact ⟨j, hj, fun i hi hi2 => h2 ⟨i, hi, hi2⟩⟩
    have hb : ∀ j, j < k → p j = false := fun j hj => by
      cases hp : p j
      · rfl
      · exact absurd ⟨by omega, hp⟩ (hmin j hj)
    exact ⟨k, hk.1, ixP_hit hk.1 hb hk.2, hk.2, hb⟩
end Go.Proofs.YtmfmpagfjgpodaaGreatDoor
