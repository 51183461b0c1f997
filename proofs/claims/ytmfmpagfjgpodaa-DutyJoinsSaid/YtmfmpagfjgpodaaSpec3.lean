/- Parts of records, broken rules, as plain functions; rows of the call's own; no condition. -/
import Derived.Test.YtmfmpagfjgpodaaSpec2
namespace Go.Proofs.Ytmfmpagfjgpodaa
open Go.RowKit

section
variable {w w' : World} {B : Nat} {e : TypeId} {sz n c : Nat} {v : Value} {A : Option Addr} {xs : List Value}
theorem own_below (h : w.ownsRow B e sz v n xs) (hb : Below w.heap.size w w') : w'.ownsRow B e sz v n xs :=
  h.kept (row := none) ⟨hb.os, hb.tape, hb.output, hb.size, fun k hk _ => hb.block k hk⟩ (by cases v.ownBlock <;> simp)
theorem own_apart {g : Nat} {t : TypeId} {cs : Array Value} (h : w.ownsRow B e sz v n xs) (hg : Bk w g t cs) (hne : e ≠ t) : some g ≠ v.ownBlock := by
  rcases h.2 with ⟨rfl, _⟩ | ⟨g', cap, cur, rfl, _, hh, _⟩
  · simp [Value.ownBlock]
  · intro he
    have e' : g = g' := by simpa [Value.ownBlock] using he
    subst e'
    exact Bk.apart (t := e) hh hg hne rfl
theorem own_from {k : Nat} (h : w.ownsRow B e sz v n xs) (hk : v.ownBlock = some k) : B ≤ k := (h.lt k hk).1
end

/-- An append of something: the row has a block. -/
theorem wpList_append_one {P : Program} {α : Type} {C : α → List Value} (w : World) {ops : Array Oper} {rest : List Oper} {o : Oper} {a : Act} {Q : Exit → Act → World → Prop} (hgd : o.guard = none) (s x : Operand) (t : TypeId)
    (ho : o.op = .call { callee := .builtin .append, args := #[s, x], argTypes := #[t, t] })
    (base : Nat) (e : TypeId) (i : TypeInfo) (z : Value) (sz bytes : Nat) (ht : P.underlying t = some (.slice e)) (hi : P.info? e = some i) (hz : i.zero = some z)
    (hsize : i.size = sz) (hby : i.bytes = bytes) (hzs : z.cells.size = sz) (hsz : 0 < sz) (hC : ∀ x, (C x).length = sz) (h1 : ∀ x, ∀ u ∈ C x, u.oneCell' = true)
    (A : Option Addr) (n c : Nat) (xs : List Value) (hs : a.eval s = .slice A n c) (hown : w.ownsRow base e sz (.slice A n c) n xs)
    (A' : Option Addr) (m c' : Nat) (l : List α) (hx : a.eval x = .slice A' m c') (hm : m = l.length) (hp : 0 < m) (hS : Sl C sz w A' l)
    (h63 : n + m ≤ maxLen) (hbytes : (n + m) * bytes ≤ 140737488355328) (hbase : base ≤ w.heap.size)
    (h : ∀ g c2 w', w'.ownsRow base e sz (.slice (some ⟨g, 0, none⟩) (n + m) c2) (n + m) (xs ++ l.flatMap C) → w.grownBy w' (Value.slice A n c).ownBlock →
      (some g = (Value.slice A n c).ownBlock ∨ g = w.heap.size) → base ≤ g → wpList P ops Q rest (a.put o.dst (.slice (some ⟨g, 0, none⟩) (n + m) c2)) w') : wpList P ops Q (o :: rest) a w := by
  refine wpList_append_sl w hgd s x t ho base e i z sz bytes ht hi hz hsize hby hzs hsz hC h1 A n c xs hs hown A' m c' l hx hm hS h63 hbytes hbase ?_
  intro A2 c2 w' own gr hat
  obtain ⟨g, cap, hv, hg, _⟩ := own.form (by omega)
  injection hv with hA _ _
  subst hA
  exact h g c2 w' own gr (by simpa [Value.ownBlock] using hat) hg

def pairNC (p : Nat × Nat) : List Value := [.int .i64 p.1, .int .i64 p.2]
theorem pairNC_len (p : Nat × Nat) : (pairNC p).length = 2 := rfl
theorem pairNC_one (p : Nat × Nat) : ∀ u ∈ pairNC p, u.oneCell' = true := by
  intro u hu
  simp only [pairNC, List.mem_cons, List.not_mem_nil, or_false] at hu
  rcases hu with rfl | rfl <;> rfl
/-- A group begins at record k. -/
def gstart (l : List Rec) (gap : Int) (k : Nat) : Bool := decide (k = 0) || decide (gap ≤ (rat l k).lo - (rat l (k - 1)).hi)
/-- The groups of the first k records. -/
def groups (l : List Rec) (gap : Int) : Nat → List (Nat × Nat)
  | 0 => []
  | k + 1 => if gstart l gap k then groups l gap k ++ [(k, k)] else (groups l gap k).dropLast ++ [(((groups l gap k).getLastD (0, 0)).1, k)]
theorem groups_ne (l : List Rec) (gap : Int) {k : Nat} (h : 0 < k) : groups l gap k ≠ [] := by
  cases k with
  | zero => omega
  | succ k => rw [groups]; split <;> simp
theorem groups_len (l : List Rec) (gap : Int) : ∀ k, (groups l gap k).length ≤ k
  | 0 => by simp [groups]
  | k + 1 => by
    have := groups_len l gap k
    rw [groups]
    split
    · simp; omega
    · have := List.length_pos_iff.2 (groups_ne l gap (k := k) (by
        rename_i h
        rcases Nat.eq_zero_or_pos k with h0 | h0
        · subst h0; simp [gstart] at h
        · exact h0))
      simp; omega
theorem pairs_set (G : List (Nat × Nat)) (hG : G ≠ []) (k : Nat) : (G.flatMap pairNC).set ((G.length - 1) * 2 + 1) (.int .i64 k) = (G.dropLast ++ [((G.getLastD (0, 0)).1, k)]).flatMap pairNC := by
  obtain ⟨G', p, rfl⟩ : ∃ G' p, G = G' ++ [p] := ⟨G.dropLast, G.getLast hG, (List.dropLast_concat_getLast hG).symm⟩
  rw [List.flatMap_append, List.flatMap_append, List.dropLast_concat, List.length_append, List.length_singleton, Nat.add_sub_cancel,
    List.set_append_right _ _ (by rw [flatMap_len pairNC_len]; omega), flatMap_len pairNC_len, Nat.add_sub_cancel_left]
  simp [pairNC]

theorem groups_step (l : List Rec) (gap : Int) (k : Nat) {G : List (Nat × Nat)} (h : (gstart l gap k = true ∧ G = groups l gap k ++ [(k, k)]) ∨ (gstart l gap k = false ∧ G = groups l gap k)) :
    G.dropLast ++ [((G.getLastD (0, 0)).1, k)] = groups l gap (k + 1) := by
  rw [groups]
  rcases h with ⟨h, rfl⟩ | ⟨h, rfl⟩
  · simp [h]
  · simp [h]

/-- The first record of the last group. -/
def lastOf (l : List Rec) (gap : Int) : Nat := ((groups l gap l.length).getLastD (0, 0)).1
theorem groups_last (l : List Rec) (gap : Int) : ∀ k, 0 < k → ((groups l gap k).getLastD (0, 0)).1 < k
  | 0, h => absurd h (by omega)
  | k + 1, _ => by
    rw [groups]
    split
    · simp
    · rename_i h
      rcases Nat.eq_zero_or_pos k with h0 | h0
      · subst h0; simp [gstart] at h
      · have := groups_last l gap k h0
        rw [List.getLastD_eq_getLast?] at this
        simp
        omega
theorem lastOf_lt {l : List Rec} (gap : Int) (h : 0 < l.length) : lastOf l gap < l.length := groups_last l gap _ h
/-- The first rule that is broken at the last record. -/
def brokenP (r : Rul) (l : List Rec) : Int :=
  if r.stint < workIn (l.drop (lastOf l r.brk)) (rat l (lastOf l r.brk)).lo (rat l (l.length - 1)).hi then 1
  else if r.shift < (rat l (l.length - 1)).hi - (rat l (lastOf l r.rest)).lo then 2
  else if r.week < workIn l ((rat l (l.length - 1)).hi - 604800) (rat l (l.length - 1)).hi then 3 else 0
theorem Timed.drop {l : List Rec} (h : Timed l) (k : Nat) : Timed (l.drop k) := fun x hx => h x (List.mem_of_mem_drop hx)
theorem Timed.take {l : List Rec} (h : Timed l) (k : Nat) : Timed (l.take k) := fun x hx => h x (List.mem_of_mem_take hx)

end Go.Proofs.Ytmfmpagfjgpodaa
