/- Texts in one: Lemmas on memory, and on statements whose order of operations is left open: they hold of every program; no condition. -/
import Derived.WalkKit
import Derived.WalkSpells
import Derived.WalkLawsBesides
import Derived.StillTail
import Derived.BigQuiet
import Derived.Deep.Quiet
import Derived.Deep.RegionHeld3
import Derived.Deep.AppendLies
import Derived.Deep.DeepCutAuto
import Derived.Lib.ConvBytes
import Derived.Maps.AppendAt
import Derived.Lib.Hide
/-! Mem: Lemmas on memory, and on statements whose order of operations is left open: they hold of every program; no condition. -/
namespace Go.Proofs.Ytmfmpagfjgpodaa
open Go.RowKit

/-! ### Worlds that came later -/
/-- A world in which nothing that was there in 'w' has changed. -/
def Later (w : World) : Type := { w' : World // Below w.heap.size w w' }
def Later.at {w : World} (n : Later w) : World := n.1
def Later.mk {w : World} (w' : World) (h : Below w.heap.size w w') : Later w := ⟨w', h⟩
theorem Later.at_mk {w w' : World} (h : Below w.heap.size w w') : (Later.mk w' h).at = w' := rfl
theorem Later.below {w : World} (n : Later w) : Below w.heap.size w n.at := n.2
instance (w : World) : Nonempty (Later w) := ⟨⟨w, Below.refl _ _⟩⟩
theorem Later.drawn (w : World) : ∃ n : Later w, ({ w with drawn := w.drawn + 1 } : World) = n.at := ⟨⟨_, (Below.refl _ w).drew⟩, rfl⟩
theorem below_cell {w w' : World} (h : Below w.heap.size w w') {a : Addr} {v : Value} (hc : w.cell? a = some v) : w'.cell? a = some v :=
  (h.cell (World.block_lt_of_cell? w a hc)).trans hc
theorem Later.cell {w : World} {a : Addr} {v : Value} (hc : w.cell? a = some v) (n : Later w) : n.at.cell? a = some v := below_cell n.2 hc
/-- From here on, for one more world. -/
theorem below_step {w w1 w2 : World} (h : Below w.heap.size w w1) (k : Below w1.heap.size w1 w2) : Below w.heap.size w w2 :=
  h.trans (k.mono h.size)
theorem later_of {P : Program} {f : FuncId} {args : Array Value} {w : World} {n : Later w} {v : Value}
    (h : Calls P f args n.at fun e w' => e = .returned v ∧ Below n.at.heap.size n.at w') :
    Calls P f args n.at fun e w'' => e = .returned v ∧ ∃ m : Later w, w'' = m.at :=
  h.mono fun _ w' ⟨he, hb⟩ => ⟨he, ⟨w', below_step n.2 hb⟩, rfl⟩
theorem later_same {P : Program} {f : FuncId} {args : Array Value} {w : World} {n : Later w} {v : Value}
    (h : Calls P f args n.at fun e w' => e = .returned v ∧ n.at = w') :
    Calls P f args n.at fun e w'' => e = .returned v ∧ ∃ m : Later w, w'' = m.at :=
  h.mono fun _ _ ⟨he, hb⟩ => ⟨he, n, hb.symm⟩

/-! ### A block of the call's own -/
/-- Block g holds just these cells, of element type t, none of them frozen. -/
def Bk (w : World) (g : Nat) (t : TypeId) (cs : Array Value) : Prop := w.heap[g]? = some (.cells cs t (0, 0))
section
variable {w w' : World} {g : Nat} {t : TypeId} {cs : Array Value}
theorem Bk.lt (h : Bk w g t cs) : g < w.heap.size := (Array.getElem?_eq_some_iff.1 h).1
theorem Bk.cell (h : Bk w g t cs) (o : Nat) : w.cell? ⟨g, o, none⟩ = cs[o]? := cell_of_row w g o cs t (0, 0) h
theorem Bk.frozen (h : Bk w g t cs) (o : Nat) : w.frozen? ⟨g, o, none⟩ = false := by
  unfold Bk at h
  simp [World.frozen?, h]
theorem Bk.new (w : World) (t : TypeId) (cs : Array Value) : Bk (w.alloc (.cells cs t)) w.heap.size t cs := heap_alloc_new w _
theorem Bk.alloc (h : Bk w g t cs) (o : Obj) : Bk (w.alloc o) g t cs := (Below.heap_alloc w o g h.lt).trans h
theorem Bk.drew (h : Bk w g t cs) : Bk w.drew g t cs := h
theorem Bk.drewN (h : Bk w g t cs) (n : Nat) : Bk (w.drewN n) g t cs := h
theorem Bk.below (h : Bk w g t cs) (hb : Below w.heap.size w w') : Bk w' g t cs := (hb.block g h.lt).trans h
theorem Bk.later (h : Bk w g t cs) (n : Later w) (o : Nat) : n.at.cell? ⟨g, o, none⟩ = cs[o]? := (h.below n.2).cell o
theorem Bk.setSelf (h : Bk w g t cs) (i : Nat) (u : Value) : Bk (w.setCell ⟨g, i, none⟩ u) g t (cs.setIfInBounds i u) := by
  unfold Bk at h ⊢
  simp [World.setCell, Array.getElem?_modify, h]
theorem Bk.setOther (h : Bk w g t cs) {p : Addr} (hp : g ≠ p.block) (u : Value) : Bk (w.setCell p u) g t cs := (Below.heap_setCell w p u g hp).trans h
theorem Bk.grown {row : Option Nat} (h : Bk w g t cs) (hb : w.grownBy w' row) (hg : some g ≠ row) : Bk w' g t cs := (hb.block g h.lt hg).trans h
theorem Bk.apart {g' : Nat} {t' : TypeId} {cs' : Array Value} (h : Bk w g t cs) (h' : Bk w g' t' cs') (hne : t ≠ t') : g ≠ g' := by
  rintro rfl
  unfold Bk at h h'
  rw [h] at h'
  injection h' with h'
  injection h' with _ ht
  exact hne ht
end

/-! ### Worlds above a base -/
theorem bl_alloc {w0 w : World} (h : Below w0.heap.size w0 w) (o : Obj) : Below w0.heap.size w0 (w.alloc o) := h.alloc h.size o
theorem bl_drew {w0 w : World} (h : Below w0.heap.size w0 w) : Below w0.heap.size w0 w.drew := h.drew
theorem bl_drewN {w0 w : World} (h : Below w0.heap.size w0 w) (n : Nat) : Below w0.heap.size w0 (w.drewN n) := ⟨h.os, h.tape, h.output, h.size, h.block⟩
theorem bl_set {w0 w : World} (h : Below w0.heap.size w0 w) (p : Addr) (hp : w0.heap.size ≤ p.block) (v : Value) : Below w0.heap.size w0 (w.setCell p v) := h.setCell hp v
theorem bl_grown {w0 w w' : World} {row : Option Nat} (h : Below w0.heap.size w0 w) (hg : w.grownBy w' row) (hr : ∀ k, row = some k → w0.heap.size ≤ k) : Below w0.heap.size w0 w' := h.grown hg h.size hr

/-! ### Slices that read as lists: C tells the cells of an element, of which there are sz -/
def Sl {α : Type} (C : α → List Value) (sz : Nat) (w : World) (A : Option Addr) (l : List α) : Prop :=
  l ≠ [] → ∃ b o, A = some ⟨b, o, none⟩ ∧ ∀ k x, l[k]? = some x → ∀ j v, (C x)[j]? = some v → w.cell? ⟨b, o + k * sz + j, none⟩ = some v
section
variable {α : Type} {C : α → List Value} {sz : Nat} {w w' : World} {A : Option Addr} {l : List α}
theorem Sl.nil (C : α → List Value) (sz : Nat) (w : World) (A : Option Addr) : Sl C sz w A [] := fun h => absurd rfl h
theorem Sl.keep (h : Sl C sz w A l) (hk : ∀ a v, w.cell? a = some v → w'.cell? a = some v) : Sl C sz w' A l := fun hn =>
  let ⟨b, o, hA, hc⟩ := h hn
  ⟨b, o, hA, fun k x hx j v hv => hk _ _ (hc k x hx j v hv)⟩
theorem Sl.below (h : Sl C sz w A l) (hb : Below w.heap.size w w') : Sl C sz w' A l := h.keep fun _ _ => below_cell hb
theorem Sl.alloc (h : Sl C sz w A l) (o : Obj) : Sl C sz (w.alloc o) A l := h.below (bl_alloc (Below.refl _ _) o)
theorem Sl.at_ (h : Sl C sz w A l) {k : Nat} (hk : k < l.length) : ∃ b o, A = some ⟨b, o, none⟩ ∧ ∀ j v, (C l[k])[j]? = some v → w.cell? ⟨b, o + k * sz + j, none⟩ = some v :=
  let ⟨b, o, hA, hc⟩ := h (List.ne_nil_of_length_pos (by omega))
  ⟨b, o, hA, hc k l[k] (List.getElem?_eq_getElem hk)⟩
theorem Sl.take (h : Sl C sz w A l) (n : Nat) : Sl C sz w A (l.take n) := fun hn => by
  obtain ⟨b, o, hA, hc⟩ := h (fun e => hn (by rw [e]; simp))
  refine ⟨b, o, hA, fun k x hx => hc k x ?_⟩
  rw [List.getElem?_take] at hx
  split at hx
  · exact hx
  · cases hx
theorem Sl.drop (h : Sl C sz w A l) (n : Nat) : ∀ b o, A = some ⟨b, o, none⟩ → Sl C sz w (some ⟨b, o + n * sz, none⟩) (l.drop n) := fun b o e hn => by
  obtain ⟨b', o', hA, hc⟩ := h (fun e => hn (by rw [e]; simp))
  rw [e] at hA
  injection hA with hA
  injection hA with h1 h2 _
  subst h1
  subst h2
  refine ⟨b, o + n * sz, rfl, fun k x hx j v hv => ?_⟩
  rw [List.getElem?_drop] at hx
  have := hc (n + k) x hx j v hv
  rw [Nat.add_mul] at this
  rwa [Nat.add_assoc o]
theorem Sl.of_row {g : Nat} {t : TypeId} {f : Nat × Nat} {cur : Array Value} (hC : ∀ x, (C x).length = sz) (hg : w.heap[g]? = some (.cells cur t f)) (hl : cur.toList.take (l.length * sz) = l.flatMap C) : Sl C sz w (some ⟨g, 0, none⟩) l := fun _ => by
  refine ⟨g, 0, rfl, fun k x hx j v hv => ?_⟩
  have hj : j < sz := by rw [← hC x]; exact (List.getElem?_eq_some_iff.1 hv).1
  have hk : k < l.length := (List.getElem?_eq_some_iff.1 hx).1
  have key : ∀ (l : List α) (k : Nat), l[k]? = some x → (l.flatMap C)[k * sz + j]? = some v := by
    intro l
    induction l with
    | nil => intro k hk; simp at hk
    | cons y l ih =>
      intro k hk
      rw [List.flatMap_cons]
      cases k with
      | zero =>
        simp only [List.getElem?_cons_zero, Option.some.injEq] at hk
        subst hk
        rw [Nat.zero_mul, Nat.zero_add, List.getElem?_append_left (by rw [hC]; exact hj)]
        exact hv
      | succ k =>
        rw [List.getElem?_cons_succ] at hk
        rw [List.getElem?_append_right (by rw [hC, Nat.add_mul]; omega), hC, show (k + 1) * sz + j - sz = k * sz + j by rw [Nat.add_mul]; omega]
        exact ih k hk
  have h1 := key l k hx
  rw [← hl, List.getElem?_take] at h1
  have hlt : k * sz + j < l.length * sz := by
    have : (k + 1) * sz ≤ l.length * sz := Nat.mul_le_mul_right _ hk
    rw [Nat.add_mul] at this
    omega
  rw [if_pos hlt] at h1
  rw [cell_of_row w g _ cur t f hg]
  simpa using h1
theorem Sl.of_own {base : Nat} {e : TypeId} {n c : Nat} (hC : ∀ x, (C x).length = sz) (h : w.ownsRow base e sz (.slice A n c) n (l.flatMap C)) (hn : n = l.length) : Sl C sz w A l := by
  subst hn
  rcases h.2 with ⟨_, h0⟩ | ⟨g, cap, cur, hv, _, hg, _, _, _, htake⟩
  · have : l = [] := List.eq_nil_of_length_eq_zero h0
    subst this
    exact Sl.nil _ _ _ _
  · injection hv with hA
    rw [hA]
    exact Sl.of_row hC hg htake
end

/-! ### append onto a row of the call's own -/
theorem flatMap_at {α : Type} {C : α → List Value} {sz : Nat} (hC : ∀ x, (C x).length = sz) : ∀ (l : List α) (j : Nat) (u : Value), (l.flatMap C)[j]? = some u →
    ∃ k x i, l[k]? = some x ∧ (C x)[i]? = some u ∧ j = k * sz + i := by
  intro l
  induction l with
  | nil => intro j u h; simp at h
  | cons y l ih =>
    intro j u h
    rw [List.flatMap_cons] at h
    by_cases hj : j < sz
    · rw [List.getElem?_append_left (by rw [hC]; exact hj)] at h
      exact ⟨0, y, j, rfl, h, by omega⟩
    · rw [List.getElem?_append_right (by rw [hC]; omega), hC] at h
      obtain ⟨k, x, i, h1, h2, h3⟩ := ih _ _ h
      exact ⟨k + 1, x, i, by simpa using h1, h2, by rw [Nat.add_mul]; omega⟩
theorem flatMap_len {α : Type} {C : α → List Value} {sz : Nat} (hC : ∀ x, (C x).length = sz) (l : List α) : (l.flatMap C).length = l.length * sz := by
  induction l with
  | nil => simp
  | cons y l ih => rw [List.flatMap_cons, List.length_append, ih, hC, List.length_cons, Nat.add_mul]; omega
theorem add_plain (b o j : Nat) : (⟨b, o, none⟩ : Addr).add j = ⟨b, o + j, none⟩ := by
  unfold Addr.add
  split <;> simp_all
section
variable {P : Program} (w : World) {α : Type} {C : α → List Value}
theorem own_form {base : Nat} {e : TypeId} {sz n : Nat} {v : Value} {xs : List Value} (h : w.ownsRow base e sz v n xs) : ∃ A c, v = .slice A n c := by
  rcases h.2 with ⟨rfl, rfl⟩ | ⟨g, cap, _, rfl, _⟩
  · exact ⟨none, 0, rfl⟩
  · exact ⟨some ⟨g, 0, none⟩, cap, rfl⟩
theorem run_append_sl (base : Nat) (t ty e : TypeId) (i : TypeInfo) (z : Value) (sz bytes : Nat) (ht : P.underlying t = some (.slice e)) (hi : P.info? e = some i) (hz : i.zero = some z)
    (hsize : i.size = sz) (hby : i.bytes = bytes) (hzs : z.cells.size = sz) (hsz : 0 < sz) (hC : ∀ x, (C x).length = sz) (h1 : ∀ x, ∀ u ∈ C x, u.oneCell' = true)
    (A : Option Addr) (n c : Nat) (xs : List Value) (hown : w.ownsRow base e sz (.slice A n c) n xs)
    (A' : Option Addr) (m c' : Nat) (l : List α) (hm : m = l.length) (hS : Sl C sz w A' l)
    (h63 : n + m ≤ maxLen) (hbytes : (n + m) * bytes ≤ 140737488355328) (hbase : base ≤ w.heap.size) :
    ∃ A2 c2 w', (Builtin.append_ #[t, t] ty #[.slice A n c, .slice A' m c']).run P w = .ok (.slice A2 (n + m) c2) w' ∧ w'.ownsRow base e sz (.slice A2 (n + m) c2) (n + m) (xs ++ l.flatMap C) ∧
      w.grownBy w' (Value.slice A n c).ownBlock ∧ ((Value.slice A2 (n + m) c2).ownBlock = (Value.slice A n c).ownBlock ∨ (Value.slice A2 (n + m) c2).ownBlock = some w.heap.size) := by
  have key : ∀ ad, A' = some ad → (∀ j u, (l.flatMap C)[j]? = some u → w.cell? (ad.add j) = some u) → ∃ A2 c2 w', (Builtin.append_ #[t, t] ty #[.slice A n c, .slice A' m c']).run P w = .ok (.slice A2 (n + m) c2) w' ∧ w'.ownsRow base e sz (.slice A2 (n + m) c2) (n + m) (xs ++ l.flatMap C) ∧
      w.grownBy w' (Value.slice A n c).ownBlock ∧ ((Value.slice A2 (n + m) c2).ownBlock = (Value.slice A n c).ownBlock ∨ (Value.slice A2 (n + m) c2).ownBlock = some w.heap.size) := by
    intro ad hA hc
    subst hA
    obtain ⟨v', w', hr, ho, hg, _, hb⟩ := run_append_own_at (P := P) w base t ty e i z sz bytes ht hi hz hsize hby hzs hsz (.slice A n c) n xs hown ad m c' (l.flatMap C) (by rw [flatMap_len hC, hm]) hc
      (fun u hu => by obtain ⟨x, _, hx⟩ := List.mem_flatMap.1 hu; exact h1 x u hx) h63 hbytes hbase
    obtain ⟨A2, c2, rfl⟩ := own_form _ ho
    exact ⟨A2, c2, w', hr, ho, hg, hb⟩
  by_cases hl : l = []
  · subst hl
    have hm0 : m = 0 := by simpa using hm
    subst hm0
    cases A' with
    | some ad => exact key ad rfl (fun j u h => by simp at h)
    | none =>
      refine ⟨A, c, w, ?_, by simpa using hown, World.grownBy.refl w _, .inl rfl⟩
      rcases hown.2 with ⟨hv, rfl⟩ | ⟨g, cap, cur, hv, _, _, hnc, _⟩
      · injection hv with hA _ hc
        subst hA
        subst hc
        simp [Builtin.append_, run_underlying ht, sizeOf, typeInfo, hi, Builtin.lenOf, Builtin.firstCells]
      · injection hv with hA _ hc
        subst hA
        subst hc
        simp [Builtin.append_, run_underlying ht, sizeOf, typeInfo, hi, Builtin.lenOf, Builtin.firstCells, hnc, storeCells]
  · obtain ⟨b, o, hA, hc⟩ := hS hl
    refine key _ hA (fun j u h => ?_)
    obtain ⟨k, x, q, h1, h2, rfl⟩ := flatMap_at hC l j u h
    rw [add_plain]
    have := hc k x h1 q u h2
    rwa [Nat.add_assoc] at this

/-- 'x = append(s, y...)' at a row of the call's own. -/
theorem wpList_append_sl {ops : Array Oper} {rest : List Oper} {o : Oper} {a : Act} {Q : Exit → Act → World → Prop} (hgd : o.guard = none) (s x : Operand) (t : TypeId)
    (ho : o.op = .call { callee := .builtin .append, args := #[s, x], argTypes := #[t, t] })
    (base : Nat) (e : TypeId) (i : TypeInfo) (z : Value) (sz bytes : Nat) (ht : P.underlying t = some (.slice e)) (hi : P.info? e = some i) (hz : i.zero = some z)
    (hsize : i.size = sz) (hby : i.bytes = bytes) (hzs : z.cells.size = sz) (hsz : 0 < sz) (hC : ∀ x, (C x).length = sz) (h1 : ∀ x, ∀ u ∈ C x, u.oneCell' = true)
    (A : Option Addr) (n c : Nat) (xs : List Value) (hs : a.eval s = .slice A n c) (hown : w.ownsRow base e sz (.slice A n c) n xs)
    (A' : Option Addr) (m c' : Nat) (l : List α) (hx : a.eval x = .slice A' m c') (hm : m = l.length) (hS : Sl C sz w A' l)
    (h63 : n + m ≤ maxLen) (hbytes : (n + m) * bytes ≤ 140737488355328) (hbase : base ≤ w.heap.size)
    (h : ∀ A2 c2 w', w'.ownsRow base e sz (.slice A2 (n + m) c2) (n + m) (xs ++ l.flatMap C) → w.grownBy w' (Value.slice A n c).ownBlock →
      ((Value.slice A2 (n + m) c2).ownBlock = (Value.slice A n c).ownBlock ∨ (Value.slice A2 (n + m) c2).ownBlock = some w.heap.size) → wpList P ops Q rest (a.put o.dst (.slice A2 (n + m) c2)) w') : wpList P ops Q (o :: rest) a w := by
  obtain ⟨A2, c2, w', hrun, h2, h3, h4⟩ := run_append_sl (P := P) w base t o.type e i z sz bytes ht hi hz hsize hby hzs hsz hC h1 A n c xs hown A' m c' l hm hS h63 hbytes hbase
  refine wpList_plain hgd fun K hK => ?_
  unfold Oper.wp execOp
  simp only [ho, resolve, invoke, builtin, Sem.run_bind, Sem.run_pure, Result.andThen_ok, List.map_toArray, List.map_cons, List.map_nil, hs, hx, hrun]
  exact hK _ _ (h A2 c2 w' h2 h3 h4)
end

/-! ### The bytes of a text -/
def byteAt (s : ByteArray) (i : Nat) : UInt8 := s.data.toList.getD i 0
theorem byteAt_get {s : ByteArray} {k : Nat} (h : k < s.size) : byteAt s k = s[k] := by
  have h' : k < s.data.toList.length := h
  simp only [byteAt, List.getD, List.getElem?_eq_getElem h', Option.getD_some]
  rfl
theorem toList_data (s : ByteArray) : s.toList = s.data.toList := ByteArray.toList_eq s
theorem toList_nil {s : ByteArray} (h : s.size = 0) : s.toList = [] := by rw [toList_data]; exact List.eq_nil_of_length_eq_zero h
theorem toList_more {s : ByteArray} (h : s.size ≠ 0) : s.toList.isEmpty = false := by
  rw [toList_data, List.isEmpty_eq_false_iff]
  exact fun e => h (congrArg List.length e)
theorem bytes_of_string {P : Program} (w : World) (src dst e : TypeId) (s : ByteArray) {u : TypeDesc} (hs : P.underlying src = some u) (hd : P.underlying dst = some (.slice e)) (he : P.underlying e = some (.int .u8)) :
    ∃ w1 cap, (convert src dst (.string s)).run P w = .ok (.slice (some ⟨w.heap.size, 0, none⟩) s.size cap) w1 ∧ Below w.heap.size w w1 ∧
      ∀ j, j < s.size → w1.cell? ⟨w.heap.size, j, none⟩ = some (.int .u8 (byteAt s j).toNat) :=
  ⟨_, _, Lib.run_convert_string_bytes w src dst e s hs hd he,
    ⟨by simp [Lib.bytesWorld, World.freeze, World.alloc, World.drew, -World.alloc_eq, -World.drew_eq], by simp [Lib.bytesWorld, World.freeze, World.alloc, World.drew, -World.alloc_eq, -World.drew_eq], by simp [Lib.bytesWorld, World.freeze, World.alloc, World.drew, -World.alloc_eq, -World.drew_eq], by rw [Lib.bytesWorld_size]; omega, fun k hk => Lib.bytesWorld_at_old w e s k hk⟩,
    fun j hj => Lib.bytesWorld_cell w e s j hj⟩

/-! ### A region that draws its order: quiet operations first, then a forced tail -/
section
variable {P : Program} {ops : Array Oper} {md : Region.Mode} {C : World → Prop}

def wpAnyT (P : Program) (md : Region.Mode) (ops : Array Oper) (C : World → Prop) (n : Nat) (L : Array Bool → Act → Prop) : Nat → Array Bool → Act → Prop
  | 0, listed, a => L listed a
  | f + 1, listed, a =>
    Region.ready md ops listed ≠ [] ∧ ∀ i ∈ Region.ready md ops listed, i < n ∧ qOp P ops C i (wpAnyT P md ops C n L f (listed.setIfInBounds i true)) a

theorem wpAny_of_wpAnyT {n g : Nat} {L : Array Bool → Act → Prop} {Q' : Exit → Act → World → Prop} (hL : ∀ listed a w, C w → L listed a → wpAny P md ops Q' g listed a w) :
    ∀ (f : Nat) (listed : Array Bool) (a : Act) (w : World), C w → wpAnyT P md ops C n L f listed a → wpAny P md ops Q' (f + g) listed a w
  | 0, _, _, _, hw, h => by rw [Nat.zero_add]; exact hL _ _ _ hw h
  | f + 1, listed, a, w, hw, h => by
    rw [show f + 1 + g = (f + g) + 1 by omega]
    exact ⟨fun h0 => absurd h0 h.1, fun i hi => wpOp_of_qOp hw (fun a' w' hw' h' => wpAny_of_wpAnyT hL f _ a' w' hw' h') (h.2 i hi).2⟩

theorem wpAnyT_first {n i : Nat} {oi : Oper} {v : Value} {L : Array Bool → Act → Prop} (hi : ops[i]? = some oi) (hsel : ∀ (j : Nat) (o : Oper) cs b, ops[j]? = some o → o.op ≠ .select cs b)
    (hs : Region.sinkB md ops n = true) (hc : Region.chainB md ops n = true) (hn : n < ops.size) (hin : i < n)
    (hdone : ∀ listed a, L listed a → ∀ j ∈ Region.ready md ops listed, n ≤ j) :
    ∀ (f : Nat) (listed : Array Bool) (a : Act), HeadInv md ops n listed →
      (∀ j oj, ops[j]? = some oj → j ≠ i → listed.getD j true = false → (∀ e ∈ oj.after, Region.binds md e = true → e.on ≠ i) → oi.apart ops oj = true) →
      i ∈ Region.ready md ops listed → YieldsIn P ops C oi v a →
      wpAnyT P md ops C n L f (listed.setIfInBounds i true) (a.put oi.dst v) → wpAnyT P md ops C n L (f + 1) listed a := by
  intro f
  induction f with
  | zero =>
    intro listed a inv _ hr hy H
    have hun := (mem_ready.1 hr).1
    refine ⟨fun h => (by rw [h] at hr; cases hr), fun j hj => ?_⟩
    have hjn : j < n := Nat.lt_of_not_le fun h => tail_waits hs hc hn inv _ i rfl hin hun j h hj
    refine ⟨hjn, ?_⟩
    by_cases hji : j = i
    · subst hji
      exact hy.qOp hi H
    · exact absurd (hdone _ _ H j (ready_mono hj hji)) (by omega)
  | succ f ih =>
    intro listed a inv hfree hr hy H
    have hun := (mem_ready.1 hr).1
    refine ⟨fun h => (by rw [h] at hr; cases hr), fun j hj => ?_⟩
    have hjn : j < n := Nat.lt_of_not_le fun h => tail_waits hs hc hn inv _ i rfl hin hun j h hj
    refine ⟨hjn, ?_⟩
    by_cases hji : j = i
    · subst hji
      exact hy.qOp hi H
    · have h1 := (H.2 j (ready_mono hj hji)).2
      obtain ⟨hjun, oj, hoj, hall⟩ := mem_ready.1 hj
      have hnot : ∀ e ∈ oj.after, Region.binds md e = true → e.on ≠ i := fun e he hb heq => by
        have h1 := hall e he hb
        rw [heq, getD_both hun] at h1
        cases h1
      have h2 := qOp_put hoj (hfree j oj hoj hji hjun hnot) (fun cs b => hsel i oi cs b hi) (fun cs b => hsel j oj cs b hoj) hy h1
      refine qOp_mono (fun a' h3 => ih (listed.setIfInBounds j true) a' (inv.set hj hjn) (fun k ok hk hki hun' hno => ?_) (ready_mono hr (Ne.symm hji)) h3.1 ?_) h2
      · refine hfree k ok hk hki ?_ hno
        by_cases hjk : j = k
        · subst hjk
          exact hjun
        · rw [getD_set_ne true hjk] at hun'
          exact hun'
      · rw [Array.setIfInBounds_comm _ _ hji]
        exact h3.2

theorem wpAnyT_lex {n g : Nat} {Lq : Act → Prop} (hsel : Region.noSelect ops = true) (hs : Region.sinkB md ops n = true) (hc : Region.chainB md ops n = true) (hn : n < ops.size) :
    ∀ (l : List Oper) (k : Nat) (listed : Array Bool) (a : Act), (∀ j, j < l.length → l[j]? = ops[k + j]?) → k + l.length = n → HeadInv md ops n listed →
    Region.lexHead md ops g l.length k listed = true → wpQuiet P ops C Lq l a →
    wpAnyT P md ops C n (fun listed' a' => Region.seqB md ops g n listed' = true ∧ Lq a') l.length listed a
  | [], k, listed, a, _, hk, _, hB, h => by
    have : k = n := by simpa using hk
    subst this
    exact ⟨by simpa [Region.lexHead] using hB, h⟩
  | o :: l, k, listed, a, hl, hk, inv, hB, h => by
    have h0 : ops[k]? = some o := by simpa using (hl 0 (by simp)).symm
    simp only [List.length_cons, Region.lexHead, Bool.and_eq_true] at hB
    obtain ⟨⟨hr, hf⟩, hB'⟩ := hB
    have hkn : k < n := by simp only [List.length_cons] at hk; omega
    have hr' : k ∈ Region.ready md ops listed := by simpa using hr
    have hst : qOp P ops C k (wpQuiet P ops C Lq l) a := by unfold qOp; simp only [h0]; exact h
    obtain ⟨v, hy, hK⟩ := yieldsIn_of_qOp h0 hst
    exact wpAnyT_first h0 (Region.noSelect_spec hsel) hs hc hn hkn (fun listed' a' hL => seqB_ready hL.1) l.length listed a inv (Region.free_spec h0 hf) hr' hy
      (wpAnyT_lex hsel hs hc hn l (k + 1) _ _ (fun j hj => by have := hl (j + 1) (by simp; omega); simpa [Nat.add_assoc, Nat.add_comm 1 j] using this) (by simp only [List.length_cons] at hk; omega) (inv.set hr' hkn) hB' hK)

/-- The first n operations quiet in every later world, the others in one forced order behind them. -/
theorem wp_region_tail {id : Nat} {Q : Exit → Act → World → Prop} {a : Act} {w : World} {l : List Oper} (n : Nat) (hm : P.follows .mixedOrders = true) (hB : Region.lexTailB .any l.toArray n = true)
    (h : wpQuiet P l.toArray (fun w' => ∃ k : Later w, w' = k.at) (fun a' => ∀ w', (∃ k : Later w, w' = k.at) → wpList P l.toArray Q (l.drop n) a' w') (l.take n) a) : (Code.region id l.toArray true).wp P Q a w := by
  simp only [Region.lexTailB, Bool.and_eq_true, decide_eq_true_eq] at hB
  obtain ⟨⟨⟨⟨hsel, hn⟩, hs⟩, hc⟩, hlex⟩ := hB
  have hn' : n < l.length := by simpa using hn
  have htl : (l.take n).length = n := by simp; omega
  have hdl : (l.drop n).length = l.toArray.size - n := by simp
  have inv0 : HeadInv .any l.toArray n (Array.replicate l.toArray.size false) :=
    ⟨by simp, fun j oj _ hl => (by rw [getD_replicate_false] at hl; cases hl), fun t _ ht => getD_in (by simpa using ht) (getD_replicate_false _ _)⟩
  have H := wpAnyT_lex (md := .any) (g := l.toArray.size - n) hsel hs hc hn (l.take n) 0 _ a (fun j hj => by
    have hj' : j < n := by rw [htl] at hj; exact hj
    simp [hj']) (by simpa using htl) inv0 (by rw [htl]; exact hlex) h
  refine wp_region_any hm ?_
  have := wpAny_of_wpAnyT (Q' := Q) (g := l.toArray.size - n) (fun listed a' w' hw' hL => by
    have := wpAny_of_seq (md := .any) (Q' := Q) (l.drop n) n listed a' w' (fun j => by simp [List.getElem?_drop]) (by rw [hdl]; exact hL.1) (hL.2 w' hw')
    rwa [hdl] at this) _ _ _ _ (Later.drawn w) H
  rw [htl, show n + (l.toArray.size - n) = l.toArray.size by omega] at this
  exact this
/-- All operations quiet in every later world. -/
theorem wp_region_later {id : Nat} {Q : Exit → Act → World → Prop} {a : Act} {w : World} {l : List Oper} (hm : P.follows .mixedOrders = true) (hB : Region.lexB .any l.toArray = true)
    (h : wpQuiet P l.toArray (fun w' => ∃ k : Later w, w' = k.at) (fun a' => ∀ w', (∃ k : Later w, w' = k.at) → Q .normal a' w') l a) : (Code.region id l.toArray true).wp P Q a w :=
  wp_region_quiet (C := fun w' => ∃ k : Later w, w' = k.at) hm hB (Later.drawn w) (by simpa using h)
end

end Go.Proofs.Ytmfmpagfjgpodaa

/-! Spec: What the functions of chapter 7 compute, as plain functions; no condition. -/
namespace Go.Proofs.Ytmfmpagfjgpodaa
open Go.RowKit

/-- A record, a licence or a use. -/
structure Rec where
  driver : ByteArray
  lo : Int
  hi : Int
instance : Inhabited Rec := ⟨⟨ByteArray.empty, 0, 0⟩⟩
/-- Its value. -/
def Rec.val (r : Rec) : Value := .agg #[.string r.driver, .int .i64 r.lo, .int .i64 r.hi]

def Rec.cells (r : Rec) : List Value := [.string r.driver, .int .i64 r.lo, .int .i64 r.hi]
theorem Rec.cells_len (r : Rec) : r.cells.length = 3 := rfl
def intC (n : Int) : List Value := [.int .i64 n]
def strC (s : ByteArray) : List Value := [.string s]
def pairC (p : Int × Int) : List Value := [.int .i64 p.1, .int .i64 p.2]

theorem Sl.recAt {w : World} {A : Option Addr} {l : List Rec} (h : Sl Rec.cells 3 w A l) {k : Nat} (hk : k < l.length) :
    ∃ b o, A = some ⟨b, o, none⟩ ∧ w.cell? ⟨b, o + k * 3, none⟩ = some (.string l[k].driver) ∧ w.cell? ⟨b, o + k * 3 + 1, none⟩ = some (.int .i64 l[k].lo) ∧ w.cell? ⟨b, o + k * 3 + 2, none⟩ = some (.int .i64 l[k].hi) := by
  obtain ⟨b, o, hA, hc⟩ := h.at_ hk
  exact ⟨b, o, hA, hc 0 _ rfl, hc 1 _ rfl, hc 2 _ rfl⟩
theorem Sl.intAt {w : World} {A : Option Addr} {l : List Int} (h : Sl intC 1 w A l) {k : Nat} (hk : k < l.length) :
    ∃ b o, A = some ⟨b, o, none⟩ ∧ w.cell? ⟨b, o + k, none⟩ = some (.int .i64 l[k]) := by
  obtain ⟨b, o, hA, hc⟩ := h.at_ hk
  exact ⟨b, o, hA, by simpa using hc 0 _ rfl⟩
theorem Sl.strAt {w : World} {A : Option Addr} {l : List ByteArray} (h : Sl strC 1 w A l) {k : Nat} (hk : k < l.length) :
    ∃ b o, A = some ⟨b, o, none⟩ ∧ w.cell? ⟨b, o + k, none⟩ = some (.string l[k]) := by
  obtain ⟨b, o, hA, hc⟩ := h.at_ hk
  exact ⟨b, o, hA, by simpa using hc 0 _ rfl⟩
theorem Sl.pairAt {w : World} {A : Option Addr} {l : List (Int × Int)} (h : Sl pairC 2 w A l) {k : Nat} (hk : k < l.length) :
    ∃ b o, A = some ⟨b, o, none⟩ ∧ w.cell? ⟨b, o + k * 2, none⟩ = some (.int .i64 l[k].1) ∧ w.cell? ⟨b, o + k * 2 + 1, none⟩ = some (.int .i64 l[k].2) := by
  obtain ⟨b, o, hA, hc⟩ := h.at_ hk
  exact ⟨b, o, hA, hc 0 _ rfl, hc 1 _ rfl⟩

/-! ### Numbers and errors -/
def inR (n lo hi : Int) : Bool := decide (lo ≤ n) && decide (n ≤ hi)
def unl (c : Bool) (e : Int) : Int := if c then 0 else e
def fst : List Int → Int
  | [] => 0
  | x :: r => if x ≠ 0 then x else fst r
def isTime (n : Int) : Bool := inR n 0 8640000000
def isTake (n : Int) : Bool := inR n 0 200000
def isDate (n : Int) : Bool := inR n 0 100000
theorem inR_iff {n lo hi : Int} : inR n lo hi = true ↔ lo ≤ n ∧ n ≤ hi := by simp [inR]
theorem inR_no {n lo hi : Int} : inR n lo hi = false ↔ n < lo ∨ hi < n := by simp [inR]; omega
/-- A byte of a name, by its place. -/
def okChar (i : Nat) (n : Int) : Bool :=
  (decide (97 ≤ n) && decide (n ≤ 122)) || (decide (65 ≤ n) && decide (n ≤ 90)) || (decide (i ≠ 0) && (decide (n = 45) || (decide (48 ≤ n) && decide (n ≤ 57))))
theorem okChar_iff {i : Nat} {n : Int} : okChar i n = true ↔ (97 ≤ n ∧ n ≤ 122) ∨ (65 ≤ n ∧ n ≤ 90) ∨ (i ≠ 0 ∧ (n = 45 ∨ (48 ≤ n ∧ n ≤ 57))) := by
  simp [okChar, or_assoc]
def okTo (s : ByteArray) (n : Nat) : Bool := (List.range n).all fun i => okChar i (byteAt s i).toNat
theorem okTo_succ (s : ByteArray) (n : Nat) : okTo s (n + 1) = (okTo s n && okChar n (byteAt s n).toNat) := by
  simp [okTo, List.range_succ]
theorem okTo_no (s : ByteArray) {n m : Nat} (h : n < m) (ho : okChar n (byteAt s n).toNat = false) : okTo s m = false := by
  unfold okTo
  rw [List.all_eq_false]
  exact ⟨n, by simpa using h, by simp [ho]⟩
def isName (s : ByteArray) : Bool := decide (1 ≤ s.size) && decide (s.size ≤ 12) && okTo s s.size
def timeErr (n : Int) : Int := unl (isTime n) 2
def dateErr (n : Int) : Int := unl (isDate n) 2
def nameErr (s : ByteArray) : Int := unl (isName s) 4
def spanErr (lo hi : Int) : Int := if isTime lo && isTime hi then (if lo < hi then 0 else 9) else 2
def recErr (r : Rec) : Int := if isName r.driver then spanErr r.lo r.hi else 4
theorem spanErr_fst (lo hi : Int) : fst [timeErr lo, timeErr hi, unl (decide (hi > lo)) 9] = spanErr lo hi := by
  unfold timeErr spanErr unl
  cases isTime lo <;> cases isTime hi <;> by_cases h : lo < hi <;> simp [fst, h]
theorem recErr_fst (r : Rec) : fst [nameErr r.driver, spanErr r.lo r.hi] = recErr r := by
  unfold nameErr recErr unl
  cases isName r.driver <;> simp [fst]
  omega

/-! ### Checks of lists -/
/-- The first k below n with E k ≠ 0, and that error; (0, 0) if there is none. -/
def firstErr (E : Nat → Int) : Nat → Nat → Nat × Int
  | _, 0 => (0, 0)
  | k, n + 1 => if E k ≠ 0 then (k, E k) else firstErr E (k + 1) n
theorem firstErr_at {E : Nat → Int} {k n : Nat} (h : k < n) : firstErr E k (n - k) = if E k ≠ 0 then (k, E k) else firstErr E (k + 1) (n - (k + 1)) := by
  rw [show n - k = (n - (k + 1)) + 1 by omega, firstErr]
def checkL (n : Nat) (most : Int) (E : Nat → Int) : Nat × Int := if (n : Int) > most then (0, 8) else firstErr E 0 n

def sameS (a b : ByteArray) : Bool := a.toList == b.toList
theorem sameS_iff {a b : ByteArray} : sameS a b = true ↔ a = b := by
  unfold sameS
  rw [beq_iff_eq, toList_data, toList_data]
  constructor
  · intro h
    cases a
    cases b
    congr
    exact Array.toList_inj.1 h
  · exact fun h => by rw [h]
def rat (l : List Rec) (k : Nat) : Rec := l.getD k default
theorem rat_get {l : List Rec} {k : Nat} (h : k < l.length) : rat l k = l[k] := by simp [rat, h]
/-- No text is long. -/
def Small (l : List Rec) : Prop := ∀ x ∈ l, x.driver.size ≤ 1000
theorem Small.at_ {l : List Rec} (h : Small l) {k : Nat} (hk : k < l.length) : l[k].driver.size ≤ 1000 := h _ (List.getElem_mem hk)
/-- The error of record number k of one driver, or of any. -/
def chkE (one : Bool) (l : List Rec) (k : Nat) : Int :=
  if recErr (rat l k) ≠ 0 then recErr (rat l k)
  else if k = 0 then 0
  else if one && !sameS (rat l k).driver (rat l (k - 1)).driver then 13
  else if (rat l k).lo < (rat l (k - 1)).hi then 26 else 0
theorem chkE_one (l : List Rec) {k : Nat} (hk : k ≠ 0) : fst [recErr (rat l k), unl (sameS (rat l k).driver (rat l (k - 1)).driver) 13, unl (decide ((rat l (k - 1)).hi ≤ (rat l k).lo)) 26] = chkE true l k := by
  unfold chkE unl
  by_cases h1 : recErr (rat l k) = 0 <;> cases h2 : sameS (rat l k).driver (rat l (k - 1)).driver <;> by_cases h3 : (rat l (k - 1)).hi ≤ (rat l k).lo <;> simp [fst, h1, hk, h3] <;> omega
theorem chkE_zero (one : Bool) (l : List Rec) : chkE one l 0 = recErr (rat l 0) := by
  unfold chkE
  by_cases h1 : recErr (rat l 0) = 0 <;> simp [h1]
theorem chkE_any (l : List Rec) {k : Nat} (hk : k ≠ 0) : fst [recErr (rat l k), unl (decide ((rat l (k - 1)).hi ≤ (rat l k).lo)) 26] = chkE false l k := by
  unfold chkE unl
  by_cases h1 : recErr (rat l k) = 0 <;> by_cases h3 : (rat l (k - 1)).hi ≤ (rat l k).lo <;> simp [fst, h1, hk, h3] <;> omega
def checkRecs (one : Bool) (l : List Rec) : Nat × Int := checkL l.length 40 (chkE one l)

end Go.Proofs.Ytmfmpagfjgpodaa

/-! Spec2: What the functions of duty compute, as plain functions: work, parts, broken rules, trips; no condition. -/
namespace Go.Proofs.Ytmfmpagfjgpodaa
open Go.RowKit

structure Rul where
  brk : Int
  rest : Int
  stint : Int
  shift : Int
  week : Int
def Rul.cells (r : Rul) : Array Value := #[.int .i64 r.brk, .int .i64 r.rest, .int .i64 r.stint, .int .i64 r.shift, .int .i64 r.week]
def ruleOk (n : Int) : Bool := inR n 1 2000000
def rulesErr (r : Rul) : Int :=
  if ruleOk r.brk && ruleOk r.rest && ruleOk r.stint && ruleOk r.shift && ruleOk r.week then unl (decide (r.brk ≤ r.rest)) 9 else 2

/-! ### Work in a span -/
def wk (f t : Int) (r : Rec) : Int := max 0 (min r.hi t - max r.lo f)
def workIn (l : List Rec) (f t : Int) : Int := (l.map (wk f t)).sum
theorem wk_walk (f t : Int) (r : Rec) : (if (if r.lo < f then f else r.lo) < if t < r.hi then t else r.hi then (if t < r.hi then t else r.hi) - if r.lo < f then f else r.lo else 0) = wk f t r := by
  unfold wk
  simp only [Int.max_def, Int.min_def]
  repeat' split
  all_goals omega
theorem workIn_succ (l : List Rec) (f t : Int) {k : Nat} (h : k < l.length) : workIn (l.take (k + 1)) f t = workIn (l.take k) f t + wk f t l[k] := by
  unfold workIn
  rw [List.take_succ_eq_append_getElem h, List.map_append, List.sum_append]
  simp
/-- Times that a record of work may bear. -/
def Timed (l : List Rec) : Prop := ∀ x ∈ l, 0 ≤ x.lo ∧ x.lo ≤ 10000000000 ∧ 0 ≤ x.hi ∧ x.hi ≤ 10000000000
theorem Timed.at_ {l : List Rec} (h : Timed l) {k : Nat} (hk : k < l.length) : 0 ≤ l[k].lo ∧ l[k].lo ≤ 10000000000 ∧ 0 ≤ l[k].hi ∧ l[k].hi ≤ 10000000000 := h _ (List.getElem_mem hk)
theorem workIn_bound {l : List Rec} (h : Timed l) (f t : Int) : ∀ k, k ≤ l.length → 0 ≤ workIn (l.take k) f t ∧ workIn (l.take k) f t ≤ 10000000000 * k := by
  intro k
  induction k with
  | zero => intro _; simp [workIn]
  | succ k ih =>
    intro hk
    have := h.at_ (k := k) (by omega)
    have := ih (by omega)
    rw [workIn_succ l f t (by omega)]
    unfold wk
    omega

end Go.Proofs.Ytmfmpagfjgpodaa

/-! Spec3: Parts of records, broken rules, as plain functions; rows of the call's own; no condition. -/
namespace Go.Proofs.Ytmfmpagfjgpodaa
open Go.RowKit

section
variable {w w' : World} {B : Nat} {e : TypeId} {sz n c : Nat} {v : Value} {A : Option Addr} {xs : List Value}
theorem own_below (h : w.ownsRow B e sz v n xs) (hb : Below w.heap.size w w') : w'.ownsRow B e sz v n xs :=
  h.kept (row := none) ⟨hb.os, hb.tape, hb.output, hb.size, fun k hk _ => hb.block k hk⟩ (by cases v.ownBlock <;> simp)
theorem own_apart {g : Nat} {t : TypeId} {cs : Array Value} (h : w.ownsRow B e sz v n xs) (hg : Bk w g t cs) (hne : e ≠ t) : some g ≠ v.ownBlock := by
  rcases h.2 with ⟨rfl, _⟩ | ⟨g', cap, cur, rfl, _, hh, _⟩
  · simp [Value.ownBlock]
  · intro he
    have e' : g = g' := by simpa [Value.ownBlock] using he
    subst e'
    exact Bk.apart (t := e) hh hg hne rfl
theorem own_from {k : Nat} (h : w.ownsRow B e sz v n xs) (hk : v.ownBlock = some k) : B ≤ k := (h.lt k hk).1
end

/-- An append of something: the row has a block. -/
theorem wpList_append_one {P : Program} {α : Type} {C : α → List Value} (w : World) {ops : Array Oper} {rest : List Oper} {o : Oper} {a : Act} {Q : Exit → Act → World → Prop} (hgd : o.guard = none) (s x : Operand) (t : TypeId)
    (ho : o.op = .call { callee := .builtin .append, args := #[s, x], argTypes := #[t, t] })
    (base : Nat) (e : TypeId) (i : TypeInfo) (z : Value) (sz bytes : Nat) (ht : P.underlying t = some (.slice e)) (hi : P.info? e = some i) (hz : i.zero = some z)
    (hsize : i.size = sz) (hby : i.bytes = bytes) (hzs : z.cells.size = sz) (hsz : 0 < sz) (hC : ∀ x, (C x).length = sz) (h1 : ∀ x, ∀ u ∈ C x, u.oneCell' = true)
    (A : Option Addr) (n c : Nat) (xs : List Value) (hs : a.eval s = .slice A n c) (hown : w.ownsRow base e sz (.slice A n c) n xs)
    (A' : Option Addr) (m c' : Nat) (l : List α) (hx : a.eval x = .slice A' m c') (hm : m = l.length) (hp : 0 < m) (hS : Sl C sz w A' l)
    (h63 : n + m ≤ maxLen) (hbytes : (n + m) * bytes ≤ 140737488355328) (hbase : base ≤ w.heap.size)
    (h : ∀ g c2 w', w'.ownsRow base e sz (.slice (some ⟨g, 0, none⟩) (n + m) c2) (n + m) (xs ++ l.flatMap C) → w.grownBy w' (Value.slice A n c).ownBlock →
      (some g = (Value.slice A n c).ownBlock ∨ g = w.heap.size) → base ≤ g → wpList P ops Q rest (a.put o.dst (.slice (some ⟨g, 0, none⟩) (n + m) c2)) w') : wpList P ops Q (o :: rest) a w := by
  refine wpList_append_sl w hgd s x t ho base e i z sz bytes ht hi hz hsize hby hzs hsz hC h1 A n c xs hs hown A' m c' l hx hm hS h63 hbytes hbase ?_
  intro A2 c2 w' own gr hat
  obtain ⟨g, cap, hv, hg, _⟩ := own.form (by omega)
  injection hv with hA _ _
  subst hA
  exact h g c2 w' own gr (by simpa [Value.ownBlock] using hat) hg

def pairNC (p : Nat × Nat) : List Value := [.int .i64 p.1, .int .i64 p.2]
theorem pairNC_len (p : Nat × Nat) : (pairNC p).length = 2 := rfl
theorem pairNC_one (p : Nat × Nat) : ∀ u ∈ pairNC p, u.oneCell' = true := by
  intro u hu
  simp only [pairNC, List.mem_cons, List.not_mem_nil, or_false] at hu
  rcases hu with rfl | rfl <;> rfl
/-- A group begins at record k. -/
def gstart (l : List Rec) (gap : Int) (k : Nat) : Bool := decide (k = 0) || decide (gap ≤ (rat l k).lo - (rat l (k - 1)).hi)
/-- The groups of the first k records. -/
def groups (l : List Rec) (gap : Int) : Nat → List (Nat × Nat)
  | 0 => []
  | k + 1 => if gstart l gap k then groups l gap k ++ [(k, k)] else (groups l gap k).dropLast ++ [(((groups l gap k).getLastD (0, 0)).1, k)]
theorem groups_ne (l : List Rec) (gap : Int) {k : Nat} (h : 0 < k) : groups l gap k ≠ [] := by
  cases k with
  | zero => omega
  | succ k => rw [groups]; split <;> simp
theorem groups_len (l : List Rec) (gap : Int) : ∀ k, (groups l gap k).length ≤ k
  | 0 => by simp [groups]
  | k + 1 => by
    have := groups_len l gap k
    rw [groups]
    split
    · simp; omega
    · have := List.length_pos_iff.2 (groups_ne l gap (k := k) (by
        rename_i h
        rcases Nat.eq_zero_or_pos k with h0 | h0
        · subst h0; simp [gstart] at h
        · exact h0))
      simp; omega
theorem pairs_set (G : List (Nat × Nat)) (hG : G ≠ []) (k : Nat) : (G.flatMap pairNC).set ((G.length - 1) * 2 + 1) (.int .i64 k) = (G.dropLast ++ [((G.getLastD (0, 0)).1, k)]).flatMap pairNC := by
  obtain ⟨G', p, rfl⟩ : ∃ G' p, G = G' ++ [p] := ⟨G.dropLast, G.getLast hG, (List.dropLast_concat_getLast hG).symm⟩
  rw [List.flatMap_append, List.flatMap_append, List.dropLast_concat, List.length_append, List.length_singleton, Nat.add_sub_cancel,
    List.set_append_right _ _ (by rw [flatMap_len pairNC_len]; omega), flatMap_len pairNC_len, Nat.add_sub_cancel_left]
  simp [pairNC]

theorem groups_step (l : List Rec) (gap : Int) (k : Nat) {G : List (Nat × Nat)} (h : (gstart l gap k = true ∧ G = groups l gap k ++ [(k, k)]) ∨ (gstart l gap k = false ∧ G = groups l gap k)) :
    G.dropLast ++ [((G.getLastD (0, 0)).1, k)] = groups l gap (k + 1) := by
  rw [groups]
  rcases h with ⟨h, rfl⟩ | ⟨h, rfl⟩
  · simp [h]
  · simp [h]

/-- The first record of the last group. -/
def lastOf (l : List Rec) (gap : Int) : Nat := ((groups l gap l.length).getLastD (0, 0)).1
theorem groups_last (l : List Rec) (gap : Int) : ∀ k, 0 < k → ((groups l gap k).getLastD (0, 0)).1 < k
  | 0, h => absurd h (by omega)
  | k + 1, _ => by
    rw [groups]
    split
    · simp
    · rename_i h
      rcases Nat.eq_zero_or_pos k with h0 | h0
      · subst h0; simp [gstart] at h
      · have := groups_last l gap k h0
        rw [List.getLastD_eq_getLast?] at this
        simp
        omega
theorem lastOf_lt {l : List Rec} (gap : Int) (h : 0 < l.length) : lastOf l gap < l.length := groups_last l gap _ h
/-- The first rule that is broken at the last record. -/
def brokenP (r : Rul) (l : List Rec) : Int :=
  if r.stint < workIn (l.drop (lastOf l r.brk)) (rat l (lastOf l r.brk)).lo (rat l (l.length - 1)).hi then 1
  else if r.shift < (rat l (l.length - 1)).hi - (rat l (lastOf l r.rest)).lo then 2
  else if r.week < workIn l ((rat l (l.length - 1)).hi - 604800) (rat l (l.length - 1)).hi then 3 else 0
theorem Timed.drop {l : List Rec} (h : Timed l) (k : Nat) : Timed (l.drop k) := fun x hx => h x (List.mem_of_mem_drop hx)
theorem Timed.take {l : List Rec} (h : Timed l) (k : Nat) : Timed (l.take k) := fun x hx => h x (List.mem_of_mem_take hx)

end Go.Proofs.Ytmfmpagfjgpodaa

/-! Spec4: Right records, as plain facts; no condition. -/
namespace Go.Proofs.Ytmfmpagfjgpodaa
open Go.RowKit

theorem firstErr_zero {E : Nat → Int} : ∀ (n k : Nat), (firstErr E k n).2 = 0 → ∀ j, k ≤ j → j < k + n → E j = 0
  | 0, k, _, j, h1, h2 => by omega
  | n + 1, k, h, j, h1, h2 => by
    rw [firstErr] at h
    split at h
    · rename_i hne
      exact absurd h hne
    · rename_i he
      simp only [ne_eq, Decidable.not_not] at he
      by_cases hj : j = k
      · rw [hj, he]
      · exact firstErr_zero n (k + 1) h j (by omega) (by omega)
theorem firstErr_none {E : Nat → Int} : ∀ (n k : Nat), (∀ j, k ≤ j → j < k + n → E j = 0) → firstErr E k n = (0, 0)
  | 0, _, _ => rfl
  | n + 1, k, h => by
    rw [firstErr, if_neg (by simp [h k (Nat.le_refl _) (by omega)])]
    exact firstErr_none n (k + 1) fun j h1 h2 => h j (by omega) (by omega)
theorem firstErr_some {E : Nat → Int} : ∀ (n k : Nat), (firstErr E k n).2 ≠ 0 → k ≤ (firstErr E k n).1 ∧ (firstErr E k n).1 < k + n ∧ E (firstErr E k n).1 = (firstErr E k n).2 ∧ ∀ j, k ≤ j → j < (firstErr E k n).1 → E j = 0
  | 0, k, h => by simp [firstErr] at h
  | n + 1, k, h => by
    rw [firstErr] at h ⊢
    split
    · exact ⟨Nat.le_refl _, by simp, rfl, fun j h1 h2 => by simp at h2; omega⟩
    · rename_i he
      rw [if_neg he] at h
      simp only [ne_eq, Decidable.not_not] at he
      obtain ⟨h1, h2, h3, h4⟩ := firstErr_some n (k + 1) h
      refine ⟨by omega, by omega, h3, fun j hj1 hj2 => ?_⟩
      by_cases hj : j = k
      · rw [hj, he]
      · exact h4 j (by omega) hj2
/-- Records of one driver (or of any) are right. -/
def Right (one : Bool) (l : List Rec) : Prop := (checkRecs one l).2 = 0
section
variable {one : Bool} {l : List Rec}
theorem Right.len (h : Right one l) : l.length ≤ 40 := by
  unfold Right checkRecs checkL at h
  by_cases hl : (l.length : Int) > 40
  · rw [if_pos hl] at h
    simp at h
  · omega
theorem Right.err (h : Right one l) {k : Nat} (hk : k < l.length) : chkE one l k = 0 := by
  have hl := h.len
  unfold Right checkRecs checkL at h
  rw [if_neg (by omega)] at h
  exact firstErr_zero _ _ h k (Nat.zero_le _) (by omega)
theorem Right.recOk (h : Right one l) {k : Nat} (hk : k < l.length) : recErr l[k] = 0 := by
  have := h.err hk
  unfold chkE at this
  rw [rat_get hk] at this
  split at this
  · assumption
  · rename_i h; simpa using h
theorem recErr_zero {r : Rec} (h : recErr r = 0) : isName r.driver = true ∧ 0 ≤ r.lo ∧ r.lo < r.hi ∧ r.hi ≤ 8640000000 := by
  unfold recErr spanErr at h
  cases hn : isName r.driver
  · simp [hn] at h
  · simp only [hn, if_true] at h
    cases h1 : isTime r.lo <;> cases h2 : isTime r.hi <;> simp only [h1, h2, Bool.and_true, Bool.and_false, if_true, Bool.false_eq_true, if_false] at h
    · omega
    · omega
    · omega
    · have a := inR_iff.1 h1
      have b := inR_iff.1 h2
      split at h
      · exact ⟨rfl, by omega, by omega, by omega⟩
      · omega
theorem Right.time (h : Right one l) {k : Nat} (hk : k < l.length) : 0 ≤ l[k].lo ∧ l[k].lo < l[k].hi ∧ l[k].hi ≤ 8640000000 := (recErr_zero (h.recOk hk)).2
theorem Right.timed (h : Right one l) : Timed l := fun x hx => by
  obtain ⟨k, hk, rfl⟩ := List.getElem_of_mem hx
  have := h.time hk
  omega
theorem Right.next (h : Right one l) {k : Nat} (hk : k + 1 < l.length) : l[k].hi ≤ l[k + 1].lo := by
  have := h.err hk
  unfold chkE at this
  rw [rat_get hk, rat_get (show k + 1 - 1 < l.length by omega)] at this
  rw [if_neg (by rw [h.recOk hk]; simp), if_neg (by omega)] at this
  simp only [Nat.add_sub_cancel] at this
  split at this
  · omega
  · split at this
    · omega
    · omega
theorem Right.same (h : Right true l) {k : Nat} (hk : k + 1 < l.length) : l[k + 1].driver = l[k].driver := by
  have := h.err hk
  unfold chkE at this
  rw [rat_get hk, rat_get (show k + 1 - 1 < l.length by omega)] at this
  rw [if_neg (by rw [h.recOk hk]; simp), if_neg (by omega)] at this
  simp only [Nat.add_sub_cancel, Bool.true_and] at this
  split at this
  · omega
  · rename_i hs
    simp only [Bool.not_eq_true', Bool.not_eq_false] at hs
    exact sameS_iff.1 hs
end
def bothErr (r : Rul) (l : List Rec) : Int := if rulesErr r ≠ 0 then rulesErr r else (checkRecs true l).2
theorem bothErr_zero {r : Rul} {l : List Rec} (h : bothErr r l = 0) : rulesErr r = 0 ∧ Right true l := by
  unfold bothErr at h
  split at h
  · rename_i h'; exact absurd h h'
  · rename_i h'
    exact ⟨by simpa using h', h⟩
theorem rulesErr_zero {r : Rul} (h : rulesErr r = 0) : 1 ≤ r.brk ∧ r.brk ≤ r.rest ∧ r.rest ≤ 2000000 ∧ 1 ≤ r.stint ∧ r.stint ≤ 2000000 ∧ 1 ≤ r.shift ∧ r.shift ≤ 2000000 ∧ 1 ≤ r.week ∧ r.week ≤ 2000000 := by
  unfold rulesErr at h
  split at h
  · rename_i hh
    simp only [Bool.and_eq_true, ruleOk, inR_iff] at hh
    unfold unl at h
    split at h
    · rename_i hb
      simp only [decide_eq_true_eq] at hb
      omega
    · omega
  · omega

/-- The first record at which a rule is broken, and that rule. -/
def firstBroken (r : Rul) (l : List Rec) : Nat × Int := firstErr (fun k => brokenP r (l.take (k + 1))) 0 l.length

end Go.Proofs.Ytmfmpagfjgpodaa

/-! Spec5: Answers of the functions of duty, as plain functions: broken rules, trips; no condition. -/
namespace Go.Proofs.Ytmfmpagfjgpodaa
open Go.RowKit

/-- The answer of FirstBroken: rule, record, error. -/
def fbOut (r : Rul) (l : List Rec) : Int × Int × Int :=
  if bothErr r l ≠ 0 then (0, 0, bothErr r l) else ((firstBroken r l).2, (firstBroken r l).1, unl (decide ((firstBroken r l).2 ≠ 0)) 12)
/-- A trip: its start, the least and the greatest seconds that it takes, the next shift (-1: none). -/
structure Trip where
  start : Int
  lo : Int
  hi : Int
  next : Int
def Trip.cells (t : Trip) : Array Value := #[.int .i64 t.start, .int .i64 t.lo, .int .i64 t.hi, .int .i64 t.next]
/-- The records with a trip of a length behind them. -/
def withTrip (l : List Rec) (start len : Int) : List Rec := l ++ [⟨ByteArray.empty, start, start + len⟩]
/-- The first rule that a trip of a length breaks. -/
def breaksP (r : Rul) (l : List Rec) (start next len : Int) : Int :=
  if 0 < len ∧ brokenP r (withTrip l start len) ≠ 0 then brokenP r (withTrip l start len)
  else if next ≠ -1 ∧ next - (start + len) < r.rest then 4 else 0
def endOf (l : List Rec) : Int := if l.length = 0 then 0 else (rat l (l.length - 1)).hi
/-- The error of a trip, ahead of the broken rules. -/
def tripE (r : Rul) (l : List Rec) (t : Trip) : Int :=
  fst [bothErr r l, unl (decide ((l.length : Int) < 40)) 16, unl (isTime t.start && isTake t.lo && isTake t.hi) 2, unl (decide (t.lo ≤ t.hi)) 9, unl (t.next == -1 || isTime t.next) 2, unl (decide (endOf l ≤ t.start)) 26]
/-- The error of a trip. -/
def tripErrP (r : Rul) (l : List Rec) (t : Trip) : Int := if tripE r l t ≠ 0 then tripE r l t else unl (decide ((firstBroken r l).2 = 0)) 22

end Go.Proofs.Ytmfmpagfjgpodaa
