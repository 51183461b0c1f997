/- Texts in one: Lemmas on memory, and on statements whose order of operations is left open: they hold of every program; no condition. -/
import Derived.WalkKit
import Derived.WalkSpells
import Derived.WalkLawsBesides
import Derived.StillTail
import Derived.BigQuiet
import Derived.Deep.Quiet
import Derived.Deep.RegionHeld3
import Derived.Deep.AppendLies
import Derived.Deep.DeepCutAuto
import Derived.Lib.ConvBytes
import Derived.Maps.AppendAt
import Derived.Lib.Hide
/-! Mem: Lemmas on memory, and on statements whose order of operations is left open: they hold of every program; no condition. -/
namespace Go.Proofs.YtmfmpagfjgpodaaGreatDoor
open Go.RowKit

/-! ### Worlds that came later -/
/-- A world in which nothing that was there in 'w' has changed. -/
def Later (w : World) : Type := { w' : World // Below w.heap.size w w' }
def Later.at {w : World} (n : Later w) : World := n.1
def Later.mk {w : World} (w' : World) (h : Below w.heap.size w w') : Later w := ⟨w', h⟩
theorem Later.at_mk {w w' : World} (h : Below w.heap.size w w') : (Later.mk w' h).at = w' := rfl
theorem Later.below {w : World} (n : Later w) : Below w.heap.size w n.at := n.2
instance (w : World) : Nonempty (Later w) := ⟨⟨w, Below.refl _ _⟩⟩
theorem Later.drawn (w : World) : ∃ n : Later w, ({ w with drawn := w.drawn + 1 } : World) = n.at := ⟨⟨_, (Below.refl _ w).drew⟩, rfl⟩
theorem below_cell {w w' : World} (h : Below w.heap.size w w') {a : Addr} {v : Value} (hc : w.cell? a = some v) : w'.cell? a = some v :=
  (h.cell (World.block_lt_of_cell? w a hc)).trans hc
theorem Later.cell {w : World} {a : Addr} {v : Value} (hc : w.cell? a = some v) (n : Later w) : n.at.cell? a = some v := below_cell n.2 hc
/-- From here on, for one more world. -/
theorem below_step {w w1 w2 : World} (h : Below w.heap.size w w1) (k : Below w1.heap.size w1 w2) : Below w.heap.size w w2 :=
  h.trans (k.mono h.size)
theorem later_of {P : Program} {f : FuncId} {args : Array Value} {w : World} {n : Later w} {v : Value}
    (h : Calls P f args n.at fun e w' => e = .returned v ∧ Below n.at.heap.size n.at w') :
    Calls P f args n.at fun e w'' => e = .returned v ∧ ∃ m : Later w, w'' = m.at :=
  h.mono fun _ w' ⟨he, hb⟩ => ⟨he, ⟨w', below_step n.2 hb⟩, rfl⟩
theorem later_same {P : Program} {f : FuncId} {args : Array Value} {w : World} {n : Later w} {v : Value}
    (h : Calls P f args n.at fun e w' => e = .returned v ∧ n.at = w') :
    Calls P f args n.at fun e w'' => e = .returned v ∧ ∃ m : Later w, w'' = m.at :=
  h.mono fun _ _ ⟨he, hb⟩ => ⟨he, n, hb.symm⟩

/-! ### A block of the call's own -/
/-- Block g holds just these cells, of element type t, none of them frozen. -/
def Bk (w : World) (g : Nat) (t : TypeId) (cs : Array Value) : Prop := w.heap[g]? = some (.cells cs t (0, 0))
section
variable {w w' : World} {g : Nat} {t : TypeId} {cs : Array Value}
theorem Bk.lt (h : Bk w g t cs) : g < w.heap.size := (Array.getElem?_eq_some_iff.1 h).1
theorem Bk.cell (h : Bk w g t cs) (o : Nat) : w.cell? ⟨g, o, none⟩ = cs[o]? := cell_of_row w g o cs t (0, 0) h
theorem Bk.frozen (h : Bk w g t cs) (o : Nat) : w.frozen? ⟨g, o, none⟩ = false := by
  unfold Bk at h
  simp [World.frozen?, h]
theorem Bk.new (w : World) (t : TypeId) (cs : Array Value) : Bk (w.alloc (.cells cs t)) w.heap.size t cs := heap_alloc_new w _
theorem Bk.alloc (h : Bk w g t cs) (o : Obj) : Bk (w.alloc o) g t cs := (Below.heap_alloc w o g h.lt).trans h
theorem Bk.drew (h : Bk w g t cs) : Bk w.drew g t cs := h
theorem Bk.drewN (h : Bk w g t cs) (n : Nat) : Bk (w.drewN n) g t cs := h
theorem Bk.below (h : Bk w g t cs) (hb : Below w.heap.size w w') : Bk w' g t cs := (hb.block g h.lt).trans h
theorem Bk.later (h : Bk w g t cs) (n : Later w) (o : Nat) : n.at.cell? ⟨g, o, none⟩ = cs[o]? := (h.below n.2).cell o
theorem Bk.setSelf (h : Bk w g t cs) (i : Nat) (u : Value) : Bk (w.setCell ⟨g, i, none⟩ u) g t (cs.setIfInBounds i u) := by
  unfold Bk at h ⊢
  simp [World.setCell, Array.getElem?_modify, h]
theorem Bk.setOther (h : Bk w g t cs) {p : Addr} (hp : g ≠ p.block) (u : Value) : Bk (w.setCell p u) g t cs := (Below.heap_setCell w p u g hp).trans h
theorem Bk.grown {row : Option Nat} (h : Bk w g t cs) (hb : w.grownBy w' row) (hg : some g ≠ row) : Bk w' g t cs := (hb.block g h.lt hg).trans h
theorem Bk.apart {g' : Nat} {t' : TypeId} {cs' : Array Value} (h : Bk w g t cs) (h' : Bk w g' t' cs') (hne : t ≠ t') : g ≠ g' := by
  rintro rfl
  unfold Bk at h h'
  rw [h] at h'
  injection h' with h'
  injection h' with _ ht
  exact hne ht
end

/-! ### Worlds above a base -/
theorem bl_alloc {w0 w : World} (h : Below w0.heap.size w0 w) (o : Obj) : Below w0.heap.size w0 (w.alloc o) := h.alloc h.size o
theorem bl_drew {w0 w : World} (h : Below w0.heap.size w0 w) : Below w0.heap.size w0 w.drew := h.drew
theorem bl_drewN {w0 w : World} (h : Below w0.heap.size w0 w) (n : Nat) : Below w0.heap.size w0 (w.drewN n) := ⟨h.os, h.tape, h.output, h.size, h.block⟩
theorem bl_set {w0 w : World} (h : Below w0.heap.size w0 w) (p : Addr) (hp : w0.heap.size ≤ p.block) (v : Value) : Below w0.heap.size w0 (w.setCell p v) := h.setCell hp v
theorem bl_grown {w0 w w' : World} {row : Option Nat} (h : Below w0.heap.size w0 w) (hg : w.grownBy w' row) (hr : ∀ k, row = some k → w0.heap.size ≤ k) : Below w0.heap.size w0 w' := h.grown hg h.size hr

/-! ### Slices that read as lists: C tells the cells of an element, of which there are sz -/
def Sl {α : Type} (C : α → List Value) (sz : Nat) (w : World) (A : Option Addr) (l : List α) : Prop :=
  l ≠ [] → ∃ b o, A = some ⟨b, o, none⟩ ∧ ∀ k x, l[k]? = some x → ∀ j v, (C x)[j]? = some v → w.cell? ⟨b, o + k * sz + j, none⟩ = some v
section
variable {α : Type} {C : α → List Value} {sz : Nat} {w w' : World} {A : Option Addr} {l : List α}
theorem Sl.nil (C : α → List Value) (sz : Nat) (w : World) (A : Option Addr) : Sl C sz w A [] := fun h => absurd rfl h
theorem Sl.keep (h : Sl C sz w A l) (hk : ∀ a v, w.cell? a = some v → w'.cell? a = some v) : Sl C sz w' A l := fun hn =>
  let ⟨b, o, hA, hc⟩ := h hn
  ⟨b, o, hA, fun k x hx j v hv => hk _ _ (hc k x hx j v hv)⟩
theorem Sl.below (h : Sl C sz w A l) (hb : Below w.heap.size w w') : Sl C sz w' A l := h.keep fun _ _ => below_cell hb
theorem Sl.alloc (h : Sl C sz w A l) (o : Obj) : Sl C sz (w.alloc o) A l := h.below (bl_alloc (Below.refl _ _) o)
theorem Sl.at_ (h : Sl C sz w A l) {k : Nat} (hk : k < l.length) : ∃ b o, A = some ⟨b, o, none⟩ ∧ ∀ j v, (C l[k])[j]? = some v → w.cell? ⟨b, o + k * sz + j, none⟩ = some v :=
  let ⟨b, o, hA, hc⟩ := h (List.ne_nil_of_length_pos (by omega))
  ⟨b, o, hA, hc k l[k] (List.getElem?_eq_getElem hk)⟩
theorem Sl.take (h : Sl C sz w A l) (n : Nat) : Sl C sz w A (l.take n) := fun hn => by
  obtain ⟨b, o, hA, hc⟩ := h (fun e => hn (by rw [e]; simp))
  refine ⟨b, o, hA, fun k x hx => hc k x ?_⟩
  rw [List.getElem?_take] at hx
  split at hx
  · exact hx
  · cases hx
theorem Sl.drop (h : Sl C sz w A l) (n : Nat) : ∀ b o, A = some ⟨b, o, none⟩ → Sl C sz w (some ⟨b, o + n * sz, none⟩) (l.drop n) := fun b o e hn => by
  obtain ⟨b', o', hA, hc⟩ := h (fun e => hn (by rw [e]; simp))
  rw [e] at hA
  injection hA with hA
  injection hA with h1 h2 _
  subst h1
  subst h2
  refine ⟨b, o + n * sz, rfl, fun k x hx j v hv => ?_⟩
  rw [List.getElem?_drop] at hx
  have := hc (n + k) x hx j v hv
  rw [Nat.add_mul] at this
  rwa [Nat.add_assoc o]
theorem Sl.of_row {g : Nat} {t : TypeId} {f : Nat × Nat} {cur : Array Value} (hC : ∀ x, (C x).length = sz) (hg : w.heap[g]? = some (.cells cur t f)) (hl : cur.toList.take (l.length * sz) = l.flatMap C) : Sl C sz w (some ⟨g, 0, none⟩) l := fun _ => by
  refine ⟨g, 0, rfl, fun k x hx j v hv => ?_⟩
  have hj : j < sz := by rw [← hC x]; exact (List.getElem?_eq_some_iff.1 hv).1
  have hk : k < l.length := (List.getElem?_eq_some_iff.1 hx).1
  have key : ∀ (l : List α) (k : Nat), l[k]? = some x → (l.flatMap C)[k * sz + j]? = some v := by
    intro l
    induction l with
    | nil => intro k hk; simp at hk
    | cons y l ih =>
      intro k hk
      rw [List.flatMap_cons]
      cases k with
      | zero =>
        simp only [List.getElem?_cons_zero, Option.some.injEq] at hk
        subst hk
        rw [Nat.zero_mul, Nat.zero_add, List.getElem?_append_left (by rw [hC]; exact hj)]
        exact hv
      | succ k =>
        rw [List.getElem?_cons_succ] at hk
        rw [List.getElem?_append_right (by rw [hC, Nat.add_mul]; omega), hC, show (k + 1) * sz + j - sz = k * sz + j by rw [Nat.add_mul]; omega]
        exact ih k hk
  have h1 := key l k hx
  rw [← hl, List.getElem?_take] at h1
  have hlt : k * sz + j < l.length * sz := by
    have : (k + 1) * sz ≤ l.length * sz := Nat.mul_le_mul_right _ hk
    rw [Nat.add_mul] at this
    omega
  rw [if_pos hlt] at h1
  rw [cell_of_row w g _ cur t f hg]
  simpa using h1
theorem Sl.of_own {base : Nat} {e : TypeId} {n c : Nat} (hC : ∀ x, (C x).length = sz) (h : w.ownsRow base e sz (.slice A n c) n (l.flatMap C)) (hn : n = l.length) : Sl C sz w A l := by
  subst hn
  rcases h.2 with ⟨_, h0⟩ | ⟨g, cap, cur, hv, _, hg, _, _, _, htake⟩
  · have : l = [] := List.eq_nil_of_length_eq_zero h0
    subst this
    exact Sl.nil _ _ _ _
  · injection hv with hA
    rw [hA]
    exact Sl.of_row hC hg htake
end

/-! ### append onto a row of the call's own -/
theorem flatMap_at {α : Type} {C : α → List Value} {sz : Nat} (hC : ∀ x, (C x).length = sz) : ∀ (l : List α) (j : Nat) (u : Value), (l.flatMap C)[j]? = some u →
    ∃ k x i, l[k]? = some x ∧ (C x)[i]? = some u ∧ j = k * sz + i := by
  intro l
  induction l with
  | nil => intro j u h; simp at h
  | cons y l ih =>
    intro j u h
    rw [List.flatMap_cons] at h
    by_cases hj : j < sz
    · rw [List.getElem?_append_left (by rw [hC]; exact hj)] at h
      exact ⟨0, y, j, rfl, h, by omega⟩
    · rw [List.getElem?_append_right (by rw [hC]; omega), hC] at h
      obtain ⟨k, x, i, h1, h2, h3⟩ := ih _ _ h
      exact ⟨k + 1, x, i, by simpa using h1, h2, by rw [Nat.add_mul]; omega⟩
theorem flatMap_len {α : Type} {C : α → List Value} {sz : Nat} (hC : ∀ x, (C x).length = sz) (l : List α) : (l.flatMap C).length = l.length * sz := by
  induction l with
  | nil => simp
  | cons y l ih => rw [List.flatMap_cons, List.length_append, ih, hC, List.length_cons, Nat.add_mul]; omega
theorem add_plain (b o j : Nat) : (⟨b, o, none⟩ : Addr).add j = ⟨b, o + j, none⟩ := by
  unfold Addr.add
  split <;> simp_all
section
variable {P : Program} (w : World) {α : Type} {C : α → List Value}
theorem own_form {base : Nat} {e : TypeId} {sz n : Nat} {v : Value} {xs : List Value} (h : w.ownsRow base e sz v n xs) : ∃ A c, v = .slice A n c := by
  rcases h.2 with ⟨rfl, rfl⟩ | ⟨g, cap, _, rfl, _⟩
  · exact ⟨none, 0, rfl⟩
  · exact ⟨some ⟨g, 0, none⟩, cap, rfl⟩
theorem run_append_sl (base : Nat) (t ty e : TypeId) (i : TypeInfo) (z : Value) (sz bytes : Nat) (ht : P.underlying t = some (.slice e)) (hi : P.info? e = some i) (hz : i.zero = some z)
    (hsize : i.size = sz) (hby : i.bytes = bytes) (hzs : z.cells.size = sz) (hsz : 0 < sz) (hC : ∀ x, (C x).length = sz) (h1 : ∀ x, ∀ u ∈ C x, u.oneCell' = true)
    (A : Option Addr) (n c : Nat) (xs : List Value) (hown : w.ownsRow base e sz (.slice A n c) n xs)
    (A' : Option Addr) (m c' : Nat) (l : List α) (hm : m = l.length) (hS : Sl C sz w A' l)
    (h63 : n + m ≤ maxLen) (hbytes : (n + m) * bytes ≤ 140737488355328) (hbase : base ≤ w.heap.size) :
    ∃ A2 c2 w', (Builtin.append_ #[t, t] ty #[.slice A n c, .slice A' m c']).run P w = .ok (.slice A2 (n + m) c2) w' ∧ w'.ownsRow base e sz (.slice A2 (n + m) c2) (n + m) (xs ++ l.flatMap C) ∧
      w.grownBy w' (Value.slice A n c).ownBlock ∧ ((Value.slice A2 (n + m) c2).ownBlock = (Value.slice A n c).ownBlock ∨ (Value.slice A2 (n + m) c2).ownBlock = some w.heap.size) := by
  have key : ∀ ad, A' = some ad → (∀ j u, (l.flatMap C)[j]? = some u → w.cell? (ad.add j) = some u) → ∃ A2 c2 w', (Builtin.append_ #[t, t] ty #[.slice A n c, .slice A' m c']).run P w = .ok (.slice A2 (n + m) c2) w' ∧ w'.ownsRow base e sz (.slice A2 (n + m) c2) (n + m) (xs ++ l.flatMap C) ∧
      w.grownBy w' (Value.slice A n c).ownBlock ∧ ((Value.slice A2 (n + m) c2).ownBlock = (Value.slice A n c).ownBlock ∨ (Value.slice A2 (n + m) c2).ownBlock = some w.heap.size) := by
    intro ad hA hc
    subst hA
    obtain ⟨v', w', hr, ho, hg, _, hb⟩ := run_append_own_at (P := P) w base t ty e i z sz bytes ht hi hz hsize hby hzs hsz (.slice A n c) n xs hown ad m c' (l.flatMap C) (by rw [flatMap_len hC, hm]) hc
      (fun u hu => by obtain ⟨x, _, hx⟩ := List.mem_flatMap.1 hu; exact h1 x u hx) h63 hbytes hbase
    obtain ⟨A2, c2, rfl⟩ := own_form _ ho
    exact ⟨A2, c2, w', hr, ho, hg, hb⟩
  by_cases hl : l = []
  · subst hl
    have hm0 : m = 0 := by simpa using hm
    subst hm0
    cases A' with
    | some ad => exact key ad rfl (fun j u h => by simp at h)
    | none =>
      refine ⟨A, c, w, ?_, by simpa using hown, World.grownBy.refl w _, .inl rfl⟩
      rcases hown.2 with ⟨hv, rfl⟩ | ⟨g, cap, cur, hv, _, _, hnc, _⟩
      · injection hv with hA _ hc
        subst hA
        subst hc
        simp [Builtin.append_, run_underlying ht, sizeOf, typeInfo, hi, Builtin.lenOf, Builtin.firstCells]
      · injection hv with hA _ hc
        subst hA
        subst hc
        simp [Builtin.append_, run_underlying ht, sizeOf, typeInfo, hi, Builtin.lenOf, Builtin.firstCells, hnc, storeCells]
  · obtain ⟨b, o, hA, hc⟩ := hS hl
    refine key _ hA (fun j u h => ?_)
    obtain ⟨k, x, q, h1, h2, rfl⟩ := flatMap_at hC l j u h
    rw [add_plain]
    have := hc k x h1 q u h2
    rwa [Nat.add_assoc] at this

/-- 'x = append(s, y...)' at a row of the call's own. -/
theorem wpList_append_sl {ops : Array Oper} {rest : List Oper} {o : Oper} {a : Act} {Q : Exit → Act → World → Prop} (hgd : o.guard = none) (s x : Operand) (t : TypeId)
    (ho : o.op = .call { callee := .builtin .append, args := #[s, x], argTypes := #[t, t] })
    (base : Nat) (e : TypeId) (i : TypeInfo) (z : Value) (sz bytes : Nat) (ht : P.underlying t = some (.slice e)) (hi : P.info? e = some i) (hz : i.zero = some z)
    (hsize : i.size = sz) (hby : i.bytes = bytes) (hzs : z.cells.size = sz) (hsz : 0 < sz) (hC : ∀ x, (C x).length = sz) (h1 : ∀ x, ∀ u ∈ C x, u.oneCell' = true)
    (A : Option Addr) (n c : Nat) (xs : List Value) (hs : a.eval s = .slice A n c) (hown : w.ownsRow base e sz (.slice A n c) n xs)
    (A' : Option Addr) (m c' : Nat) (l : List α) (hx : a.eval x = .slice A' m c') (hm : m = l.length) (hS : Sl C sz w A' l)
    (h63 : n + m ≤ maxLen) (hbytes : (n + m) * bytes ≤ 140737488355328) (hbase : base ≤ w.heap.size)
    (h : ∀ A2 c2 w', w'.ownsRow base e sz (.slice A2 (n + m) c2) (n + m) (xs ++ l.flatMap C) → w.grownBy w' (Value.slice A n c).ownBlock →
      ((Value.slice A2 (n + m) c2).ownBlock = (Value.slice A n c).ownBlock ∨ (Value.slice A2 (n + m) c2).ownBlock = some w.heap.size) → wpList P ops Q rest (a.put o.dst (.slice A2 (n + m) c2)) w') : wpList P ops Q (o :: rest) a w := by
  obtain ⟨A2, c2, w', hrun, h2, h3, h4⟩ := run_append_sl (P := P) w base t o.type e i z sz bytes ht hi hz hsize hby hzs hsz hC h1 A n c xs hown A' m c' l hm hS h63 hbytes hbase
  refine wpList_plain hgd fun K hK => ?_
  unfold Oper.wp execOp
  simp only [ho, resolve, invoke, builtin, Sem.run_bind, Sem.run_pure, Result.andThen_ok, List.map_toArray, List.map_cons, List.map_nil, hs, hx, hrun]
  exact hK _ _ (h A2 c2 w' h2 h3 h4)
end

/-! ### The bytes of a text -/
def byteAt (s : ByteArray) (i : Nat) : UInt8 := s.data.toList.getD i 0
theorem byteAt_get {s : ByteArray} {k : Nat} (h : k < s.size) : byteAt s k = s[k] := by
  have h' : k < s.data.toList.length := h
  simp only [byteAt, List.getD, List.getElem?_eq_getElem h', Option.getD_some]
  rfl
theorem toList_data (s : ByteArray) : s.toList = s.data.toList := ByteArray.toList_eq s
theorem toList_nil {s : ByteArray} (h : s.size = 0) : s.toList = [] := by rw [toList_data]; exact List.eq_nil_of_length_eq_zero h
theorem toList_more {s : ByteArray} (h : s.size ≠ 0) : s.toList.isEmpty = false := by
  rw [toList_data, List.isEmpty_eq_false_iff]
  exact fun e => h (congrArg List.length e)
theorem bytes_of_string {P : Program} (w : World) (src dst e : TypeId) (s : ByteArray) {u : TypeDesc} (hs : P.underlying src = some u) (hd : P.underlying dst = some (.slice e)) (he : P.underlying e = some (.int .u8)) :
    ∃ w1 cap, (convert src dst (.string s)).run P w = .ok (.slice (some ⟨w.heap.size, 0, none⟩) s.size cap) w1 ∧ Below w.heap.size w w1 ∧
      ∀ j, j < s.size → w1.cell? ⟨w.heap.size, j, none⟩ = some (.int .u8 (byteAt s j).toNat) :=
  ⟨_, _, Lib.run_convert_string_bytes w src dst e s hs hd he,
    ⟨by simp [Lib.bytesWorld, World.freeze, World.alloc, World.drew, -World.alloc_eq, -World.drew_eq], by simp [Lib.bytesWorld, World.freeze, World.alloc, World.drew, -World.alloc_eq, -World.drew_eq], by simp [Lib.bytesWorld, World.freeze, World.alloc, World.drew, -World.alloc_eq, -World.drew_eq], by rw [Lib.bytesWorld_size]; omega, fun k hk => Lib.bytesWorld_at_old w e s k hk⟩,
    fun j hj => Lib.bytesWorld_cell w e s j hj⟩

/-! ### A region that draws its order: quiet operations first, then a forced tail -/
section
variable {P : Program} {ops : Array Oper} {md : Region.Mode} {C : World → Prop}

def wpAnyT (P : Program) (md : Region.Mode) (ops : Array Oper) (C : World → Prop) (n : Nat) (L : Array Bool → Act → Prop) : Nat → Array Bool → Act → Prop
  | 0, listed, a => L listed a
  | f + 1, listed, a =>
    Region.ready md ops listed ≠ [] ∧ ∀ i ∈ Region.ready md ops listed, i < n ∧ qOp P ops C i (wpAnyT P md ops C n L f (listed.setIfInBounds i true)) a

theorem wpAny_of_wpAnyT {n g : Nat} {L : Array Bool → Act → Prop} {Q' : Exit → Act → World → Prop} (hL : ∀ listed a w, C w → L listed a → wpAny P md ops Q' g listed a w) :
    ∀ (f : Nat) (listed : Array Bool) (a : Act) (w : World), C w → wpAnyT P md ops C n L f listed a → wpAny P md ops Q' (f + g) listed a w
  | 0, _, _, _, hw, h => by rw [Nat.zero_add]; exact hL _ _ _ hw h
  | f + 1, listed, a, w, hw, h => by
    rw [show f + 1 + g = (f + g) + 1 by omega]
    exact ⟨fun h0 => absurd h0 h.1, fun i hi => wpOp_of_qOp hw (fun a' w' hw' h' => wpAny_of_wpAnyT hL f _ a' w' hw' h') (h.2 i hi).2⟩

theorem wpAnyT_first {n i : Nat} {oi : Oper} {v : Value} {L : Array Bool → Act → Prop} (hi : ops[i]? = some oi) (hsel : ∀ (j : Nat) (o : Oper) cs b, ops[j]? = some o → o.op ≠ .select cs b)
    (hs : Region.sinkB md ops n = true) (hc : Region.chainB md ops n = true) (hn : n < ops.size) (hin : i < n)
    (hdone : ∀ listed a, L listed a → ∀ j ∈ Region.ready md ops listed, n ≤ j) :
    ∀ (f : Nat) (listed : Array Bool) (a : Act), HeadInv md ops n listed →
      (∀ j oj, ops[j]? = some oj → j ≠ i → listed.getD j true = false → (∀ e ∈ oj.after, Region.binds md e = true → e.on ≠ i) → oi.apart ops oj = true) →
      i ∈ Region.ready md ops listed → YieldsIn P ops C oi v a →
      wpAnyT P md ops C n L f (listed.setIfInBounds i true) (a.put oi.dst v) → wpAnyT P md ops C n L (f + 1) listed a := by
  intro f
  induction f with
  | zero =>
    intro listed a inv _ hr hy H
    have hun := (mem_ready.1 hr).1
    refine ⟨fun h => (by rw [h] at hr; cases hr), fun j hj => ?_⟩
    have hjn : j < n := Nat.lt_of_not_le fun h => tail_waits hs hc hn inv _ i rfl hin hun j h hj
    refine ⟨hjn, ?_⟩
    by_cases hji : j = i
    · subst hji
      exact hy.qOp hi H
    · exact absurd (hdone _ _ H j (ready_mono hj hji)) (by omega)
  | succ f ih =>
    intro listed a inv hfree hr hy H
    have hun := (mem_ready.1 hr).1
    refine ⟨fun h => (by rw [h] at hr; cases hr), fun j hj => ?_⟩
    have hjn : j < n := Nat.lt_of_not_le fun h => tail_waits hs hc hn inv _ i rfl hin hun j h hj
    refine ⟨hjn, ?_⟩
    by_cases hji : j = i
    · subst hji
      exact hy.qOp hi H
    · have h1 := (H.2 j (ready_mono hj hji)).2
      obtain ⟨hjun, oj, hoj, hall⟩ := mem_ready.1 hj
      have hnot : ∀ e ∈ oj.after, Region.binds md e = true → e.on ≠ i := fun e he hb heq => by
        have h1 := hall e he hb
        rw [heq, getD_both hun] at h1
        cases h1
      have h2 := qOp_put hoj (hfree j oj hoj hji hjun hnot) (fun cs b => hsel i oi cs b hi) (fun cs b => hsel j oj cs b hoj) hy h1
      refine qOp_mono (fun a' h3 => ih (listed.setIfInBounds j true) a' (inv.set hj hjn) (fun k ok hk hki hun' hno => ?_) (ready_mono hr (Ne.symm hji)) h3.1 ?_) h2
      · refine hfree k ok hk hki ?_ hno
        by_cases hjk : j = k
        · subst hjk
          exact hjun
        · rw [getD_set_ne true hjk] at hun'
          exact hun'
      · rw [Array.setIfInBounds_comm _ _ hji]
        exact h3.2

theorem wpAnyT_lex {n g : Nat} {Lq : Act → Prop} (hsel : Region.noSelect ops = true) (hs : Region.sinkB md ops n = true) (hc : Region.chainB md ops n = true) (hn : n < ops.size) :
    ∀ (l : List Oper) (k : Nat) (listed : Array Bool) (a : Act), (∀ j, j < l.length → l[j]? = ops[k + j]?) → k + l.length = n → HeadInv md ops n listed →
    Region.lexHead md ops g l.length k listed = true → wpQuiet P ops C Lq l a →
    wpAnyT P md ops C n (fun listed' a' => Region.seqB md ops g n listed' = true ∧ Lq a') l.length listed a
  | [], k, listed, a, _, hk, _, hB, h => by
    have : k = n := by simpa using hk
    subst this
    exact ⟨by simpa [Region.lexHead] using hB, h⟩
  | o :: l, k, listed, a, hl, hk, inv, hB, h => by
    have h0 : ops[k]? = some o := by simpa using (hl 0 (by simp)).symm
    simp only [List.length_cons, Region.lexHead, Bool.and_eq_true] at hB
    obtain ⟨⟨hr, hf⟩, hB'⟩ := hB
    have hkn : k < n := by simp only [List.length_cons] at hk; omega
    have hr' : k ∈ Region.ready md ops listed := by simpa using hr
    have hst : qOp P ops C k (wpQuiet P ops C Lq l) a := by unfold qOp; simp only [h0]; exact h
    obtain ⟨v, hy, hK⟩ := yieldsIn_of_qOp h0 hst
    exact wpAnyT_first h0 (Region.noSelect_spec hsel) hs hc hn hkn (fun listed' a' hL => seqB_ready hL.1) l.length listed a inv (Region.free_spec h0 hf) hr' hy
      (wpAnyT_lex hsel hs hc hn l (k + 1) _ _ (fun j hj => by have := hl (j + 1) (by simp; omega); simpa [Nat.add_assoc, Nat.add_comm 1 j] using this) (by simp only [List.length_cons] at hk; omega) (inv.set hr' hkn) hB' hK)

/-- The first n operations quiet in every later world, the others in one forced order behind them. -/
theorem wp_region_tail {id : Nat} {Q : Exit → Act → World → Prop} {a : Act} {w : World} {l : List Oper} (n : Nat) (hm : P.follows .mixedOrders = true) (hB : Region.lexTailB .any l.toArray n = true)
    (h : wpQuiet P l.toArray (fun w' => ∃ k : Later w, w' = k.at) (fun a' => ∀ w', (∃ k : Later w, w' = k.at) → wpList P l.toArray Q (l.drop n) a' w') (l.take n) a) : (Code.region id l.toArray true).wp P Q a w := by
  simp only [Region.lexTailB, Bool.and_eq_true, decide_eq_true_eq] at hB
  obtain ⟨⟨⟨⟨hsel, hn⟩, hs⟩, hc⟩, hlex⟩ := hB
  have hn' : n < l.length := by simpa using hn
  have htl : (l.take n).length = n := by simp; omega
  have hdl : (l.drop n).length = l.toArray.size - n := by simp
  have inv0 : HeadInv .any l.toArray n (Array.replicate l.toArray.size false) :=
    ⟨by simp, fun j oj _ hl => (by rw [getD_replicate_false] at hl; cases hl), fun t _ ht => getD_in (by simpa using ht) (getD_replicate_false _ _)⟩
  have H := wpAnyT_lex (md := .any) (g := l.toArray.size - n) hsel hs hc hn (l.take n) 0 _ a (fun j hj => by
    have hj' : j < n := by rw [htl] at hj; exact hj
    simp [hj']) (by simpa using htl) inv0 (by rw [htl]; exact hlex) h
  refine wp_region_any hm ?_
  have := wpAny_of_wpAnyT (Q' := Q) (g := l.toArray.size - n) (fun listed a' w' hw' hL => by
    have := wpAny_of_seq (md := .any) (Q' := Q) (l.drop n) n listed a' w' (fun j => by simp [List.getElem?_drop]) (by rw [hdl]; exact hL.1) (hL.2 w' hw')
    rwa [hdl] at this) _ _ _ _ (Later.drawn w) H
  rw [htl, show n + (l.toArray.size - n) = l.toArray.size by omega] at this
  exact this
/-- All operations quiet in every later world. -/
theorem wp_region_later {id : Nat} {Q : Exit → Act → World → Prop} {a : Act} {w : World} {l : List Oper} (hm : P.follows .mixedOrders = true) (hB : Region.lexB .any l.toArray = true)
    (h : wpQuiet P l.toArray (fun w' => ∃ k : Later w, w' = k.at) (fun a' => ∀ w', (∃ k : Later w, w' = k.at) → Q .normal a' w') l a) : (Code.region id l.toArray true).wp P Q a w :=
  wp_region_quiet (C := fun w' => ∃ k : Later w, w' = k.at) hm hB (Later.drawn w) (by simpa using h)
end

end Go.Proofs.YtmfmpagfjgpodaaGreatDoor

/-! Reg: A region that draws its order, told by what each operation gives: of every program; no condition. -/
namespace Go.Proofs.YtmfmpagfjgpodaaGreatDoor
open Go.RowKit

/-- What is asked of one operation's result. -/
def givesUpon (P : Program) (R : Value → World → Prop) : Result Next → Prop
  | .ok (.value v) w' => R v w'
  | .ok .skip w' => R undef w'
  | .ok (.enter f args) w' => Calls P f args w' fun e w'' => ∃ v, e = .returned v ∧ R v w''
  | _ => False
def gives (P : Program) (o : Oper) (a : Act) (w : World) (R : Value → World → Prop) : Prop := givesUpon P R ((execOp a.eval o).run P w)
attribute [go_sem] gives givesUpon

section
variable {P : Program} {ops : Array Oper} {md : Region.Mode}

theorem wp_of_gives {o : Oper} {a a' : Act} {w : World} {R : Value → World → Prop} {K : Act → World → Prop} {Q : Exit → Act → World → Prop} (h : gives P o a w R) (he : execOp a'.eval o = execOp a.eval o)
    (hk : ∀ v w', R v w' → K (a'.put o.dst v) w') : o.wp P a' w K Q := by
  unfold gives at h
  unfold Oper.wp
  rw [he]
  generalize (execOp a.eval o).run P w = r at *
  cases r with
  | ok n w' =>
    cases n <;> simp only [givesUpon] at h <;> simp only [Oper.upon]
    case value v => exact hk _ _ h
    case skip => exact hk _ _ h
    case enter f args => exact h.mono fun e w'' ⟨v, hv, hr⟩ => by subst hv; exact hk _ _ hr
  | halt x w' => simp only [givesUpon] at h

/-- The frame behind those operations of a list that have come up. -/
def fill (listed : Nat → Bool) (vs : Nat → Value) : List Oper → Nat → Act → Act
  | [], _, a => a
  | o :: l, i, a => fill listed vs l (i + 1) (if listed i then a.put o.dst (vs i) else a)
def distB : List Oper → Bool
  | [] => true
  | o :: l => (match o.dst with | some d => l.all fun p => p.dst != some d | none => true) && distB l
theorem fill_congr {listed listed' : Nat → Bool} {vs vs' : Nat → Value} : ∀ (l : List Oper) (k : Nat) (a : Act), (∀ i, k ≤ i → i < k + l.length → listed i = listed' i ∧ vs i = vs' i) → fill listed vs l k a = fill listed' vs' l k a
  | [], _, _, _ => rfl
  | o :: l, k, a, h => by
    obtain ⟨h1, h2⟩ := h k (Nat.le_refl _) (by simp)
    rw [fill, fill, h1, h2]
    exact fill_congr l (k + 1) _ fun i hi hi' => h i (by omega) (by simp only [List.length_cons]; omega)
theorem fill_put {listed : Nat → Bool} {vs : Nat → Value} {x : Option Tmp} {v : Value} : ∀ (l : List Oper) (k : Nat) (a : Act), (∀ p ∈ l, ∀ d, x = some d → p.dst ≠ some d) → (fill listed vs l k a).put x v = fill listed vs l k (a.put x v)
  | [], _, _, _ => rfl
  | o :: l, k, a, h => by
    rw [fill, fill, fill_put l (k + 1) _ fun p hp => h p (List.mem_cons_of_mem _ hp)]
    congr 1
    split
    · exact (Act.put_comm a v (vs k) (h o (List.mem_cons_self ..))).symm
    · rfl
theorem distB_spec {o : Oper} {l : List Oper} (h : distB (o :: l) = true) : (∀ p ∈ l, ∀ d, o.dst = some d → p.dst ≠ some d) ∧ distB l = true := by
  simp only [distB, Bool.and_eq_true] at h
  refine ⟨fun p hp d hd => ?_, h.2⟩
  have := h.1
  rw [hd] at this
  simpa using List.all_eq_true.1 this p hp
/-- One operation more has come up. -/
theorem fill_set {listed listed' : Nat → Bool} {vs vs' : Nat → Value} {i : Nat} {o : Oper} {v : Value} (hl : ∀ j, j ≠ i → listed' j = listed j ∧ vs' j = vs j) (hi : listed i = false) (hi' : listed' i = true ∧ vs' i = v) :
    ∀ (l : List Oper) (k : Nat) (a : Act), distB l = true → k ≤ i → l[i - k]? = some o → (fill listed vs l k a).put o.dst v = fill listed' vs' l k a
  | [], _, _, _, _, h => by simp at h
  | p :: l, k, a, hd, hk, h => by
    obtain ⟨hd1, hd2⟩ := distB_spec hd
    by_cases he : k = i
    · subst he
      have : p = o := by simpa using h
      subst this
      rw [fill, fill, hi, hi'.1, hi'.2]
      simp only [Bool.false_eq_true, if_false, if_true]
      rw [fill_put l (k + 1) a hd1]
      exact fill_congr l (k + 1) _ fun j hj _ => ⟨(hl j (by omega)).1.symm, (hl j (by omega)).2.symm⟩
    · rw [fill, fill, (hl k he).1, (hl k he).2]
      refine fill_set hl hi hi' l (k + 1) _ hd2 (by omega) ?_
      rw [show i - k = (i - (k + 1)) + 1 by omega, List.getElem?_cons_succ] at h
      exact h
/-- What an operation does not look at makes no difference to it. -/
theorem fill_same {listed : Nat → Bool} {vs : Nat → Value} {o : Oper} (hs : ∀ cs b, o.op ≠ .select cs b) : ∀ (l : List Oper) (k : Nat) (a : Act), distB l = true →
    (∀ j p, l[j]? = some p → listed (k + j) = false → ∀ d, p.dst = some d → d ∉ o.looksAt ops) →
    execOp (fill listed vs l k a).eval o = execOp (fill (fun _ => true) vs l k a).eval o ∧ Region.wanted o (yielded ops (fill listed vs l k a).tmps) = Region.wanted o (yielded ops (fill (fun _ => true) vs l k a).tmps)
  | [], _, _, _, _ => ⟨rfl, rfl⟩
  | p :: l, k, a, hd, h => by
    obtain ⟨hd1, hd2⟩ := distB_spec hd
    have ih := fun a => fill_same (listed := listed) (vs := vs) hs l (k + 1) a hd2 fun j p hj hl => h (j + 1) p (by simpa using hj) (by rw [show k + (j + 1) = k + 1 + j by omega]; exact hl)
    rw [fill, fill]
    simp only [if_true]
    by_cases hk : listed k = true
    · rw [if_pos hk]
      exact ih _
    · rw [if_neg hk]
      obtain ⟨h1, h2⟩ := ih a
      have hno := h 0 p rfl (by simpa using hk)
      rw [← fill_put l (k + 1) a hd1, execOp_put o hs _ p.dst (vs k) hno, wanted_put o _ p.dst (vs k) hno]
      exact ⟨h1, h2⟩

/-- Every operation of the head waits for the operations of the head whose values it looks at, and for earlier ones alone. -/
def Region.specB (ops : Array Oper) (n : Nat) : Bool :=
  Region.noSelect ops && decide (n < ops.size) && Region.sinkB .any ops n && Region.chainB .any ops n && distB (ops.toList.take n) &&
  (List.range n).all (fun i => match ops[i]? with
    | some o => (o.looksAt ops).all (fun t => (List.range n).all fun j => ((ops[j]?).bind (·.dst)) != some t || Region.waitsFor .any ops i j) && o.after.all (fun e => !Region.binds .any e || decide (e.on < i))
    | none => false) &&
  Region.seqB .any ops (ops.size - n) n (Array.replicate n true ++ Array.replicate (ops.size - n) false)

/-- What is asked of operation number i of the head: from the values of what it waits for. -/
def specOp (P : Program) (ops : Array Oper) (w0 : World) (a0 : Act) (n : Nat) (S : Nat → Value → World → Prop) (i : Nat) : Prop :=
  ∀ o, ops[i]? = some o → ∀ (vs : Nat → Value) (w : World), Below w0.heap.size w0 w → (∀ j, j < n → Region.waitsFor .any ops i j = true → S j (vs j) w) →
    if Region.wanted o (yielded ops (fill (fun _ => true) vs (ops.toList.take n) 0 a0).tmps) then
      gives P o (fill (fun _ => true) vs (ops.toList.take n) 0 a0) w fun v w' => S i v w' ∧ Below w.heap.size w w'
    else S i undef w

structure SpecInv (ops : Array Oper) (w0 : World) (a0 : Act) (n : Nat) (S : Nat → Value → World → Prop) (listed : Array Bool) (vs : Nat → Value) (a : Act) (w : World) : Prop where
  head : HeadInv .any ops n listed
  frame : a = fill (fun i => listed.getD i false) vs (ops.toList.take n) 0 a0
  world : Below w0.heap.size w0 w
  vals : ∀ i, i < n → listed.getD i false = true → S i (vs i) w

theorem count_set_true {l : List Bool} {i : Nat} (h : l[i]? = some false) : (l.set i true).count false + 1 = l.count false := by
  obtain ⟨hi, he⟩ := List.getElem?_eq_some_iff.1 h
  rw [List.count_set hi, he]
  have : 0 < l.count false := List.count_pos_iff.2 (by rw [← he]; exact List.getElem_mem hi)
  simp
  omega

theorem wpAny_of_spec {Q : Exit → Act → World → Prop} {w0 : World} {a0 : Act} {n : Nat} {S : Nat → Value → World → Prop} (hB : Region.specB ops n = true)
    (hst : ∀ i, i < n → ∀ v w w', S i v w → Below w.heap.size w w' → S i v w')
    (hop : ∀ i, i < n → specOp P ops w0 a0 n S i)
    (htail : ∀ vs w, Below w0.heap.size w0 w → (∀ i, i < n → S i (vs i) w) → wpList P ops Q (ops.toList.drop n) (fill (fun _ => true) vs (ops.toList.take n) 0 a0) w) :
    ∀ (F : Nat) (listed : Array Bool) (vs : Nat → Value) (a : Act) (w : World), SpecInv ops w0 a0 n S listed vs a w → listed.toList.count false = F → wpAny P .any ops Q F listed a w := by
  simp only [Region.specB, Bool.and_eq_true, decide_eq_true_eq] at hB
  obtain ⟨⟨⟨⟨⟨⟨hsel, hn⟩, hs⟩, hc⟩, hd⟩, hlook⟩, hseq⟩ := hB
  have hlk : ∀ i, i < n → ∀ o, ops[i]? = some o → (∀ t ∈ o.looksAt ops, ∀ j, j < n → ∀ p, ops[j]? = some p → p.dst = some t → Region.waitsFor .any ops i j = true) ∧ (∀ e ∈ o.after, Region.binds .any e = true → e.on < i) := by
    intro i hi o ho
    have h := List.all_eq_true.1 hlook i (List.mem_range.2 hi)
    simp only [ho, Bool.and_eq_true] at h
    refine ⟨fun t ht j hj p hp hpd => ?_, fun e he hb => ?_⟩
    · have h1 := List.all_eq_true.1 (List.all_eq_true.1 h.1 t ht) j (List.mem_range.2 hj)
      simp only [hp, Option.bind_some, hpd, bne_self_eq_false, Bool.false_or] at h1
      exact h1
    · have h1 := Array.all_eq_true'.1 h.2 e he
      simp only [hb, Bool.not_true, Bool.false_or, decide_eq_true_eq] at h1
      exact h1
  intro F
  induction F with
  | zero =>
    intro listed vs a w inv hcount
    have hnot : ∀ i, i < ops.size → listed.getD i false = true := by
      intro i hi
      have hi' : i < listed.toList.length := by rw [Array.length_toList, inv.head.size]; exact hi
      have hm : listed.toList[i] ≠ false := fun h => by
        have : false ∈ listed.toList := by rw [← h]; exact List.getElem_mem hi'
        exact absurd (List.count_pos_iff.2 this) (by omega)
      simp only [Array.getElem_toList] at hm
      simp [inv.head.size, hi, hm]
    have hu := inv.head.tail n (Nat.le_refl _) hn
    have h1 := hnot n hn
    rw [getD_both hu] at h1
    cases h1
  | succ F ih =>
    intro listed vs a w inv hcount
    by_cases hall : ∀ i, i < n → listed.getD i true = true
    · have hlist : listed = Array.replicate n true ++ Array.replicate (ops.size - n) false := by
        apply Array.ext
        · simp [inv.head.size]; omega
        · intro i h1 h2
          have hs1 := inv.head.size
          by_cases hin : i < n
          · have := hall i hin
            rw [Array.getElem_append_left (by simpa using hin)]
            simp [h1] at this ⊢
            exact this
          · have := inv.head.tail i (by omega) (by omega)
            rw [Array.getElem_append_right (by simp; omega)]
            simp [h1] at this ⊢
            exact this
      have hF : F + 1 = (ops.toList.drop n).length := by
        rw [← hcount, hlist]
        simp [List.count_replicate]
      rw [hF]
      refine wpAny_of_seq _ n listed a w (fun j => by simp) ?_ ?_
      · rw [List.length_drop, Array.length_toList, hlist]
        exact hseq
      · rw [inv.frame]
        have hfc : fill (fun i => listed.getD i false) vs (ops.toList.take n) 0 a0 = fill (fun _ => true) vs (ops.toList.take n) 0 a0 := by
          refine fill_congr _ 0 _ fun i _ hi => ⟨?_, rfl⟩
          have hin : i < n := by simp at hi; omega
          have := hall i hin
          have hsz : i < listed.size := by rw [inv.head.size]; omega
          simp [hsz] at this ⊢
          exact this
        rw [hfc]
        refine htail vs w inv.world fun i hi => inv.vals i hi ?_
        have := hall i hi
        have hsz : i < listed.size := by rw [inv.head.size]; omega
        simp [hsz] at this ⊢
        exact this
    · have hex : ∃ i, i < n ∧ listed.getD i true = false := by
        simpa using hall
      have hmin : ∃ i, (i < n ∧ listed.getD i true = false) ∧ ∀ j, j < i → ¬ (j < n ∧ listed.getD j true = false) := by
        obtain ⟨i, hi⟩ := hex
        induction i using Nat.strongRecOn with
        | _ i ih2 =>
          by_cases h : ∃ j, j < i ∧ j < n ∧ listed.getD j true = false
          · obtain ⟨j, hj, hj2⟩ := h
            exact ih2 j hj hj2
          · exact ⟨i, hi, fun j hj hh => h ⟨j, hj, hh⟩⟩
      obtain ⟨m, ⟨hmn, hmu⟩, hmm⟩ := hmin
      have hready : m ∈ Region.ready .any ops listed := by
        obtain ⟨o, ho⟩ : ∃ o, ops[m]? = some o := ⟨ops[m]'(by omega), by simp⟩
        refine mem_ready.2 ⟨hmu, o, ho, fun e he hb => ?_⟩
        have hlt := (hlk m hmn o ho).2 e he hb
        have hl := hmm e.on hlt
        have hsz : e.on < listed.size := by rw [inv.head.size]; omega
        cases hv : listed.getD e.on false with
        | true => rfl
        | false => exact absurd ⟨by omega, getD_in hsz hv⟩ hl
      refine ⟨fun h => (by rw [h] at hready; cases hready), fun i hi => ?_⟩
      have hin : i < n := by
        rcases Nat.lt_or_ge i n with h | h
        · exact h
        · exact absurd hi (tail_waits hs hc hn inv.head _ m rfl hmn hmu i h)
      obtain ⟨hiu, o, ho, hdone⟩ := mem_ready.1 hi
      have hisz : i < listed.size := by rw [inv.head.size]; omega
      have hwait : ∀ j, Region.waitsFor .any ops i j = true → listed.getD j false = true := by
        intro j hj
        obtain ⟨o', ho', e, he, hb, hon⟩ := Region.waitsFor_spec hj
        have : o' = o := Option.some.inj (ho'.symm.trans ho)
        subst this
        rw [← hon]
        exact hdone e he hb
      have hsame := fill_same (ops := ops) (listed := fun i => listed.getD i false) (vs := vs) (o := o) (fun cs b => Region.noSelect_spec hsel i o cs b ho) (ops.toList.take n) 0 a0 hd (by
        intro j p hp hl d hpd hdl
        have hjn : j < n := by
          have := (List.getElem?_eq_some_iff.1 hp).1
          simp at this
          omega
        have hpj : ops[j]? = some p := by
          rw [List.getElem?_take_of_lt hjn] at hp
          simpa using hp
        have := hwait j ((hlk i hin o ho).1 d hdl j hjn p hpj hpd)
        rw [Nat.zero_add] at hl
        rw [this] at hl
        cases hl)
      have hso := hop i hin o ho vs w inv.world (fun j hj hw => inv.vals j hj (hwait j hw))
      have hnext : ∀ v w', S i v w' → Below w.heap.size w w' → wpAny P .any ops Q F (listed.setIfInBounds i true) (a.put o.dst v) w' := by
        intro v w' hv hb
        refine ih (listed.setIfInBounds i true) (fun j => if j = i then v else vs j) _ w' ⟨inv.head.set hi hin, ?_, below_step inv.world hb, ?_⟩ ?_
        · rw [inv.frame]
          refine fill_set (i := i) (fun j hj => ⟨getD_set_ne false (Ne.symm hj), by simp [hj]⟩) (getD_both hiu) ⟨?_, by simp⟩ _ 0 _ hd (Nat.zero_le _) ?_
          · simp [hisz]
          · rw [Nat.sub_zero, List.getElem?_take_of_lt hin]
            simpa using ho
        · intro j hj hl
          by_cases hji : j = i
          · subst hji
            simpa using hv
          · simp only [hji, if_false]
            rw [getD_set_ne false (Ne.symm hji)] at hl
            exact hst j hj _ _ _ (inv.vals j hj hl) hb
        · have h1 : listed.toList[i]? = some false := by
            have : listed[i] = false := by simpa [hisz] using hiu
            simp [hisz, this]
          have h2 := count_set_true h1
          rw [Array.toList_setIfInBounds]
          omega
      have hframe : a = fill (fun i => listed.getD i false) vs (ops.toList.take n) 0 a0 := inv.frame
      have he1 : execOp a.eval o = execOp (fill (fun _ => true) vs (ops.toList.take n) 0 a0).eval o := by rw [hframe]; exact hsame.1
      have he2 : Region.wanted o (yielded ops a.tmps) = Region.wanted o (yielded ops (fill (fun _ => true) vs (ops.toList.take n) 0 a0).tmps) := by rw [hframe]; exact hsame.2
      unfold wpOp
      simp only [ho]
      rw [he2]
      by_cases hw : Region.wanted o (yielded ops (fill (fun _ => true) vs (ops.toList.take n) 0 a0).tmps) = true
      · rw [if_pos hw] at hso ⊢
        exact Or.inl (wp_of_gives hso he1 fun v w' h => hnext v w' h.1 h.2)
      · rw [if_neg hw] at hso ⊢
        exact hnext undef w hso (Below.refl _ _)

theorem wp_region_spec {id : Nat} {Q : Exit → Act → World → Prop} {a : Act} {w : World} {l : List Oper} (n : Nat) (S : Nat → Value → World → Prop) (hm : P.follows .mixedOrders = true) (hB : Region.specB l.toArray n = true)
    (hst : ∀ i, i < n → ∀ v w w', S i v w → Below w.heap.size w w' → S i v w')
    (hop : ∀ i, i < n → specOp P l.toArray w a n S i)
    (htail : ∀ vs w', Below w.heap.size w w' → (∀ i, i < n → S i (vs i) w') → wpList P l.toArray Q (l.drop n) (fill (fun _ => true) vs (l.take n) 0 a) w') : (Code.region id l.toArray true).wp P Q a w := by
  refine wp_region_any hm ?_
  refine wpAny_of_spec (w0 := w) (a0 := a) (S := S) hB hst hop (by simpa using htail) _ _ (fun _ => undef) _ _ ⟨?_, ?_, ?_, ?_⟩ ?_
  · exact ⟨by simp, fun j oj _ hl => (by rw [getD_replicate_false] at hl; cases hl), fun t _ ht => getD_in (by simpa using ht) (getD_replicate_false _ _)⟩
  · have : ∀ (l : List Oper) (k : Nat) (a : Act) (vs : Nat → Value) (m : Nat), a = fill (fun i => (Array.replicate m false).getD i false) vs l k a := by
      intro l
      induction l with
      | nil => intros; rfl
      | cons o l ih => intro k a vs m; rw [fill, getD_replicate_false]; exact ih (k + 1) a vs m
    exact this _ 0 a _ _
  · exact (Below.refl _ _).drew
  · intro i _ h
    rw [getD_replicate_false] at h
    cases h
  · simp
end
end Go.Proofs.YtmfmpagfjgpodaaGreatDoor

/-! Rew: A region that draws its order, walked once in the order of its text, some operations told by what they give: of every program; no condition. -/
namespace Go.Proofs.YtmfmpagfjgpodaaGreatDoor
open Go.RowKit

/-! ### What a call hands back is one value -/
def stuckFrame : Frame := { fn := 0, tmps := #[], todo := [.code (.exit 0)], defers := [], mode := .run, kind := .normal }
theorem stuck_step (P : Program) (v : Value) (w : World) (m : Machine) : step P (lone (stuckFrame.finish v) [] w) ≠ .next m := by
  have hf : stuckFrame.finish v = stuckFrame := rfl
  have hs : ∃ o, (stepG P true { frame := stuckFrame, callers := [], status := .running, dying := none } w).bare = .ended o w := ⟨_, rfl⟩
  obtain ⟨o, ho⟩ := hs
  rw [hf, step_lone_ended ho]
  simp

theorem steps_either {P : Program} {m m1 m2 : Machine} (h1 : Steps P m m1) (h2 : Steps P m m2) : Steps P m1 m2 ∨ Steps P m2 m1 := by
  obtain ⟨a, ha⟩ := h1
  obtain ⟨b, hb⟩ := h2
  rcases Nat.le_total a b with h | h
  · left
    refine ⟨b - a, ?_⟩
    have := runN_add P a (b - a) m
    rw [ha, Nat.add_sub_cancel' h, hb] at this
    exact this.symm
  · right
    refine ⟨a - b, ?_⟩
    have := runN_add P b (a - b) m
    rw [hb, Nat.add_sub_cancel' h, ha] at this
    exact this.symm

theorem leave_same {P : Program} {fr1 fr2 : Frame} {w1 w2 : World} {v1 v2 : Value} (l1 : fr1.leaving P w1 (.returned v1)) (l2 : fr2.leaving P w2 (.returned v2))
    (h : Steps P (lone fr1 [stuckFrame] w1) (lone fr2 [stuckFrame] w2)) : v1 = v2 := by
  obtain ⟨n, hn⟩ := h
  cases n with
  | zero =>
    simp only [runN, lone] at hn
    injection hn with hn
    injection hn with hw hg _
    have hg' : fr1 = fr2 := by simpa using hg
    subst hg'
    subst hw
    obtain ⟨_, _, _, f1, hf1, hr1⟩ := l1
    obtain ⟨_, _, _, f2, hf2, hr2⟩ := l2
    rw [hf1] at hf2
    injection hf2 with hf
    subst hf
    rw [hr1] at hr2
    injection hr2
  | succ n =>
    simp only [runN, step_leave_returned l1] at hn
    cases n with
    | zero =>
      simp only [runN, lone] at hn
      injection hn with hn
      injection hn with _ hg _
      simp at hg
    | succ n =>
      simp only [runN] at hn
      split at hn
      · rename_i hs
        exact absurd hs (stuck_step P v1 w1 _)
      · rename_i hs
        exact absurd hn (hs _)

theorem calls_uniq {P : Program} {f : FuncId} {args : Array Value} {w : World} {v v' : Value} {C C' : World → Prop}
    (h : Calls P f args w fun e w'' => e = .returned v ∧ C w'') (h' : Calls P f args w fun e w'' => e = .returned v' ∧ C' w'') : v = v' := by
  obtain ⟨e, w1, fr1, ⟨he, _⟩, s1, _, l1⟩ := h [stuckFrame]
  obtain ⟨e', w2, fr2, ⟨he', _⟩, s2, _, l2⟩ := h' [stuckFrame]
  subst he
  subst he'
  rcases steps_either (s1 : Steps P _ _) (s2 : Steps P _ _) with h | h
  · exact leave_same l1 l2 h
  · exact (leave_same l2 l1 h).symm

section
variable {P : Program} {ops : Array Oper}
theorem quietAt_uniq {o : Oper} {a : Act} {C C' : World → Prop} {w : World} {v v' : Value} (h : o.quietAt P a C w v) (h' : o.quietAt P a C' w v') : v = v' := by
  unfold Oper.quietAt at h h'
  generalize (execOp a.eval o).run P w = r at *
  cases r with
  | ok n w' =>
    cases n <;> simp only [Oper.quietUpon] at h h'
    case value u => exact h.2.symm.trans h'.2
    case skip => exact h.2.trans h'.2.symm
    case enter f args => exact calls_uniq h.2 h'.2
  | halt x w' => simp only [Oper.quietUpon] at h
theorem yieldsIn_uniq {o : Oper} {a : Act} {C C' : World → Prop} {w : World} {v v' : Value} (hC : C w) (hC' : C' w) (h : YieldsIn P ops C o v a) (h' : YieldsIn P ops C' o v' a) : v = v' := by
  rcases h with ⟨h1, h2⟩ | ⟨h1, h2⟩ <;> rcases h' with ⟨h3, h4⟩ | ⟨h3, h4⟩
  · exact quietAt_uniq (h2 w hC) (h4 w hC')
  · rw [h1] at h3; cases h3
  · rw [h1] at h3; cases h3
  · rw [h2, h4]
end

/-! ### The order of a region, whatever it is -/
section
variable {P : Program} {ops : Array Oper}
theorem wpAny_skel {Q : Exit → Act → World → Prop} {n : Nat} {Inv : Array Bool → Act → World → Prop} (hB : Region.specB ops n = true)
    (hhead : ∀ listed a w, Inv listed a w → HeadInv .any ops n listed)
    (hstep : ∀ listed a w i o, Inv listed a w → i ∈ Region.ready .any ops listed → i < n → ops[i]? = some o → listed.getD i true = false → wpOp P ops Q i (fun a' w' => Inv (listed.setIfInBounds i true) a' w') a w)
    (htail : ∀ listed a w, Inv listed a w → (∀ i, i < n → listed.getD i false = true) → wpList P ops Q (ops.toList.drop n) a w) :
    ∀ (F : Nat) (listed : Array Bool) (a : Act) (w : World), Inv listed a w → listed.toList.count false = F → wpAny P .any ops Q F listed a w := by
  simp only [Region.specB, Bool.and_eq_true, decide_eq_true_eq] at hB
  obtain ⟨⟨⟨⟨⟨⟨hsel, hn⟩, hs⟩, hc⟩, hd⟩, hlook⟩, hseq⟩ := hB
  have haft : ∀ i, i < n → ∀ o, ops[i]? = some o → ∀ e ∈ o.after, Region.binds .any e = true → e.on < i := by
    intro i hi o ho e he hb
    have h := List.all_eq_true.1 hlook i (List.mem_range.2 hi)
    simp only [ho, Bool.and_eq_true] at h
    have h1 := Array.all_eq_true'.1 h.2 e he
    simp only [hb, Bool.not_true, Bool.false_or, decide_eq_true_eq] at h1
    exact h1
  intro F
  induction F with
  | zero =>
    intro listed a w inv hcount
    have head := hhead _ _ _ inv
    have hnot : ∀ i, i < ops.size → listed.getD i false = true := by
      intro i hi
      have hi' : i < listed.toList.length := by rw [Array.length_toList, head.size]; exact hi
      have hm : listed.toList[i] ≠ false := fun h => by
        have : false ∈ listed.toList := by rw [← h]; exact List.getElem_mem hi'
        exact absurd (List.count_pos_iff.2 this) (by omega)
      simp only [Array.getElem_toList] at hm
      simp [head.size, hi, hm]
    have hu := head.tail n (Nat.le_refl _) hn
    have h1 := hnot n hn
    rw [getD_both hu] at h1
    cases h1
  | succ F ih =>
    intro listed a w inv hcount
    have head := hhead _ _ _ inv
    by_cases hall : ∀ i, i < n → listed.getD i true = true
    · have hlist : listed = Array.replicate n true ++ Array.replicate (ops.size - n) false := by
        apply Array.ext
        · simp [head.size]; omega
        · intro i h1 h2
          have hs1 := head.size
          by_cases hin : i < n
          · have := hall i hin
            rw [Array.getElem_append_left (by simpa using hin)]
            simp [h1] at this ⊢
            exact this
          · have := head.tail i (by omega) (by omega)
            rw [Array.getElem_append_right (by simp; omega)]
            simp [h1] at this ⊢
            exact this
      have hF : F + 1 = (ops.toList.drop n).length := by
        rw [← hcount, hlist]
        simp [List.count_replicate]
      rw [hF]
      refine wpAny_of_seq _ n listed a w (fun j => by simp) ?_ (htail _ _ _ inv ?_)
      · rw [List.length_drop, Array.length_toList, hlist]
        exact hseq
      · intro i hin
        have := hall i hin
        have hsz : i < listed.size := by rw [head.size]; omega
        simp [hsz] at this ⊢
        exact this
    · have hex : ∃ i, i < n ∧ listed.getD i true = false := by
        simpa using hall
      have hmin : ∃ i, (i < n ∧ listed.getD i true = false) ∧ ∀ j, j < i → ¬ (j < n ∧ listed.getD j true = false) := by
        obtain ⟨i, hi⟩ := hex
        induction i using Nat.strongRecOn with
        | _ i ih2 =>
          by_cases h : ∃ j, j < i ∧ j < n ∧ listed.getD j true = false
          · obtain ⟨j, hj, hj2⟩ := h
            exact ih2 j hj hj2
          · exact ⟨i, hi, fun j hj hh => h ⟨j, hj, hh⟩⟩
      obtain ⟨m, ⟨hmn, hmu⟩, hmm⟩ := hmin
      have hready : m ∈ Region.ready .any ops listed := by
        obtain ⟨o, ho⟩ : ∃ o, ops[m]? = some o := ⟨ops[m]'(by omega), by simp⟩
        refine mem_ready.2 ⟨hmu, o, ho, fun e he hb => ?_⟩
        have hlt := haft m hmn o ho e he hb
        have hl := hmm e.on hlt
        have hsz : e.on < listed.size := by rw [head.size]; omega
        cases hv : listed.getD e.on false with
        | true => rfl
        | false => exact absurd ⟨by omega, getD_in hsz hv⟩ hl
      refine ⟨fun h => (by rw [h] at hready; cases hready), fun i hi => ?_⟩
      have hin : i < n := by
        rcases Nat.lt_or_ge i n with h | h
        · exact h
        · exact absurd hi (tail_waits hs hc hn head _ m rfl hmn hmu i h)
      obtain ⟨hiu, o, ho, _⟩ := mem_ready.1 hi
      have hisz : i < listed.size := by rw [head.size]; omega
      refine wpOp_mono (fun a' w' h' => ih _ a' w' h' ?_) (hstep listed a w i o inv hi hin ho hiu)
      have h1 : listed.toList[i]? = some false := by
        have : listed[i] = false := by simpa [hisz] using hiu
        simp [hisz, this]
      have h2 := count_set_true h1
      rw [Array.toList_setIfInBounds]
      omega

theorem fill_congr' {listed listed' : Nat → Bool} {vs vs' : Nat → Value} : ∀ (l : List Oper) (k : Nat) (a : Act), (∀ i, k ≤ i → i < k + l.length → listed i = listed' i ∧ (listed i = true → vs i = vs' i)) → fill listed vs l k a = fill listed' vs' l k a
  | [], _, _, _ => rfl
  | o :: l, k, a, h => by
    obtain ⟨h1, h2⟩ := h k (Nat.le_refl _) (by simp)
    have : (if listed k then a.put o.dst (vs k) else a) = (if listed' k then a.put o.dst (vs' k) else a) := by
      rw [← h1]
      split
      · rename_i hk; rw [h2 hk]
      · rfl
    rw [fill, fill, this]
    exact fill_congr' l (k + 1) _ fun i hi hi' => h i (by omega) (by simp only [List.length_cons]; omega)
theorem fill_nothing {vs : Nat → Value} : ∀ (l : List Oper) (k : Nat) (a : Act), fill (fun _ => false) vs l k a = a
  | [], _, _ => rfl
  | o :: l, k, a => by rw [fill]; exact fill_nothing l (k + 1) a
theorem fill_unseen {listed : Nat → Bool} {vs : Nat → Value} {o p : Oper} (hs : ∀ cs b, o.op ≠ .select cs b) (l : List Oper) (k : Nat) (a : Act) (hd : ∀ q ∈ l, ∀ d, p.dst = some d → q.dst ≠ some d)
    (hno : ∀ d, p.dst = some d → d ∉ o.looksAt ops) : execOp (fill listed vs (p :: l) k a).eval o = execOp (fill listed vs l (k + 1) a).eval o ∧ Region.wanted o (yielded ops (fill listed vs (p :: l) k a).tmps) = Region.wanted o (yielded ops (fill listed vs l (k + 1) a).tmps) := by
  rw [fill]
  split
  · rw [← fill_put l (k + 1) a hd]
    exact ⟨execOp_put o hs _ p.dst (vs k) hno, wanted_put o _ p.dst (vs k) hno⟩
  · exact ⟨rfl, rfl⟩
/-- What an operation does not look at makes no difference to it. -/
theorem fill_eq {listed listed' : Nat → Bool} {vs vs' : Nat → Value} {o : Oper} (hs : ∀ cs b, o.op ≠ .select cs b) : ∀ (l : List Oper) (k : Nat) (a : Act), distB l = true →
    (∀ j p, l[j]? = some p → ∀ d, p.dst = some d → d ∈ o.looksAt ops → listed (k + j) = listed' (k + j) ∧ (listed (k + j) = true → vs (k + j) = vs' (k + j))) →
    execOp (fill listed vs l k a).eval o = execOp (fill listed' vs' l k a).eval o ∧ Region.wanted o (yielded ops (fill listed vs l k a).tmps) = Region.wanted o (yielded ops (fill listed' vs' l k a).tmps)
  | [], _, _, _, _ => ⟨rfl, rfl⟩
  | p :: l, k, a, hd, h => by
    obtain ⟨hd1, hd2⟩ := distB_spec hd
    have hn : ∀ j q, l[j]? = some q → ∀ d, q.dst = some d → d ∈ o.looksAt ops → listed (k + 1 + j) = listed' (k + 1 + j) ∧ (listed (k + 1 + j) = true → vs (k + 1 + j) = vs' (k + 1 + j)) := fun j q hq d hqd hdl => by
      have := h (j + 1) q (by simpa using hq) d hqd hdl
      rwa [show k + (j + 1) = k + 1 + j by omega] at this
    by_cases hl : ∃ d, p.dst = some d ∧ d ∈ o.looksAt ops
    · obtain ⟨d, hpd, hdl⟩ := hl
      obtain ⟨h1, h2⟩ := h 0 p rfl d hpd hdl
      have : (if listed k then a.put p.dst (vs k) else a) = (if listed' k then a.put p.dst (vs' k) else a) := by
        rw [← (show listed k = listed' k from h1)]
        split
        · rename_i hk; rw [show vs k = vs' k from h2 hk]
        · rfl
      rw [fill, fill, this]
      exact fill_eq hs l (k + 1) _ hd2 hn
    · have hno : ∀ d, p.dst = some d → d ∉ o.looksAt ops := fun d hpd hdl => hl ⟨d, hpd, hdl⟩
      obtain ⟨a1, a2⟩ := fill_unseen (listed := listed) (vs := vs) hs l k a hd1 hno
      obtain ⟨b1, b2⟩ := fill_unseen (listed := listed') (vs := vs') hs l k a hd1 hno
      obtain ⟨c1, c2⟩ := fill_eq hs l (k + 1) a hd2 hn
      exact ⟨a1.trans (c1.trans b1.symm), a2.trans (c2.trans b2.symm)⟩

/-- Operations that are told by what they give: the number; what is asked of the value; what of value and world. -/
abbrev Told := List (Nat × (Value → Prop) × (Value → World → Prop))
def Told.has : Told → Nat → Bool
  | [], _ => false
  | p :: l, i => if p.1 = i then true else Told.has l i
def Told.T : Told → Nat → Value → Prop
  | [], _, _ => True
  | p :: l, i, v => if p.1 = i then p.2.1 v else Told.T l i v
def Told.U : Told → Nat → Value → World → Prop
  | [], _, _, _ => True
  | p :: l, i, v, w => if p.1 = i then p.2.2 v w else Told.U l i v w
theorem Told.some : ∀ {lo : Told} (i : Nat), (∀ p ∈ lo, ∃ v, p.2.1 v) → ∃ v, lo.T i v
  | [], _, _ => ⟨undef, trivial⟩
  | p :: l, i, h => by
    unfold Told.T
    by_cases hp : p.1 = i
    · rw [hp]; simp only [if_true]; exact h p (List.mem_cons_self ..)
    · simp only [if_neg hp]; exact Told.some i fun q hq => h q (List.mem_cons_of_mem _ hq)
theorem Told.stable {w w' : World} (hb : Below w.heap.size w w') {i : Nat} {v : Value} : ∀ {lo : Told}, (∀ p ∈ lo, ∀ v w w', p.2.2 v w → Below w.heap.size w w' → p.2.2 v w') → lo.U i v w → lo.U i v w'
  | [], _, _ => trivial
  | p :: l, h, hu => by
    unfold Told.U at hu ⊢
    by_cases hp : p.1 = i
    · simp only [if_pos hp] at hu ⊢; exact h p (List.mem_cons_self ..) _ _ _ hu hb
    · simp only [if_neg hp] at hu ⊢; exact Told.stable hb (fun q hq => h q (List.mem_cons_of_mem _ hq)) hu

def walk (P : Program) (ops : Array Oper) (lo : Told) (wb : World) (K : Act → List (Nat × Value) → Prop) : List Oper → Nat → Act → List (Nat × Value) → Prop
  | [], _, a, F => K a F
  | o :: l, i, a, F =>
    if lo.has i = true then
      Region.wanted o (yielded ops a.tmps) = true ∧
      (∀ w, Below wb.heap.size wb w → (∀ p ∈ F, Region.waitsFor .any ops i p.1 = true → lo.U p.1 p.2 w) → gives P o a w fun v w' => (lo.T i v ∧ lo.U i v w') ∧ Below w.heap.size w w') ∧
      ∀ v, lo.T i v → walk P ops lo wb K l (i + 1) (a.put o.dst v) ((i, v) :: F)
    else ∃ c, YieldsIn P ops (fun w' => ∃ k : Later wb, w' = k.at) o c a ∧ walk P ops lo wb K l (i + 1) (a.put o.dst c) F
def Told.vals (lo : Told) (vs : Nat → Value) : Nat → List (Nat × Value)
  | 0 => []
  | k + 1 => if lo.has k = true then (k, vs k) :: lo.vals vs k else lo.vals vs k
theorem Told.mem_vals {lo : Told} {vs : Nat → Value} {p : Nat × Value} : ∀ {k : Nat}, p ∈ lo.vals vs k → p.1 < k ∧ p.2 = vs p.1 ∧ lo.has p.1 = true
  | 0, h => by cases h
  | k + 1, h => by
    unfold Told.vals at h
    split at h
    · rcases List.mem_cons.1 h with rfl | h
      · rename_i hh; exact ⟨by simp, rfl, hh⟩
      · have := Told.mem_vals h; exact ⟨by omega, this.2⟩
    · have := Told.mem_vals h; exact ⟨by omega, this.2⟩

section
variable {n : Nat} {w0 : World} {a0 : Act} {lo : Told}
/-- The frame behind the first k operations. -/
def pre (ops : Array Oper) (n : Nat) (a0 : Act) (vs : Nat → Value) (k : Nat) : Act := fill (fun j => decide (j < k)) vs (ops.toList.take n) 0 a0
def Cons (P : Program) (ops : Array Oper) (n : Nat) (w0 : World) (a0 : Act) (lo : Told) (vs : Nat → Value) (k : Nat) : Prop :=
  ∀ j, j < k → ∀ o, ops[j]? = some o → if lo.has j = true then lo.T j (vs j) else YieldsIn P ops (fun w' => ∃ k : Later w0, w' = k.at) o (vs j) (pre ops n a0 vs j)
theorem take_at {i : Nat} {o : Oper} (hi : i < n) (ho : ops[i]? = some o) : (ops.toList.take n)[i]? = some o := by
  rw [List.getElem?_take_of_lt hi]
  simpa using ho
theorem at_take {i : Nat} {o : Oper} (h : (ops.toList.take n)[i]? = some o) : i < n ∧ ops[i]? = some o := by
  have h1 := (List.getElem?_eq_some_iff.1 h).1
  have hi : i < n := by simp at h1; omega
  rw [List.getElem?_take_of_lt hi] at h
  exact ⟨hi, by simpa using h⟩
theorem drop_take_cons {i : Nat} {o : Oper} (hi : i < n) (ho : ops[i]? = some o) : (ops.toList.take n).drop i = o :: (ops.toList.take n).drop (i + 1) := by
  rw [List.drop_eq_getElem?_toList_append, take_at hi ho]
  rfl
theorem pre_succ {vs : Nat → Value} {k : Nat} {o : Oper} (hd : distB (ops.toList.take n) = true) (hk : k < n) (ho : ops[k]? = some o) : (pre ops n a0 vs k).put o.dst (vs k) = pre ops n a0 vs (k + 1) :=
  fill_set (i := k) (vs := vs) (vs' := vs) (fun j hj => ⟨by simp; omega, rfl⟩) (by simp) ⟨by simp, rfl⟩ _ 0 _ hd (Nat.zero_le _) (by rw [Nat.sub_zero]; exact take_at hk ho)

theorem walk_at {K : Act → List (Nat × Value) → Prop} (hn : n < ops.size) (hd : distB (ops.toList.take n) = true) (h : ∀ wb, Below w0.heap.size w0 wb → walk P ops lo wb K (ops.toList.take n) 0 a0 []) :
    ∀ (k : Nat), k ≤ n → ∀ vs, Cons P ops n w0 a0 lo vs k → ∀ wb, Below w0.heap.size w0 wb → walk P ops lo wb K ((ops.toList.take n).drop k) k (pre ops n a0 vs k) (lo.vals vs k)
  | 0, _, vs, _, wb, hb => by
    have : pre ops n a0 vs 0 = a0 := (fill_congr' (listed' := fun _ => false) (vs' := vs) _ 0 _ fun i _ _ => ⟨by simp, by simp⟩).trans (fill_nothing _ _ _)
    rw [this]
    exact h wb hb
  | k + 1, hk, vs, hc, wb, hb => by
    have ih := walk_at hn hd h k (by omega) vs (fun j hj => hc j (by omega)) wb hb
    obtain ⟨o, ho⟩ : ∃ o, ops[k]? = some o := ⟨ops[k]'(by omega), by simp⟩
    have hck := hc k (by omega) o ho
    rw [List.drop_eq_getElem?_toList_append, take_at (by omega) ho] at ih
    simp only [Option.toList_some, List.singleton_append] at ih
    unfold walk at ih
    unfold Told.vals
    by_cases hh : lo.has k = true
    · rw [if_pos hh] at ih hck ⊢
      rw [← pre_succ hd (by omega) ho]
      exact ih.2.2 _ hck
    · rw [if_neg hh] at ih hck ⊢
      obtain ⟨c, hy, hw⟩ := ih
      have : c = vs k := yieldsIn_uniq (w := wb) ⟨⟨wb, Below.refl _ _⟩, rfl⟩ ⟨⟨wb, hb⟩, rfl⟩ hy hck
      rw [← pre_succ hd (by omega) ho, ← this]
      exact hw

structure WInv (P : Program) (ops : Array Oper) (n : Nat) (w0 : World) (a0 : Act) (lo : Told) (listed : Array Bool) (a : Act) (w : World) : Prop where
  head : HeadInv .any ops n listed
  world : Below w0.heap.size w0 w
  rest : ∃ vs, Cons P ops n w0 a0 lo vs n ∧ a = fill (fun i => listed.getD i false) vs (ops.toList.take n) 0 a0 ∧ ∀ i, i < n → listed.getD i false = true → lo.has i = true → lo.U i (vs i) w

theorem cons_new {K : Act → List (Nat × Value) → Prop} (hn : n < ops.size) (hd : distB (ops.toList.take n) = true) (h : ∀ wb, Below w0.heap.size w0 wb → walk P ops lo wb K (ops.toList.take n) 0 a0 [])
    (hsel : Region.noSelect ops = true) {L : Nat → Bool} (hcl : ∀ j, j < n → L j = true → ∀ o, ops[j]? = some o → ∀ t ∈ o.looksAt ops, ∀ k, k < n → ∀ p, ops[k]? = some p → p.dst = some t → L k = true ∧ k < j)
    {vs vsO : Nat → Value} (hc : Cons P ops n w0 a0 lo vsO n ∨ ∀ i, L i = false) (hO : ∀ j, L j = true → vs j = vsO j) (hT : ∀ i, i < n → lo.has i = true → lo.T i (vs i)) :
    ∀ m, m ≤ n → ∃ vs', Cons P ops n w0 a0 lo vs' m ∧ (∀ j, lo.has j = true → vs' j = vs j) ∧ ∀ j, L j = true → vs' j = vs j
  | 0, _ => ⟨vs, fun j hj => by omega, fun _ _ => rfl, fun _ _ => rfl⟩
  | m + 1, hm => by
    obtain ⟨vs', c1, c2, c3⟩ := cons_new hn hd h hsel hcl hc hO hT m (by omega)
    obtain ⟨o, ho⟩ : ∃ o, ops[m]? = some o := ⟨ops[m]'(by omega), by simp⟩
    by_cases hh : lo.has m = true
    · refine ⟨vs', fun j hj o' ho' => ?_, c2, c3⟩
      by_cases hjm : j = m
      · subst hjm
        rw [if_pos hh, c2 j hh]
        exact hT j (by omega) hh
      · exact c1 j (by omega) o' ho'
    · by_cases hL : L m = true
      · refine ⟨vs', fun j hj o' ho' => ?_, c2, c3⟩
        by_cases hjm : j = m
        · subst hjm
          rw [if_neg hh, c3 j hL, hO j hL]
          rcases hc with hc | hc
          · have h1 := hc j (by omega) o' ho'
            rw [if_neg hh] at h1
            have h2 := fill_eq (ops := ops) (listed := fun i => decide (i < j)) (listed' := fun i => decide (i < j)) (vs := vs') (vs' := vsO) (fun cs b => Region.noSelect_spec hsel j o' cs b ho') (ops.toList.take n) 0 a0 hd fun k p hp d hpd hdl => by
              obtain ⟨hk, hp'⟩ := at_take hp
              rw [Nat.zero_add]
              have hLk := (hcl j (by omega) hL o' ho' d hdl k hk p hp' hpd).1
              exact ⟨rfl, fun _ => (c3 k hLk).trans (hO k hLk)⟩
            exact h1.of_same h2.1 h2.2
          · rw [hc j] at hL; cases hL
        · exact c1 j (by omega) o' ho'
      · have hw := walk_at hn hd h m (by omega) vs' c1 w0 (Below.refl _ _)
        rw [List.drop_eq_getElem?_toList_append, take_at (by omega) ho] at hw
        simp only [Option.toList_some, List.singleton_append] at hw
        unfold walk at hw
        rw [if_neg hh] at hw
        obtain ⟨c, hy, _⟩ := hw
        have hpre : ∀ j, j ≤ m → pre ops n a0 (fun k => if k = m then c else vs' k) j = pre ops n a0 vs' j := fun j hj =>
          fill_congr' _ 0 _ fun i _ _ => ⟨rfl, fun hi => by simp only [decide_eq_true_eq] at hi; rw [if_neg (by omega)]⟩
        refine ⟨fun k => if k = m then c else vs' k, fun j hj o' ho' => ?_, fun j hj => ?_, fun j hj => ?_⟩
        · by_cases hjm : j = m
          · subst hjm
            rw [if_neg hh, hpre j (Nat.le_refl _)]
            simp only [if_true]
            rw [ho] at ho'
            injection ho' with ho'
            rw [← ho']
            exact hy
          · have := c1 j (by omega) o' ho'
            rw [hpre j (by omega)]
            simp only [if_neg hjm]
            exact this
        · by_cases hjm : j = m
          · subst hjm; exact absurd hj hh
          · simp only [if_neg hjm]; exact c2 j hj
        · by_cases hjm : j = m
          · subst hjm; exact absurd hj hL
          · simp only [if_neg hjm]; exact c3 j hj

theorem wp_region_told {id : Nat} {Q : Exit → Act → World → Prop} {a : Act} {w : World} {l : List Oper} (n : Nat) (lo : Told) (hm : P.follows .mixedOrders = true) (hB : Region.specB l.toArray n = true)
    (hne : ∀ p ∈ lo, ∃ v, p.2.1 v) (hst : ∀ p ∈ lo, ∀ v w w', p.2.2 v w → Below w.heap.size w w' → p.2.2 v w')
    (hh : ∀ K : Act → List (Nat × Value) → Prop, (∀ a' F, (∀ w', Below w.heap.size w w' → (∀ p ∈ F, lo.U p.1 p.2 w') → wpList P l.toArray Q (l.drop n) a' w') → K a' F) → ∀ wb, Below w.heap.size w wb → walk P l.toArray lo wb K (l.take n) 0 a []) : (Code.region id l.toArray true).wp P Q a w := by
  have h := hh (fun a' F => ∀ w', Below w.heap.size w w' → (∀ p ∈ F, lo.U p.1 p.2 w') → wpList P l.toArray Q (l.drop n) a' w') fun _ _ h => h
  refine wp_region_any hm ?_
  have hB' := hB
  simp only [Region.specB, Bool.and_eq_true, decide_eq_true_eq] at hB'
  obtain ⟨⟨⟨⟨⟨⟨hsel, hn⟩, hs⟩, hc⟩, hd⟩, hlook⟩, hseq⟩ := hB'
  have hlk : ∀ i, i < n → ∀ o, l.toArray[i]? = some o → (∀ t ∈ o.looksAt l.toArray, ∀ j, j < n → ∀ p, l.toArray[j]? = some p → p.dst = some t → Region.waitsFor .any l.toArray i j = true ∧ j < i) := by
    intro i hi o ho
    have h := List.all_eq_true.1 hlook i (List.mem_range.2 hi)
    simp only [ho, Bool.and_eq_true] at h
    have haft : ∀ e ∈ o.after, Region.binds .any e = true → e.on < i := fun e he hb => by
      have h1 := Array.all_eq_true'.1 h.2 e he
      simp only [hb, Bool.not_true, Bool.false_or, decide_eq_true_eq] at h1
      exact h1
    intro t ht j hj p hp hpd
    have h1 := List.all_eq_true.1 (List.all_eq_true.1 h.1 t ht) j (List.mem_range.2 hj)
    simp only [hp, Option.bind_some, hpd, bne_self_eq_false, Bool.false_or] at h1
    refine ⟨h1, ?_⟩
    obtain ⟨o', ho', e, he, hb, hon⟩ := Region.waitsFor_spec h1
    have : o' = o := Option.some.inj (ho'.symm.trans ho)
    subst this
    rw [← hon]
    exact haft e he hb
  have h' : ∀ wb, Below w.heap.size w wb → walk P l.toArray lo wb (fun a' F => ∀ w', Below w.heap.size w w' → (∀ p ∈ F, lo.U p.1 p.2 w') → wpList P l.toArray Q (l.drop n) a' w') (l.toArray.toList.take n) 0 a [] := h
  refine wpAny_skel (Inv := WInv P l.toArray n w a lo) hB (fun _ _ _ inv => inv.head) ?_ ?_ _ _ _ _ ?_ (by simp)
  · intro listed a1 w1 i o inv hi hin ho hiu
    obtain ⟨head, hworld, vs, cons, hframe, hvals⟩ := inv
    obtain ⟨_, o', ho', hdone⟩ := mem_ready.1 hi
    have : o' = o := Option.some.inj (ho'.symm.trans ho)
    subst this
    have hisz : i < listed.size := by rw [head.size]; omega
    have hwait : ∀ j, Region.waitsFor .any l.toArray i j = true → listed.getD j false = true := by
      intro j hj
      obtain ⟨o2, ho2, e, he, hb, hon⟩ := Region.waitsFor_spec hj
      have : o2 = o' := Option.some.inj (ho2.symm.trans ho)
      subst this
      rw [← hon]
      exact hdone e he hb
    have hsame := fill_eq (ops := l.toArray) (listed := fun i => listed.getD i false) (listed' := fun j => decide (j < i)) (vs := vs) (vs' := vs) (o := o') (fun cs b => Region.noSelect_spec hsel i o' cs b ho) (l.toArray.toList.take n) 0 a hd (by
      intro j p hp d hpd hdl
      obtain ⟨hjn, hpj⟩ := at_take hp
      obtain ⟨h1, h2⟩ := hlk i hin o' ho d hdl j hjn p hpj hpd
      rw [Nat.zero_add]
      exact ⟨by rw [hwait j h1]; simp [h2], fun _ => rfl⟩)
    rw [← hframe] at hsame
    have hwk := walk_at hn hd h' i (by omega) vs (fun j hj => cons j (by omega)) w1 hworld
    rw [drop_take_cons hin ho] at hwk
    unfold walk at hwk
    by_cases hh : lo.has i = true
    · rw [if_pos hh] at hwk
      obtain ⟨hwant, hgive, _⟩ := hwk
      have hg := hgive w1 (Below.refl _ _) (fun p hp hpw => by
        obtain ⟨m1, m2, m3⟩ := Told.mem_vals hp
        rw [m2]
        exact hvals p.1 (by omega) (hwait _ hpw) m3)
      unfold wpOp
      simp only [ho]
      rw [hsame.2]
      unfold pre at hwant hg
      rw [if_pos hwant]
      refine Or.inl (wp_of_gives hg hsame.1 fun v w' hv => ?_)
      obtain ⟨⟨hT, hU⟩, hb⟩ := hv
      have hnl : ∀ j, listed.getD j false = true → j ≠ i := fun j hj e => by rw [e, getD_both hiu] at hj; cases hj
      obtain ⟨vs', c1, c2, c3⟩ := cons_new (L := fun j => listed.getD j false) (vs := fun j => if j = i then v else vs j) (vsO := vs) hn hd h' hsel (fun j hj hl oj hoj t ht k hk p hp hpd => by
        obtain ⟨h1, h2⟩ := hlk j hj oj hoj t ht k hk p hp hpd
        obtain ⟨o2, ho2, e, he, hb2, hon⟩ := Region.waitsFor_spec h1
        have := head.closed j o2 ho2 hl e he hb2
        rw [hon] at this
        exact ⟨this, h2⟩) (Or.inl cons) (fun j hj => if_neg (hnl j hj)) (fun j hj hhj => by
        by_cases hji : j = i
        · subst hji; simp only [if_true]; exact hT
        · simp only [if_neg hji]
          have := cons j hj _ (Array.getElem?_eq_getElem (show j < l.toArray.size by omega))
          rwa [if_pos hhj] at this) n (Nat.le_refl _)
      have hvi : vs' i = v := by have := c2 i hh; simpa using this
      have hvj : ∀ j, listed.getD j false = true → vs' j = vs j := fun j hj => by have := c3 j hj; rwa [if_neg (hnl j hj)] at this
      refine ⟨head.set hi hin, below_step hworld hb, vs', c1, ?_, fun j hj hl hhj => ?_⟩
      · rw [hframe]
        refine (fill_set (i := i) (listed' := fun j => (listed.setIfInBounds i true).getD j false) (vs' := fun j => if j = i then v else vs j) (v := v) (fun j hj => ⟨getD_set_ne false (Ne.symm hj), if_neg hj⟩) (getD_both hiu) ⟨by simp [hisz], by simp⟩ _ 0 _ hd (Nat.zero_le _) (by rw [Nat.sub_zero]; exact take_at hin ho)).trans ?_
        refine fill_congr' _ 0 _ fun j _ _ => ⟨rfl, fun hl => ?_⟩
        by_cases hji : j = i
        · subst hji; simp [hvi]
        · rw [getD_set_ne false (Ne.symm hji)] at hl
          simp only [if_neg hji]
          exact (hvj j hl).symm
      · by_cases hji : j = i
        · subst hji; rw [hvi]; exact hU
        · rw [getD_set_ne false (Ne.symm hji)] at hl
          rw [hvj j hl]
          exact Told.stable hb hst (hvals j hj hl hhj)
    · rw [if_neg hh] at hwk
      obtain ⟨c, hy, _⟩ := hwk
      have hcons := cons i hin o' ho
      rw [if_neg hh] at hcons
      have hcv : c = vs i := yieldsIn_uniq (w := w1) ⟨⟨w1, Below.refl _ _⟩, rfl⟩ ⟨⟨w1, hworld⟩, rfl⟩ hy hcons
      subst hcv
      have hy' := hy.of_same (a' := a1) hsame.1 hsame.2
      refine wpOp_of_qOp (C := fun w' => ∃ k : Later w1, w' = k.at) ⟨⟨w1, Below.refl _ _⟩, rfl⟩ ?_ (hy'.qOp ho (K := fun a' => a' = a1.put o'.dst (vs i)) rfl)
      rintro a2 _ ⟨k, rfl⟩ rfl
      refine ⟨head.set hi hin, below_step hworld k.below, vs, cons, ?_, fun j hj hl hhj => ?_⟩
      · rw [hframe]
        exact fill_set (i := i) (fun j hj => ⟨getD_set_ne false (Ne.symm hj), rfl⟩) (getD_both hiu) ⟨by simp [hisz], rfl⟩ _ 0 _ hd (Nat.zero_le _) (by rw [Nat.sub_zero]; exact take_at hin ho)
      · have hji : j ≠ i := fun e => by rw [e] at hhj; exact hh hhj
        rw [getD_set_ne false (Ne.symm hji)] at hl
        exact Told.stable k.below hst (hvals j hj hl hhj)
  · intro listed a1 w1 inv hall
    obtain ⟨head, hworld, vs, cons, hframe, hvals⟩ := inv
    have hwk := walk_at hn hd h' n (Nat.le_refl _) vs cons w (Below.refl _ _)
    rw [show (l.toArray.toList.take n).drop n = [] from List.drop_eq_nil_of_le (by rw [List.length_take]; exact Nat.min_le_left _ _)] at hwk
    unfold walk at hwk
    have hfr : a1 = pre l.toArray n a vs n := by
      rw [hframe]
      refine fill_congr' _ 0 _ fun i _ hi => ?_
      have hin : i < n := by rw [List.length_take] at hi; omega
      exact ⟨by rw [hall i hin]; simp [hin], fun _ => rfl⟩
    rw [hfr]
    exact hwk w1 hworld fun p hp => by
      obtain ⟨m1, m2, m3⟩ := Told.mem_vals hp
      rw [m2]
      exact hvals p.1 m1 (hall _ m1) m3
  · refine ⟨⟨by simp, fun j oj _ hl => (by rw [getD_replicate_false] at hl; cases hl), fun t _ ht => getD_in (by simpa using ht) (getD_replicate_false _ _)⟩, (Below.refl _ _).drew, ?_⟩
    obtain ⟨vs, c1, _, _⟩ := cons_new (L := fun _ => false) hn hd h' hsel (fun _ _ h => by cases h) (vs := fun j => (Told.some j hne).choose) (vsO := fun _ => undef) (Or.inr fun _ => rfl) (fun _ h => by cases h) (fun j _ _ => (Told.some j hne).choose_spec) n (Nat.le_refl _)
    refine ⟨vs, c1, ?_, fun i _ hl => (by rw [getD_replicate_false] at hl; cases hl)⟩
    exact ((fill_congr' (listed' := fun _ => false) (vs' := vs) _ 0 _ fun i _ _ => ⟨getD_replicate_false _ _, fun h => by simp only [getD_replicate_false] at h; cases h⟩).trans (fill_nothing _ _ _)).symm
end
section
variable {lo : Told} {wb : World} {K : Act → List (Nat × Value) → Prop}
theorem walk_nil {k : Nat} {a : Act} {F : List (Nat × Value)} (h : K a F) : walk P ops lo wb K [] k a F := h
theorem walk_quiet : ∀ (m : Nat) {l : List Oper} {k : Nat} {a : Act} {F : List (Nat × Value)}, (List.range m).all (fun j => !lo.has (k + j)) = true →
    wpQuiet P ops (fun w' => ∃ k : Later wb, w' = k.at) (fun a' => walk P ops lo wb K (l.drop m) (k + m) a' F) (l.take m) a → walk P ops lo wb K l k a F
  | 0, _, _, _, _, _, h => h
  | m + 1, [], k, a, F, _, h => h
  | m + 1, o :: l, k, a, F, hl, h => by
    have h0 := List.all_eq_true.1 hl 0 (by simp)
    simp only [Nat.add_zero, Bool.not_eq_true'] at h0
    unfold walk
    rw [if_neg (by rw [h0]; simp)]
    have hr : (List.range m).all (fun j => !lo.has (k + 1 + j)) = true := by
      refine List.all_eq_true.2 fun j hj => ?_
      have := List.all_eq_true.1 hl (j + 1) (by simp at hj ⊢; exact hj)
      rwa [show k + (j + 1) = k + 1 + j by omega] at this
    have key : ∀ a', wpQuiet P ops (fun w' => ∃ k : Later wb, w' = k.at) (fun a' => walk P ops lo wb K ((o :: l).drop (m + 1)) (k + (m + 1)) a' F) (l.take m) a' → walk P ops lo wb K l (k + 1) a' F := fun a' ha => by
      refine walk_quiet m hr ?_
      rw [show k + 1 + m = k + (m + 1) by omega]
      exact ha
    simp only [List.take_succ_cons, wpQuiet] at h
    split at h
    · rename_i hw
      obtain ⟨c, hc, hk⟩ := h
      exact ⟨c, .inl ⟨hw, hc⟩, key _ hk⟩
    · rename_i hw
      exact ⟨undef, .inr ⟨by simpa using hw, rfl⟩, key _ h⟩
theorem walk_told {o : Oper} {l : List Oper} {i : Nat} {a : Act} {F : List (Nat × Value)} (hh : lo.has i = true) (hw : Region.wanted o (yielded ops a.tmps) = true)
    (hg : ∀ w, Below wb.heap.size wb w → (∀ p ∈ F, Region.waitsFor .any ops i p.1 = true → lo.U p.1 p.2 w) → gives P o a w fun v w' => (lo.T i v ∧ lo.U i v w') ∧ Below w.heap.size w w')
    (hk : ∀ v, lo.T i v → walk P ops lo wb K l (i + 1) (a.put o.dst v) ((i, v) :: F)) : walk P ops lo wb K (o :: l) i a F := by
  unfold walk
  rw [if_pos hh]
  exact ⟨hw, hg, hk⟩
end
end
end Go.Proofs.YtmfmpagfjgpodaaGreatDoor
