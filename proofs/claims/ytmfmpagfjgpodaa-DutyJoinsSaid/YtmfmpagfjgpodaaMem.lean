/- Lemmas on memory, and on statements whose order of operations is left open: they hold of every program; no condition. -/
import Derived.WalkKit
import Derived.WalkSpells
import Derived.WalkLawsBesides
import Derived.StillTail
import Derived.BigQuiet
import Derived.Deep.Quiet
import Derived.Deep.RegionHeld3
import Derived.Deep.AppendLies
import Derived.Deep.DeepCutAuto
import Derived.Lib.ConvBytes
import Derived.Maps.AppendAt
import Derived.Lib.Hide
namespace Go.Proofs.Ytmfmpagfjgpodaa
open Go.RowKit

/-! ### Worlds that came later -/
/-- A world in which nothing that was there in 'w' has changed. -/
def Later (w : World) : Type := { w' : World // Below w.heap.size w w' }
def Later.at {w : World} (n : Later w) : World := n.1
def Later.mk {w : World} (w' : World) (h : Below w.heap.size w w') : Later w := ⟨w', h⟩
theorem Later.at_mk {w w' : World} (h : Below w.heap.size w w') : (Later.mk w' h).at = w' := rfl
theorem Later.below {w : World} (n : Later w) : Below w.heap.size w n.at := n.2
instance (w : World) : Nonempty (Later w) := ⟨⟨w, Below.refl _ _⟩⟩
theorem Later.drawn (w : World) : ∃ n : Later w, ({ w with drawn := w.drawn + 1 } : World) = n.at := ⟨⟨_, (Below.refl _ w).drew⟩, rfl⟩
theorem below_cell {w w' : World} (h : Below w.heap.size w w') {a : Addr} {v : Value} (hc : w.cell? a = some v) : w'.cell? a = some v :=
  (h.cell (World.block_lt_of_cell? w a hc)).trans hc
theorem Later.cell {w : World} {a : Addr} {v : Value} (hc : w.cell? a = some v) (n : Later w) : n.at.cell? a = some v := below_cell n.2 hc
/-- From here on, for one more world. -/
theorem below_step {w w1 w2 : World} (h : Below w.heap.size w w1) (k : Below w1.heap.size w1 w2) : Below w.heap.size w w2 :=
  h.trans (k.mono h.size)
theorem later_of {P : Program} {f : FuncId} {args : Array Value} {w : World} {n : Later w} {v : Value}
    (h : Calls P f args n.at fun e w' => e = .returned v ∧ Below n.at.heap.size n.at w') :
    Calls P f args n.at fun e w'' => e = .returned v ∧ ∃ m : Later w, w'' = m.at :=
  h.mono fun _ w' ⟨he, hb⟩ => ⟨he, ⟨w', below_step n.2 hb⟩, rfl⟩
theorem later_same {P : Program} {f : FuncId} {args : Array Value} {w : World} {n : Later w} {v : Value}
    (h : Calls P f args n.at fun e w' => e = .returned v ∧ n.at = w') :
    Calls P f args n.at fun e w'' => e = .returned v ∧ ∃ m : Later w, w'' = m.at :=
  h.mono fun _ _ ⟨he, hb⟩ => ⟨he, n, hb.symm⟩

/-! ### A block of the call's own -/
/-- Block g holds just these cells, of element type t, none of them frozen. -/
def Bk (w : World) (g : Nat) (t : TypeId) (cs : Array Value) : Prop := w.heap[g]? = some (.cells cs t (0, 0))
section
variable {w w' : World} {g : Nat} {t : TypeId} {cs : Array Value}
theorem Bk.lt (h : Bk w g t cs) : g < w.heap.size := (Array.getElem?_eq_some_iff.1 h).1
theorem Bk.cell (h : Bk w g t cs) (o : Nat) : w.cell? ⟨g, o, none⟩ = cs[o]? := cell_of_row w g o cs t (0, 0) h
theorem Bk.frozen (h : Bk w g t cs) (o : Nat) : w.frozen? ⟨g, o, none⟩ = false := by
  unfold Bk at h
  simp [World.frozen?, h]
theorem Bk.new (w : World) (t : TypeId) (cs : Array Value) : Bk (w.alloc (.cells cs t)) w.heap.size t cs := heap_alloc_new w _
theorem Bk.alloc (h : Bk w g t cs) (o : Obj) : Bk (w.alloc o) g t cs := (Below.heap_alloc w o g h.lt).trans h
theorem Bk.drew (h : Bk w g t cs) : Bk w.drew g t cs := h
theorem Bk.drewN (h : Bk w g t cs) (n : Nat) : Bk (w.drewN n) g t cs := h
theorem Bk.below (h : Bk w g t cs) (hb : Below w.heap.size w w') : Bk w' g t cs := (hb.block g h.lt).trans h
theorem Bk.later (h : Bk w g t cs) (n : Later w) (o : Nat) : n.at.cell? ⟨g, o, none⟩ = cs[o]? := (h.below n.2).cell o
theorem Bk.setSelf (h : Bk w g t cs) (i : Nat) (u : Value) : Bk (w.setCell ⟨g, i, none⟩ u) g t (cs.setIfInBounds i u) := by
  unfold Bk at h ⊢
  simp [World.setCell, Array.getElem?_modify, h]
theorem Bk.setOther (h : Bk w g t cs) {p : Addr} (hp : g ≠ p.block) (u : Value) : Bk (w.setCell p u) g t cs := (Below.heap_setCell w p u g hp).trans h
theorem Bk.grown {row : Option Nat} (h : Bk w g t cs) (hb : w.grownBy w' row) (hg : some g ≠ row) : Bk w' g t cs := (hb.block g h.lt hg).trans h
theorem Bk.apart {g' : Nat} {t' : TypeId} {cs' : Array Value} (h : Bk w g t cs) (h' : Bk w g' t' cs') (hne : t ≠ t') : g ≠ g' := by
  rintro rfl
  unfold Bk at h h'
  rw [h] at h'
  injection h' with h'
  injection h' with _ ht
  exact hne ht
end

/-! ### Worlds above a base -/
theorem bl_alloc {w0 w : World} (h : Below w0.heap.size w0 w) (o : Obj) : Below w0.heap.size w0 (w.alloc o) := h.alloc h.size o
theorem bl_drew {w0 w : World} (h : Below w0.heap.size w0 w) : Below w0.heap.size w0 w.drew := h.drew
theorem bl_drewN {w0 w : World} (h : Below w0.heap.size w0 w) (n : Nat) : Below w0.heap.size w0 (w.drewN n) := ⟨h.os, h.tape, h.output, h.size, h.block⟩
theorem bl_set {w0 w : World} (h : Below w0.heap.size w0 w) (p : Addr) (hp : w0.heap.size ≤ p.block) (v : Value) : Below w0.heap.size w0 (w.setCell p v) := h.setCell hp v
theorem bl_grown {w0 w w' : World} {row : Option Nat} (h : Below w0.heap.size w0 w) (hg : w.grownBy w' row) (hr : ∀ k, row = some k → w0.heap.size ≤ k) : Below w0.heap.size w0 w' := h.grown hg h.size hr

/-! ### Slices that read as lists: C tells the cells of an element, of which there are sz -/
def Sl {α : Type} (C : α → List Value) (sz : Nat) (w : World) (A : Option Addr) (l : List α) : Prop :=
  l ≠ [] → ∃ b o, A = some ⟨b, o, none⟩ ∧ ∀ k x, l[k]? = some x → ∀ j v, (C x)[j]? = some v → w.cell? ⟨b, o + k * sz + j, none⟩ = some v
section
variable {α : Type} {C : α → List Value} {sz : Nat} {w w' : World} {A : Option Addr} {l : List α}
theorem Sl.nil (C : α → List Value) (sz : Nat) (w : World) (A : Option Addr) : Sl C sz w A [] := fun h => absurd rfl h
theorem Sl.keep (h : Sl C sz w A l) (hk : ∀ a v, w.cell? a = some v → w'.cell? a = some v) : Sl C sz w' A l := fun hn =>
  let ⟨b, o, hA, hc⟩ := h hn
  ⟨b, o, hA, fun k x hx j v hv => hk _ _ (hc k x hx j v hv)⟩
theorem Sl.below (h : Sl C sz w A l) (hb : Below w.heap.size w w') : Sl C sz w' A l := h.keep fun _ _ => below_cell hb
theorem Sl.alloc (h : Sl C sz w A l) (o : Obj) : Sl C sz (w.alloc o) A l := h.below (bl_alloc (Below.refl _ _) o)
theorem Sl.at_ (h : Sl C sz w A l) {k : Nat} (hk : k < l.length) : ∃ b o, A = some ⟨b, o, none⟩ ∧ ∀ j v, (C l[k])[j]? = some v → w.cell? ⟨b, o + k * sz + j, none⟩ = some v :=
  let ⟨b, o, hA, hc⟩ := h (List.ne_nil_of_length_pos (by omega))
  ⟨b, o, hA, hc k l[k] (List.getElem?_eq_getElem hk)⟩
theorem Sl.take (h : Sl C sz w A l) (n : Nat) : Sl C sz w A (l.take n) := fun hn => by
  obtain ⟨b, o, hA, hc⟩ := h (fun e => hn (by rw [e]; simp))
  refine ⟨b, o, hA, fun k x hx => hc k x ?_⟩
  rw [List.getElem?_take] at hx
  split at hx
  · exact hx
  · cases hx
theorem Sl.drop (h : Sl C sz w A l) (n : Nat) : ∀ b o, A = some ⟨b, o, none⟩ → Sl C sz w (some ⟨b, o + n * sz, none⟩) (l.drop n) := fun b o e hn => by
  obtain ⟨b', o', hA, hc⟩ := h (fun e => hn (by rw [e]; simp))
  rw [e] at hA
  injection hA with hA
  injection hA with h1 h2 _
  subst h1
  subst h2
  refine ⟨b, o + n * sz, rfl, fun k x hx j v hv => ?_⟩
  rw [List.getElem?_drop] at hx
  have := hc (n + k) x hx j v hv
  rw [Nat.add_mul] at this
  rwa [Nat.add_assoc o]
theorem Sl.of_row {g : Nat} {t : TypeId} {f : Nat × Nat} {cur : Array Value} (hC : ∀ x, (C x).length = sz) (hg : w.heap[g]? = some (.cells cur t f)) (hl : cur.toList.take (l.length * sz) = l.flatMap C) : Sl C sz w (some ⟨g, 0, none⟩) l := fun _ => by
  refine ⟨g, 0, rfl, fun k x hx j v hv => ?_⟩
  have hj : j < sz := by rw [← hC x]; exact (List.getElem?_eq_some_iff.1 hv).1
  have hk : k < l.length := (List.getElem?_eq_some_iff.1 hx).1
  have key : ∀ (l : List α) (k : Nat), l[k]? = some x → (l.flatMap C)[k * sz + j]? = some v := by
    intro l
    induction l with
    | nil => intro k hk; simp at hk
    | cons y l ih =>
      intro k hk
      rw [List.flatMap_cons]
      cases k with
      | zero =>
        simp only [List.getElem?_cons_zero, Option.some.injEq] at hk
        subst hk
        rw [Nat.zero_mul, Nat.zero_add, List.getElem?_append_left (by rw [hC]; exact hj)]
        exact hv
      | succ k =>
        rw [List.getElem?_cons_succ] at hk
        rw [List.getElem?_append_right (by rw [hC, Nat.add_mul]; omega), hC, show (k + 1) * sz + j - sz = k * sz + j by rw [Nat.add_mul]; omega]
        exact ih k hk
  have h1 := key l k hx
  rw [← hl, List.getElem?_take] at h1
  have hlt : k * sz + j < l.length * sz := by
    have : (k + 1) * sz ≤ l.length * sz := Nat.mul_le_mul_right _ hk
    rw [Nat.add_mul] at this
    omega
  rw [if_pos hlt] at h1
  rw [cell_of_row w g _ cur t f hg]
  simpa using h1
theorem Sl.of_own {base : Nat} {e : TypeId} {n c : Nat} (hC : ∀ x, (C x).length = sz) (h : w.ownsRow base e sz (.slice A n c) n (l.flatMap C)) (hn : n = l.length) : Sl C sz w A l := by
  subst hn
  rcases h.2 with ⟨_, h0⟩ | ⟨g, cap, cur, hv, _, hg, _, _, _, htake⟩
  · have : l = [] := List.eq_nil_of_length_eq_zero h0
    subst this
    exact Sl.nil _ _ _ _
  · injection hv with hA
    rw [hA]
    exact Sl.of_row hC hg htake
end

/-! ### append onto a row of the call's own -/
theorem flatMap_at {α : Type} {C : α → List Value} {sz : Nat} (hC : ∀ x, (C x).length = sz) : ∀ (l : List α) (j : Nat) (u : Value), (l.flatMap C)[j]? = some u →
    ∃ k x i, l[k]? = some x ∧ (C x)[i]? = some u ∧ j = k * sz + i := by
  intro l
  induction l with
  | nil => intro j u h; simp at h
  | cons y l ih =>
    intro j u h
    rw [List.flatMap_cons] at h
    by_cases hj : j < sz
    · rw [List.getElem?_append_left (by rw [hC]; exact hj)] at h
      exact ⟨0, y, j, rfl, h, by omega⟩
    · rw [List.getElem?_append_right (by rw [hC]; omega), hC] at h
      obtain ⟨k, x, i, h1, h2, h3⟩ := ih _ _ h
      exact ⟨k + 1, x, i, by simpa using h1, h2, by rw [Nat.add_mul]; omega⟩
theorem flatMap_len {α : Type} {C : α → List Value} {sz : Nat} (hC : ∀ x, (C x).length = sz) (l : List α) : (l.flatMap C).length = l.length * sz := by
  induction l with
  | nil => simp
  | cons y l ih => rw [List.flatMap_cons, List.length_append, ih, hC, List.length_cons, Nat.add_mul]; omega
theorem add_plain (b o j : Nat) : (⟨b, o, none⟩ : Addr).add j = ⟨b, o + j, none⟩ := by
  unfold Addr.add
  split <;> simp_all
section
variable {P : Program} (w : World) {α : Type} {C : α → List Value}
theorem own_form {base : Nat} {e : TypeId} {sz n : Nat} {v : Value} {xs : List Value} (h : w.ownsRow base e sz v n xs) : ∃ A c, v = .slice A n c := by
  rcases h.2 with ⟨rfl, rfl⟩ | ⟨g, cap, _, rfl, _⟩
  · exact ⟨none, 0, rfl⟩
  · exact ⟨some ⟨g, 0, none⟩, cap, rfl⟩
theorem run_append_sl (base : Nat) (t ty e : TypeId) (i : TypeInfo) (z : Value) (sz bytes : Nat) (ht : P.underlying t = some (.slice e)) (hi : P.info? e = some i) (hz : i.zero = some z)
    (hsize : i.size = sz) (hby : i.bytes = bytes) (hzs : z.cells.size = sz) (hsz : 0 < sz) (hC : ∀ x, (C x).length = sz) (h1 : ∀ x, ∀ u ∈ C x, u.oneCell' = true)
    (A : Option Addr) (n c : Nat) (xs : List Value) (hown : w.ownsRow base e sz (.slice A n c) n xs)
    (A' : Option Addr) (m c' : Nat) (l : List α) (hm : m = l.length) (hS : Sl C sz w A' l)
    (h63 : n + m ≤ maxLen) (hbytes : (n + m) * bytes ≤ 140737488355328) (hbase : base ≤ w.heap.size) :
    ∃ A2 c2 w', (Builtin.append_ #[t, t] ty #[.slice A n c, .slice A' m c']).run P w = .ok (.slice A2 (n + m) c2) w' ∧ w'.ownsRow base e sz (.slice A2 (n + m) c2) (n + m) (xs ++ l.flatMap C) ∧
      w.grownBy w' (Value.slice A n c).ownBlock ∧ ((Value.slice A2 (n + m) c2).ownBlock = (Value.slice A n c).ownBlock ∨ (Value.slice A2 (n + m) c2).ownBlock = some w.heap.size) := by
  have key : ∀ ad, A' = some ad → (∀ j u, (l.flatMap C)[j]? = some u → w.cell? (ad.add j) = some u) → ∃ A2 c2 w', (Builtin.append_ #[t, t] ty #[.slice A n c, .slice A' m c']).run P w = .ok (.slice A2 (n + m) c2) w' ∧ w'.ownsRow base e sz (.slice A2 (n + m) c2) (n + m) (xs ++ l.flatMap C) ∧
      w.grownBy w' (Value.slice A n c).ownBlock ∧ ((Value.slice A2 (n + m) c2).ownBlock = (Value.slice A n c).ownBlock ∨ (Value.slice A2 (n + m) c2).ownBlock = some w.heap.size) := by
    intro ad hA hc
    subst hA
    obtain ⟨v', w', hr, ho, hg, _, hb⟩ := run_append_own_at (P := P) w base t ty e i z sz bytes ht hi hz hsize hby hzs hsz (.slice A n c) n xs hown ad m c' (l.flatMap C) (by rw [flatMap_len hC, hm]) hc
      (fun u hu => by obtain ⟨x, _, hx⟩ := List.mem_flatMap.1 hu; exact h1 x u hx) h63 hbytes hbase
    obtain ⟨A2, c2, rfl⟩ := own_form _ ho
    exact ⟨A2, c2, w', hr, ho, hg, hb⟩
  by_cases hl : l = []
  · subst hl
    have hm0 : m = 0 := by simpa using hm
    subst hm0
    cases A' with
    | some ad => exact key ad rfl (fun j u h => by simp at h)
    | none =>
      refine ⟨A, c, w, ?_, by simpa using hown, World.grownBy.refl w _, .inl rfl⟩
      rcases hown.2 with ⟨hv, rfl⟩ | ⟨g, cap, cur, hv, _, _, hnc, _⟩
      · injection hv with hA _ hc
        subst hA
        subst hc
        simp [Builtin.append_, run_underlying ht, sizeOf, typeInfo, hi, Builtin.lenOf, Builtin.firstCells]
      · injection hv with hA _ hc
        subst hA
        subst hc
        simp [Builtin.append_, run_underlying ht, sizeOf, typeInfo, hi, Builtin.lenOf, Builtin.firstCells, hnc, storeCells]
  · obtain ⟨b, o, hA, hc⟩ := hS hl
    refine key _ hA (fun j u h => ?_)
    obtain ⟨k, x, q, h1, h2, rfl⟩ := flatMap_at hC l j u h
    rw [add_plain]
    have := hc k x h1 q u h2
    rwa [Nat.add_assoc] at this

/-- 'x = append(s, y...)' at a row of the call's own. -/
theorem wpList_append_sl {ops : Array Oper} {rest : List Oper} {o : Oper} {a : Act} {Q : Exit → Act → World → Prop} (hgd : o.guard = none) (s x : Operand) (t : TypeId)
    (ho : o.op = .call { callee := .builtin .append, args := #[s, x], argTypes := #[t, t] })
    (base : Nat) (e : TypeId) (i : TypeInfo) (z : Value) (sz bytes : Nat) (ht : P.underlying t = some (.slice e)) (hi : P.info? e = some i) (hz : i.zero = some z)
    (hsize : i.size = sz) (hby : i.bytes = bytes) (hzs : z.cells.size = sz) (hsz : 0 < sz) (hC : ∀ x, (C x).length = sz) (h1 : ∀ x, ∀ u ∈ C x, u.oneCell' = true)
    (A : Option Addr) (n c : Nat) (xs : List Value) (hs : a.eval s = .slice A n c) (hown : w.ownsRow base e sz (.slice A n c) n xs)
    (A' : Option Addr) (m c' : Nat) (l : List α) (hx : a.eval x = .slice A' m c') (hm : m = l.length) (hS : Sl C sz w A' l)
    (h63 : n + m ≤ maxLen) (hbytes : (n + m) * bytes ≤ 140737488355328) (hbase : base ≤ w.heap.size)
    (h : ∀ A2 c2 w', w'.ownsRow base e sz (.slice A2 (n + m) c2) (n + m) (xs ++ l.flatMap C) → w.grownBy w' (Value.slice A n c).ownBlock →
      ((Value.slice A2 (n + m) c2).ownBlock = (Value.slice A n c).ownBlock ∨ (Value.slice A2 (n + m) c2).ownBlock = some w.heap.size) → wpList P ops Q rest (a.put o.dst (.slice A2 (n + m) c2)) w') : wpList P ops Q (o :: rest) a w := by
  obtain ⟨A2, c2, w', hrun, h2, h3, h4⟩ := run_append_sl (P := P) w base t o.type e i z sz bytes ht hi hz hsize hby hzs hsz hC h1 A n c xs hown A' m c' l hm hS h63 hbytes hbase
  refine wpList_plain hgd fun K hK => ?_
  unfold Oper.wp execOp
  simp only [ho, resolve, invoke, builtin, Sem.run_bind, Sem.run_pure, Result.andThen_ok, List.map_toArray, List.map_cons, List.map_nil, hs, hx, hrun]
  exact hK _ _ (h A2 c2 w' h2 h3 h4)
end

/-! ### The bytes of a text -/
def byteAt (s : ByteArray) (i : Nat) : UInt8 := s.data.toList.getD i 0
theorem byteAt_get {s : ByteArray} {k : Nat} (h : k < s.size) : byteAt s k = s[k] := by
  have h' : k < s.data.toList.length := h
  simp only [byteAt, List.getD, List.getElem?_eq_getElem h', Option.getD_some]
  rfl
theorem toList_data (s : ByteArray) : s.toList = s.data.toList := ByteArray.toList_eq s
theorem toList_nil {s : ByteArray} (h : s.size = 0) : s.toList = [] := by rw [toList_data]; exact List.eq_nil_of_length_eq_zero h
theorem toList_more {s : ByteArray} (h : s.size ≠ 0) : s.toList.isEmpty = false := by
  rw [toList_data, List.isEmpty_eq_false_iff]
  exact fun e => h (congrArg List.length e)
theorem bytes_of_string {P : Program} (w : World) (src dst e : TypeId) (s : ByteArray) {u : TypeDesc} (hs : P.underlying src = some u) (hd : P.underlying dst = some (.slice e)) (he : P.underlying e = some (.int .u8)) :
    ∃ w1 cap, (convert src dst (.string s)).run P w = .ok (.slice (some ⟨w.heap.size, 0, none⟩) s.size cap) w1 ∧ Below w.heap.size w w1 ∧
      ∀ j, j < s.size → w1.cell? ⟨w.heap.size, j, none⟩ = some (.int .u8 (byteAt s j).toNat) :=
  ⟨_, _, Lib.run_convert_string_bytes w src dst e s hs hd he,
    ⟨by simp [Lib.bytesWorld, World.freeze, World.alloc, World.drew, -World.alloc_eq, -World.drew_eq], by simp [Lib.bytesWorld, World.freeze, World.alloc, World.drew, -World.alloc_eq, -World.drew_eq], by simp [Lib.bytesWorld, World.freeze, World.alloc, World.drew, -World.alloc_eq, -World.drew_eq], by rw [Lib.bytesWorld_size]; omega, fun k hk => Lib.bytesWorld_at_old w e s k hk⟩,
    fun j hj => Lib.bytesWorld_cell w e s j hj⟩

/-! ### A region that draws its order: quiet operations first, then a forced tail -/
section
variable {P : Program} {ops : Array Oper} {md : Region.Mode} {C : World → Prop}

def wpAnyT (P : Program) (md : Region.Mode) (ops : Array Oper) (C : World → Prop) (n : Nat) (L : Array Bool → Act → Prop) : Nat → Array Bool → Act → Prop
  | 0, listed, a => L listed a
  | f + 1, listed, a =>
    Region.ready md ops listed ≠ [] ∧ ∀ i ∈ Region.ready md ops listed, i < n ∧ qOp P ops C i (wpAnyT P md ops C n L f (listed.setIfInBounds i true)) a

theorem wpAny_of_wpAnyT {n g : Nat} {L : Array Bool → Act → Prop} {Q' : Exit → Act → World → Prop} (hL : ∀ listed a w, C w → L listed a → wpAny P md ops Q' g listed a w) :
    ∀ (f : Nat) (listed : Array Bool) (a : Act) (w : World), C w → wpAnyT P md ops C n L f listed a → wpAny P md ops Q' (f + g) listed a w
  | 0, _, _, _, hw, h => by rw [Nat.zero_add]; exact hL _ _ _ hw h
  | f + 1, listed, a, w, hw, h => by
    rw [show f + 1 + g = (f + g) + 1 by omega]
    exact ⟨fun h0 => absurd h0 h.1, fun i hi => wpOp_of_qOp hw (fun a' w' hw' h' => wpAny_of_wpAnyT hL f _ a' w' hw' h') (h.2 i hi).2⟩

theorem wpAnyT_first {n i : Nat} {oi : Oper} {v : Value} {L : Array Bool → Act → Prop} (hi : ops[i]? = some oi) (hsel : ∀ (j : Nat) (o : Oper) cs b, ops[j]? = some o → o.op ≠ .select cs b)
    (hs : Region.sinkB md ops n = true) (hc : Region.chainB md ops n = true) (hn : n < ops.size) (hin : i < n)
    (hdone : ∀ listed a, L listed a → ∀ j ∈ Region.ready md ops listed, n ≤ j) :
    ∀ (f : Nat) (listed : Array Bool) (a : Act), HeadInv md ops n listed →
      (∀ j oj, ops[j]? = some oj → j ≠ i → listed.getD j true = false → (∀ e ∈ oj.after, Region.binds md e = true → e.on ≠ i) → oi.apart ops oj = true) →
      i ∈ Region.ready md ops listed → YieldsIn P ops C oi v a →
      wpAnyT P md ops C n L f (listed.setIfInBounds i true) (a.put oi.dst v) → wpAnyT P md ops C n L (f + 1) listed a := by
  intro f
  induction f with
  | zero =>
    intro listed a inv _ hr hy H
    have hun := (mem_ready.1 hr).1
    refine ⟨fun h => (by rw [h] at hr; cases hr), fun j hj => ?_⟩
    have hjn : j < n := Nat.lt_of_not_le fun h => tail_waits hs hc hn inv _ i rfl hin hun j h hj
    refine ⟨hjn, ?_⟩
    by_cases hji : j = i
    · subst hji
      exact hy.qOp hi H
    · exact absurd (hdone _ _ H j (ready_mono hj hji)) (by omega)
  | succ f ih =>
    intro listed a inv hfree hr hy H
    have hun := (mem_ready.1 hr).1
    refine ⟨fun h => (by rw [h] at hr; cases hr), fun j hj => ?_⟩
    have hjn : j < n := Nat.lt_of_not_le fun h => tail_waits hs hc hn inv _ i rfl hin hun j h hj
    refine ⟨hjn, ?_⟩
    by_cases hji : j = i
    · subst hji
      exact hy.qOp hi H
    · have h1 := (H.2 j (ready_mono hj hji)).2
      obtain ⟨hjun, oj, hoj, hall⟩ := mem_ready.1 hj
      have hnot : ∀ e ∈ oj.after, Region.binds md e = true → e.on ≠ i := fun e he hb heq => by
        have h1 := hall e he hb
        rw [heq, getD_both hun] at h1
        cases h1
      have h2 := qOp_put hoj (hfree j oj hoj hji hjun hnot) (fun cs b => hsel i oi cs b hi) (fun cs b => hsel j oj cs b hoj) hy h1
      refine qOp_mono (fun a' h3 => ih (listed.setIfInBounds j true) a' (inv.set hj hjn) (fun k ok hk hki hun' hno => ?_) (ready_mono hr (Ne.symm hji)) h3.1 ?_) h2
      · refine hfree k ok hk hki ?_ hno
        by_cases hjk : j = k
        · subst hjk
          exact hjun
        · rw [getD_set_ne true hjk] at hun'
          exact hun'
      · rw [Array.setIfInBounds_comm _ _ hji]
        exact h3.2

theorem wpAnyT_lex {n g : Nat} {Lq : Act → Prop} (hsel : Region.noSelect ops = true) (hs : Region.sinkB md ops n = true) (hc : Region.chainB md ops n = true) (hn : n < ops.size) :
    ∀ (l : List Oper) (k : Nat) (listed : Array Bool) (a : Act), (∀ j, j < l.length → l[j]? = ops[k + j]?) → k + l.length = n → HeadInv md ops n listed →
    Region.lexHead md ops g l.length k listed = true → wpQuiet P ops C Lq l a →
    wpAnyT P md ops C n (fun listed' a' => Region.seqB md ops g n listed' = true ∧ Lq a') l.length listed a
  | [], k, listed, a, _, hk, _, hB, h => by
    have : k = n := by simpa using hk
    subst this
    exact ⟨by simpa [Region.lexHead] using hB, h⟩
  | o :: l, k, listed, a, hl, hk, inv, hB, h => by
    have h0 : ops[k]? = some o := by simpa using (hl 0 (by simp)).symm
    simp only [List.length_cons, Region.lexHead, Bool.and_eq_true] at hB
    obtain ⟨⟨hr, hf⟩, hB'⟩ := hB
    have hkn : k < n := by simp only [List.length_cons] at hk; omega
    have hr' : k ∈ Region.ready md ops listed := by simpa using hr
    have hst : qOp P ops C k (wpQuiet P ops C Lq l) a := by unfold qOp; simp only [h0]; exact h
    obtain ⟨v, hy, hK⟩ := yieldsIn_of_qOp h0 hst
    exact wpAnyT_first h0 (Region.noSelect_spec hsel) hs hc hn hkn (fun listed' a' hL => seqB_ready hL.1) l.length listed a inv (Region.free_spec h0 hf) hr' hy
      (wpAnyT_lex hsel hs hc hn l (k + 1) _ _ (fun j hj => by have := hl (j + 1) (by simp; omega); simpa [Nat.add_assoc, Nat.add_comm 1 j] using this) (by simp only [List.length_cons] at hk; omega) (inv.set hr' hkn) hB' hK)

/-- The first n operations quiet in every later world, the others in one forced order behind them. -/
theorem wp_region_tail {id : Nat} {Q : Exit → Act → World → Prop} {a : Act} {w : World} {l : List Oper} (n : Nat) (hm : P.follows .mixedOrders = true) (hB : Region.lexTailB .any l.toArray n = true)
    (h : wpQuiet P l.toArray (fun w' => ∃ k : Later w, w' = k.at) (fun a' => ∀ w', (∃ k : Later w, w' = k.at) → wpList P l.toArray Q (l.drop n) a' w') (l.take n) a) : (Code.region id l.toArray true).wp P Q a w := by
  simp only [Region.lexTailB, Bool.and_eq_true, decide_eq_true_eq] at hB
  obtain ⟨⟨⟨⟨hsel, hn⟩, hs⟩, hc⟩, hlex⟩ := hB
  have hn' : n < l.length := by simpa using hn
  have htl : (l.take n).length = n := by simp; omega
  have hdl : (l.drop n).length = l.toArray.size - n := by simp
  have inv0 : HeadInv .any l.toArray n (Array.replicate l.toArray.size false) :=
    ⟨by simp, fun j oj _ hl => (by rw [getD_replicate_false] at hl; cases hl), fun t _ ht => getD_in (by simpa using ht) (getD_replicate_false _ _)⟩
  have H := wpAnyT_lex (md := .any) (g := l.toArray.size - n) hsel hs hc hn (l.take n) 0 _ a (fun j hj => by
    have hj' : j < n := by rw [htl] at hj; exact hj
    simp [hj']) (by simpa using htl) inv0 (by rw [htl]; exact hlex) h
  refine wp_region_any hm ?_
  have := wpAny_of_wpAnyT (Q' := Q) (g := l.toArray.size - n) (fun listed a' w' hw' hL => by
    have := wpAny_of_seq (md := .any) (Q' := Q) (l.drop n) n listed a' w' (fun j => by simp [List.getElem?_drop]) (by rw [hdl]; exact hL.1) (hL.2 w' hw')
    rwa [hdl] at this) _ _ _ _ (Later.drawn w) H
  rw [htl, show n + (l.toArray.size - n) = l.toArray.size by omega] at this
  exact this
/-- All operations quiet in every later world. -/
theorem wp_region_later {id : Nat} {Q : Exit → Act → World → Prop} {a : Act} {w : World} {l : List Oper} (hm : P.follows .mixedOrders = true) (hB : Region.lexB .any l.toArray = true)
    (h : wpQuiet P l.toArray (fun w' => ∃ k : Later w, w' = k.at) (fun a' => ∀ w', (∃ k : Later w, w' = k.at) → Q .normal a' w') l a) : (Code.region id l.toArray true).wp P Q a w :=
  wp_region_quiet (C := fun w' => ∃ k : Later w, w' = k.at) hm hB (Later.drawn w) (by simpa using h)
end

end Go.Proofs.Ytmfmpagfjgpodaa
