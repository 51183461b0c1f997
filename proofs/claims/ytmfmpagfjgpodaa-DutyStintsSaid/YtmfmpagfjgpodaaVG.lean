/- What an operation of a region's head gives: plain ones, ones that make memory, calls: of every program; no condition. -/
import Derived.Test.YtmfmpagfjgpodaaVF
namespace Go.Proofs.Ytmfmpagfjgpodaa
open Go.RowKit
section
variable {P : Program} {w : World} {w0 : Nat} {M : Nat → Prop} {h : Hp} {p : Nat → Nat}

theorem zrow_map {α β : Type} (f : α → β) (z : List α) (n : Nat) : zrow (z.map f) n = (zrow z n).map f := by
  induction n with
  | zero => rfl
  | succ n ih => simp [zrow, ih]
theorem zrow_at {α : Type} (z : List α) : ∀ (n i : Nat), i < n * z.length → (zrow z n)[i]? = z[i % z.length]?
  | 0, i, hi => by simp at hi
  | n + 1, i, hi => by
    rw [Nat.add_mul] at hi
    by_cases hlt : i < z.length
    · rw [zrow, List.getElem?_append_left hlt, Nat.mod_eq_of_lt hlt]
    · rw [zrow, List.getElem?_append_right (by omega), zrow_at z n _ (by omega)]
      congr 1
      rw [← Nat.mod_eq_sub_mod (by omega)]
theorem zrow_row (z : Array Value) (n : Nat) (hz : 0 < z.size) : ((Array.range (n * z.size)).map (z[· % z.size]!)).toList = zrow z.toList n := by
  apply List.ext_getElem?
  intro i
  rcases Nat.lt_or_ge i (n * z.size) with hi | hi
  · rw [zrow_at _ _ _ (by simpa using hi)]
    have : i % z.size < z.size := Nat.mod_lt _ hz
    simp [hi, this]
  · rw [List.getElem?_eq_none (by simpa using hi), List.getElem?_eq_none (by rw [zrow_len]; simpa using hi)]
theorem zrow_one {z : List Value} (hz : z.all (·.oneCell') = true) (n : Nat) : (zrow z n).all (·.oneCell') = true := by
  induction n with
  | zero => rfl
  | succ n ih => simp only [zrow, List.all_append, hz, ih, Bool.and_self]

theorem below_push (w : World) (o : Obj) : Below w.heap.size w { w with heap := w.heap.push o } := (Below.refl _ w).alloc (Nat.le_refl _) o
theorem cell_push (w : World) (cs : List Value) (t : TypeId) (j : Nat) : ({ w with heap := w.heap.push (.cells cs.toArray t) } : World).cell? ⟨w.heap.size, j, none⟩ = cs[j]? := by
  simp [World.cell?, -World.alloc_eq]
/-- Cell by cell, of memory that nobody writes to. -/
theorem Cells.later {w' : World} {cs : List AV} {us : List Value} (hc : Cells w M h p cs us) (hp : cs.all (pureA 5) = true) (hb : Below w.heap.size w w') : ∀ (i : Nat) (c : AV) (u : Value), cs[i]? = some c → us[i]? = some u → V0 w' M c u :=
  fun i c u h1 h2 => ((hc.2.2 i c u h1 h2).pure 5 (List.all_eq_true.1 hp c (List.mem_of_getElem? h1))).later hb
theorem vp_new (hM : ∀ b, M b → b < w.heap.size) {cs : List AV} {us : List Value} (hc : Cells w M h p cs us) (hp : cs.all (pureA 5) = true) (t : TypeId) :
    V0 { w with heap := w.heap.push (.cells us.toArray t) } M (.vp cs) (.pointer (some ⟨w.heap.size, 0, none⟩)) := by
  have hl := hc.later hp (below_push w (.cells us.toArray t))
  refine .vp cs w.heap.size 0 (fun j => us.getD j undef) (by simp [-World.alloc_eq]) (fun hm => Nat.lt_irrefl _ (hM _ hm)) hc.2.1 (fun j hj => ?_) fun j c hj => ?_
  · rw [Nat.zero_add, cell_push]
    have : j < us.length := by rw [hc.1]; exact hj
    simp [List.getD, this]
  · have : j < us.length := by rw [hc.1]; exact (List.getElem?_eq_some_iff.1 hj).1
    exact hl j c _ hj (by simp [List.getD, this])
theorem sl_new (hM : ∀ b, M b → b < w.heap.size) {cs : List AV} {us : List Value} (hc : Cells w M h p cs us) (hp : cs.all (pureA 5) = true) (t : TypeId) {sz n : Nat} (_hsz : 0 < sz) (hn : cs.length = n * sz) :
    V0 { w with heap := w.heap.push (.cells us.toArray t) } M (.sl sz (chunkA sz n cs)) (.slice (some ⟨w.heap.size, 0, none⟩) n n) := by
  have hl := hc.later hp (below_push w (.cells us.toArray t))
  have hlen := chunkA_len sz n cs
  have hat := fun k e => chunkA_at sz n cs k e (by omega)
  by_cases h0 : n = 0
  · subst h0
    exact .slNil _ _ _
  · have key : V0 { w with heap := w.heap.push (.cells us.toArray t) } M (.sl sz (chunkA sz n cs)) (.slice (some ⟨w.heap.size, 0, none⟩) (chunkA sz n cs).length n) := by
      refine .sl sz _ n w.heap.size 0 (fun k j => us.getD (k * sz + j) undef) (fun hnil => by rw [hnil] at hlen; simp at hlen; omega) (by simp [-World.alloc_eq]) (fun hm => Nat.lt_irrefl _ (hM _ hm)) (by omega) (fun k e hk => (hat k e hk).1)
        (fun k e j c hk hj => hc.2.1 c (List.mem_of_getElem? ((hat k e hk).2 j c hj))) (fun k j hk hj => ?_) fun k e j c hk hj => ?_
      · rw [Nat.zero_add, cell_push]
        have : k * sz + j < us.length := by
          rw [hc.1, hn]
          have : (k + 1) * sz ≤ n * sz := Nat.mul_le_mul_right _ (by omega)
          rw [Nat.add_mul] at this
          omega
        simp [List.getD, this]
      · have h1 := (hat k e hk).2 j c hj
        have : k * sz + j < us.length := by rw [hc.1]; exact (List.getElem?_eq_some_iff.1 h1).1
        exact hl _ c _ h1 (by simp [List.getD, this])
    rw [hlen] at key
    exact key
theorem row_ok {t : TypeId} {n : Nat} {parts : List (Nat × AV)} {vals : Array (Nat × Value)} {cs : List AV} {ti : TI} (hl : vals.toList.map (·.1) = parts.map (·.1))
    (hv : ∀ (i : Nat) (a : Nat × AV) (v : Nat × Value), parts[i]? = some a → vals.toList[i]? = some v → V1 w M h p a.2 v.2) (hr : rowA P t n parts = some (cs, ti)) :
    ∃ us : List Value, (Instr.buildSlice t n vals).run P w = .ok (.slice (some ⟨w.heap.size, 0, none⟩) n n) { w with heap := w.heap.push (.cells us.toArray ti.elem) } ∧ Cells w M h p cs us ∧ cs.length = n * ti.esz ∧ tinfo P t = some ti ∧ ti.kind = 1 ∧ 0 < ti.esz := by
  unfold rowA at hr
  split at hr
  · cases hr
  · rename_i ti' hti
    split at hr
    · cases hr
    · rename_i te hte
      split at hr
      · rename_i hc
        obtain ⟨hk, h1, h2, h3, h4⟩ := hc
        obtain ⟨cs', hf, heq⟩ := Option.map_eq_some_iff.1 hr
        simp only [Prod.mk.injEq] at heq
        obtain ⟨rfl, rfl⟩ := heq
        obtain ⟨z, hz, hz1, hzr⟩ := ti_zero hte
        have hzs : z.cells.size = ti'.esz := by rw [← Array.length_toList, hz, h2]
        have hpos : 0 < ti'.esz := Nat.pos_of_ne_zero h3
        have hrow := zrow_row z.cells n (by omega)
        have hc0 : Cells w M h p (zrow (te.zero.map .lit) n) ((Array.range (n * ti'.esz)).map (z.cells[· % z.cells.size]!)).toList := by
          rw [← hzs, hrow, hz, zrow_map]
          exact Cells.of_lits _ (zrow_one hz1 n)
        obtain ⟨cur, hfill, hcc⟩ := fill_ok parts vals.toList _ _ _ hc0 hl hv hf
        have hlen : ∀ (l : List (Nat × AV)) (cs r : List AV), fillA (fun i => some (i * ti'.esz, ti'.esz)) cs l = some r → r.length = cs.length := by
          have hput : ∀ (vs cs : List AV) (o : Nat), (putA cs o vs).length = cs.length := by
            intro vs
            induction vs with
            | nil => intros; rfl
            | cons v vs ih => intro cs o; rw [putA, ih]; simp
          intro l
          induction l with
          | nil => intro cs r hh; simp only [fillA, Option.some.injEq] at hh; rw [hh]
          | cons a l ih =>
            intro cs r hh
            obtain ⟨i, v⟩ := a
            simp only [fillA] at hh
            split at hh
            · rw [ih _ _ hh, hput]
            · cases hh
        refine ⟨cur.toList, ?_, hcc, by rw [hlen _ _ _ hf, zrow_len, List.length_map, h2], hti, hk, hpos⟩
        have hu := ti_slice hti hk
        have hez' : ti'.esz = tsize P ti'.elem := by obtain ⟨d, i, z, hd, hi, hz, h1z, rfl⟩ := tinfo_spec hti; rfl
        have hbig : ¬ (n * ti'.esz > 2 ^ 24) := by omega
        simp only [Instr.buildSlice, Sem.run_bind, run_underlying hu, Result.andThen_ok, run_size (P := P) (show 0 < tsize P ti'.elem by omega), ← hez', Sem.run_ite, hbig, if_false]
        by_cases h0 : n * ti'.esz = 0
        · have hn0 : n = 0 := by
            rcases Nat.mul_eq_zero.1 h0 with h | h
            · exact h
            · omega
          subst hn0
          have e0 : ∀ f : Nat → Value, (Array.range 0).map f = #[] := fun f => by simp
          rw [Nat.zero_mul, e0] at hfill
          simp only [Nat.zero_mul, if_true, Sem.run_pure, Result.andThen_ok, e0, hfill, Sem.run_bind, newRow, run_newObj]
        · simp only [h0, if_false, Sem.run_bind, hzr, Result.andThen_ok, Sem.run_pure, hfill, newRow, run_newObj]
      · cases hr
theorem allocOp_ok (hM : ∀ b, M b → b < w.heap.size) {o : Oper} {E : Operand → AV} {ρ : Operand → Value} {r : AV} (hE : ∀ x ∈ o.op.operands, V1 w M h p (E x) (ρ x)) (hr : allocOp P E o.op = some r) :
    ∃ u w', (execOp ρ o).run P w = .ok (.value u) w' ∧ Below w.heap.size w w' ∧ V0 w' M r u := by
  obtain ⟨dst, op, ty, pos, after, guard⟩ := o
  unfold allocOp at hr
  unfold execOp
  split at hr <;> first | (cases hr; done) | (rename_i heq; simp only at heq; subst heq; simp only [Op.operands] at hE; dsimp only)
  · rename_i t x
    split at hr
    · rename_i hc
      simp only [Bool.and_eq_true] at hc
      simp only [Option.some.injEq] at hr
      subst hr
      have hcell := (hE x (by simp)).cells hc.1
      refine ⟨.pointer (some ⟨w.heap.size, 0, none⟩), _, ?_, below_push w (.cells (ρ x).cells t), ?_⟩
      · simp [Instr.box, newVar, newRow]
      · have := vp_new hM hcell hc.2 t
        simpa using this
    · cases hr
  · rename_i t n parts
    obtain ⟨q, hq, hr⟩ := Option.bind_eq_some_iff.1 hr
    obtain ⟨cs, ti⟩ := q
    dsimp only at hr
    split at hr
    · rename_i hp
      simp only [Option.some.injEq] at hr
      subst hr
      obtain ⟨us, hrun, hc, hlen, hti, hk, hpos⟩ := row_ok (P := P) (w := w) (vals := parts.map fun (i, x) => (i, ρ x)) (by simp) (fun i a v ha hv => by
        obtain ⟨x, hx, rfl⟩ := map_at ha
        simp only [Array.toList_map] at hv
        obtain ⟨y, hy, rfl⟩ := map_at hv
        rw [hx] at hy
        obtain rfl := Option.some.inj hy
        exact hE x.2 (by simp; exact ⟨x.1, by simpa using List.mem_of_getElem? hx⟩)) hq
      exact ⟨_, _, by simp only [Sem.run_bind, hrun]; rfl, below_push w _, sl_new hM hc hp _ hpos hlen⟩
    · cases hr
  · rename_i s d x
    split at hr
    · rename_i ts td hs hd
      split at hr
      · rename_i te v hte hx
        split at hr
        · rename_i hc
          obtain ⟨h1, h2, h3⟩ := hc
          simp only [Option.some.injEq] at hr
          subst hr
          have hv := hE x (by simp)
          rw [hx] at hv
          obtain ⟨ds, i, z, hus, _⟩ := tinfo_spec hs
          have hbyte : P.underlying td.elem = some (.int .u8) := by rw [← h3]; exact ti_int hte h2
          have hrun := Lib.run_convert_string_bytes (P := P) w s d td.elem v hus (ti_slice hd h1) hbyte
          refine ⟨_, _, by simp only [hv.lit_inv, Sem.run_bind, hrun]; rfl, ⟨by simp [Lib.bytesWorld, World.freeze, World.alloc, World.drew, -World.alloc_eq, -World.drew_eq], by simp [Lib.bytesWorld, World.freeze, World.alloc, World.drew, -World.alloc_eq, -World.drew_eq], by simp [Lib.bytesWorld, World.freeze, World.alloc, World.drew, -World.alloc_eq, -World.drew_eq], by rw [Lib.bytesWorld_size]; omega, fun k hk => Lib.bytesWorld_at_old w td.elem v k hk⟩, ?_⟩
          by_cases h0 : v.size = 0
          · rw [h0]
            exact .slNil _ _ _
          · have key : V0 (Lib.bytesWorld w td.elem v) M (.sl 1 ((List.range v.size).map fun i => [.lit (.int .u8 (byteAt v i).toNat)])) (.slice (some ⟨w.heap.size, 0, none⟩) ((List.range v.size).map fun i => [AV.lit (.int .u8 (byteAt v i).toNat)]).length (grownCap w v.size 0 td.elem)) := by
              refine .sl 1 _ _ w.heap.size 0 (fun k _ => .int .u8 (byteAt v k).toNat) (by simpa using h0) (by rw [Lib.bytesWorld_size]; omega) (fun hm => Nat.lt_irrefl _ (hM _ hm)) (by simpa using grownCap_ge w v.size 0 td.elem) (fun k e hk => ?_) (fun k e j c hk hj => ?_) (fun k j hk hj => ?_) (fun k e j c hk hj => ?_)
              · obtain ⟨i, hi, rfl⟩ := map_at hk
                rfl
              · obtain ⟨i, hi, rfl⟩ := map_at hk
                cases j with
                | zero => simp at hj; subst hj; rfl
                | succ j => simp at hj
              · have hj0 : j = 0 := by omega
                subst hj0
                simp only [Nat.zero_add, Nat.mul_one, Nat.add_zero]
                exact Lib.bytesWorld_cell w td.elem v k (by simpa using hk)
              · obtain ⟨i, hi, rfl⟩ := map_at hk
                have hki : k = i := by
                  have := (List.getElem?_eq_some_iff.1 hi).2
                  simpa using this
                subst hki
                cases j with
                | zero => simp at hj; subst hj; exact .lit _
                | succ j => simp at hj
            simpa using key
        · cases hr
      · cases hr
    · cases hr
end
end Go.Proofs.Ytmfmpagfjgpodaa
