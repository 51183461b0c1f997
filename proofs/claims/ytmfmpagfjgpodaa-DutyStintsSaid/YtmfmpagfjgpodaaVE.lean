/- All operations that leave memory alone, in one: of every program; no condition. -/
import Derived.Test.YtmfmpagfjgpodaaVD
namespace Go.Proofs.Ytmfmpagfjgpodaa
open Go.RowKit
section
variable {P : Program} {w : World} {w0 : Nat} {M : Nat → Prop} {h : Hp} {p : Nat → Nat}

theorem run_places : ∀ (fs : List Field), (fs.map fun f => (f.offset, tsize P f.type, tagg P f.type)).all (fun f => f.2.1 != 0) = true →
    (fs.mapM fun f => do pure (f.offset, ← sizeOf f.type) : Sem (List (Nat × Nat))).run P w = .ok (fs.map fun f => (f.offset, tsize P f.type)) w
  | [], _ => by simp
  | f :: fs, hh => by
    simp only [List.map_cons, List.all_cons, Bool.and_eq_true, bne_iff_ne, ne_eq] at hh
    have ih := run_places fs hh.2
    simp only [List.mapM_cons, Sem.run_bind, run_size (P := P) (Nat.pos_of_ne_zero hh.1), Result.andThen_ok, Sem.run_pure, ih, List.map_cons]
theorem build_ok {t : TypeId} {parts : List (Nat × AV)} {vals : Array (Nat × Value)} {r : AV} (hl : vals.toList.map (·.1) = parts.map (·.1))
    (hv : ∀ (i : Nat) (a : Nat × AV) (v : Nat × Value), parts[i]? = some a → vals.toList[i]? = some v → V1 w M h p a.2 v.2) (hr : buildA P t parts = some r) : ∃ u, (Instr.build t vals).run P w = .ok u w ∧ V1 w M h p r u := by
  unfold buildA at hr
  split at hr
  · cases hr
  · rename_i ti hti
    obtain ⟨z, hz, hz1, hzr⟩ := ti_zero hti
    split at hr
    · rename_i hk
      obtain ⟨cs, hf, rfl⟩ := Option.map_eq_some_iff.1 hr
      have hc0 : Cells w M h p (ti.zero.map .lit) z.cells.toList := by rw [hz]; exact Cells.of_lits _ hz1
      obtain ⟨cur, hfill, hcc⟩ := fill_ok parts vals.toList _ _ z.cells hc0 hl hv hf
      refine ⟨.agg cur, ?_, ?_⟩
      · rcases hk with ⟨hk, hall⟩ | hk
        · obtain ⟨fs, hu, hfl⟩ := ti_struct hti hk
          rw [hfl] at hall
          have hpl := run_places (P := P) (w := w) fs.toList hall
          have hpl' : (fs.mapM fun f => do pure (f.offset, ← sizeOf f.type) : Sem (Array (Nat × Nat))).run P w = .ok (fs.toList.map fun f => (f.offset, tsize P f.type)).toArray w := by
            rw [← Array.toArray_toList (xs := fs), List.mapM_toArray]
            simp only [Sem.run_map, hpl, Result.andThen_ok]
          have hcong : Instr.fill (fun i => (fs.toList.map fun f => (f.offset, tsize P f.type)).toArray[i]?) z.cells vals.toList = some cur := by
            rw [← hfill]
            refine fill_cong _ _ fun x _ => ?_
            simp only [placeA, hk, if_true, hfl, List.getElem?_toArray, List.getElem?_map]
            cases hx : fs.toList[x.1]? with
            | none => rfl
            | some f =>
              have hne : tsize P f.type ≠ 0 := by
                have hm : f ∈ fs.toList := List.mem_of_getElem? hx
                have := List.all_eq_true.1 hall _ (List.mem_map_of_mem hm)
                simpa using this
              simp [hne]
          simp only [Instr.build, Sem.run_bind, hzr, Result.andThen_ok, run_underlying hu, hpl', hcong, Sem.run_pure]
        · have hez := hk.2
          have hk := hk.1
          have hu := ti_array hti hk
          have hez' : ti.esz = tsize P ti.elem := by obtain ⟨d, i, z, hd, hi, hz, h1z, rfl⟩ := tinfo_spec hti; rfl
          have hcong : Instr.fill (fun i => some (i * ti.esz, ti.esz)) z.cells vals.toList = some cur := by
            rw [← hfill]
            refine fill_cong _ _ fun x _ => ?_
            simp [placeA, hk, hez]
          simp only [Instr.build, Sem.run_bind, hzr, Result.andThen_ok, run_underlying hu, run_size (P := P) (show 0 < tsize P ti.elem by omega), ← hez', hcong, Sem.run_pure]
      · have : V1 w M h p (.agg cs) (.agg cur.toList.toArray) := .agg _ _ hcc.1 hcc.2.1 hcc.2.2
        simpa using this
    · cases hr

def lenA (P : Program) (h : Hp) (t : TypeId) (x : AV) : Option AV :=
  match tinfo P t, x with
  | some ti, .sl _ es => if ti.kind = 1 then some (.lit (.int .i64 es.length)) else none
  | some ti, .osl id => match h[id]? with | some (some (.arr _ _ _ es)) => if ti.kind = 1 then some (.lit (.int .i64 es.length)) else none | _ => none
  | some ti, .lit (.string s) => if ti.kind = 4 then some (.lit (.int .i64 s.size)) else none
  | some ti, .lit (.slice _ n _) => if ti.kind = 1 then some (.lit (.int .i64 n)) else none
  | _, _ => none
theorem len_ok (hO : ∀ id ob, h[id]? = some (some ob) → ObOK w0 w M h p id ob) {t ty : TypeId} {x r : AV} {a : Value} (hx : V1 w M h p x a) (hr : lenA P h t x = some r) : ∃ u, (Builtin.len_ #[t] ty #[a]).run P w = .ok u w ∧ V1 w M h p r u := by
  unfold lenA at hr
  split at hr
  · rename_i ti sz es hti
    split at hr
    · rename_i hk
      simp only [Option.some.injEq] at hr
      subst hr
      have hv := hx.sl_inv
      refine ⟨_, ?_, .base _ _ (.lit _)⟩
      cases hv <;> simp [Builtin.len_, run_underlying (ti_slice hti hk), goInt]
    · cases hr
  · rename_i ti id hti
    split at hr
    · rename_i e sz nl es hid
      split at hr
      · rename_i hk
        simp only [Option.some.injEq] at hr
        subst hr
        obtain ⟨A, n, c, rfl, hidl, hv⟩ := hx.osl_inv
        have ho := hv _ _ _ _ hid
        have hn : n = es.length := by
          unfold Osl at ho
          split at ho
          · rename_i hn
            have hes := (hO id _ hid).2.2
            rw [if_pos hn] at hes
            subst hes
            obtain ⟨hq, _⟩ := ho
            injection hq
          · obtain ⟨cap, cur, heq, _⟩ := ho
            injection heq
        subst hn
        exact ⟨_, by simp [Builtin.len_, run_underlying (ti_slice hti hk), goInt], .base _ _ (.lit _)⟩
      · cases hr
    · cases hr
  · rename_i ti s hti
    split at hr
    · rename_i hk
      simp only [Option.some.injEq] at hr
      subst hr
      obtain rfl := hx.lit_inv
      exact ⟨_, by simp [Builtin.len_, run_underlying (ti_string hti hk), goInt], .base _ _ (.lit _)⟩
    · cases hr
  · rename_i ti A n c hti
    split at hr
    · rename_i hk
      simp only [Option.some.injEq] at hr
      subst hr
      obtain rfl := hx.lit_inv
      exact ⟨_, by simp [Builtin.len_, run_underlying (ti_slice hti hk), goInt], .base _ _ (.lit _)⟩
    · cases hr
  · cases hr

def ifaceA (P : Program) (t : TypeId) (x : AV) : Option AV := match tinfo P t with | some ti => if ti.kind = 9 ∨ ti.kind = 0 then none else some (.iface t x) | none => none
def bltA (P : Program) (h : Hp) (b : Builtin) (ts : Array TypeId) (xs : List AV) : Option AV :=
  match b, ts.toList, xs with
  | .len, [t], [x] => lenA P h t x
  | .max, _, [.lit (.int k x), .lit (.int k' y)] => if k = k' then some (.lit (.int k (if x < y then y else x))) else none
  | .min, _, [.lit (.int k x), .lit (.int k' y)] => if k = k' then some (.lit (.int k (if y < x then y else x))) else none
  | _, _, _ => none
def nilA : AV → Option AV
  | .vp cs => some (.vp cs)
  | .ref id off => some (.ref id off)
  | .aref id sz i off => some (.aref id sz i off)
  | .fn (.func f) a b => some (.fn (.func f) a b)
  | .lit (.func (.func f) a b) => some (.lit (.func (.func f) a b))
  | _ => none
/-- What an operation gives that leaves memory alone. -/
def pureOp (P : Program) (h : Hp) (E : Operand → AV) : Op → Option AV
  | .move x => some (E x)
  | .assign x => some (E x)
  | .pick c a b => match E c with | .lit (.bool t) => some (if t then E a else E b) | _ => none
  | .nilCheck x => nilA (E x)
  | .load t a => loadA P h t (E a)
  | .binOp op t x y _ => binA P op t (E x) (E y)
  | .unOp op _ x => unA op (E x)
  | .convert s d x => convA P s d (E x)
  | .makeInterface t x => ifaceA P t (E x)
  | .makeFunc f a b => some (.fn f (a.toList.map E) (b.toList.map E))
  | .slice t x lo hi none => sliceA P t (E x) (lo.map E) (hi.map E) none
  | .fieldAddr t x f => faddrA P t (E x) f
  | .field t x f => fieldA P t (E x) f
  | .indexAddr t x i => iaddrA P h t (E x) (E i)
  | .index t x i => indexA P t (E x) (E i)
  | .extract x i => match E x with | .tup vs => vs[i]? | _ => none
  | .build t parts => buildA P t (parts.toList.map fun q => (q.1, E q.2))
  | .call ⟨.builtin b, xs, ts⟩ => bltA P h b ts (xs.toList.map E)
  | _ => none
end
end Go.Proofs.Ytmfmpagfjgpodaa
