/- What an operation gives that leaves memory alone, or makes memory that nobody writes to: of every program; no condition. -/
import Derived.Test.YtmfmpagfjgpodaaVE
namespace Go.Proofs.Ytmfmpagfjgpodaa
open Go.RowKit
section
variable {P : Program} {w : World} {w0 : Nat} {M : Nat → Prop} {h : Hp} {p : Nat → Nat}

theorem map_at {α β : Type} {f : α → β} {l : List α} {i : Nat} {x : β} (h : (l.map f)[i]? = some x) : ∃ a, l[i]? = some a ∧ f a = x := by
  rw [List.getElem?_map] at h
  exact Option.map_eq_some_iff.1 h
theorem pureOp_ok (hO : ∀ id ob, h[id]? = some (some ob) → ObOK w0 w M h p id ob) {o : Oper} {E : Operand → AV} {ρ : Operand → Value} {r : AV} (hE : ∀ x ∈ o.op.operands, V1 w M h p (E x) (ρ x)) (hr : pureOp P h E o.op = some r) :
    ∃ u, (execOp ρ o).run P w = .ok (.value u) w ∧ V1 w M h p r u := by
  obtain ⟨dst, op, ty, pos, after, guard⟩ := o
  unfold pureOp at hr
  unfold execOp
  split at hr <;> first | (cases hr; done) | (rename_i heq; simp only at heq; subst heq; simp only [Op.operands] at hE; dsimp only)
  · simp only [Option.some.injEq] at hr
    subst hr
    exact ⟨_, rfl, hE _ (by simp)⟩
  · simp only [Option.some.injEq] at hr
    subst hr
    exact ⟨_, rfl, hE _ (by simp)⟩
  · rename_i c a b
    have hc := hE c (by simp)
    split at hr
    · rename_i t ht
      rw [ht] at hc
      have hc' := hc.lit_inv
      simp only [Option.some.injEq] at hr
      subst hr
      cases t
      · exact ⟨ρ b, by simp [hc', asBool], hE b (by simp)⟩
      · exact ⟨ρ a, by simp [hc', asBool], hE a (by simp)⟩
    · cases hr
  · rename_i x
    have hx := hE x (by simp)
    unfold nilA at hr
    split at hr
    · rename_i cs he
      rw [he] at hx
      obtain ⟨h0, b, q, hq⟩ := hx.vp_inv
      simp only [Option.some.injEq] at hr
      subst hr
      exact ⟨_, by simp only [hq, Sem.run_pure], hx⟩
    · rename_i cs he
      rw [he] at hx
      obtain ⟨hq, _⟩ := hx.ref_inv
      simp only [Option.some.injEq] at hr
      subst hr
      exact ⟨_, by simp only [hq, Sem.run_pure], hx⟩
    · rename_i cs he
      rw [he] at hx
      obtain ⟨hq, _⟩ := hx.aref_inv
      simp only [Option.some.injEq] at hr
      subst hr
      exact ⟨_, by simp only [hq, Sem.run_pure], hx⟩
    · rename_i f a b he
      rw [he] at hx
      have hq : ∃ us vs, ρ x = .func (.func f) us vs := by
        generalize ρ x = v at hx
        cases hx with
        | base _ _ h0 => cases h0; exact ⟨_, _, rfl⟩
        | fn => exact ⟨_, _, rfl⟩
      obtain ⟨us, vs, hq⟩ := hq
      simp only [Option.some.injEq] at hr
      subst hr
      exact ⟨_, by simp only [hq, Sem.run_pure], hx⟩
    · rename_i f a b he
      rw [he] at hx
      have hq := hx.lit_inv
      simp only [Option.some.injEq] at hr
      subst hr
      exact ⟨_, by simp only [hq, Sem.run_pure], hx⟩
    · cases hr
  · rename_i t a
    obtain ⟨u, hu, hv⟩ := load_ok (P := P) hO (hE a (by simp)) hr
    exact ⟨u, by simp [hu], hv⟩
  · rename_i op t x y yt
    obtain ⟨u, hu, hv⟩ := bin_ok (P := P) (hE x (by simp)) (hE y (by simp)) hr x y
    exact ⟨u, by simp only [Sem.run_bind] at hu ⊢; rw [hu]; rfl, hv⟩
  · rename_i op t x
    obtain ⟨u, hu, hv⟩ := un_ok (P := P) (hE x (by simp)) hr
    exact ⟨u, by simp [hu], hv⟩
  · rename_i s d x
    obtain ⟨u, hu, hv⟩ := conv_ok (P := P) (hE x (by simp)) hr
    exact ⟨u, by simp [hu], hv⟩
  · rename_i t x
    unfold ifaceA at hr
    split at hr
    · rename_i ti hti
      split at hr
      · cases hr
      · rename_i hk
        simp only [Option.some.injEq] at hr
        subst hr
        obtain ⟨d, i, z, hd, hi, hz, h1z, rfl⟩ := tinfo_spec hti
        refine ⟨.iface t (ρ x), ?_, .iface _ _ _ (hE x (by simp))⟩
        cases d <;> first | (exfalso; simp [dkind] at hk; done) | simp [Instr.makeInterface, run_underlying hd]
    · cases hr
  · rename_i f a b
    simp only [Option.some.injEq] at hr
    subst hr
    refine ⟨.func f (a.map ρ) (b.map ρ), by simp [Instr.makeFunc], ?_⟩
    have e1 : a.map ρ = (a.toList.map ρ).toArray := by apply Array.ext'; rw [Array.toList_map]
    have e2 : b.map ρ = (b.toList.map ρ).toArray := by apply Array.ext'; rw [Array.toList_map]
    rw [e1, e2]
    refine .fn _ _ _ _ _ (by simp) (by simp) (fun i c u hc hu => ?_) (fun i c u hc hu => ?_)
    · obtain ⟨x, hx, rfl⟩ := map_at hc
      obtain ⟨y, hy, rfl⟩ := map_at hu
      rw [hx] at hy
      obtain rfl := Option.some.inj hy
      exact hE x (by simp; exact .inl (by simpa using List.mem_of_getElem? hx))
    · obtain ⟨x, hx, rfl⟩ := map_at hc
      obtain ⟨y, hy, rfl⟩ := map_at hu
      rw [hx] at hy
      obtain rfl := Option.some.inj hy
      exact hE x (by simp; exact .inr (by simpa using List.mem_of_getElem? hx))
  · rename_i t x lo hi
    have hlo : Bd w M h p (lo.map E) (lo.map ρ) := by
      cases lo with
      | none => exact trivial
      | some a => exact hE a (by simp)
    have hhi : Bd w M h p (hi.map E) (hi.map ρ) := by
      cases hi with
      | none => exact trivial
      | some a => exact hE a (by simp)
    obtain ⟨u, hu, hv⟩ := slice_ok (P := P) (hE x (by simp)) hlo hhi hr
    exact ⟨u, by simp only [Sem.run_bind, Option.map_none, hu]; rfl, hv⟩
  · rename_i t x f
    obtain ⟨u, hu, hv⟩ := faddr_ok (P := P) (hE x (by simp)) hr
    exact ⟨u, by simp [hu], hv⟩
  · rename_i t x f
    obtain ⟨u, hu, hv⟩ := field_ok (P := P) (hE x (by simp)) hr
    exact ⟨u, by simp [hu], hv⟩
  · rename_i t x i
    obtain ⟨u, hu, hv⟩ := iaddr_ok (P := P) hO (hE x (by simp)) (hE i (by simp)) hr
    exact ⟨u, by simp [hu], hv⟩
  · rename_i t x i
    obtain ⟨u, hu, hv⟩ := index_ok (P := P) (hE x (by simp)) (hE i (by simp)) hr
    exact ⟨u, by simp [hu], hv⟩
  · rename_i x i
    have hx := hE x (by simp)
    split at hr
    · rename_i vs he
      rw [he] at hx
      obtain ⟨us, hq, hl, hv⟩ := hx.tup_inv
      have hi : i < us.length := by rw [hl]; exact (List.getElem?_eq_some_iff.1 hr).1
      exact ⟨us[i], by simp [Instr.extract, hq, hi], hv i r _ hr (List.getElem?_eq_getElem hi)⟩
    · cases hr
  · rename_i t parts
    obtain ⟨u, hu, hv⟩ := build_ok (P := P) (w := w) (vals := parts.map fun (i, x) => (i, ρ x)) (by simp) (fun i a v ha hv => by
      obtain ⟨x, hx, rfl⟩ := map_at ha
      simp only [Array.toList_map] at hv
      obtain ⟨y, hy, rfl⟩ := map_at hv
      rw [hx] at hy
      obtain rfl := Option.some.inj hy
      exact hE x.2 (by simp; exact ⟨x.1, by simpa using List.mem_of_getElem? hx⟩)) hr
    exact ⟨u, by simp only [Sem.run_bind, hu]; rfl, hv⟩
  · rename_i b xs ts
    have hx : ∀ x ∈ xs.toList, V1 w M h p (E x) (ρ x) := fun x hx => hE x (by simp [Call.operands]; simpa using hx)
    unfold bltA at hr
    split at hr
    · rename_i t x hts hxs
      obtain ⟨y, hy⟩ : ∃ y, xs.toList = [y] := by
        cases hh : xs.toList with
        | nil => rw [hh] at hxs; simp at hxs
        | cons a l => cases l with
          | nil => exact ⟨a, rfl⟩
          | cons b c => rw [hh] at hxs; simp at hxs
      have e1 : xs = #[y] := by apply Array.ext'; rw [hy]
      have e2 : ts = #[t] := by apply Array.ext'; rw [hts]
      subst e1
      subst e2
      simp at hxs
      subst hxs
      obtain ⟨u, hu, hv⟩ := len_ok (P := P) hO (ty := ty) (hx y (by simp)) hr
      exact ⟨u, by simp only [resolve, invoke, builtin, Sem.run_bind, Sem.run_pure, Result.andThen_ok, List.map_toArray, List.map_cons, List.map_nil, hu], hv⟩
    · rename_i ts' k x k' y hxs
      obtain ⟨a, b, hy⟩ : ∃ a b, xs.toList = [a, b] := by
        cases hh : xs.toList with
        | nil => rw [hh] at hxs; simp at hxs
        | cons a l => cases l with
          | nil => rw [hh] at hxs; simp at hxs
          | cons b c => cases c with
            | nil => exact ⟨a, b, rfl⟩
            | cons d e => rw [hh] at hxs; simp at hxs
      have e1 : xs = #[a, b] := by apply Array.ext'; rw [hy]
      subst e1
      simp at hxs
      split at hr
      · rename_i hk
        subst hk
        simp only [Option.some.injEq] at hr
        subst hr
        have h1 := hx a (by simp)
        have h2 := hx b (by simp)
        rw [hxs.1] at h1
        rw [hxs.2] at h2
        refine ⟨_, ?_, .base _ _ (.lit _)⟩
        simp [resolve, invoke, builtin, h1.lit_inv, h2.lit_inv, Builtin.max_, Builtin.max2]
      · cases hr
    · rename_i ts' k x k' y hxs
      obtain ⟨a, b, hy⟩ : ∃ a b, xs.toList = [a, b] := by
        cases hh : xs.toList with
        | nil => rw [hh] at hxs; simp at hxs
        | cons a l => cases l with
          | nil => rw [hh] at hxs; simp at hxs
          | cons b c => cases c with
            | nil => exact ⟨a, b, rfl⟩
            | cons d e => rw [hh] at hxs; simp at hxs
      have e1 : xs = #[a, b] := by apply Array.ext'; rw [hy]
      subst e1
      simp at hxs
      split at hr
      · rename_i hk
        subst hk
        simp only [Option.some.injEq] at hr
        subst hr
        have h1 := hx a (by simp)
        have h2 := hx b (by simp)
        rw [hxs.1] at h1
        rw [hxs.2] at h2
        refine ⟨_, ?_, .base _ _ (.lit _)⟩
        simp [resolve, invoke, builtin, h1.lit_inv, h2.lit_inv, Builtin.min_, Builtin.min2]
      · cases hr
    · cases hr

/-! ### Memory that is made, and never written to again -/
def pureA : Nat → AV → Bool
  | 0, _ => false
  | n + 1, .agg cs => cs.all (pureA n)
  | n + 1, .tup cs => cs.all (pureA n)
  | n + 1, .fn _ a b => a.all (pureA n) && b.all (pureA n)
  | n + 1, .iface _ v => pureA n v
  | _ + 1, .ref .. => false
  | _ + 1, .aref .. => false
  | _ + 1, .osl _ => false
  | _ + 1, _ => true
theorem V1.pure : ∀ (n : Nat) {av : AV} {v : Value}, V1 w M h p av v → pureA n av = true → V0 w M av v
  | 0, _, _, _, hp => by simp [pureA] at hp
  | n + 1, av, v, hv, hp => by
    cases hv with
    | base _ _ h0 => exact h0
    | agg cs us hl h1 hh =>
      simp only [pureA] at hp
      exact .agg cs us hl h1 fun i c u hc hu => V1.pure n (hh i c u hc hu) (List.all_eq_true.1 hp c (List.mem_of_getElem? hc))
    | tup cs us hl hh =>
      simp only [pureA] at hp
      exact .tup cs us hl fun i c u hc hu => V1.pure n (hh i c u hc hu) (List.all_eq_true.1 hp c (List.mem_of_getElem? hc))
    | fn f a b us vs hl hl' hh hh' =>
      simp only [pureA, Bool.and_eq_true] at hp
      exact .fn f a b us vs hl hl' (fun i c u hc hu => V1.pure n (hh i c u hc hu) (List.all_eq_true.1 hp.1 c (List.mem_of_getElem? hc))) (fun i c u hc hu => V1.pure n (hh' i c u hc hu) (List.all_eq_true.1 hp.2 c (List.mem_of_getElem? hc)))
    | iface t v u hh => exact .iface t v u (V1.pure n hh (by simpa [pureA] using hp))
    | ref => simp [pureA] at hp
    | aref => simp [pureA] at hp
    | osl => simp [pureA] at hp
def zrow {α : Type} (z : List α) : Nat → List α
  | 0 => []
  | n + 1 => z ++ zrow z n
def chunkA (sz : Nat) : Nat → List AV → List (List AV)
  | 0, _ => []
  | n + 1, cs => cs.take sz :: chunkA sz n (cs.drop sz)
def rowA (P : Program) (t : TypeId) (n : Nat) (parts : List (Nat × AV)) : Option (List AV × TI) :=
  match tinfo P t with
  | none => none
  | some ti =>
    match tinfo P ti.elem with
    | none => none
    | some te => if ti.kind = 1 ∧ te.size = ti.esz ∧ te.zero.length = ti.esz ∧ ti.esz ≠ 0 ∧ n * ti.esz ≤ 16777216 then (fillA (fun i => some (i * ti.esz, ti.esz)) (zrow (te.zero.map .lit) n) parts).map fun cs => (cs, ti) else none
def allocOp (P : Program) (E : Operand → AV) : Op → Option AV
  | .box _ x => if oneOk (E x) && (avCells (E x)).all (pureA 5) then some (.vp (avCells (E x))) else none
  | .buildSlice t n parts => (rowA P t n (parts.toList.map fun q => (q.1, E q.2))).bind fun r => if r.1.all (pureA 5) then some (.sl r.2.esz (chunkA r.2.esz n r.1)) else none
  | .convert s d x => match tinfo P s, tinfo P d with
    | some _, some td => match tinfo P td.elem, E x with
      | some te, .lit (.string v) => if td.kind = 1 ∧ te.kind = 5 ∧ te.ik = .u8 then some (.sl 1 ((List.range v.size).map fun i => [.lit (.int .u8 (byteAt v i).toNat)])) else none
      | _, _ => none
    | _, _ => none
  | _ => none
theorem chunkA_len (sz : Nat) : ∀ (n : Nat) (cs : List AV), (chunkA sz n cs).length = n
  | 0, _ => rfl
  | n + 1, cs => by simp [chunkA, chunkA_len sz n]
theorem chunkA_at (sz : Nat) : ∀ (n : Nat) (cs : List AV) (k : Nat) (e : List AV), n * sz ≤ cs.length → (chunkA sz n cs)[k]? = some e → e.length = sz ∧ ∀ j c, e[j]? = some c → cs[k * sz + j]? = some c
  | 0, _, _, _, _, h => by simp [chunkA] at h
  | n + 1, cs, k, e, hl, h => by
    rw [Nat.add_mul] at hl
    cases k with
    | zero =>
      simp only [chunkA, List.getElem?_cons_zero, Option.some.injEq] at h
      subst h
      refine ⟨by rw [List.length_take]; omega, fun j c hj => ?_⟩
      rw [List.getElem?_take] at hj
      split at hj
      · simpa using hj
      · cases hj
    | succ k =>
      simp only [chunkA, List.getElem?_cons_succ] at h
      obtain ⟨h1, h2⟩ := chunkA_at sz n (cs.drop sz) k e (by rw [List.length_drop]; omega) h
      refine ⟨h1, fun j c hj => ?_⟩
      have := h2 j c hj
      rw [List.getElem?_drop] at this
      rw [← this, Nat.add_mul]
      congr 1
      omega
theorem zrow_len {α : Type} (z : List α) (n : Nat) : (zrow z n).length = n * z.length := by
  induction n with
  | zero => simp [zrow]
  | succ n ih => simp [zrow, ih, Nat.add_mul]; omega
end
end Go.Proofs.Ytmfmpagfjgpodaa
