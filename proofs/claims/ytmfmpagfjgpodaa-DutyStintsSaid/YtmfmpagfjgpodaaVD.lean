/- More operations that leave memory alone, on plain values, and all of them in one: of every program; no condition. -/
import Derived.Test.YtmfmpagfjgpodaaVC
namespace Go.Proofs.Ytmfmpagfjgpodaa
open Go.RowKit
section
variable {P : Program} {w : World} {w0 : Nat} {M : Nat → Prop} {h : Hp} {p : Nat → Nat}

/-! ### Slices of slices and of texts -/
def bound (d : Int) : Option AV → Option Int
  | none => some d
  | some (.lit (.int _ n)) => some n
  | _ => none
def sliceA (P : Program) (t : TypeId) (x : AV) (lo hi mx : Option AV) : Option AV :=
  match tinfo P t, x, mx with
  | some ti, .sl sz es, none =>
    match bound 0 lo, bound es.length hi with
    | some l, some m => if ti.kind = 1 ∧ sz = ti.esz ∧ ti.esz ≠ 0 ∧ 0 ≤ l ∧ l ≤ m ∧ m.toNat ≤ es.length then some (.sl sz ((es.take m.toNat).drop l.toNat)) else none
    | _, _ => none
  | some ti, .lit (.string s), none =>
    match bound 0 lo, bound s.size hi with
    | some l, some m => if ti.kind = 4 ∧ 0 ≤ l ∧ l ≤ m ∧ m.toNat ≤ s.size then some (.lit (.string (s.extract l.toNat m.toNat))) else none
    | _, _ => none
  | _, _, _ => none
/-- A bound that is given, or not. -/
def Bd (w : World) (M : Nat → Prop) (h : Hp) (p : Nat → Nat) : Option AV → Option Value → Prop
  | none, none => True
  | some a, some v => V1 w M h p a v
  | _, _ => False
theorem run_sliceBound {k : IntKind} {n : Int} {y : Nat} {c : BoundsCode} (h0 : 0 ≤ n) (h1 : n ≤ y) : (Instr.sliceBound (.int k n) y c).run P w = .ok n.toNat w := by
  simp [Instr.sliceBound, asIntOf, h0, h1]
theorem run_sliceBounds {isS : Bool} {len cap : Nat} {lo hi : Option AV} {a b : Option Value} {l m : Int} (ha : Bd w M h p lo a) (hb : Bd w M h p hi b) (hl : bound 0 lo = some l) (hm : bound len hi = some m) (h0 : 0 ≤ l) (h1 : l ≤ m) (h2 : m.toNat ≤ cap) :
    (Instr.sliceBounds isS len cap a b none).run P w = .ok (l.toNat, m.toNat, cap) w := by
  cases lo with
  | none =>
    cases a with
    | some _ => exact ha.elim
    | none =>
      simp only [bound, Option.some.injEq] at hl
      subst hl
      cases hi with
      | none =>
        cases b with
        | some _ => exact hb.elim
        | none =>
          simp only [bound, Option.some.injEq] at hm
          subst hm
          simp [Instr.sliceBounds]
      | some x =>
        cases b with
        | none => exact hb.elim
        | some b =>
          cases x <;> simp [bound] at hm
          rename_i v
          cases v <;> simp at hm
          rename_i k n
          subst hm
          obtain rfl := V1.lit_inv hb
          have e := fun c => run_sliceBound (P := P) (w := w) (k := k) (n := n) (y := cap) (c := c) h1 (by omega)
          simp [Instr.sliceBounds, e]
  | some x =>
    cases a with
    | none => exact ha.elim
    | some a =>
      cases x <;> simp [bound] at hl
      rename_i v
      cases v <;> simp at hl
      rename_i k n
      subst hl
      obtain rfl := V1.lit_inv ha
      cases hi with
      | none =>
        cases b with
        | some _ => exact hb.elim
        | none =>
          simp only [bound, Option.some.injEq] at hm
          subst hm
          have e := fun c => run_sliceBound (P := P) (w := w) (k := k) (n := n) (y := len) (c := c) h0 h1
          simp [Instr.sliceBounds, e]
      | some y =>
        cases b with
        | none => exact hb.elim
        | some b =>
          cases y <;> simp [bound] at hm
          rename_i u
          cases u <;> simp at hm
          rename_i k2 n2
          subst hm
          obtain rfl := V1.lit_inv hb
          have e := fun c => run_sliceBound (P := P) (w := w) (k := k2) (n := n2) (y := cap) (c := c) (by omega) (by omega)
          have e2 := fun c => run_sliceBound (P := P) (w := w) (k := k) (n := n) (y := n2.toNat) (c := c) h0 (by omega)
          simp [Instr.sliceBounds, e, e2]
theorem slice_ok {t : TypeId} {x r : AV} {v : Value} {lo hi : Option AV} {a b : Option Value} (hx : V1 w M h p x v) (ha : Bd w M h p lo a) (hb : Bd w M h p hi b) (hr : sliceA P t x lo hi none = some r) :
    ∃ u, (Instr.sliceAt t v a b none).run P w = .ok u w ∧ V1 w M h p r u := by
  unfold sliceA at hr
  split at hr
  · rename_i ti sz es hti hmx
    split at hr
    · rename_i l m hl hm
      split at hr
      · rename_i hc
        obtain ⟨hk, hsz, hpos, h0, h1, h2⟩ := hc
        simp only [Option.some.injEq] at hr
        subst hr
        have hu := ti_slice hti hk
        have hez' : ti.esz = tsize P ti.elem := by obtain ⟨d, i, z, hd, hi, hz, h1z, rfl⟩ := tinfo_spec hti; rfl
        have hv := hx.sl_inv
        cases hv with
        | slNil _ A cap =>
          have hl0 : l = 0 ∧ m = 0 := by simp at h2; omega
          obtain ⟨rfl, rfl⟩ := hl0
          refine ⟨.slice (if cap = 0 then A else A.map (·.add (0 * tsize P ti.elem))) 0 cap, ?_, .base _ _ ?_⟩
          · have := run_sliceBounds (P := P) (isS := true) (cap := cap) ha hb hl hm (Int.le_refl _) (Int.le_refl _) (by simp)
            simp only [List.length_nil] at this
            simp only [Instr.sliceAt, Sem.run_bind, run_underlying hu, Result.andThen_ok, Instr.slice, this, run_size (show 0 < tsize P ti.elem by omega), Sem.run_pure]
            simp
          · simp only [Int.toNat_zero, List.take_nil, List.drop_nil]
            exact .slNil _ _ _
        | sl _ _ cap b' o u hne hb' hM hcap hsz' hone hcell hvv =>
          have hbd := run_sliceBounds (P := P) (isS := true) (cap := cap) ha hb hl hm h0 h1 (by omega)
          have hrun : (Instr.sliceAt t (.slice (some ⟨b', o, none⟩) es.length cap) a b none).run P w = .ok (.slice (if cap = l.toNat then some ⟨b', o, none⟩ else some ⟨b', o + l.toNat * sz, none⟩) (m.toNat - l.toNat) (cap - l.toNat)) w := by
            simp only [Instr.sliceAt, Sem.run_bind, run_underlying hu, Result.andThen_ok, Instr.slice, hbd, run_size (show 0 < tsize P ti.elem by omega), Sem.run_pure, Option.map_some, add_plain, hsz, hez']
          refine ⟨_, hrun, .base _ _ ?_⟩
          by_cases hlm : l = m
          · subst hlm
            have : (es.take l.toNat).drop l.toNat = [] := List.drop_eq_nil_of_le (by rw [List.length_take]; omega)
            rw [this, Nat.sub_self]
            exact .slNil _ _ _
          · have hln : ((es.take m.toNat).drop l.toNat).length = m.toNat - l.toNat := by rw [List.length_drop, List.length_take]; omega
            rw [if_neg (by omega), ← hln]
            have hat : ∀ (k : Nat) (e : List AV), ((es.take m.toNat).drop l.toNat)[k]? = some e → es[l.toNat + k]? = some e := by
              intro k e hk
              rw [List.getElem?_drop, List.getElem?_take] at hk
              split at hk
              · exact hk
              · cases hk
            refine .sl sz _ (cap - l.toNat) b' (o + l.toNat * sz) (fun k j => u (l.toNat + k) j) (fun hnil => by rw [hnil] at hln; simp at hln; omega) hb' hM (by omega) (fun k e hk => hsz' _ e (hat k e hk)) (fun k e j c hk => hone _ e j c (hat k e hk)) (fun k j hk hj => ?_) (fun k e j c hk => hvv _ e j c (hat k e hk))
            rw [← hcell (l.toNat + k) j (by omega) hj, Nat.add_mul]
            congr 2
            omega
      · cases hr
    · cases hr
  · rename_i ti s hti hmx
    obtain rfl := hx.lit_inv
    split at hr
    · rename_i l m hl hm
      split at hr
      · rename_i hc
        obtain ⟨hk, h0, h1, h2⟩ := hc
        simp only [Option.some.injEq] at hr
        subst hr
        refine ⟨_, ?_, .base _ _ (.lit _)⟩
        have hbd := run_sliceBounds (P := P) (w := w) (isS := false) (len := s.size) (cap := s.size) ha hb hl hm h0 h1 h2
        simp only [Instr.sliceAt, Sem.run_bind, run_underlying (ti_string hti hk), Result.andThen_ok, Instr.slice]
        simp [hbd]
      · cases hr
    · cases hr
  · cases hr

/-! ### Structs and arrays built of parts -/
def oneOk : AV → Bool
  | .agg _ => true
  | v => oneAV v
def putA (cs : List AV) (o : Nat) : List AV → List AV
  | [] => cs
  | v :: vs => putA (cs.set o v) (o + 1) vs
def fillA (place : Nat → Option (Nat × Nat)) (cs : List AV) : List (Nat × AV) → Option (List AV)
  | [] => some cs
  | (i, v) :: rest =>
    match place i with
    | none => none
    | some (o, s) => if (avCells v).length = s ∧ o + s ≤ cs.length ∧ oneOk v = true then fillA place (putA cs o (avCells v)) rest else none
def placeA (ti : TI) (i : Nat) : Option (Nat × Nat) :=
  if ti.kind = 3 then (ti.flds[i]?).bind fun f => if f.2.1 = 0 then none else some (f.1, f.2.1)
  else if ti.kind = 2 ∧ ti.esz ≠ 0 then some (i * ti.esz, ti.esz) else none
def buildA (P : Program) (t : TypeId) (parts : List (Nat × AV)) : Option AV :=
  match tinfo P t with
  | none => none
  | some ti => if ti.kind = 3 ∧ ti.flds.all (fun f => f.2.1 != 0) ∨ ti.kind = 2 ∧ ti.esz ≠ 0 then (fillA (placeA ti) (ti.zero.map .lit) parts).map .agg else none
/-- Cell by cell. -/
def Cells (w : World) (M : Nat → Prop) (h : Hp) (p : Nat → Nat) (cs : List AV) (us : List Value) : Prop :=
  us.length = cs.length ∧ (∀ c ∈ cs, oneAV c = true) ∧ ∀ (i : Nat) (c : AV) (u : Value), cs[i]? = some c → us[i]? = some u → V1 w M h p c u
theorem Cells.set {cs : List AV} {us : List Value} (hc : Cells w M h p cs us) {o : Nat} {c : AV} {u : Value} (h1 : oneAV c = true) (hv : V1 w M h p c u) : Cells w M h p (cs.set o c) (us.set o u) := by
  obtain ⟨hl, hone, hh⟩ := hc
  refine ⟨by simp [hl], fun x hx => ?_, fun i x y hx hy => ?_⟩
  · rcases List.mem_or_eq_of_mem_set hx with h' | rfl
    · exact hone x h'
    · exact h1
  · rw [List.getElem?_set] at hx hy
    by_cases hio : o = i
    · subst hio
      rw [if_pos rfl] at hx hy
      split at hx
      · rename_i h2
        rw [if_pos (by rw [hl]; exact h2)] at hy
        simp only [Option.some.injEq] at hx hy
        subst hx
        subst hy
        exact hv
      · cases hx
    · rw [if_neg hio] at hx hy
      exact hh i x y hx hy
theorem Cells.of_lits : ∀ (zs : List Value), zs.all (·.oneCell') = true → Cells w M h p (zs.map .lit) zs := by
  intro zs hz
  refine ⟨by simp, fun c hc => ?_, fun i c u hc hu => ?_⟩
  · obtain ⟨z, hz', rfl⟩ := List.mem_map.1 hc
    exact List.all_eq_true.1 hz z hz'
  · rw [List.getElem?_map, hu] at hc
    simp only [Option.map_some, Option.some.injEq] at hc
    subst hc
    exact .base _ _ (.lit _)
theorem V1.cells {v : AV} {u : Value} (hv : V1 w M h p v u) (h1 : oneOk v = true) : Cells w M h p (avCells v) u.cells.toList := by
  by_cases hag : ∃ cs, v = .agg cs
  · obtain ⟨cs, rfl⟩ := hag
    obtain ⟨us, rfl, hl, hone, hh⟩ := hv.agg_inv
    exact ⟨by simpa [Value.cells, avCells] using hl, hone, by simpa [Value.cells, avCells] using hh⟩
  · have hone : oneAV v = true := by
      cases v <;> first | exact h1 | exact absurd ⟨_, rfl⟩ hag
    have hcell := hv.one hone
    have h2 : avCells v = [v] := by cases v <;> first | rfl | exact absurd ⟨_, rfl⟩ hag
    have h3 : u.cells = #[u] := by cases u <;> first | rfl | (simp [Value.oneCell'] at hcell)
    rw [h2, h3]
    refine ⟨rfl, by simpa using hone, fun i c y hc hy => ?_⟩
    cases i with
    | zero => simp at hc hy; subst hc; subst hy; exact hv
    | succ i => simp at hc
theorem put_ok : ∀ (vs : List AV) (us : List Value) (cs : List AV) (cur : Array Value) (o k : Nat), Cells w M h p vs us → Cells w M h p cs cur.toList →
    Cells w M h p (putA cs (o + k) vs) ((us.zipIdx k).foldl (fun cs (c, j) => cs.setIfInBounds (o + j) c) cur).toList
  | [], us, cs, cur, o, k, hv, hc => by
    have : us = [] := List.eq_nil_of_length_eq_zero hv.1
    subst this
    simpa [putA] using hc
  | v :: vs, us, cs, cur, o, k, hv, hc => by
    cases us with
    | nil => have := hv.1; simp at this
    | cons u us =>
      obtain ⟨hl, hone, hh⟩ := hv
      simp only [List.zipIdx_cons, List.foldl_cons, putA]
      rw [show o + k + 1 = o + (k + 1) by omega]
      refine put_ok vs us _ _ o (k + 1) ⟨by simpa using hl, fun c hc => hone c (List.mem_cons_of_mem _ hc), fun i c y h1 h2 => hh (i + 1) c y (by simpa using h1) (by simpa using h2)⟩ ?_
      rw [Array.toList_setIfInBounds]
      exact hc.set (hone v (List.mem_cons_self ..)) (hh 0 v u rfl rfl)
theorem fill_ok {place : Nat → Option (Nat × Nat)} : ∀ (parts : List (Nat × AV)) (vals : List (Nat × Value)) (cs r : List AV) (cur : Array Value), Cells w M h p cs cur.toList → vals.map (·.1) = parts.map (·.1) →
    (∀ (i : Nat) (a : Nat × AV) (v : Nat × Value), parts[i]? = some a → vals[i]? = some v → V1 w M h p a.2 v.2) → fillA place cs parts = some r → ∃ cur' : Array Value, Instr.fill place cur vals = some cur' ∧ Cells w M h p r cur'.toList
  | [], vals, cs, r, cur, hc, hl, _, hr => by
    have : vals = [] := by cases vals <;> simp at hl ⊢
    subst this
    simp only [fillA, Option.some.injEq] at hr
    subst hr
    exact ⟨cur, rfl, hc⟩
  | (i, v) :: parts, vals, cs, r, cur, hc, hl, hv, hr => by
    cases vals with
    | nil => simp at hl
    | cons u vals =>
      simp only [List.map_cons, List.cons.injEq] at hl
      obtain ⟨h1, h2⟩ := hl
      obtain ⟨i', u⟩ := u
      simp only at h1
      subst h1
      simp only [fillA] at hr
      split at hr
      · cases hr
      · rename_i o s hp
        split at hr
        · rename_i hcond
          obtain ⟨ha, hb, hd⟩ := hcond
          have hcell := (hv 0 (i', v) (i', u) rfl rfl).cells hd
          have hsz : u.cells.size = s := by rw [← Array.length_toList, hcell.1, ha]
          have hle : ¬ (o + u.cells.size > cur.size) := by rw [hsz]; have := hc.1; rw [Array.length_toList] at this; omega
          have := put_ok _ _ cs cur o 0 hcell hc
          rw [Nat.add_zero] at this
          obtain ⟨cur', hf, hcc⟩ := fill_ok parts vals _ r _ this h2 (fun i a v h1 h2 => hv (i + 1) a v (by simpa using h1) (by simpa using h2)) hr
          refine ⟨cur', ?_, hcc⟩
          rw [hsz] at hle
          have hif : (decide (u.cells.size ≠ s) || decide (o + u.cells.size > cur.size)) = false := by simp [hsz]; omega
          simp only [Instr.fill, hp, hif, Bool.false_eq_true, if_false]
          rw [← hf]
          congr 1
          rw [← Array.foldl_toList]
          congr 1
          simp
        · cases hr
theorem fill_cong {f g : Nat → Option (Nat × Nat)} : ∀ (l : List (Nat × Value)) (cs : Array Value), (∀ x ∈ l, f x.1 = g x.1) → Instr.fill f cs l = Instr.fill g cs l
  | [], _, _ => rfl
  | (i, v) :: l, cs, hh => by
    have e : f i = g i := hh (i, v) (List.mem_cons_self ..)
    simp only [Instr.fill, e]
    split
    · rfl
    · split
      · rfl
      · exact fill_cong l _ fun x hx => hh x (List.mem_cons_of_mem _ hx)
end
end Go.Proofs.Ytmfmpagfjgpodaa
