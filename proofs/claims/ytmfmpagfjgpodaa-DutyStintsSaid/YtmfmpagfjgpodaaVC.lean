/- The operations that leave memory alone, on plain values: of every program; no condition. -/
import Derived.Test.YtmfmpagfjgpodaaVB
import Derived.Lib.MinMax
import Derived.Laws.StructEq
import Derived.ChangeKeysEq
namespace Go.Proofs.Ytmfmpagfjgpodaa
open Go.RowKit

/-! ### Numbers, texts, truth values -/
def pBin (op : BinOp) (a b : Value) : Option Value :=
  match a, b with
  | .int k a, .int k' b =>
    if k = k' then
      match op with
      | .add => some (.int k (k.wrap (a + b)))
      | .sub => some (.int k (k.wrap (a - b)))
      | .mul => some (.int k (k.wrap (a * b)))
      | .quo => if b = 0 then none else some (.int k (k.wrap (a.tdiv b)))
      | .rem => if b = 0 then none else some (.int k (a.tmod b))
      | .eql => some (.bool (decide (a = b)))
      | .neq => some (.bool (!decide (a = b)))
      | .lss => some (.bool (decide (a < b)))
      | .leq => some (.bool (decide (a ≤ b)))
      | .gtr => some (.bool (decide (b < a)))
      | .geq => some (.bool (decide (b ≤ a)))
      | _ => none
    else none
  | .string a, .string b =>
    match op with
    | .add => if a.size + b.size ≤ 9223372036854775807 then some (.string (a ++ b)) else none
    | .eql => some (.bool (decide (a = b)))
    | .neq => some (.bool !(decide (a = b)))
    | .lss => some (.bool (Op.bytesLess a.toList b.toList))
    | .leq => some (.bool (Op.bytesLess a.toList b.toList || decide (a = b)))
    | .gtr => some (.bool !(Op.bytesLess a.toList b.toList || decide (a = b)))
    | .geq => some (.bool !(Op.bytesLess a.toList b.toList))
    | _ => none
  | _, _ => none
def pBool (op : BinOp) (a b : Bool) : Option Value :=
  match op with
  | .eql => some (.bool (a == b))
  | .neq => some (.bool !(a == b))
  | _ => none
/-! ### Structs and arrays of numbers, texts and truth values, compared -/
def leafKind (P : Program) (t : TypeId) : Option Nat := match P.underlying t with | some .bool => some 6 | some (.int _) => some 5 | some .string => some 4 | _ => none
def eqFs (P : Program) : List Field → Option (List (Nat × Nat))
  | [] => some []
  | f :: fs => match leafKind P f.type, eqFs P fs with
    | some k, some r => if f.name = "_" then none else some ((f.offset, k) :: r)
    | _, _ => none
def eqIs (c k : Nat) : List Nat → List (Nat × Nat)
  | [] => []
  | i :: is => (i * c, k) :: eqIs c k is
/-- Where the parts lie that are compared, and their kinds. -/
def eqInfo (P : Program) (t : TypeId) : Option (List (Nat × Nat)) :=
  if P.eqGuardType P.depth t = false then (match P.underlying t with
    | some (.struct fs) => if P.stoodInHeld t = false then eqFs P fs.toList else none
    | some (.array n e) => (match leafKind P e, P.info? e with
      | some k, some _ => some (eqIs (P.cellsOf e) k (List.range n))
      | _, _ => none)
    | _ => none) else none
def eqLeaf (k : Nat) (a b : AV) : Option Bool := match a, b with
  | .lit (.int q x), .lit (.int q' y) => if k = 5 ∧ q = q' then some (decide (x = y)) else none
  | .lit (.string x), .lit (.string y) => if k = 4 then some (decide (x = y)) else none
  | .lit (.bool x), .lit (.bool y) => if k = 6 then some (x == y) else none
  | _, _ => none
def eqLs (xs ys : List AV) : List (Nat × Nat) → Option Bool
  | [] => some true
  | (o, k) :: r => match (xs.drop o).head?, (ys.drop o).head? with
    | some a, some b => match eqLeaf k a b, eqLs xs ys r with
      | some x, some y => some (x && y)
      | _, _ => none
    | _, _ => none
def binA (P : Program) (op : BinOp) (t : TypeId) (x y : AV) : Option AV :=
  match x, y with
  | .lit (.bool a), .lit (.bool b) => match tinfo P t with | some ti => if ti.kind = 6 then (pBool op a b).map .lit else none | none => none
  | .lit a, .lit b => (pBin op a b).map .lit
  | .agg xs, .agg ys => match op, eqInfo P t with
    | .eql, some L => (eqLs xs ys L).map fun b => .lit (.bool b)
    | .neq, some L => (eqLs xs ys L).map fun b => .lit (.bool !b)
    | _, _ => none
  | _, _ => none
section
variable {P : Program} {w : World} {w0 : Nat} {M : Nat → Prop} {h : Hp} {p : Nat → Nat}
theorem V1.lit_inv {v u : Value} (hv : V1 w M h p (.lit v) u) : u = v := by
  cases hv with
  | base _ _ h0 => cases h0; rfl
theorem beq_text (a b : ByteArray) : (a.toList == b.toList) = decide (a = b) := by
  rw [ByteArray.toList_eq, ByteArray.toList_eq, Bool.eq_iff_iff]
  simp only [beq_iff_eq, decide_eq_true_eq]
  constructor
  · intro h
    cases a
    cases b
    congr
    exact Array.toList_inj.1 h
  · exact fun h => by rw [h]
theorem beq_int (a b : Int) : (a == b) = decide (a = b) := by
  rw [Bool.eq_iff_iff]; simp
theorem pBin_ok {op : BinOp} {a b r : Value} (hr : pBin op a b = some r) (t : TypeId) (x y : Operand) : (do eqGuard op t x y a b; binOp op t a b : Sem Value).run P w = .ok r w := by
  unfold pBin at hr
  split at hr
  · split at hr
    · rename_i k a k' b hk
      subst hk
      cases op <;> simp only [Option.some.injEq, reduceCtorEq] at hr
      all_goals try split at hr
      all_goals try (cases hr; done)
      all_goals try simp only [Option.some.injEq] at hr
      all_goals subst hr
      all_goals simp_all [eqGuard, binOp, Op.intArith, Op.intDiv, Op.intCmp, beq_int, bne]
    · cases hr
  · rename_i a b
    cases op <;> simp only [Option.some.injEq, reduceCtorEq] at hr
    all_goals try split at hr
    all_goals try (cases hr; done)
    all_goals try simp only [Option.some.injEq] at hr
    all_goals subst hr
    all_goals try (simp [eqGuard, binOp, Op.stringOp, beq_text]; done)
    rename_i hsz
    have : ¬ (IntKind.max IntKind.i64 < ((a.size + b.size : Nat) : Int)) := by show ¬ ((9223372036854775807 : Int) < _); omega
    simp only [eqGuard, binOp, Op.stringOp]
    simp
    omega
  · cases hr
theorem V1.agg_parts {cs : List AV} {u : Value} (hv : V1 w M h p (.agg cs) u) : ∃ us : List Value, u = .agg us.toArray ∧ us.length = cs.length ∧ ∀ (i : Nat) (c : AV) (v : Value), cs[i]? = some c → us[i]? = some v → V1 w M h p c v := by
  cases hv with
  | base _ _ h0 =>
    cases h0 with
    | agg _ us hl _ h => exact ⟨us, rfl, hl, fun i c v hc hu => .base _ _ (h i c v hc hu)⟩
  | agg _ us hl _ h => exact ⟨us, rfl, hl, h⟩
theorem leafKind_plain {e : TypeId} {k : Nat} (hk : leafKind P e = some k) : P.plainKey e = true := by
  unfold leafKind at hk
  unfold Program.plainKey
  split at hk <;> simp_all
theorem eqLeaf_ok {e : TypeId} {k : Nat} {a b : AV} {x y : Value} {r : Bool} (hk : leafKind P e = some k) (hr : eqLeaf k a b = some r) (hx : V1 w M h p a x) (hy : V1 w M h p b y) (d : Nat) : (Op.equalIn (d + 1) e x y).run P w = .ok r w := by
  unfold eqLeaf at hr
  split at hr
  · obtain rfl := hx.lit_inv
    obtain rfl := hy.lit_inv
    split at hr
    · rename_i hq
      obtain ⟨rfl, rfl⟩ := hq
      unfold leafKind at hk
      split at hk <;> simp at hk
      rename_i hu
      simp only [Option.some.injEq] at hr
      rw [run_equalIn_int w d e _ _ _ _ hu, ← hr, beq_int]
    · cases hr
  · obtain rfl := hx.lit_inv
    obtain rfl := hy.lit_inv
    split at hr
    · rename_i hq
      subst hq
      unfold leafKind at hk
      split at hk <;> simp at hk
      rename_i hu
      simp only [Option.some.injEq] at hr
      rw [run_equalIn_string w d e _ _ hu, ← hr, beq_text]
    · cases hr
  · obtain rfl := hx.lit_inv
    obtain rfl := hy.lit_inv
    split at hr
    · rename_i hq
      subst hq
      unfold leafKind at hk
      split at hk <;> simp at hk
      rename_i hu
      simp only [Option.some.injEq] at hr
      rw [run_equalIn_bool' w d e _ _ hu, ← hr]
    · cases hr
  · cases hr
/-- One part of each side. -/
theorem eqPart_ok {cs ds : List AV} {us vs : List Value} (hl : us.length = cs.length) (hl' : vs.length = ds.length)
    (hv : ∀ (i : Nat) (c : AV) (v : Value), cs[i]? = some c → us[i]? = some v → V1 w M h p c v) (hv' : ∀ (i : Nat) (c : AV) (v : Value), ds[i]? = some c → vs[i]? = some v → V1 w M h p c v)
    {e : TypeId} {k o : Nat} {a b : AV} {r : Bool} (hk : leafKind P e = some k) (ha : (cs.drop o).head? = some a) (hb : (ds.drop o).head? = some b) (hr : eqLeaf k a b = some r) (d : Nat) :
    ∃ x y, (part e us.toArray o).run P w = .ok x w ∧ (part e vs.toArray o).run P w = .ok y w ∧ (Op.equalIn (d + 1) e x y).run P w = .ok r w := by
  rw [List.head?_drop] at ha hb
  have h1 : o < us.length := by rw [hl]; exact (List.getElem?_eq_some_iff.1 ha).1
  have h2 : o < vs.length := by rw [hl']; exact (List.getElem?_eq_some_iff.1 hb).1
  exact ⟨us[o], vs[o], run_part_plain w (leafKind_plain hk) (by simp [h1]), run_part_plain w (leafKind_plain hk) (by simp [h2]),
    eqLeaf_ok hk hr (hv o _ _ ha (List.getElem?_eq_getElem h1)) (hv' o _ _ hb (List.getElem?_eq_getElem h2)) d⟩
theorem eqFs_ok {cs ds : List AV} {us vs : List Value} (hl : us.length = cs.length) (hl' : vs.length = ds.length)
    (hv : ∀ (i : Nat) (c : AV) (v : Value), cs[i]? = some c → us[i]? = some v → V1 w M h p c v) (hv' : ∀ (i : Nat) (c : AV) (v : Value), ds[i]? = some c → vs[i]? = some v → V1 w M h p c v) (d : Nat) :
    ∀ (fs : List Field) (L : List (Nat × Nat)) (r : Bool), eqFs P fs = some L → eqLs cs ds L = some r → (Op.eqFields (d + 1) us.toArray vs.toArray fs).run P w = .ok r w
  | [], L, r, hL, hr => by
    simp only [eqFs, Option.some.injEq] at hL
    subst hL
    simp only [eqLs, Option.some.injEq] at hr
    subst hr
    simp [Op.eqFields]
  | f :: fs, L, r, hL, hr => by
    unfold eqFs at hL
    split at hL
    · rename_i k r' hk hfs
      split at hL
      · cases hL
      · rename_i hn
        simp only [Option.some.injEq] at hL
        subst hL
        unfold eqLs at hr
        split at hr
        · rename_i a b ha hb
          split at hr
          · rename_i x y hx hy
            simp only [Option.some.injEq] at hr
            obtain ⟨u, v, p1, p2, p3⟩ := eqPart_ok hl hl' hv hv' hk ha hb hx d
            have ih := eqFs_ok hl hl' hv hv' d fs r' y hfs hy
            simp only [Op.eqFields, if_pos (show f.name ≠ "_" from hn), Sem.run_bind, p1, p2, p3, Result.andThen_ok]
            cases x
            · subst hr; simp
            · subst hr; simpa using ih
          · cases hr
        · cases hr
    · cases hL
theorem eqIs_ok {cs ds : List AV} {us vs : List Value} (hl : us.length = cs.length) (hl' : vs.length = ds.length)
    (hv : ∀ (i : Nat) (c : AV) (v : Value), cs[i]? = some c → us[i]? = some v → V1 w M h p c v) (hv' : ∀ (i : Nat) (c : AV) (v : Value), ds[i]? = some c → vs[i]? = some v → V1 w M h p c v) (d : Nat) {e : TypeId} {k c : Nat} (hk : leafKind P e = some k) :
    ∀ (is : List Nat) (r : Bool), eqLs cs ds (eqIs c k is) = some r → (Op.eqItems (d + 1) e c us.toArray vs.toArray is).run P w = .ok r w
  | [], r, hr => by
    simp only [eqIs, eqLs, Option.some.injEq] at hr
    subst hr
    simp [Op.eqItems]
  | i :: is, r, hr => by
    unfold eqIs eqLs at hr
    split at hr
    · rename_i a b ha hb
      split at hr
      · rename_i x y hx hy
        simp only [Option.some.injEq] at hr
        obtain ⟨u, v, p1, p2, p3⟩ := eqPart_ok hl hl' hv hv' hk ha hb hx d
        have ih := eqIs_ok hl hl' hv hv' d hk is y hy
        simp only [Op.eqItems, Sem.run_bind, p1, p2, p3, Result.andThen_ok]
        cases x
        · subst hr; simp
        · subst hr; simpa using ih
      · cases hr
    · cases hr
theorem eqInfo_ok {t : TypeId} {L : List (Nat × Nat)} {cs ds : List AV} {us vs : List Value} {r : Bool} (hL : eqInfo P t = some L) (hl : us.length = cs.length) (hl' : vs.length = ds.length)
    (hv : ∀ (i : Nat) (c : AV) (v : Value), cs[i]? = some c → us[i]? = some v → V1 w M h p c v) (hv' : ∀ (i : Nat) (c : AV) (v : Value), ds[i]? = some c → vs[i]? = some v → V1 w M h p c v) (hr : eqLs cs ds L = some r) :
    P.eqGuardType P.depth t = false ∧ (Op.equalIn 10000 t (.agg us.toArray) (.agg vs.toArray)).run P w = .ok r w := by
  unfold eqInfo at hL
  split at hL
  · rename_i hg
    refine ⟨hg, ?_⟩
    split at hL
    · rename_i fs hu
      split at hL
      · rename_i hs
        have hf : P.fieldsOf t = fs := by simp [Program.fieldsOf, hu]
        rw [show (10000 : Nat) = 9998 + 1 + 1 from rfl, run_equalIn_struct w _ t _ _ (by rw [hf]; exact hu) hs, hf]
        exact eqFs_ok hl hl' hv hv' _ _ _ _ hL hr
      · cases hL
    · rename_i n e hu
      split at hL
      · rename_i k i hk hi
        simp only [Option.some.injEq] at hL
        subst hL
        rw [show (10000 : Nat) = 9998 + 1 + 1 from rfl, run_equalIn_array w _ _ _ hu hi]
        exact eqIs_ok hl hl' hv hv' _ hk _ _ hr
      · cases hL
    · cases hL
  · cases hL
theorem bin_ok {op : BinOp} {t : TypeId} {x y r : AV} {a b : Value} (hx : V1 w M h p x a) (hy : V1 w M h p y b) (hr : binA P op t x y = some r) (ox oy : Operand) :
    ∃ u, (do eqGuard op t ox oy a b; binOp op t a b : Sem Value).run P w = .ok u w ∧ V1 w M h p r u := by
  unfold binA at hr
  split at hr
  · rename_i c d
    obtain rfl := hx.lit_inv
    obtain rfl := hy.lit_inv
    split at hr
    · rename_i ti hti
      split at hr
      · rename_i hk
        obtain ⟨v, hv, rfl⟩ := Option.map_eq_some_iff.1 hr
        refine ⟨v, ?_, .base _ _ (.lit v)⟩
        obtain ⟨dd, i, z, hd, hi, hz, h1z, rfl⟩ := tinfo_spec hti
        cases dd <;> simp [dkind] at hk
        unfold pBool at hv
        cases op <;> simp at hv
        all_goals subst hv
        · have := run_eql_bool (P := P) w t c d hd
          simp [eqGuard, this]
        · have := run_neq_bool (P := P) w t c d hd
          simp [eqGuard, this]
      · cases hr
    · cases hr
  · obtain rfl := hx.lit_inv
    obtain rfl := hy.lit_inv
    obtain ⟨v, hv, rfl⟩ := Option.map_eq_some_iff.1 hr
    exact ⟨v, pBin_ok hv _ _ _, .base _ _ (.lit v)⟩
  · rename_i xs ys
    obtain ⟨us, rfl, hl, hv⟩ := hx.agg_parts
    obtain ⟨vs, rfl, hl', hv'⟩ := hy.agg_parts
    split at hr
    · rename_i L hL
      obtain ⟨b, hb, rfl⟩ := Option.map_eq_some_iff.1 hr
      obtain ⟨hg, he⟩ := eqInfo_ok hL hl hl' hv hv' hb
      refine ⟨.bool b, ?_, .base _ _ (.lit _)⟩
      simp only [Sem.run_bind, run_eqGuard_agg w _ t ox oy _ _ hg, Result.andThen_ok, run_eql_struct, he]
    · rename_i L hL
      obtain ⟨b, hb, rfl⟩ := Option.map_eq_some_iff.1 hr
      obtain ⟨hg, he⟩ := eqInfo_ok hL hl hl' hv hv' hb
      refine ⟨.bool !b, ?_, .base _ _ (.lit _)⟩
      simp only [Sem.run_bind, run_eqGuard_agg w _ t ox oy _ _ hg, Result.andThen_ok, run_neq_struct, he]
    · cases hr
  · cases hr
def unA (op : UnOp) (x : AV) : Option AV :=
  match op, x with
  | .not, .lit (.bool b) => some (.lit (.bool !b))
  | .neg, .lit (.int k n) => some (.lit (.int k (k.wrap (0 - n))))
  | _, _ => none
theorem un_ok {op : UnOp} {x r : AV} {a : Value} (hx : V1 w M h p x a) (hr : unA op x = some r) : ∃ u, (Op.unary op a).run P w = .ok u w ∧ V1 w M h p r u := by
  unfold unA at hr
  split at hr
  · obtain rfl := hx.lit_inv
    simp only [Option.some.injEq] at hr
    subst hr
    exact ⟨_, rfl, .base _ _ (.lit _)⟩
  · obtain rfl := hx.lit_inv
    simp only [Option.some.injEq] at hr
    subst hr
    exact ⟨_, rfl, .base _ _ (.lit _)⟩
  · cases hr
def convA (P : Program) (s d : TypeId) (x : AV) : Option AV :=
  match tinfo P s, tinfo P d with
  | some _, some td =>
    match x with
    | .lit (.int _ n) => if td.kind = 5 then some (.lit (.int td.ik (td.ik.wrap n))) else none
    | .lit (.string v) => if td.kind = 4 then some (.lit (.string v)) else none
    | _ => none
  | _, _ => none
theorem conv_ok {s d : TypeId} {x r : AV} {a : Value} (hx : V1 w M h p x a) (hr : convA P s d x = some r) : ∃ u, (convert s d a).run P w = .ok u w ∧ V1 w M h p r u := by
  unfold convA at hr
  split at hr
  · rename_i ts td hs hd
    obtain ⟨ds, i, z, hus, _⟩ := tinfo_spec hs
    split at hr
    · obtain rfl := hx.lit_inv
      split at hr
      · rename_i hk
        simp only [Option.some.injEq] at hr
        subst hr
        refine ⟨_, ?_, .base _ _ (.lit _)⟩
        simp [convert, run_underlying hus, run_underlying (ti_int hd hk), Conv.intToInt]
      · cases hr
    · obtain rfl := hx.lit_inv
      split at hr
      · rename_i hk
        simp only [Option.some.injEq] at hr
        subst hr
        refine ⟨_, ?_, .base _ _ (.lit _)⟩
        simp [convert, run_underlying hus, run_underlying (ti_string hd hk)]
      · cases hr
    · cases hr
  · cases hr

/-! ### Addresses and parts -/
def faddrA (P : Program) (t : TypeId) (x : AV) (f : Nat) : Option AV :=
  match tinfo P t with
  | none => none
  | some ti =>
    if ti.kind = 3 then
      match ti.flds[f]? with
      | none => none
      | some (o, s, _) =>
        if s = 0 then none else
        match x with
        | .vp cs => some (.vp (cs.drop o))
        | .ref id q => some (.ref id (q + o))
        | .aref id sz i q => some (.aref id sz i (q + o))
        | _ => none
    else none
theorem add_plain' (b o j : Nat) : (⟨b, o, none⟩ : Addr).add j = ⟨b, o + j, none⟩ := add_plain b o j
theorem V0.drop {cs : List AV} {b o : Nat} (hv : V0 w M (.vp cs) (.pointer (some ⟨b, o, none⟩))) (n : Nat) : V0 w M (.vp (cs.drop n)) (.pointer (some ⟨b, o + n, none⟩)) := by
  cases hv with
  | vp _ _ _ u hb hM h1 hc hv =>
    refine .vp _ b (o + n) (fun j => u (n + j)) hb hM (fun c hc => h1 c (List.mem_of_mem_drop hc)) (fun j hj => ?_) fun j c hj => ?_
    · rw [Nat.add_assoc]
      exact hc (n + j) (by simp only [List.length_drop] at hj; omega)
    · rw [List.getElem?_drop] at hj
      exact hv (n + j) c hj
theorem V1.vp_inv {cs : List AV} {u : Value} (hv : V1 w M h p (.vp cs) u) : V0 w M (.vp cs) u ∧ ∃ b o, u = .pointer (some ⟨b, o, none⟩) := by
  cases hv with
  | base _ _ h0 => exact ⟨h0, by cases h0; exact ⟨_, _, rfl⟩⟩
theorem V1.ref_inv {id off : Nat} {u : Value} (hv : V1 w M h p (.ref id off) u) : u = .pointer (some ⟨p id, off, none⟩) ∧ id < h.length := by
  cases hv with
  | base _ _ h0 => cases h0
  | ref _ _ hid => exact ⟨rfl, hid⟩
theorem V1.aref_inv {id sz i off : Nat} {u : Value} (hv : V1 w M h p (.aref id sz i off) u) : u = .pointer (some ⟨p id, i * sz + off, none⟩) ∧ id < h.length := by
  cases hv with
  | base _ _ h0 => cases h0
  | aref _ _ _ _ hid => exact ⟨rfl, hid⟩
theorem faddr_ok {t : TypeId} {x r : AV} {f : Nat} {a : Value} (hx : V1 w M h p x a) (hr : faddrA P t x f = some r) : ∃ u, (Instr.fieldAt t a f).run P w = .ok u w ∧ V1 w M h p r u := by
  unfold faddrA at hr
  split at hr
  · cases hr
  · rename_i ti hti
    split at hr
    · rename_i hk
      split at hr
      · cases hr
      · rename_i o s g hf
        split at hr
        · cases hr
        · rename_i hs
          obtain ⟨fs, hu, hfl⟩ := ti_struct hti hk
          rw [hfl, List.getElem?_map] at hf
          obtain ⟨fd, hfd, heq⟩ := Option.map_eq_some_iff.1 hf
          simp only [Prod.mk.injEq] at heq
          obtain ⟨rfl, rfl, rfl⟩ := heq
          have hfd' : fs[f]? = some fd := by simpa using hfd
          have key : ∀ b q, (Instr.fieldAt t (.pointer (some ⟨b, q, none⟩)) f).run P w = .ok (.pointer (some ⟨b, q + fd.offset, none⟩)) w := by
            intro b q
            simp only [Instr.fieldAt, Sem.run_bind, run_underlying hu, Result.andThen_ok, hfd', Instr.sureAddr, Sem.run_pure, fieldPlace, run_size (Nat.pos_of_ne_zero hs), hs, if_false, add_plain]
          split at hr
          · obtain ⟨h0, b, q, rfl⟩ := hx.vp_inv
            simp only [Option.some.injEq] at hr
            subst hr
            exact ⟨_, key b q, .base _ _ (h0.drop _)⟩
          · obtain ⟨rfl, hid⟩ := hx.ref_inv
            simp only [Option.some.injEq] at hr
            subst hr
            exact ⟨_, key _ _, .ref _ _ hid⟩
          · obtain ⟨rfl, hid⟩ := hx.aref_inv
            simp only [Option.some.injEq] at hr
            subst hr
            refine ⟨_, key _ _, ?_⟩
            rw [Nat.add_assoc]
            exact .aref _ _ _ _ hid
          · cases hr
    · cases hr
/-- A part of a struct or an array. -/
def partA (cs : List AV) (o s : Nat) (ag : Bool) : Option AV := if ag then (if o + s ≤ cs.length then some (.agg ((cs.drop o).take s)) else none) else cs[o]?
theorem V1.agg_inv {cs : List AV} {u : Value} (hv : V1 w M h p (.agg cs) u) : ∃ us : List Value, u = .agg us.toArray ∧ us.length = cs.length ∧ (∀ c ∈ cs, oneAV c = true) ∧ ∀ (i : Nat) (c : AV) (u : Value), cs[i]? = some c → us[i]? = some u → V1 w M h p c u := by
  cases hv with
  | base _ _ h0 =>
    cases h0 with
    | agg _ us hl h1 hv => exact ⟨us, rfl, hl, h1, fun i c u hc hu => .base _ _ (hv i c u hc hu)⟩
  | agg _ us hl h1 hv => exact ⟨us, rfl, hl, h1, hv⟩
theorem V1.tup_inv {cs : List AV} {u : Value} (hv : V1 w M h p (.tup cs) u) : ∃ us : List Value, u = .tuple us.toArray ∧ us.length = cs.length ∧ ∀ (i : Nat) (c : AV) (u : Value), cs[i]? = some c → us[i]? = some u → V1 w M h p c u := by
  cases hv with
  | base _ _ h0 =>
    cases h0 with
    | tup _ us hl hv => exact ⟨us, rfl, hl, fun i c u hc hu => .base _ _ (hv i c u hc hu)⟩
  | tup _ us hl hv => exact ⟨us, rfl, hl, hv⟩
theorem part_ok {t : TypeId} {cs : List AV} {us : List Value} {o : Nat} {r : AV} (ht : (P.underlying t).isSome = true) (hs : 0 < tsize P t) (hl : us.length = cs.length) (h1 : ∀ c ∈ cs, oneAV c = true)
    (hv : ∀ (i : Nat) (c : AV) (u : Value), cs[i]? = some c → us[i]? = some u → V1 w M h p c u) (hr : partA cs o (tsize P t) (tagg P t) = some r) : ∃ u, (part t us.toArray o).run P w = .ok u w ∧ V1 w M h p r u := by
  unfold partA at hr
  simp only [part, Sem.run_bind, run_agg ht, Result.andThen_ok]
  split at hr
  · rename_i hg
    split at hr
    · rename_i hle
      simp only [Option.some.injEq] at hr
      subst hr
      refine ⟨.agg ((us.drop o).take (tsize P t)).toArray, ?_, .agg _ _ (by simp [hl]) (fun c hc => h1 c (List.mem_of_mem_drop (List.mem_of_mem_take hc))) fun i c u hc hu => ?_⟩
      · simp only [hg, if_true, Sem.run_bind, run_size hs, Result.andThen_ok, Sem.run_pure]
        congr 2
        apply Array.ext'
        simp [List.take_drop]
      · rw [List.getElem?_take] at hc hu
        split at hc
        · rename_i hi
          rw [if_pos hi] at hu
          rw [List.getElem?_drop] at hc hu
          exact hv _ c u hc hu
        · cases hc
    · cases hr
  · rename_i hg
    have ho : o < us.length := by rw [hl]; exact (List.getElem?_eq_some_iff.1 hr).1
    refine ⟨us[o], ?_, hv o r _ hr (List.getElem?_eq_getElem ho)⟩
    simp [hg, ho]
def fieldA (P : Program) (t : TypeId) (x : AV) (f : Nat) : Option AV :=
  match tinfo P t with
  | none => none
  | some ti =>
    if ti.kind = 3 then
      match ti.flds[f]? with
      | none => none
      | some (o, s, g) => if s = 0 then none else match x with | .agg cs => partA cs o s g | _ => none
    else none
theorem field_ok {t : TypeId} {x r : AV} {f : Nat} {a : Value} (hx : V1 w M h p x a) (hr : fieldA P t x f = some r) : ∃ u, (Instr.field t a f).run P w = .ok u w ∧ V1 w M h p r u := by
  unfold fieldA at hr
  split at hr
  · cases hr
  · rename_i ti hti
    split at hr
    · rename_i hk
      split at hr
      · cases hr
      · rename_i o s g hf
        split at hr
        · cases hr
        · rename_i hs
          obtain ⟨fs, hu, hfl⟩ := ti_struct hti hk
          rw [hfl, List.getElem?_map] at hf
          obtain ⟨fd, hfd, heq⟩ := Option.map_eq_some_iff.1 hf
          simp only [Prod.mk.injEq] at heq
          obtain ⟨rfl, rfl, rfl⟩ := heq
          have hfd' : fs[f]? = some fd := by simpa using hfd
          split at hr
          · obtain ⟨us, rfl, hl, h1, hv⟩ := hx.agg_inv
            obtain ⟨u, hrun, hu'⟩ := part_ok (w := w) (P := P) (tsize_some (Nat.pos_of_ne_zero hs)) (Nat.pos_of_ne_zero hs) hl h1 hv hr
            refine ⟨u, ?_, hu'⟩
            simp only [Instr.field, Sem.run_bind, run_underlying hu, Result.andThen_ok, hfd', asAgg, Sem.run_pure]
            exact hrun
          · cases hr
    · cases hr
def iaddrA (P : Program) (h : Hp) (t : TypeId) (x i : AV) : Option AV :=
  match tinfo P t, i with
  | some ti, .lit (.int _ n) =>
    if ti.esz = 0 then none
    else if ti.kind = 1 then
      match x with
      | .sl sz es => if 0 ≤ n ∧ n.toNat < es.length ∧ sz = ti.esz then some (.vp (es.getD n.toNat [])) else none
      | .osl id => match h[id]? with | some (some (.arr _ sz _ es)) => if 0 ≤ n ∧ n.toNat < es.length ∧ sz = ti.esz then some (.aref id sz n.toNat 0) else none | _ => none
      | _ => none
    else if ti.kind = 2 then
      if 0 ≤ n ∧ n.toNat < ti.len then
        match x with
        | .vp cs => some (.vp (cs.drop (n.toNat * ti.esz)))
        | .ref id q => some (.ref id (q + n.toNat * ti.esz))
        | .aref id sz k q => some (.aref id sz k (q + n.toNat * ti.esz))
        | _ => none
      else none
    else none
  | _, _ => none
theorem V1.osl_inv {id : Nat} {u : Value} (hv : V1 w M h p (.osl id) u) : ∃ A n c, u = .slice A n c ∧ id < h.length ∧ ∀ e sz nl es, h[id]? = some (some (.arr e sz nl es)) → Osl w (p id) e sz nl es.length u := by
  cases hv with
  | base _ _ h0 => cases h0
  | osl _ A n c hid hv => exact ⟨A, n, c, rfl, hid, hv⟩
theorem V1.sl_inv {sz : Nat} {es : List (List AV)} {u : Value} (hv : V1 w M h p (.sl sz es) u) : V0 w M (.sl sz es) u := by
  cases hv with
  | base _ _ h0 => exact h0
theorem iaddr_ok (hO : ∀ id ob, h[id]? = some (some ob) → ObOK w0 w M h p id ob) {t : TypeId} {x i r : AV} {a b : Value} (hx : V1 w M h p x a) (hi : V1 w M h p i b) (hr : iaddrA P h t x i = some r) :
    ∃ u, (Instr.indexAt t a b).run P w = .ok u w ∧ V1 w M h p r u := by
  unfold iaddrA at hr
  split at hr
  · rename_i ti k n hti
    obtain rfl := hi.lit_inv
    split at hr
    · cases hr
    · rename_i hez
      have hez' : ti.esz = tsize P ti.elem := by obtain ⟨d, i, z, hd, hi, hz, h1z, rfl⟩ := tinfo_spec hti; rfl
      have hpos : 0 < tsize P ti.elem := by omega
      split at hr
      · rename_i hk
        have hu := ti_slice hti hk
        split at hr
        · rename_i sz es
          split at hr
          · rename_i hc
            simp only [Option.some.injEq] at hr
            subst hr
            obtain ⟨h0, h1, rfl⟩ := hc
            have hv := hx.sl_inv
            cases hv with
            | slNil => simp at h1
            | sl _ _ cap b o u hne hb hM hcap hsz hone hcell hvv =>
              have hx' : es[n.toNat]? = some (es.getD n.toNat []) := by simp [List.getD, h1]
              have hszz := hsz _ _ hx'
              refine ⟨.pointer (some ⟨b, o + n.toNat * ti.esz, none⟩), ?_, .base _ _ (.vp _ b _ (fun j => u n.toNat j) hb hM (fun c hc => ?_) (fun j hj => ?_) fun j c hj => hvv _ _ _ _ hx' hj)⟩
              · have hlt : 0 ≤ n ∧ n < (es.length : Int) := by omega
                simp [Instr.indexAt, run_underlying hu, asIntOf, hlt, run_size hpos, add_plain, hez']
              · obtain ⟨j, hj⟩ := List.mem_iff_getElem?.1 hc
                exact hone _ _ _ _ hx' hj
              · exact hcell _ _ h1 (by omega)
          · cases hr
        · rename_i id
          split at hr
          · rename_i e sz nl es hid
            split at hr
            · rename_i hc
              obtain ⟨h0, h1, rfl⟩ := hc
              simp only [Option.some.injEq] at hr
              subst hr
              obtain ⟨A, m, c, rfl, hidl, hv⟩ := hx.osl_inv
              have ho := hv _ _ _ _ hid
              obtain ⟨hsz, _, hrest⟩ := hO id _ hid
              have hnl : nl ≠ true := fun hn => by rw [if_pos hn] at hrest; subst hrest; simp at h1
              unfold Osl at ho
              rw [if_neg hnl] at ho
              obtain ⟨cap, cur, heq, _⟩ := ho
              injection heq with h1' h2' h3'
              subst h1' h2' h3'
              refine ⟨_, ?_, .aref id ti.esz n.toNat 0 hidl⟩
              have hlt : 0 ≤ n ∧ n < (es.length : Int) := by omega
              simp [Instr.indexAt, run_underlying hu, asIntOf, hlt, run_size hpos, add_plain, hez']
            · cases hr
          · cases hr
        · cases hr
      · split at hr
        · rename_i hk
          have hu := ti_array hti hk
          split at hr
          · rename_i hc
            have hlt : 0 ≤ n ∧ n < (ti.len : Int) := by omega
            have key : ∀ b q, (Instr.indexAt t (.pointer (some ⟨b, q, none⟩)) (.int k n)).run P w = .ok (.pointer (some ⟨b, q + n.toNat * ti.esz, none⟩)) w := by
              intro b q
              simp [Instr.indexAt, run_underlying hu, asIntOf, Instr.sureAddr, hlt, run_size hpos, add_plain, hez']
            split at hr
            · obtain ⟨h0, b, q, rfl⟩ := hx.vp_inv
              simp only [Option.some.injEq] at hr
              subst hr
              exact ⟨_, key b q, .base _ _ (h0.drop _)⟩
            · obtain ⟨rfl, hid⟩ := hx.ref_inv
              simp only [Option.some.injEq] at hr
              subst hr
              exact ⟨_, key _ _, .ref _ _ hid⟩
            · obtain ⟨rfl, hid⟩ := hx.aref_inv
              simp only [Option.some.injEq] at hr
              subst hr
              refine ⟨_, key _ _, ?_⟩
              rw [Nat.add_assoc]
              exact .aref _ _ _ _ hid
            · cases hr
          · cases hr
        · cases hr
  · cases hr
def indexA (P : Program) (t : TypeId) (x i : AV) : Option AV :=
  match tinfo P t, x, i with
  | some ti, .lit (.string s), .lit (.int _ n) => if ti.kind = 4 ∧ 0 ≤ n ∧ n.toNat < s.size then some (.lit (.int .u8 (byteAt s n.toNat).toNat)) else none
  | some ti, .agg cs, .lit (.int _ n) => if ti.kind = 2 ∧ 0 ≤ n ∧ n.toNat < ti.len ∧ ti.esz ≠ 0 then partA cs (n.toNat * ti.esz) ti.esz (tagg P ti.elem) else none
  | _, _, _ => none
theorem index_ok {t : TypeId} {x i r : AV} {a b : Value} (hx : V1 w M h p x a) (hi : V1 w M h p i b) (hr : indexA P t x i = some r) : ∃ u, (Instr.index t a b).run P w = .ok u w ∧ V1 w M h p r u := by
  unfold indexA at hr
  split at hr
  · rename_i ti s k n hti
    obtain rfl := hx.lit_inv
    obtain rfl := hi.lit_inv
    split at hr
    · rename_i hc
      obtain ⟨hk, h0, h1⟩ := hc
      simp only [Option.some.injEq] at hr
      subst hr
      refine ⟨_, ?_, .base _ _ (.lit _)⟩
      simp [Instr.index, asIntOf, run_underlying (ti_string hti hk), h0, h1, byteAt_get h1]
    · cases hr
  · rename_i ti cs k n hti
    obtain rfl := hi.lit_inv
    split at hr
    · rename_i hc
      obtain ⟨hk, h0, h1, h2⟩ := hc
      have hez' : ti.esz = tsize P ti.elem := by obtain ⟨d, i, z, hd, hi, hz, h1z, rfl⟩ := tinfo_spec hti; rfl
      have hpos : 0 < tsize P ti.elem := by omega
      obtain ⟨us, rfl, hl, hone, hv⟩ := hx.agg_inv
      rw [hez'] at hr
      obtain ⟨u, hrun, hu'⟩ := part_ok (w := w) (P := P) (tsize_some hpos) hpos hl hone hv hr
      refine ⟨u, ?_, hu'⟩
      have hlt : 0 ≤ n ∧ n < (ti.len : Int) := by omega
      simp [Instr.index, asIntOf, run_underlying (ti_array hti hk), hlt, run_size hpos, hrun]
    · cases hr
  · cases hr
end
end Go.Proofs.Ytmfmpagfjgpodaa
