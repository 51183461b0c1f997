/- Calls, told by plain values, and statements whose order of operations is left open: of every program; no condition. -/
import Derived.Test.YtmfmpagfjgpodaaVG
namespace Go.Proofs.Ytmfmpagfjgpodaa
open Go.RowKit

/-! ### A region that draws its order, all of whose operations are told by what they give -/
section
variable {P : Program} {ops : Array Oper}
def Region.allB (ops : Array Oper) : Bool :=
  Region.noSelect ops && distB ops.toList &&
  (List.range ops.size).all (fun i => match ops[i]? with
    | some o => (o.looksAt ops).all (fun t => (List.range ops.size).all fun j => ((ops[j]?).bind (·.dst)) != some t || Region.waitsFor .any ops i j) && o.after.all (fun e => !Region.binds .any e || decide (e.on < i))
    | none => false)
structure AllInv (ops : Array Oper) (w0 : World) (a0 : Act) (S : Nat → Value → World → Prop) (listed : Array Bool) (vs : Nat → Value) (a : Act) (w : World) : Prop where
  size : listed.size = ops.size
  frame : a = fill (fun i => listed.getD i false) vs ops.toList 0 a0
  world : Below w0.heap.size w0 w
  vals : ∀ i, i < ops.size → listed.getD i false = true → S i (vs i) w
theorem wpAny_of_all {Q : Exit → Act → World → Prop} {w0 : World} {a0 : Act} {S : Nat → Value → World → Prop} (hB : Region.allB ops = true)
    (hst : ∀ i, i < ops.size → ∀ v w w', S i v w → Below w.heap.size w w' → S i v w')
    (hop : ∀ i, i < ops.size → specOp P ops w0 a0 ops.size S i)
    (hend : ∀ vs w, Below w0.heap.size w0 w → (∀ i, i < ops.size → S i (vs i) w) → Q .normal (fill (fun _ => true) vs ops.toList 0 a0) w) :
    ∀ (F : Nat) (listed : Array Bool) (vs : Nat → Value) (a : Act) (w : World), AllInv ops w0 a0 S listed vs a w → listed.toList.count false = F → wpAny P .any ops Q F listed a w := by
  simp only [Region.allB, Bool.and_eq_true] at hB
  obtain ⟨⟨hsel, hd⟩, hlook⟩ := hB
  have hlk : ∀ i, i < ops.size → ∀ o, ops[i]? = some o → (∀ t ∈ o.looksAt ops, ∀ j, j < ops.size → ∀ p, ops[j]? = some p → p.dst = some t → Region.waitsFor .any ops i j = true) ∧ (∀ e ∈ o.after, Region.binds .any e = true → e.on < i) := by
    intro i hi o ho
    have h := List.all_eq_true.1 hlook i (List.mem_range.2 hi)
    simp only [ho, Bool.and_eq_true] at h
    refine ⟨fun t ht j hj p hp hpd => ?_, fun e he hb => ?_⟩
    · have h1 := List.all_eq_true.1 (List.all_eq_true.1 h.1 t ht) j (List.mem_range.2 hj)
      simp only [hp, Option.bind_some, hpd, bne_self_eq_false, Bool.false_or] at h1
      exact h1
    · have h1 := Array.all_eq_true'.1 h.2 e he
      simp only [hb, Bool.not_true, Bool.false_or, decide_eq_true_eq] at h1
      exact h1
  have hfin : ∀ (listed : Array Bool) (vs : Nat → Value) (a : Act) (w : World), AllInv ops w0 a0 S listed vs a w → (∀ i, i < ops.size → listed.getD i false = true) → Q .normal a w := by
    intro listed vs a w inv hall
    rw [inv.frame]
    have hfc : fill (fun i => listed.getD i false) vs ops.toList 0 a0 = fill (fun _ => true) vs ops.toList 0 a0 :=
      fill_congr _ 0 _ fun i _ hi => ⟨hall i (by simpa using hi), rfl⟩
    rw [hfc]
    exact hend vs w inv.world fun i hi => inv.vals i hi (hall i hi)
  intro F
  induction F with
  | zero =>
    intro listed vs a w inv hcount
    have hnot : ∀ i, i < ops.size → listed.getD i false = true := by
      intro i hi
      have hi' : i < listed.toList.length := by rw [Array.length_toList, inv.size]; exact hi
      have hm : listed.toList[i] ≠ false := fun h => by
        have : false ∈ listed.toList := by rw [← h]; exact List.getElem_mem hi'
        exact absurd (List.count_pos_iff.2 this) (by omega)
      simp only [Array.getElem_toList] at hm
      simp [inv.size, hi, hm]
    refine ⟨?_, hfin _ _ _ _ inv hnot⟩
    cases hr : Region.ready .any ops listed with
    | nil => rfl
    | cons i r =>
      have hi : i ∈ Region.ready .any ops listed := by rw [hr]; exact List.mem_cons_self ..
      obtain ⟨hiu, o, ho, _⟩ := mem_ready.1 hi
      have hlt := (Array.getElem?_eq_some_iff.1 ho).1
      have := hnot i hlt
      rw [getD_both hiu] at this
      cases this
  | succ F ih =>
    intro listed vs a w inv hcount
    have hex : ∃ i, i < ops.size ∧ listed.getD i true = false := by
      have hpos : false ∈ listed.toList := List.count_pos_iff.1 (by omega)
      obtain ⟨i, hi, he⟩ := List.mem_iff_getElem.1 hpos
      rw [Array.length_toList] at hi
      exact ⟨i, by rw [← inv.size]; exact hi, by simpa [hi] using he⟩
    have hmin : ∃ i, (i < ops.size ∧ listed.getD i true = false) ∧ ∀ j, j < i → ¬ (j < ops.size ∧ listed.getD j true = false) := by
      obtain ⟨i, hi⟩ := hex
      induction i using Nat.strongRecOn with
      | _ i ih2 =>
        by_cases h : ∃ j, j < i ∧ j < ops.size ∧ listed.getD j true = false
        · obtain ⟨j, hj, hj2⟩ := h
          exact ih2 j hj hj2
        · exact ⟨i, hi, fun j hj hh => h ⟨j, hj, hh⟩⟩
    obtain ⟨m, ⟨hmn, hmu⟩, hmm⟩ := hmin
    have hready : m ∈ Region.ready .any ops listed := by
      obtain ⟨o, ho⟩ : ∃ o, ops[m]? = some o := ⟨ops[m]'(by omega), by simp⟩
      refine mem_ready.2 ⟨hmu, o, ho, fun e he hb => ?_⟩
      have hlt := (hlk m hmn o ho).2 e he hb
      have hl := hmm e.on hlt
      have hsz : e.on < listed.size := by rw [inv.size]; omega
      cases hv : listed.getD e.on false with
      | true => rfl
      | false => exact absurd ⟨by omega, getD_in hsz hv⟩ hl
    refine ⟨fun h => (by rw [h] at hready; cases hready), fun i hi => ?_⟩
    obtain ⟨hiu, o, ho, hdone⟩ := mem_ready.1 hi
    have hin : i < ops.size := (Array.getElem?_eq_some_iff.1 ho).1
    have hisz : i < listed.size := by rw [inv.size]; omega
    have hwait : ∀ j, Region.waitsFor .any ops i j = true → listed.getD j false = true := by
      intro j hj
      obtain ⟨o', ho', e, he, hb, hon⟩ := Region.waitsFor_spec hj
      have : o' = o := Option.some.inj (ho'.symm.trans ho)
      subst this
      rw [← hon]
      exact hdone e he hb
    have hsame := fill_same (ops := ops) (listed := fun i => listed.getD i false) (vs := vs) (o := o) (fun cs b => Region.noSelect_spec hsel i o cs b ho) ops.toList 0 a0 hd (by
      intro j p hp hl d hpd hdl
      have hjn : j < ops.size := by simpa using (List.getElem?_eq_some_iff.1 hp).1
      have hpj : ops[j]? = some p := by simpa using hp
      have := hwait j ((hlk i hin o ho).1 d hdl j hjn p hpj hpd)
      rw [Nat.zero_add] at hl
      rw [this] at hl
      cases hl)
    have hso := hop i hin o ho vs w inv.world (fun j hj hw => inv.vals j hj (hwait j hw))
    rw [List.take_of_length_le (show ops.toList.length ≤ ops.size by simp)] at hso
    have hnext : ∀ v w', S i v w' → Below w.heap.size w w' → wpAny P .any ops Q F (listed.setIfInBounds i true) (a.put o.dst v) w' := by
      intro v w' hv hb
      refine ih (listed.setIfInBounds i true) (fun j => if j = i then v else vs j) _ w' ⟨by simpa using inv.size, ?_, below_step inv.world hb, ?_⟩ ?_
      · rw [inv.frame]
        refine fill_set (i := i) (fun j hj => ⟨getD_set_ne false (Ne.symm hj), by simp [hj]⟩) (getD_both hiu) ⟨?_, by simp⟩ _ 0 _ hd (Nat.zero_le _) ?_
        · simp [hisz]
        · simpa using ho
      · intro j hj hl
        by_cases hji : j = i
        · subst hji
          simpa using hv
        · simp only [hji, if_false]
          rw [getD_set_ne false (Ne.symm hji)] at hl
          exact hst j hj _ _ _ (inv.vals j hj hl) hb
      · have h1 : listed.toList[i]? = some false := by
          have : listed[i] = false := by simpa [hisz] using hiu
          simp [hisz, this]
        have h2 := count_set_true h1
        rw [Array.toList_setIfInBounds]
        omega
    have hframe : a = fill (fun i => listed.getD i false) vs ops.toList 0 a0 := inv.frame
    have he1 : execOp a.eval o = execOp (fill (fun _ => true) vs ops.toList 0 a0).eval o := by rw [hframe]; exact hsame.1
    have he2 : Region.wanted o (yielded ops a.tmps) = Region.wanted o (yielded ops (fill (fun _ => true) vs ops.toList 0 a0).tmps) := by rw [hframe]; exact hsame.2
    unfold wpOp
    simp only [ho]
    rw [he2]
    by_cases hw : Region.wanted o (yielded ops (fill (fun _ => true) vs ops.toList 0 a0).tmps) = true
    · rw [if_pos hw] at hso ⊢
      exact Or.inl (wp_of_gives hso he1 fun v w' h => hnext v w' h.1 h.2)
    · rw [if_neg hw] at hso ⊢
      exact hnext undef w hso (Below.refl _ _)
theorem wp_region_all {id : Nat} {Q : Exit → Act → World → Prop} {a : Act} {w : World} {l : List Oper} (S : Nat → Value → World → Prop) (hm : P.follows .mixedOrders = true) (hB : Region.allB l.toArray = true)
    (hst : ∀ i, i < l.length → ∀ v w w', S i v w → Below w.heap.size w w' → S i v w')
    (hop : ∀ i, i < l.length → specOp P l.toArray w a l.length S i)
    (hend : ∀ vs w', Below w.heap.size w w' → (∀ i, i < l.length → S i (vs i) w') → Q .normal (fill (fun _ => true) vs l 0 a) w') : (Code.region id l.toArray true).wp P Q a w := by
  refine wp_region_any hm ?_
  refine wpAny_of_all (w0 := w) (a0 := a) (S := S) hB (by simpa using hst) (by simpa using hop) (by simpa using hend) _ _ (fun _ => undef) _ _ ⟨by simp, ?_, (Below.refl _ _).drew, fun i _ h => ?_⟩ ?_
  · have : ∀ (l : List Oper) (k : Nat) (a : Act) (vs : Nat → Value) (m : Nat), a = fill (fun i => (Array.replicate m false).getD i false) vs l k a := by
      intro l
      induction l with
      | nil => intros; rfl
      | cons o l ih => intro k a vs m; rw [fill, getD_replicate_false]; exact ih (k + 1) a vs m
    exact this _ 0 a _ _
  · rw [getD_replicate_false] at h
    cases h
  · simp
end

/-! ### Values of the call's own, as they stand at a moment -/
def flatA : Nat → AV → Bool
  | _, .lit _ => true
  | n + 1, .agg cs => cs.all (flatA n)
  | n + 1, .tup cs => cs.all (flatA n)
  | _, _ => false
def thaw : Nat → Hp → AV → AV
  | 0, _, _ => .any
  | n + 1, h, .agg cs => if (cs.map (thaw n h)).all oneAV = true then .agg (cs.map (thaw n h)) else .any
  | n + 1, h, .tup cs => .tup (cs.map (thaw n h))
  | n + 1, h, .fn f a b => .fn f (a.map (thaw n h)) (b.map (thaw n h))
  | n + 1, h, .iface t v => .iface t (thaw n h v)
  | n + 1, h, .ref id off => match h[id]? with | some (some (.box cs)) => if ((cs.drop off).map (thaw n h)).all oneAV = true then .vp ((cs.drop off).map (thaw n h)) else .any | _ => .any
  | _ + 1, h, .aref id sz i off => match h[id]? with | some (some (.arr _ sz' _ es)) => if sz = sz' ∧ i < es.length then .vp ((es.getD i []).drop off) else .any | _ => .any
  | _ + 1, h, .osl id => match h[id]? with | some (some (.arr _ sz _ es)) => .sl sz es | _ => .any
  | _ + 1, _, v => v
def prepA (h : Hp) (v : AV) : AV := if pureA 5 v = true then v else thaw 5 h v
section
variable {P : Program} {w : World} {w0 : Nat} {M M0 : Nat → Prop} {h : Hp} {p : Nat → Nat}
theorem map_pair {n : Nat} {cs : List AV} {us : List Value} (ih : ∀ (a : AV) (v : Value), V1 w M h p a v → V0 w M0 (thaw n h a) v) (hv : ∀ (i : Nat) (c : AV) (u : Value), cs[i]? = some c → us[i]? = some u → V1 w M h p c u) :
    ∀ (i : Nat) (c : AV) (u : Value), (cs.map (thaw n h))[i]? = some c → us[i]? = some u → V0 w M0 c u := by
  intro i c u hc hu
  obtain ⟨a, ha, rfl⟩ := map_at hc
  exact ih a u (hv i a u ha hu)
theorem thaw_ok (hO : ∀ id ob, h[id]? = some (some ob) → ObOK w0 w M h p id ob) (h0 : ∀ b, M0 b → b < w0) (hs : ∀ b, M0 b → M b) : ∀ (n : Nat) (a : AV) (v : Value), V1 w M h p a v → V0 w M0 (thaw n h a) v
  | 0, _, v, _ => .any v
  | n + 1, a, v, hv => by
    have ih := thaw_ok hO h0 hs n
    have hsub : ∀ {a : AV} {v : Value}, V0 w M a v → V0 w M0 a v := fun hv => hv.keep (Keeps.refl _ _) fun b _ hn hm => hn (hs b hm)
    cases hv with
    | base _ _ hv0 =>
      cases hv0 with
      | any => exact .any v
      | lit => exact .lit v
      | agg cs us hl h1 hh =>
        simp only [thaw]
        split
        · rename_i hc
          exact .agg _ _ (by simpa using hl) (List.all_eq_true.1 hc) (map_pair ih fun i c u h1 h2 => .base _ _ (hh i c u h1 h2))
        · exact .any _
      | tup cs us hl hh => exact .tup _ _ (by simpa using hl) (map_pair ih fun i c u h1 h2 => .base _ _ (hh i c u h1 h2))
      | slNil => exact .slNil _ _ _
      | sl sz es cap b o u a1 a2 a3 a4 a5 a6 a7 a8 => exact hsub (.sl sz es cap b o u a1 a2 a3 a4 a5 a6 a7 a8)
      | vp cs b o u a1 a2 a3 a4 a5 => exact hsub (.vp cs b o u a1 a2 a3 a4 a5)
      | fn f x y us vs hl hl' hh hh' => exact .fn f _ _ _ _ (by simpa using hl) (by simpa using hl') (map_pair ih fun i c u h1 h2 => .base _ _ (hh i c u h1 h2)) (map_pair ih fun i c u h1 h2 => .base _ _ (hh' i c u h1 h2))
      | iface t x u hh => exact .iface _ _ _ (ih x u (.base _ _ hh))
    | agg cs us hl h1 hh =>
      simp only [thaw]
      split
      · rename_i hc
        exact .agg _ _ (by simpa using hl) (List.all_eq_true.1 hc) (map_pair ih hh)
      · exact .any _
    | tup cs us hl hh => exact .tup _ _ (by simpa using hl) (map_pair ih hh)
    | fn f x y us vs hl hl' hh hh' => exact .fn f _ _ _ _ (by simpa using hl) (by simpa using hl') (map_pair ih hh) (map_pair ih hh')
    | iface t x u hh => exact .iface _ _ _ (ih x u hh)
    | ref id off hid =>
      simp only [thaw]
      split
      · rename_i cs hc
        split
        · rename_i hone
          obtain ⟨hge, cur, e, hg, hsz, h1, hcell⟩ := hO id _ hc
          refine .vp _ (p id) off (fun j => cur.getD (off + j) undef) (Array.getElem?_eq_some_iff.1 hg).1 (fun hm => by have := h0 _ hm; omega) (List.all_eq_true.1 hone) (fun j hj => ?_) fun j c hj => ?_
          · rw [cell_of_row w (p id) _ cur e (0, 0) hg]
            simp only [List.length_map, List.length_drop] at hj
            have : off + j < cur.size := by omega
            simp [this]
          · obtain ⟨c', hc', rfl⟩ := map_at hj
            rw [List.getElem?_drop] at hc'
            obtain ⟨u, hu, hv'⟩ := hcell _ c' hc'
            have : cur.getD (off + j) undef = u := by simp [hu]
            simp only [this]
            exact ih c' u hv'
        · exact .any _
      · exact .any _
    | aref id sz i off hid =>
      simp only [thaw]
      split
      · rename_i e sz' nl es hc
        split
        · rename_i hcond
          obtain ⟨rfl, hi⟩ := hcond
          obtain ⟨hsz, h1, hrest⟩ := hO id _ hc
          have hnl : nl ≠ true := fun hn => by rw [if_pos hn] at hrest; subst hrest; simp at hi
          rw [if_neg hnl] at hrest
          obtain ⟨hge, cur, hg, hle, hcell⟩ := hrest
          have hx : es[i]? = some (es.getD i []) := by simp [List.getD, hi]
          obtain ⟨hxl, hx1⟩ := h1 i _ hx
          have hlt : (i + 1) * sz ≤ es.length * sz := Nat.mul_le_mul_right _ hi
          rw [Nat.add_mul] at hlt
          refine .vp _ (p id) (i * sz + off) (fun j => cur.getD (i * sz + off + j) undef) (Array.getElem?_eq_some_iff.1 hg).1 (fun hm => by have := h0 _ hm; omega) (fun c hc => hx1 c (List.mem_of_mem_drop hc)) (fun j hj => ?_) fun j c hj => ?_
          · rw [cell_of_row w (p id) _ cur e (0, 0) hg]
            simp only [List.length_drop] at hj
            have : i * sz + off + j < cur.size := by omega
            simp [this]
          · rw [List.getElem?_drop] at hj
            obtain ⟨u, hu, hv'⟩ := hcell i _ _ c hx hj
            have : cur.getD (i * sz + off + j) undef = u := by rw [Nat.add_assoc]; simp [hu]
            simp only [this]
            exact hsub hv'
        · exact .any _
      · exact .any _
    | osl id A m c hid hv =>
      simp only [thaw]
      split
      · rename_i e sz nl es hc
        have ho := hv _ _ _ _ hc
        obtain ⟨hsz, h1, hrest⟩ := hO id _ hc
        by_cases hnl : nl = true
        · rw [if_pos hnl] at hrest
          subst hrest
          unfold Osl at ho
          rw [if_pos hnl] at ho
          rw [ho.1]
          exact .slNil _ _ _
        · rw [if_neg hnl] at hrest
          unfold Osl at ho
          rw [if_neg hnl] at ho
          obtain ⟨cap, cur, heq, hg, hcs, hle, _⟩ := ho
          obtain ⟨hge, cur', hg', hle', hcell⟩ := hrest
          obtain rfl : cur' = cur := by rw [hg'] at hg; injection hg with hg; injection hg
          rw [heq]
          by_cases hne : es = []
          · subst hne
            exact .slNil _ _ _
          · refine .sl sz es cap (p id) 0 (fun k j => cur'.getD (k * sz + j) undef) hne (Array.getElem?_eq_some_iff.1 hg).1 (fun hm => by have := h0 _ hm; omega) hle (fun k e hk => (h1 k e hk).1) (fun k e j c hk hj => (h1 k e hk).2 c (List.mem_of_getElem? hj)) (fun k j hk hj => ?_) fun k x j c hk hj => ?_
            · rw [cell_of_row w (p id) _ cur' e (0, 0) hg, Nat.zero_add]
              have : (k + 1) * sz ≤ es.length * sz := Nat.mul_le_mul_right _ hk
              rw [Nat.add_mul] at this
              have : k * sz + j < cur'.size := by omega
              simp [this]
            · obtain ⟨u, hu, hv'⟩ := hcell k x j c hk hj
              have : cur'.getD (k * sz + j) undef = u := by simp [hu]
              simp only [this]
              exact hsub hv'
      · exact .any _

/-! ### Calls -/
def goesB (P : Program) (f : FuncId) : Bool := match P.funcs[f]? with | some fn => !(fn.name == "runtime.NumGoroutine") && fn.body.isSome | none => false
/-- Function f gives r of these arguments, whatever else there is; nothing that was there changes. -/
def VC (P : Program) (f : FuncId) (args : List AV) (r : AV) : Prop :=
  goesB P f = true ∧ ∀ (w : World) (M : Nat → Prop) (vs : List Value), (∀ b, M b → b < w.heap.size) → vs.length = args.length → (∀ (i : Nat) (a : AV) (v : Value), args[i]? = some a → vs[i]? = some v → V0 w M a v) →
    Calls P f vs.toArray w fun e w' => ∃ v, e = .returned v ∧ Below w.heap.size w w' ∧ V0 w' M r v
def calleeA (E : Operand → AV) (c : Call) : Option (FuncId × List AV) :=
  match c.callee with
  | .value f => match E f with
    | .lit (.func (.func k) a b) => if a.isEmpty && b.isEmpty then some (k, c.args.toList.map E) else none
    | .fn (.func k) a b => some (k, a ++ c.args.toList.map E ++ b)
    | _ => none
  | _ => none
def CallOK (P : Program) (h : Hp) (E : Operand → AV) (c : Call) (r : AV) : Prop :=
  match calleeA E c with
  | none => False
  | some (k, args) => VC P k (args.map (prepA h)) r ∧ (args.all (pureA 5) = true ∨ flatA 3 r = true)
theorem run_goes {f : FuncId} (hg : goesB P f = true) (args : Array Value) (w : World) : (callFunc f args).run P w = .ok (.enter f args) w := by
  unfold goesB at hg
  split at hg
  · rename_i fn hf
    simp only [Bool.and_eq_true, Bool.not_eq_true'] at hg
    obtain ⟨c, hb⟩ := Option.isSome_iff_exists.1 hg.2
    have hn : fn.body.isNone = false := by rw [hb]; rfl
    simp only [callFunc, Sem.run_bind, run_program, Result.andThen_ok, hf, hg.1, Bool.false_eq_true, if_false, hn, Sem.run_pure]
  · cases hg
theorem V0.flat : ∀ (n : Nat) {a : AV} {v : Value} {w w' : World} {M M' : Nat → Prop}, V0 w M a v → flatA n a = true → V0 w' M' a v
  | n, a, v, w, w', M, M', hv, hf => by
    cases hv with
    | lit => exact .lit v
    | agg cs us hl h1 hh =>
      cases n with
      | zero => simp [flatA] at hf
      | succ n =>
        simp only [flatA] at hf
        exact .agg cs us hl h1 fun i c u hc hu => V0.flat n (hh i c u hc hu) (List.all_eq_true.1 hf c (List.mem_of_getElem? hc))
    | tup cs us hl hh =>
      cases n with
      | zero => simp [flatA] at hf
      | succ n =>
        simp only [flatA] at hf
        exact .tup cs us hl fun i c u hc hu => V0.flat n (hh i c u hc hu) (List.all_eq_true.1 hf c (List.mem_of_getElem? hc))
    | _ => cases n <;> simp [flatA] at hf
end
end Go.Proofs.Ytmfmpagfjgpodaa
