/- Texts in one: A row of the call's own that is written to no more is a slice like any other: of every program; no condition. -/
import Derived.Test.YtmfmpagfjgpodaaMS4
/-! VFrz: A row of the call's own that is written to no more is a slice like any other: of every program; no condition. -/
namespace Go.Proofs.Ytmfmpagfjgpodaa
open Go.RowKit
section
variable {P : Program} {M0 : Nat → Prop} {w0 : World} {N : Nat} {p : Nat → Nat} {st : VS} {a : Act} {w : World} {Q : Exit → VS → Prop}
theorem get_set_none {h : Hp} {id i : Nat} {ob : Ob} (hi : (h.set id none)[i]? = some (some ob)) : i ≠ id ∧ h[i]? = some (some ob) := by
  by_cases hne : i = id
  · subst hne
    by_cases hl : i < h.length
    · rw [List.getElem?_set_self hl] at hi
      simp at hi
    · rw [List.getElem?_eq_none (by simp; omega)] at hi
      simp at hi
  · rw [List.getElem?_set_ne (fun h => hne h.symm)] at hi
    exact ⟨hne, hi⟩
/-- The row's memory is given up. -/
theorem Rel.drop (R : Rel M0 w0 N p st a w) (id : Nat) : Rel M0 w0 N p ⟨st.s, st.h.set id none⟩ a w := by
  have hM : ∀ b, ¬ Mof M0 st.h p b → ¬ Mof M0 (st.h.set id none) p b := fun b hb hb' => by
    rcases hb' with h | ⟨i, ob, hi, hl, hp⟩
    · exact hb (.inl h)
    · exact hb (.inr ⟨i, ob, (get_set_none hi).2, hl, hp⟩)
  have keep : ∀ {av : AV} {v : Value}, V1 w (Mof M0 st.h p) st.h p av v → V1 w (Mof M0 (st.h.set id none) p) (st.h.set id none) p av v := fun hv =>
    hv.keep (Keeps.refl _ _) (fun b _ h => hM b h) (by simp) (fun _ _ => rfl) fun i e sz nl es v _ he hv => hv _ _ _ _ (get_set_none he).2
  refine ⟨R.defers, R.size, R.below, R.m0, fun i => keep (R.slots i), fun i ob hi => ?_, fun i i' ob ob' hi hi' hl hl' hp => R.inj i i' ob ob' (get_set_none hi).2 (get_set_none hi').2 hl hl' hp⟩
  have ho := R.objs i ob (get_set_none hi).2
  cases ob with
  | box cs =>
    obtain ⟨h1, cur, e, h2, h3, h4, h5⟩ := ho
    exact ⟨h1, cur, e, h2, h3, h4, fun j c hj => by
      obtain ⟨u, hu, hv⟩ := h5 j c hj
      exact ⟨u, hu, keep hv⟩⟩
  | arr e sz nl es =>
    obtain ⟨h1, h2, h3⟩ := ho
    refine ⟨h1, h2, ?_⟩
    split
    · rename_i hn
      rw [if_pos hn] at h3
      exact h3
    · rename_i hn
      rw [if_neg hn] at h3
      obtain ⟨g1, cur, g2, g3, g4⟩ := h3
      exact ⟨g1, cur, g2, g3, fun k x j c hk hj => by
        obtain ⟨u, hu, hv⟩ := g4 k x j c hk hj
        exact ⟨u, hu, hv.keep (Keeps.refl _ _) (fun b _ h => hM b h)⟩⟩
theorem Rel.freeze (R : Rel M0 w0 N p st a w) {id t e sz : Nat} {nl : Bool} {es : List (List AV)} (ht : lkp st.s t = .osl id) (hi : st.h[id]? = some (some (.arr e sz nl es))) :
    Rel M0 w0 N p ⟨(t, .sl sz es) :: st.s, st.h.set id none⟩ a w := by
  have D := R.drop id
  refine ⟨D.defers, D.size, D.below, D.m0, fun i => ?_, D.objs, D.inj⟩
  by_cases hit : t = i
  · subst hit
    simp only [lkp, if_true]
    have hv := R.slots t
    rw [ht] at hv
    obtain ⟨A, n, c, hu, hid, ho⟩ := hv.osl_inv
    have hO := ho _ _ _ _ hi
    obtain ⟨o1, o2, o3⟩ := R.objs id _ hi
    refine .base _ _ ?_
    generalize a.tmps.getD t undef = v at hu hO
    by_cases hnl : nl = true
    · rw [if_pos hnl] at o3
      unfold Osl at hO
      rw [if_pos hnl] at hO
      rw [hO.1, o3]
      exact .slNil _ _ _
    · rw [if_neg hnl] at o3
      unfold Osl at hO
      rw [if_neg hnl] at hO
      obtain ⟨cap, cur, e1, e2, e3, e4, e5⟩ := hO
      obtain ⟨q1, cur', q2, q3, q4⟩ := o3
      have hcc : cur' = cur := by
        rw [q2] at e2
        injection e2 with e2
        injection e2 with e2
      subst hcc
      rw [e1]
      by_cases hes : es = []
      · subst hes
        exact .slNil _ _ _
      · have hb : p id < w.heap.size := (Array.getElem?_eq_some_iff.1 e2).1
        have hMn : ¬ Mof M0 (st.h.set id none) p (p id) := by
          rintro (h | ⟨i, ob, hi2, hl, hp⟩)
          · have := R.m0 _ h
            omega
          · obtain ⟨hne, hi3⟩ := get_set_none hi2
            refine hne (R.inj i id ob _ hi3 hi hl ?_ hp)
            cases nl
            · rfl
            · exact absurd rfl hnl
        have hM : ∀ b, ¬ Mof M0 st.h p b → ¬ Mof M0 (st.h.set id none) p b := fun b hb hb' => by
          rcases hb' with h | ⟨i, ob, hi, hl, hp⟩
          · exact hb (.inl h)
          · exact hb (.inr ⟨i, ob, (get_set_none hi).2, hl, hp⟩)
        have hcell : ∀ j, w.cell? ⟨p id, j, none⟩ = cur'[j]? := fun j => by simp [World.cell?, e2]
        have hlen : ∀ (k : Nat) (x : List AV), es[k]? = some x → x.length = sz := fun k x hk => (o2 k x hk).1
        refine .sl sz es cap (p id) 0 (fun k j => (cur'[k * sz + j]?).getD undef) hes hb hMn e4 hlen (fun k x j c hk hj => (o2 k x hk).2 c (List.mem_of_getElem? hj)) (fun k j hk hj => ?_) fun k x j c hk hj => ?_
        · rw [Nat.zero_add, hcell]
          have hx : es[k]? = some es[k] := List.getElem?_eq_getElem hk
          have hjl : j < es[k].length := by rw [hlen k _ hx]; exact hj
          obtain ⟨u, hu, _⟩ := q4 k _ j _ hx (List.getElem?_eq_getElem hjl)
          rw [hu]
          rfl
        · obtain ⟨u, hu, hv⟩ := q4 k x j c hk hj
          rw [hu]
          exact hv.keep (Keeps.refl _ _) (fun b _ h => hM b h)
  · simp only [lkp, if_neg hit]
    exact D.slots i
/-- From here on slot t holds a slice that nobody writes to. -/
theorem vfreeze {c : Code} (t id : Nat) {e sz : Nat} {nl : Bool} {es : List (List AV)} (ht : lkp st.s t = .osl id) (hi : st.h[id]? = some (some (.arr e sz nl es))) (h : VWp P M0 w0 N c Q ⟨(t, .sl sz es) :: st.s, st.h.set id none⟩) : VWp P M0 w0 N c Q st :=
  fun hB p a w R => h hB p a w (R.freeze ht hi)
end
end Go.Proofs.Ytmfmpagfjgpodaa

/-! VWrite: A call that writes into a row of the call's own: of every program; no condition. -/
namespace Go.Proofs.Ytmfmpagfjgpodaa
open Go.RowKit
section
variable {P : Program} {M0 : Nat → Prop} {w0 : World} {N : Nat} {p : Nat → Nat} {st : VS} {a : Act} {w : World} {Q : Exit → VS → Prop}
/-- The row's head as a slice that nobody writes to. -/
theorem Rel.cut (R : Rel M0 w0 N p st a w) {id e sz m cap d : Nat} {es : List (List AV)} (hi : st.h[id]? = some (some (.arr e sz false es))) (hm : m ≤ es.length) {cur : Array Value} (e2 : w.heap[p id]? = some (.cells cur e (0, 0))) (e4 : es.length ≤ cap) (hd : d < N) :
    Rel M0 w0 N p ⟨(d, .sl sz (es.take m)) :: st.s, st.h.set id none⟩ (a.put (some d) (.slice (some ⟨p id, 0, none⟩) m cap)) w := by
  refine (R.drop id).putS hd (.base _ _ ?_)
  obtain ⟨o1, o2, o3⟩ := R.objs id _ hi
  rw [if_neg (by simp)] at o3
  obtain ⟨q1, cur', q2, q3, q4⟩ := o3
  have hcc : cur' = cur := by
    rw [q2] at e2
    injection e2 with e2
    injection e2 with e2
  subst hcc
  have hlm : (es.take m).length = m := by rw [List.length_take]; omega
  by_cases hes : es.take m = []
  · have hm0 : m = 0 := by rw [← hlm, hes]; rfl
    rw [hes, hm0]
    exact .slNil _ _ _
  · have hb : p id < w.heap.size := (Array.getElem?_eq_some_iff.1 e2).1
    have hMn : ¬ Mof M0 (st.h.set id none) p (p id) := by
      rintro (h | ⟨i, ob, hi2, hl, hp⟩)
      · have := R.m0 _ h
        omega
      · obtain ⟨hne, hi3⟩ := get_set_none hi2
        exact hne (R.inj i id ob _ hi3 hi hl rfl hp)
    have hM : ∀ b, ¬ Mof M0 st.h p b → ¬ Mof M0 (st.h.set id none) p b := fun b hb hb' => by
      rcases hb' with h | ⟨i, ob, hi, hl, hp⟩
      · exact hb (.inl h)
      · exact hb (.inr ⟨i, ob, (get_set_none hi).2, hl, hp⟩)
    have hcell : ∀ j, w.cell? ⟨p id, j, none⟩ = cur'[j]? := fun j => by simp [World.cell?, e2]
    have htk : ∀ (k : Nat) (x : List AV), (es.take m)[k]? = some x → es[k]? = some x := fun k x hk => by
      rw [List.getElem?_take] at hk
      split at hk
      · exact hk
      · cases hk
    have hlen : ∀ (k : Nat) (x : List AV), (es.take m)[k]? = some x → x.length = sz := fun k x hk => (o2 k x (htk k x hk)).1
    have H := V0.sl (w := w) (M := Mof M0 (st.h.set id none) p) sz (es.take m) cap (p id) 0 (fun k j => (cur'[k * sz + j]?).getD undef) hes hb hMn (by omega) hlen (fun k x j c hk hj => (o2 k x (htk k x hk)).2 c (List.mem_of_getElem? hj)) (fun k j hk hj => ?_) fun k x j c hk hj => ?_
    · rw [hlm] at H
      exact H
    · rw [Nat.zero_add, hcell]
      have hx : (es.take m)[k]? = some (es.take m)[k] := List.getElem?_eq_getElem hk
      have hjl : j < (es.take m)[k].length := by rw [hlen k _ hx]; exact hj
      obtain ⟨u, hu, _⟩ := q4 k _ j _ (htk _ _ hx) (List.getElem?_eq_getElem hjl)
      rw [hu]
      rfl
    · obtain ⟨u, hu, hv⟩ := q4 k x j c (htk _ _ hk) hj
      rw [hu]
      exact hv.keep (Keeps.refl _ _) (fun b _ h => hM b h)
/-- Function k writes es' over the row es that is its first argument; it gives nothing, or the row's first m elements. -/
def VCw (P : Program) (k : FuncId) (e sz : Nat) (es es' : List (List AV)) (rest : List AV) (tk : Option Nat) : Prop :=
  goesB P k = true ∧ es'.length = es.length ∧ (∀ (k : Nat) (x : List AV), es'[k]? = some x → x.length = sz ∧ ∀ c ∈ x, oneAV c = true) ∧ (∀ m, tk = some m → m ≤ es.length) ∧
  ∀ (w : World) (M : Nat → Prop) (g cap : Nat) (cur : Array Value) (vs : List Value), (∀ b, M b → b < w.heap.size) → M g → w.heap[g]? = some (.cells cur e (0, 0)) → cur.size = cap * sz → es.length ≤ cap → cap ≤ maxLen →
    (∀ (k : Nat) (x : List AV) (j : Nat) (c : AV), es[k]? = some x → x[j]? = some c → ∃ u, cur[k * sz + j]? = some u ∧ V0 w M c u) → vs.length = rest.length → (∀ (i : Nat) (a : AV) (v : Value), rest[i]? = some a → vs[i]? = some v → V0 w M a v) →
    Calls P k (Value.slice (some ⟨g, 0, none⟩) es.length cap :: vs).toArray w fun en w' => ∃ cur' : Array Value, en = .returned (match tk with | none => .tuple #[] | some m => .slice (some ⟨g, 0, none⟩) m cap) ∧ cur'.size = cur.size ∧ Below w.heap.size (w.setRow g cur') w' ∧
      ∀ (k : Nat) (x : List AV) (j : Nat) (c : AV), es'[k]? = some x → x[j]? = some c → ∃ u, cur'[k * sz + j]? = some u ∧ V0 w M c u
def wriS (st : VS) (d : Option Tmp) (id e sz : Nat) (es' : List (List AV)) : Option Nat → VS
  | none => VS.put ⟨st.s, st.h.set id (some (.arr e sz false es'))⟩ d (.lit (.tuple #[]))
  | some m => VS.put ⟨st.s, st.h.set id none⟩ d (.sl sz (es'.take m))
theorem write_ok (R : Rel M0 w0 N p st a w) {o : Oper} {c : Call} {k : FuncId} {id e sz : Nat} {es es' : List (List AV)} {rest : List AV} {tk : Option Nat} {K' : Act → World → Prop} {Q : Exit → Act → World → Prop} (hd : dstB N o = true) (hop : o.op = .call c) (hc : calleeA (ev st) c = some (k, .osl id :: rest))
    (hi : st.h[id]? = some (some (.arr e sz false es))) (hp : rest.all (pureA 5) = true) (hne : o.dst ≠ none) (h : VCw P k e sz es es' rest tk) (hk : ∀ p a w, Rel M0 w0 N p (wriS st o.dst id e sz es' tk) a w → K' a w) : o.wp P a w K' Q := by
  obtain ⟨dst, op, ty, pos, after, guard⟩ := o
  have hlt := dstB_lt hd
  simp only at hop hlt hk hne
  subst hop
  obtain ⟨callee, cargs, cts⟩ := c
  obtain ⟨hgo, hl, hes, hm, hcalls⟩ := h
  obtain ⟨vs, hrun, hlen, hvs⟩ := call_enter (P := P) (dst := dst) (ty := ty) (pos := pos) (after := after) (guard := guard) (fun x _ => R.eval x) hc hgo
  obtain ⟨v0, vs, rfl⟩ : ∃ v0 t, vs = v0 :: t := by cases vs with | nil => simp at hlen | cons x t => exact ⟨x, t, rfl⟩
  obtain ⟨A, n, cp, hu, hid, ho⟩ := (hvs 0 _ _ rfl rfl).osl_inv
  have hO := ho _ _ _ _ hi
  obtain ⟨o1, o2, o3⟩ := R.objs id _ hi
  rw [if_neg (by simp)] at o3
  obtain ⟨q1, cur', q2, q3, q4⟩ := o3
  unfold Osl at hO
  rw [if_neg (by simp)] at hO
  obtain ⟨cap, cur, e1, e2, e3, e4, e5⟩ := hO
  have hcc : cur' = cur := by
    rw [q2] at e2
    injection e2 with e2
    injection e2 with e2
  subst hcc
  rw [e1] at hrun
  unfold Oper.wp
  rw [hrun]
  simp only [Oper.upon]
  refine (hcalls w (Mof M0 st.h p) (p id) cap cur' vs R.lt (.inr ⟨id, _, hi, rfl, rfl⟩) e2 e3 e4 e5 (fun k x j c hk hj => q4 k x j c hk hj) (by simpa using hlen) fun i b v hb hv => (hvs (i + 1) b v hb hv).pure 5 (List.all_eq_true.1 hp b (List.mem_of_getElem? hb))).mono ?_
  rintro en w' ⟨cur2, rfl, hcs, hb, hv⟩
  have W : Rel M0 w0 N p ⟨st.s, st.h.set id (some (.arr e sz false es'))⟩ a (w.setRow (p id) cur2) := by
    refine R.write hi rfl rfl (setRow_size w _ _).symm rfl rfl rfl (fun b hb => setRow_block w _ _ b hb) rfl (fun e' sz' nl' es2 v he ho => ?_) fun _ hV0 => ⟨o1, hes, ?_⟩
    · injection he with r1 r2 r3 r4
      subst r1 r2 r3 r4
      have := ho _ _ _ _ rfl
      unfold Osl at this ⊢
      simp only [Bool.false_eq_true, if_false] at this ⊢
      obtain ⟨cap2, cur3, b1, b2, b3, b4⟩ := this
      obtain rfl : cur3 = cur' := by rw [e2] at b2; injection b2 with b2; injection b2 with b2; exact b2.symm
      rw [hl]
      exact ⟨cap2, cur2, b1, setRow_heap w (p id) cur3 _ e _ e2, by rw [hcs, b3], b4⟩
    · rw [if_neg (by simp)]
      refine ⟨q1, cur2, setRow_heap w (p id) cur' _ e _ e2, by rw [hcs, hl]; exact q3, fun k x j c hk hj => ?_⟩
      obtain ⟨u, hu, hvu⟩ := hv k x j c hk hj
      exact ⟨u, hu, hV0 hvu⟩
  have hsz : (w.setRow (p id) cur2).heap.size = w.heap.size := setRow_size w _ _
  have W' := W.later (by rw [hsz]; exact hb)
  have hid2 : (st.h.set id (some (.arr e sz false es')))[id]? = some (some (.arr e sz false es')) := List.getElem?_set_self hid
  cases tk with
  | none => exact hk p _ _ (W'.put hlt (.base _ _ (.lit _)))
  | some m =>
    cases dst with
    | none => exact absurd rfl hne
    | some d =>
      have hge := (Array.getElem?_eq_some_iff.1 e2).1
      have hB : w'.heap[p id]? = some (.cells cur2 e (0, 0)) := by
        rw [hb.block (p id) (by omega)]
        exact setRow_heap w (p id) cur' _ e _ e2
      have C := W'.cut (m := m) hid2 (by rw [hl]; exact hm m rfl) hB (by rw [hl]; exact e4) (hlt d rfl)
      rw [List.set_set] at C
      exact hk p _ _ C
theorem VRunW_ok {ow : List Nat} {ops : List Oper} {K : VS → Prop} {Q : Exit → Act → World → Prop} {l2 : List Oper} (hops : ops.all (dstB N) = true) (hk : ∀ p st a w, Rel M0 w0 N p st a w → K st → wpList P ops.toArray Q l2 a w) :
    ∀ (l : List Oper) (p : Nat → Nat) (st : VS) (a : Act) (w : World), l.all (dstB N) = true → Rel M0 w0 N p st a w → VRun P ow ops l st K → wpList P ops.toArray Q (l ++ l2) a w
  | [], p, st, a, w, _, R, h => hk p st a w R h
  | o :: l, p, st, a, w, hl, R, h => by
    simp only [List.all_cons, Bool.and_eq_true] at hl
    have ih := fun p st a w => VRunW_ok (ow := ow) (l2 := l2) hops hk l p st a w hl.2
    refine wpList_step fun KK hKK => ?_
    simp only [VRun, VOp] at h
    have hdo : VDo P ow o st (fun st' => VRun P ow ops l st' K) → o.wp P a w KK Q := fun h => VDo_ok R hl.1 h fun p st a w R h => hKK _ _ (ih p st a w R h)
    have hsk : VRun P ow ops l (st.put o.dst (.lit undef)) K → KK (a.put o.dst undef) w := fun h => hKK _ _ (ih p _ _ w (R.put (dstB_lt hl.1) (.base _ _ (.lit _))) h)
    split at h
    · rename_i hg
      simp only [Region.wanted, hg, if_true]
      exact hdo h
    · rename_i j want hg
      obtain ⟨hy1, hy2⟩ := yielded_lit (j := j) R hops
      simp only [Region.wanted, hg]
      split at h
      · rename_i b hb
        rw [hy1 b hb]
        by_cases hw : b = want
        · subst hw
          rw [if_pos (by simp)]
          rw [if_pos rfl] at h
          exact hdo h
        · rw [if_neg (by simpa using hw)]
          rw [if_neg hw] at h
          exact hsk h
      · rename_i vs hb
        rw [hy2 vs hb, if_neg (by simp)]
        exact hsk h
      · exact h.elim
/-- A region with a call that writes into a row of the call's own, which is its first argument. -/
theorem vregionW {rid : Nat} {l l1 l2 : List Oper} {o : Oper} (ow : List Nat) (n : Nat) (hl : l.take n = l1 ∧ l.drop n = o :: l2) (h : VRun P ow l l1 st fun st1 => ∃ c k id e sz es es' rest tk, o.guard = none ∧ o.dst ≠ none ∧ o.op = .call c ∧ calleeA (ev st1) c = some (k, .osl id :: rest) ∧ st1.h[id]? = some (some (.arr e sz false es)) ∧ rest.all (pureA 5) = true ∧
    VCw P k e sz es es' rest tk ∧ VRun P ow l l2 (wriS st1 o.dst id e sz es' tk) (Q .normal)) : VWp P M0 w0 N (.region rid l.toArray false) Q st := fun hB p a w R => by
  have hB' : l.all (dstB N) = true := by simpa [codeB] using hB
  have hsplit : l = l1 ++ o :: l2 := by rw [← hl.1, ← hl.2, List.take_append_drop]
  have hB1 : l1.all (dstB N) = true := by
    rw [hsplit, List.all_append, Bool.and_eq_true] at hB'
    exact hB'.1
  have hB2 : dstB N o = true ∧ l2.all (dstB N) = true := by
    rw [hsplit, List.all_append, Bool.and_eq_true, List.all_cons, Bool.and_eq_true] at hB'
    exact hB'.2
  refine wp_region_lit ?_
  have := VRunW_ok (P := P) (M0 := M0) (w0 := w0) (N := N) (ow := ow) (ops := l) (Q := fun e a' w' => ∃ st' p', Rel M0 w0 N p' st' a' w' ∧ Q e st') (l2 := o :: l2) hB' (fun p st a w R h => by
    obtain ⟨c, k, id, e, sz, es, es', rest, tk, hg, hne, hop, hc, hi, hp, hw, hr⟩ := h
    refine wpList_step fun KK hKK => ?_
    simp only [Region.wanted, hg, if_true]
    exact write_ok R hB2.1 hop hc hi hp hne hw fun p a w R => hKK _ _ (VRun_ok (ow := ow) hB' (fun p st a w R h => ⟨st, p, R, h⟩) l2 p _ a w hB2.2 R hr)) l1 p st a w hB1 R h
  rw [hsplit] at this ⊢
  exact this
end
end Go.Proofs.Ytmfmpagfjgpodaa

/-! VNil: A nil slice in a slot is a row of the call's own, of no element: of every program; no condition. -/
namespace Go.Proofs.Ytmfmpagfjgpodaa
open Go.RowKit
section
variable {P : Program} {M0 : Nat → Prop} {w0 : World} {N : Nat} {p : Nat → Nat} {st : VS} {a : Act} {w : World} {Q : Exit → VS → Prop}
theorem put_same {a : Act} {d : Nat} {v : Value} (h : a.tmps.getD d undef = v) (hd : d < a.tmps.size) : a.put (some d) v = a := by
  have : a.tmps.setIfInBounds d v = a.tmps := by
    apply Array.ext_getElem?
    intro i
    rw [Array.getElem?_setIfInBounds]
    by_cases hi : d = i
    · subst hi
      rw [if_pos rfl, if_pos hd, ← h]
      simp [Array.getD, hd]
    · rw [if_neg hi]
  cases a
  simp only [Act.put] at *
  simpa using this
/-- The nil slice in slot t, told as a row of the call's own. -/
theorem Rel.nilRe (R : Rel M0 w0 N p st a w) {t e sz : Nat} (ht : lkp st.s t = .lit (.slice none 0 0)) (hsz : 0 < sz) : ∃ p2, Rel M0 w0 N p2 ⟨(t, .osl st.h.length) :: st.s, st.h ++ [some (.arr e sz true [])]⟩ a w := by
  have hv := R.slots t
  rw [ht] at hv
  have hv := hv.lit_inv
  have hd : t < a.tmps.size := by
    by_cases h : t < a.tmps.size
    · exact h
    · have : a.tmps.getD t undef = undef := by simp [Array.getD, h]
      rw [this] at hv
      cases hv
  have := nil_new (e := e) R (by rw [← R.size]; exact hd) hsz
  rw [put_same hv hd] at this
  exact ⟨_, this⟩
/-- A region in two parts, between which the state is told otherwise. -/
theorem vregionS {rid : Nat} {l l1 l2 : List Oper} (ow : List Nat) (n : Nat) (hl : l.take n = l1 ∧ l.drop n = l2) (h : VRun P ow l l1 st fun st1 => ∃ st2, (∀ p a w, Rel M0 w0 N p st1 a w → ∃ p2, Rel M0 w0 N p2 st2 a w) ∧ VRun P ow l l2 st2 (Q .normal)) : VWp P M0 w0 N (.region rid l.toArray false) Q st := fun hB p a w R => by
  have hB' : l.all (dstB N) = true := by simpa [codeB] using hB
  have hsplit : l = l1 ++ l2 := by rw [← hl.1, ← hl.2, List.take_append_drop]
  have hB1 : l1.all (dstB N) = true := by
    rw [hsplit, List.all_append, Bool.and_eq_true] at hB'
    exact hB'.1
  have hB2 : l2.all (dstB N) = true := by
    rw [hsplit, List.all_append, Bool.and_eq_true] at hB'
    exact hB'.2
  refine wp_region_lit ?_
  have := VRunW_ok (P := P) (M0 := M0) (w0 := w0) (N := N) (ow := ow) (ops := l) (Q := fun e a' w' => ∃ st' p', Rel M0 w0 N p' st' a' w' ∧ Q e st') (l2 := l2) hB' (fun p st a w R h => by
    obtain ⟨st2, h1, h2⟩ := h
    obtain ⟨p2, R2⟩ := h1 p a w R
    exact VRun_ok (ow := ow) hB' (fun p st a w R h => ⟨st, p, R, h⟩) l2 p2 _ a w hB2 R2 h2) l1 p st a w hB1 R h
  rw [hsplit] at this ⊢
  exact this
end
end Go.Proofs.Ytmfmpagfjgpodaa

/-! VDead: A variable that holds a row of the call's own, told as holding a slice of which nothing is known: of every program; no condition. -/
namespace Go.Proofs.Ytmfmpagfjgpodaa
open Go.RowKit
section
variable {P : Program} {M0 : Nat → Prop} {w0 : World} {N : Nat} {p : Nat → Nat} {st : VS} {a : Act} {w : World}
theorem get_dead {h : Hp} {bi : Nat} {cs' : List AV} {i : Nat} {ob : Ob} (hi : (h.set bi (some (.box cs')) ++ [none])[i]? = some (some ob)) (hb : bi < h.length) : (i = bi ∧ ob = .box cs') ∨ (i ≠ bi ∧ h[i]? = some (some ob)) := by
  rcases Nat.lt_or_ge i h.length with hl | hl
  · rw [List.getElem?_append_left (by simpa using hl), List.getElem?_set] at hi
    by_cases he : bi = i
    · rw [if_pos he, if_pos hb] at hi
      simp only [Option.some.injEq] at hi
      exact .inl ⟨he.symm, hi.symm⟩
    · rw [if_neg he] at hi
      exact .inr ⟨fun h => he h.symm, hi⟩
  · rw [List.getElem?_append_right (by simpa using hl)] at hi
    simp only [List.length_set] at hi
    cases hh : i - h.length with
    | zero => rw [hh] at hi; simp at hi
    | succ n => rw [hh] at hi; simp at hi
/-- Cell j of variable bi holds a row: told as a slice of which nothing is known. -/
theorem Rel.dead (R : Rel M0 w0 N p st a w) {bi j id : Nat} {cs : List AV} (hb : st.h[bi]? = some (some (.box cs))) (hj : cs[j]? = some (.osl id)) : Rel M0 w0 N p ⟨st.s, st.h.set bi (some (.box (cs.set j (.osl st.h.length)))) ++ [none]⟩ a w := by
  have hbl : bi < st.h.length := (List.getElem?_eq_some_iff.1 hb).1
  have hM : ∀ b, ¬ Mof M0 st.h p b → ¬ Mof M0 (st.h.set bi (some (.box (cs.set j (.osl st.h.length)))) ++ [none]) p b := fun b hn hm => by
    rcases hm with h | ⟨i, ob, hi, hl, hp⟩
    · exact hn (.inl h)
    · rcases get_dead hi hbl with ⟨rfl, rfl⟩ | ⟨_, hi'⟩
      · exact hn (.inr ⟨i, _, hb, rfl, hp⟩)
      · exact hn (.inr ⟨i, ob, hi', hl, hp⟩)
  have keep : ∀ {av : AV} {v : Value}, V1 w (Mof M0 st.h p) st.h p av v → V1 w (Mof M0 (st.h.set bi (some (.box (cs.set j (.osl st.h.length)))) ++ [none]) p) (st.h.set bi (some (.box (cs.set j (.osl st.h.length)))) ++ [none]) p av v := fun hv =>
    hv.keep (Keeps.refl _ _) (fun b _ h => hM b h) (by simp) (fun _ _ => rfl) fun i e sz nl es v _ he hv => by
      rcases get_dead he hbl with ⟨_, h⟩ | ⟨_, h⟩
      · cases h
      · exact hv _ _ _ _ h
  refine ⟨R.defers, R.size, R.below, R.m0, fun i => keep (R.slots i), fun i ob hi => ?_, fun i i' ob ob' hi hi' hl hl' hp => ?_⟩
  · rcases get_dead hi hbl with ⟨rfl, rfl⟩ | ⟨_, hi'⟩
    · obtain ⟨h1, cur, e, h2, h3, h4, h5⟩ := R.objs i _ hb
      refine ⟨h1, cur, e, h2, by simpa using h3, fun c hc => ?_, fun k c hk => ?_⟩
      · rcases List.mem_or_eq_of_mem_set hc with h | rfl
        · exact h4 c h
        · rfl
      · rw [List.getElem?_set] at hk
        by_cases he : j = k
        · subst he
          have hjl : j < cs.length := (List.getElem?_eq_some_iff.1 hj).1
          rw [if_pos rfl, if_pos hjl] at hk
          simp only [Option.some.injEq] at hk
          subst hk
          obtain ⟨u, hu, hv⟩ := h5 j _ hj
          obtain ⟨A, n, c, rfl, _, _⟩ := hv.osl_inv
          refine ⟨_, hu, .osl _ _ _ _ (by simp) fun e sz nl es he => ?_⟩
          rw [List.getElem?_append_right (by simp)] at he
          simp at he
        · rw [if_neg he] at hk
          obtain ⟨u, hu, hv⟩ := h5 k c hk
          exact ⟨u, hu, keep hv⟩
    · have ho := R.objs i ob hi'
      cases ob with
      | box cs2 =>
        obtain ⟨h1, cur, e, h2, h3, h4, h5⟩ := ho
        exact ⟨h1, cur, e, h2, h3, h4, fun k c hk => by
          obtain ⟨u, hu, hv⟩ := h5 k c hk
          exact ⟨u, hu, keep hv⟩⟩
      | arr e sz nl es =>
        obtain ⟨h1, h2, h3⟩ := ho
        refine ⟨h1, h2, ?_⟩
        split
        · rename_i hn
          rw [if_pos hn] at h3
          exact h3
        · rename_i hn
          rw [if_neg hn] at h3
          obtain ⟨g1, cur, g2, g3, g4⟩ := h3
          exact ⟨g1, cur, g2, g3, fun k x j c hk hj => by
            obtain ⟨u, hu, hv⟩ := g4 k x j c hk hj
            exact ⟨u, hu, hv.keep (Keeps.refl _ _) (fun b _ h => hM b h)⟩⟩
  · have old : ∀ {i ob}, (st.h.set bi (some (.box (cs.set j (.osl st.h.length)))) ++ [none])[i]? = some (some ob) → live ob = true → ∃ ob2, st.h[i]? = some (some ob2) ∧ live ob2 = true := fun {i ob} hi hl => by
      rcases get_dead hi hbl with ⟨rfl, rfl⟩ | ⟨_, h⟩
      · exact ⟨_, hb, rfl⟩
      · exact ⟨ob, h, hl⟩
    obtain ⟨o1, h1, l1⟩ := old hi hl
    obtain ⟨o2, h2, l2⟩ := old hi' hl'
    exact R.inj i i' o1 o2 h1 h2 l1 l2 hp
end
end Go.Proofs.Ytmfmpagfjgpodaa
