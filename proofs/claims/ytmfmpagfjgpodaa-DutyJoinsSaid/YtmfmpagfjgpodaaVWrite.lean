/- A call that writes into a row of the call's own: of every program; no condition. -/
import Derived.Test.YtmfmpagfjgpodaaVFrz
namespace Go.Proofs.Ytmfmpagfjgpodaa
open Go.RowKit
section
variable {P : Program} {M0 : Nat → Prop} {w0 : World} {N : Nat} {p : Nat → Nat} {st : VS} {a : Act} {w : World} {Q : Exit → VS → Prop}
/-- The row's head as a slice that nobody writes to. -/
theorem Rel.cut (R : Rel M0 w0 N p st a w) {id e sz m cap d : Nat} {es : List (List AV)} (hi : st.h[id]? = some (some (.arr e sz false es))) (hm : m ≤ es.length) {cur : Array Value} (e2 : w.heap[p id]? = some (.cells cur e (0, 0))) (e4 : es.length ≤ cap) (hd : d < N) :
    Rel M0 w0 N p ⟨(d, .sl sz (es.take m)) :: st.s, st.h.set id none⟩ (a.put (some d) (.slice (some ⟨p id, 0, none⟩) m cap)) w := by
  refine (R.drop id).putS hd (.base _ _ ?_)
  obtain ⟨o1, o2, o3⟩ := R.objs id _ hi
  rw [if_neg (by simp)] at o3
  obtain ⟨q1, cur', q2, q3, q4⟩ := o3
  have hcc : cur' = cur := by
    rw [q2] at e2
    injection e2 with e2
    injection e2 with e2
  subst hcc
  have hlm : (es.take m).length = m := by rw [List.length_take]; omega
  by_cases hes : es.take m = []
  · have hm0 : m = 0 := by rw [← hlm, hes]; rfl
    rw [hes, hm0]
    exact .slNil _ _ _
  · have hb : p id < w.heap.size := (Array.getElem?_eq_some_iff.1 e2).1
    have hMn : ¬ Mof M0 (st.h.set id none) p (p id) := by
      rintro (h | ⟨i, ob, hi2, hl, hp⟩)
      · have := R.m0 _ h
        omega
      · obtain ⟨hne, hi3⟩ := get_set_none hi2
        exact hne (R.inj i id ob _ hi3 hi hl rfl hp)
    have hM : ∀ b, ¬ Mof M0 st.h p b → ¬ Mof M0 (st.h.set id none) p b := fun b hb hb' => by
      rcases hb' with h | ⟨i, ob, hi, hl, hp⟩
      · exact hb (.inl h)
      · exact hb (.inr ⟨i, ob, (get_set_none hi).2, hl, hp⟩)
    have hcell : ∀ j, w.cell? ⟨p id, j, none⟩ = cur'[j]? := fun j => by simp [World.cell?, e2]
    have htk : ∀ (k : Nat) (x : List AV), (es.take m)[k]? = some x → es[k]? = some x := fun k x hk => by
      rw [List.getElem?_take] at hk
      split at hk
      · exact hk
      · cases hk
    have hlen : ∀ (k : Nat) (x : List AV), (es.take m)[k]? = some x → x.length = sz := fun k x hk => (o2 k x (htk k x hk)).1
    have H := V0.sl (w := w) (M := Mof M0 (st.h.set id none) p) sz (es.take m) cap (p id) 0 (fun k j => (cur'[k * sz + j]?).getD undef) hes hb hMn (by omega) hlen (fun k x j c hk hj => (o2 k x (htk k x hk)).2 c (List.mem_of_getElem? hj)) (fun k j hk hj => ?_) fun k x j c hk hj => ?_
    · rw [hlm] at H
      exact H
    · rw [Nat.zero_add, hcell]
      have hx : (es.take m)[k]? = some (es.take m)[k] := List.getElem?_eq_getElem hk
      have hjl : j < (es.take m)[k].length := by rw [hlen k _ hx]; exact hj
      obtain ⟨u, hu, _⟩ := q4 k _ j _ (htk _ _ hx) (List.getElem?_eq_getElem hjl)
      rw [hu]
      rfl
    · obtain ⟨u, hu, hv⟩ := q4 k x j c (htk _ _ hk) hj
      rw [hu]
      exact hv.keep (Keeps.refl _ _) (fun b _ h => hM b h)
/-- Function k writes es' over the row es that is its first argument; it gives nothing, or the row's first m elements. -/
def VCw (P : Program) (k : FuncId) (e sz : Nat) (es es' : List (List AV)) (rest : List AV) (tk : Option Nat) : Prop :=
  goesB P k = true ∧ es'.length = es.length ∧ (∀ (k : Nat) (x : List AV), es'[k]? = some x → x.length = sz ∧ ∀ c ∈ x, oneAV c = true) ∧ (∀ m, tk = some m → m ≤ es.length) ∧
  ∀ (w : World) (M : Nat → Prop) (g cap : Nat) (cur : Array Value) (vs : List Value), (∀ b, M b → b < w.heap.size) → M g → w.heap[g]? = some (.cells cur e (0, 0)) → cur.size = cap * sz → es.length ≤ cap → cap ≤ maxLen →
    (∀ (k : Nat) (x : List AV) (j : Nat) (c : AV), es[k]? = some x → x[j]? = some c → ∃ u, cur[k * sz + j]? = some u ∧ V0 w M c u) → vs.length = rest.length → (∀ (i : Nat) (a : AV) (v : Value), rest[i]? = some a → vs[i]? = some v → V0 w M a v) →
    Calls P k (Value.slice (some ⟨g, 0, none⟩) es.length cap :: vs).toArray w fun en w' => ∃ cur' : Array Value, en = .returned (match tk with | none => .tuple #[] | some m => .slice (some ⟨g, 0, none⟩) m cap) ∧ cur'.size = cur.size ∧ Below w.heap.size (w.setRow g cur') w' ∧
      ∀ (k : Nat) (x : List AV) (j : Nat) (c : AV), es'[k]? = some x → x[j]? = some c → ∃ u, cur'[k * sz + j]? = some u ∧ V0 w M c u
def wriS (st : VS) (d : Option Tmp) (id e sz : Nat) (es' : List (List AV)) : Option Nat → VS
  | none => VS.put ⟨st.s, st.h.set id (some (.arr e sz false es'))⟩ d (.lit (.tuple #[]))
  | some m => VS.put ⟨st.s, st.h.set id none⟩ d (.sl sz (es'.take m))
theorem write_ok (R : Rel M0 w0 N p st a w) {o : Oper} {c : Call} {k : FuncId} {id e sz : Nat} {es es' : List (List AV)} {rest : List AV} {tk : Option Nat} {K' : Act → World → Prop} {Q : Exit → Act → World → Prop} (hd : dstB N o = true) (hop : o.op = .call c) (hc : calleeA (ev st) c = some (k, .osl id :: rest))
    (hi : st.h[id]? = some (some (.arr e sz false es))) (hp : rest.all (pureA 5) = true) (hne : o.dst ≠ none) (h : VCw P k e sz es es' rest tk) (hk : ∀ p a w, Rel M0 w0 N p (wriS st o.dst id e sz es' tk) a w → K' a w) : o.wp P a w K' Q := by
  obtain ⟨dst, op, ty, pos, after, guard⟩ := o
  have hlt := dstB_lt hd
  simp only at hop hlt hk hne
  subst hop
  obtain ⟨callee, cargs, cts⟩ := c
  obtain ⟨hgo, hl, hes, hm, hcalls⟩ := h
  obtain ⟨vs, hrun, hlen, hvs⟩ := call_enter (P := P) (dst := dst) (ty := ty) (pos := pos) (after := after) (guard := guard) (fun x _ => R.eval x) hc hgo
  obtain ⟨v0, vs, rfl⟩ : ∃ v0 t, vs = v0 :: t := by cases vs with | nil => simp at hlen | cons x t => exact ⟨x, t, rfl⟩
  obtain ⟨A, n, cp, hu, hid, ho⟩ := (hvs 0 _ _ rfl rfl).osl_inv
  have hO := ho _ _ _ _ hi
  obtain ⟨o1, o2, o3⟩ := R.objs id _ hi
  rw [if_neg (by simp)] at o3
  obtain ⟨q1, cur', q2, q3, q4⟩ := o3
  unfold Osl at hO
  rw [if_neg (by simp)] at hO
  obtain ⟨cap, cur, e1, e2, e3, e4, e5⟩ := hO
  have hcc : cur' = cur := by
    rw [q2] at e2
    injection e2 with e2
    injection e2 with e2
  subst hcc
  rw [e1] at hrun
  unfold Oper.wp
  rw [hrun]
  simp only [Oper.upon]
  refine (hcalls w (Mof M0 st.h p) (p id) cap cur' vs R.lt (.inr ⟨id, _, hi, rfl, rfl⟩) e2 e3 e4 e5 (fun k x j c hk hj => q4 k x j c hk hj) (by simpa using hlen) fun i b v hb hv => (hvs (i + 1) b v hb hv).pure 5 (List.all_eq_true.1 hp b (List.mem_of_getElem? hb))).mono ?_
  rintro en w' ⟨cur2, rfl, hcs, hb, hv⟩
  have W : Rel M0 w0 N p ⟨st.s, st.h.set id (some (.arr e sz false es'))⟩ a (w.setRow (p id) cur2) := by
    refine R.write hi rfl rfl (setRow_size w _ _).symm rfl rfl rfl (fun b hb => setRow_block w _ _ b hb) rfl (fun e' sz' nl' es2 v he ho => ?_) fun _ hV0 => ⟨o1, hes, ?_⟩
    · injection he with r1 r2 r3 r4
      subst r1 r2 r3 r4
      have := ho _ _ _ _ rfl
      unfold Osl at this ⊢
      simp only [Bool.false_eq_true, if_false] at this ⊢
      obtain ⟨cap2, cur3, b1, b2, b3, b4⟩ := this
      obtain rfl : cur3 = cur' := by rw [e2] at b2; injection b2 with b2; injection b2 with b2; exact b2.symm
      rw [hl]
      exact ⟨cap2, cur2, b1, setRow_heap w (p id) cur3 _ e _ e2, by rw [hcs, b3], b4⟩
    · rw [if_neg (by simp)]
      refine ⟨q1, cur2, setRow_heap w (p id) cur' _ e _ e2, by rw [hcs, hl]; exact q3, fun k x j c hk hj => ?_⟩
      obtain ⟨u, hu, hvu⟩ := hv k x j c hk hj
      exact ⟨u, hu, hV0 hvu⟩
  have hsz : (w.setRow (p id) cur2).heap.size = w.heap.size := setRow_size w _ _
  have W' := W.later (by rw [hsz]; exact hb)
  have hid2 : (st.h.set id (some (.arr e sz false es')))[id]? = some (some (.arr e sz false es')) := List.getElem?_set_self hid
  cases tk with
  | none => exact hk p _ _ (W'.put hlt (.base _ _ (.lit _)))
  | some m =>
    cases dst with
    | none => exact absurd rfl hne
    | some d =>
      have hge := (Array.getElem?_eq_some_iff.1 e2).1
      have hB : w'.heap[p id]? = some (.cells cur2 e (0, 0)) := by
        rw [hb.block (p id) (by omega)]
        exact setRow_heap w (p id) cur' _ e _ e2
      have C := W'.cut (m := m) hid2 (by rw [hl]; exact hm m rfl) hB (by rw [hl]; exact e4) (hlt d rfl)
      rw [List.set_set] at C
      exact hk p _ _ C
theorem VRunW_ok {ow : List Nat} {ops : List Oper} {K : VS → Prop} {Q : Exit → Act → World → Prop} {l2 : List Oper} (hops : ops.all (dstB N) = true) (hk : ∀ p st a w, Rel M0 w0 N p st a w → K st → wpList P ops.toArray Q l2 a w) :
    ∀ (l : List Oper) (p : Nat → Nat) (st : VS) (a : Act) (w : World), l.all (dstB N) = true → Rel M0 w0 N p st a w → VRun P ow ops l st K → wpList P ops.toArray Q (l ++ l2) a w
  | [], p, st, a, w, _, R, h => hk p st a w R h
  | o :: l, p, st, a, w, hl, R, h => by
    simp only [List.all_cons, Bool.and_eq_true] at hl
    have ih := fun p st a w => VRunW_ok (ow := ow) (l2 := l2) hops hk l p st a w hl.2
    refine wpList_step fun KK hKK => ?_
    simp only [VRun, VOp] at h
    have hdo : VDo P ow o st (fun st' => VRun P ow ops l st' K) → o.wp P a w KK Q := fun h => VDo_ok R hl.1 h fun p st a w R h => hKK _ _ (ih p st a w R h)
    have hsk : VRun P ow ops l (st.put o.dst (.lit undef)) K → KK (a.put o.dst undef) w := fun h => hKK _ _ (ih p _ _ w (R.put (dstB_lt hl.1) (.base _ _ (.lit _))) h)
    split at h
    · rename_i hg
      simp only [Region.wanted, hg, if_true]
      exact hdo h
    · rename_i j want hg
      obtain ⟨hy1, hy2⟩ := yielded_lit (j := j) R hops
      simp only [Region.wanted, hg]
      split at h
      · rename_i b hb
        rw [hy1 b hb]
        by_cases hw : b = want
        · subst hw
          rw [if_pos (by simp)]
          rw [if_pos rfl] at h
          exact hdo h
        · rw [if_neg (by simpa using hw)]
          rw [if_neg hw] at h
          exact hsk h
      · rename_i vs hb
        rw [hy2 vs hb, if_neg (by simp)]
        exact hsk h
      · exact h.elim
/-- A region with a call that writes into a row of the call's own, which is its first argument. -/
theorem vregionW {rid : Nat} {l l1 l2 : List Oper} {o : Oper} (ow : List Nat) (n : Nat) (hl : l.take n = l1 ∧ l.drop n = o :: l2) (h : VRun P ow l l1 st fun st1 => ∃ c k id e sz es es' rest tk, o.guard = none ∧ o.dst ≠ none ∧ o.op = .call c ∧ calleeA (ev st1) c = some (k, .osl id :: rest) ∧ st1.h[id]? = some (some (.arr e sz false es)) ∧ rest.all (pureA 5) = true ∧
    VCw P k e sz es es' rest tk ∧ VRun P ow l l2 (wriS st1 o.dst id e sz es' tk) (Q .normal)) : VWp P M0 w0 N (.region rid l.toArray false) Q st := fun hB p a w R => by
  have hB' : l.all (dstB N) = true := by simpa [codeB] using hB
  have hsplit : l = l1 ++ o :: l2 := by rw [← hl.1, ← hl.2, List.take_append_drop]
  have hB1 : l1.all (dstB N) = true := by
    rw [hsplit, List.all_append, Bool.and_eq_true] at hB'
    exact hB'.1
  have hB2 : dstB N o = true ∧ l2.all (dstB N) = true := by
    rw [hsplit, List.all_append, Bool.and_eq_true, List.all_cons, Bool.and_eq_true] at hB'
    exact hB'.2
  refine wp_region_lit ?_
  have := VRunW_ok (P := P) (M0 := M0) (w0 := w0) (N := N) (ow := ow) (ops := l) (Q := fun e a' w' => ∃ st' p', Rel M0 w0 N p' st' a' w' ∧ Q e st') (l2 := o :: l2) hB' (fun p st a w R h => by
    obtain ⟨c, k, id, e, sz, es, es', rest, tk, hg, hne, hop, hc, hi, hp, hw, hr⟩ := h
    refine wpList_step fun KK hKK => ?_
    simp only [Region.wanted, hg, if_true]
    exact write_ok R hB2.1 hop hc hi hp hne hw fun p a w R => hKK _ _ (VRun_ok (ow := ow) hB' (fun p st a w R h => ⟨st, p, R, h⟩) l2 p _ a w hB2.2 R hr)) l1 p st a w hB1 R h
  rw [hsplit] at this ⊢
  exact this
end
end Go.Proofs.Ytmfmpagfjgpodaa
