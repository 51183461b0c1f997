/- An append to a row of the call's own: of every program; no condition. -/
import Derived.Test.YtmfmpagfjgpodaaVN
namespace Go.Proofs.Ytmfmpagfjgpodaa
open Go.RowKit
section
variable {P : Program} {M0 : Nat → Prop} {w0 : World} {N : Nat} {p : Nat → Nat} {st : VS} {a : Act} {w : World}
theorem V1.purge {w w' : World} {M M' : Nat → Prop} {h h' : Hp} {p p' : Nat → Nat} {id : Nat} (hk : Keeps M w w') (hM : ∀ b, b < w.heap.size → ¬ M b → ¬ M' b) (hl : h.length ≤ h'.length) (hp : ∀ i, i ≠ id → p' i = p i)
    (hO : ∀ i e sz nl es v, i ≠ id → h'[i]? = some (some (.arr e sz nl es)) → (∀ e sz nl es, h[i]? = some (some (.arr e sz nl es)) → Osl w (p i) e sz nl es.length v) → Osl w' (p i) e sz nl es.length v) :
    ∀ (n : Nat) (av : AV) (v : Value), V1 w M h p av v → noOsl id n av = true → V1 w' M' h' p' av v
  | 0, _, _, _, hb => by simp [noOsl] at hb
  | n + 1, av, v, hv, hb => by
    have ih := V1.purge (w := w) (p := p) (h := h) hk hM hl hp hO n
    cases hv with
    | base _ _ h0 => exact .base _ _ (h0.keep hk hM)
    | agg cs us hl h1 hv =>
      simp only [noOsl] at hb
      exact .agg cs us hl h1 fun i c u hc hu => ih c u (hv i c u hc hu) (List.all_eq_true.1 hb c (List.mem_of_getElem? hc))
    | tup cs us hl hv =>
      simp only [noOsl] at hb
      exact .tup cs us hl fun i c u hc hu => ih c u (hv i c u hc hu) (List.all_eq_true.1 hb c (List.mem_of_getElem? hc))
    | fn f x y us vs hl hl' hv hv' =>
      simp only [noOsl, Bool.and_eq_true] at hb
      exact .fn f x y us vs hl hl' (fun i c u hc hu => ih c u (hv i c u hc hu) (List.all_eq_true.1 hb.1 c (List.mem_of_getElem? hc))) (fun i c u hc hu => ih c u (hv' i c u hc hu) (List.all_eq_true.1 hb.2 c (List.mem_of_getElem? hc)))
    | iface t x u hv => exact .iface t x u (ih x u hv (by simpa [noOsl] using hb))
    | ref i off hid => rw [← hp i (by simpa [noOsl] using hb)]; exact .ref i off (Nat.lt_of_lt_of_le hid hl)
    | aref i sz k off hid => rw [← hp i (by simpa [noOsl] using hb)]; exact .aref i sz k off (Nat.lt_of_lt_of_le hid hl)
    | osl i A m c hid hv =>
      have hn : i ≠ id := by simpa [noOsl] using hb
      exact .osl i A m c (Nat.lt_of_lt_of_le hid hl) fun e sz nl es he => by rw [hp i hn]; exact hO i e sz nl es _ hn he hv
theorem lkp_map (id : Nat) : ∀ (s : List (Nat × AV)) (i : Nat), lkp (s.map fun q => (q.1, purge id q.2)) i = purge id (lkp s i) ∨ lkp (s.map fun q => (q.1, purge id q.2)) i = .any
  | [], i => .inr rfl
  | (d, v) :: r, i => by
    simp only [List.map_cons, lkp]
    split
    · exact .inl rfl
    · exact lkp_map id r i
theorem Rel.append {w' : World} {id g : Nat} {e : TypeId} {sz : Nat} {nl : Bool} {es es2 : List (List AV)} {d : Nat} {A : Option Addr} {n c : Nat} (R : Rel M0 w0 N p st a w) (hd : d < N) (hi : st.h[id]? = some (some (.arr e sz nl es)))
    (_hge : w0.heap.size ≤ g) (hg : g = w.heap.size ∨ (nl = false ∧ g = p id)) (hb : Below w0.heap.size w w') (hblk : ∀ b, b < w.heap.size → ¬ (nl = false ∧ b = p id) → w'.heap[b]? = w.heap[b]?)
    (hob : (∀ {x : AV} {u : Value}, V0 w (Mof M0 st.h p) x u → V0 w' (Mof M0 ((st.h.set id (some (.arr e sz false es2))).map (purgeO id)) (fun i => if i = id then g else p i)) x u) → ObOK w0.heap.size w' (Mof M0 ((st.h.set id (some (.arr e sz false es2))).map (purgeO id)) (fun i => if i = id then g else p i)) ((st.h.set id (some (.arr e sz false es2))).map (purgeO id)) (fun i => if i = id then g else p i) id (.arr e sz false es2))
    (hv : Osl w' g e sz false es2.length (.slice A n c)) :
    Rel M0 w0 N (fun i => if i = id then g else p i) ⟨(d, .osl id) :: st.s.map (fun q => (q.1, purge id q.2)), (st.h.set id (some (.arr e sz false es2))).map (purgeO id)⟩ (a.put (some d) (.slice A n c)) w' := by
  generalize hh' : (st.h.set id (some (.arr e sz false es2))).map (purgeO id) = h' at *
  generalize hp' : (fun i => if i = id then g else p i) = p' at *
  have hidl : id < st.h.length := (List.getElem?_eq_some_iff.1 hi).1
  have hlen : h'.length = st.h.length := by rw [← hh']; simp
  have hpid : p' id = g := by rw [← hp']; simp
  have hpo : ∀ i, i ≠ id → p' i = p i := fun i hn => by rw [← hp']; simp [hn]
  have hobs : ∀ i o, h'[i]? = some (some o) → (i = id ∧ o = .arr e sz false es2) ∨ (i ≠ id ∧ st.h[i]? = some (some o) ∧ ∀ cs, o = .box cs → cs.all (noOsl id 5) = true) := by
    intro i o hio
    rw [← hh', List.getElem?_map] at hio
    obtain ⟨x, hx, hpx⟩ := Option.map_eq_some_iff.1 hio
    rw [List.getElem?_set] at hx
    by_cases he : id = i
    · rw [if_pos he, if_pos (by omega)] at hx
      simp only [Option.some.injEq] at hx
      subst hx
      simp only [purgeO, Option.some.injEq] at hpx
      exact .inl ⟨he.symm, hpx.symm⟩
    · rw [if_neg he] at hx
      refine .inr ⟨fun h => he h.symm, ?_⟩
      cases x with
      | none => simp [purgeO] at hpx
      | some y =>
        cases y with
        | box cs =>
          simp only [purgeO] at hpx
          split at hpx
          · rename_i hno
            simp only [Option.some.injEq] at hpx
            subst hpx
            exact ⟨hx, fun cs' hc => by injection hc with hc; subst hc; exact hno⟩
          · cases hpx
        | arr e1 s1 n1 l1 =>
          simp only [purgeO, Option.some.injEq] at hpx
          subst hpx
          exact ⟨hx, fun cs' hc => by cases hc⟩
  have hlive : nl = false → live (.arr e sz nl es) = true := fun h => by subst h; rfl
  have hM : ∀ c, c < w.heap.size → ¬ Mof M0 st.h p c → ¬ Mof M0 h' p' c := by
    intro c hc hn hm
    rcases hm with hm | ⟨i, o, hio, hlo, hp⟩
    · exact hn (.inl hm)
    · rcases hobs i o hio with ⟨rfl, rfl⟩ | ⟨hne, hio', _⟩
      · rw [hpid] at hp
        rcases hg with hg | ⟨hnl, hg⟩
        · omega
        · exact hn (.inr ⟨i, _, hi, hlive hnl, by omega⟩)
      · exact hn (.inr ⟨i, o, hio', hlo, by rw [← hpo i hne]; exact hp⟩)
  have hk : Keeps (Mof M0 st.h p) w w' := ⟨hb.size, fun b hbl hn => hblk b hbl fun ⟨hnl, he⟩ => hn (.inr ⟨id, _, hi, hlive hnl, he.symm⟩)⟩
  have hne : ∀ i o, i ≠ id → st.h[i]? = some (some o) → live o = true → ¬ (nl = false ∧ p i = p id) := fun i o hn hio hlo ⟨hnl, he⟩ => hn (R.inj i id o _ hio hi hlo (hlive hnl) he)
  have hOs : ∀ i e sz nl es v, i ≠ id → h'[i]? = some (some (.arr e sz nl es)) → (∀ e sz nl es, st.h[i]? = some (some (.arr e sz nl es)) → Osl w (p i) e sz nl es.length v) → Osl w' (p i) e sz nl es.length v := by
    intro i e sz nl es v hn he hv
    rcases hobs i _ he with ⟨h, _⟩ | ⟨_, hio, _⟩
    · exact absurd h hn
    · have ho := hv _ _ _ _ hio
      unfold Osl at ho ⊢
      cases nl
      · simp only [Bool.false_eq_true, if_false] at ho ⊢
        obtain ⟨cap, cur, h1, h2, h3⟩ := ho
        exact ⟨cap, cur, h1, (hblk _ (Array.getElem?_eq_some_iff.1 h2).1 (hne i _ hn hio rfl)).trans h2, h3⟩
      · exact ho
  have hV : ∀ (n : Nat) {x : AV} {u : Value}, V1 w (Mof M0 st.h p) st.h p x u → noOsl id n x = true → V1 w' (Mof M0 h' p') h' p' x u := fun n x u hx hn => V1.purge hk hM (by omega) hpo hOs n x u hx hn
  have hV0 : ∀ {x : AV} {u : Value}, V0 w (Mof M0 st.h p) x u → V0 w' (Mof M0 h' p') x u := fun hx => hx.keep hk hM
  refine ⟨R.defers, by simp [Act.put, R.size], R.below.trans hb, R.m0, fun i => ?_, fun i o hio => ?_, fun i i' o o' hio hio' hlo hlo' hpp => ?_⟩
  · rw [getD_put a d _ i (by rw [R.size]; exact hd)]
    simp only [lkp]
    split
    · refine .osl id A n c (by omega) fun e' sz' nl' es' he => ?_
      rcases hobs id _ he with ⟨_, h⟩ | ⟨h, _⟩
      · injection h with h1 h2 h3 h4
        subst h1 h2 h3 h4
        rw [hpid]
        exact hv
      · exact absurd rfl h
    · rcases lkp_map id st.s i with h | h
      · rw [h]
        unfold Go.Proofs.Ytmfmpagfjgpodaa.purge
        split
        · rename_i hn
          exact hV 5 (R.slots i) hn
        · exact .base _ _ (.any _)
      · rw [h]
        exact .base _ _ (.any _)
  · rcases hobs i o hio with ⟨rfl, rfl⟩ | ⟨hn, hio', hbx⟩
    · exact hob hV0
    · have ho := R.objs i o hio'
      cases o with
      | box cs =>
        obtain ⟨h1, cur, e, hg, h2, h3, h4⟩ := ho
        have hall := hbx cs rfl
        exact ⟨by rw [hpo i hn]; exact h1, cur, e, by rw [hpo i hn]; exact (hblk _ (Array.getElem?_eq_some_iff.1 hg).1 (hne i _ hn hio' rfl)).trans hg, h2, h3, fun j c hj => let ⟨u, hu, hv⟩ := h4 j c hj; ⟨u, hu, hV 5 hv (List.all_eq_true.1 hall c (List.mem_of_getElem? hj))⟩⟩
      | arr e sz nl es =>
        obtain ⟨h1, h2, hr⟩ := ho
        refine ⟨h1, h2, ?_⟩
        cases nl
        · simp only [Bool.false_eq_true, if_false] at hr ⊢
          obtain ⟨h3, cur, hg, h4, h5⟩ := hr
          exact ⟨by rw [hpo i hn]; exact h3, cur, by rw [hpo i hn]; exact (hblk _ (Array.getElem?_eq_some_iff.1 hg).1 (hne i _ hn hio' rfl)).trans hg, h4, fun k x j c hk hj => let ⟨u, hu, hv⟩ := h5 k x j c hk hj; ⟨u, hu, hV0 hv⟩⟩
        · exact hr
  · have hlt : ∀ i o, i ≠ id → st.h[i]? = some (some o) → live o = true → g ≠ p i := by
      intro i o hn h1 hl he
      rcases hg with hg | ⟨hnl, hg⟩
      · have := (R.objs i o h1).lt hl
        omega
      · exact hne i o hn h1 hl ⟨hnl, by omega⟩
    rcases hobs i o hio with ⟨rfl, rfl⟩ | ⟨hn, h1, _⟩ <;> rcases hobs i' o' hio' with ⟨rfl, rfl⟩ | ⟨hn', h2, _⟩
    · rfl
    · rw [hpid, hpo i' hn'] at hpp
      exact absurd hpp (hlt i' o' hn' h2 hlo')
    · rw [hpid, hpo i hn] at hpp
      exact absurd hpp.symm (hlt i o hn h1 hlo)
    · rw [hpo i hn, hpo i' hn'] at hpp
      exact R.inj i i' o o' h1 h2 hlo hlo' hpp
theorem rows_at {es : List (List AV)} {sz : Nat} {u : Nat → Nat → Value} {k : Nat} {x : List AV} {j : Nat} {c : AV} (hk : es[k]? = some x) (hj : x[j]? = some c) (hl : x.length = sz) :
    ((List.range es.length).flatMap fun k => (List.range sz).map fun j => if k < es.length then u k j else .bool false)[k * sz + j]? = some (u k j) := by
  have hkl := (List.getElem?_eq_some_iff.1 hk).1
  have hjl := (List.getElem?_eq_some_iff.1 hj).1
  have key : ∀ (n b : Nat), b + k < b + n → (((List.range' b n).flatMap fun k => (List.range sz).map fun j => if k < es.length then u k j else Value.bool false))[k * sz + j]? = some (if b + k < es.length then u (b + k) j else .bool false) := by
    clear hkl hk
    induction k with
    | zero =>
      intro n b hn
      cases n with
      | zero => omega
      | succ n =>
        rw [List.range'_succ, List.flatMap_cons, List.getElem?_append_left (by simp; omega)]
        simp [show j < sz by omega]
    | succ k ih =>
      intro n b hn
      cases n with
      | zero => omega
      | succ n =>
        rw [List.range'_succ, List.flatMap_cons, List.getElem?_append_right (by simp [Nat.add_mul]; omega)]
        have := ih n (b + 1) (by omega)
        simp only [List.length_map, List.length_range]
        rw [show (k + 1) * sz + j - sz = k * sz + j by rw [Nat.add_mul]; omega, this, show b + 1 + k = b + (k + 1) by omega]
  have := key es.length 0 (by omega)
  rw [show List.range es.length = List.range' 0 es.length from List.range_eq_range', this]
  simp [hkl]
end
end Go.Proofs.Ytmfmpagfjgpodaa
