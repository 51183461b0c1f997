/- Texts in one: Walks on plain values: the layer; of every program; no condition. -/
import Derived.Test.YtmfmpagfjgpodaaGreatDoorFW2
import Derived.IntWalk
import Derived.Deep.LoopGhost
import Derived.Test.YtmfmpagfjgpodaaGreatDoorFW0
/-! VWalk: Walks on plain values: the layer; of every program; no condition. -/
/-! Variables and rows of the call's own are made and written to as the plain walk tells: of every program; no condition. -/
namespace Go.Proofs.YtmfmpagfjgpodaaGreatDoor
open Go.RowKit
section
variable {P : Program} {M0 : Nat → Prop} {w0 : World} {N : Nat} {p : Nat → Nat} {st : VS} {a : Act} {w : World}

/-- The blocks of one more variable or row. -/
def pNew (p : Nat → Nat) (n b : Nat) (i : Nat) : Nat := if i = n then b else p i
theorem get_new {h : Hp} {x : Option Ob} {id : Nat} {ob : Ob} (hi : (h ++ [x])[id]? = some (some ob)) : (id < h.length ∧ h[id]? = some (some ob)) ∨ (id = h.length ∧ x = some ob) := by
  rcases Nat.lt_trichotomy id h.length with hlt | heq | hgt
  · rw [List.getElem?_append_left hlt] at hi
    exact .inl ⟨hlt, hi⟩
  · subst heq
    rw [List.getElem?_append_right (Nat.le_refl _)] at hi
    simp at hi
    exact .inr ⟨rfl, hi⟩
  · rw [List.getElem?_eq_none (by simp; omega)] at hi
    cases hi
theorem get_old {h : Hp} {x : Option Ob} {id : Nat} (hi : id < h.length) : (h ++ [x])[id]? = h[id]? := List.getElem?_append_left hi
/-- One more variable or row, in a world that is later. -/
theorem Rel.grow {w' : World} {ob : Ob} {b : Nat} {d : Nat} {av : AV} {v : Value} (R : Rel M0 w0 N p st a w) (hb : Below w.heap.size w w') (hd : d < N) (hb0 : live ob = true → w.heap.size ≤ b)
    (hob : ObOK w0.heap.size w' (Mof M0 (st.h ++ [some ob]) (pNew p st.h.length b)) (st.h ++ [some ob]) (pNew p st.h.length b) st.h.length ob)
    (hv : V1 w' (Mof M0 (st.h ++ [some ob]) (pNew p st.h.length b)) (st.h ++ [some ob]) (pNew p st.h.length b) av v) :
    Rel M0 w0 N (pNew p st.h.length b) ⟨(d, av) :: st.s, st.h ++ [some ob]⟩ (a.put (some d) v) w' := by
  have hp : ∀ id, id < st.h.length → pNew p st.h.length b id = p id := fun id hid => by simp [pNew, Nat.ne_of_lt hid]
  have hpn : pNew p st.h.length b st.h.length = b := by simp [pNew]
  have hM : ∀ c, c < w.heap.size → ¬ Mof M0 st.h p c → ¬ Mof M0 (st.h ++ [some ob]) (pNew p st.h.length b) c := by
    intro c hc hn hm
    rcases hm with hm | ⟨id, ob', hi, hl, hpc⟩
    · exact hn (.inl hm)
    · rcases get_new hi with ⟨hlt, hi'⟩ | ⟨rfl, hx⟩
      · exact hn (.inr ⟨id, ob', hi', hl, by rw [← hp id hlt]; exact hpc⟩)
      · obtain rfl := Option.some.inj hx
        rw [hpn] at hpc
        have := hb0 hl
        omega
  have hV : ∀ {x : AV} {u : Value}, V1 w (Mof M0 st.h p) st.h p x u → V1 w' (Mof M0 (st.h ++ [some ob]) (pNew p st.h.length b)) (st.h ++ [some ob]) (pNew p st.h.length b) x u := fun hx =>
    hx.keep (.of_below hb) hM (by simp) hp fun id e sz nl es u hid he hv => by
      rw [get_old hid] at he
      exact (hv e sz nl es he).below hb
  have hobs : ∀ id ob', (st.h ++ [some ob])[id]? = some (some ob') → (id < st.h.length ∧ st.h[id]? = some (some ob')) ∨ (id = st.h.length ∧ ob = ob') := fun id ob' hi => by
    rcases get_new hi with h | ⟨h1, h2⟩
    · exact .inl h
    · exact .inr ⟨h1, Option.some.inj h2⟩
  refine ⟨R.defers, by simp [Act.put, R.size], below_step R.below hb, R.m0, fun i => ?_, fun id ob' hi => ?_, fun id id' ob1 ob2 hi hi' hl hl' hpp => ?_⟩
  · rw [getD_put a d v i (by rw [R.size]; exact hd)]
    simp only [lkp]
    split
    · exact hv
    · exact hV (R.slots i)
  · rcases hobs id ob' hi with ⟨hlt, hi'⟩ | ⟨rfl, rfl⟩
    · have ho := (R.objs id ob' hi').later hb
      cases ob' with
      | mpo kf kvs =>
        obtain ⟨h1, h2, es, clock, hg, h3⟩ := ho
        exact ⟨by rw [hp id hlt]; exact h1, h2, es, clock, by rw [hp id hlt]; exact hg, h3⟩
      | box cs =>
        obtain ⟨h1, cur, e, hg, h2, h3, h4⟩ := R.objs id _ hi'
        refine ⟨by rw [hp id hlt]; exact h1, cur, e, by rw [hp id hlt]; exact (hb.block _ (Array.getElem?_eq_some_iff.1 hg).1).trans hg, h2, h3, fun j c hj => let ⟨u, hu, hv⟩ := h4 j c hj; ⟨u, hu, hV hv⟩⟩
      | arr e sz nl es =>
        obtain ⟨h1, h2, hr⟩ := R.objs id _ hi'
        refine ⟨h1, h2, ?_⟩
        split at hr
        · rename_i hn
          rw [if_pos hn]
          exact hr
        · rename_i hn
          rw [if_neg hn]
          obtain ⟨h3, cur, hg, h4, h5⟩ := hr
          exact ⟨by rw [hp id hlt]; exact h3, cur, by rw [hp id hlt]; exact (hb.block _ (Array.getElem?_eq_some_iff.1 hg).1).trans hg, h4, fun k x j c hk hj => let ⟨u, hu, hv⟩ := h5 k x j c hk hj; ⟨u, hu, hv.keep (.of_below hb) hM⟩⟩
    · exact hob
  · rcases hobs id ob1 hi with ⟨hlt, hi1⟩ | ⟨rfl, rfl⟩ <;> rcases hobs id' ob2 hi' with ⟨hlt', hi2⟩ | ⟨rfl, rfl⟩
    · rw [hp id hlt, hp id' hlt'] at hpp
      exact R.inj id id' _ _ hi1 hi2 hl hl' hpp
    · rw [hp id hlt, hpn] at hpp
      have h1 := (R.objs id ob1 hi1).lt hl
      have h2 := hb0 hl'
      omega
    · rw [hp id' hlt', hpn] at hpp
      have h1 := (R.objs id' ob2 hi2).lt hl'
      have h2 := hb0 hl
      omega
    · rfl
/-- What may be kept while one row is written to. -/
theorem Rel.write {w' : World} {h' : Hp} {id : Nat} {ob ob' : Ob} (R : Rel M0 w0 N p st a w) (hi : st.h[id]? = some (some ob)) (hl : live ob = true) (hl' : live ob' = true) (hsz : w.heap.size = w'.heap.size) (hos : w'.os = w.os) (htp : w'.tape = w.tape) (hou : w'.output = w.output)
    (hblk : ∀ b, b ≠ p id → w'.heap[b]? = w.heap[b]?) (hh : h' = st.h.set id (some ob'))
    (hosl : ∀ e sz nl es v, ob' = .arr e sz nl es → (∀ e sz nl es, ob = .arr e sz nl es → Osl w (p id) e sz nl es.length v) → Osl w' (p id) e sz nl es.length v)
    (hob : (∀ {x : AV} {u : Value}, V1 w (Mof M0 st.h p) st.h p x u → V1 w' (Mof M0 h' p) h' p x u) → (∀ {x : AV} {u : Value}, V0 w (Mof M0 st.h p) x u → V0 w' (Mof M0 h' p) x u) → ObOK w0.heap.size w' (Mof M0 h' p) h' p id ob') :
    Rel M0 w0 N p ⟨st.s, h'⟩ a w' := by
  subst hh
  have hid : id < st.h.length := (List.getElem?_eq_some_iff.1 hi).1
  have hobs : ∀ i o, (st.h.set id (some ob'))[i]? = some (some o) → (i = id ∧ o = ob') ∨ (i ≠ id ∧ st.h[i]? = some (some o)) := by
    intro i o hio
    rw [List.getElem?_set] at hio
    by_cases he : id = i
    · rw [if_pos he, if_pos (by omega)] at hio
      simp only [Option.some.injEq] at hio
      exact .inl ⟨he.symm, hio.symm⟩
    · rw [if_neg he] at hio
      exact .inr ⟨fun h => he h.symm, hio⟩
  have hM : ∀ c, ¬ Mof M0 st.h p c → ¬ Mof M0 (st.h.set id (some ob')) p c := by
    intro c hn hm
    rcases hm with hm | ⟨i, o, hio, hlo, hp⟩
    · exact hn (.inl hm)
    · rcases hobs i o hio with ⟨rfl, rfl⟩ | ⟨_, hio'⟩
      · exact hn (.inr ⟨i, ob, hi, hl, hp⟩)
      · exact hn (.inr ⟨i, o, hio', hlo, hp⟩)
  have hk : Keeps (Mof M0 st.h p) w w' := ⟨by omega, fun b _ hb => hblk b fun he => hb (.inr ⟨id, ob, hi, hl, he.symm⟩)⟩
  have hne : ∀ i o, i ≠ id → st.h[i]? = some (some o) → live o = true → p i ≠ p id := fun i o hn hio hlo he => hn (R.inj i id o ob hio hi hlo hl he)
  have hOs : ∀ i e sz nl es v, i ≠ id → st.h[i]? = some (some (.arr e sz nl es)) → Osl w (p i) e sz nl es.length v → Osl w' (p i) e sz nl es.length v := by
    intro i e sz nl es v hn hio ho
    unfold Osl at ho ⊢
    cases nl
    · simp only [Bool.false_eq_true, if_false] at ho ⊢
      obtain ⟨cap, cur, h1, h2, h3⟩ := ho
      exact ⟨cap, cur, h1, (hblk _ (hne i _ hn hio rfl)).trans h2, h3⟩
    · exact ho
  have hV : ∀ {x : AV} {u : Value}, V1 w (Mof M0 st.h p) st.h p x u → V1 w' (Mof M0 (st.h.set id (some ob')) p) (st.h.set id (some ob')) p x u := fun hx =>
    hx.keep hk (fun b _ => hM b) (by simp) (fun _ _ => rfl) fun i e sz nl es v hil he hv => by
      rcases hobs i _ he with ⟨rfl, ho⟩ | ⟨hn, hio⟩
      · exact hosl e sz nl es v ho.symm fun e' sz' nl' es' hob => hv e' sz' nl' es' (by rw [hi, hob])
      · exact hOs i e sz nl es v hn hio (hv _ _ _ _ hio)
  have hV0 : ∀ {x : AV} {u : Value}, V0 w (Mof M0 st.h p) x u → V0 w' (Mof M0 (st.h.set id (some ob')) p) x u := fun hx => hx.keep hk fun b _ => hM b
  have hge : w0.heap.size ≤ p id := (R.objs id ob hi).ge hl
  refine ⟨R.defers, R.size, R.below.trans ⟨hos, htp, hou, by omega, fun k hk' => hblk k (by omega)⟩, R.m0, fun i => hV (R.slots i), fun i o hio => ?_, fun i i' o o' hio hio' hlo hlo' hpp => ?_⟩
  · rcases hobs i o hio with ⟨rfl, rfl⟩ | ⟨hn, hio'⟩
    · exact hob hV hV0
    · have ho := R.objs i o hio'
      cases o with
      | mpo kf kvs =>
        obtain ⟨h1, h2, es, clock, hg, h3⟩ := ho
        exact ⟨h1, h2, es, clock, (hblk _ (hne i _ hn hio' rfl)).trans hg, h3⟩
      | box cs =>
        obtain ⟨h1, cur, e, hg, h2, h3, h4⟩ := ho
        exact ⟨h1, cur, e, (hblk _ (hne i _ hn hio' rfl)).trans hg, h2, h3, fun j c hj => let ⟨u, hu, hv⟩ := h4 j c hj; ⟨u, hu, hV hv⟩⟩
      | arr e sz nl es =>
        obtain ⟨h1, h2, hr⟩ := ho
        refine ⟨h1, h2, ?_⟩
        cases nl
        · simp only [Bool.false_eq_true, if_false] at hr ⊢
          obtain ⟨h3, cur, hg, h4, h5⟩ := hr
          exact ⟨h3, cur, (hblk _ (hne i _ hn hio' rfl)).trans hg, h4, fun k x j c hk hj => let ⟨u, hu, hv⟩ := h5 k x j c hk hj; ⟨u, hu, hV0 hv⟩⟩
        · exact hr
  · rcases hobs i o hio with ⟨rfl, rfl⟩ | ⟨hn, h1⟩ <;> rcases hobs i' o' hio' with ⟨rfl, rfl⟩ | ⟨hn', h2⟩
    · rfl
    · exact absurd hpp.symm (hne i' o' hn' h2 hlo')
    · exact absurd hpp (hne i o hn h1 hlo)
    · exact R.inj i i' o o' h1 h2 hlo hlo' hpp
end
end Go.Proofs.YtmfmpagfjgpodaaGreatDoor

/-! An append to a row of the call's own: of every program; no condition. -/
namespace Go.Proofs.YtmfmpagfjgpodaaGreatDoor
open Go.RowKit
section
variable {P : Program} {M0 : Nat → Prop} {w0 : World} {N : Nat} {p : Nat → Nat} {st : VS} {a : Act} {w : World}
theorem V1.purge {w w' : World} {M M' : Nat → Prop} {h h' : Hp} {p p' : Nat → Nat} {id : Nat} (hk : Keeps M w w') (hM : ∀ b, b < w.heap.size → ¬ M b → ¬ M' b) (hl : h.length ≤ h'.length) (hp : ∀ i, i ≠ id → p' i = p i)
    (hO : ∀ i e sz nl es v, i ≠ id → h'[i]? = some (some (.arr e sz nl es)) → (∀ e sz nl es, h[i]? = some (some (.arr e sz nl es)) → Osl w (p i) e sz nl es.length v) → Osl w' (p i) e sz nl es.length v) :
    ∀ (n : Nat) (av : AV) (v : Value), V1 w M h p av v → noOsl id n av = true → V1 w' M' h' p' av v
  | 0, _, _, _, hb => by simp [noOsl] at hb
  | n + 1, av, v, hv, hb => by
    have ih := V1.purge (w := w) (p := p) (h := h) hk hM hl hp hO n
    cases hv with
    | base _ _ h0 => exact .base _ _ (h0.keep hk hM)
    | agg cs us hl h1 hv =>
      simp only [noOsl] at hb
      exact .agg cs us hl h1 fun i c u hc hu => ih c u (hv i c u hc hu) (List.all_eq_true.1 hb c (List.mem_of_getElem? hc))
    | tup cs us hl hv =>
      simp only [noOsl] at hb
      exact .tup cs us hl fun i c u hc hu => ih c u (hv i c u hc hu) (List.all_eq_true.1 hb c (List.mem_of_getElem? hc))
    | fn f x y us vs hl hl' hv hv' =>
      simp only [noOsl, Bool.and_eq_true] at hb
      exact .fn f x y us vs hl hl' (fun i c u hc hu => ih c u (hv i c u hc hu) (List.all_eq_true.1 hb.1 c (List.mem_of_getElem? hc))) (fun i c u hc hu => ih c u (hv' i c u hc hu) (List.all_eq_true.1 hb.2 c (List.mem_of_getElem? hc)))
    | iface t x u hv => exact .iface t x u (ih x u hv (by simpa [noOsl] using hb))
    | ref i off hid => rw [← hp i (by simpa [noOsl] using hb)]; exact .ref i off (Nat.lt_of_lt_of_le hid hl)
    | aref i sz k off hid => rw [← hp i (by simpa [noOsl] using hb)]; exact .aref i sz k off (Nat.lt_of_lt_of_le hid hl)
    | osl i A m c hid hv =>
      have hn : i ≠ id := by simpa [noOsl] using hb
      exact .osl i A m c (Nat.lt_of_lt_of_le hid hl) fun e sz nl es he => by rw [hp i hn]; exact hO i e sz nl es _ hn he hv
    | mp i hid => rw [← hp i (by simpa [noOsl] using hb)]; exact .mp i (Nat.lt_of_lt_of_le hid hl)
theorem lkp_map (id : Nat) : ∀ (s : List (Nat × AV)) (i : Nat), lkp (s.map fun q => (q.1, purge id q.2)) i = purge id (lkp s i) ∨ lkp (s.map fun q => (q.1, purge id q.2)) i = .any
  | [], i => .inr rfl
  | (d, v) :: r, i => by
    simp only [List.map_cons, lkp]
    split
    · exact .inl rfl
    · exact lkp_map id r i
theorem Rel.append {w' : World} {id g : Nat} {e : TypeId} {sz : Nat} {nl : Bool} {es es2 : List (List AV)} {d : Nat} {A : Option Addr} {n c : Nat} (R : Rel M0 w0 N p st a w) (hd : d < N) (hi : st.h[id]? = some (some (.arr e sz nl es)))
    (_hge : w0.heap.size ≤ g) (hg : g = w.heap.size ∨ (nl = false ∧ g = p id)) (hb : Below w0.heap.size w w') (hblk : ∀ b, b < w.heap.size → ¬ (nl = false ∧ b = p id) → w'.heap[b]? = w.heap[b]?)
    (hob : (∀ {x : AV} {u : Value}, V0 w (Mof M0 st.h p) x u → V0 w' (Mof M0 (purgeH id 0 (st.h.set id (some (.arr e sz false es2)))) (fun i => if i = id then g else p i)) x u) → ObOK w0.heap.size w' (Mof M0 (purgeH id 0 (st.h.set id (some (.arr e sz false es2)))) (fun i => if i = id then g else p i)) (purgeH id 0 (st.h.set id (some (.arr e sz false es2)))) (fun i => if i = id then g else p i) id (.arr e sz false es2))
    (hv : Osl w' g e sz false es2.length (.slice A n c)) :
    Rel M0 w0 N (fun i => if i = id then g else p i) ⟨(d, .osl id) :: st.s.map (fun q => (q.1, purge id q.2)), purgeH id 0 (st.h.set id (some (.arr e sz false es2)))⟩ (a.put (some d) (.slice A n c)) w' := by
  generalize hh' : purgeH id 0 (st.h.set id (some (.arr e sz false es2))) = h' at *
  generalize hp' : (fun i => if i = id then g else p i) = p' at *
  have hidl : id < st.h.length := (List.getElem?_eq_some_iff.1 hi).1
  have hlen : h'.length = st.h.length := by rw [← hh', purgeH_len]; simp
  have hpid : p' id = g := by rw [← hp']; simp
  have hpo : ∀ i, i ≠ id → p' i = p i := fun i hn => by rw [← hp']; simp [hn]
  have hobs : ∀ i o, h'[i]? = some (some o) → (i = id ∧ o = .arr e sz false es2) ∨ (i ≠ id ∧ ∃ o0, st.h[i]? = some (some o0) ∧ live o0 = live o ∧ ((o0 = o ∧ ∀ cs, o = .box cs → cs.all (noOsl id 5) = true) ∨ ∃ cs, o0 = .box cs ∧ o = .box (cs.map (deadC id i)) ∧ cs.all (fun c => noOsl id 5 c || isRow id c) = true)) := by
    intro i o hio
    rw [← hh', purgeH_get] at hio
    obtain ⟨x, hx, hpx⟩ := Option.map_eq_some_iff.1 hio
    rw [Nat.zero_add] at hpx
    rw [List.getElem?_set] at hx
    by_cases he : id = i
    · rw [if_pos he, if_pos (by omega)] at hx
      simp only [Option.some.injEq] at hx
      subst hx
      simp only [purgeO, Option.some.injEq] at hpx
      exact .inl ⟨he.symm, hpx.symm⟩
    · rw [if_neg he] at hx
      refine .inr ⟨fun h => he h.symm, ?_⟩
      cases x with
      | none => simp [purgeO] at hpx
      | some y =>
        cases y with
        | box cs =>
          simp only [purgeO] at hpx
          split at hpx
          · rename_i hno
            simp only [Option.some.injEq] at hpx
            subst hpx
            exact ⟨_, hx, rfl, .inl ⟨rfl, fun cs' hc => by injection hc with hc; subst hc; exact hno⟩⟩
          · split at hpx
            · rename_i hno
              simp only [Option.some.injEq] at hpx
              subst hpx
              exact ⟨_, hx, rfl, .inr ⟨cs, rfl, rfl, hno⟩⟩
            · cases hpx
        | arr e1 s1 n1 l1 =>
          simp only [purgeO, Option.some.injEq] at hpx
          subst hpx
          exact ⟨_, hx, rfl, .inl ⟨rfl, fun cs' hc => by cases hc⟩⟩
        | mpo kf kvs =>
          simp only [purgeO, Option.some.injEq] at hpx
          subst hpx
          exact ⟨_, hx, rfl, .inl ⟨rfl, fun cs' hc => by cases hc⟩⟩
  have hlive : nl = false → live (.arr e sz nl es) = true := fun h => by subst h; rfl
  have hM : ∀ c, c < w.heap.size → ¬ Mof M0 st.h p c → ¬ Mof M0 h' p' c := by
    intro c hc hn hm
    rcases hm with hm | ⟨i, o, hio, hlo, hp⟩
    · exact hn (.inl hm)
    · rcases hobs i o hio with ⟨rfl, rfl⟩ | ⟨hne, o0, hio', hl0, _⟩
      · rw [hpid] at hp
        rcases hg with hg | ⟨hnl, hg⟩
        · omega
        · exact hn (.inr ⟨i, _, hi, hlive hnl, by omega⟩)
      · exact hn (.inr ⟨i, o0, hio', hl0.trans hlo, by rw [← hpo i hne]; exact hp⟩)
  have hk : Keeps (Mof M0 st.h p) w w' := ⟨hb.size, fun b hbl hn => hblk b hbl fun ⟨hnl, he⟩ => hn (.inr ⟨id, _, hi, hlive hnl, he.symm⟩)⟩
  have hne : ∀ i o, i ≠ id → st.h[i]? = some (some o) → live o = true → ¬ (nl = false ∧ p i = p id) := fun i o hn hio hlo ⟨hnl, he⟩ => hn (R.inj i id o _ hio hi hlo (hlive hnl) he)
  have hOs : ∀ i e sz nl es v, i ≠ id → h'[i]? = some (some (.arr e sz nl es)) → (∀ e sz nl es, st.h[i]? = some (some (.arr e sz nl es)) → Osl w (p i) e sz nl es.length v) → Osl w' (p i) e sz nl es.length v := by
    intro i e sz nl es v hn he hv
    rcases hobs i _ he with ⟨h, _⟩ | ⟨_, o0, hio, _, ⟨rfl, _⟩ | ⟨cs, _, hb, _⟩⟩
    · exact absurd h hn
    rotate_left
    · cases hb
    · have ho := hv _ _ _ _ hio
      unfold Osl at ho ⊢
      cases nl
      · simp only [Bool.false_eq_true, if_false] at ho ⊢
        obtain ⟨cap, cur, h1, h2, h3⟩ := ho
        exact ⟨cap, cur, h1, (hblk _ (Array.getElem?_eq_some_iff.1 h2).1 (hne i _ hn hio rfl)).trans h2, h3⟩
      · exact ho
  have hV : ∀ (n : Nat) {x : AV} {u : Value}, V1 w (Mof M0 st.h p) st.h p x u → noOsl id n x = true → V1 w' (Mof M0 h' p') h' p' x u := fun n x u hx hn => V1.purge hk hM (by omega) hpo hOs n x u hx hn
  have hV0 : ∀ {x : AV} {u : Value}, V0 w (Mof M0 st.h p) x u → V0 w' (Mof M0 h' p') x u := fun hx => hx.keep hk hM
  refine ⟨R.defers, by simp [Act.put, R.size], R.below.trans hb, R.m0, fun i => ?_, fun i o hio => ?_, fun i i' o o' hio hio' hlo hlo' hpp => ?_⟩
  · rw [getD_put a d _ i (by rw [R.size]; exact hd)]
    simp only [lkp]
    split
    · refine .osl id A n c (by omega) fun e' sz' nl' es' he => ?_
      rcases hobs id _ he with ⟨_, h⟩ | ⟨h, _⟩
      · injection h with h1 h2 h3 h4
        subst h1 h2 h3 h4
        rw [hpid]
        exact hv
      · exact absurd rfl h
    · rcases lkp_map id st.s i with h | h
      · rw [h]
        unfold Go.Proofs.YtmfmpagfjgpodaaGreatDoor.purge
        split
        · rename_i hn
          exact hV 5 (R.slots i) hn
        · exact .base _ _ (.any _)
      · rw [h]
        exact .base _ _ (.any _)
  · rcases hobs i o hio with ⟨rfl, rfl⟩ | ⟨hn, o0, hio', hl0, ⟨rfl, hbx⟩ | ⟨cs, rfl, rfl, hall⟩⟩
    · exact hob hV0
    rotate_left
    · obtain ⟨h1, cur, e, hg, h2, h3, h4⟩ := R.objs i _ hio'
      refine ⟨by rw [hpo i hn]; exact h1, cur, e, by rw [hpo i hn]; exact (hblk _ (Array.getElem?_eq_some_iff.1 hg).1 (hne i _ hn hio' rfl)).trans hg, by simpa using h2, fun c hc => ?_, fun j c hj => ?_⟩
      · obtain ⟨c0, hc0, rfl⟩ := List.mem_map.1 hc
        unfold deadC
        split
        · exact h3 c0 hc0
        · rfl
      · rw [List.getElem?_map] at hj
        obtain ⟨c0, hj0, rfl⟩ := Option.map_eq_some_iff.1 hj
        obtain ⟨u, hu, hv⟩ := h4 j c0 hj0
        refine ⟨u, hu, ?_⟩
        unfold deadC
        split
        · rename_i hno
          exact hV 5 hv hno
        · rename_i hno
          have := List.all_eq_true.1 hall c0 (List.mem_of_getElem? hj0)
          rw [Bool.or_eq_true] at this
          rcases this with h | h
          · exact absurd h hno
          · obtain ⟨k, rfl⟩ : ∃ k, c0 = .osl k := by cases c0 <;> first | exact ⟨_, rfl⟩ | (simp [isRow] at h; done)
            obtain ⟨A2, n2, c2, rfl, _, _⟩ := hv.osl_inv
            refine .osl _ _ _ _ (by rw [hlen]; exact (List.getElem?_eq_some_iff.1 hio').1) fun e sz nl es he => ?_
            rw [hio] at he
            cases he
    · have ho := R.objs i o0 hio'
      cases o0 with
      | mpo kf kvs =>
        obtain ⟨h1, h2, es, clock, hg, h3⟩ := ho
        exact ⟨by rw [hpo i hn]; exact h1, h2, es, clock, by rw [hpo i hn]; exact (hblk _ (Array.getElem?_eq_some_iff.1 hg).1 (hne i _ hn hio' rfl)).trans hg, h3⟩
      | box cs =>
        obtain ⟨h1, cur, e, hg, h2, h3, h4⟩ := ho
        have hall := hbx cs rfl
        exact ⟨by rw [hpo i hn]; exact h1, cur, e, by rw [hpo i hn]; exact (hblk _ (Array.getElem?_eq_some_iff.1 hg).1 (hne i _ hn hio' rfl)).trans hg, h2, h3, fun j c hj => let ⟨u, hu, hv⟩ := h4 j c hj; ⟨u, hu, hV 5 hv (List.all_eq_true.1 hall c (List.mem_of_getElem? hj))⟩⟩
      | arr e sz nl es =>
        obtain ⟨h1, h2, hr⟩ := ho
        refine ⟨h1, h2, ?_⟩
        cases nl
        · simp only [Bool.false_eq_true, if_false] at hr ⊢
          obtain ⟨h3, cur, hg, h4, h5⟩ := hr
          exact ⟨by rw [hpo i hn]; exact h3, cur, by rw [hpo i hn]; exact (hblk _ (Array.getElem?_eq_some_iff.1 hg).1 (hne i _ hn hio' rfl)).trans hg, h4, fun k x j c hk hj => let ⟨u, hu, hv⟩ := h5 k x j c hk hj; ⟨u, hu, hV0 hv⟩⟩
        · exact hr
  · have hlt : ∀ i o, i ≠ id → st.h[i]? = some (some o) → live o = true → g ≠ p i := by
      intro i o hn h1 hl he
      rcases hg with hg | ⟨hnl, hg⟩
      · have := (R.objs i o h1).lt hl
        omega
      · exact hne i o hn h1 hl ⟨hnl, by omega⟩
    rcases hobs i o hio with ⟨rfl, rfl⟩ | ⟨hn, o1, h1, e1, _⟩ <;> rcases hobs i' o' hio' with ⟨rfl, rfl⟩ | ⟨hn', o2, h2, e2, _⟩
    · rfl
    · rw [hpid, hpo i' hn'] at hpp
      exact absurd hpp (hlt i' o2 hn' h2 (e2.trans hlo'))
    · rw [hpid, hpo i hn] at hpp
      exact absurd hpp.symm (hlt i o1 hn h1 (e1.trans hlo))
    · rw [hpo i hn, hpo i' hn'] at hpp
      exact R.inj i i' o1 o2 h1 h2 (e1.trans hlo) (e2.trans hlo') hpp
theorem rows_at {es : List (List AV)} {sz : Nat} {u : Nat → Nat → Value} {k : Nat} {x : List AV} {j : Nat} {c : AV} (hk : es[k]? = some x) (hj : x[j]? = some c) (hl : x.length = sz) :
    ((List.range es.length).flatMap fun k => (List.range sz).map fun j => if k < es.length then u k j else .bool false)[k * sz + j]? = some (u k j) := by
  have hkl := (List.getElem?_eq_some_iff.1 hk).1
  have hjl := (List.getElem?_eq_some_iff.1 hj).1
  have key : ∀ (n b : Nat), b + k < b + n → (((List.range' b n).flatMap fun k => (List.range sz).map fun j => if k < es.length then u k j else Value.bool false))[k * sz + j]? = some (if b + k < es.length then u (b + k) j else .bool false) := by
    clear hkl hk
    induction k with
    | zero =>
      intro n b hn
      cases n with
      | zero => omega
      | succ n =>
        rw [List.range'_succ, List.flatMap_cons, List.getElem?_append_left (by simp; omega)]
        simp [show j < sz by omega]
    | succ k ih =>
      intro n b hn
      cases n with
      | zero => omega
      | succ n =>
        rw [List.range'_succ, List.flatMap_cons, List.getElem?_append_right (by simp [Nat.add_mul]; omega)]
        have := ih n (b + 1) (by omega)
        simp only [List.length_map, List.length_range]
        rw [show (k + 1) * sz + j - sz = k * sz + j by rw [Nat.add_mul]; omega, this, show b + 1 + k = b + (k + 1) by omega]
  have := key es.length 0 (by omega)
  rw [show List.range es.length = List.range' 0 es.length from List.range_eq_range', this]
  simp [hkl]
end
end Go.Proofs.YtmfmpagfjgpodaaGreatDoor

/-! Operations that make or write to memory of the call's own: of every program; no condition. -/
namespace Go.Proofs.YtmfmpagfjgpodaaGreatDoor
open Go.RowKit
section
variable {P : Program} {M0 : Nat → Prop} {w0 : World} {N : Nat} {p : Nat → Nat} {st : VS} {a : Act} {w : World}
theorem box_new {us : List Value} {cs : List AV} {d : Nat} (R : Rel M0 w0 N p st a w) (hd : d < N) (hc : Cells w (Mof M0 st.h p) st.h p cs us) (t : TypeId) :
    Rel M0 w0 N (pNew p st.h.length w.heap.size) ⟨(d, .ref st.h.length 0) :: st.s, st.h ++ [some (.box cs)]⟩ (a.put (some d) (.pointer (some ⟨w.heap.size, 0, none⟩))) { w with heap := w.heap.push (.cells us.toArray t) } := by
  have hb := below_push w (.cells us.toArray t)
  have hpn : pNew p st.h.length w.heap.size st.h.length = w.heap.size := by simp [pNew]
  refine R.grow hb hd (fun _ => Nat.le_refl _) ⟨by rw [hpn]; exact R.below.size, us.toArray, t, by rw [hpn]; simp [-World.alloc_eq], by simp [hc.1], hc.2.1, fun j c hj => ?_⟩ ?_
  · have hj' : j < us.length := by rw [hc.1]; exact (List.getElem?_eq_some_iff.1 hj).1
    refine ⟨us[j], by simp [hj'], ?_⟩
    refine (hc.2.2 j c us[j] hj (List.getElem?_eq_getElem hj')).keep (.of_below hb) (fun b hbl hn hm => ?_) (by simp) (fun i hi => by simp [pNew, Nat.ne_of_lt hi]) fun i e sz nl es v hi he hv => ?_
    · rcases hm with hm | ⟨i, o, hi, hl, hp⟩
      · exact hn (.inl hm)
      · rcases get_new hi with ⟨hlt, hi'⟩ | ⟨rfl, hx⟩
        · exact hn (.inr ⟨i, o, hi', hl, by rw [← hp]; simp [pNew, Nat.ne_of_lt hlt]⟩)
        · rw [hpn] at hp
          omega
    · rw [get_old hi] at he
      exact (hv e sz nl es he).below hb
  · have := V1.ref (w := { w with heap := w.heap.push (.cells us.toArray t) }) (M := Mof M0 (st.h ++ [some (.box cs)]) (pNew p st.h.length w.heap.size)) (h := st.h ++ [some (.box cs)]) (p := pNew p st.h.length w.heap.size) st.h.length 0 (by simp)
    rwa [hpn] at this
theorem arr_new {us : List Value} {es : List (List AV)} {d e sz : Nat} (R : Rel M0 w0 N p st a w) (hd : d < N) (hsz : 0 < sz) (hlen : us.length = es.length * sz) (hmax : es.length ≤ maxLen) (hes : ∀ (k : Nat) (x : List AV), es[k]? = some x → x.length = sz ∧ ∀ c ∈ x, oneAV c = true)
    (hv : ∀ (k : Nat) (x : List AV) (j : Nat) (c : AV) (u : Value), es[k]? = some x → x[j]? = some c → us[k * sz + j]? = some u → V0 w (Mof M0 st.h p) c u) :
    Rel M0 w0 N (pNew p st.h.length w.heap.size) ⟨(d, .osl st.h.length) :: st.s, st.h ++ [some (.arr e sz false es)]⟩ (a.put (some d) (.slice (some ⟨w.heap.size, 0, none⟩) es.length es.length)) { w with heap := w.heap.push (.cells us.toArray e) } := by
  have hb := below_push w (.cells us.toArray e)
  have hpn : pNew p st.h.length w.heap.size st.h.length = w.heap.size := by simp [pNew]
  have hg : ({ w with heap := w.heap.push (.cells us.toArray e) } : World).heap[w.heap.size]? = some (.cells us.toArray e (0, 0)) := by simp [-World.alloc_eq]
  have hM : ∀ b, b < w.heap.size → ¬ Mof M0 st.h p b → ¬ Mof M0 (st.h ++ [some (.arr e sz false es)]) (pNew p st.h.length w.heap.size) b := by
    intro b hbl hn hm
    rcases hm with hm | ⟨i, o, hi, hl, hp⟩
    · exact hn (.inl hm)
    · rcases get_new hi with ⟨hlt, hi'⟩ | ⟨rfl, hx⟩
      · exact hn (.inr ⟨i, o, hi', hl, by rw [← hp]; simp [pNew, Nat.ne_of_lt hlt]⟩)
      · rw [hpn] at hp
        omega
  refine R.grow hb hd (fun _ => Nat.le_refl _) ⟨hsz, hes, ?_⟩ ?_
  · rw [if_neg (by simp), hpn]
    refine ⟨R.below.size, us.toArray, hg, by simp [hlen], fun k x j c hk hj => ?_⟩
    have hkl := (List.getElem?_eq_some_iff.1 hk).1
    have hjl := (List.getElem?_eq_some_iff.1 hj).1
    have hxl := (hes k x hk).1
    have h1 : (k + 1) * sz ≤ es.length * sz := Nat.mul_le_mul_right _ hkl
    rw [Nat.add_mul] at h1
    have hlt : k * sz + j < us.length := by omega
    exact ⟨us[k * sz + j], by simp [hlt], (hv k x j c _ hk hj (List.getElem?_eq_getElem hlt)).keep (.of_below hb) hM⟩
  · refine .osl _ _ _ _ (by simp) fun e' sz' nl' es' he => ?_
    rw [List.getElem?_append_right (Nat.le_refl _)] at he
    simp only [Nat.sub_self, List.getElem?_cons_zero, Option.some.injEq] at he
    injection he with h1 h2 h3 h4
    subst h1 h2 h3 h4
    unfold Osl
    rw [if_neg (by simp), hpn]
    exact ⟨es.length, us.toArray, rfl, hg, by simp [hlen], Nat.le_refl _, hmax⟩
theorem nil_new {d e sz : Nat} (R : Rel M0 w0 N p st a w) (hd : d < N) (hsz : 0 < sz) :
    Rel M0 w0 N (pNew p st.h.length 0) ⟨(d, .osl st.h.length) :: st.s, st.h ++ [some (.arr e sz true [])]⟩ (a.put (some d) (.slice none 0 0)) w := by
  refine R.grow (Below.refl _ _) hd (fun h => by cases h) ⟨hsz, by simp, by simp⟩ (.osl _ _ _ _ (by simp) fun e' sz' nl' es' he => ?_)
  rw [List.getElem?_append_right (Nat.le_refl _)] at he
  simp only [Nat.sub_self, List.getElem?_cons_zero, Option.some.injEq] at he
  injection he with h1 h2 h3 h4
  subst h1 h2 h3 h4
  simp [Osl]
theorem spl_at {cs vs : List AV} {off : Nat} (hfit : off + vs.length ≤ cs.length) (j : Nat) : (splA cs off vs)[j]? = if j < off then cs[j]? else if j < off + vs.length then vs[j - off]? else cs[j]? := by
  unfold splA
  by_cases h1 : j < off
  · rw [if_pos h1, List.append_assoc, List.getElem?_append_left (by simp; omega), List.getElem?_take_of_lt h1]
  · rw [if_neg h1, List.append_assoc, List.getElem?_append_right (by simp; omega)]
    have e1 : (cs.take off).length = off := by simp; omega
    rw [e1]
    by_cases h2 : j < off + vs.length
    · rw [if_pos h2, List.getElem?_append_left (by omega)]
    · rw [if_neg h2, List.getElem?_append_right (by omega), List.getElem?_drop]
      congr 1
      omega
theorem splV_at {cs vs : List Value} {off : Nat} (hfit : off + vs.length ≤ cs.length) (j : Nat) : (cs.take off ++ vs ++ cs.drop (off + vs.length))[j]? = if j < off then cs[j]? else if j < off + vs.length then vs[j - off]? else cs[j]? := by
  by_cases h1 : j < off
  · rw [if_pos h1, List.append_assoc, List.getElem?_append_left (by simp; omega), List.getElem?_take_of_lt h1]
  · rw [if_neg h1, List.append_assoc, List.getElem?_append_right (by simp; omega)]
    have e1 : (cs.take off).length = off := by simp; omega
    rw [e1]
    by_cases h2 : j < off + vs.length
    · rw [if_pos h2, List.getElem?_append_left (by omega)]
    · rw [if_neg h2, List.getElem?_append_right (by omega), List.getElem?_drop]
      congr 1
      omega
theorem spl_one {cs vs : List AV} {off : Nat} (h1 : ∀ c ∈ cs, oneAV c = true) (h2 : ∀ c ∈ vs, oneAV c = true) : ∀ c ∈ splA cs off vs, oneAV c = true := by
  intro c hc
  unfold splA at hc
  rcases List.mem_append.1 hc with hc | hc
  · rcases List.mem_append.1 hc with hc | hc
    · exact h1 c (List.mem_of_mem_take hc)
    · exact h2 c hc
  · exact h1 c (List.mem_of_mem_drop hc)
theorem spl_len {cs vs : List AV} {off : Nat} (hfit : off + vs.length ≤ cs.length) : (splA cs off vs).length = cs.length := by
  unfold splA
  simp
  omega
theorem setRow_block (w : World) (g : Nat) (cs : Array Value) (b : Nat) (h : b ≠ g) : (w.setRow g cs).heap[b]? = w.heap[b]? := by
  simp only [World.setRow, Array.getElem?_modify]
  rw [if_neg (by omega)]
theorem setRow_size (w : World) (g : Nat) (cs : Array Value) : (w.setRow g cs).heap.size = w.heap.size := by simp [World.setRow]
theorem run_store_cells {t : TypeId} {ti : TI} {g o : Nat} {cur : Array Value} {e : TypeId} {v : Value} (hti : tinfo P t = some ti) (hsz : v.cells.size = ti.size) (hg : w.heap[g]? = some (.cells cur e (0, 0))) (hfit : o + ti.size ≤ cur.size) (h1 : ∀ x ∈ v.cells.toList, x.oneCell' = true) :
    (Instr.storeAt t (.pointer (some ⟨g, o, none⟩)) v).run P w = .ok () (w.setRow g (cur.toList.take o ++ v.cells.toList ++ cur.toList.drop (o + v.cells.toList.length)).toArray) := by
  have := run_storeCells_at P g o e v.cells.toList 0 cur w hg (by simp; omega) h1
  simp only [Nat.add_zero] at this
  simp only [Instr.storeAt, Instr.sureAddr, Sem.run_bind, Sem.run_pure, Result.andThen_ok, storeVar, ti_size hti, Sem.run_ite, hsz, ne_eq, not_true_eq_false, if_false]
  exact this
theorem cells_one {cs : List AV} {us : List Value} {M : Nat → Prop} {h : Hp} (hc : Cells w M h p cs us) : ∀ x ∈ us, x.oneCell' = true := by
  intro x hx
  obtain ⟨i, hi⟩ := List.mem_iff_getElem?.1 hx
  have hl : i < cs.length := by rw [← hc.1]; exact (List.getElem?_eq_some_iff.1 hi).1
  exact (hc.2.2 i cs[i] x (List.getElem?_eq_getElem hl) hi).one (hc.2.1 _ (List.getElem_mem hl))
theorem tail_store {t : TypeId} {x y : Operand} {ti : TI} {id off : Nat} {cs : List AV} (R : Rel M0 w0 N p st a w) (hti : tinfo P t = some ti) (hx : ev st x = .ref id off) (hid : st.h[id]? = some (some (.box cs))) (h1 : oneOk (ev st y) = true) (h2 : (avCells (ev st y)).length = ti.size) (h3 : off + ti.size ≤ cs.length) :
    ∃ w', (Instr.storeAt t (a.eval x) (a.eval y)).run P w = .ok () w' ∧ Rel M0 w0 N p ⟨st.s, st.h.set id (some (.box (splA cs off (avCells (ev st y)))))⟩ a w' := by
  have hxv := R.eval x
  rw [hx] at hxv
  obtain ⟨hq, _⟩ := hxv.ref_inv
  have hcell := (R.eval y).cells h1
  obtain ⟨hge, cur, e, hg, hcs, hone, hv⟩ := R.objs id _ hid
  have hvs : (a.eval y).cells.size = ti.size := by rw [← Array.length_toList, hcell.1, h2]
  refine ⟨_, by rw [hq]; exact run_store_cells hti hvs hg (by omega) (cells_one hcell), ?_⟩
  have hfit : off + (a.eval y).cells.toList.length ≤ cur.toList.length := by simp; omega
  have hfit2 : off + (avCells (ev st y)).length ≤ cs.length := by omega
  have hlen : (a.eval y).cells.toList.length = (avCells (ev st y)).length := hcell.1
  have hlt := (Array.getElem?_eq_some_iff.1 hg).1
  refine R.write hid rfl rfl (setRow_size w _ _).symm rfl rfl rfl (fun b hb => setRow_block w _ _ b hb) rfl (fun e sz nl es v he => by cases he) fun hV _ => ?_
  refine ⟨hge, _, e, setRow_heap w (p id) cur _ e _ hg, ?_, spl_one hone hcell.2.1, fun j c hj => ?_⟩
  · rw [spl_len hfit2]
    simp
    omega
  · rw [spl_at hfit2] at hj
    have hat := splV_at hfit j
    rw [hlen] at hat
    split at hj
    · rename_i hlt
      rw [if_pos hlt] at hat
      obtain ⟨u, hu, hvu⟩ := hv j c hj
      exact ⟨u, by rw [List.getElem?_toArray, hlen, hat]; simpa using hu, hV hvu⟩
    · rename_i hlt
      rw [if_neg hlt] at hat
      split at hj
      · rename_i hlt2
        rw [if_pos hlt2] at hat
        have hjl : j - off < (a.eval y).cells.toList.length := by rw [hlen]; exact (List.getElem?_eq_some_iff.1 hj).1
        exact ⟨_, by rw [List.getElem?_toArray, hlen, hat]; exact List.getElem?_eq_getElem hjl, hV (hcell.2.2 _ c _ hj (List.getElem?_eq_getElem hjl))⟩
      · rename_i hlt2
        rw [if_neg hlt2] at hat
        obtain ⟨u, hu, hvu⟩ := hv j c hj
        exact ⟨u, by rw [List.getElem?_toArray, hlen, hat]; simpa using hu, hV hvu⟩
theorem tail_storeE {t : TypeId} {x y : Operand} {ti : TI} {id sz i off e : Nat} {nl : Bool} {es : List (List AV)} (R : Rel M0 w0 N p st a w) (hti : tinfo P t = some ti) (hx : ev st x = .aref id sz i off) (hid : st.h[id]? = some (some (.arr e sz nl es))) (hi : i < es.length) (h1 : oneOk (ev st y) = true)
    (hp : (avCells (ev st y)).all (pureA 5) = true) (h2 : (avCells (ev st y)).length = ti.size) (h3 : off + ti.size ≤ sz) :
    ∃ w', (Instr.storeAt t (a.eval x) (a.eval y)).run P w = .ok () w' ∧ Rel M0 w0 N p ⟨st.s, st.h.set id (some (.arr e sz nl (es.set i (splA (es.getD i []) off (avCells (ev st y))))))⟩ a w' := by
  have hxv := R.eval x
  rw [hx] at hxv
  obtain ⟨hq, _⟩ := hxv.aref_inv
  have hcell := (R.eval y).cells h1
  obtain ⟨hsz, hes, hr⟩ := R.objs id _ hid
  have hnl : nl = false := by cases nl; rfl; simp only [if_true] at hr; subst hr; simp at hi
  subst hnl
  simp only [Bool.false_eq_true, if_false] at hr
  obtain ⟨hge, cur, hg, hcs, hv⟩ := hr
  have hvs : (a.eval y).cells.size = ti.size := by rw [← Array.length_toList, hcell.1, h2]
  have hlen : (a.eval y).cells.toList.length = (avCells (ev st y)).length := hcell.1
  have hxi : es[i]? = some (es.getD i []) := by simp [List.getD, hi]
  obtain ⟨hxl, hxone⟩ := hes i _ hxi
  have hrow : (i + 1) * sz ≤ es.length * sz := Nat.mul_le_mul_right _ hi
  rw [Nat.add_mul] at hrow
  refine ⟨_, by rw [hq]; exact run_store_cells hti hvs hg (by omega) (cells_one hcell), ?_⟩
  have hfit : i * sz + off + (a.eval y).cells.toList.length ≤ cur.toList.length := by simp; omega
  have hfit2 : off + (avCells (ev st y)).length ≤ (es.getD i []).length := by omega
  have hpure : ∀ (j : Nat) (c : AV) (u : Value), (avCells (ev st y))[j]? = some c → (a.eval y).cells.toList[j]? = some u → V0 w (Mof M0 st.h p) c u := fun j c u hc hu => (hcell.2.2 j c u hc hu).pure 5 (List.all_eq_true.1 hp c (List.mem_of_getElem? hc))
  refine R.write hid rfl rfl (setRow_size w _ _).symm rfl rfl rfl (fun b hb => setRow_block w _ _ b hb) rfl (fun e' sz' nl' es' v he ho => ?_) fun _ hV0 => ⟨hsz, fun k z hk => ?_, ?_⟩
  · injection he with q1 q2 q3 q4
    subst q1 q2 q3 q4
    have := ho _ _ _ _ rfl
    unfold Osl at this ⊢
    simp only [Bool.false_eq_true, if_false, List.length_set] at this ⊢
    obtain ⟨cap, cur', b1, b2, b3, b4⟩ := this
    obtain rfl : cur' = cur := by rw [hg] at b2; injection b2 with b2; injection b2 with b2; exact b2.symm
    refine ⟨cap, _, b1, setRow_heap w (p id) cur' _ e _ hg, ?_, b4⟩
    rw [← b3]
    simp
    simp at hfit
    omega
  · rw [List.getElem?_set] at hk
    split at hk
    · first | rw [if_pos hi] at hk | skip
      simp only [Option.some.injEq] at hk
      subst hk
      exact ⟨by rw [spl_len hfit2, hxl], spl_one hxone hcell.2.1⟩
    · exact hes k z hk
  · simp only [Bool.false_eq_true, if_false]
    refine ⟨hge, _, setRow_heap w (p id) cur _ e _ hg, ?_, fun k z j c hk hj => ?_⟩
    · simp
      simp at hfit
      omega
    · have hat := splV_at hfit (k * sz + j)
      rw [hlen] at hat
      rw [List.getElem?_set] at hk
      split at hk
      · rename_i hki
        subst hki
        first | rw [if_pos hi] at hk | skip
        simp only [Option.some.injEq] at hk
        subst hk
        rw [spl_at hfit2] at hj
        split at hj
        · rename_i hlt
          rw [if_pos (by omega)] at hat
          obtain ⟨u, hu, hvu⟩ := hv i _ j c hxi hj
          exact ⟨u, by rw [List.getElem?_toArray, hlen, hat]; simpa using hu, hV0 hvu⟩
        · rename_i hlt
          rw [if_neg (by omega)] at hat
          split at hj
          · rename_i hlt2
            rw [if_pos (by omega)] at hat
            have hjl : j - off < (a.eval y).cells.toList.length := by rw [hlen]; exact (List.getElem?_eq_some_iff.1 hj).1
            refine ⟨(a.eval y).cells.toList[j - off], ?_, hV0 (hpure _ c _ hj (List.getElem?_eq_getElem hjl))⟩
            rw [List.getElem?_toArray, hlen, hat, show i * sz + j - (i * sz + off) = j - off by omega]
            exact List.getElem?_eq_getElem hjl
          · rename_i hlt2
            rw [if_neg (by omega)] at hat
            obtain ⟨u, hu, hvu⟩ := hv i _ j c hxi hj
            exact ⟨u, by rw [List.getElem?_toArray, hlen, hat]; simpa using hu, hV0 hvu⟩
      · rename_i hki
        obtain ⟨u, hu, hvu⟩ := hv k z j c hk hj
        have hzl := (hes k z hk).1
        have hjl := (List.getElem?_eq_some_iff.1 hj).1
        have hout : k * sz + j < i * sz + off ∨ i * sz + off + (avCells (ev st y)).length ≤ k * sz + j := by
          rcases Nat.lt_or_ge k i with hlt | hge'
          · left
            have : (k + 1) * sz ≤ i * sz := Nat.mul_le_mul_right _ hlt
            rw [Nat.add_mul] at this
            omega
          · right
            have : (i + 1) * sz ≤ k * sz := Nat.mul_le_mul_right _ (by omega)
            rw [Nat.add_mul] at this
            omega
        refine ⟨u, ?_, hV0 hvu⟩
        rw [List.getElem?_toArray, hlen, hat]
        rcases hout with h | h
        · rw [if_pos h]
          simpa using hu
        · rw [if_neg (by omega), if_neg (by omega)]
          simpa using hu
end
end Go.Proofs.YtmfmpagfjgpodaaGreatDoor

/-! Every operation that makes or writes to memory of the call's own does as the plain walk tells: of every program; no condition. -/
namespace Go.Proofs.YtmfmpagfjgpodaaGreatDoor
open Go.RowKit
section
variable {P : Program} {M0 : Nat → Prop} {w0 : World} {N : Nat} {p : Nat → Nat} {st : VS} {a : Act} {w : World}
theorem newH_some {d : Option Tmp} {av : AV} {ob : Ob} {st' : VS} (h : newH st d av ob = some st') : ∃ t, d = some t ∧ st' = ⟨(t, av) :: st.s, st.h ++ [some ob]⟩ := by
  unfold newH at h
  cases d with
  | none => cases h
  | some t => exact ⟨t, rfl, (Option.some.inj h).symm⟩
theorem run_make {t : TypeId} {ti te : TI} {n : Nat} (hti : tinfo P t = some ti) (hte : tinfo P ti.elem = some te) (hk : ti.kind = 1) (h1 : te.size = ti.esz) (h2 : te.zero.length = ti.esz) (h3 : ti.esz ≠ 0) (hn : n ≤ 1000000000) (hby : te.bytes ≤ 100000) :
    (Instr.makeSlice t (.int .i64 n) (.int .i64 n)).run P w = .ok (.slice (some ⟨w.heap.size, 0, none⟩) n n) { w with heap := w.heap.push (.cells (zrow te.zero n).toArray ti.elem) } := by
  obtain ⟨z, hz, hz1, hzr⟩ := ti_zero hte
  have hu := ti_slice hti hk
  have hez' : ti.esz = tsize P ti.elem := by obtain ⟨d, i, z, hd, hi, hz, h1z, rfl⟩ := tinfo_spec hti; rfl
  have hpos : 0 < tsize P ti.elem := by omega
  have hinfo : ∃ i : TypeInfo, (typeInfo ti.elem).run P w = .ok i w ∧ i.bytes = te.bytes := by
    obtain ⟨d, i, z, hd, hi, hz, h1z, rfl⟩ := tinfo_spec hte
    exact ⟨i, by simp [typeInfo, hi], rfl⟩
  obtain ⟨inf, hinf, hb⟩ := hinfo
  have hw : IntKind.i64.wrap (n : Int) = n := IntWalk.i64_in _ (by omega)
  have hmul : inf.bytes * n ≤ 100000 * 1000000000 := Nat.mul_le_mul (by omega) hn
  have hmul' : (inf.bytes : Int) * (n : Int) ≤ 100000000000000 := by
    have : ((inf.bytes * n : Nat) : Int) ≤ ((100000 * 1000000000 : Nat) : Int) := Int.ofNat_le.2 hmul
    simpa using this
  have hneg : ¬ ((n : Int) < 0) := by omega
  have hbig : ¬ ((inf.bytes : Int) * (n : Int) > 2 ^ 48) := by omega
  have hzs : z.cells.size = tsize P ti.elem := by rw [← Array.length_toList, hz, h2, hez']
  have hrow := zrow_row z.cells n (by omega)
  rw [hz] at hrow
  have harr : (Array.range (n * z.cells.size)).map (z.cells[· % z.cells.size]!) = (zrow te.zero n).toArray := by rw [← hrow]
  have hdec : decide ((inf.bytes : Int) * (n : Int) > 2 ^ 48) = false := by simp; omega
  have hnn : ¬ ((n : Int) > (n : Int)) := by omega
  simp only [Instr.makeSlice, Sem.run_bind, run_underlying hu, Result.andThen_ok, asInt, asIntOf, Sem.run_pure, hinf, hw, hdec, Sem.run_ite, hneg, hnn, decide_false, Bool.or_false, Bool.false_or, Bool.false_eq_true, if_false, run_askRoom, Int.toNat_natCast, run_size hpos]
  by_cases h0 : n * tsize P ti.elem = 0
  · have hn0 : n = 0 := by
      rcases Nat.mul_eq_zero.1 h0 with h | h
      · exact h
      · omega
    subst hn0
    have e0 : ∀ f : Nat → Value, (Array.range 0).map f = #[] := fun f => by simp
    simp [newRow, zrow, e0]
  · simp only [Sem.run_bind, hzr, Result.andThen_ok, Sem.run_pure, ← hzs, harr, newRow, run_newObj]
    rw [if_neg (by rw [hzs]; exact h0)]
theorem zrow_cells {z : List Value} {n : Nat} : ∀ (k j : Nat) (c : AV) (u : Value), k < n → (z.map AV.lit)[j]? = some c → (zrow z n)[k * z.length + j]? = some u → c = .lit u := by
  intro k j c u hk hj hu
  have hjl : j < z.length := by simpa using (List.getElem?_eq_some_iff.1 hj).1
  have hlt : k * z.length + j < n * z.length := by
    have : (k + 1) * z.length ≤ n * z.length := Nat.mul_le_mul_right _ hk
    rw [Nat.add_mul] at this
    omega
  rw [zrow_at z n _ hlt, Nat.mul_comm, Nat.mul_add_mod, Nat.mod_eq_of_lt hjl] at hu
  rw [List.getElem?_map, hu] at hj
  simpa using hj.symm
theorem tail_append {t ty e id sz d : Nat} {x y : Operand} {ti te : TI} {nl : Bool} {es' es : List (List AV)} {ats : Array TypeId} (R : Rel M0 w0 N p st a w) (hd : d < N) (hti : tinfo P t = some ti) (hx : ev st x = .osl id) (hy : ev st y = .sl sz es) (hid : st.h[id]? = some (some (.arr e sz nl es'))) (hte : tinfo P ti.elem = some te)
    (hk : ti.kind = 1) (he : ti.elem = e) (_hez : ti.esz = sz) (h1 : te.size = sz) (h2 : te.zero.length = sz) (hnil : nl = true → 0 < es.length) (hmax : es'.length + es.length ≤ 1000000000) (hby : te.bytes ≤ 100000) (hats : ats = #[t, t]) :
    ∃ v w' p', (Builtin.append_ ats ty #[a.eval x, a.eval y]).run P w = .ok v w' ∧ Rel M0 w0 N p' ⟨(d, .osl id) :: st.s.map (fun q => (q.1, purge id q.2)), purgeH id 0 (st.h.set id (some (.arr e sz false (es' ++ es))))⟩ (a.put (some d) v) w' := by
  subst hats
  subst he
  have hxv := R.eval x
  rw [hx] at hxv
  have hyv := R.eval y
  rw [hy] at hyv
  obtain ⟨A0, n0, c0, hq, hidl, hosl⟩ := hxv.osl_inv
  have hosl := hosl _ _ _ _ hid
  obtain ⟨hsz, hes', hr⟩ := R.objs id _ hid
  obtain ⟨dd, inf, z, hdd, hi, hz, hz1, hteq⟩ := tinfo_spec hte
  have hisz : inf.size = sz := by rw [← h1, hteq]
  have hzs : z.cells.size = sz := by rw [← h2, hteq, Array.length_toList]
  have hby' : inf.bytes ≤ 100000 := by rw [hteq] at hby; exact hby
  have hu := ti_slice hti hk
  have hown : ∃ xs, w.ownsRow w0.heap.size ti.elem sz (a.eval x) es'.length xs ∧ (nl = true → xs = [] ∧ es' = []) ∧ (nl = false → ∃ cap cur, a.eval x = .slice (some ⟨p id, 0, none⟩) es'.length cap ∧ w.heap[p id]? = some (.cells cur ti.elem (0, 0)) ∧ xs = cur.toList.take (es'.length * sz) ∧ es'.length * sz ≤ cur.size) := by
    cases nl
    · simp only [Bool.false_eq_true, if_false] at hr
      unfold Osl at hosl
      simp only [Bool.false_eq_true, if_false] at hosl
      obtain ⟨cap, cur, b1, b2, b3, b4, b5⟩ := hosl
      obtain ⟨hge, cur', hg, hle, hv⟩ := hr
      obtain rfl : cur' = cur := by rw [hg] at b2; injection b2 with b2; injection b2
      refine ⟨cur'.toList.take (es'.length * sz), ⟨by simp; omega, .inr ⟨p id, cap, cur', b1, hge, hg, b4, b5, b3, rfl⟩⟩, (fun h => by cases h), fun _ => ⟨cap, cur', b1, hg, rfl, hle⟩⟩
    · simp only [if_true] at hr
      subst hr
      unfold Osl at hosl
      simp only [if_true] at hosl
      exact ⟨[], ⟨by simp, .inl ⟨hosl.1, rfl⟩⟩, fun _ => ⟨rfl, rfl⟩, fun h => by cases h⟩
  obtain ⟨xs, hown, hxnil, hxrow⟩ := hown
  obtain ⟨A1, m, c1, u, hq1, hm, hS, hu1, huv⟩ : ∃ (A1 : Option Addr) (m c1 : Nat) (u : Nat → Nat → Value), a.eval y = .slice A1 m c1 ∧ m = es.length ∧ Sl (fun k => (List.range sz).map fun j => if k < es.length then u k j else .bool false) sz w A1 (List.range es.length) ∧
      (∀ k j, k < es.length → j < sz → (u k j).oneCell' = true) ∧ ∀ (k : Nat) (x : List AV) (j : Nat) (c : AV), es[k]? = some x → x[j]? = some c → x.length = sz ∧ oneAV c = true ∧ V0 w (Mof M0 st.h p) c (u k j) := by
    have hv0 := hyv.sl_inv
    generalize a.eval y = yv at hv0
    cases hv0 with
    | slNil _ A cap => exact ⟨A, 0, cap, fun _ _ => undef, rfl, rfl, fun h => absurd rfl h, by simp, by simp⟩
    | sl _ _ cap b o u hne hb hM hcap hsz' hone hcell hvv =>
      refine ⟨_, _, _, u, rfl, rfl, fun _ => ⟨b, o, rfl, fun k q hk j v hj => ?_⟩, fun k j hk hj => ?_, fun k x j c hk hj => ⟨hsz' k x hk, hone k x j c hk hj, hvv k x j c hk hj⟩⟩
      · have hkl : k < es.length := by simpa using (List.getElem?_eq_some_iff.1 hk).1
        have hqk : k = q := by simpa using (List.getElem?_eq_some_iff.1 hk).2
        subst hqk
        have hjl : j < sz := by simpa using (List.getElem?_eq_some_iff.1 hj).1
        have : v = u k j := by
          have := (List.getElem?_eq_some_iff.1 hj).2
          simp [hkl] at this
          exact this.symm
        rw [this]
        exact hcell k j hkl hjl
      · have hx := List.getElem?_eq_getElem hk
        have hjl : j < es[k].length := by rw [hsz' k _ hx]; exact hj
        exact (hvv k _ j _ hx (List.getElem?_eq_getElem hjl)).one (hone k _ j _ hx (List.getElem?_eq_getElem hjl))
  subst hm
  rw [hq1]
  have hform := own_form _ hown
  obtain ⟨A, c, hqx⟩ := hform
  rw [hqx] at hown ⊢
  have hbytes : (es'.length + es.length) * inf.bytes ≤ 140737488355328 := by
    have : (es'.length + es.length) * inf.bytes ≤ 1000000000 * 100000 := Nat.mul_le_mul hmax hby'
    omega
  obtain ⟨A2, c2, w', hrun, hown2, hgrow, hblk⟩ := run_append_sl (P := P) w w0.heap.size t ty ti.elem inf z sz inf.bytes hu hi hz hisz rfl hzs hsz (C := fun k => (List.range sz).map fun j => if k < es.length then u k j else .bool false) (fun x => by simp) (fun x v hv => by
    obtain ⟨j, hj, rfl⟩ := List.mem_map.1 hv
    split
    · rename_i hx
      exact hu1 x j hx (by simpa using hj)
    · rfl) A es'.length c xs hown A1 es.length c1 (List.range es.length) (by simp) hS (by simp only [maxLen]; omega) hbytes R.below.size
  have hnotnil : (Value.slice A2 (es'.length + es.length) c2) ≠ .slice none 0 0 := by
    intro hh
    injection hh with q1 q2 q3
    subst q1
    rcases hblk with hb | hb
    · cases nl
      · obtain ⟨cap, cur, b1, _⟩ := hxrow rfl
        rw [hqx] at b1
        injection b1 with b1
        subst b1
        simp [Value.ownBlock] at hb
      · have := hnil rfl
        omega
    · simp [Value.ownBlock] at hb
  rcases hown2.2 with ⟨h, _⟩ | ⟨g, cap2, cur2, hv2, hge2, hg2, hn2, hc2, hs2, ht2⟩
  · exact absurd h hnotnil
  · injection hv2 with q1 q2 q3
    subst q1
    subst q3
    have hgcase : g = w.heap.size ∨ (nl = false ∧ g = p id) := by
      rcases hblk with hb | hb
      · right
        cases nl
        · obtain ⟨cap, cur, b1, _⟩ := hxrow rfl
          rw [hqx] at b1
          injection b1 with b1
          subst b1
          simp [Value.ownBlock] at hb
          exact ⟨rfl, hb⟩
        · rcases hown.2 with ⟨h, _⟩ | ⟨g', cap', cur', h, _⟩
          · injection h with h1
            subst h1
            simp [Value.ownBlock] at hb
          · have := (hxnil rfl)
            unfold Osl at hosl
            simp only [if_true] at hosl
            rw [hqx, h] at hosl
            have := hosl.1
            injection this with h1
            cases h1
      · left
        simpa [Value.ownBlock] using hb
    have hrow : ∀ b, b < w.heap.size → ¬ (nl = false ∧ b = p id) → w'.heap[b]? = w.heap[b]? := by
      intro b hb hn
      refine hgrow.block b hb fun hs => ?_
      cases nl
      · obtain ⟨cap, cur, b1, _⟩ := hxrow rfl
        rw [hqx] at b1
        injection b1 with b1
        subst b1
        simp [Value.ownBlock] at hs
        exact hn ⟨rfl, hs⟩
      · unfold Osl at hosl
        simp only [if_true] at hosl
        rw [hqx] at hosl
        have := hosl.1
        injection this with h1
        subst h1
        simp [Value.ownBlock] at hs
    have hge0 : nl = false → w0.heap.size ≤ p id := fun h => by subst h; exact hr.1
    refine ⟨_, w', (fun i => if i = id then g else p i), hrun, ?_⟩
    refine R.append hd hid hge2 hgcase ⟨hgrow.os, hgrow.tape, hgrow.output, hgrow.size, fun k hk => hrow k (Nat.lt_of_lt_of_le hk R.below.size) fun ⟨hnl, he⟩ => by have := hge0 hnl; omega⟩ hrow (fun hV0 => ⟨hsz, fun k x hk => ?_, ?_⟩) ?_
    · rcases Nat.lt_or_ge k es'.length with hlt | hge
      · rw [List.getElem?_append_left hlt] at hk
        exact hes' k x hk
      · rw [List.getElem?_append_right hge] at hk
        have hx0 : 0 < x.length ∨ x = [] := by cases x; right; rfl; left; simp
        refine ⟨?_, fun c hc => ?_⟩
        · rcases hx0 with hx0 | hx0
          · exact (huv _ x 0 x[0] hk (List.getElem?_eq_getElem hx0)).1
          · exfalso
            have hv0 := hyv.sl_inv
            generalize a.eval y = yv at hv0
            cases hv0 with
            | slNil => simp at hk
            | sl _ _ _ _ _ _ _ _ _ _ hsz' => have := hsz' _ x hk; subst hx0; simp at this; omega
        · obtain ⟨j, hj⟩ := List.mem_iff_getElem?.1 hc
          exact (huv _ x j c hk hj).2.1
    · simp only [Bool.false_eq_true, if_false, if_true]
      refine ⟨hge2, cur2, hg2, by rw [hs2, List.length_append]; exact Nat.mul_le_mul_right _ hn2, fun k x j c hk hj => ?_⟩
      have hread : ∀ i v, i < (es'.length + es.length) * sz → (xs ++ (List.range es.length).flatMap fun k => (List.range sz).map fun j => if k < es.length then u k j else .bool false)[i]? = some v → cur2[i]? = some v := by
        intro i v hi hh
        rw [← ht2, List.getElem?_take_of_lt hi] at hh
        simpa using hh
      have hxl : xs.length = es'.length * sz := hown.1
      have hjl := (List.getElem?_eq_some_iff.1 hj).1
      rcases Nat.lt_or_ge k es'.length with hlt | hge
      · rw [List.getElem?_append_left hlt] at hk
        have hnl : nl = false := by cases nl; rfl; have := (hxnil rfl).2; subst this; simp at hlt
        subst hnl
        simp only [Bool.false_eq_true, if_false] at hr
        obtain ⟨_, cur', hg', hle', hvv⟩ := hr
        obtain ⟨cap, cur, b1, b2, b3, b4⟩ := hxrow rfl
        obtain rfl : cur' = cur := by rw [hg'] at b2; injection b2 with b2; injection b2
        obtain ⟨v, hv, hv0⟩ := hvv k x j c hk hj
        have hxl' := (hes' k x hk).1
        have h3 : (k + 1) * sz ≤ es'.length * sz := Nat.mul_le_mul_right _ hlt
        rw [Nat.add_mul] at h3
        refine ⟨v, hread _ v ?_ ?_, hV0 hv0⟩
        · rw [Nat.add_mul]; omega
        · rw [List.getElem?_append_left (by omega), b3, List.getElem?_take_of_lt (by omega)]
          simpa using hv
      · rw [List.getElem?_append_right hge] at hk
        obtain ⟨hxsz, _, hv0⟩ := huv _ x j c hk hj
        have hkl := (List.getElem?_eq_some_iff.1 hk).1
        refine ⟨u (k - es'.length) j, hread _ _ ?_ ?_, hV0 hv0⟩
        · have h3 : (k - es'.length + 1) * sz ≤ es.length * sz := Nat.mul_le_mul_right _ hkl
          have h4 : k * sz = es'.length * sz + (k - es'.length) * sz := by rw [← Nat.add_mul]; congr 1; omega
          rw [Nat.add_mul] at h3
          rw [Nat.add_mul]
          omega
        · have h4 : k * sz = es'.length * sz + (k - es'.length) * sz := by rw [← Nat.add_mul]; congr 1; omega
          rw [List.getElem?_append_right (by omega), hxl, show k * sz + j - es'.length * sz = (k - es'.length) * sz + j by omega]
          exact rows_at hk hj hxsz
    · unfold Osl
      simp only [Bool.false_eq_true, if_false, List.length_append]
      exact ⟨_, cur2, rfl, hg2, hs2, hn2, hc2⟩
def dstB (N : Nat) (o : Oper) : Bool := match o.dst with | some d => decide (d < N) | none => true
theorem dstB_lt {o : Oper} (hd : dstB N o = true) : ∀ t, o.dst = some t → t < N := by
  intro t ht
  unfold dstB at hd
  rw [ht] at hd
  simpa using hd
/-- A map is made. -/
theorem tail_map {t : TypeId} {kf : Nat × IntKind} {d : Nat} (R : Rel M0 w0 N p st a w) (hd : d < N) : (Instr.makeMap t none).run P w = .ok (.map (some w.heap.size)) (w.alloc (.map #[] 0)) ∧ Rel M0 w0 N (pNew p st.h.length w.heap.size) ⟨(d, .mp st.h.length) :: st.s, st.h ++ [some (.mpo kf [])]⟩ (a.put (some d) (.map (some w.heap.size))) (w.alloc (.map #[] 0)) := by
  have hb : Below w.heap.size w (w.alloc (.map #[] 0)) := (Below.refl _ w).alloc (Nat.le_refl _) _
  have hcell : (w.alloc (.map #[] 0)).heap[w.heap.size]? = some (.map #[] 0) := (MapKept.heap_alloc w _).1
  refine ⟨rfl, R.grow hb hd (fun _ => Nat.le_refl _) ⟨?_, (fun q hq => (by cases hq)), #[], 0, ?_, rfl⟩ ?_⟩
  · simp only [pNew, if_true]
    exact R.below.size
  · simp only [pNew, if_true]
    exact hcell
  · have := V1.mp (w := w.alloc (.map #[] 0)) (M := Mof M0 (st.h ++ [some (.mpo kf [])]) (pNew p st.h.length w.heap.size)) (h := st.h ++ [some (Ob.mpo kf [])]) (p := pNew p st.h.length w.heap.size) st.h.length (by simp)
    simpa [pNew] using this
theorem tail_put {t : TypeId} {m x y : Operand} {st' : VS} (R : Rel M0 w0 N p st a w) (ht : mapPut P st t m x y = some st') : ∃ w', (Instr.mapUpdate t (a.eval m) (a.eval x) (a.eval y)).run P w = .ok () w' ∧ Rel M0 w0 N p st' a w' := by
  unfold mapPut at ht
  split at ht
  · rename_i kf z id key val hmi hm hx hy
    split at ht
    · rename_i kf' kvs hid
      split at ht
      · rename_i hc
        obtain ⟨rfl, hkey⟩ := hc
        simp only [Option.some.injEq] at ht
        subst ht
        have em := R.eval m
        rw [hm] at em
        obtain ⟨em, _⟩ := em.mp_inv
        have ex : a.eval x = key := by have := R.eval x; rw [hx] at this; exact this.lit_inv
        have ey : a.eval y = val := by have := R.eval y; rw [hy] at this; exact this.lit_inv
        obtain ⟨h1, h2, es, clock, hg, h3⟩ := R.objs id _ hid
        obtain ⟨es', clock', hrun, hkv⟩ := update_ok (P := P) (v := val) hmi hkey hg (fun q hq => h2 (q.key, q.val) (by rw [← h3]; exact List.mem_map.2 ⟨q, hq, rfl⟩))
        refine ⟨_, by rw [em, ex, ey]; exact hrun, ?_⟩
        have hlt : p id < w.heap.size := (Array.getElem?_eq_some_iff.1 hg).1
        refine R.write hid rfl rfl (by simp [ChangeMaps.setBlock]) rfl rfl rfl (fun b hb => ChangeMaps.heap_setBlock_other hg _ hb) rfl (fun e sz nl es v h => by cases h) fun _ _ => ?_
        refine ⟨h1, fun q hq => ?_, es', clock', ChangeMaps.heap_setBlock_same hg _, by rw [hkv, h3]⟩
        have key_form : ∀ (l : List (Value × Value)), (∀ q ∈ l, keyForm q.1 = some kf) → ∀ q ∈ updK key val l, keyForm q.1 = some kf := by
          intro l
          induction l with
          | nil => intro _ q hq; simp [updK] at hq; subst hq; exact hkey
          | cons c l ih =>
            intro hl q hq
            obtain ⟨ck, cv⟩ := c
            simp only [updK] at hq
            split at hq
            · rcases List.mem_cons.1 hq with rfl | hq
              · exact hkey
              · exact hl q (List.mem_cons_of_mem _ hq)
            · rcases List.mem_cons.1 hq with rfl | hq
              · exact hl _ (List.mem_cons_self ..)
              · exact ih (fun q hq => hl q (List.mem_cons_of_mem _ hq)) q hq
        exact key_form kvs h2 q hq
      · cases ht
    · cases ht
  · cases ht
theorem tail_ok (R : Rel M0 w0 N p st a w) {ow : List Nat} {o : Oper} {st' : VS} (hd : dstB N o = true) (ht : tailOp P ow st o = some st') :
    ∃ v w' p', (execOp a.eval o).run P w = .ok (.value v) w' ∧ Rel M0 w0 N p' st' (a.put o.dst v) w' ∨ (execOp a.eval o).run P w = .ok .skip w' ∧ v = undef ∧ Rel M0 w0 N p' st' (a.put o.dst undef) w' := by
  have hlt := dstB_lt hd
  obtain ⟨dst, op, ty, pos, after, guard⟩ := o
  simp only at hlt
  unfold tailOp at ht
  simp only at ht
  split at ht
  · rename_i t
    split at ht
    · rename_i ti hti
      obtain ⟨d, hdd, rfl⟩ := newH_some ht
      subst hdd
      obtain ⟨z, hz, hz1, hzr⟩ := ti_zero hti
      have hc : Cells w (Mof M0 st.h p) st.h p (ti.zero.map .lit) z.cells.toList := by rw [hz]; exact Cells.of_lits _ hz1
      refine ⟨.pointer (some ⟨w.heap.size, 0, none⟩), _, _, .inl ⟨?_, box_new R (hlt d rfl) hc t⟩⟩
      simp [execOp, Instr.alloc, hzr, newVar, newRow]
    · cases ht
  · rename_i t x
    split at ht
    · rename_i hc
      simp only [Bool.and_eq_true] at hc
      obtain ⟨d, hdd, rfl⟩ := newH_some ht
      subst hdd
      refine ⟨.pointer (some ⟨w.heap.size, 0, none⟩), _, _, .inl ⟨?_, box_new R (hlt d rfl) ((R.eval x).cells hc.2) t⟩⟩
      simp [execOp, Instr.box, newVar, newRow]
    · cases ht
  · rename_i t n parts
    split at ht
    · split at ht
      · rename_i cs ti hrow
        split at ht
        · rename_i hp
          obtain ⟨d, hdd, rfl⟩ := newH_some ht
          subst hdd
          obtain ⟨us, hrun, hc, hlen, hti, hk, hpos⟩ := row_ok (P := P) (w := w) (M := Mof M0 st.h p) (h := st.h) (p := p) (vals := parts.map fun (i, x) => (i, a.eval x)) (by simp) (fun i b v hb hv => by
            obtain ⟨x, hx, rfl⟩ := map_at hb
            simp only [Array.toList_map] at hv
            obtain ⟨y, hy, rfl⟩ := map_at hv
            rw [hx] at hy
            obtain rfl := Option.some.inj hy
            exact R.eval x.2) hrow
          have hcl := chunkA_len ti.esz n cs
          have hat := fun k e => chunkA_at ti.esz n cs k e (by omega)
          have hbig : n ≤ maxLen := by
            unfold rowA at hrow
            rw [hti] at hrow
            simp only at hrow
            split at hrow
            · cases hrow
            · split at hrow
              · rename_i hcond
                have := hcond.2.2.2.2
                have h2 : n * 1 ≤ n * ti.esz := Nat.mul_le_mul_left _ hpos
                simp only [maxLen]
                omega
              · cases hrow
          have hrel := arr_new (es := chunkA ti.esz n cs) (e := ti.elem) (sz := ti.esz) R (hlt d rfl) hpos (us := us) (by rw [hc.1, hlen, hcl]) (by rw [hcl]; exact hbig) (fun k x hk => ⟨(hat k x hk).1, fun c hcm => by
            obtain ⟨j, hj⟩ := List.mem_iff_getElem?.1 hcm
            exact hc.2.1 c (List.mem_of_getElem? ((hat k x hk).2 j c hj))⟩) (fun k x j c u hk hj hu => by
            have h1 := (hat k x hk).2 j c hj
            exact (hc.2.2 _ c u h1 hu).pure 5 (List.all_eq_true.1 hp c (List.mem_of_getElem? h1)))
          rw [hcl] at hrel
          refine ⟨_, _, _, .inl ⟨?_, hrel⟩⟩
          simp only [execOp, Sem.run_bind, hrun]
          rfl
        · cases ht
      · cases ht
    · cases ht
  · split at ht
    · split at ht
      · rename_i ti hti
        split at ht
        · rename_i hc
          obtain ⟨d, hdd, rfl⟩ := newH_some ht
          subst hdd
          exact ⟨.slice none 0 0, w, _, .inl ⟨rfl, nil_new R (hlt d rfl) (Nat.pos_of_ne_zero hc.2)⟩⟩
        · cases ht
      · cases ht
    · cases ht
  · rename_i t l c
    split at ht
    · rename_i ti n m hti hl hcc
      split at ht
      · rename_i te hte
        split at ht
        · rename_i hc
          obtain ⟨hk, h1, h2, h3, hnm, h0, hn, hby⟩ := hc
          subst hnm
          obtain ⟨d, hdd, rfl⟩ := newH_some ht
          subst hdd
          have e1 : a.eval l = .int .i64 n := by have := R.eval l; rw [hl] at this; exact this.lit_inv
          have e2 : a.eval c = .int .i64 n := by have := R.eval c; rw [hcc] at this; exact this.lit_inv
          obtain ⟨k, rfl⟩ := Int.eq_ofNat_of_zero_le h0
          have hrun := run_make (P := P) (w := w) hti hte hk h1 h2 h3 (n := k) (by omega) hby
          obtain ⟨z, hz, hz1, hzr⟩ := ti_zero hte
          have hrel := arr_new (es := List.replicate k (te.zero.map .lit)) (e := ti.elem) (sz := ti.esz) (us := zrow te.zero k) R (hlt d rfl) (Nat.pos_of_ne_zero h3) (by rw [zrow_len, h2, List.length_replicate]) (by rw [List.length_replicate]; simp only [maxLen]; omega) (fun i x hx => by
            obtain ⟨_, rfl⟩ := List.mem_replicate.1 (List.mem_of_getElem? hx)
            refine ⟨by simp [h2], fun c hc => ?_⟩
            obtain ⟨z', hz', rfl⟩ := List.mem_map.1 hc
            exact List.all_eq_true.1 hz1 z' hz') (fun i x j c u hx hj hu => by
            obtain ⟨_, rfl⟩ := List.mem_replicate.1 (List.mem_of_getElem? hx)
            have hik : i < k := by simpa using (List.getElem?_eq_some_iff.1 hx).1
            rw [← h2] at hu
            rw [zrow_cells i j c u hik hj hu]
            exact .lit u)
          rw [List.length_replicate] at hrel
          refine ⟨_, _, _, .inl ⟨?_, by simpa using hrel⟩⟩
          simp only [execOp, e1, e2, Sem.run_bind]
          rw [show ((k : Int)) = ((k : Nat) : Int) from rfl, hrun]
          rfl
        · cases ht
      · cases ht
    · cases ht
  · rename_i t x y
    split at ht
    · rename_i ti id off hti hx
      split at ht
      · rename_i cs hid
        split at ht
        · rename_i hc
          simp only [Option.some.injEq] at ht
          subst ht
          obtain ⟨w', hrun, hrel⟩ := tail_store (P := P) (y := y) R hti hx hid hc.1 hc.2.1 hc.2.2
          exact ⟨undef, w', p, .inr ⟨by simp only [execOp, Sem.run_bind, hrun]; rfl, rfl, hrel⟩⟩
        · cases ht
      · cases ht
    · rename_i ti id sz i off hti hx
      split at ht
      · rename_i e sz' nl es hid
        split at ht
        · rename_i hc
          obtain ⟨rfl, hi, h1, h2, h3, h4⟩ := hc
          simp only [Option.some.injEq] at ht
          subst ht
          obtain ⟨w', hrun, hrel⟩ := tail_storeE (P := P) (y := y) R hti hx hid hi h1 h2 h3 h4
          exact ⟨undef, w', p, .inr ⟨by simp only [execOp, Sem.run_bind, hrun]; rfl, rfl, hrel⟩⟩
        · cases ht
      · cases ht
    · cases ht
  · rename_i xs ts
    split at ht
    · rename_i x y t t' d hxs hts
      split at ht
      · rename_i ti id sz es hti hx hy
        split at ht
        · rename_i e sz' nl es' hid
          split at ht
          · rename_i te hte
            split at ht
            · rename_i hc
              obtain ⟨rfl, hk, he, rfl, hez, h1, h2, hnil, hmax, hby⟩ := hc
              simp only [Option.some.injEq] at ht
              subst ht
              have e1 : xs = #[x, y] := by apply Array.ext'; rw [hxs]
              have e2 : ts = #[t, t] := by apply Array.ext'; rw [hts]
              subst e1
              obtain ⟨v, w', p', hrun, hrel⟩ := tail_append (P := P) (ty := ty) R (hlt d rfl) hti hx hy hid hte hk he hez h1 h2 hnil hmax hby e2
              refine ⟨v, w', p', .inl ⟨?_, hrel⟩⟩
              simp only [execOp, resolve, invoke, builtin, Sem.run_bind, Sem.run_pure, Result.andThen_ok, List.map_toArray, List.map_cons, List.map_nil, hrun]
            · cases ht
          · cases ht
        · cases ht
      · cases ht
    · cases ht
  · rename_i t
    split at ht
    · rename_i kf z hmi
      obtain ⟨d, hdd, rfl⟩ := newH_some ht
      subst hdd
      obtain ⟨hrun, hrel⟩ := tail_map (P := P) (t := t) (kf := kf) R (hlt d rfl)
      exact ⟨_, _, _, .inl ⟨by simp only [execOp, Sem.run_bind, Option.map_none, hrun]; rfl, hrel⟩⟩
    · cases ht
  · rename_i t m x y
    split at ht
    · obtain ⟨w', hrun, hrel⟩ := tail_put (P := P) R ht
      exact ⟨undef, w', p, .inr ⟨by simp only [execOp, Sem.run_bind, hrun]; rfl, rfl, hrel⟩⟩
    · cases ht
  · rename_i t m x y
    split at ht
    · obtain ⟨w', hrun, hrel⟩ := tail_put (P := P) R ht
      exact ⟨undef, w', p, .inr ⟨by simp only [execOp, Sem.run_bind, hrun]; rfl, rfl, hrel⟩⟩
    · cases ht
  · cases ht
end
end Go.Proofs.YtmfmpagfjgpodaaGreatDoor

/-! Statements, on plain values: of every program; no condition. -/
namespace Go.Proofs.YtmfmpagfjgpodaaGreatDoor
open Go.RowKit

/-- All temporaries are there. -/
def codeB (N : Nat) : Code → Bool
  | .region _ ops _ => ops.toList.all (dstB N)
  | .seq a b => codeB N a && codeB N b
  | .cond _ a b => codeB N a && codeB N b
  | .block _ c => codeB N c
  | .loop c => codeB N c
  | .skip => true
  | .exit _ => true
  | .ret => true
  | _ => false
section
variable (P : Program)
/-- Function f gives a new row of elements es, which nobody else has. -/
def OwnRow (w w' : World) (M : Nat → Prop) (e sz : Nat) (nl : Bool) (es : List (List AV)) (v : Value) : Prop :=
  if nl = true then v = .slice none 0 0 ∧ es = [] else ∃ g cap cur, v = .slice (some ⟨g, 0, none⟩) es.length cap ∧ w.heap.size ≤ g ∧ w'.heap[g]? = some (.cells cur e (0, 0)) ∧ cur.size = cap * sz ∧ es.length ≤ cap ∧ cap ≤ maxLen ∧
    ∀ (k : Nat) (x : List AV) (j : Nat) (c : AV), es[k]? = some x → x[j]? = some c → ∃ u, cur[k * sz + j]? = some u ∧ V0 w' (fun b => M b ∨ b = g) c u
def VCo (f : FuncId) (args : List AV) (e sz : Nat) (nl : Bool) (es : List (List AV)) : Prop :=
  goesB P f = true ∧ 0 < sz ∧ (∀ (k : Nat) (x : List AV), es[k]? = some x → x.length = sz ∧ ∀ c ∈ x, oneAV c = true) ∧
  ∀ (w : World) (M : Nat → Prop) (vs : List Value), MOK w M → vs.length = args.length → (∀ (i : Nat) (a : AV) (v : Value), args[i]? = some a → vs[i]? = some v → V0 w M a v) →
    Calls P f vs.toArray w fun en w' => ∃ v, en = .returned v ∧ Below w.heap.size w w' ∧ OwnRow w w' M e sz nl es v
def OwnOK (st : VS) (c : Call) (e sz : Nat) (nl : Bool) (es : List (List AV)) : Prop :=
  match calleeA P (ev st) c with
  | none => False
  | some (k, args) => VCo P k args e sz nl es ∧ args.all (pureA 5) = true
/-- The call, where its result is a row of the call's own. -/
def ownCall (ow : List Nat) (o : Oper) : Option (Call × Nat) :=
  match o.op, o.dst with
  | .call c, some d => match c.callee with
    | .value _ => if ow.contains d then some (c, d) else none
    | _ => none
  | _, _ => none
def VDo (ow : List Nat) (o : Oper) (st : VS) (K : VS → Prop) : Prop :=
  match tailOp P ow st o with
  | some st' => K st'
  | none => match ownCall ow o with
    | some (c, d) => ∃ e sz nl es, OwnOK P st c e sz nl es ∧ K ⟨(d, .osl st.h.length) :: st.s, st.h ++ [some (.arr e sz nl es)]⟩
    | none => ∃ r, Gives P st.h (ev st) o.op r ∧ K (st.put o.dst r)
def guardA (ops : List Oper) (st : VS) (j : Nat) : AV := match ops[j]? with | some o => (match o.dst with | some d => lkp st.s d | none => .lit undef) | none => .lit undef
def VOp (ow : List Nat) (ops : List Oper) (o : Oper) (st : VS) (K : VS → Prop) : Prop :=
  match o.guard with
  | none => VDo P ow o st K
  | some (j, want) => match guardA ops st j with
    | .lit (.bool b) => if b = want then VDo P ow o st K else K (st.put o.dst (.lit undef))
    | .lit (.tuple _) => K (st.put o.dst (.lit undef))
    | _ => False
def VRun (ow : List Nat) (ops : List Oper) : List Oper → VS → (VS → Prop) → Prop
  | [], st, K => K st
  | o :: l, st, K => VOp P ow ops o st fun st' => VRun ow ops l st' K
end
section
variable {P : Program} {M0 : Nat → Prop} {w0 : World} {N : Nat} {p : Nat → Nat} {st : VS} {a : Act} {w : World}
theorem own_ok (R : Rel M0 w0 N p st a w) {o : Oper} {ow : List Nat} {c : Call} {d e sz : Nat} {nl : Bool} {es : List (List AV)} {K' : Act → World → Prop} {Q : Exit → Act → World → Prop} (hd : dstB N o = true) (hc : ownCall ow o = some (c, d)) (h : OwnOK P st c e sz nl es)
    (hk : ∀ p a w, Rel M0 w0 N p ⟨(d, .osl st.h.length) :: st.s, st.h ++ [some (.arr e sz nl es)]⟩ a w → K' a w) : o.wp P a w K' Q := by
  obtain ⟨dst, op, ty, pos, after, guard⟩ := o
  have hlt := dstB_lt hd
  unfold ownCall at hc
  simp only at hc hlt
  split at hc
  · rename_i c' d'
    split at hc
    · split at hc
      · simp only [Option.some.injEq, Prod.mk.injEq] at hc
        obtain ⟨rfl, rfl⟩ := hc
        obtain ⟨callee, cargs, cts⟩ := c'
        unfold OwnOK at h
        split at h
        · exact h.elim
        · rename_i k args hcal
          obtain ⟨⟨hgo, hsz, hes, hcalls⟩, hp⟩ := h
          obtain ⟨vs, hrun, hlen, hvs⟩ := call_enter (P := P) (dst := some d') (ty := ty) (pos := pos) (after := after) (guard := guard) (fun x _ => R.eval x) hcal hgo
          unfold Oper.wp
          rw [hrun]
          simp only [Oper.upon]
          refine (hcalls w (Mof M0 st.h p) vs R.mok hlen fun i b v hb hv => (hvs i b v hb hv).pure 5 (List.all_eq_true.1 hp b (List.mem_of_getElem? hb))).mono ?_
          rintro en w' ⟨v, rfl, hb, ho⟩
          unfold OwnRow at ho
          cases nl
          · simp only [Bool.false_eq_true, if_false] at ho
            obtain ⟨g, cap, cur, rfl, hg, hh, hcs, hle, hcm, hv⟩ := ho
            have hpn : pNew p st.h.length g st.h.length = g := by simp [pNew]
            have hM : ∀ b, ¬ (Mof M0 st.h p b ∨ b = g) → ¬ Mof M0 (st.h ++ [some (.arr e sz false es)]) (pNew p st.h.length g) b := by
              intro b hn hm
              rcases hm with hm | ⟨i, ob, hi, hl, hpi⟩
              · exact hn (.inl (.inl hm))
              · rcases get_new hi with ⟨hlt, hi'⟩ | ⟨rfl, hx⟩
                · exact hn (.inl (.inr ⟨i, ob, hi', hl, by rw [← hpi]; simp [pNew, Nat.ne_of_lt hlt]⟩))
                · rw [hpn] at hpi
                  exact hn (.inr hpi.symm)
            refine hk _ _ _ (R.grow hb (hlt d' rfl) (fun _ => hg) ⟨hsz, hes, ?_⟩ (.osl _ _ _ _ (by simp) fun e' sz' nl' es' he => ?_))
            · rw [if_neg (by simp), hpn]
              refine ⟨Nat.le_trans R.below.size hg, cur, hh, by rw [hcs]; exact Nat.mul_le_mul_right _ hle, fun k x j c hk hj => ?_⟩
              obtain ⟨u, hu, hvu⟩ := hv k x j c hk hj
              exact ⟨u, hu, hvu.keep (Keeps.refl _ _) fun b _ hn => hM b hn⟩
            · rw [List.getElem?_append_right (Nat.le_refl _)] at he
              simp only [Nat.sub_self, List.getElem?_cons_zero, Option.some.injEq] at he
              injection he with h1 h2 h3 h4
              subst h1 h2 h3 h4
              unfold Osl
              rw [if_neg (by simp), hpn]
              exact ⟨cap, cur, rfl, hh, hcs, hle, hcm⟩
          · simp only [if_true] at ho
            obtain ⟨rfl, rfl⟩ := ho
            refine hk _ _ _ (R.grow (b := 0) hb (hlt d' rfl) (fun h => by cases h) ⟨hsz, by simp, by simp⟩ (.osl _ _ _ _ (by simp) fun e' sz' nl' es' he => ?_))
            rw [List.getElem?_append_right (Nat.le_refl _)] at he
            simp only [Nat.sub_self, List.getElem?_cons_zero, Option.some.injEq] at he
            injection he with h1 h2 h3 h4
            subst h1 h2 h3 h4
            simp [Osl]
      · cases hc
    · cases hc
  · cases hc
theorem VDo_ok {ow : List Nat} {o : Oper} {K : VS → Prop} {K' : Act → World → Prop} {Q : Exit → Act → World → Prop} (R : Rel M0 w0 N p st a w) (hd : dstB N o = true) (h : VDo P ow o st K) (hk : ∀ p st a w, Rel M0 w0 N p st a w → K st → K' a w) : o.wp P a w K' Q := by
  unfold VDo at h
  split at h
  · rename_i st' he
    obtain ⟨v, w', p', hh⟩ := tail_ok (P := P) R hd he
    unfold Oper.wp
    rcases hh with ⟨h1, h2⟩ | ⟨h1, _, h2⟩
    · rw [h1]; exact hk _ _ _ _ h2 h
    · rw [h1]; exact hk _ _ _ _ h2 h
  · split at h
    · rename_i c d hc
      obtain ⟨e, sz, nl, es, ho, hK⟩ := h
      exact own_ok R hd hc ho fun p a w R => hk _ _ _ _ R hK
    · obtain ⟨r, hg, hK⟩ := h
      have := R.gives (P := P) hg
      exact wp_of_gives this rfl fun v w' ⟨hv, hb⟩ => hk _ _ _ _ ((R.later hb).put (dstB_lt hd) hv) hK
theorem yielded_lit {ops : List Oper} {j : Nat} (R : Rel M0 w0 N p st a w) (hops : ops.all (dstB N) = true) : (∀ b, guardA ops st j = .lit (.bool b) → yielded ops.toArray a.tmps j = some b) ∧ (∀ vs, guardA ops st j = .lit (.tuple vs) → yielded ops.toArray a.tmps j = none) := by
  unfold guardA yielded
  cases hj : ops[j]? with
  | none => simp [hj, undef]
  | some o =>
    have hd := List.all_eq_true.1 hops o (List.mem_of_getElem? hj)
    cases ho : o.dst with
    | none => simp [hj, ho, undef]
    | some d =>
      have hlt : d < a.tmps.size := by rw [R.size]; exact dstB_lt hd d ho
      have hs := R.slots d
      have hget : a.tmps.getD d undef = a.tmps[d] := by simp [hlt]
      rw [hget] at hs
      simp only [List.getElem?_toArray, hj, Option.bind_some, ho]
      refine ⟨fun b hb => ?_, fun vs hb => ?_⟩
      · rw [hb] at hs
        have := hs.lit_inv
        simp [hlt, this]
      · rw [hb] at hs
        have := hs.lit_inv
        simp [hlt, this]
theorem VRun_ok {ow : List Nat} {ops : List Oper} {K : VS → Prop} {Q : Exit → Act → World → Prop} (hops : ops.all (dstB N) = true) (hk : ∀ p st a w, Rel M0 w0 N p st a w → K st → Q .normal a w) :
    ∀ (l : List Oper) (p : Nat → Nat) (st : VS) (a : Act) (w : World), l.all (dstB N) = true → Rel M0 w0 N p st a w → VRun P ow ops l st K → wpList P ops.toArray Q l a w
  | [], p, st, a, w, _, R, h => wpList_nil (hk p st a w R h)
  | o :: l, p, st, a, w, hl, R, h => by
    simp only [List.all_cons, Bool.and_eq_true] at hl
    have ih := fun p st a w => VRun_ok (ow := ow) hops hk l p st a w hl.2
    refine wpList_step fun KK hKK => ?_
    simp only [VRun, VOp] at h
    have hdo : VDo P ow o st (fun st' => VRun P ow ops l st' K) → o.wp P a w KK Q := fun h => VDo_ok R hl.1 h fun p st a w R h => hKK _ _ (ih p st a w R h)
    have hsk : VRun P ow ops l (st.put o.dst (.lit undef)) K → KK (a.put o.dst undef) w := fun h => hKK _ _ (ih p _ _ w (R.put (dstB_lt hl.1) (.base _ _ (.lit _))) h)
    split at h
    · rename_i hg
      simp only [Region.wanted, hg, if_true]
      exact hdo h
    · rename_i j want hg
      obtain ⟨hy1, hy2⟩ := yielded_lit (j := j) R hops
      simp only [Region.wanted, hg]
      split at h
      · rename_i b hb
        rw [hy1 b hb]
        by_cases hw : b = want
        · subst hw
          rw [if_pos (by simp)]
          rw [if_pos rfl] at h
          exact hdo h
        · rw [if_neg (by simpa using hw)]
          rw [if_neg hw] at h
          exact hsk h
      · rename_i vs hb
        rw [hy2 vs hb, if_neg (by simp)]
        exact hsk h
      · exact h.elim

/-! ### Statements -/
def VWp (P : Program) (M0 : Nat → Prop) (w0 : World) (N : Nat) (c : Code) (Q : Exit → VS → Prop) (st : VS) : Prop :=
  codeB N c = true → ∀ p a w, Rel M0 w0 N p st a w → c.wp P (fun e a' w' => ∃ st' p', Rel M0 w0 N p' st' a' w' ∧ Q e st') a w
def VThen (K : VS → Prop) (Q : Exit → VS → Prop) : Exit → VS → Prop
  | .normal, st => K st
  | e, st => Q e st
def VBlock (id : Nat) (Q : Exit → VS → Prop) : Exit → VS → Prop
  | .exit id', st => if id' = id then Q .normal st else Q (.exit id') st
  | e, st => Q e st
variable {Q : Exit → VS → Prop}
theorem vskip (h : Q .normal st) : VWp P M0 w0 N .skip Q st := fun _ p _ _ R => wp_skip ⟨st, p, R, h⟩
theorem vexit {id : Nat} (h : Q (.exit id) st) : VWp P M0 w0 N (.exit id) Q st := fun _ p _ _ R => wp_exit ⟨st, p, R, h⟩
theorem vret (h : Q .ret st) : VWp P M0 w0 N .ret Q st := fun _ p _ _ R => wp_ret ⟨st, p, R, h⟩
theorem vseq {x y : Code} (h : VWp P M0 w0 N x (VThen (VWp P M0 w0 N y Q) Q) st) : VWp P M0 w0 N (.seq x y) Q st := fun hB p a w R => by
  simp only [codeB, Bool.and_eq_true] at hB
  refine wp_seq (wp_mono (h hB.1 p a w R) ?_)
  rintro e a' w' ⟨st', p', R', hq⟩
  cases e with
  | normal => exact hq hB.2 p' a' w' R'
  | _ => exact ⟨st', p', R', hq⟩
theorem vthenN {K : VS → Prop} (h : K st) : VThen K Q .normal st := h
theorem vthenE {K : VS → Prop} {id : Nat} (h : Q (.exit id) st) : VThen K Q (.exit id) st := h
theorem vthenR {K : VS → Prop} (h : Q .ret st) : VThen K Q .ret st := h
theorem vblockN {id : Nat} (h : Q .normal st) : VBlock id Q .normal st := h
theorem vblockR {id : Nat} (h : Q .ret st) : VBlock id Q .ret st := h
theorem vblockH {id : Nat} (h : Q .normal st) : VBlock id Q (.exit id) st := by simpa [VBlock] using h
theorem vblockE {id id' : Nat} (hne : Nat.beq id' id = false) (h : Q (.exit id') st) : VBlock id Q (.exit id') st := by
  have : id' ≠ id := fun e => by subst e; simp at hne
  simpa [VBlock, this] using h
theorem vblock {id : Nat} {c : Code} (h : VWp P M0 w0 N c (VBlock id Q) st) : VWp P M0 w0 N (.block id c) Q st := fun hB p a w R => by
  refine wp_block (wp_mono (h (by simpa [codeB] using hB) p a w R) ?_)
  rintro e a' w' ⟨st', p', R', hq⟩
  cases e with
  | exit id' =>
    simp only [Exit.inBlock]
    simp only [VBlock] at hq
    split
    · rename_i he
      rw [if_pos he] at hq
      exact ⟨st', p', R', hq⟩
    · rename_i he
      rw [if_neg he] at hq
      exact ⟨st', p', R', hq⟩
  | _ => exact ⟨st', p', R', hq⟩
theorem vcond {c : Operand} {x y : Code} {t : Bool} (hc : ev st c = .lit (.bool t)) (h1 : t = true → VWp P M0 w0 N x Q st) (h2 : t = false → VWp P M0 w0 N y Q st) : VWp P M0 w0 N (.cond c x y) Q st := fun hB p a w R => by
  simp only [codeB, Bool.and_eq_true] at hB
  have he := R.eval c
  rw [hc] at he
  exact wp_cond_split he.lit_inv (fun ht => h1 ht hB.1 p a w R) (fun ht => h2 ht hB.2 p a w R)
theorem vcondT {c : Operand} {x y : Code} (hc : ev st c = .lit (.bool true)) (h : VWp P M0 w0 N x Q st) : VWp P M0 w0 N (.cond c x y) Q st := vcond hc (fun _ => h) (fun h => by cases h)
theorem vcondF {c : Operand} {x y : Code} (hc : ev st c = .lit (.bool false)) (h : VWp P M0 w0 N y Q st) : VWp P M0 w0 N (.cond c x y) Q st := vcond hc (fun h => by cases h) (fun _ => h)
theorem vregion {id : Nat} {l : List Oper} (ow : List Nat) (h : VRun P ow l l st (Q .normal)) : VWp P M0 w0 N (.region id l.toArray false) Q st := fun hB p a w R => by
  have hB' : l.all (dstB N) = true := by simpa [codeB] using hB
  exact wp_region_lit (VRun_ok (ow := ow) hB' (fun p st a w R h => ⟨st, p, R, h⟩) l p st a w hB' R h)
/-! ### A state told weaker -/
def idsB (k : Nat) : Nat → AV → Bool
  | 0, _ => false
  | n + 1, .agg cs => cs.all (idsB k n)
  | n + 1, .tup cs => cs.all (idsB k n)
  | n + 1, .fn _ a b => a.all (idsB k n) && b.all (idsB k n)
  | n + 1, .iface _ v => idsB k n v
  | _ + 1, .ref id _ => decide (id < k)
  | _ + 1, .aref id _ _ _ => decide (id < k)
  | _ + 1, .osl id => decide (id < k)
  | _ + 1, .mp id => decide (id < k)
  | _ + 1, _ => true
def idsO (k : Nat) : Ob → Bool
  | .box cs => cs.all (idsB k 5)
  | .arr .. => true
  | .mpo .. => true
def leS (s : List (Nat × AV)) (n : Nat) : List (Nat × AV) → Prop
  | [] => True
  | (i, v) :: r => lkp s i = v ∧ idsB n 5 v = true ∧ leS s n r
def leO (h : Hp) (n k : Nat) : Option Ob → Prop
  | none => True
  | some ob => h[k]? = some (some ob) ∧ idsO n ob = true
def leH (h : Hp) (n : Nat) : Nat → Hp → Prop
  | _, [] => True
  | k, o :: r => leO h n k o ∧ leH h n (k + 1) r
def Le (st st' : VS) : Prop := leS st.s st'.h.length st'.s ∧ st'.h.length ≤ st.h.length ∧ leH st.h st'.h.length 0 st'.h
theorem leH_at {h : Hp} {n : Nat} : ∀ (h' : Hp) (k id : Nat) (ob : Ob), leH h n k h' → h'[id]? = some (some ob) → h[k + id]? = some (some ob) ∧ idsO n ob = true
  | [], _, _, _, _, hi => by simp at hi
  | o :: r, k, id, ob, hh, hi => by
    cases id with
    | zero =>
      simp only [List.getElem?_cons_zero, Option.some.injEq] at hi
      subst hi
      exact hh.1
    | succ id =>
      have := leH_at r (k + 1) id ob hh.2 (by simpa using hi)
      rwa [show k + 1 + id = k + (id + 1) by omega] at this
theorem V1.trunc {w : World} {M M' : Nat → Prop} {h h' : Hp} {p : Nat → Nat} (hM : ∀ b, ¬ M b → ¬ M' b) (hh : ∀ (id : Nat) (ob : Ob), h'[id]? = some (some ob) → h[id]? = some (some ob)) :
    ∀ (n : Nat) (av : AV) (v : Value), V1 w M h p av v → idsB h'.length n av = true → V1 w M' h' p av v
  | 0, _, _, _, hb => by simp [idsB] at hb
  | n + 1, av, v, hv, hb => by
    have ih := V1.trunc (w := w) (p := p) hM hh n
    cases hv with
    | base _ _ h0 => exact .base _ _ (h0.keep (Keeps.refl _ _) fun b _ hn => hM b hn)
    | agg cs us hl h1 hv =>
      simp only [idsB] at hb
      exact .agg cs us hl h1 fun i c u hc hu => ih c u (hv i c u hc hu) (List.all_eq_true.1 hb c (List.mem_of_getElem? hc))
    | tup cs us hl hv =>
      simp only [idsB] at hb
      exact .tup cs us hl fun i c u hc hu => ih c u (hv i c u hc hu) (List.all_eq_true.1 hb c (List.mem_of_getElem? hc))
    | fn f x y us vs hl hl' hv hv' =>
      simp only [idsB, Bool.and_eq_true] at hb
      exact .fn f x y us vs hl hl' (fun i c u hc hu => ih c u (hv i c u hc hu) (List.all_eq_true.1 hb.1 c (List.mem_of_getElem? hc))) (fun i c u hc hu => ih c u (hv' i c u hc hu) (List.all_eq_true.1 hb.2 c (List.mem_of_getElem? hc)))
    | iface t x u hv => exact .iface t x u (ih x u hv (by simpa [idsB] using hb))
    | ref id off hid => exact .ref id off (by simpa [idsB] using hb)
    | aref id sz i off hid => exact .aref id sz i off (by simpa [idsB] using hb)
    | osl id A m c hid hv => exact .osl id A m c (by simpa [idsB] using hb) fun e sz nl es he => hv e sz nl es (hh id _ he)
    | mp id hid => exact .mp id (by simpa [idsB] using hb)
theorem lkp_le {st : VS} {M : Nat → Prop} {h' : Hp} {p : Nat → Nat} {tm : Nat → Value} (hs : ∀ i, idsB h'.length 5 (lkp st.s i) = true → V1 w M h' p (lkp st.s i) (tm i)) : ∀ (s' : List (Nat × AV)), leS st.s h'.length s' → ∀ i, V1 w M h' p (lkp s' i) (tm i)
  | [], _, _ => .base _ _ (.any _)
  | (d, v) :: r, hl, i => by
    simp only [lkp]
    split
    · rename_i he
      subst he
      have h1 := hs d (by rw [hl.1]; exact hl.2.1)
      rwa [hl.1] at h1
    · exact lkp_le hs r hl.2.2 i
theorem Rel.le {st' : VS} (R : Rel M0 w0 N p st a w) (hle : Le st st') : Rel M0 w0 N p st' a w := by
  obtain ⟨h1, h2, h3⟩ := hle
  have hh : ∀ (id : Nat) (ob : Ob), st'.h[id]? = some (some ob) → st.h[id]? = some (some ob) := fun id ob hi => by
    have := (leH_at st'.h 0 id ob h3 hi).1
    rwa [Nat.zero_add] at this
  have hM : ∀ b, ¬ Mof M0 st.h p b → ¬ Mof M0 st'.h p b := fun b hn hm => hn (by
    rcases hm with hm | ⟨id, ob, hi, hl, hp⟩
    · exact .inl hm
    · exact .inr ⟨id, ob, hh id ob hi, hl, hp⟩)
  refine ⟨R.defers, R.size, R.below, R.m0, fun i => lkp_le (fun j hj => V1.trunc hM hh 5 _ _ (R.slots j) hj) st'.s h1 i, fun id ob hi => ?_, fun id id' ob ob' hi hi' => R.inj id id' ob ob' (hh _ _ hi) (hh _ _ hi')⟩
  have ho := R.objs id ob (hh id ob hi)
  have hids := (leH_at st'.h 0 id ob h3 hi).2
  cases ob with
  | mpo kf kvs => exact ho
  | box cs =>
    obtain ⟨a1, cur, e, a2, a3, a4, a5⟩ := ho
    exact ⟨a1, cur, e, a2, a3, a4, fun j c hj => let ⟨u, hu, hv⟩ := a5 j c hj; ⟨u, hu, V1.trunc hM hh 5 c u hv (List.all_eq_true.1 hids c (List.mem_of_getElem? hj))⟩⟩
  | arr e sz nl es =>
    obtain ⟨a1, a2, a3⟩ := ho
    refine ⟨a1, a2, ?_⟩
    split at a3
    · rename_i hn
      rw [if_pos hn]
      exact a3
    · rename_i hn
      rw [if_neg hn]
      obtain ⟨b1, cur, b2, b3, b4⟩ := a3
      exact ⟨b1, cur, b2, b3, fun k x j c hk hj => let ⟨u, hu, hv⟩ := b4 k x j c hk hj; ⟨u, hu, hv.keep (Keeps.refl _ _) fun b _ hn => hM b hn⟩⟩
/-- A loop: St tells the state ahead of each round. -/
theorem vloop {c : Code} {α : Type} (St : α → VS) (Inv : α → Prop) (μ : α → Nat) (x0 : α) (hI : Inv x0) (h0 : Le st (St x0))
    (round : ∀ x, Inv x → ∀ K : VS → Prop, (∀ st' y, Inv y → μ y < μ x → Le st' (St y) → K st') → VWp P M0 w0 N c (VThen K Q) (St x)) : VWp P M0 w0 N (.loop c) Q st := fun hB p a w R => by
  have hB' : codeB N c = true := by simpa [codeB] using hB
  refine wp_loop_ghost (fun n a w => ∃ x p, Inv x ∧ μ x = n ∧ Rel M0 w0 N p (St x) a w) (μ x0) ⟨x0, p, hI, rfl, R.le h0⟩ ?_
  rintro n a w ⟨x, p, hx, rfl, R⟩
  refine wp_mono (round x hx (fun st' => ∃ y, Inv y ∧ μ y < μ x ∧ Le st' (St y)) (fun st' y h1 h2 h3 => ⟨y, h1, h2, h3⟩) hB' p a w R) ?_
  rintro e a' w' ⟨st', p', R', hq⟩
  cases e with
  | normal =>
    obtain ⟨y, hy, hm, hle⟩ := hq
    exact ⟨μ y, hm, y, p', hy, rfl, R'.le hle⟩
  | _ => exact ⟨st', p', R', hq⟩
/-- From here on with a state told weaker. -/
theorem vle {c : Code} {st' : VS} (hle : Le st st') (h : VWp P M0 w0 N c Q st') : VWp P M0 w0 N c Q st := fun hB p a w R => h hB p a w (R.le hle)

/-! ### A call -/
def enumA : Nat → List AV → List (Nat × AV)
  | _, [] => []
  | k, v :: r => (k, v) :: enumA (k + 1) r
def resA (P : Program) (st : VS) : List ResultVar → Option (List AV)
  | [] => some []
  | .tmp t :: rs => match resA P st rs with | some vs => some (prepA st.h (lkp st.s t) :: vs) | none => none
  | .cell x t :: rs => match loadA P st.h t (lkp st.s x), resA P st rs with | some v, some vs => some (prepA st.h v :: vs) | _, _ => none
def oneR : List AV → AV
  | [v] => v
  | vs => .tup vs
def VRet (P : Program) (rs : List ResultVar) (r : AV) : Exit → VS → Prop
  | .ret, st => (resA P st rs).map oneR = some r
  | .normal, st => (resA P st rs).map oneR = some r
  | _, _ => False
theorem Rel.prep (R : Rel M0 w0 N p st a w) {v : AV} {u : Value} (hv : V1 w (Mof M0 st.h p) st.h p v u) : V0 w M0 (prepA st.h v) u := by
  unfold prepA
  split
  · rename_i hp
    exact (hv.pure 5 hp).keep (Keeps.refl _ _) fun b _ hn hm => hn (.inl hm)
  · exact thaw_ok R.objs R.m0.1 (fun _ hb => .inl hb) 5 v u hv
theorem res_ok (R : Rel M0 w0 N p st a w) : ∀ (rs : List ResultVar) (vs : List AV), resA P st rs = some vs →
    ∃ us : List Value, (rs.mapM fun | .tmp t => pure (a.tmps.getD t undef) | .cell x t => do loadVar t (← asAddr (a.tmps.getD x undef)) : Sem (List Value)).run P w = .ok us w ∧ us.length = vs.length ∧ ∀ (i : Nat) (c : AV) (u : Value), vs[i]? = some c → us[i]? = some u → V0 w M0 c u
  | [], vs, h => by
    simp only [resA, Option.some.injEq] at h
    subst h
    exact ⟨[], by simp, rfl, by simp⟩
  | .tmp t :: rs, vs, h => by
    simp only [resA] at h
    split at h
    · rename_i vs' hvs
      simp only [Option.some.injEq] at h
      subst h
      obtain ⟨us, hrun, hl, hv⟩ := res_ok R rs vs' hvs
      refine ⟨a.tmps.getD t undef :: us, by simp only [List.mapM_cons, Sem.run_bind, Sem.run_pure, Result.andThen_ok, hrun], by simp [hl], fun i c u hc hu => ?_⟩
      cases i with
      | zero => simp at hc hu; subst hc; subst hu; simpa using R.prep (R.slots t)
      | succ i => exact hv i c u (by simpa using hc) (by simpa using hu)
    · cases h
  | .cell x t :: rs, vs, h => by
    simp only [resA] at h
    split at h
    · rename_i v vs' hv' hvs
      simp only [Option.some.injEq] at h
      subst h
      obtain ⟨us, hrun, hl, hv⟩ := res_ok R rs vs' hvs
      obtain ⟨u, hu, hvu⟩ := load_ok (P := P) R.objs (R.slots x) hv'
      have hptr : ∃ ad, a.tmps.getD x undef = .pointer (some ad) := by
        unfold loadA at hv'
        split at hv'
        · cases hv'
        · split at hv'
          · cases hv'
          · rename_i cs hcs
            obtain ⟨b, o, hq, _⟩ := cellsAt_ok R.objs (R.slots x) hcs
            exact ⟨_, hq⟩
      obtain ⟨ad, had⟩ := hptr
      rw [had] at hu
      simp only [Instr.loadAt, Instr.sureAddr, Sem.run_bind, Sem.run_pure, Result.andThen_ok] at hu
      have e1 : (asAddr (a.tmps.getD x undef)).run P w = .ok ad w := by rw [had]; rfl
      refine ⟨u :: us, by simp only [List.mapM_cons, Sem.run_bind, Sem.run_pure, Result.andThen_ok, e1, hu, hrun], by simp [hl], fun i c y hc hy => ?_⟩
      cases i with
      | zero => simp at hc hy; subst hc; subst hy; exact R.prep hvu
      | succ i => exact hv i c y (by simpa using hc) (by simpa using hy)
    · cases h
theorem enum_at : ∀ (args : List AV) (k : Nat) (tm : Nat → Value) {M : Nat → Prop} {h : Hp} {p : Nat → Nat}, (∀ (i : Nat) (c : AV), args[i]? = some c → V1 w M h p c (tm (k + i))) → ∀ i, V1 w M h p (lkp (enumA k args) i) (tm i)
  | [], _, _, _, _, _, _, _ => .base _ _ (.any _)
  | c :: r, k, tm, M, h, p, hv, i => by
    simp only [enumA, lkp]
    split
    · rename_i he
      subst he
      exact hv 0 c rfl
    · refine enum_at r (k + 1) tm (fun j c hj => ?_) i
      have := hv (j + 1) c (by simpa using hj)
      rwa [show k + (j + 1) = k + 1 + j by omega] at this
theorem VC_of {f : FuncId} {fn : Func} {c : Code} {args : List AV} {r : AV} (hf : P.funcs[f]? = some fn) (hb : fn.body = some c) (hg : goesB P f = true) (hN : codeB fn.ntmps c = true) (hn : Nat.ble args.length fn.ntmps = true)
    (h : ∀ M0 w0, VWp P M0 w0 fn.ntmps c (VRet P fn.results.toList r) ⟨enumA 0 args, []⟩) : VC P f args r := by
  refine ⟨hg, fun w M vs hM hl hv => ?_⟩
  refine calls_of_wp hf hb ?_
  have R : Rel M w fn.ntmps (fun _ => 0) ⟨enumA 0 args, []⟩ { tmps := vs.toArray ++ Array.replicate (fn.ntmps - vs.toArray.size) undef, defers := [] } w := by
    refine ⟨rfl, by have := Nat.le_of_ble_eq_true hn; simp; omega, Below.refl _ _, hM, fun i => ?_, fun id ob hi => by simp at hi, fun id _ _ _ hi => by simp at hi⟩
    refine enum_at args 0 (fun i => (vs.toArray ++ Array.replicate (fn.ntmps - vs.toArray.size) undef).getD i undef) (fun i c hc => ?_) i
    have hi : i < vs.length := by rw [hl]; exact (List.getElem?_eq_some_iff.1 hc).1
    rw [Nat.zero_add]
    have hgd : (vs.toArray ++ Array.replicate (fn.ntmps - vs.toArray.size) undef).getD i undef = vs[i] := by
      rw [Array.getD_eq_getD_getElem?, Array.getElem?_append_left (by simpa using hi)]
      simp [hi]
    rw [hgd]
    refine .base _ _ ((hv i c _ hc (List.getElem?_eq_getElem hi)).keep (Keeps.refl _ _) fun b _ hn hm => ?_)
    rcases hm with hm | ⟨id, ob, hi, _⟩
    · exact hn hm
    · simp at hi
  refine wp_mono (h M w hN (fun _ => 0) _ w R) ?_
  have key : ∀ (st' : VS) (p' : Nat → Nat) (a' : Act) (w' : World), Rel M w fn.ntmps p' st' a' w' → (resA P st' fn.results.toList).map oneR = some r → a'.defers = [] ∧ ∃ v, (results fn a'.tmps).run P w' = .ok v w' ∧ ∃ v', Ending.returned v = .returned v' ∧ Below w.heap.size w w' ∧ V0 w' M r v' := by
    intro st' p' a' w' R' hr
    obtain ⟨vs', hvs, hone⟩ := Option.map_eq_some_iff.1 hr
    obtain ⟨us, hrun, hul, huv⟩ := res_ok (P := P) R' _ _ hvs
    have hrun' : (fn.results.mapM fun | .tmp t => pure (a'.tmps.getD t undef) | .cell x t => do loadVar t (← asAddr (a'.tmps.getD x undef)) : Sem (Array Value)).run P w' = .ok us.toArray w' := by
      rw [← Array.toArray_toList (xs := fn.results), List.mapM_toArray]
      simp only [Sem.run_map, hrun, Result.andThen_ok]
    have hres : (results fn a'.tmps).run P w' = .ok (if h : us.toArray.size = 1 then us.toArray[0] else .tuple us.toArray) w' := by
      unfold results
      rw [Sem.run_bind]
      exact (congrArg (fun r => Result.andThen r _) hrun').trans rfl
    refine ⟨R'.defers, _, hres, _, rfl, R'.below, ?_⟩
    subst hone
    by_cases h1 : us.length = 1
    · obtain ⟨u, rfl⟩ : ∃ u, us = [u] := List.length_eq_one_iff.1 h1
      obtain ⟨c, rfl⟩ : ∃ c, vs' = [c] := List.length_eq_one_iff.1 (by rw [← hul]; rfl)
      exact huv 0 c u rfl rfl
    · have h2 : oneR vs' = .tup vs' := by
        cases vs' with
        | nil => rfl
        | cons x y => cases y with
          | nil => simp at hul; omega
          | cons => rfl
      rw [h2, dif_neg (by simpa using h1)]
      exact .tup _ _ hul huv
  rintro e a' w' ⟨st', p', R', hq⟩
  cases e with
  | normal => exact key st' p' a' w' R' hq
  | ret => exact key st' p' a' w' R' hq
  | _ => exact hq.elim
/-- The result is a row of the call's own. -/
def VRetO (t : Nat) (e sz : Nat) (nl : Bool) (es : List (List AV)) : Exit → VS → Prop
  | .ret, st => ∃ id, lkp st.s t = .osl id ∧ st.h[id]? = some (some (.arr e sz nl es))
  | .normal, st => ∃ id, lkp st.s t = .osl id ∧ st.h[id]? = some (some (.arr e sz nl es))
  | _, _ => False
theorem rel_init {fn : Func} {args : List AV} {M : Nat → Prop} {vs : List Value} (hn : Nat.ble args.length fn.ntmps = true) (hM : MOK w M) (hl : vs.length = args.length) (hv : ∀ (i : Nat) (a : AV) (v : Value), args[i]? = some a → vs[i]? = some v → V0 w M a v) :
    Rel M w fn.ntmps (fun _ => 0) ⟨enumA 0 args, []⟩ { tmps := vs.toArray ++ Array.replicate (fn.ntmps - vs.toArray.size) undef, defers := [] } w := by
  refine ⟨rfl, by have := Nat.le_of_ble_eq_true hn; simp; omega, Below.refl _ _, hM, fun i => ?_, fun id ob hi => by simp at hi, fun id _ _ _ hi => by simp at hi⟩
  refine enum_at args 0 (fun i => (vs.toArray ++ Array.replicate (fn.ntmps - vs.toArray.size) undef).getD i undef) (fun i c hc => ?_) i
  have hi : i < vs.length := by rw [hl]; exact (List.getElem?_eq_some_iff.1 hc).1
  rw [Nat.zero_add]
  have hgd : (vs.toArray ++ Array.replicate (fn.ntmps - vs.toArray.size) undef).getD i undef = vs[i] := by
    rw [Array.getD_eq_getD_getElem?, Array.getElem?_append_left (by simpa using hi)]
    simp [hi]
  rw [hgd]
  refine .base _ _ ((hv i c _ hc (List.getElem?_eq_getElem hi)).keep (Keeps.refl _ _) fun b _ hn hm => ?_)
  rcases hm with hm | ⟨id, ob, hi, _⟩
  · exact hn hm
  · simp at hi
theorem VCo_of {f : FuncId} {fn : Func} {c : Code} {args : List AV} {t e sz : Nat} {nl : Bool} {es : List (List AV)} (hf : P.funcs[f]? = some fn) (hb : fn.body = some c) (hg : goesB P f = true) (hN : codeB fn.ntmps c = true) (hn : Nat.ble args.length fn.ntmps = true) (hr : fn.results = #[.tmp t])
    (hsz : 0 < sz) (hes : ∀ (k : Nat) (x : List AV), es[k]? = some x → x.length = sz ∧ ∀ c ∈ x, oneAV c = true) (h : ∀ M0 w0, VWp P M0 w0 fn.ntmps c (VRetO t e sz nl es) ⟨enumA 0 args, []⟩) : VCo P f args e sz nl es := by
  refine ⟨hg, hsz, hes, fun w M vs hM hl hv => ?_⟩
  refine calls_of_wp hf hb (wp_mono (h M w hN (fun _ => 0) _ w (rel_init hn hM hl hv)) ?_)
  have key : ∀ (st' : VS) (p' : Nat → Nat) (a' : Act) (w' : World), Rel M w fn.ntmps p' st' a' w' → (∃ id, lkp st'.s t = .osl id ∧ st'.h[id]? = some (some (.arr e sz nl es))) →
      a'.defers = [] ∧ ∃ v, (results fn a'.tmps).run P w' = .ok v w' ∧ ∃ v', Ending.returned v = .returned v' ∧ Below w.heap.size w w' ∧ OwnRow w w' M e sz nl es v' := by
    intro st' p' a' w' R ⟨id, hs, hi⟩
    have hsl := R.slots t
    rw [hs] at hsl
    obtain ⟨A, n, c, hq, hid, hosl⟩ := hsl.osl_inv
    have ho := hosl _ _ _ _ hi
    have hob := R.objs id _ hi
    have hres : (results fn a'.tmps).run P w' = .ok (a'.tmps.getD t undef) w' := by
      unfold results
      rw [hr]
      simp
    refine ⟨R.defers, _, hres, _, rfl, R.below, ?_⟩
    unfold Osl at ho
    unfold OwnRow
    obtain ⟨_, _, hrow⟩ := hob
    cases nl
    · simp only [Bool.false_eq_true, if_false] at ho hrow ⊢
      obtain ⟨cap, cur, h1, h2, h3, h4, h5⟩ := ho
      obtain ⟨hge, cur', h6, _, h7⟩ := hrow
      obtain rfl : cur' = cur := by rw [h6] at h2; injection h2 with h2; injection h2
      refine ⟨p' id, cap, cur', h1, hge, h6, h3, h4, h5, fun k x j c hk hj => ?_⟩
      obtain ⟨u, hu, hv⟩ := h7 k x j c hk hj
      refine ⟨u, hu, hv.keep (Keeps.refl _ _) fun b _ hn hm => ?_⟩
      rcases hm with hm | hm
      · exact hn (.inl hm)
      · exact hn (.inr ⟨id, _, hi, rfl, hm.symm⟩)
    · simp only [if_true] at ho hrow ⊢
      exact ⟨ho.1, hrow⟩
  rintro en a' w' ⟨st', p', R', hq⟩
  cases en with
  | normal => exact key st' p' a' w' R' hq
  | ret => exact key st' p' a' w' R' hq
  | _ => exact hq.elim
/-- A row that is the call's own, as one that is only read. -/
theorem VC_of_own {f : FuncId} {args : List AV} {e sz : Nat} {nl : Bool} {es : List (List AV)} (h : VCo P f args e sz nl es) : VC P f args (.sl sz es) := by
  obtain ⟨hg, hsz, hes, hc⟩ := h
  refine ⟨hg, fun w M vs hM hl hv => (hc w M vs hM hl hv).mono ?_⟩
  rintro en w' ⟨v, rfl, hb, ho⟩
  refine ⟨v, rfl, hb, ?_⟩
  unfold OwnRow at ho
  cases nl
  · simp only [Bool.false_eq_true, if_false] at ho
    obtain ⟨g, cap, cur, rfl, hge, hh, hcs, hle, _, hvv⟩ := ho
    by_cases hne : es = []
    · subst hne
      exact .slNil _ _ _
    · have hMg : ¬ M g := fun hm => by have := hM.1 g hm; omega
      refine .sl sz es cap g 0 (fun k j => cur.getD (k * sz + j) undef) hne (Array.getElem?_eq_some_iff.1 hh).1 hMg hle (fun k x hk => (hes k x hk).1) (fun k x j c hk hj => (hes k x hk).2 c (List.mem_of_getElem? hj)) (fun k j hk hj => ?_) fun k x j c hk hj => ?_
      · rw [cell_of_row w' g _ cur e (0, 0) hh, Nat.zero_add]
        have : (k + 1) * sz ≤ cap * sz := Nat.mul_le_mul_right _ (by omega)
        rw [Nat.add_mul] at this
        have : k * sz + j < cur.size := by omega
        simp [this]
      · obtain ⟨u, hu, hv0⟩ := hvv k x j c hk hj
        have : cur.getD (k * sz + j) undef = u := by simp [hu]
        simp only [this]
        exact hv0.keep (Keeps.refl _ _) fun b _ hn hm => hn (.inl hm)
  · simp only [if_true] at ho
    obtain ⟨rfl, rfl⟩ := ho
    exact .slNil _ _ _
end
end Go.Proofs.YtmfmpagfjgpodaaGreatDoor

/-! Statements whose order of operations is left open, on plain values: of every program; no condition. -/
namespace Go.Proofs.YtmfmpagfjgpodaaGreatDoor
open Go.RowKit
section
variable (P : Program)
def VHDo (o : Oper) (st : VS) (K : VS → Prop) : Prop := ∃ r, Gives P st.h (ev st) o.op r ∧ K (st.put o.dst r)
def VHOp (ops : List Oper) (o : Oper) (st : VS) (K : VS → Prop) : Prop :=
  match o.guard with
  | none => VHDo P o st K
  | some (j, want) => match guardA ops st j with
    | .lit (.bool b) => if b = want then VHDo P o st K else K (st.put o.dst (.lit undef))
    | .lit (.tuple _) => K (st.put o.dst (.lit undef))
    | _ => False
def VHRun (ops : List Oper) : List Oper → VS → (VS → Prop) → Prop
  | [], st, K => K st
  | o :: l, st, K => VHOp P ops o st fun st' => VHRun ops l st' K
/-- What one operation gives. -/
def StepOK (ops : List Oper) (o : Oper) (st : VS) (r : AV) : Prop :=
  match o.guard with
  | none => Gives P st.h (ev st) o.op r
  | some (j, want) => match guardA ops st j with
    | .lit (.bool b) => if b = want then Gives P st.h (ev st) o.op r else r = .lit undef
    | .lit (.tuple _) => r = .lit undef
    | _ => False
end
def puts : VS → List Oper → List AV → VS
  | st, o :: l, r :: rs => puts (st.put o.dst r) l rs
  | st, _, _ => st
section
variable {P : Program} {M0 : Nat → Prop} {w0 : World} {N : Nat} {p : Nat → Nat} {st : VS} {a : Act} {w : World} {Q : Exit → VS → Prop}
theorem VHOp_step {ops : List Oper} {o : Oper} {K : VS → Prop} (h : VHOp P ops o st K) : ∃ r, StepOK P ops o st r ∧ K (st.put o.dst r) := by
  obtain ⟨dst, op, ty, pos, after, guard⟩ := o
  cases guard with
  | none => exact h
  | some g =>
    obtain ⟨j, want⟩ := g
    simp only [VHOp] at h
    simp only [StepOK]
    split at h
    · split at h
      · rename_i b hb hw
        obtain ⟨r, h1, h2⟩ := h
        exact ⟨r, by simp only [hw, if_true]; exact h1, h2⟩
      · rename_i b hb hw
        exact ⟨_, by simp only [hw, if_false], h⟩
    · rename_i vs hb
      exact ⟨_, by simp only [], h⟩
    · exact h.elim
theorem VHRun_steps {ops : List Oper} {K : VS → Prop} : ∀ (l : List Oper) (st : VS), VHRun P ops l st K → ∃ rs : List AV, rs.length = l.length ∧ K (puts st l rs) ∧ ∀ (i : Nat) (o : Oper) (r : AV), l[i]? = some o → rs[i]? = some r → StepOK P ops o (puts st (l.take i) (rs.take i)) r
  | [], st, h => ⟨[], rfl, h, by simp⟩
  | o :: l, st, h => by
    obtain ⟨r, h1, h2⟩ := VHOp_step h
    obtain ⟨rs, hl, hK, hs⟩ := VHRun_steps l _ h2
    refine ⟨r :: rs, by simp [hl], hK, fun i o' r' ho hr => ?_⟩
    cases i with
    | zero => simp at ho hr; subst ho; subst hr; exact h1
    | succ i => exact hs i o' r' (by simpa using ho) (by simpa using hr)
theorem puts_h : ∀ (l : List Oper) (rs : List AV) (st : VS), (puts st l rs).h = st.h
  | [], rs, st => by simp [puts]
  | o :: l, [], st => by simp [puts]
  | o :: l, r :: rs, st => by
    rw [puts, puts_h l rs]
    cases o.dst <;> rfl
theorem lkp_put (st : VS) (d : Option Tmp) (r : AV) (t : Nat) : lkp (st.put d r).s t = if d = some t then r else lkp st.s t := by
  cases d with
  | none => simp [VS.put]
  | some d => simp [VS.put, lkp]
theorem puts_no : ∀ (l : List Oper) (rs : List AV) (st : VS) (t : Nat), (∀ o ∈ l, o.dst ≠ some t) → lkp (puts st l rs).s t = lkp st.s t
  | [], rs, st, t, _ => by simp [puts]
  | o :: l, [], st, t, _ => by simp [puts]
  | o :: l, r :: rs, st, t, h => by
    rw [puts, puts_no l rs _ t fun o ho => h o (List.mem_cons_of_mem _ ho), lkp_put, if_neg (h o (List.mem_cons_self ..))]
theorem puts_at : ∀ (l : List Oper) (rs : List AV) (st : VS) (t j : Nat) (o : Oper) (r : AV), distB l = true → l[j]? = some o → rs[j]? = some r → o.dst = some t → lkp (puts st l rs).s t = r
  | [], _, _, _, _, _, _, _, h, _, _ => by simp at h
  | o :: l, [], _, _, _, _, _, _, _, h, _ => by simp at h
  | q :: l, s :: rs, st, t, j, o, r, hd, ho, hr, ht => by
    obtain ⟨h1, h2⟩ := distB_spec hd
    cases j with
    | zero =>
      simp at ho hr
      subst ho
      subst hr
      rw [puts, puts_no l rs _ t fun o ho => h1 o ho t ht, lkp_put, if_pos ht]
    | succ j => exact puts_at l rs _ t j o r h2 (by simpa using ho) (by simpa using hr) ht
theorem fill_no {vs : Nat → Value} : ∀ (l : List Oper) (k : Nat) (a : Act) (t : Nat), (∀ o ∈ l, o.dst ≠ some t) → (∀ o ∈ l, ∀ d, o.dst = some d → d < a.tmps.size) → (fill (fun _ => true) vs l k a).tmps.getD t undef = a.tmps.getD t undef
  | [], _, _, _, _, _ => rfl
  | o :: l, k, a, t, h, hb => by
    rw [fill, if_pos rfl]
    have hsz : (a.put o.dst (vs k)).tmps.size = a.tmps.size := by cases o.dst <;> simp [Act.put]
    rw [fill_no l (k + 1) _ t (fun o ho => h o (List.mem_cons_of_mem _ ho)) (fun o ho d hd => by rw [hsz]; exact hb o (List.mem_cons_of_mem _ ho) d hd)]
    cases ho : o.dst with
    | none => rfl
    | some d =>
      rw [getD_put a d _ t (hb o (List.mem_cons_self ..) d ho), if_neg]
      intro hdt
      exact h o (List.mem_cons_self ..) (by rw [ho, hdt])
theorem fill_at {vs : Nat → Value} : ∀ (l : List Oper) (k : Nat) (a : Act) (t j : Nat) (o : Oper), distB l = true → (∀ o ∈ l, ∀ d, o.dst = some d → d < a.tmps.size) → l[j]? = some o → o.dst = some t → (fill (fun _ => true) vs l k a).tmps.getD t undef = vs (k + j)
  | [], _, _, _, _, _, _, _, h, _ => by simp at h
  | q :: l, k, a, t, j, o, hd, hb, ho, ht => by
    obtain ⟨h1, h2⟩ := distB_spec hd
    rw [fill, if_pos rfl]
    have hsz : (a.put q.dst (vs k)).tmps.size = a.tmps.size := by cases q.dst <;> simp [Act.put]
    cases j with
    | zero =>
      simp at ho
      subst ho
      rw [fill_no l (k + 1) _ t (fun o ho => h1 o ho t ht) (fun o ho d hd => by rw [hsz]; exact hb o (List.mem_cons_of_mem _ ho) d hd), ht, getD_put a t _ t (hb q (List.mem_cons_self ..) t ht), if_pos rfl, Nat.add_zero]
    | succ j =>
      rw [fill_at l (k + 1) _ t j o h2 (fun o ho d hd => by rw [hsz]; exact hb o (List.mem_cons_of_mem _ ho) d hd) (by simpa using ho) ht]
      congr 1
      omega
theorem fill_size {vs : Nat → Value} {g : Nat → Bool} : ∀ (l : List Oper) (k : Nat) (a : Act), (fill g vs l k a).tmps.size = a.tmps.size ∧ (fill g vs l k a).defers = a.defers
  | [], _, _ => ⟨rfl, rfl⟩
  | o :: l, k, a => by
    rw [fill]
    obtain ⟨h1, h2⟩ := fill_size (vs := vs) (g := g) l (k + 1) (if g k = true then a.put o.dst (vs k) else a)
    rw [h1, h2]
    split
    · cases o.dst <;> simp [Act.put]
    · exact ⟨rfl, rfl⟩
/-- What is looked at is what the plain walk has there. -/
theorem look_ok {M : Nat → Prop} {h : Hp} {hd : List Oper} {rs : List AV} {vs : Nat → Value} {i t : Nat} {w' : World} (hdist : distB hd = true) (hrs : rs.length = hd.length) (hb : ∀ o ∈ hd, ∀ d, o.dst = some d → d < a.tmps.size)
    (hsl : V1 w' M h p (lkp st.s t) (a.tmps.getD t undef)) (_hi : i ≤ hd.length) (hw : ∀ (j : Nat) (o : Oper), hd[j]? = some o → o.dst = some t → j < i ∧ V1 w' M h p (rs.getD j .any) (vs j)) :
    V1 w' M h p (lkp (puts st (hd.take i) (rs.take i)).s t) ((fill (fun _ => true) vs hd 0 a).tmps.getD t undef) := by
  by_cases hex : ∃ (j : Nat) (o : Oper), hd[j]? = some o ∧ o.dst = some t
  · obtain ⟨j, o, hj, ho⟩ := hex
    obtain ⟨hlt, hv⟩ := hw j o hj ho
    have hjl := (List.getElem?_eq_some_iff.1 hj).1
    have hdt : distB (hd.take i) = true := by
      clear hw hsl hb hj _hi hv hlt hrs hjl
      induction hd generalizing i with
      | nil => simp [distB]
      | cons x l ih =>
        cases i with
        | zero => rfl
        | succ i =>
          simp only [distB, Bool.and_eq_true] at hdist
          simp only [List.take_succ_cons, distB, Bool.and_eq_true]
          refine ⟨?_, ih hdist.2⟩
          have h1 := hdist.1
          cases hd' : x.dst with
          | none => rfl
          | some d =>
            simp only [hd'] at h1
            exact List.all_eq_true.2 fun q hq => List.all_eq_true.1 h1 q (List.mem_of_mem_take hq)
    rw [fill_at hd 0 a t j o hdist hb hj ho, Nat.zero_add, puts_at (hd.take i) (rs.take i) st t j o (rs.getD j .any) hdt (by rw [List.getElem?_take_of_lt hlt]; exact hj) (by rw [List.getElem?_take_of_lt hlt]; simp [List.getD, show j < rs.length by omega]) ho]
    exact hv
  · have hno : ∀ o ∈ hd, o.dst ≠ some t := fun o ho he => by
      obtain ⟨j, hj⟩ := List.mem_iff_getElem?.1 ho
      exact hex ⟨j, o, hj, he⟩
    rw [fill_no hd 0 a t hno hb, puts_no _ _ _ _ fun o ho => hno o (List.mem_of_mem_take ho)]
    exact hsl
theorem spec_of_steps {l : List Oper} {n : Nat} {rs : List AV} (R : Rel M0 w0 N p st a w) (hn : n ≤ l.length) (hd : distB (l.take n) = true) (hN : l.all (dstB N) = true)
    (hlook : ∀ i, i < n → ∀ o, l[i]? = some o → ∀ t ∈ o.looksAt l.toArray, ∀ j, j < n → ∀ q, l[j]? = some q → q.dst = some t → Region.waitsFor .any l.toArray i j = true)
    (hlt : ∀ i j, i < n → Region.waitsFor .any l.toArray i j = true → j < i) (hrs : rs.length = n)
    (hst : ∀ (i : Nat) (o : Oper) (r : AV), (l.take n)[i]? = some o → rs[i]? = some r → StepOK P l o (puts st ((l.take n).take i) (rs.take i)) r) (i : Nat) (hi : i < n) :
    specOp P l.toArray w a n (fun i v w' => V1 w' (Mof M0 st.h p) st.h p (rs.getD i .any) v) i := by
  intro o ho vs w' hbel hS
  have ho' : l[i]? = some o := by simpa using ho
  have hti : (l.take n)[i]? = some o := by rw [List.getElem?_take_of_lt hi]; exact ho'
  have R' := R.later hbel
  have hbnd : ∀ q ∈ l.take n, ∀ d, q.dst = some d → d < a.tmps.size := fun q hq d hdd => by rw [R.size]; exact dstB_lt (List.all_eq_true.1 hN q (List.mem_of_mem_take hq)) d hdd
  have hlen : (l.take n).length = n := by simp; omega
  have hlk : ∀ t ∈ o.looksAt l.toArray, V1 w' (Mof M0 st.h p) st.h p (lkp (puts st ((l.take n).take i) (rs.take i)).s t) ((fill (fun _ => true) vs (l.take n) 0 a).tmps.getD t undef) := fun t ht =>
    look_ok hd (by rw [hrs, hlen]) hbnd (R'.slots t) (by rw [hlen]; omega) fun j q hj hq => by
      have hjn : j < n := by have := (List.getElem?_eq_some_iff.1 hj).1; omega
      have hj' : l[j]? = some q := by rw [List.getElem?_take_of_lt hjn] at hj; exact hj
      have hw := hlook i hi o ho' t ht j hjn q hj' hq
      exact ⟨hlt i j hi hw, hS j hjn hw⟩
  have hr : rs[i]? = some (rs.getD i .any) := by simp [List.getD, show i < rs.length by omega]
  have hstep := hst i o _ hti hr
  simp only []
  have hgive : Gives P st.h (ev (puts st ((l.take n).take i) (rs.take i))) o.op (rs.getD i .any) → gives P o (fill (fun _ => true) vs (l.take n) 0 a) w' fun v w'' => V1 w'' (Mof M0 st.h p) st.h p (rs.getD i .any) v ∧ Below w'.heap.size w' w'' := by
    intro hg
    refine gives_ok R'.objs R'.mok R'.m0.1 R'.below.size R'.glob (fun _ hb => .inl hb) (fun x hx => ?_) hg
    cases x with
    | tmp t => exact hlk t (List.mem_append_left _ (List.mem_filterMap.2 ⟨.tmp t, by simpa using hx, rfl⟩))
    | const v => exact .base _ _ (.lit v)
    | global g => exact .base _ _ (R'.evalG g)
    | func f => exact .base _ _ (.lit _)
  unfold StepOK at hstep
  split at hstep
  · rename_i hg
    simp only [Region.wanted, hg, if_true]
    rw [puts_h] at hstep
    exact hgive hstep
  · rename_i j want hg
    simp only [Region.wanted, hg]
    have hy : (∀ b, guardA l (puts st ((l.take n).take i) (rs.take i)) j = .lit (.bool b) → yielded l.toArray (fill (fun _ => true) vs (l.take n) 0 a).tmps j = some b) ∧ (∀ us, guardA l (puts st ((l.take n).take i) (rs.take i)) j = .lit (.tuple us) → yielded l.toArray (fill (fun _ => true) vs (l.take n) 0 a).tmps j = none) := by
      unfold guardA yielded
      cases hj : l[j]? with
      | none => simp [hj, undef]
      | some q =>
        cases hq : q.dst with
        | none => simp [hj, hq, undef]
        | some d =>
          have hmem : d ∈ o.looksAt l.toArray := by
            unfold Oper.looksAt
            refine List.mem_append_right _ ?_
            simp [hg, hj, hq]
          have hs := hlk d hmem
          have hltd : d < (fill (fun _ => true) vs (l.take n) 0 a).tmps.size := by
            rw [(fill_size _ _ _).1, R.size]
            exact dstB_lt (List.all_eq_true.1 hN q (List.mem_of_getElem? hj)) d hq
          have hget : (fill (fun _ => true) vs (l.take n) 0 a).tmps.getD d undef = (fill (fun _ => true) vs (l.take n) 0 a).tmps[d] := by simp [hltd]
          rw [hget] at hs
          simp only [List.getElem?_toArray, hj, Option.bind_some, hq]
          refine ⟨fun b hb => ?_, fun us hb => ?_⟩
          · rw [hb] at hs
            have := hs.lit_inv
            simp [hltd, this]
          · rw [hb] at hs
            have := hs.lit_inv
            simp [hltd, this]
    split at hstep
    · rename_i b hb
      rw [hy.1 b hb]
      split at hstep
      · rename_i hw
        subst hw
        rw [if_pos (by simp)]
        rw [puts_h] at hstep
        exact hgive hstep
      · rename_i hw
        rw [if_neg (by simpa using hw), hstep]
        exact .base _ _ (.lit _)
    · rename_i us hb
      rw [hy.2 us hb, if_neg (by simp), hstep]
      exact .base _ _ (.lit _)
    · exact hstep.elim
theorem rel_of_steps {l : List Oper} {rs : List AV} {vs : Nat → Value} {w' : World} (R : Rel M0 w0 N p st a w) (hd : distB l = true) (hN : l.all (dstB N) = true) (hrs : rs.length = l.length) (hb : Below w.heap.size w w')
    (hv : ∀ i, i < l.length → V1 w' (Mof M0 st.h p) st.h p (rs.getD i .any) (vs i)) : Rel M0 w0 N p (puts st l rs) (fill (fun _ => true) vs l 0 a) w' := by
  have R' := R.later hb
  have hbnd : ∀ q ∈ l, ∀ d, q.dst = some d → d < a.tmps.size := fun q hq d hdd => by rw [R.size]; exact dstB_lt (List.all_eq_true.1 hN q hq) d hdd
  obtain ⟨hs1, hs2⟩ := fill_size (vs := vs) (g := fun _ => true) l 0 a
  have hh := puts_h l rs st
  refine ⟨by rw [hs2]; exact R.defers, by rw [hs1]; exact R.size, R'.below, R.m0, fun t => ?_, ?_, ?_⟩
  · rw [hh]
    have := look_ok (i := l.length) (vs := vs) hd hrs hbnd (R'.slots t) (Nat.le_refl _) fun j o hj ho => ⟨(List.getElem?_eq_some_iff.1 hj).1, hv j (List.getElem?_eq_some_iff.1 hj).1⟩
    rwa [List.take_length, List.take_of_length_le (by omega)] at this
  · rw [hh]; exact R'.objs
  · rw [hh]; exact R.inj
/-- May operations 0 to n - 1 be told in their text's order, the others behind them? -/
def drawB (l : List Oper) (n : Nat) : Bool := if n = l.length then Region.allB l.toArray else Region.specB l.toArray n
theorem vdraw {id : Nat} {l : List Oper} (n : Nat) (ow : List Nat) (hm : P.follows .mixedOrders = true) (hB : drawB l n = true) (h : VHRun P l (l.take n) st fun st' => VRun P ow l (l.drop n) st' (Q .normal)) :
    VWp P M0 w0 N (.region id l.toArray true) Q st := fun hC p a w R => by
  have hN : l.all (dstB N) = true := by simpa [codeB] using hC
  obtain ⟨rs, hrl, hK, hst⟩ := VHRun_steps _ _ h
  unfold drawB at hB
  split at hB
  · rename_i hn
    subst hn
    rw [List.take_length] at hrl hK hst
    rw [List.drop_length] at hK
    have hB' := hB
    simp only [Region.allB, Bool.and_eq_true] at hB
    obtain ⟨⟨hsel, hd⟩, hlook⟩ := hB
    have hd' : distB l = true := by simpa using hd
    have hlk : ∀ i, i < l.length → ∀ o, l[i]? = some o → (∀ t ∈ o.looksAt l.toArray, ∀ j, j < l.length → ∀ q, l[j]? = some q → q.dst = some t → Region.waitsFor .any l.toArray i j = true) ∧ (∀ e ∈ o.after, Region.binds .any e = true → e.on < i) := by
      intro i hi o ho
      have h := List.all_eq_true.1 hlook i (List.mem_range.2 (by simpa using hi))
      simp only [List.getElem?_toArray, ho, Bool.and_eq_true] at h
      refine ⟨fun t ht j hj q hq hqd => ?_, fun e he hb => ?_⟩
      · have h1 := List.all_eq_true.1 (List.all_eq_true.1 h.1 t ht) j (List.mem_range.2 (by simpa using hj))
        simp only [hq, Option.bind_some, hqd, bne_self_eq_false, Bool.false_or] at h1
        exact h1
      · have h1 := Array.all_eq_true'.1 h.2 e he
        simp only [hb, Bool.not_true, Bool.false_or, decide_eq_true_eq] at h1
        exact h1
    have hlt : ∀ i j, i < l.length → Region.waitsFor .any l.toArray i j = true → j < i := by
      intro i j hi hw
      obtain ⟨o, ho, e, he, hb, hon⟩ := Region.waitsFor_spec hw
      rw [← hon]
      exact (hlk i hi o (by simpa using ho)).2 e he hb
    refine wp_region_all (S := fun i v w' => V1 w' (Mof M0 st.h p) st.h p (rs.getD i .any) v) hm hB' (fun i _ v w1 w2 hv hb => hv.later hb) (fun i hi => ?_) fun vs w' hb hv => ?_
    · exact spec_of_steps R (Nat.le_refl _) (by rw [List.take_length]; exact hd') hN (fun i hi o ho t ht j hj q hq hqd => (hlk i hi o ho).1 t ht j hj q hq hqd) hlt hrl (by rw [List.take_length]; exact hst) i hi
    · exact ⟨_, p, rel_of_steps R hd' hN hrl hb hv, hK⟩
  · rename_i hn
    have hB' := hB
    simp only [Region.specB, Bool.and_eq_true, decide_eq_true_eq] at hB
    obtain ⟨⟨⟨⟨⟨⟨hsel, hnl⟩, hs⟩, hc⟩, hd⟩, hlook⟩, hseq⟩ := hB
    have hnl' : n < l.length := by simpa using hnl
    have hd' : distB (l.take n) = true := by simpa using hd
    have hlen : (l.take n).length = n := by simp; omega
    have hlk : ∀ i, i < n → ∀ o, l[i]? = some o → (∀ t ∈ o.looksAt l.toArray, ∀ j, j < n → ∀ q, l[j]? = some q → q.dst = some t → Region.waitsFor .any l.toArray i j = true) ∧ (∀ e ∈ o.after, Region.binds .any e = true → e.on < i) := by
      intro i hi o ho
      have h := List.all_eq_true.1 hlook i (List.mem_range.2 hi)
      simp only [List.getElem?_toArray, ho, Bool.and_eq_true] at h
      refine ⟨fun t ht j hj q hq hqd => ?_, fun e he hb => ?_⟩
      · have h1 := List.all_eq_true.1 (List.all_eq_true.1 h.1 t ht) j (List.mem_range.2 hj)
        simp only [hq, Option.bind_some, hqd, bne_self_eq_false, Bool.false_or] at h1
        exact h1
      · have h1 := Array.all_eq_true'.1 h.2 e he
        simp only [hb, Bool.not_true, Bool.false_or, decide_eq_true_eq] at h1
        exact h1
    have hlt : ∀ i j, i < n → Region.waitsFor .any l.toArray i j = true → j < i := by
      intro i j hi hw
      obtain ⟨o, ho, e, he, hb, hon⟩ := Region.waitsFor_spec hw
      rw [← hon]
      exact (hlk i hi o (by simpa using ho)).2 e he hb
    refine wp_region_spec n (fun i v w' => V1 w' (Mof M0 st.h p) st.h p (rs.getD i .any) v) hm hB' (fun i _ v w1 w2 hv hb => hv.later hb) (fun i hi => ?_) fun vs w' hb hv => ?_
    · exact spec_of_steps R (Nat.le_of_lt hnl') hd' hN (fun i hi o ho t ht j hj q hq hqd => (hlk i hi o ho).1 t ht j hj q hq hqd) hlt (by rw [hrl, hlen]) hst i hi
    · have hNt : (l.take n).all (dstB N) = true := List.all_eq_true.2 fun q hq => List.all_eq_true.1 hN q (List.mem_of_mem_take hq)
      have hNd : (l.drop n).all (dstB N) = true := List.all_eq_true.2 fun q hq => List.all_eq_true.1 hN q (List.mem_of_mem_drop hq)
      exact VRun_ok (ow := ow) hN (fun p st a w R h => ⟨st, p, R, h⟩) (l.drop n) p _ _ w' hNd (rel_of_steps R hd' hNt hrl hb (by rw [hlen]; exact hv)) hK

end
end Go.Proofs.YtmfmpagfjgpodaaGreatDoor

/-! Statements whose order is left open and that make a row or a variable of the call's own: of every program; no condition. -/
namespace Go.Proofs.YtmfmpagfjgpodaaGreatDoor
open Go.RowKit
/-- What is left behind an operation on memory of the call's own. -/
def chainP (pid : Option Nat) (s : List (Nat × AV)) : List (Nat × AV) := match pid with | some id => s.map (fun q => (q.1, purge id q.2)) | none => s
def chainS (d : Option Tmp) (av : AV) (pid : Option Nat) (s : List (Nat × AV)) : List (Nat × AV) := match d with | some d => (d, av) :: chainP pid s | none => chainP pid s
abbrev chainRes (d : Option Tmp) (av : AV) (pid : Option Nat) (s : List (Nat × AV)) (H : Hp) : VS := ⟨chainS d av pid s, H⟩
def newCs (d : Option Tmp) (av : AV) (pid : Option Nat) (cs : List (Nat × AV)) : List (Nat × AV) := match d with | some d => (d, av) :: (match pid with | some _ => [] | none => cs) | none => cs
/-- Whatever is so of the one state is so of the other. -/
def SubRel (st1 st2 : VS) : Prop := ∀ (M0 : Nat → Prop) (w0 : World) (N : Nat) (p : Nat → Nat) (a : Act) (w : World), Rel M0 w0 N p st1 a w → Rel M0 w0 N p st2 a w
def nextT (fz : Bool) (av : AV) : AV := if fz = true then av else .any
def nextCs (fz : Bool) (d : Option Tmp) (av : AV) (pid : Option Nat) (cs : List (Nat × AV)) : List (Nat × AV) := if fz = true then (match pid with | some _ => [] | none => cs) else newCs d av pid cs
section
variable (P : Program)
/-- An operation on memory of the call's own: whatever else is known, from what its operands are. -/
def ChainOK (ow : List Nat) (o : Oper) (cs : List (Nat × AV)) (T : VS) (X X' : Hp) (pid : Option Nat) (av : AV) : Prop :=
  o.guard = none ∧ (o.dst = none → pid = none) ∧ (∀ id, pid = some id → T.h.length ≤ id) ∧
    ∀ s2, (∀ t, Operand.tmp t ∈ o.op.operands → lkp (cs ++ T.s) t ≠ .any → lkp s2 t = lkp (cs ++ T.s) t) → VDo P ow o ⟨s2, T.h ++ X⟩ fun st' => SubRel st' (chainRes o.dst av pid s2 (T.h ++ X'))
def VHRunC (ow : List Nat) (ops : List Oper) (isC : Nat → Bool) : List Oper → Nat → VS → List (Nat × AV) → Hp → (VS → Prop) → Prop
  | [], _, T, cs, X, K => K ⟨cs ++ T.s, T.h ++ X⟩
  | o :: l, i, T, cs, X, K =>
    if isC i = true then ∃ X' pid av fz, (ChainOK P ow o cs T X X' pid av ∧ (fz = true → idsB T.h.length 5 av = true)) ∧ VHRunC ow ops isC l (i + 1) (T.put o.dst (nextT fz av)) (nextCs fz o.dst av pid cs) X' K
    else VHOp P ops o T fun T' => (∀ d, o.dst = some d → idsB T.h.length 5 (lkp T'.s d) = true) ∧ VHRunC ow ops isC l (i + 1) T' cs X K
end
section
variable {P : Program} {M0 : Nat → Prop} {w0 : World} {N : Nat} {p : Nat → Nat} {st : VS} {a : Act} {w : World} {Q : Exit → VS → Prop}
theorem put_h (st : VS) (d : Option Tmp) (r : AV) : (st.put d r).h = st.h := by cases d <;> rfl
/-- The steps. -/
structure ChainSteps (P : Program) (ow : List Nat) (ops : List Oper) (isC : Nat → Bool) (l : List Oper) (i0 : Nat) (T : VS) (rs : List AV) (Xs : Nat → Hp) (css : Nat → List (Nat × AV)) : Prop where
  len : rs.length = l.length
  plain : ∀ (i : Nat) (o : Oper) (r : AV), isC (i0 + i) = false → l[i]? = some o → rs[i]? = some r → StepOK P ops o (puts T (l.take i) (rs.take i)) r ∧ (∀ d, o.dst = some d → idsB T.h.length 5 r = true) ∧ Xs (i + 1) = Xs i ∧ css (i + 1) = css i
  chain : ∀ (i : Nat) (o : Oper), isC (i0 + i) = true → l[i]? = some o → ∃ pid av fz, rs[i]? = some (nextT fz av) ∧ ChainOK P ow o (css i) (puts T (l.take i) (rs.take i)) (Xs i) (Xs (i + 1)) pid av ∧ (fz = true → idsB T.h.length 5 av = true) ∧ css (i + 1) = nextCs fz o.dst av pid (css i)
theorem lkp_put_self (st : VS) (d : Nat) (r : AV) : lkp (st.put (some d) r).s d = r := by simp [VS.put, lkp]
theorem VHRunC_steps {ow : List Nat} {ops : List Oper} {isC : Nat → Bool} {K : VS → Prop} : ∀ (l : List Oper) (i0 : Nat) (T : VS) (cs : List (Nat × AV)) (X : Hp), VHRunC P ow ops isC l i0 T cs X K →
    ∃ rs Xs css, ChainSteps P ow ops isC l i0 T rs Xs css ∧ Xs 0 = X ∧ css 0 = cs ∧ K ⟨css l.length ++ (puts T l rs).s, T.h ++ Xs l.length⟩
  | [], i0, T, cs, X, h => ⟨[], fun _ => X, fun _ => cs, ⟨rfl, by simp, by simp⟩, rfl, rfl, h⟩
  | o :: l, i0, T, cs, X, h => by
    unfold VHRunC at h
    by_cases hc : isC i0 = true
    · rw [if_pos hc] at h
      obtain ⟨X', pid, av, fz, ⟨h1, hfz⟩, h2⟩ := h
      obtain ⟨rs, Xs, css, S, e1, e2, hK⟩ := VHRunC_steps l (i0 + 1) _ _ _ h2
      refine ⟨nextT fz av :: rs, fun i => match i with | 0 => X | i + 1 => Xs i, fun i => match i with | 0 => cs | i + 1 => css i, ⟨by simp [S.len], fun i q r hi hq hr => ?_, fun i q hi hq => ?_⟩, rfl, rfl, ?_⟩
      · cases i with
        | zero => rw [Nat.add_zero, hc] at hi; cases hi
        | succ i =>
          have := S.plain i q r (by rw [← hi]; congr 1; omega) (by simpa using hq) (by simpa using hr)
          rw [put_h] at this
          simpa [puts] using this
      · cases i with
        | zero =>
          simp at hq
          subst hq
          exact ⟨pid, av, fz, rfl, by simpa [puts, e1] using h1, hfz, by simp [e2]⟩
        | succ i =>
          have := S.chain i q (by rw [← hi]; congr 1; omega) (by simpa using hq)
          rw [put_h] at this
          simpa [puts] using this
      · rw [put_h] at hK
        simpa [puts] using hK
    · rw [if_neg hc] at h
      obtain ⟨r, h1, h2, h3⟩ := VHOp_step h
      obtain ⟨rs, Xs, css, S, e1, e2, hK⟩ := VHRunC_steps l (i0 + 1) _ _ _ h3
      refine ⟨r :: rs, fun i => match i with | 0 => X | i + 1 => Xs i, fun i => match i with | 0 => cs | i + 1 => css i, ⟨by simp [S.len], fun i q x hi hq hr => ?_, fun i q hi hq => ?_⟩, rfl, rfl, ?_⟩
      · cases i with
        | zero =>
          simp at hq hr
          subst hq
          subst hr
          refine ⟨h1, fun d hd => ?_, by simp [e1], by simp [e2]⟩
          have := h2 d hd
          rw [hd, lkp_put_self] at this
          simpa using this
        | succ i =>
          have := S.plain i q x (by rw [← hi]; congr 1; omega) (by simpa using hq) (by simpa using hr)
          rw [put_h] at this
          simpa [puts] using this
      · cases i with
        | zero => rw [Nat.add_zero] at hi; exact absurd hi hc
        | succ i =>
          have := S.chain i q (by rw [← hi]; congr 1; omega) (by simpa using hq)
          rw [put_h] at this
          simpa [puts] using this
      · rw [put_h] at hK
        simpa [puts] using hK
theorem ids_noOsl {n id : Nat} (hn : n ≤ id) : ∀ (k : Nat) (v : AV), idsB n k v = true → noOsl id k v = true
  | 0, v, h => by simp [idsB] at h
  | k + 1, v, h => by
    have ih := ids_noOsl hn k
    cases v with
    | agg cs => simp only [idsB, noOsl, List.all_eq_true] at h ⊢; exact fun c hc => ih c (h c hc)
    | tup cs => simp only [idsB, noOsl, List.all_eq_true] at h ⊢; exact fun c hc => ih c (h c hc)
    | fn f x y => simp only [idsB, noOsl, Bool.and_eq_true, List.all_eq_true] at h ⊢; exact ⟨fun c hc => ih c (h.1 c hc), fun c hc => ih c (h.2 c hc)⟩
    | iface t x => simp only [idsB, noOsl] at h ⊢; exact ih x h
    | ref i o => simp only [idsB, noOsl, decide_eq_true_eq, bne_iff_ne, ne_eq] at h ⊢; omega
    | aref i a b c => simp only [idsB, noOsl, decide_eq_true_eq, bne_iff_ne, ne_eq] at h ⊢; omega
    | osl i => simp only [idsB, noOsl, decide_eq_true_eq, bne_iff_ne, ne_eq] at h ⊢; omega
    | mp i => simp only [idsB, noOsl, decide_eq_true_eq, bne_iff_ne, ne_eq] at h ⊢; omega
    | _ => rfl
theorem purge_same {n id : Nat} (hn : n ≤ id) {v : AV} (h : idsB n 5 v = true) : purge id v = v := by
  unfold purge
  rw [if_pos (ids_noOsl hn 5 v h)]
theorem lkp_purge (id : Nat) : ∀ (s : List (Nat × AV)) (i : Nat), lkp (s.map fun q => (q.1, purge id q.2)) i = purge id (lkp s i)
  | [], i => by simp [lkp, purge, noOsl]
  | q :: s, i => by
    simp only [List.map_cons, lkp]
    split
    · rfl
    · exact lkp_purge id s i
theorem lkp_app : ∀ (x y : List (Nat × AV)) (t : Nat), lkp (x ++ y) t = lkp x t ∨ lkp (x ++ y) t = lkp y t
  | [], _, _ => .inr rfl
  | q :: x, y, t => by
    simp only [List.cons_append, lkp]
    split
    · exact .inl rfl
    · exact lkp_app x y t
theorem Rel.weak {s' : List (Nat × AV)} (R : Rel M0 w0 N p st a w) (h : ∀ t, lkp s' t = lkp st.s t ∨ lkp s' t = .any) : Rel M0 w0 N p ⟨s', st.h⟩ a w :=
  ⟨R.defers, R.size, R.below, R.m0, fun t => by
    rcases h t with h | h
    · show V1 _ _ _ _ (lkp s' t) _
      rw [h]
      exact R.slots t
    · show V1 _ _ _ _ (lkp s' t) _
      rw [h]
      exact .base _ _ (.any _), R.objs, R.inj⟩
/-- No slot tells of an object beyond the first n; no variable either. -/
def sOK (n : Nat) : List (Nat × AV) → Prop
  | [] => True
  | q :: r => idsB n 5 q.2 = true ∧ sOK n r
def hOK (n : Nat) : Hp → Prop
  | [] => True
  | none :: r => hOK n r
  | some ob :: r => idsO n ob = true ∧ hOK n r
theorem sOK_at {n : Nat} : ∀ {s : List (Nat × AV)}, sOK n s → ∀ t, idsB n 5 (lkp s t) = true
  | [], _, _ => rfl
  | q :: s, h, t => by
    simp only [lkp]
    split
    · exact h.1
    · exact sOK_at h.2 t
theorem hOK_at {n : Nat} : ∀ {h : Hp}, hOK n h → ∀ (id : Nat) (ob : Ob), h[id]? = some (some ob) → idsO n ob = true
  | [], _, _, _, hi => by simp at hi
  | none :: r, h, id, ob, hi => by
    cases id with
    | zero => simp at hi
    | succ id => exact hOK_at (h := r) h id ob (by simpa using hi)
  | some x :: r, h, id, ob, hi => by
    cases id with
    | zero => simp at hi; subst hi; exact h.1
    | succ id => exact hOK_at (h := r) h.2 id ob (by simpa using hi)
/-- Told of the first objects alone. -/
theorem V1.short {M : Nat → Prop} {h X : Hp} {av : AV} {v : Value} (hv : V1 w M (h ++ X) p av v) (hi : idsB h.length 5 av = true) : V1 w M h p av v :=
  V1.trunc (fun _ hb => hb) (fun id ob hh => by rw [List.getElem?_append_left (List.getElem?_eq_some_iff.1 hh).1]; exact hh) 5 _ _ hv hi
theorem V1.long {M : Nat → Prop} {h X : Hp} {av : AV} {v : Value} (hv : V1 w M h p av v) : V1 w M (h ++ X) p av v :=
  V1.keep (Keeps.refl _ _) (fun _ _ hb => hb) (by simp) (fun _ _ => rfl) (fun id e sz nl es v hid hh ho => ho e sz nl es (by rw [List.getElem?_append_left hid] at hh; exact hh)) hv
theorem Rel.short_objs {h X : Hp} {s : List (Nat × AV)} (R : Rel M0 w0 N p ⟨s, h ++ X⟩ a w) (hh : hOK h.length h) (id : Nat) (ob : Ob) (hi : h[id]? = some (some ob)) : ObOK w0.heap.size w (Mof M0 (h ++ X) p) h p id ob := by
  have ho := R.objs id ob (by show (h ++ X)[id]? = _; rw [List.getElem?_append_left (List.getElem?_eq_some_iff.1 hi).1]; exact hi)
  have hids := hOK_at hh id ob hi
  cases ob with
  | mpo kf kvs => exact ho
  | box cs =>
    obtain ⟨a1, cur, e, a2, a3, a4, a5⟩ := ho
    exact ⟨a1, cur, e, a2, a3, a4, fun j c hj => let ⟨u, hu, hv⟩ := a5 j c hj; ⟨u, hu, V1.short hv (List.all_eq_true.1 hids c (List.mem_of_getElem? hj))⟩⟩
  | arr e sz nl es => exact ho
theorem chainP_lkp {n : Nat} {pid : Option Nat} {s : List (Nat × AV)} {t : Nat} (hp : ∀ id, pid = some id → n ≤ id) (hid : idsB n 5 (lkp s t) = true) : lkp (chainP pid s) t = lkp s t := by
  unfold chainP
  cases pid with
  | none => rfl
  | some id =>
    show lkp (s.map fun q => (q.1, purge id q.2)) t = _
    rw [lkp_purge, purge_same (hp id rfl) hid]
theorem chainS_lkp {n : Nat} {d : Option Tmp} {av : AV} {pid : Option Nat} {s : List (Nat × AV)} {t : Nat} (hne : ∀ d', d = some d' → d' ≠ t) (hp : ∀ id, pid = some id → n ≤ id) (hid : idsB n 5 (lkp s t) = true) : lkp (chainS d av pid s) t = lkp s t := by
  unfold chainS
  cases d with
  | none => exact chainP_lkp hp hid
  | some d =>
    show (if d = t then av else lkp (chainP pid s) t) = _
    rw [if_neg (hne d rfl)]
    exact chainP_lkp hp hid
theorem distB_take : ∀ (l : List Oper) (i : Nat), distB l = true → distB (l.take i) = true
  | [], i, _ => by simp [distB]
  | x :: l, 0, _ => rfl
  | x :: l, i + 1, h => by
    simp only [distB, Bool.and_eq_true] at h
    simp only [List.take_succ_cons, distB, Bool.and_eq_true]
    refine ⟨?_, distB_take l i h.2⟩
    have h1 := h.1
    cases hd' : x.dst with
    | none => rfl
    | some d =>
      simp only [hd'] at h1
      exact List.all_eq_true.2 fun q hq => List.all_eq_true.1 h1 q (List.mem_of_mem_take hq)
theorem distB_inj : ∀ {l : List Oper} {i j : Nat} {o q : Oper} {d : Nat}, distB l = true → l[i]? = some o → l[j]? = some q → o.dst = some d → q.dst = some d → i = j
  | [], i, _, _, _, _, _, hi, _, _, _ => by simp at hi
  | x :: l, i, j, o, q, d, h, hi, hj, ho, hq => by
    obtain ⟨h1, h2⟩ := distB_spec h
    cases i with
    | zero =>
      simp at hi
      subst hi
      cases j with
      | zero => rfl
      | succ j => exact absurd hq (h1 q (List.mem_of_getElem? (by simpa using hj)) d ho)
    | succ i =>
      cases j with
      | zero =>
        simp at hj
        subst hj
        exact absurd ho (h1 o (List.mem_of_getElem? (by simpa using hi)) d hq)
      | succ j => exact congrArg (· + 1) (distB_inj h2 (by simpa using hi) (by simpa using hj) ho hq)
theorem ChainSteps.dom {ow : List Nat} {ops l : List Oper} {isC : Nat → Bool} {T : VS} {rs : List AV} {Xs : Nat → Hp} {css : Nat → List (Nat × AV)} (S : ChainSteps P ow ops isC l 0 T rs Xs css) (h0 : css 0 = []) :
    ∀ (k : Nat), k ≤ l.length → ∀ t, lkp (css k) t ≠ .any → ∃ c o, c < k ∧ isC c = true ∧ l[c]? = some o ∧ o.dst = some t
  | 0, _, t, h => by rw [h0] at h; exact absurd rfl h
  | k + 1, hk, t, h => by
    have ho : l[k]? = some l[k] := List.getElem?_eq_getElem (by omega)
    by_cases hc : isC k = true
    · obtain ⟨pid, av, fz, _, _, _, he⟩ := S.chain k l[k] (by rw [Nat.zero_add]; exact hc) ho
      rw [he] at h
      unfold nextCs at h
      split at h
      · cases pid with
        | some _ => exact absurd rfl h
        | none =>
          obtain ⟨c, o, h1, h2, h3, h4⟩ := S.dom h0 k (by omega) t h
          exact ⟨c, o, by omega, h2, h3, h4⟩
      unfold newCs at h
      split at h
      · rename_i d hd
        by_cases hdt : d = t
        · subst hdt
          exact ⟨k, l[k], by omega, hc, ho, hd⟩
        · cases pid with
          | some _ => simp [lkp, hdt] at h
          | none =>
            simp only [lkp, hdt, if_false] at h
            obtain ⟨c, o, h1, h2, h3, h4⟩ := S.dom h0 k (by omega) t h
            exact ⟨c, o, by omega, h2, h3, h4⟩
      · obtain ⟨c, o, h1, h2, h3, h4⟩ := S.dom h0 k (by omega) t h
        exact ⟨c, o, by omega, h2, h3, h4⟩
    · have hr : rs[k]? = some (rs[k]'(by rw [S.len]; omega)) := List.getElem?_eq_getElem _
      have := (S.plain k l[k] _ (by rw [Nat.zero_add]; simpa using hc) ho hr).2.2.2
      rw [this] at h
      obtain ⟨c, o, h1, h2, h3, h4⟩ := S.dom h0 k (by omega) t h
      exact ⟨c, o, by omega, h2, h3, h4⟩
theorem ChainSteps.same {ow : List Nat} {ops l : List Oper} {isC : Nat → Bool} {T : VS} {rs : List AV} {Xs : Nat → Hp} {css : Nat → List (Nat × AV)} (S : ChainSteps P ow ops isC l 0 T rs Xs css) {k : Nat} : ∀ (m : Nat), k + m ≤ l.length → (∀ c, k ≤ c → c < k + m → isC c = false) → Xs (k + m) = Xs k ∧ css (k + m) = css k
  | 0, _, _ => ⟨rfl, rfl⟩
  | m + 1, hk, h => by
    have ih := S.same (k := k) m (by omega) fun c h1 h2 => h c h1 (by omega)
    have ho : l[k + m]? = some (l[k + m]'(by omega)) := List.getElem?_eq_getElem _
    have hr : rs[k + m]? = some (rs[k + m]'(by rw [S.len]; omega)) := List.getElem?_eq_getElem _
    have := (S.plain (k + m) _ _ (by rw [Nat.zero_add]; exact h (k + m) (by omega) (by omega)) ho hr).2.2
    exact ⟨this.1.trans ih.1, this.2.trans ih.2⟩
/-- Each operation on memory of the call's own waits for those ahead of it. -/
def chainB (l : List Oper) (n : Nat) (isC : Nat → Bool) : Bool := (List.range n).all fun c => !isC c || (List.range c).all fun d => !isC d || Region.waitsFor .any l.toArray c d
theorem vdrawC {id : Nat} {l : List Oper} (n : Nat) (ow : List Nat) (isC : Nat → Bool) (hm : P.follows .mixedOrders = true) (hB : Region.specB l.toArray n = true) (hC : chainB l n isC = true) (hs : sOK st.h.length st.s) (hh : hOK st.h.length st.h)
    (h : VHRunC P ow l isC (l.take n) 0 st [] [] fun st' => VRun P ow l (l.drop n) st' (Q .normal)) : VWp P M0 w0 N (.region id l.toArray true) Q st := fun hCd p0 a0 wst R0 => by
  have hN : l.all (dstB N) = true := by simpa [codeB] using hCd
  obtain ⟨rs, Xs, css, S, e1, e2, hK⟩ := VHRunC_steps _ _ _ _ _ h
  have hB' := hB
  simp only [Region.specB, Bool.and_eq_true, decide_eq_true_eq] at hB'
  obtain ⟨⟨⟨⟨⟨⟨_, hnl⟩, _⟩, _⟩, hd⟩, hlook⟩, _⟩ := hB'
  have hnl' : n < l.length := by simpa using hnl
  have hd' : distB (l.take n) = true := by simpa using hd
  have hlen : (l.take n).length = n := by simp; omega
  rw [hlen] at hK
  have hat : ∀ {i : Nat} {o : Oper}, i < n → l[i]? = some o → (l.take n)[i]? = some o := fun {i o} hi ho => by rw [List.getElem?_take_of_lt hi]; exact ho
  have hta : ∀ {i : Nat} {o : Oper}, (l.take n)[i]? = some o → i < n ∧ l[i]? = some o := fun {i o} ho => by
    have hi : i < n := by have := (List.getElem?_eq_some_iff.1 ho).1; omega
    rw [List.getElem?_take_of_lt hi] at ho
    exact ⟨hi, ho⟩
  have hrs : ∀ {i : Nat}, i < n → rs[i]? = some (rs.getD i .any) := fun {i} hi => by simp [List.getD, show i < rs.length by rw [S.len, hlen]; exact hi]
  have hlk : ∀ i, i < n → ∀ o, l[i]? = some o → ∀ t ∈ o.looksAt l.toArray, ∀ j, j < n → ∀ q, l[j]? = some q → q.dst = some t → Region.waitsFor .any l.toArray i j = true ∧ j < i := by
    intro i hi o ho
    have h := List.all_eq_true.1 hlook i (List.mem_range.2 hi)
    simp only [List.getElem?_toArray, ho, Bool.and_eq_true] at h
    have haft : ∀ e ∈ o.after, Region.binds .any e = true → e.on < i := fun e he hb => by
      have h1 := Array.all_eq_true'.1 h.2 e he
      simp only [hb, Bool.not_true, Bool.false_or, decide_eq_true_eq] at h1
      exact h1
    intro t ht j hj q hq hqd
    have h1 := List.all_eq_true.1 (List.all_eq_true.1 h.1 t ht) j (List.mem_range.2 hj)
    simp only [hq, Option.bind_some, hqd, bne_self_eq_false, Bool.false_or] at h1
    refine ⟨h1, ?_⟩
    obtain ⟨o', ho', e, he, hb, hon⟩ := Region.waitsFor_spec h1
    have : o' = o := Option.some.inj (ho'.symm.trans (by simpa using ho))
    subst this
    rw [← hon]
    exact haft e he hb
  have hCw : ∀ c d, c < n → d < c → isC c = true → isC d = true → Region.waitsFor .any l.toArray c d = true := fun c d hc hdc h1 h2 => by
    have := List.all_eq_true.1 hC c (List.mem_range.2 hc)
    simp only [h1, Bool.not_true, Bool.false_or] at this
    have := List.all_eq_true.1 this d (List.mem_range.2 hdc)
    simpa [h2] using this
  have txt_in : ∀ {i j : Nat} {q : Oper} {t : Nat}, j < i → i ≤ n → l[j]? = some q → q.dst = some t → lkp (puts st ((l.take n).take i) (rs.take i)).s t = rs.getD j .any := fun {i j q t} hj hi hq ht =>
    puts_at ((l.take n).take i) (rs.take i) st t j q (rs.getD j .any) (distB_take _ _ hd') (by rw [List.getElem?_take_of_lt hj]; exact hat (by omega) hq) (by rw [List.getElem?_take_of_lt hj]; exact hrs (by omega)) ht
  have txt_out : ∀ {i t : Nat}, (∀ j q, j < n → l[j]? = some q → q.dst ≠ some t) → lkp (puts st ((l.take n).take i) (rs.take i)).s t = lkp st.s t := fun {i t} ho =>
    puts_no _ _ _ _ fun q hq he => by
      obtain ⟨j, hj⟩ := List.mem_iff_getElem?.1 (List.mem_of_mem_take hq)
      obtain ⟨h1, h2⟩ := hta hj
      exact ho j q h1 h2 he
  have hids : ∀ {j : Nat} {q : Oper} {d : Nat}, j < n → l[j]? = some q → q.dst = some d → idsB st.h.length 5 (rs.getD j .any) = true := fun {j q d} hj hq hqd => by
    cases hc : isC j
    · exact (S.plain j q _ (by rw [Nat.zero_add]; exact hc) (hat hj hq) (hrs hj)).2.1 d hqd
    · obtain ⟨pid, av, fz, h1, _, h2, _⟩ := S.chain j q (by rw [Nat.zero_add]; exact hc) (hat hj hq)
      rw [hrs hj] at h1
      rw [Option.some.inj h1]
      unfold nextT
      split
      · rename_i hf
        exact h2 hf
      · rfl
  refine wp_region_any hm ?_
  refine wpAny_skel (Inv := fun listed a w => HeadInv .any l.toArray n listed ∧ ∃ (k : Nat) (p : Nat → Nat) (s : List (Nat × AV)), k ≤ n ∧ (∀ c, c < n → isC c = true → (listed.getD c false = true ↔ c < k)) ∧ Rel M0 w0 N p ⟨s, st.h ++ Xs k⟩ a w ∧
      (∀ (j : Nat) (q : Oper) (d : Nat), j < n → listed.getD j false = true → l[j]? = some q → q.dst = some d → rs.getD j .any = .any ∨ lkp s d = rs.getD j .any) ∧
      (∀ t, (∀ j q, j < n → l[j]? = some q → q.dst ≠ some t) → lkp s t = lkp st.s t) ∧ (∀ t, lkp (css k) t ≠ .any → lkp s t = lkp (css k) t)) hB (fun _ _ _ inv => inv.1) ?_ ?_ _ _ _ _ ?_ (by simp)
  · rintro listed a w i o ⟨head, k, p, s, hk, hkc, R, S1, S2, S3⟩ hi hin ho hiu
    have ho' : l[i]? = some o := by simpa using ho
    obtain ⟨_, o2, ho2, hdone⟩ := mem_ready.1 hi
    have : o2 = o := Option.some.inj (ho2.symm.trans ho)
    subst this
    have hwait : ∀ j, Region.waitsFor .any l.toArray i j = true → listed.getD j false = true := by
      intro j hj
      obtain ⟨o3, ho3, e, he, hb, hon⟩ := Region.waitsFor_spec hj
      have : o3 = o2 := Option.some.inj (ho3.symm.trans ho)
      subst this
      rw [← hon]
      exact hdone e he hb
    have hop : ∀ t ∈ o2.looksAt l.toArray, lkp (puts st ((l.take n).take i) (rs.take i)).s t = .any ∨ (lkp (puts st ((l.take n).take i) (rs.take i)).s t = lkp s t ∧ idsB st.h.length 5 (lkp s t) = true) := fun t ht => by
      by_cases hex : ∃ (j : Nat) (q : Oper), j < n ∧ l[j]? = some q ∧ q.dst = some t
      · obtain ⟨j, q, hj, hq, hqd⟩ := hex
        obtain ⟨h1, h2⟩ := hlk i hin o2 ho' t ht j hj q hq hqd
        rw [txt_in h2 (by omega) hq hqd]
        rcases S1 j q t hj (hwait j h1) hq hqd with this | this
        · exact .inl this
        · exact .inr ⟨this.symm, by rw [this]; exact hids hj hq hqd⟩
      · have hno : ∀ j q, j < n → l[j]? = some q → q.dst ≠ some t := fun j q hj hq he => hex ⟨j, q, hj, hq, he⟩
        rw [txt_out hno, S2 t hno]
        exact .inr ⟨rfl, sOK_at hs t⟩
    have hnot : ∀ {j : Nat} {q : Oper} {d d' : Nat}, j < n → j ≠ i → l[j]? = some q → q.dst = some d → o2.dst = some d' → d' ≠ d := fun {j q d d'} hj hji hq hqd hd2 he => by
      subst he
      exact hji (distB_inj hd' (hat hj hq) (hat hin ho') hqd hd2)
    cases hci : isC i
    · obtain ⟨hstep, hidr, _, _⟩ := S.plain i o2 (rs.getD i .any) (by rw [Nat.zero_add]; exact hci) (hat hin ho') (hrs hin)
      have fin : ∀ v w', V1 w' (Mof M0 (st.h ++ Xs k) p) st.h p (rs.getD i .any) v → Below w.heap.size w w' → (fun listed a w => HeadInv .any l.toArray n listed ∧ ∃ (k : Nat) (p : Nat → Nat) (s : List (Nat × AV)), k ≤ n ∧ (∀ c, c < n → isC c = true → (listed.getD c false = true ↔ c < k)) ∧ Rel M0 w0 N p ⟨s, st.h ++ Xs k⟩ a w ∧
          (∀ (j : Nat) (q : Oper) (d : Nat), j < n → listed.getD j false = true → l[j]? = some q → q.dst = some d → rs.getD j .any = .any ∨ lkp s d = rs.getD j .any) ∧
          (∀ t, (∀ j q, j < n → l[j]? = some q → q.dst ≠ some t) → lkp s t = lkp st.s t) ∧ (∀ t, lkp (css k) t ≠ .any → lkp s t = lkp (css k) t)) (listed.setIfInBounds i true) (a.put o2.dst v) w' := fun v w' hv hb => by
        have R' := (R.later hb).put (d := o2.dst) (dstB_lt (List.all_eq_true.1 hN o2 (List.mem_of_getElem? ho'))) (V1.long hv)
        have hes : (VS.put ⟨s, st.h ++ Xs k⟩ o2.dst (rs.getD i .any)) = ⟨(VS.put ⟨s, st.h ++ Xs k⟩ o2.dst (rs.getD i .any)).s, st.h ++ Xs k⟩ := by cases o2.dst <;> rfl
        rw [hes] at R'
        refine ⟨head.set hi hin, k, p, _, hk, fun c hc hcc => ?_, R', fun j q d hj hl hq hqd => ?_, fun t ht => ?_, fun t ht => ?_⟩
        · have hne : i ≠ c := fun e => by rw [← e, hci] at hcc; cases hcc
          rw [getD_set_ne false hne]
          exact hkc c hc hcc
        · rw [lkp_put]
          by_cases hji : j = i
          · subst hji
            have : q = o2 := Option.some.inj (hq.symm.trans ho')
            subst this
            rw [if_pos hqd]
            exact .inr rfl
          · rw [if_neg fun e => hnot hj hji hq hqd e rfl]
            rw [getD_set_ne false (Ne.symm hji)] at hl
            exact S1 j q d hj hl hq hqd
        · rw [lkp_put, if_neg (ht i o2 hin ho')]
          exact S2 t ht
        · obtain ⟨c, q, h1, h2, h3, h4⟩ := S.dom e2 k (by rw [hlen]; exact hk) t ht
          obtain ⟨h5, h6⟩ := hta h3
          rw [lkp_put, if_neg fun e => hnot h5 (fun e => by rw [e, hci] at h2; cases h2) h6 h4 e rfl]
          exact S3 t ht
      have hgive : Gives P st.h (ev (puts st ((l.take n).take i) (rs.take i))) o2.op (rs.getD i .any) → gives P o2 a w fun v w'' => V1 w'' (Mof M0 (st.h ++ Xs k) p) st.h p (rs.getD i .any) v ∧ Below w.heap.size w w'' := by
        intro hg
        refine gives_ok (R.short_objs hh) R.mok R.m0.1 R.below.size R.glob (fun _ hb => .inl hb) (fun x hx => ?_) hg
        cases x with
        | tmp t =>
          show V1 _ _ _ _ (lkp (puts st ((l.take n).take i) (rs.take i)).s t) _
          rcases hop t (List.mem_append_left _ (List.mem_filterMap.2 ⟨.tmp t, by simpa using hx, rfl⟩)) with h1 | ⟨h1, h2⟩
          · rw [h1]; exact .base _ _ (.any _)
          · rw [h1]; exact V1.short (R.slots t) h2
        | const v => exact .base _ _ (.lit v)
        | global g => exact .base _ _ (R.evalG g)
        | func f => exact .base _ _ (.lit _)
      have hy := fun j => yielded_lit (ops := l) (j := j) R hN
      have hguard : ∀ (j : Nat) (want : Bool) (v : Value), o2.guard = some (j, want) → guardA l (puts st ((l.take n).take i) (rs.take i)) j = .lit v → guardA l ⟨s, st.h ++ Xs k⟩ j = .lit v := by
        intro j want v hg hv
        unfold guardA at hv ⊢
        cases hj : l[j]? with
        | none => simpa [hj] using hv
        | some q =>
          cases hq : q.dst with
          | none => simpa [hj, hq] using hv
          | some d =>
            have hmem : d ∈ o2.looksAt l.toArray := by
              unfold Oper.looksAt
              refine List.mem_append_right _ ?_
              simp [hg, hj, hq]
            simp only [hj, hq] at hv ⊢
            rcases hop d hmem with h1 | ⟨h1, _⟩
            · rw [h1] at hv
              cases hv
            · rw [← h1]
              exact hv
      unfold wpOp
      simp only [ho]
      unfold StepOK at hstep
      split at hstep
      · rename_i hg
        rw [if_pos (by simp [Region.wanted, hg])]
        rw [puts_h] at hstep
        exact Or.inl (wp_of_gives (hgive hstep) rfl fun v w' hv => fin v w' hv.1 hv.2)
      · rename_i j want hg
        split at hstep
        · rename_i b hb
          have hyb := (hy j).1 b (hguard j want _ hg hb)
          split at hstep
          · rename_i hw
            subst hw
            rw [if_pos (by simp [Region.wanted, hg, hyb])]
            rw [puts_h] at hstep
            exact Or.inl (wp_of_gives (hgive hstep) rfl fun v w' hv => fin v w' hv.1 hv.2)
          · rename_i hw
            rw [if_neg (by simpa [Region.wanted, hg, hyb] using hw)]
            exact fin undef w (by rw [hstep]; exact .base _ _ (.lit _)) (Below.refl _ _)
        · rename_i us hb
          have hyb := (hy j).2 us (hguard j want _ hg hb)
          rw [if_neg (by simp [Region.wanted, hg, hyb])]
          exact fin undef w (by rw [hstep]; exact .base _ _ (.lit _)) (Below.refl _ _)
        · exact hstep.elim
    · obtain ⟨pid, av, fz, hres, ⟨hgd, hdp, hpid, hdo⟩, hfz, hcs⟩ := S.chain i o2 (by rw [Nat.zero_add]; exact hci) (hat hin ho')
      rw [hrs hin] at hres
      replace hres := Option.some.inj hres
      have hki : k ≤ i := by
        rcases Nat.lt_or_ge i k with h1 | h1
        · have h2 := (hkc i hin hci).2 h1
          rw [getD_both hiu] at h2
          cases h2
        · exact h1
      have hbet : ∀ c, k ≤ c → c < k + (i - k) → isC c = false := fun c h1 h2 => by
        cases hcc : isC c
        · rfl
        · have := hwait c (hCw i c hin (by omega) hci hcc)
          have := (hkc c (by omega) hcc).1 this
          omega
      obtain ⟨hX, hcsk⟩ := S.same (k := k) (i - k) (by rw [hlen]; omega) hbet
      rw [show k + (i - k) = i by omega] at hX hcsk
      rw [hX, hcsk] at hdo
      rw [hcsk] at hcs
      have hv := hdo s (fun t ht hne => by
        rw [puts_h] at *
        rcases lkp_app (css k) (puts st ((l.take n).take i) (rs.take i)).s t with h1 | h1
        · rw [h1] at hne ⊢
          exact S3 t hne
        · rw [h1] at hne ⊢
          rcases hop t (List.mem_append_left _ (List.mem_filterMap.2 ⟨.tmp t, by simpa using ht, rfl⟩)) with h2 | ⟨h2, _⟩
          · exact absurd h2 hne
          · exact h2.symm)
      rw [puts_h] at hv
      rw [puts_h] at hpid
      unfold wpOp
      simp only [ho]
      rw [if_pos (by simp [Region.wanted, hgd])]
      refine Or.inl (VDo_ok R (List.all_eq_true.1 hN o2 (List.mem_of_getElem? ho')) hv fun p' st' a' w' R' he => ?_)
      replace R' := he _ _ _ _ _ _ R'
      have hlks : ∀ {t : Nat}, (∀ d, o2.dst = some d → d ≠ t) → idsB st.h.length 5 (lkp s t) = true → lkp (chainS o2.dst av pid s) t = lkp s t := fun {t} hne hid => chainS_lkp hne hpid hid
      refine ⟨head.set hi hin, i + 1, p', _, by omega, fun c hc hcc => ?_, R', fun j q d hj hl hq hqd => ?_, fun t ht => ?_, fun t ht => ?_⟩
      · by_cases hic : i = c
        · subst hic
          have hisz : i < listed.size := by rw [head.size]; simpa using (by omega : i < l.length)
          simp [hisz]
        · rw [getD_set_ne false hic]
          rcases Nat.lt_or_ge c i with h1 | h1
          · have := hwait c (hCw i c hin h1 hci hcc)
            exact ⟨fun _ => by omega, fun _ => this⟩
          · have := hkc c hc hcc
            exact ⟨fun h => by have := this.1 h; omega, fun h => by omega⟩
      · by_cases hji : j = i
        · subst hji
          have : q = o2 := Option.some.inj (hq.symm.trans ho')
          subst this
          rw [hres]
          unfold nextT
          split
          · refine .inr ?_
            unfold chainS
            rw [hqd]
            simp [lkp]
          · exact .inl rfl
        · rw [getD_set_ne false (Ne.symm hji)] at hl
          rcases S1 j q d hj hl hq hqd with hsd | hsd
          · exact .inl hsd
          · refine .inr ?_
            rw [hlks (fun d' hd2 => hnot hj hji hq hqd hd2) (by rw [hsd]; exact hids hj hq hqd)]
            exact hsd
      · rw [hlks (fun d' hd2 he => ht i o2 hin ho' (by rw [hd2, he])) (by rw [S2 t ht]; exact sOK_at hs t)]
        exact S2 t ht
      · rw [hcs] at ht ⊢
        unfold nextCs at ht ⊢
        by_cases hf : fz = true
        · rw [if_pos hf] at ht ⊢
          cases pid with
          | some _ => exact absurd rfl ht
          | none =>
            simp only at ht ⊢
            obtain ⟨c, q, g1, g2, g3, g4⟩ := S.dom e2 k (by rw [hlen]; omega) t ht
            obtain ⟨g5, g6⟩ := hta g3
            unfold chainS
            cases hd2 : o2.dst with
            | none => simp only [chainP]; exact S3 t ht
            | some d =>
              simp only [lkp, chainP]
              rw [if_neg (hnot g5 (by omega) g6 g4 hd2)]
              exact S3 t ht
        rw [if_neg hf] at ht ⊢
        unfold newCs at ht ⊢
        unfold chainS
        cases hd2 : o2.dst with
        | none =>
          simp only [hd2] at ht ⊢
          rw [hdp hd2]
          exact S3 t ht
        | some d =>
          simp only [hd2] at ht ⊢
          by_cases hdt : d = t
          · simp [lkp, hdt]
          · cases pid with
            | some _ => simp [lkp, hdt] at ht
            | none =>
              simp only [lkp, hdt, if_false, chainP] at ht ⊢
              exact S3 t ht
  · rintro listed a w ⟨head, k, p, s, hk, hkc, R, S1, S2, S3⟩ hall
    have hbet : ∀ c, k ≤ c → c < k + (n - k) → isC c = false := fun c h1 h2 => by
      cases hcc : isC c
      · rfl
      · have := (hkc c (by omega) hcc).1 (hall c (by omega))
        omega
    obtain ⟨hX, hcsk⟩ := S.same (k := k) (n - k) (by rw [hlen]; omega) hbet
    rw [show k + (n - k) = n by omega] at hX hcsk
    rw [hX, hcsk] at hK
    have hpt : puts st (l.take n) rs = puts st ((l.take n).take n) (rs.take n) := by
      rw [List.take_of_length_le (l := l.take n) (by rw [hlen]; exact Nat.le_refl _), List.take_of_length_le (l := rs) (by rw [S.len, hlen]; exact Nat.le_refl _)]
    have R' := R.weak (s' := css k ++ (puts st (l.take n) rs).s) fun t => by
      show lkp (css k ++ (puts st (l.take n) rs).s) t = lkp s t ∨ _
      rcases lkp_app (css k) (puts st (l.take n) rs).s t with h1 | h1
      · rw [h1]
        by_cases hne : lkp (css k) t = .any
        · exact .inr hne
        · exact .inl (S3 t hne).symm
      · rw [h1, hpt]
        by_cases hex : ∃ (j : Nat) (q : Oper), j < n ∧ l[j]? = some q ∧ q.dst = some t
        · obtain ⟨j, q, hj, hq, hqd⟩ := hex
          rw [txt_in hj (Nat.le_refl _) hq hqd]
          rcases S1 j q t hj (hall j hj) hq hqd with h5 | h5
          · exact .inr h5
          · exact .inl h5.symm
        · have hno : ∀ j q, j < n → l[j]? = some q → q.dst ≠ some t := fun j q hj hq he => hex ⟨j, q, hj, hq, he⟩
          rw [txt_out hno, S2 t hno]
          exact .inl rfl
    have hNd : (l.drop n).all (dstB N) = true := List.all_eq_true.2 fun q hq => List.all_eq_true.1 hN q (List.mem_of_mem_drop hq)
    exact VRun_ok (ow := ow) hN (fun p st a w R h => ⟨st, p, R, h⟩) (l.drop n) p _ _ w hNd R' hK
  · refine ⟨⟨by simp, fun j oj _ hl => (by rw [getD_replicate_false] at hl; cases hl), fun t _ ht => getD_in (by simpa using ht) (getD_replicate_false _ _)⟩, 0, p0, st.s, Nat.zero_le _, fun c _ _ => ⟨fun hl => (by rw [getD_replicate_false] at hl; cases hl), fun h => absurd h (Nat.not_lt_zero c)⟩, ?_, fun j q d _ hl => (by rw [getD_replicate_false] at hl; cases hl), fun _ _ => rfl, fun t ht => ?_⟩
    · rw [e1, List.append_nil]
      exact R0.later (Below.refl _ _).drew
    · rw [e2] at ht
      exact absurd rfl ht
end
end Go.Proofs.YtmfmpagfjgpodaaGreatDoor

/-! The rules by which plain values are worked out: of every program; no condition. -/
namespace Go.Proofs.YtmfmpagfjgpodaaGreatDoor
open Go.RowKit
section
variable {P : Program} {ow : List Nat} {ops l : List Oper} {o : Oper} {st : VS} {K : VS → Prop}
theorem vrun_nil (h : K st) : VRun P ow ops [] st K := h
theorem vrun_cons (h : ∀ KK : VS → Prop, (∀ st, VRun P ow ops l st K → KK st) → VOp P ow ops o st KK) : VRun P ow ops (o :: l) st K := h _ fun _ h => h
/-- A call of a region. -/
theorem vcall {c : Call} {k : FuncId} {args : List AV} {r : AV} {h : Hp} {E : Operand → AV} {KK : AV → Prop} (hc : calleeA P E c = some (k, args)) (hv : VC P k (args.map (prepA h)) r) (hp : args.all (pureA 5) = true ∨ flatA 3 r = true) (hk : KK r) :
    ∃ r, CallOK P h E c r ∧ KK r := ⟨r, by unfold CallOK; rw [hc]; exact ⟨hv, hp⟩, hk⟩
theorem vhrun_nil (h : K st) : VHRun P ops [] st K := h
theorem vhrun_cons (h : ∀ KK : VS → Prop, (∀ st, VHRun P ops l st K → KK st) → VHOp P ops o st KK) : VHRun P ops (o :: l) st K := h _ fun _ h => h
theorem wrap_eq {x : Int} (h1 : -9223372036854775808 ≤ x) (h2 : x ≤ 9223372036854775807) : IntKind.i64.wrap x = x := IntWalk.i64_in _ (by omega)
end
attribute [go_sem] mapPut lookA keyForm OwnOK ownCall Value.oneCell' CallOK exists_eq_left' VOp VDo VHOp VHDo guardA tailOp newH isOwn ev VS.put lkp Gives pureOp allocOp loadA cellsAt avCells binA isK nilCmp eqLs eqLeaf pBin pBool unA convA faddrA fieldA partA iaddrA indexA sliceA bound buildA fillA placeA putA oneOk oneAV lenA ifaceA bltA nilA pureA prepA thaw flatA rowA zrow chunkA splA noOsl purge isRow deadC purgeO purgeH VThen VBlock VRet resA oneR enumA calleeA idsB idsO leS leO leH Le
/-! ### Plain values, in short -/
abbrev I (n : Int) : AV := .lit (.int .i64 n)
abbrev B (b : Bool) : AV := .lit (.bool b)
abbrev S (b : ByteArray) : AV := .lit (.string b)
end Go.Proofs.YtmfmpagfjgpodaaGreatDoor

/-! Steps through statements whose order is left open and that make memory of the call's own; no condition. -/
namespace Go.Proofs.YtmfmpagfjgpodaaGreatDoor
open Go.RowKit
attribute [go_sem] chainS chainP newCs nextCs nextT sOK hOK
section
variable {P : Program} {ow : List Nat} {ops : List Oper} {isC : Nat → Bool} {o : Oper} {l : List Oper} {i : Nat} {T : VS} {cs : List (Nat × AV)} {X : Hp} {K : VS → Prop}
def idsOf (n : Nat) (d : Option Tmp) (s : List (Nat × AV)) : Bool := match d with | some d => idsB n 5 (lkp s d) | none => true
attribute [go_sem] idsOf
theorem vhc_nil (h : K ⟨cs ++ T.s, T.h ++ X⟩) : VHRunC P ow ops isC [] i T cs X K := h
theorem vhc_cons (hc : isC i = false) (h : ∀ KK : VS → Prop, (∀ T', idsOf T.h.length o.dst T'.s = true → VHRunC P ow ops isC l (i + 1) T' cs X K → KK T') → VHOp P ops o T KK) : VHRunC P ow ops isC (o :: l) i T cs X K := by
  unfold VHRunC
  rw [if_neg (by rw [hc]; simp)]
  refine h _ fun T' h1 h2 => ⟨fun d hd => ?_, h2⟩
  unfold idsOf at h1
  rw [hd] at h1
  exact h1
theorem VDo_mono {K K' : VS → Prop} {st : VS} (h : VDo P ow o st K) (hk : ∀ st', K st' → K' st') : VDo P ow o st K' := by
  unfold VDo at h ⊢
  split
  · rename_i st' he
    rw [he] at h
    exact hk _ h
  · rename_i he
    rw [he] at h
    simp only at h
    split
    · rename_i c d hc
      rw [hc] at h
      obtain ⟨e, sz, nl, es, h1, h2⟩ := h
      exact ⟨e, sz, nl, es, h1, hk _ h2⟩
    · rename_i hc
      rw [hc] at h
      obtain ⟨r, h1, h2⟩ := h
      exact ⟨r, h1, hk _ h2⟩
theorem vhc_chain (X' : Hp) (pid : Option Nat) (av : AV) (hc : isC i = true) (h1 : o.guard = none ∧ (o.dst = none → pid = none) ∧ ∀ id, pid = some id → T.h.length ≤ id)
    (h2 : ∀ s2, (∀ t, Operand.tmp t ∈ o.op.operands → lkp (cs ++ T.s) t ≠ .any → lkp s2 t = lkp (cs ++ T.s) t) → VDo P ow o ⟨s2, T.h ++ X⟩ fun st' => st' = chainRes o.dst av pid s2 (T.h ++ X'))
    (h3 : VHRunC P ow ops isC l (i + 1) (T.put o.dst .any) (newCs o.dst av pid cs) X' K) : VHRunC P ow ops isC (o :: l) i T cs X K := by
  unfold VHRunC
  rw [if_pos hc]
  exact ⟨X', pid, av, false, ⟨⟨h1.1, h1.2.1, h1.2.2, fun s2 hs2 => VDo_mono (h2 s2 hs2) fun st' e => by rw [e]; exact fun _ _ _ _ _ _ R => R⟩, fun h => by cases h⟩, h3⟩
/-- The same, where the result is a plain value. -/
theorem vhc_chainP (X' : Hp) (pid : Option Nat) (av : AV) (hc : isC i = true) (h1 : o.guard = none ∧ (o.dst = none → pid = none) ∧ ∀ id, pid = some id → T.h.length ≤ id) (hav : idsB T.h.length 5 av = true)
    (h2 : ∀ s2, (∀ t, Operand.tmp t ∈ o.op.operands → lkp (cs ++ T.s) t ≠ .any → lkp s2 t = lkp (cs ++ T.s) t) → VDo P ow o ⟨s2, T.h ++ X⟩ fun st' => SubRel st' (chainRes o.dst av pid s2 (T.h ++ X')))
    (h3 : VHRunC P ow ops isC l (i + 1) (T.put o.dst av) (nextCs true o.dst av pid cs) X' K) : VHRunC P ow ops isC (o :: l) i T cs X K := by
  unfold VHRunC
  rw [if_pos hc]
  exact ⟨X', pid, av, true, ⟨⟨h1.1, h1.2.1, h1.2.2, h2⟩, fun _ => hav⟩, h3⟩
end
end Go.Proofs.YtmfmpagfjgpodaaGreatDoor
