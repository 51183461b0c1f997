/- Variables and rows of the call's own are made and written to as the plain walk tells: of every program; no condition. -/
import Derived.Test.YtmfmpagfjgpodaaVJ
namespace Go.Proofs.Ytmfmpagfjgpodaa
open Go.RowKit
section
variable {P : Program} {M0 : Nat → Prop} {w0 : World} {N : Nat} {p : Nat → Nat} {st : VS} {a : Act} {w : World}

/-- The blocks of one more variable or row. -/
def pNew (p : Nat → Nat) (n b : Nat) (i : Nat) : Nat := if i = n then b else p i
theorem get_new {h : Hp} {x : Option Ob} {id : Nat} {ob : Ob} (hi : (h ++ [x])[id]? = some (some ob)) : (id < h.length ∧ h[id]? = some (some ob)) ∨ (id = h.length ∧ x = some ob) := by
  rcases Nat.lt_trichotomy id h.length with hlt | heq | hgt
  · rw [List.getElem?_append_left hlt] at hi
    exact .inl ⟨hlt, hi⟩
  · subst heq
    rw [List.getElem?_append_right (Nat.le_refl _)] at hi
    simp at hi
    exact .inr ⟨rfl, hi⟩
  · rw [List.getElem?_eq_none (by simp; omega)] at hi
    cases hi
theorem get_old {h : Hp} {x : Option Ob} {id : Nat} (hi : id < h.length) : (h ++ [x])[id]? = h[id]? := List.getElem?_append_left hi
/-- One more variable or row, in a world that is later. -/
theorem Rel.grow {w' : World} {ob : Ob} {b : Nat} {d : Nat} {av : AV} {v : Value} (R : Rel M0 w0 N p st a w) (hb : Below w.heap.size w w') (hd : d < N) (hb0 : live ob = true → w.heap.size ≤ b)
    (hob : ObOK w0.heap.size w' (Mof M0 (st.h ++ [some ob]) (pNew p st.h.length b)) (st.h ++ [some ob]) (pNew p st.h.length b) st.h.length ob)
    (hv : V1 w' (Mof M0 (st.h ++ [some ob]) (pNew p st.h.length b)) (st.h ++ [some ob]) (pNew p st.h.length b) av v) :
    Rel M0 w0 N (pNew p st.h.length b) ⟨(d, av) :: st.s, st.h ++ [some ob]⟩ (a.put (some d) v) w' := by
  have hp : ∀ id, id < st.h.length → pNew p st.h.length b id = p id := fun id hid => by simp [pNew, Nat.ne_of_lt hid]
  have hpn : pNew p st.h.length b st.h.length = b := by simp [pNew]
  have hM : ∀ c, c < w.heap.size → ¬ Mof M0 st.h p c → ¬ Mof M0 (st.h ++ [some ob]) (pNew p st.h.length b) c := by
    intro c hc hn hm
    rcases hm with hm | ⟨id, ob', hi, hl, hpc⟩
    · exact hn (.inl hm)
    · rcases get_new hi with ⟨hlt, hi'⟩ | ⟨rfl, hx⟩
      · exact hn (.inr ⟨id, ob', hi', hl, by rw [← hp id hlt]; exact hpc⟩)
      · obtain rfl := Option.some.inj hx
        rw [hpn] at hpc
        have := hb0 hl
        omega
  have hV : ∀ {x : AV} {u : Value}, V1 w (Mof M0 st.h p) st.h p x u → V1 w' (Mof M0 (st.h ++ [some ob]) (pNew p st.h.length b)) (st.h ++ [some ob]) (pNew p st.h.length b) x u := fun hx =>
    hx.keep (.of_below hb) hM (by simp) hp fun id e sz nl es u hid he hv => by
      rw [get_old hid] at he
      exact (hv e sz nl es he).below hb
  have hobs : ∀ id ob', (st.h ++ [some ob])[id]? = some (some ob') → (id < st.h.length ∧ st.h[id]? = some (some ob')) ∨ (id = st.h.length ∧ ob = ob') := fun id ob' hi => by
    rcases get_new hi with h | ⟨h1, h2⟩
    · exact .inl h
    · exact .inr ⟨h1, Option.some.inj h2⟩
  refine ⟨R.defers, by simp [Act.put, R.size], below_step R.below hb, R.m0, fun i => ?_, fun id ob' hi => ?_, fun id id' ob1 ob2 hi hi' hl hl' hpp => ?_⟩
  · rw [getD_put a d v i (by rw [R.size]; exact hd)]
    simp only [lkp]
    split
    · exact hv
    · exact hV (R.slots i)
  · rcases hobs id ob' hi with ⟨hlt, hi'⟩ | ⟨rfl, rfl⟩
    · have ho := (R.objs id ob' hi').later hb
      cases ob' with
      | box cs =>
        obtain ⟨h1, cur, e, hg, h2, h3, h4⟩ := R.objs id _ hi'
        refine ⟨by rw [hp id hlt]; exact h1, cur, e, by rw [hp id hlt]; exact (hb.block _ (Array.getElem?_eq_some_iff.1 hg).1).trans hg, h2, h3, fun j c hj => let ⟨u, hu, hv⟩ := h4 j c hj; ⟨u, hu, hV hv⟩⟩
      | arr e sz nl es =>
        obtain ⟨h1, h2, hr⟩ := R.objs id _ hi'
        refine ⟨h1, h2, ?_⟩
        split at hr
        · rename_i hn
          rw [if_pos hn]
          exact hr
        · rename_i hn
          rw [if_neg hn]
          obtain ⟨h3, cur, hg, h4, h5⟩ := hr
          exact ⟨by rw [hp id hlt]; exact h3, cur, by rw [hp id hlt]; exact (hb.block _ (Array.getElem?_eq_some_iff.1 hg).1).trans hg, h4, fun k x j c hk hj => let ⟨u, hu, hv⟩ := h5 k x j c hk hj; ⟨u, hu, hv.keep (.of_below hb) hM⟩⟩
    · exact hob
  · rcases hobs id ob1 hi with ⟨hlt, hi1⟩ | ⟨rfl, rfl⟩ <;> rcases hobs id' ob2 hi' with ⟨hlt', hi2⟩ | ⟨rfl, rfl⟩
    · rw [hp id hlt, hp id' hlt'] at hpp
      exact R.inj id id' _ _ hi1 hi2 hl hl' hpp
    · rw [hp id hlt, hpn] at hpp
      have h1 := (R.objs id ob1 hi1).lt hl
      have h2 := hb0 hl'
      omega
    · rw [hp id' hlt', hpn] at hpp
      have h1 := (R.objs id' ob2 hi2).lt hl'
      have h2 := hb0 hl
      omega
    · rfl
/-- What may be kept while one row is written to. -/
theorem Rel.write {w' : World} {h' : Hp} {id : Nat} {ob ob' : Ob} (R : Rel M0 w0 N p st a w) (hi : st.h[id]? = some (some ob)) (hl : live ob = true) (hl' : live ob' = true) (hsz : w.heap.size = w'.heap.size) (hos : w'.os = w.os) (htp : w'.tape = w.tape) (hou : w'.output = w.output)
    (hblk : ∀ b, b ≠ p id → w'.heap[b]? = w.heap[b]?) (hh : h' = st.h.set id (some ob'))
    (hosl : ∀ e sz nl es v, ob' = .arr e sz nl es → (∀ e sz nl es, ob = .arr e sz nl es → Osl w (p id) e sz nl es.length v) → Osl w' (p id) e sz nl es.length v)
    (hob : (∀ {x : AV} {u : Value}, V1 w (Mof M0 st.h p) st.h p x u → V1 w' (Mof M0 h' p) h' p x u) → (∀ {x : AV} {u : Value}, V0 w (Mof M0 st.h p) x u → V0 w' (Mof M0 h' p) x u) → ObOK w0.heap.size w' (Mof M0 h' p) h' p id ob') :
    Rel M0 w0 N p ⟨st.s, h'⟩ a w' := by
  subst hh
  have hid : id < st.h.length := (List.getElem?_eq_some_iff.1 hi).1
  have hobs : ∀ i o, (st.h.set id (some ob'))[i]? = some (some o) → (i = id ∧ o = ob') ∨ (i ≠ id ∧ st.h[i]? = some (some o)) := by
    intro i o hio
    rw [List.getElem?_set] at hio
    by_cases he : id = i
    · rw [if_pos he, if_pos (by omega)] at hio
      simp only [Option.some.injEq] at hio
      exact .inl ⟨he.symm, hio.symm⟩
    · rw [if_neg he] at hio
      exact .inr ⟨fun h => he h.symm, hio⟩
  have hM : ∀ c, ¬ Mof M0 st.h p c → ¬ Mof M0 (st.h.set id (some ob')) p c := by
    intro c hn hm
    rcases hm with hm | ⟨i, o, hio, hlo, hp⟩
    · exact hn (.inl hm)
    · rcases hobs i o hio with ⟨rfl, rfl⟩ | ⟨_, hio'⟩
      · exact hn (.inr ⟨i, ob, hi, hl, hp⟩)
      · exact hn (.inr ⟨i, o, hio', hlo, hp⟩)
  have hk : Keeps (Mof M0 st.h p) w w' := ⟨by omega, fun b _ hb => hblk b fun he => hb (.inr ⟨id, ob, hi, hl, he.symm⟩)⟩
  have hne : ∀ i o, i ≠ id → st.h[i]? = some (some o) → live o = true → p i ≠ p id := fun i o hn hio hlo he => hn (R.inj i id o ob hio hi hlo hl he)
  have hOs : ∀ i e sz nl es v, i ≠ id → st.h[i]? = some (some (.arr e sz nl es)) → Osl w (p i) e sz nl es.length v → Osl w' (p i) e sz nl es.length v := by
    intro i e sz nl es v hn hio ho
    unfold Osl at ho ⊢
    cases nl
    · simp only [Bool.false_eq_true, if_false] at ho ⊢
      obtain ⟨cap, cur, h1, h2, h3⟩ := ho
      exact ⟨cap, cur, h1, (hblk _ (hne i _ hn hio rfl)).trans h2, h3⟩
    · exact ho
  have hV : ∀ {x : AV} {u : Value}, V1 w (Mof M0 st.h p) st.h p x u → V1 w' (Mof M0 (st.h.set id (some ob')) p) (st.h.set id (some ob')) p x u := fun hx =>
    hx.keep hk (fun b _ => hM b) (by simp) (fun _ _ => rfl) fun i e sz nl es v hil he hv => by
      rcases hobs i _ he with ⟨rfl, ho⟩ | ⟨hn, hio⟩
      · exact hosl e sz nl es v ho.symm fun e' sz' nl' es' hob => hv e' sz' nl' es' (by rw [hi, hob])
      · exact hOs i e sz nl es v hn hio (hv _ _ _ _ hio)
  have hV0 : ∀ {x : AV} {u : Value}, V0 w (Mof M0 st.h p) x u → V0 w' (Mof M0 (st.h.set id (some ob')) p) x u := fun hx => hx.keep hk fun b _ => hM b
  have hge : w0.heap.size ≤ p id := (R.objs id ob hi).ge hl
  refine ⟨R.defers, R.size, R.below.trans ⟨hos, htp, hou, by omega, fun k hk' => hblk k (by omega)⟩, R.m0, fun i => hV (R.slots i), fun i o hio => ?_, fun i i' o o' hio hio' hlo hlo' hpp => ?_⟩
  · rcases hobs i o hio with ⟨rfl, rfl⟩ | ⟨hn, hio'⟩
    · exact hob hV hV0
    · have ho := R.objs i o hio'
      cases o with
      | box cs =>
        obtain ⟨h1, cur, e, hg, h2, h3, h4⟩ := ho
        exact ⟨h1, cur, e, (hblk _ (hne i _ hn hio' rfl)).trans hg, h2, h3, fun j c hj => let ⟨u, hu, hv⟩ := h4 j c hj; ⟨u, hu, hV hv⟩⟩
      | arr e sz nl es =>
        obtain ⟨h1, h2, hr⟩ := ho
        refine ⟨h1, h2, ?_⟩
        cases nl
        · simp only [Bool.false_eq_true, if_false] at hr ⊢
          obtain ⟨h3, cur, hg, h4, h5⟩ := hr
          exact ⟨h3, cur, (hblk _ (hne i _ hn hio' rfl)).trans hg, h4, fun k x j c hk hj => let ⟨u, hu, hv⟩ := h5 k x j c hk hj; ⟨u, hu, hV0 hv⟩⟩
        · exact hr
  · rcases hobs i o hio with ⟨rfl, rfl⟩ | ⟨hn, h1⟩ <;> rcases hobs i' o' hio' with ⟨rfl, rfl⟩ | ⟨hn', h2⟩
    · rfl
    · exact absurd hpp.symm (hne i' o' hn' h2 hlo')
    · exact absurd hpp (hne i o hn h1 hlo)
    · exact R.inj i i' o o' h1 h2 hlo hlo' hpp
end
end Go.Proofs.Ytmfmpagfjgpodaa
