/- Texts in one: The plain law of pairs as many as can be: pairs, and a cover of the same size; no condition. -/
import Derived.Test.YthbgghmjbaldlaaFO14
import Derived.Test.YthbgghmjbaldlaaFO21
import Derived.Test.YthbgghmjbaldlaaFO19
/-! QMoW: The plain law of pairs as many as can be: pairs, and a cover of the same size; no condition. -/
namespace Go.Proofs.Ythbgghmjbaldlaa
open Go.RowKit
/-- The pairs of a matching. -/
def pairF (items : List Int) : Nat → List (Int × Int)
  | 0 => []
  | n + 1 => if 0 ≤ items.getD n 0 then pairF items n ++ [((n : Int), items.getD n 0)] else pairF items n
theorem mem_pairF {items : List Int} {q : Int × Int} : ∀ {n : Nat}, q ∈ pairF items n ↔ ∃ i : Nat, i < n ∧ 0 ≤ items.getD i 0 ∧ q = ((i : Int), items.getD i 0)
  | 0 => by simp [pairF]
  | n + 1 => by
    rw [pairF]
    have ih := mem_pairF (items := items) (q := q) (n := n)
    constructor
    · intro h
      split at h
      · rename_i hp
        rcases List.mem_append.1 h with h | h
        · obtain ⟨i, h1, h2, h3⟩ := ih.1 h
          exact ⟨i, by omega, h2, h3⟩
        · exact ⟨n, by omega, hp, by simpa using h⟩
      · obtain ⟨i, h1, h2, h3⟩ := ih.1 h
        exact ⟨i, by omega, h2, h3⟩
    · rintro ⟨i, h1, h2, h3⟩
      by_cases hi : i = n
      · subst hi
        rw [if_pos h2, h3]
        simp
      · have := ih.2 ⟨i, by omega, h2, h3⟩
        split
        · exact List.mem_append_left _ this
        · exact this
theorem pairF_asc {items : List Int} : ∀ n : Nat, (pairF items n).Pairwise fun a b => a.1 < b.1
  | 0 => List.Pairwise.nil
  | n + 1 => by
    rw [pairF]
    split
    · refine List.pairwise_append.2 ⟨pairF_asc n, List.pairwise_singleton _ _, fun a ha b hb => ?_⟩
      obtain ⟨i, h1, _, rfl⟩ := mem_pairF.1 ha
      obtain rfl := List.mem_singleton.1 hb
      simp only
      omega
    · exact pairF_asc n
theorem numF_asc {p : Nat → Bool} : ∀ n : Nat, (numF p n).Pairwise fun a b => a < b
  | 0 => List.Pairwise.nil
  | n + 1 => by
    rw [numF]
    split
    · refine List.pairwise_append.2 ⟨numF_asc n, List.pairwise_singleton _ _, fun a ha b hb => ?_⟩
      obtain ⟨i, h1, _, rfl⟩ := (mem_numF _ _ _).1 ha
      obtain rfl := List.mem_singleton.1 hb
      omega
    · exact numF_asc n
theorem pairF_len (items : List Int) : ∀ n, (pairF items n).length ≤ n
  | 0 => Nat.le_refl _
  | n + 1 => by
    have := pairF_len items n
    rw [pairF]
    split
    · simp only [List.length_append, List.length_singleton]; omega
    · omega
theorem nodup_le {α : Type} : ∀ {l m : List α}, l.Nodup → (∀ x ∈ l, x ∈ m) → l.length ≤ m.length
  | [], _, _, _ => Nat.zero_le _
  | a :: l, m, h, hs => by
    obtain ⟨s, t, rfl⟩ := List.append_of_mem (hs a (by simp))
    have h1 := nodup_le (l := l) (m := s ++ t) (List.nodup_cons.1 h).2 fun x hx => by
      have := hs x (by simp [hx])
      have hne : x ≠ a := fun e => (List.nodup_cons.1 h).1 (by rw [← e]; exact hx)
      simp only [List.mem_append, List.mem_cons] at this ⊢
      rcases this with h | h | h
      · exact .inl h
      · exact absurd h hne
      · exact .inr h
    simp only [List.length_cons, List.length_append] at h1 ⊢
    omega
section
variable {pos : List (List Nat)} {n m : Nat} {s : Mt} {t : Rc}
theorem Fin2.back (h : Fin2 pos n m s t) {c : Nat} (hc : c < m) (hv : 0 ≤ s.claims.getD c 0) : s.items[(s.claims.getD c 0).toNat]? = some (c : Int) := by
  have hl : c < s.claims.length := by rw [h.ok.claims]; exact hc
  refine h.mi.b c _ ?_ fun h => h
  have : s.claims.getD c 0 = s.claims[c] := by simp [List.getD, hl]
  rw [List.getElem?_eq_getElem hl]
  congr 1
  omega
theorem Fin2.fwd (h : Fin2 pos n m s t) {i : Nat} (hi : i < n) (hv : 0 ≤ s.items.getD i 0) : s.items[i]? = some (((s.items.getD i 0).toNat : Nat) : Int) := by
  have hl : i < s.items.length := by rw [h.ok.items]; exact hi
  have : s.items.getD i 0 = s.items[i] := by simp [List.getD, hl]
  rw [List.getElem?_eq_getElem hl]
  congr 1
  omega
theorem Fin2.count (h : Fin2 pos n m s t) : (numF (fun i => t.it.getD i false) n).length + (numF (fun c => !t.cl.getD c false) m).length ≤ (pairF s.items n).length := by
  have key : ∀ c : Nat, c < m → t.cl.getD c false = false → ∃ i : Nat, i < n ∧ s.claims.getD c 0 = (i : Int) ∧ s.items[i]? = some (c : Int) ∧ t.it.getD i false = false := fun c hc hf => by
    have h3 := h.h3 c hc hf
    have hb := h.back hc h3
    have hil : (s.claims.getD c 0).toNat < s.items.length := by
      by_cases hl : (s.claims.getD c 0).toNat < s.items.length
      · exact hl
      · rw [List.getElem?_eq_none (by omega)] at hb
        cases hb
    refine ⟨_, by rw [← h.ok.items]; exact hil, by omega, hb, ?_⟩
    cases ht : t.it.getD (s.claims.getD c 0).toNat false
    · rfl
    · have h4 := h.h4 _ ht
      have : s.items.getD (s.claims.getD c 0).toNat 0 = (c : Int) := by rw [List.getD_eq_getElem?_getD, hb]; rfl
      rw [this, Int.toNat_natCast, hf] at h4
      cases h4
  have hl := nodup_le (l := numF (fun i => t.it.getD i false) n ++ (numF (fun c => !t.cl.getD c false) m).map fun c => s.claims.getD c.toNat 0) (m := (pairF s.items n).map fun q => q.1) ?_ ?_
  · simpa using hl
  · refine List.nodup_append.2 ⟨(numF_asc n).imp fun h => by omega, ?_, ?_⟩
    · refine List.pairwise_map.2 ((numF_asc m).imp_of_mem fun {a b} ha hb hab he => ?_)
      obtain ⟨x, hx, hxf, rfl⟩ := (mem_numF _ _ _).1 ha
      obtain ⟨y, hy, hyf, rfl⟩ := (mem_numF _ _ _).1 hb
      simp only [Int.toNat_natCast] at he
      obtain ⟨i, _, e1, e2, _⟩ := key x hx (by simpa using hxf)
      obtain ⟨j, _, f1, f2, _⟩ := key y hy (by simpa using hyf)
      rw [e1, f1] at he
      have : i = j := by omega
      subst this
      rw [e2] at f2
      have := Option.some.inj f2
      omega
    · intro a ha b hb hab
      obtain ⟨x, hx, hxf, rfl⟩ := (mem_numF _ _ _).1 ha
      obtain ⟨y, hy, rfl⟩ := List.mem_map.1 hb
      obtain ⟨z, hz, hzf, rfl⟩ := (mem_numF _ _ _).1 hy
      obtain ⟨i, _, e1, e2, e3⟩ := key z hz (by simpa using hzf)
      rw [Int.toNat_natCast, e1] at hab
      have : x = i := by omega
      subst this
      rw [e3] at hxf
      cases hxf
  · intro x hx
    rcases List.mem_append.1 hx with hx | hx
    · obtain ⟨i, hi, hf, rfl⟩ := (mem_numF _ _ _).1 hx
      exact List.mem_map.2 ⟨((i : Int), s.items.getD i 0), mem_pairF.2 ⟨i, hi, h.h1 i hf, rfl⟩, rfl⟩
    · obtain ⟨y, hy, rfl⟩ := List.mem_map.1 hx
      obtain ⟨z, hz, hzf, rfl⟩ := (mem_numF _ _ _).1 hy
      obtain ⟨i, hi, e1, e2, _⟩ := key z hz (by simpa using hzf)
      rw [Int.toNat_natCast, e1]
      have : s.items.getD i 0 = (z : Int) := by rw [List.getD_eq_getElem?_getD, e2]; rfl
      exact List.mem_map.2 ⟨((i : Int), s.items.getD i 0), mem_pairF.2 ⟨i, hi, by omega, rfl⟩, rfl⟩
/-- The claims of the pairs are claims, each but once, and each can have its item. -/
theorem Fin2.pairs (h : Fin2 pos n m s t) : (∀ q ∈ pairF s.items n, ∃ i c : Nat, i < n ∧ c < m ∧ q = ((i : Int), (c : Int)) ∧ i ∈ pos.getD c []) ∧ (pairF s.items n).Pairwise fun a b => a.2 ≠ b.2 := by
  refine ⟨fun q hq => ?_, ?_⟩
  · obtain ⟨i, hi, h0, rfl⟩ := mem_pairF.1 hq
    have hf := h.fwd hi h0
    exact ⟨i, (s.items.getD i 0).toNat, hi, h.ok.val hi h0, by rw [Int.toNat_of_nonneg h0], h.mi.d _ _ hf⟩
  · refine (pairF_asc n).imp_of_mem fun {a b} ha hb hab he => ?_
    obtain ⟨i, hi, h0, rfl⟩ := mem_pairF.1 ha
    obtain ⟨j, hj, g0, rfl⟩ := mem_pairF.1 hb
    simp only at hab he
    have hf := h.mi.a _ _ (h.fwd hi h0) fun h => h
    have hg := h.mi.a _ _ (h.fwd hj g0) fun h => h
    rw [he, hg] at hf
    have := Option.some.inj hf
    omega
theorem Fin2.cover (h : Fin2 pos n m s t) {i c : Nat} (hc : i ∈ pos.getD c []) : t.it.getD i false = true ∨ t.cl.getD c false = false := by
  cases hb : t.cl.getD c false
  · exact .inr rfl
  · exact .inl (h.h2 c hb i hc)
end
end Go.Proofs.Ythbgghmjbaldlaa

/-! QMoX: The plain law of pairs as many as can be: the reference's sets of claims; no condition. -/
namespace Go.Proofs.Ythbgghmjbaldlaa
open Go.RowKit
/-- The most pairs with the claims of the set s, an item more: the first k claims. -/
def stK (can : Nat → Bool) (A : List Int) (s : Nat) : Nat → Int
  | 0 => A.getD s 0
  | k + 1 => if s / 2 ^ k % 2 = 1 ∧ can k = true ∧ 0 ≤ A.getD (s - 2 ^ k) 0 then max (stK can A s k) (A.getD (s - 2 ^ k) 0 + 1) else stK can A s k
def stRow (can : Nat → Bool) (m : Nat) (A : List Int) : List Int := (List.range A.length).map fun s => stK can A s m
def dpF (can : Nat → Nat → Bool) (m : Nat) : Nat → List Int
  | 0 => 0 :: List.replicate (2 ^ m - 1) (-1)
  | i + 1 => stRow (can i) m (dpF can m i)
def maxTo (A : List Int) : Nat → Int
  | 0 => 0
  | s + 1 => max (maxTo A s) (A.getD s 0)
theorem dp_len (can : Nat → Nat → Bool) (m : Nat) : ∀ i, (dpF can m i).length = 2 ^ m
  | 0 => by
    have := Nat.two_pow_pos m
    simp only [dpF, List.length_cons, List.length_replicate]
    omega
  | i + 1 => by rw [dpF, stRow, List.length_map, List.length_range, dp_len can m i]
theorem dp_at {can : Nat → Nat → Bool} {m i s : Nat} (hs : s < 2 ^ m) : (dpF can m (i + 1)).getD s 0 = stK (can i) (dpF can m i) s m := by
  have h : s < (dpF can m i).length := by rw [dp_len]; exact hs
  simp [dpF, stRow, List.getD_eq_getElem?_getD, List.getElem?_map, List.getElem?_range h]
theorem bits_sub : ∀ s : Fin 32, ∀ k c : Fin 5, s.val / 2 ^ k.val % 2 = 1 → (s.val - 2 ^ k.val) / 2 ^ k.val % 2 = 0 ∧ 2 ^ k.val ≤ s.val ∧ (c ≠ k → (s.val - 2 ^ k.val) / 2 ^ c.val % 2 = s.val / 2 ^ c.val % 2) := by decide +kernel
theorem bits_add : ∀ m : Fin 6, ∀ s : Fin 32, ∀ k c : Fin 5, s.val < 2 ^ m.val → k.val < m.val → s.val / 2 ^ k.val % 2 = 0 → s.val + 2 ^ k.val < 2 ^ m.val ∧ (s.val + 2 ^ k.val) / 2 ^ k.val % 2 = 1 ∧ (c ≠ k → (s.val + 2 ^ k.val) / 2 ^ c.val % 2 = s.val / 2 ^ c.val % 2) := by decide +kernel
theorem pow_le {m : Nat} (hm : m ≤ 5) : 2 ^ m ≤ 32 := Nat.pow_le_pow_right (n := 2) (by omega) hm
structure Good (can : Nat → Nat → Bool) (m i s : Nat) (ps : List (Nat × Nat)) : Prop where
  asc : ps.Pairwise fun a b => a.1 < b.1
  dif : ps.Pairwise fun a b => a.2 ≠ b.2
  all : ∀ q ∈ ps, q.1 < i ∧ q.2 < m ∧ s / 2 ^ q.2 % 2 = 1 ∧ can q.1 q.2 = true
theorem stK_sound {can : Nat → Nat → Bool} {m i : Nat} (hm : m ≤ 5) (ih : ∀ s, s < 2 ^ m → 0 ≤ (dpF can m i).getD s 0 → ∃ ps, Good can m i s ps ∧ (dpF can m i).getD s 0 = ps.length) {s : Nat} (hs : s < 2 ^ m) :
    ∀ k, k ≤ m → 0 ≤ stK (can i) (dpF can m i) s k → ∃ ps, Good can m (i + 1) s ps ∧ stK (can i) (dpF can m i) s k = ps.length
  | 0, _, h => by
    obtain ⟨ps, g, e⟩ := ih s hs h
    exact ⟨ps, ⟨g.asc, g.dif, fun q hq => by have := g.all q hq; exact ⟨by omega, this.2⟩⟩, e⟩
  | k + 1, hk, h => by
    have hp := pow_le hm
    have ihk := stK_sound hm ih hs k (by omega)
    rw [stK] at h ⊢
    split
    · rename_i hc
      rw [if_pos hc] at h
      obtain ⟨c1, c2, c3⟩ := hc
      obtain ⟨b1, b2, _⟩ := bits_sub ⟨s, by omega⟩ ⟨k, by omega⟩ ⟨k, by omega⟩ c1
      simp only at b1 b2
      obtain ⟨ps, g, e⟩ := ih (s - 2 ^ k) (Nat.lt_of_le_of_lt (Nat.sub_le _ _) hs) c3
      have hnew : Good can m (i + 1) s (ps ++ [(i, k)]) := by
        have hcl : ∀ q ∈ ps, q.2 ≠ k ∧ s / 2 ^ q.2 % 2 = 1 := fun q hq => by
          obtain ⟨_, d2, d3, _⟩ := g.all q hq
          have hne : q.2 ≠ k := fun e => by rw [e] at d3; omega
          have := (bits_sub ⟨s, by omega⟩ ⟨k, by omega⟩ ⟨q.2, by omega⟩ c1).2.2 (fun e => hne (by simpa using e))
          simp only at this
          exact ⟨hne, by rw [← this]; exact d3⟩
        refine ⟨List.pairwise_append.2 ⟨g.asc, List.pairwise_singleton _ _, fun a ha b hb => ?_⟩, List.pairwise_append.2 ⟨g.dif, List.pairwise_singleton _ _, fun a ha b hb => ?_⟩, fun q hq => ?_⟩
        · obtain rfl := List.mem_singleton.1 hb
          exact (g.all a ha).1
        · obtain rfl := List.mem_singleton.1 hb
          exact (hcl a ha).1
        · rcases List.mem_append.1 hq with hq | hq
          · have := g.all q hq
            exact ⟨by omega, this.2.1, (hcl q hq).2, this.2.2.2⟩
          · obtain rfl := List.mem_singleton.1 hq
            exact ⟨by simp, by simp only; omega, c1, c2⟩
      by_cases hle : stK (can i) (dpF can m i) s k ≤ (dpF can m i).getD (s - 2 ^ k) 0 + 1
      · refine ⟨_, hnew, ?_⟩
        rw [Int.max_eq_right hle, e]
        simp
      · obtain ⟨qs, g', e'⟩ := ihk (by omega)
        exact ⟨qs, g', by rw [Int.max_eq_left (by omega)]; exact e'⟩
    · rename_i hc
      rw [if_neg hc] at h
      exact ihk h
theorem dp_sound {can : Nat → Nat → Bool} {m : Nat} (hm : m ≤ 5) : ∀ i s, s < 2 ^ m → 0 ≤ (dpF can m i).getD s 0 → ∃ ps, Good can m i s ps ∧ (dpF can m i).getD s 0 = ps.length
  | 0, s, hs, h => by
    cases s with
    | zero => exact ⟨[], ⟨.nil, .nil, by simp⟩, rfl⟩
    | succ s =>
      have : (dpF can m 0).getD (s + 1) 0 = -1 := by
        have : s < 2 ^ m - 1 := by omega
        simp [dpF, List.getD_eq_getElem?_getD, this]
      omega
  | i + 1, s, hs, h => by
    rw [dp_at hs] at h ⊢
    exact stK_sound hm (dp_sound hm i) hs m (Nat.le_refl _) h
theorem stK_ge {can : Nat → Bool} {A : List Int} {s : Nat} : ∀ k, A.getD s 0 ≤ stK can A s k
  | 0 => Int.le_refl _
  | k + 1 => by
    have := stK_ge (can := can) (A := A) (s := s) k
    rw [stK]
    split
    · exact Int.le_trans this (Int.le_max_left _ _)
    · exact this
theorem stK_hit {can : Nat → Bool} {A : List Int} {s j : Nat} (h1 : s / 2 ^ j % 2 = 1) (h2 : can j = true) (h3 : 0 ≤ A.getD (s - 2 ^ j) 0) : ∀ k, j < k → A.getD (s - 2 ^ j) 0 + 1 ≤ stK can A s k
  | 0, h => by omega
  | k + 1, h => by
    rw [stK]
    by_cases hj : j = k
    · subst hj
      rw [if_pos ⟨h1, h2, h3⟩]
      exact Int.le_max_right _ _
    · have := stK_hit h1 h2 h3 k (by omega)
      split
      · exact Int.le_trans this (Int.le_max_left _ _)
      · exact this
/-- The set of the claims of the first i items. -/
def setF (items : List Int) : Nat → Nat
  | 0 => 0
  | i + 1 => if 0 ≤ items.getD i 0 then setF items i + 2 ^ (items.getD i 0).toNat else setF items i
theorem dp_most {can : Nat → Nat → Bool} {n m : Nat} {items : List Int} (hm : m ≤ 5) (hv : ∀ i, i < n → 0 ≤ items.getD i 0 → (items.getD i 0).toNat < m ∧ can i (items.getD i 0).toNat = true) (hd : ∀ i j, i < j → j < n → 0 ≤ items.getD i 0 → items.getD i 0 ≠ items.getD j 0) :
    ∀ i, i ≤ n → setF items i < 2 ^ m ∧ (∀ c, c < m → setF items i / 2 ^ c % 2 = 1 → ∃ x, x < i ∧ items.getD x 0 = (c : Int)) ∧ ((pairF items i).length : Int) ≤ (dpF can m i).getD (setF items i) 0
  | 0, _ => ⟨Nat.two_pow_pos m, fun c _ h => by simp [setF] at h, by simp [pairF, dpF, setF]⟩
  | i + 1, hi => by
    obtain ⟨a1, a2, a3⟩ := dp_most hm hv hd i (by omega)
    have hp := pow_le hm
    rw [setF, pairF]
    split
    · rename_i h0
      obtain ⟨hc, hcan⟩ := hv i (by omega) h0
      obtain ⟨c, hcc⟩ : ∃ c : Nat, items.getD i 0 = (c : Int) := ⟨(items.getD i 0).toNat, by omega⟩
      rw [hcc, Int.toNat_natCast] at hc hcan ⊢
      have hz : setF items i / 2 ^ c % 2 = 0 := by
        have : setF items i / 2 ^ c % 2 ≠ 1 := fun h => by
          obtain ⟨x, hx, hxc⟩ := a2 c hc h
          exact hd x i hx (by omega) (by omega) (by rw [hxc, hcc])
        omega
      have hb := fun d hd' => bits_add ⟨m, by omega⟩ ⟨setF items i, by omega⟩ ⟨c, by omega⟩ ⟨d, hd'⟩ a1 hc hz
      simp only at hb
      obtain ⟨b1, b2, _⟩ := hb c (by omega)
      refine ⟨b1, fun d hd' h => ?_, ?_⟩
      · by_cases hdc : d = c
        · subst hdc
          exact ⟨i, by omega, hcc⟩
        · rw [(hb d (by omega)).2.2 (by simpa using hdc)] at h
          obtain ⟨x, hx, hxc⟩ := a2 d hd' h
          exact ⟨x, by omega, hxc⟩
      · rw [dp_at b1]
        have e : setF items i + 2 ^ c - 2 ^ c = setF items i := by omega
        have := stK_hit (can := can i) (A := dpF can m i) (s := setF items i + 2 ^ c) b2 hcan (by rw [e]; omega) m hc
        rw [e] at this
        simp only [List.length_append, List.length_singleton]
        omega
    · refine ⟨a1, fun d hd' h => ?_, ?_⟩
      · obtain ⟨x, hx, hxc⟩ := a2 d hd' h
        exact ⟨x, by omega, hxc⟩
      · rw [dp_at a1]
        exact Int.le_trans a3 (stK_ge m)
theorem maxTo_ge {A : List Int} : ∀ {n s : Nat}, s < n → A.getD s 0 ≤ maxTo A n
  | 0, _, h => by omega
  | n + 1, s, h => by
    rw [maxTo]
    by_cases hs : s = n
    · subst hs
      exact Int.le_max_right _ _
    · exact Int.le_trans (maxTo_ge (by omega)) (Int.le_max_left _ _)
theorem maxTo_le {A : List Int} {b : Int} (hb : 0 ≤ b) : ∀ {n : Nat}, (∀ s, s < n → A.getD s 0 ≤ b) → maxTo A n ≤ b
  | 0, _ => hb
  | n + 1, h => by
    rw [maxTo]
    exact Int.max_le.2 ⟨maxTo_le hb fun s hs => h s (by omega), h n (by omega)⟩
/-- The reference's number: as many as the pairs, if no good pairs are more. -/
theorem most_eq {can : Nat → Nat → Bool} {n m : Nat} {items : List Int} (hm : m ≤ 5) (hv : ∀ i, i < n → 0 ≤ items.getD i 0 → (items.getD i 0).toNat < m ∧ can i (items.getD i 0).toNat = true) (hd : ∀ i j, i < j → j < n → 0 ≤ items.getD i 0 → items.getD i 0 ≠ items.getD j 0)
    (hno : ∀ (s : Nat) (ps : List (Nat × Nat)), Good can m n s ps → ps.length ≤ (pairF items n).length) : maxTo (dpF can m n) (2 ^ m) = ((pairF items n).length : Int) := by
  obtain ⟨a1, _, a3⟩ := dp_most (can := can) hm hv hd n (Nat.le_refl _)
  refine Int.le_antisymm (maxTo_le (by omega) fun s hs => ?_) (Int.le_trans a3 (maxTo_ge a1))
  by_cases h : 0 ≤ (dpF can m n).getD s 0
  · obtain ⟨ps, g, e⟩ := dp_sound hm n s hs h
    have := hno s ps g
    omega
  · omega
end Go.Proofs.Ythbgghmjbaldlaa

/-! QMoY: The plain law of pairs as many as can be: both are accepted, and are as many as the reference says; no program in sight. -/
namespace Go.Proofs.Ythbgghmjbaldlaa
open Go.RowKit
theorem candN_mem {p : Nat → Bool} {x : Nat} : ∀ {n : Nat}, x < n → p x = true → x ∈ candN p n
  | 0, h, _ => by omega
  | n + 1, h, hp => by
    rw [candN]
    by_cases hx : x = n
    · subst hx
      rw [if_pos hp]
      simp
    · have := candN_mem (n := n) (by omega) hp
      split
      · exact List.mem_append_left _ this
      · exact this
def posL (l c : List Item) : List (List Nat) := c.map (cnum l)
theorem posL_at {l c : List Item} {k : Nat} (hk : k < c.length) : (posL l c).getD k [] = cnum l (xat c k) := by
  rw [xat_get hk]
  simp [posL, List.getD, hk]
theorem posL_mem {l c : List Item} {k i : Nat} (hk : k < c.length) : i ∈ (posL l c).getD k [] ↔ i < l.length ∧ canBe (xat l i) (xat c k) = true := by
  rw [posL_at hk]
  exact ⟨fun h => candN_lt _ _ i h, fun h => candN_mem h.1 h.2⟩
theorem posL_lt (l c : List Item) : ∀ r ∈ posL l c, ∀ i ∈ r, i < l.length := fun r hr i hi => by
  obtain ⟨x, _, rfl⟩ := List.mem_map.1 hr
  exact (candN_lt _ _ i hi).1
def mostS (l c : List Item) : Mt := matchF (posL l c) l.length c.length
def mostT (l c : List Item) : Rc := markF (posL l c) l.length c.length (mostS l c)
def mostP (l c : List Item) : List (Int × Int) := pairF (mostS l c).items l.length
def mostI (l c : List Item) : List Int := numF (fun i => (mostT l c).it.getD i false) l.length
def mostC (l c : List Item) : List Int := numF (fun k => !(mostT l c).cl.getD k false) c.length
def canL (l c : List Item) (i k : Nat) : Bool := canBe (xat l i) (xat c k)
def mostR (l c : List Item) : Int := maxTo (dpF (canL l c) c.length l.length) (2 ^ c.length)
theorem fin_most (l c : List Item) : Fin2 (posL l c) l.length c.length (mostS l c) (mostT l c) := fin2 (posL_lt l c)
theorem asc_at {l : List Int} (h : l.Pairwise fun a b => a < b) {i j : Nat} (hij : i < j) (hj : j < l.length) : iat l i < iat l j := by
  rw [iat_get hj, iat_get (show i < l.length by omega)]
  exact List.pairwise_iff_getElem.1 h i j _ _ hij
theorem numsE_of (p : Nat → Bool) (n : Nat) : numsE (numF p n) n = 0 := by
  unfold numsE
  rw [firstErr_out fun k hk => ?_]
  have hm := (mem_numF p _ n).1 (List.getElem_mem hk)
  obtain ⟨i, hi, _, he⟩ := hm
  have h1 : inR (iat (numF p n) k) 0 ((n : Int) - 1) = true := inR_iff.2 (by rw [iat_get hk, he]; omega)
  have h2 : decide (befI (numF p n) k < iat (numF p n) k) = true := by
    rw [decide_eq_true_eq]
    unfold befI
    split
    · rw [iat_get hk, he]; omega
    · exact asc_at (numF_asc n) (by omega) hk
  unfold bad numE
  rw [h1, h2]
  rfl
theorem hasI_of {l : List Int} {n : Int} (h : n ∈ l) : hasI l n = true := by
  obtain ⟨k, hk, he⟩ := List.getElem_of_mem h
  exact anyP_hit hk (by simp [isI, iat_get hk, he])
theorem pairs_mk {l c : List Item} {ps : List (Int × Int)} (h0 : pairsHead l c ps = 0) (h : PairsOK l c ps) : pairsE l c ps = 0 := by
  unfold pairsE
  rw [if_neg (by rw [h0]; simp), firstErr_out fun k hk => ?_]
  obtain ⟨b1, b2, b3, b4, b5⟩ := h.one k hk
  have h1 : (inR (pat ps k).1 0 ((l.length : Int) - 1) && inR (pat ps k).2 0 ((c.length : Int) - 1)) = true := by
    rw [Bool.and_eq_true, inR_iff, inR_iff]
    omega
  have h2 : ¬ (0 < k ∧ (pat ps k).1 ≤ (pat ps (k - 1)).1) := fun ⟨a, b⟩ => by
    have := h.asc (k - 1) k (by omega) hk
    omega
  have h3 : anyP (fun j => decide ((pat ps j).2 = (pat ps k).2)) 0 k = false := anyP_out fun j hj => by
    have := h.dif j k hj hk
    simpa using this
  unfold bad pairE
  rw [if_neg (by rw [h1]; simp), if_neg h2, if_neg (by rw [h3]; simp), if_neg (by rw [b5]; simp)]
  rfl
section
variable {l c : List Item}
theorem most_pairs (l c : List Item) : PairsOK l c (mostP l c) := by
  have F := fin_most l c
  obtain ⟨p1, p2⟩ := F.pairs
  have hat : ∀ k (hk : k < (mostP l c).length), pat (mostP l c) k = (mostP l c)[k] := fun k hk => pat_get hk
  refine ⟨fun k hk => ?_, fun i j hij hj => ?_, fun i j hij hj => ?_⟩
  · obtain ⟨i, x, hi, hx, he, hm⟩ := p1 _ (List.getElem_mem hk)
    have he : (mostP l c)[k] = ((i : Int), (x : Int)) := he
    rw [hat k hk, he]
    exact ⟨by simp, by simp only; omega, by simp, by simp only; omega, by simpa using ((posL_mem hx).1 hm).2⟩
  · rw [hat j hj, hat i (by omega)]
    exact List.pairwise_iff_getElem.1 (pairF_asc _) i j _ _ hij
  · rw [hat j hj, hat i (by omega)]
    exact List.pairwise_iff_getElem.1 p2 i j _ _ hij
theorem most_cover (z1 : itemsErr l = 0) (z2 : itemsErr c = 0) : coverE l c (mostI l c) (mostC l c) = 0 := by
  have F := fin_most l c
  have h0 : coverHead l c (mostI l c) (mostC l c) = 0 := by
    unfold coverHead mostI mostC
    rw [z1, z2, numsE_of, numsE_of]
    rfl
  unfold coverE
  rw [if_neg (by rw [h0]; simp), if_neg]
  intro h
  obtain ⟨k, _, hk, ho⟩ := anyP_iff.1 h
  have hk : k < c.length := by omega
  unfold openP at ho
  rw [Bool.and_eq_true] at ho
  obtain ⟨o1, o2⟩ := ho
  obtain ⟨i, _, hi, o3⟩ := anyP_iff.1 o2
  rw [Bool.and_eq_true] at o3
  have hi : i < l.length := by omega
  rcases F.cover (i := i) (c := k) ((posL_mem hk).2 ⟨hi, o3.1⟩) with h1 | h1
  · have := hasI_of ((mem_numF (fun i => (mostT l c).it.getD i false) (i : Int) l.length).2 ⟨i, hi, h1, rfl⟩)
    have : hasI (mostI l c) (i : Int) = true := this
    rw [this] at o3
    simp at o3
  · have := hasI_of ((mem_numF (fun k => !(mostT l c).cl.getD k false) (k : Int) c.length).2 ⟨k, hk, by rw [h1]; rfl, rfl⟩)
    have : hasI (mostC l c) (k : Int) = true := this
    rw [this] at o1
    simp at o1
theorem most_few (z1 : itemsErr l = 0) (ps : List (Int × Int)) (hp : PairsOK l c ps) (z2 : itemsErr c = 0) : pairsE l c ps = 0 := by
  have hl : ps.length ≤ l.length := by
    have := nodup_len (l := ps.map fun q => q.1.toNat) (m := List.range l.length) ?_ ?_
    · simpa using this
    · refine List.pairwise_iff_getElem.2 fun i j hi hj hij => ?_
      simp only [List.length_map] at hi hj
      have a := hp.asc i j hij hj
      have b := (hp.one i hi).1
      rw [pat_get hj, pat_get hi] at a
      rw [pat_get hi] at b
      simp only [List.getElem_map]
      omega
    · intro x hx
      obtain ⟨q, hq, rfl⟩ := List.mem_map.1 hx
      obtain ⟨k, hk, rfl⟩ := List.getElem_of_mem hq
      have := hp.one k hk
      rw [pat_get hk] at this
      exact List.mem_range.2 (by omega)
  have h12 := (items_zero z1).1
  refine pairs_mk ?_ hp
  unfold pairsHead
  rw [z1, z2, show decide ((ps.length : Int) ≤ 12) = true by simp; omega]
  rfl
/-- Pairs and cover are accepted, are equally many, and as many as the reference says. -/
theorem most_law (z1 : itemsErr l = 0) (z2 : itemsErr c = 0) (hc : c.length ≤ 5) :
    pairsE l c (mostP l c) = 0 ∧ coverE l c (mostI l c) (mostC l c) = 0 ∧ pairsN l c (mostP l c) = mostR l c ∧ coverN l c (mostI l c) (mostC l c) = mostR l c ∧ mostR l c = ((mostP l c).length : Int) := by
  have F := fin_most l c
  have e1 := most_few z1 _ (most_pairs l c) z2
  have e2 := most_cover z1 z2
  have n1 := no_more e1 e2
  have n2 := F.count
  have n2 : (mostI l c).length + (mostC l c).length ≤ (mostP l c).length := n2
  have hN : pairsN l c (mostP l c) = ((mostP l c).length : Int) := if_pos e1
  have hM : coverN l c (mostI l c) (mostC l c) = ((mostI l c).length : Int) + ((mostC l c).length : Int) := if_pos e2
  have hR : mostR l c = ((mostP l c).length : Int) := by
    refine most_eq hc (fun i hi h0 => ?_) (fun i j hij hj h0 he => ?_) fun s ps g => ?_
    · have hf := F.fwd hi h0
      have hv := F.ok.val hi h0
      exact ⟨hv, ((posL_mem hv).1 (F.mi.d _ _ hf)).2⟩
    · have hf := F.mi.a _ _ (F.fwd (by omega) h0) fun h => h
      have hg := F.mi.a _ _ (F.fwd hj (by omega)) fun h => h
      rw [he, hg] at hf
      have := Option.some.inj hf
      omega
    · have hat : ∀ k (hk : k < ps.length), pat (ps.map fun q => ((q.1 : Int), (q.2 : Int))) k = ((ps[k].1 : Int), (ps[k].2 : Int)) := fun k hk => by
        rw [pat_get (by simpa using hk)]
        simp
      have hok : PairsOK l c (ps.map fun q => ((q.1 : Int), (q.2 : Int))) := by
        refine ⟨fun k hk => ?_, fun i j hij hj => ?_, fun i j hij hj => ?_⟩
        · rw [List.length_map] at hk
          obtain ⟨g1, g2, _, g4⟩ := g.all _ (List.getElem_mem hk)
          rw [hat k hk]
          exact ⟨by simp, by simp only; omega, by simp, by simp only; omega, by simpa [canL] using g4⟩
        · rw [List.length_map] at hj
          rw [hat j hj, hat i (by omega)]
          have := List.pairwise_iff_getElem.1 g.asc i j (by omega) hj hij
          simp only
          omega
        · rw [List.length_map] at hj
          rw [hat j hj, hat i (by omega)]
          have := List.pairwise_iff_getElem.1 g.dif i j (by omega) hj hij
          simp only
          omega
      have e3 := most_few z1 _ hok z2
      have n3 := no_more e3 e2
      rw [hM, pairsN, if_pos e3, List.length_map] at n3
      show ps.length ≤ (mostP l c).length
      omega
  refine ⟨e1, e2, by omega, by omega, hR⟩
end
end Go.Proofs.Ythbgghmjbaldlaa

/-! QMoZ: The plain law of one item less: as many pairs, or one less; no program in sight. -/
namespace Go.Proofs.Ythbgghmjbaldlaa
open Go.RowKit
def lessL (l : List Item) (a : Nat) : List Item := l.take a ++ l.drop (a + 1)
theorem lessL_len {l : List Item} {a : Nat} (h : a < l.length) : (lessL l a).length + 1 = l.length := by
  simp only [lessL, List.length_append, List.length_take, List.length_drop]
  omega
/-- Where item k of the fewer stands among all. -/
def upJ (a k : Nat) : Nat := if k < a then k else k + 1
theorem lessL_at {l : List Item} {a k : Nat} (h : a < l.length) : xat (lessL l a) k = xat l (upJ a k) := by
  simp only [xat, lessL, upJ, List.getD_eq_getElem?_getD]
  by_cases hk : k < a
  · rw [if_pos hk, List.getElem?_append_left (by simp; omega), List.getElem?_take_of_lt hk]
  · rw [if_neg hk, List.getElem?_append_right (by simp; omega), List.getElem?_drop, List.length_take, Nat.min_eq_left (by omega)]
    congr 2
    omega
theorem items_mk {l : List Item} (h1 : l.length ≤ 12) (h2 : ∀ k, k < l.length → thingErr (xat l k) = 0) (h3 : ∀ j k, j < k → k < l.length → (xat l j).name ≠ (xat l k).name) : itemsErr l = 0 := by
  rw [itemsErr_eq, if_neg (by omega), firstErr_out fun k hk => ?_]
  have e := h2 k hk
  rw [xat_get hk] at e
  have n : anyP (sameN l l[k]) 0 k = false := anyP_out fun j hj => by
    have := h3 j k hj hk
    rw [xat_get hk] at this
    simpa [sameN] using this
  unfold bad
  rw [listE_at hk, e, n]
  rfl
theorem less_ok {l : List Item} {a : Nat} (z : itemsErr l = 0) (ha : a < l.length) : itemsErr (lessL l a) = 0 := by
  obtain ⟨h12, hz⟩ := items_zero z
  have hll := lessL_len ha
  refine items_mk (by omega) (fun k hk => ?_) fun j k hjk hk he => ?_
  · rw [lessL_at ha]
    exact (hz _ (by unfold upJ; split <;> omega)).1
  · rw [lessL_at ha, lessL_at ha] at he
    have h1 : upJ a j < upJ a k := by unfold upJ; split <;> split <;> omega
    have h2 : upJ a k < l.length := by unfold upJ; split <;> omega
    have := (hz _ h2).2
    rw [anyP_hit h1 (by simpa [sameN] using he)] at this
    cases this
/-- Accepted pairs, pair by pair. -/
structure PairsP (l c : List Item) (ps : List (Int × Int)) : Prop where
  one : ∀ q ∈ ps, 0 ≤ q.1 ∧ q.1 < l.length ∧ 0 ≤ q.2 ∧ q.2 < c.length ∧ canBe (xat l q.1.toNat) (xat c q.2.toNat) = true
  asc : ps.Pairwise fun a b => a.1 < b.1
  dif : ps.Pairwise fun a b => a.2 ≠ b.2
theorem PairsP.ok {l c : List Item} {ps : List (Int × Int)} (h : PairsP l c ps) : PairsOK l c ps :=
  ⟨fun k hk => by rw [pat_get hk]; exact h.one _ (List.getElem_mem hk), fun i j hij hj => by rw [pat_get hj, pat_get (by omega)]; exact List.pairwise_iff_getElem.1 h.asc i j _ _ hij,
    fun i j hij hj => by rw [pat_get hj, pat_get (by omega)]; exact List.pairwise_iff_getElem.1 h.dif i j _ _ hij⟩
theorem most_pp (l c : List Item) : PairsP l c (mostP l c) := by
  have h := most_pairs l c
  refine ⟨fun q hq => ?_, List.pairwise_iff_getElem.2 fun i j hi hj hij => ?_, List.pairwise_iff_getElem.2 fun i j hi hj hij => ?_⟩
  · obtain ⟨k, hk, rfl⟩ := List.getElem_of_mem hq
    have := h.one k hk
    rwa [pat_get hk] at this
  · have := h.asc i j hij hj
    rwa [pat_get hj, pat_get hi] at this
  · have := h.dif i j hij hj
    rwa [pat_get hj, pat_get hi] at this
theorem most_ge {l c : List Item} {ps : List (Int × Int)} (z1 : itemsErr l = 0) (z2 : itemsErr c = 0) (hc : c.length ≤ 5) (h : PairsP l c ps) : ps.length ≤ (mostP l c).length := by
  obtain ⟨_, e2, _, n4, n5⟩ := most_law z1 z2 hc
  have e1 := most_few z1 ps h.ok z2
  have n := no_more e1 e2
  rw [n4, n5, pairsN, if_pos e1] at n
  omega
def upQ (a : Nat) (q : Int × Int) : Int × Int := (if q.1 < a then q.1 else q.1 + 1, q.2)
def dnQ (a : Nat) (q : Int × Int) : Int × Int := (if q.1 < a then q.1 else q.1 - 1, q.2)
theorem up_ok {l c : List Item} {a : Nat} {ps : List (Int × Int)} (ha : a < l.length) (h : PairsP (lessL l a) c ps) : PairsP l c (ps.map (upQ a)) := by
  have hll := lessL_len ha
  refine ⟨fun q hq => ?_, List.pairwise_map.2 (h.asc.imp fun hab => ?_), List.pairwise_map.2 (h.dif.imp fun hab => hab)⟩
  · obtain ⟨r, hr, rfl⟩ := List.mem_map.1 hq
    obtain ⟨b1, b2, b3, b4, b5⟩ := h.one r hr
    rw [lessL_at ha] at b5
    have hu : (upQ a r).1.toNat = upJ a r.1.toNat := by
      simp only [upQ, upJ]
      split <;> split <;> omega
    refine ⟨?_, ?_, b3, b4, by rw [hu]; exact b5⟩
    · simp only [upQ]; split <;> omega
    · simp only [upQ]; split <;> omega
  · simp only [upQ]
    split <;> split <;> omega
theorem dn_ok {l c : List Item} {a : Nat} {ps : List (Int × Int)} (ha : a < l.length) (h : PairsP l c ps) : PairsP (lessL l a) c ((ps.filter fun q => decide (q.1 ≠ (a : Int))).map (dnQ a)) := by
  have hll := lessL_len ha
  have hmem : ∀ q ∈ ps.filter (fun q => decide (q.1 ≠ (a : Int))), q ∈ ps ∧ q.1 ≠ (a : Int) := fun q hq => by
    obtain ⟨h1, h2⟩ := List.mem_filter.1 hq
    exact ⟨h1, by simpa using h2⟩
  refine ⟨fun q hq => ?_, List.pairwise_map.2 ((h.asc.filter _).imp_of_mem fun {x y} hx hy hab => ?_), List.pairwise_map.2 ((h.dif.filter _).imp fun hab => hab)⟩
  · obtain ⟨r, hr, rfl⟩ := List.mem_map.1 hq
    obtain ⟨hr, hne⟩ := hmem r hr
    obtain ⟨b1, b2, b3, b4, b5⟩ := h.one r hr
    have hu : upJ a (dnQ a r).1.toNat = r.1.toNat := by
      simp only [dnQ, upJ]
      split <;> split <;> omega
    refine ⟨?_, ?_, b3, b4, by rw [lessL_at ha, hu]; exact b5⟩
    · simp only [dnQ]; split <;> omega
    · simp only [dnQ]; split <;> omega
  · have := (hmem x hx).2
    have := (hmem y hy).2
    simp only [dnQ]
    split <;> split <;> omega
theorem filter_one {a : Int} : ∀ {ps : List (Int × Int)}, (ps.Pairwise fun a b => a.1 < b.1) → ps.length ≤ (ps.filter fun q => decide (q.1 ≠ a)).length + 1
  | [], _ => Nat.zero_le _
  | q :: ps, h => by
    obtain ⟨h1, h2⟩ := List.pairwise_cons.1 h
    by_cases hq : q.1 = a
    · have : (q :: ps).filter (fun q => decide (q.1 ≠ a)) = ps := by
        rw [List.filter_cons_of_neg (by simp [hq]), List.filter_eq_self.2]
        intro r hr
        have := h1 r hr
        have : r.1 ≠ a := by omega
        simpa using this
      rw [this]
      simp
    · have := filter_one (a := a) h2
      rw [List.filter_cons_of_pos (by simpa using hq)]
      simp only [List.length_cons]
      omega
theorem less_most {l c : List Item} {a : Nat} (z1 : itemsErr l = 0) (z2 : itemsErr c = 0) (hc : c.length ≤ 5) (ha : a < l.length) : (mostP (lessL l a) c).length ≤ (mostP l c).length ∧ (mostP l c).length ≤ (mostP (lessL l a) c).length + 1 := by
  have z3 := less_ok z1 ha
  have h1 := most_ge z1 z2 hc (up_ok ha (most_pp (lessL l a) c))
  have h2 := most_ge z3 z2 hc (dn_ok ha (most_pp l c))
  have h3 := filter_one (a := (a : Int)) (most_pp l c).asc
  rw [List.length_map] at h1 h2
  omega
theorem cands_has {l : List Item} {x : Item} {i : Nat} (hi : i < l.length) (h : canBe (xat l i) x = true) : hasI (cands l x) (i : Int) = true :=
  hasI_of ((mem_numF _ _ _).2 ⟨i, hi, h, rfl⟩)
end Go.Proofs.Ythbgghmjbaldlaa
