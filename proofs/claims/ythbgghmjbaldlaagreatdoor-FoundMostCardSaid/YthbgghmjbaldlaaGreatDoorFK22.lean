/- Texts in one: Walks on plain values: pairs and covers of the program; texts of at most 1000 bytes. -/
import Derived.Test.YthbgghmjbaldlaaGreatDoorFK20
import Derived.Test.YthbgghmjbaldlaaGreatDoorFK21
/-! QV: Walks on plain values: pairs and covers of the program; texts of at most 1000 bytes. -/
namespace Go.Proofs.YthbgghmjbaldlaaGreatDoor
open Go.RowKit
set_option maxRecDepth 100000
set_option maxHeartbeats 1000000
/-! ### Copies -/
theorem o_CopyClaims (l : List Item) (hl : l.length ≤ 1000000) (hm : ∀ x ∈ l, x.marks.length ≤ 1000000) : VCo Tryz.prog 13 [itemsA l] 87 4 (decide (l = [])) (l.map Item.av) := by
  have HM := Lib.hid hm
  clear hm
  refine VCo_of Tryz.func13 rfl (by kernel_rfl) (by kernel_rfl) rfl Tryz.results13 (by decide) (item_one l) fun M0 w0 => ?_
  simp only [Tryz.ntmps13, enumA]
  repeat' (first | (with_reducible first | refine vseq ?_ | refine vthenN ?_ | refine vthenE ?_ | refine vthenR ?_ | refine vret ?_ | refine vskip ?_ | refine vexit ?_ | refine vblock ?_ | refine vblockN ?_ | refine vblockR ?_ | refine vblockH ?_ | refine vrun_nil ?_ | refine vblockE rfl ?_ | refine vregion [3] ?_ | refine vhrun_nil ?_) | ((with_reducible refine vcondT ?_ ?_); (focus (go_simp; done))) | ((with_reducible refine vcondF ?_ ?_); (focus (go_simp; done))) | ((with_reducible first | refine vrun_cons fun KK hKK => ?_ | refine vhrun_cons fun KK hKK => ?_); go_simp; refine hKK _ ?_; clear hKK KK) | ((with_reducible refine vcondS ?_ (fun ht => ?_) (fun ht => ?_)); (focus (go_simp; done)); (all_goals (simp [go_sem] at ht; replace ht := ht.out))))
  apply vcnt [0] (fun k => [(4, I (k : Int)), (3, .osl 0)]) (fun k => ([some (.arr 87 4 (decide (upI l k = [])) ((upI l k).map Item.av))] : Hp))  (l.length)
  · go_simp <;> exact rfl
  · go_simp
  · intro k hk K hK
    obtain ⟨w1, w2, w3, w4, w5, w6⟩ := ixs (m := k) (by omega)
    have hs := upI_succ hk
    have hnl := upI_len (l := l) (k := k) (by omega)
    have hb : (upI l k).length + 1 ≤ 1000000000 := by omega
    have g := v_CopyClaim l[k] (HM.out _ (List.getElem_mem hk))
    clear hnl
    have HS := Lib.hid hs
    clear hs
    repeat' (first | (with_reducible first | refine vseq ?_ | refine vthenN ?_ | refine vthenE ?_ | refine vthenR ?_ | refine vret ?_ | refine vskip ?_ | refine vexit ?_ | refine vblock ?_ | refine vblockN ?_ | refine vblockR ?_ | refine vblockH ?_ | refine vrun_nil ?_ | refine vblockE rfl ?_ | refine vregion [] ?_ | refine vhrun_nil ?_) | ((with_reducible refine vcondT ?_ ?_); (focus (go_simp; done))) | ((with_reducible refine vcondF ?_ ?_); (focus (go_simp; done))) | ((with_reducible first | refine vrun_cons fun KK hKK => ?_ | refine vhrun_cons fun KK hKK => ?_); go_simp; (first | (with_reducible refine ⟨_, g, ?_⟩) | skip); refine hKK _ ?_; clear hKK KK) | ((with_reducible refine vcondS ?_ (fun ht => ?_) (fun ht => ?_)); (focus (go_simp; done)); (all_goals (simp [go_sem] at ht; replace ht := ht.out))))
    refine hK _ ?_
    rw [HS.out]
    go_simp
  · intro K
    rw [upI_all]
    repeat' (first | (with_reducible first | refine vseq ?_ | refine vthenN ?_ | refine vthenE ?_ | refine vthenR ?_ | refine vret ?_ | refine vskip ?_ | refine vexit ?_ | refine vblock ?_ | refine vblockN ?_ | refine vblockR ?_ | refine vblockH ?_ | refine vrun_nil ?_ | refine vblockE rfl ?_ | refine vregion [] ?_ | refine vhrun_nil ?_) | ((with_reducible refine vcondT ?_ ?_); (focus (go_simp; done))) | ((with_reducible refine vcondF ?_ ?_); (focus (go_simp; done))) | ((with_reducible first | refine vrun_cons fun KK hKK => ?_ | refine vhrun_cons fun KK hKK => ?_); go_simp; refine hKK _ ?_; clear hKK KK) | ((with_reducible refine vcondS ?_ (fun ht => ?_) (fun ht => ?_)); (focus (go_simp; done)); (all_goals (simp [go_sem] at ht; replace ht := ht.out))))
    exact ⟨0, rfl, rfl⟩
/-! ### Pairs -/
theorem w_true {n : Int} {m : Nat} (h : inR n 0 ((m : Int) - 1) = true) : ∃ a : Nat, n = a ∧ a < m := by
  obtain ⟨h1, h2⟩ := inR_iff.1 h
  exact ⟨n.toNat, by omega, by omega⟩
theorem pair_cases {l c : List Item} {ps : List (Int × Int)} {k : Nat} (h : pairE l c ps k ≠ 0) :
    (pairE l c ps k = 6 ∧ (inR (pat ps k).1 0 ((l.length : Int) - 1) && inR (pat ps k).2 0 ((c.length : Int) - 1)) = false) ∨
    (inR (pat ps k).1 0 ((l.length : Int) - 1) = true ∧ inR (pat ps k).2 0 ((c.length : Int) - 1) = true ∧
      ((pairE l c ps k = 9 ∧ 0 < k ∧ (pat ps k).1 ≤ (pat ps (k - 1)).1) ∨ (¬ (0 < k ∧ (pat ps k).1 ≤ (pat ps (k - 1)).1) ∧
        ((pairE l c ps k = 26 ∧ anyP (fun j => decide ((pat ps j).2 = (pat ps k).2)) 0 k = true) ∨ (pairE l c ps k = 13 ∧ anyP (fun j => decide ((pat ps j).2 = (pat ps k).2)) 0 k = false ∧ canBe (xat l (pat ps k).1.toNat) (xat c (pat ps k).2.toNat) = false))))) := by
  unfold pairE at h ⊢
  split
  · rename_i h1
    exact .inl ⟨rfl, h1⟩
  · rename_i h1
    rw [if_neg h1] at h
    rw [Bool.not_eq_false, Bool.and_eq_true] at h1
    refine .inr ⟨h1.1, h1.2, ?_⟩
    split
    · rename_i h2
      exact .inl ⟨rfl, h2⟩
    · rename_i h2
      rw [if_neg h2] at h
      refine .inr ⟨h2, ?_⟩
      split
      · rename_i h3
        exact .inl ⟨rfl, h3⟩
      · rename_i h3
        rw [if_neg h3] at h
        split
        · rename_i h4
          exact .inr ⟨rfl, by simpa using h3, h4⟩
        · rename_i h4
          rw [if_neg h4] at h
          exact absurd rfl h
structure Both (l c : List Item) : Prop where
  lfew : l.length ≤ 12
  cfew : c.length ≤ 12
  marks : ∀ k, k < l.length → (xat l k).marks.length ≤ 1000 ∧ Keys (xat l k).marks
  cmarks : ∀ k, k < c.length → (xat c k).marks.length ≤ 1000 ∧ 0 ≤ (xat c k).day ∧ (xat c k).day ≤ 100000
theorem both_of {l c : List Item} (hx : SmallX l) (hc : SmallX c) (h1 : itemsErr l = 0) (h2 : itemsErr c = 0) : Both l c := by
  obtain ⟨a1, a2⟩ := items_zero h1
  obtain ⟨b1, b2⟩ := items_zero h2
  refine ⟨a1, b1, fun k hk => ⟨?_, keys_of (thing_parts (a2 k hk).1).2.2.2.2⟩, fun k hk => ⟨?_, ?_⟩⟩
  · rw [xat_get hk]; exact (hx.each _ (List.getElem_mem hk)).few
  · rw [xat_get hk]; exact (hc.each _ (List.getElem_mem hk)).few
  · have := thing_parts (b2 k hk).1
    exact ⟨this.2.2.1, this.2.2.2.1⟩
/-! ### Covers -/
theorem befI_next {l : List Int} {k : Nat} (hk : k < l.length) : befI l (k + 1) = l[k] := by
  unfold befI
  rw [if_neg (by omega), Nat.add_sub_cancel, iat_get hk]
@[go_sem] theorem befI_0 (l : List Int) : befI l 0 = -1 := rfl
theorem numE_at {l : List Int} {n : Int} {k : Nat} (hk : k < l.length) : numE n l k = fst [unl (inR l[k] 0 (n - 1)) 6, unl (decide (befI l k < l[k])) 9] := by
  unfold numE
  rw [iat_get hk]
theorem mem_numF (p : Nat → Bool) (x : Int) : ∀ n, x ∈ numF p n ↔ ∃ i : Nat, i < n ∧ p i = true ∧ x = i
  | 0 => by simp [numF]
  | n + 1 => by
    rw [numF_succ]
    have ih := mem_numF p x n
    constructor
    · intro h
      split at h
      · rename_i hp
        rcases List.mem_append.1 h with h | h
        · obtain ⟨i, h1, h2, h3⟩ := ih.1 h
          exact ⟨i, by omega, h2, h3⟩
        · exact ⟨n, by omega, hp, by simpa using h⟩
      · obtain ⟨i, h1, h2, h3⟩ := ih.1 h
        exact ⟨i, by omega, h2, h3⟩
    · rintro ⟨i, h1, h2, h3⟩
      by_cases hi : i = n
      · subst hi
        rw [if_pos h2]
        exact List.mem_append_right _ (by simp [h3])
      · have := ih.2 ⟨i, by omega, h2, h3⟩
        split
        · exact List.mem_append_left _ this
        · exact this
/-! ### Great ones -/
abbrev proofA (ps : List (Int × Int)) (x y : List Int) : AV := .agg [pairsA ps, intsA x, intsA y]
def greatP (ps : List (Int × Int)) (x y : List Int) : Bool := decide ((15 : Int) < ps.length) || decide ((15 : Int) < x.length) || decide ((15 : Int) < y.length)
theorem l_great (ps : List (Int × Int)) (x y : List Int) (_h1 : ps.length ≤ 9223372036854775807) (_h2 : x.length ≤ 9223372036854775807) (_h3 : y.length ≤ 9223372036854775807) : VC Tryz.prog 17 [proofA ps x y] (B (greatP ps x y)) := by
  unfold greatP
  refine VC_of Tryz.func17 rfl (by kernel_rfl) (by kernel_rfl) rfl fun M0 w0 => ?_
  simp only [Tryz.ntmps17, Tryz.results17, enumA]
  repeat' (first | (with_reducible first | refine vseq ?_ | refine vthenN ?_ | refine vthenE ?_ | refine vthenR ?_ | refine vret ?_ | refine vskip ?_ | refine vexit ?_ | refine vblock ?_ | refine vblockN ?_ | refine vblockR ?_ | refine vblockH ?_ | refine vrun_nil ?_ | refine vblockE rfl ?_ | refine vregion [] ?_ | refine vhrun_nil ?_) | ((with_reducible refine vcondT ?_ ?_); (focus (go_simp; done))) | ((with_reducible refine vcondF ?_ ?_); (focus (go_simp; done))) | ((with_reducible first | refine vrun_cons fun KK hKK => ?_ | refine vhrun_cons fun KK hKK => ?_); go_simp; refine hKK _ ?_; clear hKK KK) | ((with_reducible refine vcondS ?_ (fun ht => ?_) (fun ht => ?_)); (focus (go_simp; done)); (all_goals (simp [go_sem] at ht; replace ht := ht.out))) | ((apply vrun_consG0 rfl); (focus (go_simp <;> exact rfl)); (focus (go_simp; done)); (focus (intro hb0; replace hb0 := hb0.out; go_simp <;> (first | exact rfl))); intro KK hKK; go_simp; refine hKK _ ?_; clear hKK KK))
  go_simp
end Go.Proofs.YthbgghmjbaldlaaGreatDoor
