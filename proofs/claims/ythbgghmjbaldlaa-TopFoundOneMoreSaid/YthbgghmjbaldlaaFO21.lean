/- Texts in one: Walks on plain values: pairs and covers of the program; texts of at most 1000 bytes. -/
import Derived.Test.YthbgghmjbaldlaaFO19
import Derived.Test.YthbgghmjbaldlaaFO20
/-! QV: Walks on plain values: pairs and covers of the program; texts of at most 1000 bytes. -/
namespace Go.Proofs.Ythbgghmjbaldlaa
open Go.RowKit
set_option maxRecDepth 100000
set_option maxHeartbeats 1000000
/-! ### Copies -/
theorem o_CopyClaims (l : List Item) (hl : l.length ≤ 1000000) (hm : ∀ x ∈ l, x.marks.length ≤ 1000000) : VCo Try.prog 10 [itemsA l] 44 4 (decide (l = [])) (l.map Item.av) := by
  have HM := Lib.hid hm
  clear hm
  refine VCo_of Try.func10 rfl (by kernel_rfl) (by kernel_rfl) rfl Try.results10 (by decide) (item_one l) fun M0 w0 => ?_
  simp only [Try.ntmps10, enumA]
  repeat' (first | (with_reducible first | refine vseq ?_ | refine vthenN ?_ | refine vthenE ?_ | refine vthenR ?_ | refine vret ?_ | refine vskip ?_ | refine vexit ?_ | refine vblock ?_ | refine vblockN ?_ | refine vblockR ?_ | refine vblockH ?_ | refine vrun_nil ?_ | refine vblockE rfl ?_ | refine vregion [3] ?_ | refine vhrun_nil ?_) | ((with_reducible refine vcondT ?_ ?_); (focus (go_simp; done))) | ((with_reducible refine vcondF ?_ ?_); (focus (go_simp; done))) | ((with_reducible first | refine vrun_cons fun KK hKK => ?_ | refine vhrun_cons fun KK hKK => ?_); go_simp; refine hKK _ ?_; clear hKK KK) | ((with_reducible refine vcondS ?_ (fun ht => ?_) (fun ht => ?_)); (focus (go_simp; done)); (all_goals (simp [go_sem] at ht; replace ht := ht.out))))
  apply vcnt [0] (fun k => [(4, I (k : Int)), (3, .osl 0)]) (fun k => ([some (.arr 44 4 (decide (upI l k = [])) ((upI l k).map Item.av))] : Hp))  (l.length)
  · go_simp <;> exact rfl
  · go_simp
  · intro k hk K hK
    obtain ⟨w1, w2, w3, w4, w5, w6⟩ := ixs (m := k) (by omega)
    have hs := upI_succ hk
    have hnl := upI_len (l := l) (k := k) (by omega)
    have hb : (upI l k).length + 1 ≤ 1000000000 := by omega
    have g := v_CopyClaim l[k] (HM.out _ (List.getElem_mem hk))
    clear hnl
    have HS := Lib.hid hs
    clear hs
    repeat' (first | (with_reducible first | refine vseq ?_ | refine vthenN ?_ | refine vthenE ?_ | refine vthenR ?_ | refine vret ?_ | refine vskip ?_ | refine vexit ?_ | refine vblock ?_ | refine vblockN ?_ | refine vblockR ?_ | refine vblockH ?_ | refine vrun_nil ?_ | refine vblockE rfl ?_ | refine vregion [] ?_ | refine vhrun_nil ?_) | ((with_reducible refine vcondT ?_ ?_); (focus (go_simp; done))) | ((with_reducible refine vcondF ?_ ?_); (focus (go_simp; done))) | ((with_reducible first | refine vrun_cons fun KK hKK => ?_ | refine vhrun_cons fun KK hKK => ?_); go_simp; (first | (with_reducible refine ⟨_, g, ?_⟩) | skip); refine hKK _ ?_; clear hKK KK) | ((with_reducible refine vcondS ?_ (fun ht => ?_) (fun ht => ?_)); (focus (go_simp; done)); (all_goals (simp [go_sem] at ht; replace ht := ht.out))))
    refine hK _ ?_
    rw [HS.out]
    go_simp
  · intro K
    rw [upI_all]
    repeat' (first | (with_reducible first | refine vseq ?_ | refine vthenN ?_ | refine vthenE ?_ | refine vthenR ?_ | refine vret ?_ | refine vskip ?_ | refine vexit ?_ | refine vblock ?_ | refine vblockN ?_ | refine vblockR ?_ | refine vblockH ?_ | refine vrun_nil ?_ | refine vblockE rfl ?_ | refine vregion [] ?_ | refine vhrun_nil ?_) | ((with_reducible refine vcondT ?_ ?_); (focus (go_simp; done))) | ((with_reducible refine vcondF ?_ ?_); (focus (go_simp; done))) | ((with_reducible first | refine vrun_cons fun KK hKK => ?_ | refine vhrun_cons fun KK hKK => ?_); go_simp; refine hKK _ ?_; clear hKK KK) | ((with_reducible refine vcondS ?_ (fun ht => ?_) (fun ht => ?_)); (focus (go_simp; done)); (all_goals (simp [go_sem] at ht; replace ht := ht.out))))
    exact ⟨0, rfl, rfl⟩
/-! ### Pairs -/
structure Both (l c : List Item) : Prop where
  lfew : l.length ≤ 12
  cfew : c.length ≤ 12
  marks : ∀ k, k < l.length → (xat l k).marks.length ≤ 1000 ∧ Keys (xat l k).marks
  cmarks : ∀ k, k < c.length → (xat c k).marks.length ≤ 1000 ∧ 0 ≤ (xat c k).day ∧ (xat c k).day ≤ 100000
theorem both_of {l c : List Item} (hx : SmallX l) (hc : SmallX c) (h1 : itemsErr l = 0) (h2 : itemsErr c = 0) : Both l c := by
  obtain ⟨a1, a2⟩ := items_zero h1
  obtain ⟨b1, b2⟩ := items_zero h2
  refine ⟨a1, b1, fun k hk => ⟨?_, keys_of (thing_parts (a2 k hk).1).2.2.2.2⟩, fun k hk => ⟨?_, ?_⟩⟩
  · rw [xat_get hk]; exact (hx.each _ (List.getElem_mem hk)).few
  · rw [xat_get hk]; exact (hc.each _ (List.getElem_mem hk)).few
  · have := thing_parts (b2 k hk).1
    exact ⟨this.2.2.1, this.2.2.2.1⟩
/-! ### Covers -/
@[go_sem] theorem befI_0 (l : List Int) : befI l 0 = -1 := rfl
theorem mem_numF (p : Nat → Bool) (x : Int) : ∀ n, x ∈ numF p n ↔ ∃ i : Nat, i < n ∧ p i = true ∧ x = i
  | 0 => by simp [numF]
  | n + 1 => by
    rw [numF_succ]
    have ih := mem_numF p x n
    constructor
    · intro h
      split at h
      · rename_i hp
        rcases List.mem_append.1 h with h | h
        · obtain ⟨i, h1, h2, h3⟩ := ih.1 h
          exact ⟨i, by omega, h2, h3⟩
        · exact ⟨n, by omega, hp, by simpa using h⟩
      · obtain ⟨i, h1, h2, h3⟩ := ih.1 h
        exact ⟨i, by omega, h2, h3⟩
    · rintro ⟨i, h1, h2, h3⟩
      by_cases hi : i = n
      · subst hi
        rw [if_pos h2]
        exact List.mem_append_right _ (by simp [h3])
      · have := ih.2 ⟨i, by omega, h2, h3⟩
        split
        · exact List.mem_append_left _ this
        · exact this
/-! ### Great ones -/
abbrev proofA (ps : List (Int × Int)) (x y : List Int) : AV := .agg [pairsA ps, intsA x, intsA y]
end Go.Proofs.Ythbgghmjbaldlaa
