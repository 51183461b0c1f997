/- Texts in one: Walks on plain values: pairs and covers of the program; texts of at most 1000 bytes. -/
import Derived.Test.YthbgghmjbaldlaaGreatDoorFZ13
import Derived.Test.YthbgghmjbaldlaaGreatDoorFZ16
/-! QV: Walks on plain values: pairs and covers of the program; texts of at most 1000 bytes. -/
namespace Go.Proofs.YthbgghmjbaldlaaGreatDoor
open Go.RowKit
set_option maxRecDepth 100000
set_option maxHeartbeats 1000000
/-! ### Copies -/
theorem o_CopyClaims (l : List Item) (hl : l.length ≤ 1000000) (hm : ∀ x ∈ l, x.marks.length ≤ 1000000) : VCo Tryz.prog 13 [itemsA l] 87 4 (decide (l = [])) (l.map Item.av) := by
  have HM := Lib.hid hm
  clear hm
  refine VCo_of Tryz.func13 rfl (by kernel_rfl) (by kernel_rfl) rfl Tryz.results13 (by decide) (item_one l) fun M0 w0 => ?_
  simp only [Tryz.ntmps13, enumA]
  repeat' (first | (with_reducible first | refine vseq ?_ | refine vthenN ?_ | refine vthenE ?_ | refine vthenR ?_ | refine vret ?_ | refine vskip ?_ | refine vexit ?_ | refine vblock ?_ | refine vblockN ?_ | refine vblockR ?_ | refine vblockH ?_ | refine vrun_nil ?_ | refine vblockE rfl ?_ | refine vregion [3] ?_ | refine vhrun_nil ?_) | ((with_reducible refine vcondT ?_ ?_); (focus (go_simp; done))) | ((with_reducible refine vcondF ?_ ?_); (focus (go_simp; done))) | ((with_reducible first | refine vrun_cons fun KK hKK => ?_ | refine vhrun_cons fun KK hKK => ?_); go_simp; refine hKK _ ?_; clear hKK KK) | ((with_reducible refine vcondS ?_ (fun ht => ?_) (fun ht => ?_)); (focus (go_simp; done)); (all_goals (simp [go_sem] at ht; replace ht := ht.out))))
  apply vcnt [0] (fun k => [(4, I (k : Int)), (3, .osl 0)]) (fun k => ([some (.arr 87 4 (decide (upI l k = [])) ((upI l k).map Item.av))] : Hp))  (l.length)
  · go_simp <;> exact rfl
  · go_simp
  · intro k hk K hK
    obtain ⟨w1, w2, w3, w4, w5, w6⟩ := ixs (m := k) (by omega)
    have hs := upI_succ hk
    have hnl := upI_len (l := l) (k := k) (by omega)
    have hb : (upI l k).length + 1 ≤ 1000000000 := by omega
    have g := v_CopyClaim l[k] (HM.out _ (List.getElem_mem hk))
    clear hnl
    have HS := Lib.hid hs
    clear hs
    repeat' (first | (with_reducible first | refine vseq ?_ | refine vthenN ?_ | refine vthenE ?_ | refine vthenR ?_ | refine vret ?_ | refine vskip ?_ | refine vexit ?_ | refine vblock ?_ | refine vblockN ?_ | refine vblockR ?_ | refine vblockH ?_ | refine vrun_nil ?_ | refine vblockE rfl ?_ | refine vregion [] ?_ | refine vhrun_nil ?_) | ((with_reducible refine vcondT ?_ ?_); (focus (go_simp; done))) | ((with_reducible refine vcondF ?_ ?_); (focus (go_simp; done))) | ((with_reducible first | refine vrun_cons fun KK hKK => ?_ | refine vhrun_cons fun KK hKK => ?_); go_simp; (first | (with_reducible refine ⟨_, g, ?_⟩) | skip); refine hKK _ ?_; clear hKK KK) | ((with_reducible refine vcondS ?_ (fun ht => ?_) (fun ht => ?_)); (focus (go_simp; done)); (all_goals (simp [go_sem] at ht; replace ht := ht.out))))
    refine hK _ ?_
    rw [HS.out]
    go_simp
  · intro K
    rw [upI_all]
    repeat' (first | (with_reducible first | refine vseq ?_ | refine vthenN ?_ | refine vthenE ?_ | refine vthenR ?_ | refine vret ?_ | refine vskip ?_ | refine vexit ?_ | refine vblock ?_ | refine vblockN ?_ | refine vblockR ?_ | refine vblockH ?_ | refine vrun_nil ?_ | refine vblockE rfl ?_ | refine vregion [] ?_ | refine vhrun_nil ?_) | ((with_reducible refine vcondT ?_ ?_); (focus (go_simp; done))) | ((with_reducible refine vcondF ?_ ?_); (focus (go_simp; done))) | ((with_reducible first | refine vrun_cons fun KK hKK => ?_ | refine vhrun_cons fun KK hKK => ?_); go_simp; refine hKK _ ?_; clear hKK KK) | ((with_reducible refine vcondS ?_ (fun ht => ?_) (fun ht => ?_)); (focus (go_simp; done)); (all_goals (simp [go_sem] at ht; replace ht := ht.out))))
    exact ⟨0, rfl, rfl⟩
theorem pairs_one (l : List (Int × Int)) : ∀ (k : Nat) (x : List AV), (l.map pairAV)[k]? = some x → x.length = 2 ∧ ∀ c ∈ x, oneAV c = true := fun k x hx => by
  obtain ⟨y, hy, rfl⟩ := map_at hx
  exact ⟨rfl, by simp [pairAV, oneAV, Value.oneCell']⟩
theorem o_CopyPairs (l : List (Int × Int)) (hl : l.length ≤ 1000000) : VCo Tryz.prog 19 [pairsA l] 100 2 false (l.map pairAV) := by
  refine VCo_of Tryz.func19 rfl (by kernel_rfl) (by kernel_rfl) rfl Tryz.results19 (by decide) (pairs_one l) fun M0 w0 => ?_
  simp only [Tryz.ntmps19, enumA]
  have hl2 : l.length ≤ 1000000000 := by omega
  repeat (first | (with_reducible first | refine vseq ?_ | refine vthenN ?_ | refine vthenE ?_ | refine vthenR ?_ | refine vret ?_ | refine vskip ?_ | refine vexit ?_ | refine vblock ?_ | refine vblockN ?_ | refine vblockR ?_ | refine vblockH ?_ | refine vrun_nil ?_ | refine vblockE rfl ?_ | refine vregion [3] ?_ | refine vhrun_nil ?_) | ((with_reducible refine vcondT ?_ ?_); (focus (go_simp; done))) | ((with_reducible refine vcondF ?_ ?_); (focus (go_simp; done))) | ((with_reducible first | refine vrun_cons fun KK hKK => ?_ | refine vhrun_cons fun KK hKK => ?_); go_simp; refine hKK _ ?_; clear hKK KK))
  exact ⟨0, rfl, rfl⟩
theorem o_CopyInts (l : List Int) (hl : l.length ≤ 1000000) : VCo Tryz.prog 68 [intsA l] 3 1 false (l.map intA) := by
  refine VCo_of Tryz.func68 rfl (by kernel_rfl) (by kernel_rfl) rfl Tryz.results68 (by decide) (ints_one l) fun M0 w0 => ?_
  simp only [Tryz.ntmps68, enumA]
  have hl2 : l.length ≤ 1000000000 := by omega
  repeat (first | (with_reducible first | refine vseq ?_ | refine vthenN ?_ | refine vthenE ?_ | refine vthenR ?_ | refine vret ?_ | refine vskip ?_ | refine vexit ?_ | refine vblock ?_ | refine vblockN ?_ | refine vblockR ?_ | refine vblockH ?_ | refine vrun_nil ?_ | refine vblockE rfl ?_ | refine vregion [3] ?_ | refine vhrun_nil ?_) | ((with_reducible refine vcondT ?_ ?_); (focus (go_simp; done))) | ((with_reducible refine vcondF ?_ ?_); (focus (go_simp; done))) | ((with_reducible first | refine vrun_cons fun KK hKK => ?_ | refine vhrun_cons fun KK hKK => ?_); go_simp; refine hKK _ ?_; clear hKK KK))
  exact ⟨0, rfl, rfl⟩
theorem v_CopyCover (x y : List Int) (hx : x.length ≤ 1000000) (hy : y.length ≤ 1000000) : VC Tryz.prog 21 [coverA x y] (coverA x y) := by
  have h1 := VC_of_own (o_CopyInts x hx)
  have h2 := VC_of_own (o_CopyInts y hy)
  refine VC_of Tryz.func21 rfl (by kernel_rfl) (by kernel_rfl) rfl fun M0 w0 => ?_
  simp only [Tryz.ntmps21, Tryz.results21, enumA]
  repeat' (first | (with_reducible first | refine vseq ?_ | refine vthenN ?_ | refine vthenE ?_ | refine vthenR ?_ | refine vret ?_ | refine vskip ?_ | refine vexit ?_ | refine vblock ?_ | refine vblockN ?_ | refine vblockR ?_ | refine vblockH ?_ | refine vrun_nil ?_ | refine vblockE rfl ?_ | refine vregion [] ?_ | refine vhrun_nil ?_) | ((with_reducible refine vcondT ?_ ?_); (focus (go_simp; done))) | ((with_reducible refine vcondF ?_ ?_); (focus (go_simp; done))) | ((with_reducible first | refine vrun_cons fun KK hKK => ?_ | refine vhrun_cons fun KK hKK => ?_); go_simp; (first | (with_reducible refine ⟨_, h1, ?_⟩) | (with_reducible refine ⟨_, h2, ?_⟩) | skip); refine hKK _ ?_; clear hKK KK) | ((refine vdrawL 8 7 [] rfl (by kernel_rfl) (by kernel_rfl) ?_); simp only [List.take, List.drop]) | ((with_reducible refine vcondS ?_ (fun ht => ?_) (fun ht => ?_)); (focus (go_simp; done)); (all_goals (simp [go_sem] at ht; replace ht := ht.out))))
  go_simp
/-! ### Pairs -/
def sameP (l : List (Int × Int)) (q : Int × Int) (j : Nat) : Bool := decide ((pat l j).2 = q.2)
theorem c_pairSame (q r : Int × Int) : VC Tryz.prog 64 [.agg (pairAV r), .vp (pairAV q)] (B (decide (r.2 = q.2))) := by
  refine VC_of Tryz.func64 rfl (by kernel_rfl) (by kernel_rfl) rfl fun M0 w0 => ?_
  simp only [Tryz.ntmps64, Tryz.results64, enumA]
  repeat' (first | (with_reducible first | refine vseq ?_ | refine vthenN ?_ | refine vthenE ?_ | refine vthenR ?_ | refine vret ?_ | refine vskip ?_ | refine vexit ?_ | refine vblock ?_ | refine vblockN ?_ | refine vblockR ?_ | refine vblockH ?_ | refine vrun_nil ?_ | refine vblockE rfl ?_ | refine vregion [] ?_ | refine vhrun_nil ?_) | ((with_reducible refine vcondT ?_ ?_); (focus (go_simp; done))) | ((with_reducible refine vcondF ?_ ?_); (focus (go_simp; done))) | ((with_reducible first | refine vrun_cons fun KK hKK => ?_ | refine vhrun_cons fun KK hKK => ?_); go_simp; refine hKK _ ?_; clear hKK KK) | ((with_reducible refine vcondS ?_ (fun ht => ?_) (fun ht => ?_)); (focus (go_simp; done)); (all_goals (simp [go_sem] at ht; replace ht := ht.out))))
  go_simp
theorem p_pairIndex (l : List (Int × Int)) (q : Int × Int) (hl : l.length ≤ 1000000) : VC Tryz.prog 113 [pairsA l, .fn (.func 64) [] [.vp (pairAV q)]] (I (ixP (sameP l q) 0 l.length)) := by
  obtain ⟨R, hR⟩ : ∃ R, ixP (sameP l q) 0 l.length = R := ⟨_, rfl⟩
  rw [hR]
  have HR := Lib.hid hR
  clear hR
  refine VC_of Tryz.func113 rfl (by kernel_rfl) (by kernel_rfl) rfl fun M0 w0 => ?_
  simp only [Tryz.ntmps113, Tryz.results113, enumA]
  repeat' (first | (with_reducible first | refine vseq ?_ | refine vthenN ?_ | refine vthenE ?_ | refine vthenR ?_ | refine vret ?_ | refine vskip ?_ | refine vexit ?_ | refine vblock ?_ | refine vblockN ?_ | refine vblockR ?_ | refine vblockH ?_ | refine vrun_nil ?_ | refine vblockE rfl ?_ | refine vregion [] ?_ | refine vhrun_nil ?_) | ((with_reducible refine vcondT ?_ ?_); (focus (go_simp; done))) | ((with_reducible refine vcondF ?_ ?_); (focus (go_simp; done))) | ((with_reducible first | refine vrun_cons fun KK hKK => ?_ | refine vhrun_cons fun KK hKK => ?_); go_simp; refine hKK _ ?_; clear hKK KK) | ((with_reducible refine vcondS ?_ (fun ht => ?_) (fun ht => ?_)); (focus (go_simp; done)); (all_goals (simp [go_sem] at ht; replace ht := ht.out))))
  apply vfor [0, 1, 7] (fun k => [(8, I k)]) (fun k => ([] : Hp)) (sameP l q) (l.length)
  · go_simp <;> exact rfl
  · go_simp
  · intro k hk HB HP K hK
    obtain ⟨w1, w2, w3, w4, w5, w6⟩ := ixs (m := k) (by omega)
    have g := c_pairSame q l[k]
    have hp : decide (l[k].2 = q.2) = false := by
      have := HP.out
      rwa [sameP, pat_get hk] at this
    rw [hp] at g
    clear hp
    repeat' (first | (with_reducible first | refine vseq ?_ | refine vthenN ?_ | refine vthenE ?_ | refine vthenR ?_ | refine vret ?_ | refine vskip ?_ | refine vexit ?_ | refine vblock ?_ | refine vblockN ?_ | refine vblockR ?_ | refine vblockH ?_ | refine vrun_nil ?_ | refine vblockE rfl ?_ | refine vregion [] ?_ | refine vhrun_nil ?_) | ((with_reducible refine vcondT ?_ ?_); (focus (go_simp; done))) | ((with_reducible refine vcondF ?_ ?_); (focus (go_simp; done))) | ((with_reducible first | refine vrun_cons fun KK hKK => ?_ | refine vhrun_cons fun KK hKK => ?_); go_simp; (first | (refine ⟨_, g, ?_⟩) | skip); refine hKK _ ?_; clear hKK KK) | ((with_reducible refine vcondS ?_ (fun ht => ?_) (fun ht => ?_)); (focus (go_simp; done)); (all_goals (simp [go_sem] at ht; replace ht := ht.out))))
    refine hK _ ?_
    go_simp
  · intro k hk HB HP K
    have g := c_pairSame q l[k]
    have hp : decide (l[k].2 = q.2) = true := by
      have := HP.out
      rwa [sameP, pat_get hk] at this
    rw [hp] at g
    clear hp
    have e := HR.out
    rw [ixP_hit hk HB.out HP.out] at e
    subst e
    repeat' (first | (with_reducible first | refine vseq ?_ | refine vthenN ?_ | refine vthenE ?_ | refine vthenR ?_ | refine vret ?_ | refine vskip ?_ | refine vexit ?_ | refine vblock ?_ | refine vblockN ?_ | refine vblockR ?_ | refine vblockH ?_ | refine vrun_nil ?_ | refine vblockE rfl ?_ | refine vregion [] ?_ | refine vhrun_nil ?_) | ((with_reducible refine vcondT ?_ ?_); (focus (go_simp; done))) | ((with_reducible refine vcondF ?_ ?_); (focus (go_simp; done))) | ((with_reducible first | refine vrun_cons fun KK hKK => ?_ | refine vhrun_cons fun KK hKK => ?_); go_simp; (first | (refine ⟨_, g, ?_⟩) | skip); refine hKK _ ?_; clear hKK KK) | ((with_reducible refine vcondS ?_ (fun ht => ?_) (fun ht => ?_)); (focus (go_simp; done)); (all_goals (simp [go_sem] at ht; replace ht := ht.out))))
    go_simp
  · intro HB K
    have e := HR.out
    rw [ixP_out HB.out] at e
    subst e
    repeat (first | (with_reducible first | refine vseq ?_ | refine vthenN ?_ | refine vthenE ?_ | refine vthenR ?_ | refine vret ?_ | refine vskip ?_ | refine vexit ?_ | refine vblock ?_ | refine vblockN ?_ | refine vblockR ?_ | refine vblockH ?_ | refine vrun_nil ?_ | refine vblockE rfl ?_ | refine vregion [] ?_ | refine vhrun_nil ?_) | ((with_reducible refine vcondT ?_ ?_); (focus (go_simp; done))) | ((with_reducible refine vcondF ?_ ?_); (focus (go_simp; done))) | ((with_reducible first | refine vrun_cons fun KK hKK => ?_ | refine vhrun_cons fun KK hKK => ?_); go_simp; refine hKK _ ?_; clear hKK KK))
    go_simp
theorem p_pairContains (l : List (Int × Int)) (q : Int × Int) (hl : l.length ≤ 1000000) : VC Tryz.prog 63 [pairsA l, .fn (.func 64) [] [.vp (pairAV q)]] (B (anyP (sameP l q) 0 l.length)) := by
  have h1 := p_pairIndex l q hl
  have h2 := ixP_any (p := sameP l q) l.length 0
  generalize ixP (sameP l q) 0 l.length = E at *
  generalize anyP (sameP l q) 0 l.length = F at *
  refine VC_of Tryz.func63 rfl (by kernel_rfl) (by kernel_rfl) rfl fun M0 w0 => ?_
  simp only [Tryz.ntmps63, Tryz.results63, enumA]
  repeat' (first | (with_reducible first | refine vseq ?_ | refine vthenN ?_ | refine vthenE ?_ | refine vthenR ?_ | refine vret ?_ | refine vskip ?_ | refine vexit ?_ | refine vblock ?_ | refine vblockN ?_ | refine vblockR ?_ | refine vblockH ?_ | refine vrun_nil ?_ | refine vblockE rfl ?_ | refine vregion [] ?_ | refine vhrun_nil ?_) | ((with_reducible refine vcondT ?_ ?_); (focus (go_simp; done))) | ((with_reducible refine vcondF ?_ ?_); (focus (go_simp; done))) | ((with_reducible first | refine vrun_cons fun KK hKK => ?_ | refine vhrun_cons fun KK hKK => ?_); go_simp; (first | (refine ⟨_, h1, ?_⟩) | skip); refine hKK _ ?_; clear hKK KK) | ((with_reducible refine vcondS ?_ (fun ht => ?_) (fun ht => ?_)); (focus (go_simp; done)); (all_goals (simp [go_sem] at ht; replace ht := ht.out))))
  go_simp
theorem sameP_take {l : List (Int × Int)} {k : Nat} (hk : k < l.length) : anyP (sameP (l.take k) l[k]) 0 (l.take k).length = anyP (fun j => decide ((pat l j).2 = (pat l k).2)) 0 k := by
  rw [take_len (by omega)]
  refine anyP_congr fun j hj => ?_
  have h1 : pat (l.take k) j = pat l j := by simp only [pat, List.getD]; rw [List.getElem?_take_of_lt hj]
  rw [pat_get hk, sameP, h1]
theorem w_true {n : Int} {m : Nat} (h : inR n 0 ((m : Int) - 1) = true) : ∃ a : Nat, n = a ∧ a < m := by
  obtain ⟨h1, h2⟩ := inR_iff.1 h
  exact ⟨n.toNat, by omega, by omega⟩
theorem pair_cases {l c : List Item} {ps : List (Int × Int)} {k : Nat} (h : pairE l c ps k ≠ 0) :
    (pairE l c ps k = 6 ∧ (inR (pat ps k).1 0 ((l.length : Int) - 1) && inR (pat ps k).2 0 ((c.length : Int) - 1)) = false) ∨
    (inR (pat ps k).1 0 ((l.length : Int) - 1) = true ∧ inR (pat ps k).2 0 ((c.length : Int) - 1) = true ∧
      ((pairE l c ps k = 9 ∧ 0 < k ∧ (pat ps k).1 ≤ (pat ps (k - 1)).1) ∨ (¬ (0 < k ∧ (pat ps k).1 ≤ (pat ps (k - 1)).1) ∧
        ((pairE l c ps k = 26 ∧ anyP (fun j => decide ((pat ps j).2 = (pat ps k).2)) 0 k = true) ∨ (pairE l c ps k = 13 ∧ anyP (fun j => decide ((pat ps j).2 = (pat ps k).2)) 0 k = false ∧ canBe (xat l (pat ps k).1.toNat) (xat c (pat ps k).2.toNat) = false))))) := by
  unfold pairE at h ⊢
  split
  · rename_i h1
    exact .inl ⟨rfl, h1⟩
  · rename_i h1
    rw [if_neg h1] at h
    rw [Bool.not_eq_false, Bool.and_eq_true] at h1
    refine .inr ⟨h1.1, h1.2, ?_⟩
    split
    · rename_i h2
      exact .inl ⟨rfl, h2⟩
    · rename_i h2
      rw [if_neg h2] at h
      refine .inr ⟨h2, ?_⟩
      split
      · rename_i h3
        exact .inl ⟨rfl, h3⟩
      · rename_i h3
        rw [if_neg h3] at h
        split
        · rename_i h4
          exact .inr ⟨rfl, by simpa using h3, h4⟩
        · rename_i h4
          rw [if_neg h4] at h
          exact absurd rfl h
structure Both (l c : List Item) : Prop where
  lfew : l.length ≤ 12
  cfew : c.length ≤ 12
  marks : ∀ k, k < l.length → (xat l k).marks.length ≤ 1000 ∧ Keys (xat l k).marks
  cmarks : ∀ k, k < c.length → (xat c k).marks.length ≤ 1000 ∧ 0 ≤ (xat c k).day ∧ (xat c k).day ≤ 100000
theorem both_of {l c : List Item} (hx : SmallX l) (hc : SmallX c) (h1 : itemsErr l = 0) (h2 : itemsErr c = 0) : Both l c := by
  obtain ⟨a1, a2⟩ := items_zero h1
  obtain ⟨b1, b2⟩ := items_zero h2
  refine ⟨a1, b1, fun k hk => ⟨?_, keys_of (thing_parts (a2 k hk).1).2.2.2.2⟩, fun k hk => ⟨?_, ?_⟩⟩
  · rw [xat_get hk]; exact (hx.each _ (List.getElem_mem hk)).few
  · rw [xat_get hk]; exact (hc.each _ (List.getElem_mem hk)).few
  · have := thing_parts (b2 k hk).1
    exact ⟨this.2.2.1, this.2.2.2.1⟩
theorem Both.rights {l c : List Item} (h : Both l c) {k : Nat} (hk : k < c.length) : Rights l (xat c k) := ⟨by have := h.lfew; omega, h.marks, (h.cmarks k hk).1, (h.cmarks k hk).2⟩
theorem p_CheckPairs (l c : List Item) (ps : List (Int × Int)) (hx : SmallX l) (hc : SmallX c) (hp : ps.length ≤ 1000) : VC Tryz.prog 18 [itemsA l, itemsA c, pairsA ps] (.tup [I (pairsN l c ps), I (pairsE l c ps)]) := by
  have h1 := p_itemsErr l hx
  have h2 := p_claimsErr c hc
  by_cases hH : pairsHead l c ps = 0
  · have z1 : itemsErr l = 0 := fst_zero hH _ (by simp)
    have z2 : itemsErr c = 0 := fst_zero hH _ (by simp)
    have z3 : decide ((ps.length : Int) ≤ 12) = true := unl_zero (fst_zero hH (unl (decide ((ps.length : Int) ≤ 12)) 8) (by simp)) (by decide)
    have h12 : (ps.length : Int) ≤ 12 := by simpa using z3
    have BB := both_of hx hc z1 z2
    have hB1 := BB.lfew
    have hB2 := BB.cfew
    have HB0 := Lib.hid BB
    obtain ⟨R, hR⟩ : ∃ R, (firstErr (pairE l c ps) 0 ps.length).2 = R := ⟨_, rfl⟩
    have hE : pairsE l c ps = R := by unfold pairsE; rw [if_neg (by simpa using hH)]; exact hR
    unfold pairsN
    rw [hE]
    have HR := Lib.hid hR
    rw [z1] at h1
    rw [z2] at h2
    have u1 := wrap_eq (x := (l.length : Int) - 1) (by omega) (by omega)
    have u2 := wrap_eq (x := (c.length : Int) - 1) (by omega) (by omega)
    clear z1 z2 z3 hH hE hR BB hx hc
    refine VC_of Tryz.func18 rfl (by kernel_rfl) (by kernel_rfl) rfl fun M0 w0 => ?_
    simp only [Tryz.ntmps18, Tryz.results18, enumA]
    repeat' (first | (with_reducible first | refine vseq ?_ | refine vthenN ?_ | refine vthenE ?_ | refine vthenR ?_ | refine vret ?_ | refine vskip ?_ | refine vexit ?_ | refine vblock ?_ | refine vblockN ?_ | refine vblockR ?_ | refine vblockH ?_ | refine vrun_nil ?_ | refine vblockE rfl ?_ | refine vregion [] ?_ | refine vhrun_nil ?_) | ((with_reducible refine vcondT ?_ ?_); (focus (go_simp; done))) | ((with_reducible refine vcondF ?_ ?_); (focus (go_simp; done))) | ((with_reducible first | refine vrun_cons fun KK hKK => ?_ | refine vhrun_cons fun KK hKK => ?_); go_simp; (first | (with_reducible refine ⟨_, h1, ?_⟩) | (with_reducible refine ⟨_, h2, ?_⟩) | (with_reducible refine ⟨_, p_unless _ _, ?_⟩) | (refine ⟨_, p_firstA _ rfl rfl, ?_⟩) | skip); refine hKK _ ?_; clear hKK KK) | ((refine vdrawL 14 14 [] rfl (by kernel_rfl) (by kernel_rfl) ?_); simp only [List.append, List.take, List.drop]) | ((with_reducible refine vcondS ?_ (fun ht => ?_) (fun ht => ?_)); (focus (go_simp; done)); (all_goals (simp [go_sem] at ht; replace ht := ht.out))) | ((apply vrun_consG0 rfl); (focus (go_simp <;> exact rfl)); (focus (go_simp; done)); (focus (intro hb0; replace hb0 := hb0.out; go_simp <;> (first | exact rfl | exact h1 | exact h2 | exact p_unless _ _ | exact p_firstA _ rfl rfl | exact ⟨h1, rfl⟩ | exact ⟨h2, rfl⟩ | exact ⟨p_unless _ _, rfl⟩ | exact ⟨p_firstA _ rfl rfl, rfl⟩))); intro KK hKK; go_simp; refine hKK _ ?_; clear hKK KK) | ((apply vhrun_consG0 rfl); (focus (go_simp <;> exact rfl)); (focus (intro hb0; replace hb0 := hb0.out; go_simp <;> (first | exact rfl | exact h1 | exact h2 | exact p_unless _ _ | exact p_firstA _ rfl rfl | exact ⟨h1, rfl⟩ | exact ⟨h2, rfl⟩ | exact ⟨p_unless _ _, rfl⟩ | exact ⟨p_firstA _ rfl rfl, rfl⟩))); intro KK hKK; go_simp; refine hKK _ ?_; clear hKK KK))
    apply vfor [0, 1, 2, 24, 25] (fun k => [(26, I k)]) (fun k => ([] : Hp)) (bad (pairE l c ps)) (ps.length)
    · go_simp <;> exact rfl
    · go_simp
    · intro k hk HB HP K hK
      obtain ⟨w1, w2, w3, w4, w5, w6⟩ := ixs (m := k) (by omega)
      obtain ⟨⟨b1, b2, b3, b4⟩, b5, b6, b7⟩ := pairE_zero (bad_no HP.out)
      have g3 := p_pairContains (ps.take k) ps[k] (by rw [take_len (by omega)]; omega)
      rw [sameP_take hk, pairsA, List.map_take] at g3
      have hany : anyP (fun j => decide ((pat ps j).2 = (pat ps k).2)) 0 k = false := by
        cases hc : anyP (fun j => decide ((pat ps j).2 = (pat ps k).2)) 0 k
        · rfl
        · obtain ⟨j, _, j2, j3⟩ := anyP_iff.1 hc
          exact absurd (by simpa using j3) (b6 j (by omega))
      rw [hany] at g3
      obtain ⟨a, ha⟩ : ∃ a : Nat, (pat ps k).1 = a := ⟨(pat ps k).1.toNat, by omega⟩
      obtain ⟨b, hb⟩ : ∃ b : Nat, (pat ps k).2 = b := ⟨(pat ps k).2.toNat, by omega⟩
      rw [ha] at b1 b2 b5 b7
      rw [hb] at b3 b4 b7
      rw [Int.toNat_natCast, Int.toNat_natCast] at b7
      have hal : a < l.length := by omega
      have hbl : b < c.length := by omega
      rw [xat_get hal, xat_get hbl] at b7
      have q1 := HB0.out.marks a hal
      have q2 := HB0.out.cmarks b hbl
      rw [xat_get hal] at q1
      rw [xat_get hbl] at q2
      have g4 := p_canBe l[a] c[b] q1.1 q2.1 q2.2
      rw [b7] at g4
      have g1 := p_within (a : Int) 0 ((l.length : Int) - 1)
      have g2 := p_within (b : Int) 0 ((c.length : Int) - 1)
      rw [inR_iff.2 (by omega)] at g1 g2
      rw [pat_get hk] at ha hb
      have ia : (a : Int) < l.length := by omega
      have ib : (b : Int) < c.length := by omega
      have hpv : pairAV ps[k] = [I a, I b] := by simp only [pairAV, ha, hb]
      rw [hpv] at g3
      have G3 := Lib.hid g3
      clear g3 hany b6 b7 q1 q2
      rcases k with _ | m
      · clear b5
        repeat' (first | (with_reducible first | refine vseq ?_ | refine vthenN ?_ | refine vthenE ?_ | refine vthenR ?_ | refine vret ?_ | refine vskip ?_ | refine vexit ?_ | refine vblock ?_ | refine vblockN ?_ | refine vblockR ?_ | refine vblockH ?_ | refine vrun_nil ?_ | refine vblockE rfl ?_ | refine vregion [] ?_ | refine vhrun_nil ?_) | ((with_reducible refine vcondT ?_ ?_); (focus (go_simp; done))) | ((with_reducible refine vcondF ?_ ?_); (focus (go_simp; done))) | ((with_reducible first | refine vrun_cons fun KK hKK => ?_ | refine vhrun_cons fun KK hKK => ?_); go_simp; (first | (with_reducible refine ⟨_, g1, ?_⟩) | (with_reducible refine ⟨_, g2, ?_⟩) | (refine ⟨_, ⟨G3.out, rfl⟩, ?_⟩) | (with_reducible refine ⟨_, g4, ?_⟩) | skip); refine hKK _ ?_; clear hKK KK) | ((refine vdrawL 14 14 [] rfl (by kernel_rfl) (by kernel_rfl) ?_); simp only [List.take, List.drop]) | ((with_reducible refine vcondS ?_ (fun ht => ?_) (fun ht => ?_)); (focus (go_simp; done)); (all_goals (simp [go_sem] at ht; replace ht := ht.out))) | ((apply vrun_consG0 rfl); (focus (go_simp <;> exact rfl)); (focus (go_simp; done)); (focus (intro hb0; replace hb0 := hb0.out; go_simp <;> (first | exact rfl | exact g1 | exact g2 | exact G3.out | exact g4 | exact ⟨g1, rfl⟩ | exact ⟨g2, rfl⟩ | exact ⟨G3.out, rfl⟩ | exact ⟨g4, rfl⟩))); intro KK hKK; go_simp; refine hKK _ ?_; clear hKK KK) | ((apply vhrun_consG0 rfl); (focus (go_simp <;> exact rfl)); (focus (intro hb0; replace hb0 := hb0.out; go_simp <;> (first | exact rfl | exact g1 | exact g2 | exact G3.out | exact g4 | exact ⟨g1, rfl⟩ | exact ⟨g2, rfl⟩ | exact ⟨G3.out, rfl⟩ | exact ⟨g4, rfl⟩))); intro KK hKK; go_simp; refine hKK _ ?_; clear hKK KK))
        refine hK _ ?_
        go_simp
      · have hm : m < ps.length := by omega
        have hki : (m : Int) + 1 < ps.length := by omega
        have hkj : (m : Int) + 1 ≤ ps.length := by omega
        have hkl : m + 1 ≤ ps.length := by omega
        obtain ⟨v1, v2, v3, v4, v5, v6⟩ := ixs (m := m) (by omega)
        have hle := b5 (by omega)
        rw [Nat.add_sub_cancel, pat_get hm] at hle
        have hlt : ¬ (a : Int) ≤ ps[m].1 := by omega
        clear b5 hle
        repeat' (first | (with_reducible first | refine vseq ?_ | refine vthenN ?_ | refine vthenE ?_ | refine vthenR ?_ | refine vret ?_ | refine vskip ?_ | refine vexit ?_ | refine vblock ?_ | refine vblockN ?_ | refine vblockR ?_ | refine vblockH ?_ | refine vrun_nil ?_ | refine vblockE rfl ?_ | refine vregion [] ?_ | refine vhrun_nil ?_) | ((with_reducible refine vcondT ?_ ?_); (focus (go_simp; done))) | ((with_reducible refine vcondF ?_ ?_); (focus (go_simp; done))) | ((with_reducible first | refine vrun_cons fun KK hKK => ?_ | refine vhrun_cons fun KK hKK => ?_); go_simp; (first | (with_reducible refine ⟨_, g1, ?_⟩) | (with_reducible refine ⟨_, g2, ?_⟩) | (refine ⟨_, ⟨G3.out, rfl⟩, ?_⟩) | (with_reducible refine ⟨_, g4, ?_⟩) | skip); refine hKK _ ?_; clear hKK KK) | ((refine vdrawL 14 14 [] rfl (by kernel_rfl) (by kernel_rfl) ?_); simp only [List.take, List.drop]) | ((with_reducible refine vcondS ?_ (fun ht => ?_) (fun ht => ?_)); (focus (go_simp; done)); (all_goals (simp [go_sem] at ht; replace ht := ht.out))) | ((apply vrun_consG0 rfl); (focus (go_simp <;> exact rfl)); (focus (go_simp; done)); (focus (intro hb0; replace hb0 := hb0.out; go_simp <;> (first | exact rfl | exact g1 | exact g2 | exact G3.out | exact g4 | exact ⟨g1, rfl⟩ | exact ⟨g2, rfl⟩ | exact ⟨G3.out, rfl⟩ | exact ⟨g4, rfl⟩))); intro KK hKK; go_simp; refine hKK _ ?_; clear hKK KK) | ((apply vhrun_consG0 rfl); (focus (go_simp <;> exact rfl)); (focus (intro hb0; replace hb0 := hb0.out; go_simp <;> (first | exact rfl | exact g1 | exact g2 | exact G3.out | exact g4 | exact ⟨g1, rfl⟩ | exact ⟨g2, rfl⟩ | exact ⟨G3.out, rfl⟩ | exact ⟨g4, rfl⟩))); intro KK hKK; go_simp; refine hKK _ ?_; clear hKK KK))
        refine hK _ ?_
        go_simp
    · intro k hk HB HP K
      obtain ⟨w1, w2, w3, w4, w5, w6⟩ := ixs (m := k) (by omega)
      have e := HR.out
      rw [firstErr_hit hk HB.out HP.out] at e
      simp only at e
      have hne : ¬ R = 0 := by rw [← e]; exact bad_yes HP.out
      have hcs := pair_cases (bad_yes HP.out)
      rw [e, pat_get hk] at hcs
      rcases hcs with ⟨rfl, hf⟩ | ⟨i1, i2, hcs⟩
      · cases c1 : inR ps[k].1 0 ((l.length : Int) - 1)
        · have g1 := p_within ps[k].1 0 ((l.length : Int) - 1)
          rw [c1] at g1
          clear hf c1
          repeat' (first | (with_reducible first | refine vseq ?_ | refine vthenN ?_ | refine vthenE ?_ | refine vthenR ?_ | refine vret ?_ | refine vskip ?_ | refine vexit ?_ | refine vblock ?_ | refine vblockN ?_ | refine vblockR ?_ | refine vblockH ?_ | refine vrun_nil ?_ | refine vblockE rfl ?_ | refine vregion [] ?_ | refine vhrun_nil ?_) | ((with_reducible refine vcondT ?_ ?_); (focus (go_simp; done))) | ((with_reducible refine vcondF ?_ ?_); (focus (go_simp; done))) | ((with_reducible first | refine vrun_cons fun KK hKK => ?_ | refine vhrun_cons fun KK hKK => ?_); go_simp; (first | (with_reducible refine ⟨_, g1, ?_⟩) | skip); refine hKK _ ?_; clear hKK KK) | ((refine vdrawL 14 14 [] rfl (by kernel_rfl) (by kernel_rfl) ?_); simp only [List.append, List.take, List.drop]) | ((with_reducible refine vcondS ?_ (fun ht => ?_) (fun ht => ?_)); (focus (go_simp; done)); (all_goals (simp [go_sem] at ht; replace ht := ht.out))) | ((apply vrun_consG0 rfl); (focus (go_simp <;> exact rfl)); (focus (go_simp; done)); (focus (intro hb0; replace hb0 := hb0.out; go_simp <;> (first | exact rfl | exact g1 | exact ⟨g1, rfl⟩))); intro KK hKK; go_simp; refine hKK _ ?_; clear hKK KK) | ((apply vhrun_consG0 rfl); (focus (go_simp <;> exact rfl)); (focus (intro hb0; replace hb0 := hb0.out; go_simp <;> (first | exact rfl | exact g1 | exact ⟨g1, rfl⟩))); intro KK hKK; go_simp; refine hKK _ ?_; clear hKK KK))
          go_simp
        · rw [c1, Bool.true_and] at hf
          have g1 := p_within ps[k].1 0 ((l.length : Int) - 1)
          have g2 := p_within ps[k].2 0 ((c.length : Int) - 1)
          rw [c1] at g1
          rw [hf] at g2
          clear hf c1
          repeat' (first | (with_reducible first | refine vseq ?_ | refine vthenN ?_ | refine vthenE ?_ | refine vthenR ?_ | refine vret ?_ | refine vskip ?_ | refine vexit ?_ | refine vblock ?_ | refine vblockN ?_ | refine vblockR ?_ | refine vblockH ?_ | refine vrun_nil ?_ | refine vblockE rfl ?_ | refine vregion [] ?_ | refine vhrun_nil ?_) | ((with_reducible refine vcondT ?_ ?_); (focus (go_simp; done))) | ((with_reducible refine vcondF ?_ ?_); (focus (go_simp; done))) | ((with_reducible first | refine vrun_cons fun KK hKK => ?_ | refine vhrun_cons fun KK hKK => ?_); go_simp; (first | (with_reducible refine ⟨_, g1, ?_⟩) | (with_reducible refine ⟨_, g2, ?_⟩) | skip); refine hKK _ ?_; clear hKK KK) | ((refine vdrawL 14 14 [] rfl (by kernel_rfl) (by kernel_rfl) ?_); simp only [List.append, List.take, List.drop]) | ((with_reducible refine vcondS ?_ (fun ht => ?_) (fun ht => ?_)); (focus (go_simp; done)); (all_goals (simp [go_sem] at ht; replace ht := ht.out))) | ((apply vrun_consG0 rfl); (focus (go_simp <;> exact rfl)); (focus (go_simp; done)); (focus (intro hb0; replace hb0 := hb0.out; go_simp <;> (first | exact rfl | exact g1 | exact g2 | exact ⟨g1, rfl⟩ | exact ⟨g2, rfl⟩))); intro KK hKK; go_simp; refine hKK _ ?_; clear hKK KK) | ((apply vhrun_consG0 rfl); (focus (go_simp <;> exact rfl)); (focus (intro hb0; replace hb0 := hb0.out; go_simp <;> (first | exact rfl | exact g1 | exact g2 | exact ⟨g1, rfl⟩ | exact ⟨g2, rfl⟩))); intro KK hKK; go_simp; refine hKK _ ?_; clear hKK KK))
          go_simp
      · have g1 := p_within ps[k].1 0 ((l.length : Int) - 1)
        have g2 := p_within ps[k].2 0 ((c.length : Int) - 1)
        rw [i1] at g1
        rw [i2] at g2
        rcases hcs with ⟨rfl, h0, hle⟩ | ⟨hno, hcs⟩
        · rcases k with _ | m
          · omega
          · have hm : m < ps.length := by omega
            have hki : (m : Int) + 1 < ps.length := by omega
            have hkj : (m : Int) + 1 ≤ ps.length := by omega
            have hkl : m + 1 ≤ ps.length := by omega
            obtain ⟨v1, v2, v3, v4, v5, v6⟩ := ixs (m := m) (by omega)
            rw [Nat.add_sub_cancel, pat_get hm] at hle
            clear i1 i2
            repeat' (first | (with_reducible first | refine vseq ?_ | refine vthenN ?_ | refine vthenE ?_ | refine vthenR ?_ | refine vret ?_ | refine vskip ?_ | refine vexit ?_ | refine vblock ?_ | refine vblockN ?_ | refine vblockR ?_ | refine vblockH ?_ | refine vrun_nil ?_ | refine vblockE rfl ?_ | refine vregion [] ?_ | refine vhrun_nil ?_) | ((with_reducible refine vcondT ?_ ?_); (focus (go_simp; done))) | ((with_reducible refine vcondF ?_ ?_); (focus (go_simp; done))) | ((with_reducible first | refine vrun_cons fun KK hKK => ?_ | refine vhrun_cons fun KK hKK => ?_); go_simp; (first | (with_reducible refine ⟨_, g1, ?_⟩) | (with_reducible refine ⟨_, g2, ?_⟩) | skip); refine hKK _ ?_; clear hKK KK) | ((refine vdrawL 14 14 [] rfl (by kernel_rfl) (by kernel_rfl) ?_); simp only [List.take, List.drop]) | ((with_reducible refine vcondS ?_ (fun ht => ?_) (fun ht => ?_)); (focus (go_simp; done)); (all_goals (simp [go_sem] at ht; replace ht := ht.out))) | ((apply vrun_consG0 rfl); (focus (go_simp <;> exact rfl)); (focus (go_simp; done)); (focus (intro hb0; replace hb0 := hb0.out; go_simp <;> (first | exact rfl | exact g1 | exact g2 | exact ⟨g1, rfl⟩ | exact ⟨g2, rfl⟩))); intro KK hKK; go_simp; refine hKK _ ?_; clear hKK KK) | ((apply vhrun_consG0 rfl); (focus (go_simp <;> exact rfl)); (focus (intro hb0; replace hb0 := hb0.out; go_simp <;> (first | exact rfl | exact g1 | exact g2 | exact ⟨g1, rfl⟩ | exact ⟨g2, rfl⟩))); intro KK hKK; go_simp; refine hKK _ ?_; clear hKK KK))
            go_simp
        · have g3 := p_pairContains (ps.take k) ps[k] (by rw [take_len (by omega)]; omega)
          rw [sameP_take hk, pairsA, List.map_take, pat_get hk] at g3
          obtain ⟨a, ha, hal⟩ := w_true i1
          obtain ⟨b, hb, hbl⟩ := w_true i2
          rw [ha] at g1 hno
          rw [hb] at g2
          have ia : (a : Int) < l.length := by omega
          have ib : (b : Int) < c.length := by omega
          have hpv : pairAV ps[k] = [I a, I b] := by simp only [pairAV, ha, hb]
          rw [hpv] at g3
          rcases hcs with ⟨rfl, hany⟩ | ⟨rfl, hany, hcan⟩
          · rw [hany] at g3
            have G3 := Lib.hid g3
            clear g3 hany i1 i2 HP
            rcases k with _ | m
            · clear hno
              repeat' (first | (with_reducible first | refine vseq ?_ | refine vthenN ?_ | refine vthenE ?_ | refine vthenR ?_ | refine vret ?_ | refine vskip ?_ | refine vexit ?_ | refine vblock ?_ | refine vblockN ?_ | refine vblockR ?_ | refine vblockH ?_ | refine vrun_nil ?_ | refine vblockE rfl ?_ | refine vregion [] ?_ | refine vhrun_nil ?_) | ((with_reducible refine vcondT ?_ ?_); (focus (go_simp; done))) | ((with_reducible refine vcondF ?_ ?_); (focus (go_simp; done))) | ((with_reducible first | refine vrun_cons fun KK hKK => ?_ | refine vhrun_cons fun KK hKK => ?_); go_simp; (first | (with_reducible refine ⟨_, g1, ?_⟩) | (with_reducible refine ⟨_, g2, ?_⟩) | (refine ⟨_, ⟨G3.out, rfl⟩, ?_⟩) | skip); refine hKK _ ?_; clear hKK KK) | ((refine vdrawL 14 14 [] rfl (by kernel_rfl) (by kernel_rfl) ?_); simp only [List.take, List.drop]) | ((with_reducible refine vcondS ?_ (fun ht => ?_) (fun ht => ?_)); (focus (go_simp; done)); (all_goals (simp [go_sem] at ht; replace ht := ht.out))) | ((apply vrun_consG0 rfl); (focus (go_simp <;> exact rfl)); (focus (go_simp; done)); (focus (intro hb0; replace hb0 := hb0.out; go_simp <;> (first | exact rfl | exact g1 | exact g2 | exact G3.out | exact ⟨g1, rfl⟩ | exact ⟨g2, rfl⟩ | exact ⟨G3.out, rfl⟩))); intro KK hKK; go_simp; refine hKK _ ?_; clear hKK KK) | ((apply vhrun_consG0 rfl); (focus (go_simp <;> exact rfl)); (focus (intro hb0; replace hb0 := hb0.out; go_simp <;> (first | exact rfl | exact g1 | exact g2 | exact G3.out | exact ⟨g1, rfl⟩ | exact ⟨g2, rfl⟩ | exact ⟨G3.out, rfl⟩))); intro KK hKK; go_simp; refine hKK _ ?_; clear hKK KK))
              go_simp
            · have hm : m < ps.length := by omega
              have hki : (m : Int) + 1 < ps.length := by omega
              have hkj : (m : Int) + 1 ≤ ps.length := by omega
              have hkl : m + 1 ≤ ps.length := by omega
              obtain ⟨v1, v2, v3, v4, v5, v6⟩ := ixs (m := m) (by omega)
              rw [Nat.add_sub_cancel, pat_get hm] at hno
              have hlt : ¬ (a : Int) ≤ ps[m].1 := fun h => hno ⟨by omega, h⟩
              clear hno
              repeat' (first | (with_reducible first | refine vseq ?_ | refine vthenN ?_ | refine vthenE ?_ | refine vthenR ?_ | refine vret ?_ | refine vskip ?_ | refine vexit ?_ | refine vblock ?_ | refine vblockN ?_ | refine vblockR ?_ | refine vblockH ?_ | refine vrun_nil ?_ | refine vblockE rfl ?_ | refine vregion [] ?_ | refine vhrun_nil ?_) | ((with_reducible refine vcondT ?_ ?_); (focus (go_simp; done))) | ((with_reducible refine vcondF ?_ ?_); (focus (go_simp; done))) | ((with_reducible first | refine vrun_cons fun KK hKK => ?_ | refine vhrun_cons fun KK hKK => ?_); go_simp; (first | (with_reducible refine ⟨_, g1, ?_⟩) | (with_reducible refine ⟨_, g2, ?_⟩) | (refine ⟨_, ⟨G3.out, rfl⟩, ?_⟩) | skip); refine hKK _ ?_; clear hKK KK) | ((refine vdrawL 14 14 [] rfl (by kernel_rfl) (by kernel_rfl) ?_); simp only [List.take, List.drop]) | ((with_reducible refine vcondS ?_ (fun ht => ?_) (fun ht => ?_)); (focus (go_simp; done)); (all_goals (simp [go_sem] at ht; replace ht := ht.out))) | ((apply vrun_consG0 rfl); (focus (go_simp <;> exact rfl)); (focus (go_simp; done)); (focus (intro hb0; replace hb0 := hb0.out; go_simp <;> (first | exact rfl | exact g1 | exact g2 | exact G3.out | exact ⟨g1, rfl⟩ | exact ⟨g2, rfl⟩ | exact ⟨G3.out, rfl⟩))); intro KK hKK; go_simp; refine hKK _ ?_; clear hKK KK) | ((apply vhrun_consG0 rfl); (focus (go_simp <;> exact rfl)); (focus (intro hb0; replace hb0 := hb0.out; go_simp <;> (first | exact rfl | exact g1 | exact g2 | exact G3.out | exact ⟨g1, rfl⟩ | exact ⟨g2, rfl⟩ | exact ⟨G3.out, rfl⟩))); intro KK hKK; go_simp; refine hKK _ ?_; clear hKK KK))
              go_simp
          · rw [ha, hb, Int.toNat_natCast, Int.toNat_natCast, xat_get hal, xat_get hbl] at hcan
            have q1 := HB0.out.marks a hal
            have q2 := HB0.out.cmarks b hbl
            rw [xat_get hal] at q1
            rw [xat_get hbl] at q2
            have g4 := p_canBe l[a] c[b] q1.1 q2.1 q2.2
            rw [hcan] at g4
            rw [hany] at g3
            have G3 := Lib.hid g3
            clear g3 hany i1 i2 HP hcan q1 q2
            rcases k with _ | m
            · clear hno
              repeat' (first | (with_reducible first | refine vseq ?_ | refine vthenN ?_ | refine vthenE ?_ | refine vthenR ?_ | refine vret ?_ | refine vskip ?_ | refine vexit ?_ | refine vblock ?_ | refine vblockN ?_ | refine vblockR ?_ | refine vblockH ?_ | refine vrun_nil ?_ | refine vblockE rfl ?_ | refine vregion [] ?_ | refine vhrun_nil ?_) | ((with_reducible refine vcondT ?_ ?_); (focus (go_simp; done))) | ((with_reducible refine vcondF ?_ ?_); (focus (go_simp; done))) | ((with_reducible first | refine vrun_cons fun KK hKK => ?_ | refine vhrun_cons fun KK hKK => ?_); go_simp; (first | (with_reducible refine ⟨_, g1, ?_⟩) | (with_reducible refine ⟨_, g2, ?_⟩) | (refine ⟨_, ⟨G3.out, rfl⟩, ?_⟩) | (with_reducible refine ⟨_, g4, ?_⟩) | skip); refine hKK _ ?_; clear hKK KK) | ((refine vdrawL 14 14 [] rfl (by kernel_rfl) (by kernel_rfl) ?_); simp only [List.take, List.drop]) | ((with_reducible refine vcondS ?_ (fun ht => ?_) (fun ht => ?_)); (focus (go_simp; done)); (all_goals (simp [go_sem] at ht; replace ht := ht.out))) | ((apply vrun_consG0 rfl); (focus (go_simp <;> exact rfl)); (focus (go_simp; done)); (focus (intro hb0; replace hb0 := hb0.out; go_simp <;> (first | exact rfl | exact g1 | exact g2 | exact G3.out | exact g4 | exact ⟨g1, rfl⟩ | exact ⟨g2, rfl⟩ | exact ⟨G3.out, rfl⟩ | exact ⟨g4, rfl⟩))); intro KK hKK; go_simp; refine hKK _ ?_; clear hKK KK) | ((apply vhrun_consG0 rfl); (focus (go_simp <;> exact rfl)); (focus (intro hb0; replace hb0 := hb0.out; go_simp <;> (first | exact rfl | exact g1 | exact g2 | exact G3.out | exact g4 | exact ⟨g1, rfl⟩ | exact ⟨g2, rfl⟩ | exact ⟨G3.out, rfl⟩ | exact ⟨g4, rfl⟩))); intro KK hKK; go_simp; refine hKK _ ?_; clear hKK KK))
              go_simp
            · have hm : m < ps.length := by omega
              have hki : (m : Int) + 1 < ps.length := by omega
              have hkj : (m : Int) + 1 ≤ ps.length := by omega
              have hkl : m + 1 ≤ ps.length := by omega
              obtain ⟨v1, v2, v3, v4, v5, v6⟩ := ixs (m := m) (by omega)
              rw [Nat.add_sub_cancel, pat_get hm] at hno
              have hlt : ¬ (a : Int) ≤ ps[m].1 := fun h => hno ⟨by omega, h⟩
              clear hno
              repeat' (first | (with_reducible first | refine vseq ?_ | refine vthenN ?_ | refine vthenE ?_ | refine vthenR ?_ | refine vret ?_ | refine vskip ?_ | refine vexit ?_ | refine vblock ?_ | refine vblockN ?_ | refine vblockR ?_ | refine vblockH ?_ | refine vrun_nil ?_ | refine vblockE rfl ?_ | refine vregion [] ?_ | refine vhrun_nil ?_) | ((with_reducible refine vcondT ?_ ?_); (focus (go_simp; done))) | ((with_reducible refine vcondF ?_ ?_); (focus (go_simp; done))) | ((with_reducible first | refine vrun_cons fun KK hKK => ?_ | refine vhrun_cons fun KK hKK => ?_); go_simp; (first | (with_reducible refine ⟨_, g1, ?_⟩) | (with_reducible refine ⟨_, g2, ?_⟩) | (refine ⟨_, ⟨G3.out, rfl⟩, ?_⟩) | (with_reducible refine ⟨_, g4, ?_⟩) | skip); refine hKK _ ?_; clear hKK KK) | ((refine vdrawL 14 14 [] rfl (by kernel_rfl) (by kernel_rfl) ?_); simp only [List.take, List.drop]) | ((with_reducible refine vcondS ?_ (fun ht => ?_) (fun ht => ?_)); (focus (go_simp; done)); (all_goals (simp [go_sem] at ht; replace ht := ht.out))) | ((apply vrun_consG0 rfl); (focus (go_simp <;> exact rfl)); (focus (go_simp; done)); (focus (intro hb0; replace hb0 := hb0.out; go_simp <;> (first | exact rfl | exact g1 | exact g2 | exact G3.out | exact g4 | exact ⟨g1, rfl⟩ | exact ⟨g2, rfl⟩ | exact ⟨G3.out, rfl⟩ | exact ⟨g4, rfl⟩))); intro KK hKK; go_simp; refine hKK _ ?_; clear hKK KK) | ((apply vhrun_consG0 rfl); (focus (go_simp <;> exact rfl)); (focus (intro hb0; replace hb0 := hb0.out; go_simp <;> (first | exact rfl | exact g1 | exact g2 | exact G3.out | exact g4 | exact ⟨g1, rfl⟩ | exact ⟨g2, rfl⟩ | exact ⟨G3.out, rfl⟩ | exact ⟨g4, rfl⟩))); intro KK hKK; go_simp; refine hKK _ ?_; clear hKK KK))
              go_simp
    · intro HB K
      have e := HR.out
      rw [firstErr_out HB.out] at e
      subst e
      repeat' (first | (with_reducible first | refine vseq ?_ | refine vthenN ?_ | refine vthenE ?_ | refine vthenR ?_ | refine vret ?_ | refine vskip ?_ | refine vexit ?_ | refine vblock ?_ | refine vblockN ?_ | refine vblockR ?_ | refine vblockH ?_ | refine vrun_nil ?_ | refine vblockE rfl ?_ | refine vregion [] ?_ | refine vhrun_nil ?_) | ((with_reducible refine vcondT ?_ ?_); (focus (go_simp; done))) | ((with_reducible refine vcondF ?_ ?_); (focus (go_simp; done))) | ((with_reducible first | refine vrun_cons fun KK hKK => ?_ | refine vhrun_cons fun KK hKK => ?_); go_simp; refine hKK _ ?_; clear hKK KK) | ((refine vdrawL 14 14 [] rfl (by kernel_rfl) (by kernel_rfl) ?_); simp only [List.append, List.take, List.drop]) | ((with_reducible refine vcondS ?_ (fun ht => ?_) (fun ht => ?_)); (focus (go_simp; done)); (all_goals (simp [go_sem] at ht; replace ht := ht.out))) | ((apply vrun_consG0 rfl); (focus (go_simp <;> exact rfl)); (focus (go_simp; done)); (focus (intro hb0; replace hb0 := hb0.out; go_simp <;> (first | exact rfl))); intro KK hKK; go_simp; refine hKK _ ?_; clear hKK KK) | ((apply vhrun_consG0 rfl); (focus (go_simp <;> exact rfl)); (focus (intro hb0; replace hb0 := hb0.out; go_simp <;> (first | exact rfl))); intro KK hKK; go_simp; refine hKK _ ?_; clear hKK KK))
      go_simp
  · have hE : pairsE l c ps = pairsHead l c ps := by unfold pairsE; rw [if_pos hH]
    unfold pairsN
    rw [hE, if_neg hH]
    unfold pairsHead at *
    generalize itemsErr l = E1 at *
    generalize itemsErr c = E2 at *
    clear hx hc hE
    refine VC_of Tryz.func18 rfl (by kernel_rfl) (by kernel_rfl) rfl fun M0 w0 => ?_
    simp only [Tryz.ntmps18, Tryz.results18, enumA]
    repeat' (first | (with_reducible first | refine vseq ?_ | refine vthenN ?_ | refine vthenE ?_ | refine vthenR ?_ | refine vret ?_ | refine vskip ?_ | refine vexit ?_ | refine vblock ?_ | refine vblockN ?_ | refine vblockR ?_ | refine vblockH ?_ | refine vrun_nil ?_ | refine vblockE rfl ?_ | refine vregion [] ?_ | refine vhrun_nil ?_) | ((with_reducible refine vcondT ?_ ?_); (focus (go_simp; done))) | ((with_reducible refine vcondF ?_ ?_); (focus (go_simp; done))) | ((with_reducible first | refine vrun_cons fun KK hKK => ?_ | refine vhrun_cons fun KK hKK => ?_); go_simp; (first | (with_reducible refine ⟨_, h1, ?_⟩) | (with_reducible refine ⟨_, h2, ?_⟩) | (with_reducible refine ⟨_, p_unless _ _, ?_⟩) | (refine ⟨_, p_firstA _ rfl rfl, ?_⟩) | skip); refine hKK _ ?_; clear hKK KK) | ((refine vdrawL 14 14 [] rfl (by kernel_rfl) (by kernel_rfl) ?_); simp only [List.append, List.take, List.drop]) | ((with_reducible refine vcondS ?_ (fun ht => ?_) (fun ht => ?_)); (focus (go_simp; done)); (all_goals (simp [go_sem] at ht; replace ht := ht.out))) | ((apply vrun_consG0 rfl); (focus (go_simp <;> exact rfl)); (focus (go_simp; done)); (focus (intro hb0; replace hb0 := hb0.out; go_simp <;> (first | exact rfl | exact h1 | exact h2 | exact p_unless _ _ | exact p_firstA _ rfl rfl | exact ⟨h1, rfl⟩ | exact ⟨h2, rfl⟩ | exact ⟨p_unless _ _, rfl⟩ | exact ⟨p_firstA _ rfl rfl, rfl⟩))); intro KK hKK; go_simp; refine hKK _ ?_; clear hKK KK) | ((apply vhrun_consG0 rfl); (focus (go_simp <;> exact rfl)); (focus (intro hb0; replace hb0 := hb0.out; go_simp <;> (first | exact rfl | exact h1 | exact h2 | exact p_unless _ _ | exact p_firstA _ rfl rfl | exact ⟨h1, rfl⟩ | exact ⟨h2, rfl⟩ | exact ⟨p_unless _ _, rfl⟩ | exact ⟨p_firstA _ rfl rfl, rfl⟩))); intro KK hKK; go_simp; refine hKK _ ?_; clear hKK KK))
    go_simp
/-! ### Covers -/
theorem befI_next {l : List Int} {k : Nat} (hk : k < l.length) : befI l (k + 1) = l[k] := by
  unfold befI
  rw [if_neg (by omega), Nat.add_sub_cancel, iat_get hk]
@[go_sem] theorem befI_0 (l : List Int) : befI l 0 = -1 := rfl
theorem numE_at {l : List Int} {n : Int} {k : Nat} (hk : k < l.length) : numE n l k = fst [unl (inR l[k] 0 (n - 1)) 6, unl (decide (befI l k < l[k])) 9] := by
  unfold numE
  rw [iat_get hk]
theorem p_numbersErr (l : List Int) (n : Int) (hl : l.length ≤ 1000000) (hn : -1000000 ≤ n ∧ n ≤ 1000000) : VC Tryz.prog 66 [intsA l, I n] (I (numsE l n)) := by
  obtain ⟨R, hR⟩ : ∃ R, numsE l n = R := ⟨_, rfl⟩
  rw [hR]
  unfold numsE at hR
  have HR := Lib.hid hR
  clear hR
  have u1 := wrap_eq (x := n - 1) (by omega) (by omega)
  clear hn
  refine VC_of Tryz.func66 rfl (by kernel_rfl) (by kernel_rfl) rfl fun M0 w0 => ?_
  simp only [Tryz.ntmps66, Tryz.results66, enumA]
  repeat' (first | (with_reducible first | refine vseq ?_ | refine vthenN ?_ | refine vthenE ?_ | refine vthenR ?_ | refine vret ?_ | refine vskip ?_ | refine vexit ?_ | refine vblock ?_ | refine vblockN ?_ | refine vblockR ?_ | refine vblockH ?_ | refine vrun_nil ?_ | refine vblockE rfl ?_ | refine vregion [] ?_ | refine vhrun_nil ?_) | ((with_reducible refine vcondT ?_ ?_); (focus (go_simp; done))) | ((with_reducible refine vcondF ?_ ?_); (focus (go_simp; done))) | ((with_reducible first | refine vrun_cons fun KK hKK => ?_ | refine vhrun_cons fun KK hKK => ?_); go_simp; refine hKK _ ?_; clear hKK KK) | ((with_reducible refine vcondS ?_ (fun ht => ?_) (fun ht => ?_)); (focus (go_simp; done)); (all_goals (simp [go_sem] at ht; replace ht := ht.out))))
  apply vfor [1, 9, 10] (fun k => [(11, I k), (5, I (befI l k))]) (fun k => ([] : Hp)) (bad (numE n l)) (l.length)
  · go_simp <;> exact rfl
  · go_simp
  · intro k hk HB HP K hK
    obtain ⟨w1, w2, w3, w4, w5, w6⟩ := ixs (m := k) (by omega)
    have g1 := p_within l[k] 0 (n - 1)
    have g3 := p_first [unl (inR l[k] 0 (n - 1)) 6, unl (decide (befI l k < l[k])) 9] (by simp)
    rw [← numE_at hk, bad_no HP.out] at g3
    have HN := Lib.hid (befI_next hk)
    have G3 := Lib.hid g3
    clear g3
    repeat' (first | (with_reducible first | refine vseq ?_ | refine vthenN ?_ | refine vthenE ?_ | refine vthenR ?_ | refine vret ?_ | refine vskip ?_ | refine vexit ?_ | refine vblock ?_ | refine vblockN ?_ | refine vblockR ?_ | refine vblockH ?_ | refine vrun_nil ?_ | refine vblockE rfl ?_ | refine vregion [] ?_ | refine vhrun_nil ?_) | ((with_reducible refine vcondT ?_ ?_); (focus (go_simp; done))) | ((with_reducible refine vcondF ?_ ?_); (focus (go_simp; done))) | ((with_reducible first | refine vrun_cons fun KK hKK => ?_ | refine vhrun_cons fun KK hKK => ?_); go_simp; (first | (with_reducible refine ⟨_, g1, ?_⟩) | (with_reducible refine ⟨_, p_unless _ _, ?_⟩) | (refine ⟨_, G3.out, ?_⟩) | skip); refine hKK _ ?_; clear hKK KK) | ((with_reducible refine vcondS ?_ (fun ht => ?_) (fun ht => ?_)); (focus (go_simp; done)); (all_goals (simp [go_sem] at ht; replace ht := ht.out))))
    refine hK _ ?_
    rw [HN.out]
    go_simp
  · intro k hk HB HP K
    have g1 := p_within l[k] 0 (n - 1)
    have g3 := p_first [unl (inR l[k] 0 (n - 1)) 6, unl (decide (befI l k < l[k])) 9] (by simp)
    have e := HR.out
    rw [firstErr_hit hk HB.out HP.out] at e
    simp only at e
    have hne := bad_yes HP.out
    rw [← numE_at hk, e] at g3
    rw [e] at hne
    have G3 := Lib.hid g3
    clear g3 e
    repeat' (first | (with_reducible first | refine vseq ?_ | refine vthenN ?_ | refine vthenE ?_ | refine vthenR ?_ | refine vret ?_ | refine vskip ?_ | refine vexit ?_ | refine vblock ?_ | refine vblockN ?_ | refine vblockR ?_ | refine vblockH ?_ | refine vrun_nil ?_ | refine vblockE rfl ?_ | refine vregion [] ?_ | refine vhrun_nil ?_) | ((with_reducible refine vcondT ?_ ?_); (focus (go_simp; done))) | ((with_reducible refine vcondF ?_ ?_); (focus (go_simp; done))) | ((with_reducible first | refine vrun_cons fun KK hKK => ?_ | refine vhrun_cons fun KK hKK => ?_); go_simp; (first | (with_reducible refine ⟨_, g1, ?_⟩) | (with_reducible refine ⟨_, p_unless _ _, ?_⟩) | (refine ⟨_, G3.out, ?_⟩) | skip); refine hKK _ ?_; clear hKK KK) | ((with_reducible refine vcondS ?_ (fun ht => ?_) (fun ht => ?_)); (focus (go_simp; done)); (all_goals (simp [go_sem] at ht; replace ht := ht.out))))
    go_simp
  · intro HB K
    have e := HR.out
    rw [firstErr_out HB.out] at e
    subst e
    repeat' (first | (with_reducible first | refine vseq ?_ | refine vthenN ?_ | refine vthenE ?_ | refine vthenR ?_ | refine vret ?_ | refine vskip ?_ | refine vexit ?_ | refine vblock ?_ | refine vblockN ?_ | refine vblockR ?_ | refine vblockH ?_ | refine vrun_nil ?_ | refine vblockE rfl ?_ | refine vregion [] ?_ | refine vhrun_nil ?_) | ((with_reducible refine vcondT ?_ ?_); (focus (go_simp; done))) | ((with_reducible refine vcondF ?_ ?_); (focus (go_simp; done))) | ((with_reducible first | refine vrun_cons fun KK hKK => ?_ | refine vhrun_cons fun KK hKK => ?_); go_simp; refine hKK _ ?_; clear hKK KK) | ((with_reducible refine vcondS ?_ (fun ht => ?_) (fun ht => ?_)); (focus (go_simp; done)); (all_goals (simp [go_sem] at ht; replace ht := ht.out))))
    go_simp
theorem mem_numF (p : Nat → Bool) (x : Int) : ∀ n, x ∈ numF p n ↔ ∃ i : Nat, i < n ∧ p i = true ∧ x = i
  | 0 => by simp [numF]
  | n + 1 => by
    rw [numF_succ]
    have ih := mem_numF p x n
    constructor
    · intro h
      split at h
      · rename_i hp
        rcases List.mem_append.1 h with h | h
        · obtain ⟨i, h1, h2, h3⟩ := ih.1 h
          exact ⟨i, by omega, h2, h3⟩
        · exact ⟨n, by omega, hp, by simpa using h⟩
      · obtain ⟨i, h1, h2, h3⟩ := ih.1 h
        exact ⟨i, by omega, h2, h3⟩
    · rintro ⟨i, h1, h2, h3⟩
      by_cases hi : i = n
      · subst hi
        rw [if_pos h2]
        exact List.mem_append_right _ (by simp [h3])
      · have := ih.2 ⟨i, by omega, h2, h3⟩
        split
        · exact List.mem_append_left _ this
        · exact this
theorem open_any (l : List Item) (c : Item) (xi : List Int) : anyP (fun j => !hasI xi (iat (cands l c) j)) 0 (cands l c).length = anyP (fun i => canBe (xat l i) c && !hasI xi i) 0 l.length := by
  rw [Bool.eq_iff_iff, anyP_iff, anyP_iff]
  constructor
  · rintro ⟨j, _, h2, h3⟩
    have hj : j < (cands l c).length := by omega
    rw [iat_get hj] at h3
    obtain ⟨i, h4, h5, h6⟩ := (mem_numF _ _ _).1 (List.getElem_mem hj : (cands l c)[j] ∈ numF (fun k => canBe (xat l k) c) l.length)
    rw [h6] at h3
    exact ⟨i, Nat.zero_le _, by omega, by rw [h5, h3]; rfl⟩
  · rintro ⟨i, _, h2, h3⟩
    rw [Bool.and_eq_true] at h3
    have hm : (i : Int) ∈ cands l c := (mem_numF (fun k => canBe (xat l k) c) _ _).2 ⟨i, by omega, h3.1, rfl⟩
    obtain ⟨j, hj, he⟩ := List.getElem_of_mem hm
    exact ⟨j, Nat.zero_le _, by omega, by rw [iat_get hj, he]; exact h3.2⟩
theorem v_Has (l : List Int) (x : Int) (hl : l.length ≤ 1000000) : VC Tryz.prog 67 [intsA l, I x] (B (hasI l x)) := v_ContainsInt l x hl
theorem p_CheckCover (l c : List Item) (xi xc : List Int) (hx : SmallX l) (hc : SmallX c) (hi : xi.length ≤ 1000) (hj : xc.length ≤ 1000) : VC Tryz.prog 20 [itemsA l, itemsA c, coverA xi xc] (.tup [I (coverN l c xi xc), I (coverE l c xi xc)]) := by
  have h1 := p_itemsErr l hx
  have h2 := p_claimsErr c hc
  have h3 := p_numbersErr xi l.length (by omega) (by have := hx.few; omega)
  have h4 := p_numbersErr xc c.length (by omega) (by have := hc.few; omega)
  by_cases hH : coverHead l c xi xc = 0
  · have z1 : itemsErr l = 0 := fst_zero hH _ (by simp)
    have z2 : itemsErr c = 0 := fst_zero hH _ (by simp)
    have z3 : numsE xi l.length = 0 := fst_zero hH _ (by simp)
    have z4 : numsE xc c.length = 0 := fst_zero hH _ (by simp)
    have BB := both_of hx hc z1 z2
    have hB1 := BB.lfew
    have hB2 := BB.cfew
    have HB0 := Lib.hid BB
    obtain ⟨R, hR⟩ : ∃ R, anyP (openP l c xi xc) 0 c.length = R := ⟨_, rfl⟩
    have hE : coverE l c xi xc = if R = true then 20 else 0 := by unfold coverE; rw [if_neg (by simpa using hH), hR]
    unfold coverN
    rw [hE]
    have HR := Lib.hid hR
    rw [z1] at h1
    rw [z2] at h2
    rw [z3] at h3
    rw [z4] at h4
    have u1 := wrap_eq (x := (xi.length : Int) + xc.length) (by omega) (by omega)
    clear z1 z2 z3 z4 hH hE hR BB hx hc
    refine VC_of Tryz.func20 rfl (by kernel_rfl) (by kernel_rfl) rfl fun M0 w0 => ?_
    simp only [Tryz.ntmps20, Tryz.results20, enumA]
    repeat' (first | (with_reducible first | refine vseq ?_ | refine vthenN ?_ | refine vthenE ?_ | refine vthenR ?_ | refine vret ?_ | refine vskip ?_ | refine vexit ?_ | refine vblock ?_ | refine vblockN ?_ | refine vblockR ?_ | refine vblockH ?_ | refine vrun_nil ?_ | refine vblockE rfl ?_ | refine vregion [] ?_ | refine vhrun_nil ?_) | ((with_reducible refine vcondT ?_ ?_); (focus (go_simp; done))) | ((with_reducible refine vcondF ?_ ?_); (focus (go_simp; done))) | ((with_reducible first | refine vrun_cons fun KK hKK => ?_ | refine vhrun_cons fun KK hKK => ?_); go_simp; (first | (with_reducible refine ⟨_, h1, ?_⟩) | (with_reducible refine ⟨_, h2, ?_⟩) | (with_reducible refine ⟨_, h3, ?_⟩) | (with_reducible refine ⟨_, h4, ?_⟩) | (refine ⟨_, p_firstA _ rfl rfl, ?_⟩) | skip); refine hKK _ ?_; clear hKK KK) | ((refine vdrawL 17 17 [] rfl (by kernel_rfl) (by kernel_rfl) ?_); simp only [List.take, List.drop]) | ((with_reducible refine vcondS ?_ (fun ht => ?_) (fun ht => ?_)); (focus (go_simp; done)); (all_goals (simp [go_sem] at ht; replace ht := ht.out))))
    apply vfor [0, 5, 32, 33] (fun k => [(34, I k)]) (fun k => ([] : Hp)) (openP l c xi xc) (c.length)
    · go_simp <;> exact rfl
    · go_simp
    · intro k hk HB HP K hK
      obtain ⟨w1, w2, w3, w4, w5, w6⟩ := ixs (m := k) (by omega)
      have g1 := v_Has xc k (by omega)
      have hp := HP.out
      unfold openP at hp
      rw [xat_get hk] at hp
      cases hh : hasI xc k
      · rw [hh, Bool.not_false, Bool.true_and, ← open_any] at hp
        rw [hh] at g1
        have R2 := HB0.out.rights hk
        rw [xat_get hk] at R2
        have g2 := VC_of_own (p_candidates l c[k] R2)
        have hlen := numF_len (fun i => canBe (xat l i) c[k]) l.length
        have hcs : numF (fun i => canBe (xat l i) c[k]) l.length = cands l c[k] := rfl
        rw [hcs] at hlen
        generalize cands l c[k] = cs at *
        have HP2 := Lib.hid hp
        clear hp hh R2 hcs
        repeat' (first | (with_reducible first | refine vseq ?_ | refine vthenN ?_ | refine vthenE ?_ | refine vthenR ?_ | refine vret ?_ | refine vskip ?_ | refine vexit ?_ | refine vblock ?_ | refine vblockN ?_ | refine vblockR ?_ | refine vblockH ?_ | refine vrun_nil ?_ | refine vblockE rfl ?_ | refine vregion [] ?_ | refine vhrun_nil ?_) | ((with_reducible refine vcondT ?_ ?_); (focus (go_simp; done))) | ((with_reducible refine vcondF ?_ ?_); (focus (go_simp; done))) | ((with_reducible first | refine vrun_cons fun KK hKK => ?_ | refine vhrun_cons fun KK hKK => ?_); go_simp; (first | (with_reducible refine ⟨_, g1, ?_⟩) | (with_reducible refine ⟨_, g2, ?_⟩) | skip); refine hKK _ ?_; clear hKK KK) | ((refine vdrawL 17 17 [] rfl (by kernel_rfl) (by kernel_rfl) ?_); simp only [List.append, List.take, List.drop]) | ((with_reducible refine vcondS ?_ (fun ht => ?_) (fun ht => ?_)); (focus (go_simp; done)); (all_goals (simp [go_sem] at ht; replace ht := ht.out))))
        apply vfor [0, 5, 32, 33, 34, 45, 46] (fun k => [(47, I k)]) (fun k => ([] : Hp)) ((fun j => !hasI xi (iat cs j))) (cs.length)
        · go_simp <;> exact rfl
        · go_simp
        · intro j hj HB2 HPj K2 hK2
          obtain ⟨v1, v2, v3, v4, v5, v6⟩ := ixs (m := j) (by omega)
          have g3 := v_Has xi cs[j] (by omega)
          have hpj : hasI xi cs[j] = true := by
            have := HPj.out
            simpa [iat_get hj] using this
          rw [hpj] at g3
          clear hpj
          repeat' (first | (with_reducible first | refine vseq ?_ | refine vthenN ?_ | refine vthenE ?_ | refine vthenR ?_ | refine vret ?_ | refine vskip ?_ | refine vexit ?_ | refine vblock ?_ | refine vblockN ?_ | refine vblockR ?_ | refine vblockH ?_ | refine vrun_nil ?_ | refine vblockE rfl ?_ | refine vregion [] ?_ | refine vhrun_nil ?_) | ((with_reducible refine vcondT ?_ ?_); (focus (go_simp; done))) | ((with_reducible refine vcondF ?_ ?_); (focus (go_simp; done))) | ((with_reducible first | refine vrun_cons fun KK hKK => ?_ | refine vhrun_cons fun KK hKK => ?_); go_simp; (first | (with_reducible refine ⟨_, g3, ?_⟩) | skip); refine hKK _ ?_; clear hKK KK) | ((refine vdrawL 17 17 [] rfl (by kernel_rfl) (by kernel_rfl) ?_); simp only [List.append, List.take, List.drop]) | ((with_reducible refine vcondS ?_ (fun ht => ?_) (fun ht => ?_)); (focus (go_simp; done)); (all_goals (simp [go_sem] at ht; replace ht := ht.out))))
          refine hK2 _ ?_
          go_simp
        · intro j hj HB2 HPj K2
          have := HP2.out
          rw [anyP_hit hj HPj.out] at this
          cases this
        · intro HB2 K2
          repeat' (first | (with_reducible first | refine vseq ?_ | refine vthenN ?_ | refine vthenE ?_ | refine vthenR ?_ | refine vret ?_ | refine vskip ?_ | refine vexit ?_ | refine vblock ?_ | refine vblockN ?_ | refine vblockR ?_ | refine vblockH ?_ | refine vrun_nil ?_ | refine vblockE rfl ?_ | refine vregion [] ?_ | refine vhrun_nil ?_) | ((with_reducible refine vcondT ?_ ?_); (focus (go_simp; done))) | ((with_reducible refine vcondF ?_ ?_); (focus (go_simp; done))) | ((with_reducible first | refine vrun_cons fun KK hKK => ?_ | refine vhrun_cons fun KK hKK => ?_); go_simp; refine hKK _ ?_; clear hKK KK) | ((refine vdrawL 17 17 [] rfl (by kernel_rfl) (by kernel_rfl) ?_); simp only [List.append, List.take, List.drop]) | ((with_reducible refine vcondS ?_ (fun ht => ?_) (fun ht => ?_)); (focus (go_simp; done)); (all_goals (simp [go_sem] at ht; replace ht := ht.out))))
          refine hK _ ?_
          go_simp
      · rw [hh] at g1
        clear hh hp
        repeat' (first | (with_reducible first | refine vseq ?_ | refine vthenN ?_ | refine vthenE ?_ | refine vthenR ?_ | refine vret ?_ | refine vskip ?_ | refine vexit ?_ | refine vblock ?_ | refine vblockN ?_ | refine vblockR ?_ | refine vblockH ?_ | refine vrun_nil ?_ | refine vblockE rfl ?_ | refine vregion [] ?_ | refine vhrun_nil ?_) | ((with_reducible refine vcondT ?_ ?_); (focus (go_simp; done))) | ((with_reducible refine vcondF ?_ ?_); (focus (go_simp; done))) | ((with_reducible first | refine vrun_cons fun KK hKK => ?_ | refine vhrun_cons fun KK hKK => ?_); go_simp; (first | (with_reducible refine ⟨_, g1, ?_⟩) | skip); refine hKK _ ?_; clear hKK KK) | ((refine vdrawL 17 17 [] rfl (by kernel_rfl) (by kernel_rfl) ?_); simp only [List.append, List.take, List.drop]) | ((with_reducible refine vcondS ?_ (fun ht => ?_) (fun ht => ?_)); (focus (go_simp; done)); (all_goals (simp [go_sem] at ht; replace ht := ht.out))))
        refine hK _ ?_
        go_simp
    · intro k hk HB HP K
      obtain ⟨w1, w2, w3, w4, w5, w6⟩ := ixs (m := k) (by omega)
      have g1 := v_Has xc k (by omega)
      have hp := HP.out
      unfold openP at hp
      rw [xat_get hk, Bool.and_eq_true, Bool.not_eq_true', ← open_any] at hp
      obtain ⟨hh, hp⟩ := hp
      have e := HR.out
      rw [anyP_hit hk HP.out] at e
      subst e
      rw [hh] at g1
      have R2 := HB0.out.rights hk
      rw [xat_get hk] at R2
      have g2 := VC_of_own (p_candidates l c[k] R2)
      have hlen := numF_len (fun i => canBe (xat l i) c[k]) l.length
      have hcs : numF (fun i => canBe (xat l i) c[k]) l.length = cands l c[k] := rfl
      rw [hcs] at hlen
      generalize cands l c[k] = cs at *
      have HP2 := Lib.hid hp
      clear hp hh R2 hcs
      repeat' (first | (with_reducible first | refine vseq ?_ | refine vthenN ?_ | refine vthenE ?_ | refine vthenR ?_ | refine vret ?_ | refine vskip ?_ | refine vexit ?_ | refine vblock ?_ | refine vblockN ?_ | refine vblockR ?_ | refine vblockH ?_ | refine vrun_nil ?_ | refine vblockE rfl ?_ | refine vregion [] ?_ | refine vhrun_nil ?_) | ((with_reducible refine vcondT ?_ ?_); (focus (go_simp; done))) | ((with_reducible refine vcondF ?_ ?_); (focus (go_simp; done))) | ((with_reducible first | refine vrun_cons fun KK hKK => ?_ | refine vhrun_cons fun KK hKK => ?_); go_simp; (first | (with_reducible refine ⟨_, g1, ?_⟩) | (with_reducible refine ⟨_, g2, ?_⟩) | skip); refine hKK _ ?_; clear hKK KK) | ((refine vdrawL 17 17 [] rfl (by kernel_rfl) (by kernel_rfl) ?_); simp only [List.append, List.take, List.drop]) | ((with_reducible refine vcondS ?_ (fun ht => ?_) (fun ht => ?_)); (focus (go_simp; done)); (all_goals (simp [go_sem] at ht; replace ht := ht.out))))
      apply vfor [0, 5, 32, 33, 34, 45, 46] (fun k => [(47, I k)]) (fun k => ([] : Hp)) ((fun j => !hasI xi (iat cs j))) (cs.length)
      · go_simp <;> exact rfl
      · go_simp
      · intro j hj HB2 HPj K2 hK2
        obtain ⟨v1, v2, v3, v4, v5, v6⟩ := ixs (m := j) (by omega)
        have g3 := v_Has xi cs[j] (by omega)
        have hpj : hasI xi cs[j] = true := by
          have := HPj.out
          simpa [iat_get hj] using this
        rw [hpj] at g3
        clear hpj
        repeat' (first | (with_reducible first | refine vseq ?_ | refine vthenN ?_ | refine vthenE ?_ | refine vthenR ?_ | refine vret ?_ | refine vskip ?_ | refine vexit ?_ | refine vblock ?_ | refine vblockN ?_ | refine vblockR ?_ | refine vblockH ?_ | refine vrun_nil ?_ | refine vblockE rfl ?_ | refine vregion [] ?_ | refine vhrun_nil ?_) | ((with_reducible refine vcondT ?_ ?_); (focus (go_simp; done))) | ((with_reducible refine vcondF ?_ ?_); (focus (go_simp; done))) | ((with_reducible first | refine vrun_cons fun KK hKK => ?_ | refine vhrun_cons fun KK hKK => ?_); go_simp; (first | (with_reducible refine ⟨_, g3, ?_⟩) | skip); refine hKK _ ?_; clear hKK KK) | ((refine vdrawL 17 17 [] rfl (by kernel_rfl) (by kernel_rfl) ?_); simp only [List.append, List.take, List.drop]) | ((with_reducible refine vcondS ?_ (fun ht => ?_) (fun ht => ?_)); (focus (go_simp; done)); (all_goals (simp [go_sem] at ht; replace ht := ht.out))))
        refine hK2 _ ?_
        go_simp
      · intro j hj HB2 HPj K2
        have g3 := v_Has xi cs[j] (by omega)
        have hpj : hasI xi cs[j] = false := by
          have := HPj.out
          simpa [iat_get hj] using this
        rw [hpj] at g3
        clear hpj
        repeat' (first | (with_reducible first | refine vseq ?_ | refine vthenN ?_ | refine vthenE ?_ | refine vthenR ?_ | refine vret ?_ | refine vskip ?_ | refine vexit ?_ | refine vblock ?_ | refine vblockN ?_ | refine vblockR ?_ | refine vblockH ?_ | refine vrun_nil ?_ | refine vblockE rfl ?_ | refine vregion [] ?_ | refine vhrun_nil ?_) | ((with_reducible refine vcondT ?_ ?_); (focus (go_simp; done))) | ((with_reducible refine vcondF ?_ ?_); (focus (go_simp; done))) | ((with_reducible first | refine vrun_cons fun KK hKK => ?_ | refine vhrun_cons fun KK hKK => ?_); go_simp; (first | (with_reducible refine ⟨_, g3, ?_⟩) | skip); refine hKK _ ?_; clear hKK KK) | ((refine vdrawL 17 17 [] rfl (by kernel_rfl) (by kernel_rfl) ?_); simp only [List.append, List.take, List.drop]) | ((with_reducible refine vcondS ?_ (fun ht => ?_) (fun ht => ?_)); (focus (go_simp; done)); (all_goals (simp [go_sem] at ht; replace ht := ht.out))))
        go_simp
      · intro HB2 K2
        have := HP2.out
        rw [anyP_out HB2.out] at this
        cases this
    · intro HB K
      have e := HR.out
      rw [anyP_out HB.out] at e
      subst e
      repeat' (first | (with_reducible first | refine vseq ?_ | refine vthenN ?_ | refine vthenE ?_ | refine vthenR ?_ | refine vret ?_ | refine vskip ?_ | refine vexit ?_ | refine vblock ?_ | refine vblockN ?_ | refine vblockR ?_ | refine vblockH ?_ | refine vrun_nil ?_ | refine vblockE rfl ?_ | refine vregion [] ?_ | refine vhrun_nil ?_) | ((with_reducible refine vcondT ?_ ?_); (focus (go_simp; done))) | ((with_reducible refine vcondF ?_ ?_); (focus (go_simp; done))) | ((with_reducible first | refine vrun_cons fun KK hKK => ?_ | refine vhrun_cons fun KK hKK => ?_); go_simp; refine hKK _ ?_; clear hKK KK) | ((refine vdrawL 17 17 [] rfl (by kernel_rfl) (by kernel_rfl) ?_); simp only [List.append, List.take, List.drop]) | ((with_reducible refine vcondS ?_ (fun ht => ?_) (fun ht => ?_)); (focus (go_simp; done)); (all_goals (simp [go_sem] at ht; replace ht := ht.out))))
      go_simp
  · have hE : coverE l c xi xc = coverHead l c xi xc := by unfold coverE; rw [if_pos hH]
    unfold coverN
    rw [hE, if_neg hH]
    unfold coverHead at *
    generalize itemsErr l = E1 at *
    generalize itemsErr c = E2 at *
    generalize numsE xi l.length = E3 at *
    generalize numsE xc c.length = E4 at *
    clear hx hc hE
    refine VC_of Tryz.func20 rfl (by kernel_rfl) (by kernel_rfl) rfl fun M0 w0 => ?_
    simp only [Tryz.ntmps20, Tryz.results20, enumA]
    repeat' (first | (with_reducible first | refine vseq ?_ | refine vthenN ?_ | refine vthenE ?_ | refine vthenR ?_ | refine vret ?_ | refine vskip ?_ | refine vexit ?_ | refine vblock ?_ | refine vblockN ?_ | refine vblockR ?_ | refine vblockH ?_ | refine vrun_nil ?_ | refine vblockE rfl ?_ | refine vregion [] ?_ | refine vhrun_nil ?_) | ((with_reducible refine vcondT ?_ ?_); (focus (go_simp; done))) | ((with_reducible refine vcondF ?_ ?_); (focus (go_simp; done))) | ((with_reducible first | refine vrun_cons fun KK hKK => ?_ | refine vhrun_cons fun KK hKK => ?_); go_simp; (first | (with_reducible refine ⟨_, h1, ?_⟩) | (with_reducible refine ⟨_, h2, ?_⟩) | (with_reducible refine ⟨_, h3, ?_⟩) | (with_reducible refine ⟨_, h4, ?_⟩) | (refine ⟨_, p_firstA _ rfl rfl, ?_⟩) | skip); refine hKK _ ?_; clear hKK KK) | ((refine vdrawL 17 17 [] rfl (by kernel_rfl) (by kernel_rfl) ?_); simp only [List.take, List.drop]) | ((with_reducible refine vcondS ?_ (fun ht => ?_) (fun ht => ?_)); (focus (go_simp; done)); (all_goals (simp [go_sem] at ht; replace ht := ht.out))))
    go_simp
/-! ### Great ones -/
abbrev proofA (ps : List (Int × Int)) (x y : List Int) : AV := .agg [pairsA ps, intsA x, intsA y]
def greatP (ps : List (Int × Int)) (x y : List Int) : Bool := decide ((15 : Int) < ps.length) || decide ((15 : Int) < x.length) || decide ((15 : Int) < y.length)
theorem l_great (ps : List (Int × Int)) (x y : List Int) (_h1 : ps.length ≤ 9223372036854775807) (_h2 : x.length ≤ 9223372036854775807) (_h3 : y.length ≤ 9223372036854775807) : VC Tryz.prog 17 [proofA ps x y] (B (greatP ps x y)) := by
  unfold greatP
  refine VC_of Tryz.func17 rfl (by kernel_rfl) (by kernel_rfl) rfl fun M0 w0 => ?_
  simp only [Tryz.ntmps17, Tryz.results17, enumA]
  repeat' (first | (with_reducible first | refine vseq ?_ | refine vthenN ?_ | refine vthenE ?_ | refine vthenR ?_ | refine vret ?_ | refine vskip ?_ | refine vexit ?_ | refine vblock ?_ | refine vblockN ?_ | refine vblockR ?_ | refine vblockH ?_ | refine vrun_nil ?_ | refine vblockE rfl ?_ | refine vregion [] ?_ | refine vhrun_nil ?_) | ((with_reducible refine vcondT ?_ ?_); (focus (go_simp; done))) | ((with_reducible refine vcondF ?_ ?_); (focus (go_simp; done))) | ((with_reducible first | refine vrun_cons fun KK hKK => ?_ | refine vhrun_cons fun KK hKK => ?_); go_simp; refine hKK _ ?_; clear hKK KK) | ((with_reducible refine vcondS ?_ (fun ht => ?_) (fun ht => ?_)); (focus (go_simp; done)); (all_goals (simp [go_sem] at ht; replace ht := ht.out))) | ((apply vrun_consG0 rfl); (focus (go_simp <;> exact rfl)); (focus (go_simp; done)); (focus (intro hb0; replace hb0 := hb0.out; go_simp <;> (first | exact rfl))); intro KK hKK; go_simp; refine hKK _ ?_; clear hKK KK))
  go_simp
end Go.Proofs.YthbgghmjbaldlaaGreatDoor
