/- Texts in one: Walks on plain values: claims with several candidates; pairs and covers of the reference; texts of at most 1000 bytes. -/
import Derived.Test.YthbgghmjbaldlaaGreatDoorFK22
import Derived.Test.YthbgghmjbaldlaaGreatDoorFK29
/-! QY: Walks on plain values: claims with several candidates; pairs and covers of the reference; texts of at most 1000 bytes. -/
namespace Go.Proofs.YthbgghmjbaldlaaGreatDoor
open Go.RowKit
set_option maxRecDepth 100000
set_option maxHeartbeats 1000000
theorem ixl {m n : Nat} (h : m + 1 < n) : (m : Int) + 1 < n ∧ (m : Int) + 1 ≤ n ∧ m + 1 ≤ n ∧ m < n := by omega
theorem few_small {l c : List Item} (h : fewL l c = true) : (SmallX l ∧ l.length ≤ 14) ∧ SmallX c ∧ c.length ≤ 14 := by
  simp only [fewL, Bool.and_eq_true, Bool.not_eq_true'] at h
  obtain ⟨⟨⟨h1, h2⟩, h3⟩, h4⟩ := h
  have a1 := (fewN_true h1).2
  have a2 := (fewN_true h2).2
  have each : ∀ (l : List Item), anyP (badI l) 0 l.length = false → ∀ x ∈ l, SmallI x := fun l hl x hx => by
    obtain ⟨k, hk, rfl⟩ := List.getElem_of_mem hx
    cases hb : badI l k
    · rw [badI, xat_get hk, Bool.not_eq_false'] at hb
      exact (shortI_small hb).1
    · rw [anyP_hit hk hb] at hl
      cases hl
  exact ⟨⟨⟨by omega, each l h3⟩, by omega⟩, ⟨by omega, each c h4⟩, by omega⟩
def bothE (l c : List Item) : Int := fst [itemsErr l, itemsErr c]
theorem r_BothErr (l c : List Item) (hx : SmallX l) (hc : SmallX c) : VC Tryz.prog 14 [itemsA l, itemsA c] (I (bothE l c)) := by
  have h1 := r_ItemsErr l hx
  have h2 := r_ClaimsErr c hc
  unfold bothE
  generalize itemsErr l = E1 at *
  generalize itemsErr c = E2 at *
  clear hx hc
  refine VC_of Tryz.func14 rfl (by kernel_rfl) (by kernel_rfl) rfl fun M0 w0 => ?_
  simp only [Tryz.ntmps14, Tryz.results14, enumA]
  by_cases h : E1 = 0
  · subst h
    have hf : fst [0, E2] = E2 := by simp [fst]; exact fun h => h.symm
    rw [hf]
    repeat' (first | (with_reducible first | refine vseq ?_ | refine vthenN ?_ | refine vthenE ?_ | refine vthenR ?_ | refine vret ?_ | refine vskip ?_ | refine vexit ?_ | refine vblock ?_ | refine vblockN ?_ | refine vblockR ?_ | refine vblockH ?_ | refine vrun_nil ?_ | refine vblockE rfl ?_ | refine vregion [] ?_ | refine vhrun_nil ?_) | ((with_reducible refine vcondT ?_ ?_); (focus (go_simp; done))) | ((with_reducible refine vcondF ?_ ?_); (focus (go_simp; done))) | ((with_reducible first | refine vrun_cons fun KK hKK => ?_ | refine vhrun_cons fun KK hKK => ?_); go_simp; (first | (with_reducible refine ⟨_, h1, ?_⟩) | (with_reducible refine ⟨_, h2, ?_⟩) | skip); refine hKK _ ?_; clear hKK KK) | ((with_reducible refine vcondS ?_ (fun ht => ?_) (fun ht => ?_)); (focus (go_simp; done)); (all_goals (simp [go_sem] at ht; replace ht := ht.out))))
    go_simp
  · have hf : fst [E1, E2] = E1 := by simp [fst, h]
    rw [hf]
    repeat' (first | (with_reducible first | refine vseq ?_ | refine vthenN ?_ | refine vthenE ?_ | refine vthenR ?_ | refine vret ?_ | refine vskip ?_ | refine vexit ?_ | refine vblock ?_ | refine vblockN ?_ | refine vblockR ?_ | refine vblockH ?_ | refine vrun_nil ?_ | refine vblockE rfl ?_ | refine vregion [] ?_ | refine vhrun_nil ?_) | ((with_reducible refine vcondT ?_ ?_); (focus (go_simp; done))) | ((with_reducible refine vcondF ?_ ?_); (focus (go_simp; done))) | ((with_reducible first | refine vrun_cons fun KK hKK => ?_ | refine vhrun_cons fun KK hKK => ?_); go_simp; (first | (with_reducible refine ⟨_, h1, ?_⟩) | (with_reducible refine ⟨_, h2, ?_⟩) | skip); refine hKK _ ?_; clear hKK KK) | ((with_reducible refine vcondS ?_ (fun ht => ?_) (fun ht => ?_)); (focus (go_simp; done)); (all_goals (simp [go_sem] at ht; replace ht := ht.out))))
    go_simp
/-! ### Claims with several candidates -/
/-! ### Pairs and covers of the reference -/
theorem r_CheckPairs (l c : List Item) (ps : List (Int × Int)) (hx : SmallX l) (hc : SmallX c) (hp : ps.length ≤ 1000) : VC Tryz.prog 22 [itemsA l, itemsA c, pairsA ps] (.tup [I (pairsN l c ps), I (pairsE l c ps)]) := by
  have h1 := r_BothErr l c hx hc
  by_cases hb : bothE l c = 0
  · have z1 : itemsErr l = 0 := fst_zero hb _ (by simp)
    have z2 : itemsErr c = 0 := fst_zero hb _ (by simp)
    rw [hb] at h1
    by_cases h12 : (12 : Int) < ps.length
    · have e : pairsHead l c ps = 8 := by
        unfold pairsHead
        rw [z1, z2, decide_eq_false (by omega)]
        rfl
      have hE : pairsE l c ps = 8 := by unfold pairsE; rw [e]; rfl
      unfold pairsN
      rw [hE]
      clear z1 z2 hb e hE hx hc
      refine VC_of Tryz.func22 rfl (by kernel_rfl) (by kernel_rfl) rfl fun M0 w0 => ?_
      simp only [Tryz.ntmps22, Tryz.results22, enumA]
      repeat' (first | (with_reducible first | refine vseq ?_ | refine vthenN ?_ | refine vthenE ?_ | refine vthenR ?_ | refine vret ?_ | refine vskip ?_ | refine vexit ?_ | refine vblock ?_ | refine vblockN ?_ | refine vblockR ?_ | refine vblockH ?_ | refine vrun_nil ?_ | refine vblockE rfl ?_ | refine vregion [] ?_ | refine vhrun_nil ?_) | ((with_reducible refine vcondT ?_ ?_); (focus (go_simp; done))) | ((with_reducible refine vcondF ?_ ?_); (focus (go_simp; done))) | ((with_reducible first | refine vrun_cons fun KK hKK => ?_ | refine vhrun_cons fun KK hKK => ?_); go_simp; (first | (with_reducible refine ⟨_, h1, ?_⟩) | skip); refine hKK _ ?_; clear hKK KK) | ((refine vdrawL 10 10 [] rfl (by kernel_rfl) (by kernel_rfl) ?_); simp only [List.append, List.take, List.drop]) | ((refine vdrawL 12 12 [] rfl (by kernel_rfl) (by kernel_rfl) ?_); simp only [List.append, List.take, List.drop]) | ((with_reducible refine vcondS ?_ (fun ht => ?_) (fun ht => ?_)); (focus (go_simp; done)); (all_goals (simp [go_sem] at ht; replace ht := ht.out))) | ((apply vrun_consG0 rfl); (focus (go_simp <;> exact rfl)); (focus (go_simp; done)); (focus (intro hb0; replace hb0 := hb0.out; go_simp <;> (first | exact rfl | exact h1 | exact ⟨h1, rfl⟩))); intro KK hKK; go_simp; refine hKK _ ?_; clear hKK KK) | ((apply vhrun_consG0 rfl); (focus (go_simp <;> exact rfl)); (focus (intro hb0; replace hb0 := hb0.out; go_simp <;> (first | exact rfl | exact h1 | exact ⟨h1, rfl⟩))); intro KK hKK; go_simp; refine hKK _ ?_; clear hKK KK))
      go_simp
    · have e : pairsHead l c ps = 0 := by
        unfold pairsHead
        rw [z1, z2, decide_eq_true (by omega)]
        rfl
      have BB := both_of hx hc z1 z2
      have hB1 := BB.lfew
      have hB2 := BB.cfew
      have HB0 := Lib.hid BB
      obtain ⟨R, hR⟩ : ∃ R, (firstErr (pairE l c ps) 0 ps.length).2 = R := ⟨_, rfl⟩
      have hE : pairsE l c ps = R := by unfold pairsE; rw [if_neg (by simpa using e)]; exact hR
      unfold pairsN
      rw [hE]
      have HR := Lib.hid hR
      have u1 := wrap_eq (x := (l.length : Int) - 1) (by omega) (by omega)
      have u2 := wrap_eq (x := (c.length : Int) - 1) (by omega) (by omega)
      clear z1 z2 hb e hE hR BB hx hc
      refine VC_of Tryz.func22 rfl (by kernel_rfl) (by kernel_rfl) rfl fun M0 w0 => ?_
      simp only [Tryz.ntmps22, Tryz.results22, enumA]
      repeat' (first | (with_reducible first | refine vseq ?_ | refine vthenN ?_ | refine vthenE ?_ | refine vthenR ?_ | refine vret ?_ | refine vskip ?_ | refine vexit ?_ | refine vblock ?_ | refine vblockN ?_ | refine vblockR ?_ | refine vblockH ?_ | refine vrun_nil ?_ | refine vblockE rfl ?_ | refine vregion [] ?_ | refine vhrun_nil ?_) | ((with_reducible refine vcondT ?_ ?_); (focus (go_simp; done))) | ((with_reducible refine vcondF ?_ ?_); (focus (go_simp; done))) | ((with_reducible first | refine vrun_cons fun KK hKK => ?_ | refine vhrun_cons fun KK hKK => ?_); go_simp; (first | (with_reducible refine ⟨_, h1, ?_⟩) | skip); refine hKK _ ?_; clear hKK KK) | ((refine vdrawL 10 10 [] rfl (by kernel_rfl) (by kernel_rfl) ?_); simp only [List.append, List.take, List.drop]) | ((refine vdrawL 12 12 [] rfl (by kernel_rfl) (by kernel_rfl) ?_); simp only [List.append, List.take, List.drop]) | ((with_reducible refine vcondS ?_ (fun ht => ?_) (fun ht => ?_)); (focus (go_simp; done)); (all_goals (simp [go_sem] at ht; replace ht := ht.out))) | ((apply vrun_consG0 rfl); (focus (go_simp <;> exact rfl)); (focus (go_simp; done)); (focus (intro hb0; replace hb0 := hb0.out; go_simp <;> (first | exact rfl | exact h1 | exact ⟨h1, rfl⟩))); intro KK hKK; go_simp; refine hKK _ ?_; clear hKK KK) | ((apply vhrun_consG0 rfl); (focus (go_simp <;> exact rfl)); (focus (intro hb0; replace hb0 := hb0.out; go_simp <;> (first | exact rfl | exact h1 | exact ⟨h1, rfl⟩))); intro KK hKK; go_simp; refine hKK _ ?_; clear hKK KK))
      apply vfor [0, 1, 2] (fun k => [(9, I k)]) (fun k => ([] : Hp)) (bad (pairE l c ps)) (ps.length)
      · go_simp <;> exact rfl
      · go_simp
      · intro k hk HB HP K hK
        obtain ⟨w1, w2, w3, w4, w5, w6⟩ := ixs (m := k) (by omega)
        obtain ⟨⟨b1, b2, b3, b4⟩, b5, b6, b7⟩ := pairE_zero (bad_no HP.out)
        obtain ⟨a, ha⟩ : ∃ a : Nat, (pat ps k).1 = a := ⟨(pat ps k).1.toNat, by omega⟩
        obtain ⟨b, hb⟩ : ∃ b : Nat, (pat ps k).2 = b := ⟨(pat ps k).2.toNat, by omega⟩
        have B6 := Lib.hid b6
        rw [ha] at b1 b2 b5 b7
        rw [hb] at b3 b4 b7
        rw [Int.toNat_natCast, Int.toNat_natCast] at b7
        have hal : a < l.length := by omega
        have hbl : b < c.length := by omega
        rw [xat_get hal, xat_get hbl] at b7
        have q1 := HB0.out.marks a hal
        have q2 := HB0.out.cmarks b hbl
        rw [xat_get hal] at q1
        rw [xat_get hbl] at q2
        have g4 := r_CanBe l[a] c[b] q1.1 q2.1 q2.2 q1.2
        rw [b7] at g4
        have g1 := b_within (a : Int) 0 ((l.length : Int) - 1)
        have g2 := b_within (b : Int) 0 ((c.length : Int) - 1)
        rw [inR_iff.2 (by omega)] at g1 g2
        rw [pat_get hk] at ha hb
        have hkn : k < ps.length := hk
        have ia : (a : Int) < l.length := by omega
        have ib : (b : Int) < c.length := by omega
        clear b6 b7 q1 q2
        rcases k with _ | m
        · clear b5
          repeat' (first | (with_reducible first | refine vseq ?_ | refine vthenN ?_ | refine vthenE ?_ | refine vthenR ?_ | refine vret ?_ | refine vskip ?_ | refine vexit ?_ | refine vblock ?_ | refine vblockN ?_ | refine vblockR ?_ | refine vblockH ?_ | refine vrun_nil ?_ | refine vblockE rfl ?_ | refine vregion [] ?_ | refine vhrun_nil ?_) | ((with_reducible refine vcondT ?_ ?_); (focus (go_simp; done))) | ((with_reducible refine vcondF ?_ ?_); (focus (go_simp; done))) | ((with_reducible first | refine vrun_cons fun KK hKK => ?_ | refine vhrun_cons fun KK hKK => ?_); go_simp; (first | (with_reducible refine ⟨_, g1, ?_⟩) | (with_reducible refine ⟨_, g2, ?_⟩) | (with_reducible refine ⟨_, g4, ?_⟩) | skip); refine hKK _ ?_; clear hKK KK) | ((refine vdrawL 10 10 [] rfl (by kernel_rfl) (by kernel_rfl) ?_); simp only [List.append, List.take, List.drop]) | ((refine vdrawL 12 12 [] rfl (by kernel_rfl) (by kernel_rfl) ?_); simp only [List.take, List.drop]) | ((with_reducible refine vcondS ?_ (fun ht => ?_) (fun ht => ?_)); (focus (go_simp; done)); (all_goals (simp [go_sem] at ht; replace ht := ht.out))) | ((apply vrun_consG0 rfl); (focus (go_simp <;> exact rfl)); (focus (go_simp; done)); (focus (intro hb0; replace hb0 := hb0.out; go_simp <;> (first | exact rfl | exact g1 | exact g2 | exact g4 | exact ⟨g1, rfl⟩ | exact ⟨g2, rfl⟩ | exact ⟨g4, rfl⟩))); intro KK hKK; go_simp; refine hKK _ ?_; clear hKK KK) | ((apply vhrun_consG0 rfl); (focus (go_simp <;> exact rfl)); (focus (intro hb0; replace hb0 := hb0.out; go_simp <;> (first | exact rfl | exact g1 | exact g2 | exact g4 | exact ⟨g1, rfl⟩ | exact ⟨g2, rfl⟩ | exact ⟨g4, rfl⟩))); intro KK hKK; go_simp; refine hKK _ ?_; clear hKK KK))
          apply vfor [0, 1, 2, 9, 10, 11] (fun k => [(12, I (0 : Nat))]) (fun k => ([] : Hp)) ((fun _ => false)) (0)
          · go_simp <;> exact rfl
          · go_simp
          · intro j hj
            omega
          · intro j hj
            omega
          · intro HB2 K2
            repeat' (first | (with_reducible first | refine vseq ?_ | refine vthenN ?_ | refine vthenE ?_ | refine vthenR ?_ | refine vret ?_ | refine vskip ?_ | refine vexit ?_ | refine vblock ?_ | refine vblockN ?_ | refine vblockR ?_ | refine vblockH ?_ | refine vrun_nil ?_ | refine vblockE rfl ?_ | refine vregion [] ?_ | refine vhrun_nil ?_) | ((with_reducible refine vcondT ?_ ?_); (focus (go_simp; done))) | ((with_reducible refine vcondF ?_ ?_); (focus (go_simp; done))) | ((with_reducible first | refine vrun_cons fun KK hKK => ?_ | refine vhrun_cons fun KK hKK => ?_); go_simp; (first | (with_reducible refine ⟨_, g4, ?_⟩) | skip); refine hKK _ ?_; clear hKK KK) | ((refine vdrawL 10 10 [] rfl (by kernel_rfl) (by kernel_rfl) ?_); simp only [List.take, List.drop]) | ((refine vdrawL 12 12 [] rfl (by kernel_rfl) (by kernel_rfl) ?_); simp only [List.append, List.take, List.drop]) | ((with_reducible refine vcondS ?_ (fun ht => ?_) (fun ht => ?_)); (focus (go_simp; done)); (all_goals (simp [go_sem] at ht; replace ht := ht.out))) | ((apply vrun_consG0 rfl); (focus (go_simp <;> exact rfl)); (focus (go_simp; done)); (focus (intro hb0; replace hb0 := hb0.out; go_simp <;> (first | exact rfl | exact g4 | exact ⟨g4, rfl⟩))); intro KK hKK; go_simp; refine hKK _ ?_; clear hKK KK) | ((apply vhrun_consG0 rfl); (focus (go_simp <;> exact rfl)); (focus (intro hb0; replace hb0 := hb0.out; go_simp <;> (first | exact rfl | exact g4 | exact ⟨g4, rfl⟩))); intro KK hKK; go_simp; refine hKK _ ?_; clear hKK KK))
            refine hK _ ?_
            go_simp
        · obtain ⟨x1, x2, x3, hm⟩ := ixl hk
          obtain ⟨v1, v2, v3, v4, v5, v6⟩ := ixs (m := m) (by omega)
          have hle := b5 (by omega)
          rw [Nat.add_sub_cancel, pat_get hm] at hle
          have hlt : ¬ (a : Int) ≤ ps[m].1 := by omega
          clear b5 hle
          repeat' (first | (with_reducible first | refine vseq ?_ | refine vthenN ?_ | refine vthenE ?_ | refine vthenR ?_ | refine vret ?_ | refine vskip ?_ | refine vexit ?_ | refine vblock ?_ | refine vblockN ?_ | refine vblockR ?_ | refine vblockH ?_ | refine vrun_nil ?_ | refine vblockE rfl ?_ | refine vregion [] ?_ | refine vhrun_nil ?_) | ((with_reducible refine vcondT ?_ ?_); (focus (go_simp; done))) | ((with_reducible refine vcondF ?_ ?_); (focus (go_simp; done))) | ((with_reducible first | refine vrun_cons fun KK hKK => ?_ | refine vhrun_cons fun KK hKK => ?_); go_simp; (first | (with_reducible refine ⟨_, g1, ?_⟩) | (with_reducible refine ⟨_, g2, ?_⟩) | (with_reducible refine ⟨_, g4, ?_⟩) | skip); refine hKK _ ?_; clear hKK KK) | ((refine vdrawL 10 10 [] rfl (by kernel_rfl) (by kernel_rfl) ?_); simp only [List.append, List.take, List.drop]) | ((refine vdrawL 12 12 [] rfl (by kernel_rfl) (by kernel_rfl) ?_); simp only [List.take, List.drop]) | ((with_reducible refine vcondS ?_ (fun ht => ?_) (fun ht => ?_)); (focus (go_simp; done)); (all_goals (simp [go_sem] at ht; replace ht := ht.out))) | ((apply vrun_consG0 rfl); (focus (go_simp <;> exact rfl)); (focus (go_simp; done)); (focus (intro hb0; replace hb0 := hb0.out; go_simp <;> (first | exact rfl | exact g1 | exact g2 | exact g4 | exact ⟨g1, rfl⟩ | exact ⟨g2, rfl⟩ | exact ⟨g4, rfl⟩))); intro KK hKK; go_simp; refine hKK _ ?_; clear hKK KK) | ((apply vhrun_consG0 rfl); (focus (go_simp <;> exact rfl)); (focus (intro hb0; replace hb0 := hb0.out; go_simp <;> (first | exact rfl | exact g1 | exact g2 | exact g4 | exact ⟨g1, rfl⟩ | exact ⟨g2, rfl⟩ | exact ⟨g4, rfl⟩))); intro KK hKK; go_simp; refine hKK _ ?_; clear hKK KK))
          apply vfor [0, 1, 2, 9, 10, 11] (fun k => [(12, I k)]) (fun k => ([] : Hp)) ((fun j => decide ((pat ps j).2 = b))) (m + 1)
          · go_simp <;> exact rfl
          · go_simp
          · intro j hj HB2 HPj K2 hK2
            obtain ⟨y1, y2, y3, y4, y5, y6⟩ := ixs (m := j) (by omega)
            have hjm : j < ps.length := by omega
            have hji : (j : Int) < (m : Int) + 1 := by omega
            have hp := HPj.out
            simp only [pat_get hjm, decide_eq_false_iff_not] at hp
            repeat' (first | (with_reducible first | refine vseq ?_ | refine vthenN ?_ | refine vthenE ?_ | refine vthenR ?_ | refine vret ?_ | refine vskip ?_ | refine vexit ?_ | refine vblock ?_ | refine vblockN ?_ | refine vblockR ?_ | refine vblockH ?_ | refine vrun_nil ?_ | refine vblockE rfl ?_ | refine vregion [] ?_ | refine vhrun_nil ?_) | ((with_reducible refine vcondT ?_ ?_); (focus (go_simp; done))) | ((with_reducible refine vcondF ?_ ?_); (focus (go_simp; done))) | ((with_reducible first | refine vrun_cons fun KK hKK => ?_ | refine vhrun_cons fun KK hKK => ?_); go_simp; refine hKK _ ?_; clear hKK KK) | ((refine vdrawL 10 10 [] rfl (by kernel_rfl) (by kernel_rfl) ?_); simp only [List.append, List.take, List.drop]) | ((refine vdrawL 12 12 [] rfl (by kernel_rfl) (by kernel_rfl) ?_); simp only [List.append, List.take, List.drop]) | ((with_reducible refine vcondS ?_ (fun ht => ?_) (fun ht => ?_)); (focus (go_simp; done)); (all_goals (simp [go_sem] at ht; replace ht := ht.out))) | ((apply vrun_consG0 rfl); (focus (go_simp <;> exact rfl)); (focus (go_simp; done)); (focus (intro hb0; replace hb0 := hb0.out; go_simp <;> (first | exact rfl))); intro KK hKK; go_simp; refine hKK _ ?_; clear hKK KK) | ((apply vhrun_consG0 rfl); (focus (go_simp <;> exact rfl)); (focus (intro hb0; replace hb0 := hb0.out; go_simp <;> (first | exact rfl))); intro KK hKK; go_simp; refine hKK _ ?_; clear hKK KK))
            refine hK2 _ ?_
            go_simp
          · intro j hj HB2 HPj K2
            have hp := HPj.out
            simp only [decide_eq_true_eq] at hp
            have := B6.out j (by omega)
            rw [hp, pat_get hk, hb] at this
            exact absurd rfl this
          · intro HB2 K2
            repeat' (first | (with_reducible first | refine vseq ?_ | refine vthenN ?_ | refine vthenE ?_ | refine vthenR ?_ | refine vret ?_ | refine vskip ?_ | refine vexit ?_ | refine vblock ?_ | refine vblockN ?_ | refine vblockR ?_ | refine vblockH ?_ | refine vrun_nil ?_ | refine vblockE rfl ?_ | refine vregion [] ?_ | refine vhrun_nil ?_) | ((with_reducible refine vcondT ?_ ?_); (focus (go_simp; done))) | ((with_reducible refine vcondF ?_ ?_); (focus (go_simp; done))) | ((with_reducible first | refine vrun_cons fun KK hKK => ?_ | refine vhrun_cons fun KK hKK => ?_); go_simp; (first | (with_reducible refine ⟨_, g4, ?_⟩) | skip); refine hKK _ ?_; clear hKK KK) | ((refine vdrawL 10 10 [] rfl (by kernel_rfl) (by kernel_rfl) ?_); simp only [List.take, List.drop]) | ((refine vdrawL 12 12 [] rfl (by kernel_rfl) (by kernel_rfl) ?_); simp only [List.append, List.take, List.drop]) | ((with_reducible refine vcondS ?_ (fun ht => ?_) (fun ht => ?_)); (focus (go_simp; done)); (all_goals (simp [go_sem] at ht; replace ht := ht.out))) | ((apply vrun_consG0 rfl); (focus (go_simp <;> exact rfl)); (focus (go_simp; done)); (focus (intro hb0; replace hb0 := hb0.out; go_simp <;> (first | exact rfl | exact g4 | exact ⟨g4, rfl⟩))); intro KK hKK; go_simp; refine hKK _ ?_; clear hKK KK) | ((apply vhrun_consG0 rfl); (focus (go_simp <;> exact rfl)); (focus (intro hb0; replace hb0 := hb0.out; go_simp <;> (first | exact rfl | exact g4 | exact ⟨g4, rfl⟩))); intro KK hKK; go_simp; refine hKK _ ?_; clear hKK KK))
            refine hK _ ?_
            go_simp
      · intro k hk HB HP K
        obtain ⟨w1, w2, w3, w4, w5, w6⟩ := ixs (m := k) (by omega)
        have e := HR.out
        rw [firstErr_hit hk HB.out HP.out] at e
        simp only at e
        have hne : ¬ R = 0 := by rw [← e]; exact bad_yes HP.out
        have hcs := pair_cases (bad_yes HP.out)
        rw [e, pat_get hk] at hcs
        rcases hcs with ⟨rfl, hf⟩ | ⟨i1, i2, hcs⟩
        · cases c1 : inR ps[k].1 0 ((l.length : Int) - 1)
          · have g1 := b_within ps[k].1 0 ((l.length : Int) - 1)
            rw [c1] at g1
            clear hf c1
            repeat' (first | (with_reducible first | refine vseq ?_ | refine vthenN ?_ | refine vthenE ?_ | refine vthenR ?_ | refine vret ?_ | refine vskip ?_ | refine vexit ?_ | refine vblock ?_ | refine vblockN ?_ | refine vblockR ?_ | refine vblockH ?_ | refine vrun_nil ?_ | refine vblockE rfl ?_ | refine vregion [] ?_ | refine vhrun_nil ?_) | ((with_reducible refine vcondT ?_ ?_); (focus (go_simp; done))) | ((with_reducible refine vcondF ?_ ?_); (focus (go_simp; done))) | ((with_reducible first | refine vrun_cons fun KK hKK => ?_ | refine vhrun_cons fun KK hKK => ?_); go_simp; (first | (with_reducible refine ⟨_, g1, ?_⟩) | skip); refine hKK _ ?_; clear hKK KK) | ((refine vdrawL 10 10 [] rfl (by kernel_rfl) (by kernel_rfl) ?_); simp only [List.append, List.take, List.drop]) | ((refine vdrawL 12 12 [] rfl (by kernel_rfl) (by kernel_rfl) ?_); simp only [List.take, List.drop]) | ((with_reducible refine vcondS ?_ (fun ht => ?_) (fun ht => ?_)); (focus (go_simp; done)); (all_goals (simp [go_sem] at ht; replace ht := ht.out))) | ((apply vrun_consG0 rfl); (focus (go_simp <;> exact rfl)); (focus (go_simp; done)); (focus (intro hb0; replace hb0 := hb0.out; go_simp <;> (first | exact rfl | exact g1 | exact ⟨g1, rfl⟩))); intro KK hKK; go_simp; refine hKK _ ?_; clear hKK KK) | ((apply vhrun_consG0 rfl); (focus (go_simp <;> exact rfl)); (focus (intro hb0; replace hb0 := hb0.out; go_simp <;> (first | exact rfl | exact g1 | exact ⟨g1, rfl⟩))); intro KK hKK; go_simp; refine hKK _ ?_; clear hKK KK))
            go_simp
          · rw [c1, Bool.true_and] at hf
            have g1 := b_within ps[k].1 0 ((l.length : Int) - 1)
            have g2 := b_within ps[k].2 0 ((c.length : Int) - 1)
            rw [c1] at g1
            rw [hf] at g2
            clear hf c1
            repeat' (first | (with_reducible first | refine vseq ?_ | refine vthenN ?_ | refine vthenE ?_ | refine vthenR ?_ | refine vret ?_ | refine vskip ?_ | refine vexit ?_ | refine vblock ?_ | refine vblockN ?_ | refine vblockR ?_ | refine vblockH ?_ | refine vrun_nil ?_ | refine vblockE rfl ?_ | refine vregion [] ?_ | refine vhrun_nil ?_) | ((with_reducible refine vcondT ?_ ?_); (focus (go_simp; done))) | ((with_reducible refine vcondF ?_ ?_); (focus (go_simp; done))) | ((with_reducible first | refine vrun_cons fun KK hKK => ?_ | refine vhrun_cons fun KK hKK => ?_); go_simp; (first | (with_reducible refine ⟨_, g1, ?_⟩) | (with_reducible refine ⟨_, g2, ?_⟩) | skip); refine hKK _ ?_; clear hKK KK) | ((refine vdrawL 10 10 [] rfl (by kernel_rfl) (by kernel_rfl) ?_); simp only [List.append, List.take, List.drop]) | ((refine vdrawL 12 12 [] rfl (by kernel_rfl) (by kernel_rfl) ?_); simp only [List.take, List.drop]) | ((with_reducible refine vcondS ?_ (fun ht => ?_) (fun ht => ?_)); (focus (go_simp; done)); (all_goals (simp [go_sem] at ht; replace ht := ht.out))) | ((apply vrun_consG0 rfl); (focus (go_simp <;> exact rfl)); (focus (go_simp; done)); (focus (intro hb0; replace hb0 := hb0.out; go_simp <;> (first | exact rfl | exact g1 | exact g2 | exact ⟨g1, rfl⟩ | exact ⟨g2, rfl⟩))); intro KK hKK; go_simp; refine hKK _ ?_; clear hKK KK) | ((apply vhrun_consG0 rfl); (focus (go_simp <;> exact rfl)); (focus (intro hb0; replace hb0 := hb0.out; go_simp <;> (first | exact rfl | exact g1 | exact g2 | exact ⟨g1, rfl⟩ | exact ⟨g2, rfl⟩))); intro KK hKK; go_simp; refine hKK _ ?_; clear hKK KK))
            go_simp
        · have g1 := b_within ps[k].1 0 ((l.length : Int) - 1)
          have g2 := b_within ps[k].2 0 ((c.length : Int) - 1)
          rw [i1] at g1
          rw [i2] at g2
          rcases hcs with ⟨rfl, h0, hle⟩ | ⟨hno, hcs⟩
          · rcases k with _ | m
            · omega
            · obtain ⟨x1, x2, x3, hm⟩ := ixl hk
              obtain ⟨v1, v2, v3, v4, v5, v6⟩ := ixs (m := m) (by omega)
              rw [Nat.add_sub_cancel, pat_get hm] at hle
              clear i1 i2
              repeat' (first | (with_reducible first | refine vseq ?_ | refine vthenN ?_ | refine vthenE ?_ | refine vthenR ?_ | refine vret ?_ | refine vskip ?_ | refine vexit ?_ | refine vblock ?_ | refine vblockN ?_ | refine vblockR ?_ | refine vblockH ?_ | refine vrun_nil ?_ | refine vblockE rfl ?_ | refine vregion [] ?_ | refine vhrun_nil ?_) | ((with_reducible refine vcondT ?_ ?_); (focus (go_simp; done))) | ((with_reducible refine vcondF ?_ ?_); (focus (go_simp; done))) | ((with_reducible first | refine vrun_cons fun KK hKK => ?_ | refine vhrun_cons fun KK hKK => ?_); go_simp; (first | (with_reducible refine ⟨_, g1, ?_⟩) | (with_reducible refine ⟨_, g2, ?_⟩) | skip); refine hKK _ ?_; clear hKK KK) | ((refine vdrawL 10 10 [] rfl (by kernel_rfl) (by kernel_rfl) ?_); simp only [List.append, List.take, List.drop]) | ((refine vdrawL 12 12 [] rfl (by kernel_rfl) (by kernel_rfl) ?_); simp only [List.take, List.drop]) | ((with_reducible refine vcondS ?_ (fun ht => ?_) (fun ht => ?_)); (focus (go_simp; done)); (all_goals (simp [go_sem] at ht; replace ht := ht.out))) | ((apply vrun_consG0 rfl); (focus (go_simp <;> exact rfl)); (focus (go_simp; done)); (focus (intro hb0; replace hb0 := hb0.out; go_simp <;> (first | exact rfl | exact g1 | exact g2 | exact ⟨g1, rfl⟩ | exact ⟨g2, rfl⟩))); intro KK hKK; go_simp; refine hKK _ ?_; clear hKK KK) | ((apply vhrun_consG0 rfl); (focus (go_simp <;> exact rfl)); (focus (intro hb0; replace hb0 := hb0.out; go_simp <;> (first | exact rfl | exact g1 | exact g2 | exact ⟨g1, rfl⟩ | exact ⟨g2, rfl⟩))); intro KK hKK; go_simp; refine hKK _ ?_; clear hKK KK))
              go_simp
          · obtain ⟨a, ha, hal⟩ := w_true i1
            obtain ⟨b, hb, hbl⟩ := w_true i2
            rw [ha] at g1 hno
            rw [hb] at g2
            have ia : (a : Int) < l.length := by omega
            have ib : (b : Int) < c.length := by omega
            rcases hcs with ⟨rfl, hany⟩ | ⟨rfl, hany, hcan⟩
            · clear i1 i2 HP
              rcases k with _ | m
              · cases hany
              · obtain ⟨x1, x2, x3, hm⟩ := ixl hk
                obtain ⟨v1, v2, v3, v4, v5, v6⟩ := ixs (m := m) (by omega)
                rw [Nat.add_sub_cancel, pat_get hm] at hno
                have hlt : ¬ (a : Int) ≤ ps[m].1 := fun h => hno ⟨by omega, h⟩
                have HAny := Lib.hid hany
                clear hno hany
                repeat' (first | (with_reducible first | refine vseq ?_ | refine vthenN ?_ | refine vthenE ?_ | refine vthenR ?_ | refine vret ?_ | refine vskip ?_ | refine vexit ?_ | refine vblock ?_ | refine vblockN ?_ | refine vblockR ?_ | refine vblockH ?_ | refine vrun_nil ?_ | refine vblockE rfl ?_ | refine vregion [] ?_ | refine vhrun_nil ?_) | ((with_reducible refine vcondT ?_ ?_); (focus (go_simp; done))) | ((with_reducible refine vcondF ?_ ?_); (focus (go_simp; done))) | ((with_reducible first | refine vrun_cons fun KK hKK => ?_ | refine vhrun_cons fun KK hKK => ?_); go_simp; (first | (with_reducible refine ⟨_, g1, ?_⟩) | (with_reducible refine ⟨_, g2, ?_⟩) | skip); refine hKK _ ?_; clear hKK KK) | ((refine vdrawL 10 10 [] rfl (by kernel_rfl) (by kernel_rfl) ?_); simp only [List.append, List.take, List.drop]) | ((refine vdrawL 12 12 [] rfl (by kernel_rfl) (by kernel_rfl) ?_); simp only [List.take, List.drop]) | ((with_reducible refine vcondS ?_ (fun ht => ?_) (fun ht => ?_)); (focus (go_simp; done)); (all_goals (simp [go_sem] at ht; replace ht := ht.out))) | ((apply vrun_consG0 rfl); (focus (go_simp <;> exact rfl)); (focus (go_simp; done)); (focus (intro hb0; replace hb0 := hb0.out; go_simp <;> (first | exact rfl | exact g1 | exact g2 | exact ⟨g1, rfl⟩ | exact ⟨g2, rfl⟩))); intro KK hKK; go_simp; refine hKK _ ?_; clear hKK KK) | ((apply vhrun_consG0 rfl); (focus (go_simp <;> exact rfl)); (focus (intro hb0; replace hb0 := hb0.out; go_simp <;> (first | exact rfl | exact g1 | exact g2 | exact ⟨g1, rfl⟩ | exact ⟨g2, rfl⟩))); intro KK hKK; go_simp; refine hKK _ ?_; clear hKK KK))
                apply vfor [0, 1, 2, 9, 10, 11] (fun k => [(12, I k)]) (fun k => ([] : Hp)) ((fun j => decide ((pat ps j).2 = b))) (m + 1)
                · go_simp <;> exact rfl
                · go_simp
                · intro j hj HB2 HPj K2 hK2
                  obtain ⟨y1, y2, y3, y4, y5, y6⟩ := ixs (m := j) (by omega)
                  have hjm : j < ps.length := by omega
                  have hji : (j : Int) < (m : Int) + 1 := by omega
                  have hp := HPj.out
                  simp only [pat_get hjm, decide_eq_false_iff_not] at hp
                  repeat' (first | (with_reducible first | refine vseq ?_ | refine vthenN ?_ | refine vthenE ?_ | refine vthenR ?_ | refine vret ?_ | refine vskip ?_ | refine vexit ?_ | refine vblock ?_ | refine vblockN ?_ | refine vblockR ?_ | refine vblockH ?_ | refine vrun_nil ?_ | refine vblockE rfl ?_ | refine vregion [] ?_ | refine vhrun_nil ?_) | ((with_reducible refine vcondT ?_ ?_); (focus (go_simp; done))) | ((with_reducible refine vcondF ?_ ?_); (focus (go_simp; done))) | ((with_reducible first | refine vrun_cons fun KK hKK => ?_ | refine vhrun_cons fun KK hKK => ?_); go_simp; refine hKK _ ?_; clear hKK KK) | ((refine vdrawL 10 10 [] rfl (by kernel_rfl) (by kernel_rfl) ?_); simp only [List.append, List.take, List.drop]) | ((refine vdrawL 12 12 [] rfl (by kernel_rfl) (by kernel_rfl) ?_); simp only [List.append, List.take, List.drop]) | ((with_reducible refine vcondS ?_ (fun ht => ?_) (fun ht => ?_)); (focus (go_simp; done)); (all_goals (simp [go_sem] at ht; replace ht := ht.out))) | ((apply vrun_consG0 rfl); (focus (go_simp <;> exact rfl)); (focus (go_simp; done)); (focus (intro hb0; replace hb0 := hb0.out; go_simp <;> (first | exact rfl))); intro KK hKK; go_simp; refine hKK _ ?_; clear hKK KK) | ((apply vhrun_consG0 rfl); (focus (go_simp <;> exact rfl)); (focus (intro hb0; replace hb0 := hb0.out; go_simp <;> (first | exact rfl))); intro KK hKK; go_simp; refine hKK _ ?_; clear hKK KK))
                  refine hK2 _ ?_
                  go_simp
                · intro j hj HB2 HPj K2
                  have hjm : j < ps.length := by omega
                  have hji : (j : Int) < (m : Int) + 1 := by omega
                  have hp := HPj.out
                  simp only [pat_get hjm, decide_eq_true_eq] at hp
                  repeat' (first | (with_reducible first | refine vseq ?_ | refine vthenN ?_ | refine vthenE ?_ | refine vthenR ?_ | refine vret ?_ | refine vskip ?_ | refine vexit ?_ | refine vblock ?_ | refine vblockN ?_ | refine vblockR ?_ | refine vblockH ?_ | refine vrun_nil ?_ | refine vblockE rfl ?_ | refine vregion [] ?_ | refine vhrun_nil ?_) | ((with_reducible refine vcondT ?_ ?_); (focus (go_simp; done))) | ((with_reducible refine vcondF ?_ ?_); (focus (go_simp; done))) | ((with_reducible first | refine vrun_cons fun KK hKK => ?_ | refine vhrun_cons fun KK hKK => ?_); go_simp; refine hKK _ ?_; clear hKK KK) | ((refine vdrawL 10 10 [] rfl (by kernel_rfl) (by kernel_rfl) ?_); simp only [List.append, List.take, List.drop]) | ((refine vdrawL 12 12 [] rfl (by kernel_rfl) (by kernel_rfl) ?_); simp only [List.append, List.take, List.drop]) | ((with_reducible refine vcondS ?_ (fun ht => ?_) (fun ht => ?_)); (focus (go_simp; done)); (all_goals (simp [go_sem] at ht; replace ht := ht.out))) | ((apply vrun_consG0 rfl); (focus (go_simp <;> exact rfl)); (focus (go_simp; done)); (focus (intro hb0; replace hb0 := hb0.out; go_simp <;> (first | exact rfl))); intro KK hKK; go_simp; refine hKK _ ?_; clear hKK KK) | ((apply vhrun_consG0 rfl); (focus (go_simp <;> exact rfl)); (focus (intro hb0; replace hb0 := hb0.out; go_simp <;> (first | exact rfl))); intro KK hKK; go_simp; refine hKK _ ?_; clear hKK KK))
                  go_simp
                · intro HB2 K2
                  have := HAny.out
                  simp only [hb] at this
                  rw [anyP_out HB2.out] at this
                  cases this
            · rw [ha, hb, Int.toNat_natCast, Int.toNat_natCast, xat_get hal, xat_get hbl] at hcan
              have q1 := HB0.out.marks a hal
              have q2 := HB0.out.cmarks b hbl
              rw [xat_get hal] at q1
              rw [xat_get hbl] at q2
              have g4 := r_CanBe l[a] c[b] q1.1 q2.1 q2.2 q1.2
              rw [hcan] at g4
              clear i1 i2 HP hcan q1 q2
              rcases k with _ | m
              · clear hno hany
                repeat' (first | (with_reducible first | refine vseq ?_ | refine vthenN ?_ | refine vthenE ?_ | refine vthenR ?_ | refine vret ?_ | refine vskip ?_ | refine vexit ?_ | refine vblock ?_ | refine vblockN ?_ | refine vblockR ?_ | refine vblockH ?_ | refine vrun_nil ?_ | refine vblockE rfl ?_ | refine vregion [] ?_ | refine vhrun_nil ?_) | ((with_reducible refine vcondT ?_ ?_); (focus (go_simp; done))) | ((with_reducible refine vcondF ?_ ?_); (focus (go_simp; done))) | ((with_reducible first | refine vrun_cons fun KK hKK => ?_ | refine vhrun_cons fun KK hKK => ?_); go_simp; (first | (with_reducible refine ⟨_, g1, ?_⟩) | (with_reducible refine ⟨_, g2, ?_⟩) | (with_reducible refine ⟨_, g4, ?_⟩) | skip); refine hKK _ ?_; clear hKK KK) | ((refine vdrawL 10 10 [] rfl (by kernel_rfl) (by kernel_rfl) ?_); simp only [List.append, List.take, List.drop]) | ((refine vdrawL 12 12 [] rfl (by kernel_rfl) (by kernel_rfl) ?_); simp only [List.take, List.drop]) | ((with_reducible refine vcondS ?_ (fun ht => ?_) (fun ht => ?_)); (focus (go_simp; done)); (all_goals (simp [go_sem] at ht; replace ht := ht.out))) | ((apply vrun_consG0 rfl); (focus (go_simp <;> exact rfl)); (focus (go_simp; done)); (focus (intro hb0; replace hb0 := hb0.out; go_simp <;> (first | exact rfl | exact g1 | exact g2 | exact g4 | exact ⟨g1, rfl⟩ | exact ⟨g2, rfl⟩ | exact ⟨g4, rfl⟩))); intro KK hKK; go_simp; refine hKK _ ?_; clear hKK KK) | ((apply vhrun_consG0 rfl); (focus (go_simp <;> exact rfl)); (focus (intro hb0; replace hb0 := hb0.out; go_simp <;> (first | exact rfl | exact g1 | exact g2 | exact g4 | exact ⟨g1, rfl⟩ | exact ⟨g2, rfl⟩ | exact ⟨g4, rfl⟩))); intro KK hKK; go_simp; refine hKK _ ?_; clear hKK KK))
                apply vfor [0, 1, 2, 9, 10, 11] (fun k => [(12, I (0 : Nat))]) (fun k => ([] : Hp)) ((fun _ => false)) (0)
                · go_simp <;> exact rfl
                · go_simp
                · intro j hj
                  omega
                · intro j hj
                  omega
                · intro HB2 K2
                  repeat' (first | (with_reducible first | refine vseq ?_ | refine vthenN ?_ | refine vthenE ?_ | refine vthenR ?_ | refine vret ?_ | refine vskip ?_ | refine vexit ?_ | refine vblock ?_ | refine vblockN ?_ | refine vblockR ?_ | refine vblockH ?_ | refine vrun_nil ?_ | refine vblockE rfl ?_ | refine vregion [] ?_ | refine vhrun_nil ?_) | ((with_reducible refine vcondT ?_ ?_); (focus (go_simp; done))) | ((with_reducible refine vcondF ?_ ?_); (focus (go_simp; done))) | ((with_reducible first | refine vrun_cons fun KK hKK => ?_ | refine vhrun_cons fun KK hKK => ?_); go_simp; (first | (with_reducible refine ⟨_, g4, ?_⟩) | skip); refine hKK _ ?_; clear hKK KK) | ((refine vdrawL 10 10 [] rfl (by kernel_rfl) (by kernel_rfl) ?_); simp only [List.take, List.drop]) | ((refine vdrawL 12 12 [] rfl (by kernel_rfl) (by kernel_rfl) ?_); simp only [List.append, List.take, List.drop]) | ((with_reducible refine vcondS ?_ (fun ht => ?_) (fun ht => ?_)); (focus (go_simp; done)); (all_goals (simp [go_sem] at ht; replace ht := ht.out))) | ((apply vrun_consG0 rfl); (focus (go_simp <;> exact rfl)); (focus (go_simp; done)); (focus (intro hb0; replace hb0 := hb0.out; go_simp <;> (first | exact rfl | exact g4 | exact ⟨g4, rfl⟩))); intro KK hKK; go_simp; refine hKK _ ?_; clear hKK KK) | ((apply vhrun_consG0 rfl); (focus (go_simp <;> exact rfl)); (focus (intro hb0; replace hb0 := hb0.out; go_simp <;> (first | exact rfl | exact g4 | exact ⟨g4, rfl⟩))); intro KK hKK; go_simp; refine hKK _ ?_; clear hKK KK))
                  go_simp
              · obtain ⟨x1, x2, x3, hm⟩ := ixl hk
                obtain ⟨v1, v2, v3, v4, v5, v6⟩ := ixs (m := m) (by omega)
                rw [Nat.add_sub_cancel, pat_get hm] at hno
                have hlt : ¬ (a : Int) ≤ ps[m].1 := fun h => hno ⟨by omega, h⟩
                have HAny := Lib.hid hany
                clear hno hany
                repeat' (first | (with_reducible first | refine vseq ?_ | refine vthenN ?_ | refine vthenE ?_ | refine vthenR ?_ | refine vret ?_ | refine vskip ?_ | refine vexit ?_ | refine vblock ?_ | refine vblockN ?_ | refine vblockR ?_ | refine vblockH ?_ | refine vrun_nil ?_ | refine vblockE rfl ?_ | refine vregion [] ?_ | refine vhrun_nil ?_) | ((with_reducible refine vcondT ?_ ?_); (focus (go_simp; done))) | ((with_reducible refine vcondF ?_ ?_); (focus (go_simp; done))) | ((with_reducible first | refine vrun_cons fun KK hKK => ?_ | refine vhrun_cons fun KK hKK => ?_); go_simp; (first | (with_reducible refine ⟨_, g1, ?_⟩) | (with_reducible refine ⟨_, g2, ?_⟩) | skip); refine hKK _ ?_; clear hKK KK) | ((refine vdrawL 10 10 [] rfl (by kernel_rfl) (by kernel_rfl) ?_); simp only [List.append, List.take, List.drop]) | ((refine vdrawL 12 12 [] rfl (by kernel_rfl) (by kernel_rfl) ?_); simp only [List.take, List.drop]) | ((with_reducible refine vcondS ?_ (fun ht => ?_) (fun ht => ?_)); (focus (go_simp; done)); (all_goals (simp [go_sem] at ht; replace ht := ht.out))) | ((apply vrun_consG0 rfl); (focus (go_simp <;> exact rfl)); (focus (go_simp; done)); (focus (intro hb0; replace hb0 := hb0.out; go_simp <;> (first | exact rfl | exact g1 | exact g2 | exact ⟨g1, rfl⟩ | exact ⟨g2, rfl⟩))); intro KK hKK; go_simp; refine hKK _ ?_; clear hKK KK) | ((apply vhrun_consG0 rfl); (focus (go_simp <;> exact rfl)); (focus (intro hb0; replace hb0 := hb0.out; go_simp <;> (first | exact rfl | exact g1 | exact g2 | exact ⟨g1, rfl⟩ | exact ⟨g2, rfl⟩))); intro KK hKK; go_simp; refine hKK _ ?_; clear hKK KK))
                apply vfor [0, 1, 2, 9, 10, 11] (fun k => [(12, I k)]) (fun k => ([] : Hp)) ((fun j => decide ((pat ps j).2 = b))) (m + 1)
                · go_simp <;> exact rfl
                · go_simp
                · intro j hj HB2 HPj K2 hK2
                  obtain ⟨y1, y2, y3, y4, y5, y6⟩ := ixs (m := j) (by omega)
                  have hjm : j < ps.length := by omega
                  have hji : (j : Int) < (m : Int) + 1 := by omega
                  have hp := HPj.out
                  simp only [pat_get hjm, decide_eq_false_iff_not] at hp
                  repeat' (first | (with_reducible first | refine vseq ?_ | refine vthenN ?_ | refine vthenE ?_ | refine vthenR ?_ | refine vret ?_ | refine vskip ?_ | refine vexit ?_ | refine vblock ?_ | refine vblockN ?_ | refine vblockR ?_ | refine vblockH ?_ | refine vrun_nil ?_ | refine vblockE rfl ?_ | refine vregion [] ?_ | refine vhrun_nil ?_) | ((with_reducible refine vcondT ?_ ?_); (focus (go_simp; done))) | ((with_reducible refine vcondF ?_ ?_); (focus (go_simp; done))) | ((with_reducible first | refine vrun_cons fun KK hKK => ?_ | refine vhrun_cons fun KK hKK => ?_); go_simp; refine hKK _ ?_; clear hKK KK) | ((refine vdrawL 10 10 [] rfl (by kernel_rfl) (by kernel_rfl) ?_); simp only [List.append, List.take, List.drop]) | ((refine vdrawL 12 12 [] rfl (by kernel_rfl) (by kernel_rfl) ?_); simp only [List.append, List.take, List.drop]) | ((with_reducible refine vcondS ?_ (fun ht => ?_) (fun ht => ?_)); (focus (go_simp; done)); (all_goals (simp [go_sem] at ht; replace ht := ht.out))) | ((apply vrun_consG0 rfl); (focus (go_simp <;> exact rfl)); (focus (go_simp; done)); (focus (intro hb0; replace hb0 := hb0.out; go_simp <;> (first | exact rfl))); intro KK hKK; go_simp; refine hKK _ ?_; clear hKK KK) | ((apply vhrun_consG0 rfl); (focus (go_simp <;> exact rfl)); (focus (intro hb0; replace hb0 := hb0.out; go_simp <;> (first | exact rfl))); intro KK hKK; go_simp; refine hKK _ ?_; clear hKK KK))
                  refine hK2 _ ?_
                  go_simp
                · intro j hj HB2 HPj K2
                  have hp := HPj.out
                  have := HAny.out
                  simp only [hb] at this
                  rw [anyP_hit hj hp] at this
                  cases this
                · intro HB2 K2
                  repeat' (first | (with_reducible first | refine vseq ?_ | refine vthenN ?_ | refine vthenE ?_ | refine vthenR ?_ | refine vret ?_ | refine vskip ?_ | refine vexit ?_ | refine vblock ?_ | refine vblockN ?_ | refine vblockR ?_ | refine vblockH ?_ | refine vrun_nil ?_ | refine vblockE rfl ?_ | refine vregion [] ?_ | refine vhrun_nil ?_) | ((with_reducible refine vcondT ?_ ?_); (focus (go_simp; done))) | ((with_reducible refine vcondF ?_ ?_); (focus (go_simp; done))) | ((with_reducible first | refine vrun_cons fun KK hKK => ?_ | refine vhrun_cons fun KK hKK => ?_); go_simp; (first | (with_reducible refine ⟨_, g4, ?_⟩) | skip); refine hKK _ ?_; clear hKK KK) | ((refine vdrawL 10 10 [] rfl (by kernel_rfl) (by kernel_rfl) ?_); simp only [List.take, List.drop]) | ((refine vdrawL 12 12 [] rfl (by kernel_rfl) (by kernel_rfl) ?_); simp only [List.append, List.take, List.drop]) | ((with_reducible refine vcondS ?_ (fun ht => ?_) (fun ht => ?_)); (focus (go_simp; done)); (all_goals (simp [go_sem] at ht; replace ht := ht.out))) | ((apply vrun_consG0 rfl); (focus (go_simp <;> exact rfl)); (focus (go_simp; done)); (focus (intro hb0; replace hb0 := hb0.out; go_simp <;> (first | exact rfl | exact g4 | exact ⟨g4, rfl⟩))); intro KK hKK; go_simp; refine hKK _ ?_; clear hKK KK) | ((apply vhrun_consG0 rfl); (focus (go_simp <;> exact rfl)); (focus (intro hb0; replace hb0 := hb0.out; go_simp <;> (first | exact rfl | exact g4 | exact ⟨g4, rfl⟩))); intro KK hKK; go_simp; refine hKK _ ?_; clear hKK KK))
                  go_simp
      · intro HB K
        have e := HR.out
        rw [firstErr_out HB.out] at e
        subst e
        repeat' (first | (with_reducible first | refine vseq ?_ | refine vthenN ?_ | refine vthenE ?_ | refine vthenR ?_ | refine vret ?_ | refine vskip ?_ | refine vexit ?_ | refine vblock ?_ | refine vblockN ?_ | refine vblockR ?_ | refine vblockH ?_ | refine vrun_nil ?_ | refine vblockE rfl ?_ | refine vregion [] ?_ | refine vhrun_nil ?_) | ((with_reducible refine vcondT ?_ ?_); (focus (go_simp; done))) | ((with_reducible refine vcondF ?_ ?_); (focus (go_simp; done))) | ((with_reducible first | refine vrun_cons fun KK hKK => ?_ | refine vhrun_cons fun KK hKK => ?_); go_simp; refine hKK _ ?_; clear hKK KK) | ((refine vdrawL 10 10 [] rfl (by kernel_rfl) (by kernel_rfl) ?_); simp only [List.append, List.take, List.drop]) | ((refine vdrawL 12 12 [] rfl (by kernel_rfl) (by kernel_rfl) ?_); simp only [List.append, List.take, List.drop]) | ((with_reducible refine vcondS ?_ (fun ht => ?_) (fun ht => ?_)); (focus (go_simp; done)); (all_goals (simp [go_sem] at ht; replace ht := ht.out))) | ((apply vrun_consG0 rfl); (focus (go_simp <;> exact rfl)); (focus (go_simp; done)); (focus (intro hb0; replace hb0 := hb0.out; go_simp <;> (first | exact rfl))); intro KK hKK; go_simp; refine hKK _ ?_; clear hKK KK) | ((apply vhrun_consG0 rfl); (focus (go_simp <;> exact rfl)); (focus (intro hb0; replace hb0 := hb0.out; go_simp <;> (first | exact rfl))); intro KK hKK; go_simp; refine hKK _ ?_; clear hKK KK))
        go_simp
  · have hH : pairsHead l c ps = bothE l c := by
      unfold pairsHead bothE
      unfold bothE at hb
      generalize itemsErr l = E1 at *
      generalize itemsErr c = E2 at *
      simp only [fst] at hb ⊢
      by_cases e1 : E1 = 0 <;> by_cases e2 : E2 = 0 <;> simp_all
    have hE : pairsE l c ps = bothE l c := by unfold pairsE; rw [hH, if_pos hb]
    unfold pairsN
    rw [hE, if_neg hb]
    generalize bothE l c = E at *
    clear hx hc hE hH
    refine VC_of Tryz.func22 rfl (by kernel_rfl) (by kernel_rfl) rfl fun M0 w0 => ?_
    simp only [Tryz.ntmps22, Tryz.results22, enumA]
    repeat' (first | (with_reducible first | refine vseq ?_ | refine vthenN ?_ | refine vthenE ?_ | refine vthenR ?_ | refine vret ?_ | refine vskip ?_ | refine vexit ?_ | refine vblock ?_ | refine vblockN ?_ | refine vblockR ?_ | refine vblockH ?_ | refine vrun_nil ?_ | refine vblockE rfl ?_ | refine vregion [] ?_ | refine vhrun_nil ?_) | ((with_reducible refine vcondT ?_ ?_); (focus (go_simp; done))) | ((with_reducible refine vcondF ?_ ?_); (focus (go_simp; done))) | ((with_reducible first | refine vrun_cons fun KK hKK => ?_ | refine vhrun_cons fun KK hKK => ?_); go_simp; (first | (with_reducible refine ⟨_, h1, ?_⟩) | skip); refine hKK _ ?_; clear hKK KK) | ((refine vdrawL 10 10 [] rfl (by kernel_rfl) (by kernel_rfl) ?_); simp only [List.append, List.take, List.drop]) | ((refine vdrawL 12 12 [] rfl (by kernel_rfl) (by kernel_rfl) ?_); simp only [List.append, List.take, List.drop]) | ((with_reducible refine vcondS ?_ (fun ht => ?_) (fun ht => ?_)); (focus (go_simp; done)); (all_goals (simp [go_sem] at ht; replace ht := ht.out))) | ((apply vrun_consG0 rfl); (focus (go_simp <;> exact rfl)); (focus (go_simp; done)); (focus (intro hb0; replace hb0 := hb0.out; go_simp <;> (first | exact rfl | exact h1 | exact ⟨h1, rfl⟩))); intro KK hKK; go_simp; refine hKK _ ?_; clear hKK KK) | ((apply vhrun_consG0 rfl); (focus (go_simp <;> exact rfl)); (focus (intro hb0; replace hb0 := hb0.out; go_simp <;> (first | exact rfl | exact h1 | exact ⟨h1, rfl⟩))); intro KK hKK; go_simp; refine hKK _ ?_; clear hKK KK))
    go_simp
theorem b_Has (l : List Int) (x : Int) (hl : l.length ≤ 1000000) : VC Tryz.prog 72 [intsA l, I x] (B (hasI l x)) := by
  obtain ⟨R, hR⟩ : ∃ R, hasI l x = R := ⟨_, rfl⟩
  rw [hR]
  have HR := Lib.hid hR
  clear hR
  refine VC_of Tryz.func72 rfl (by kernel_rfl) (by kernel_rfl) rfl fun M0 w0 => ?_
  simp only [Tryz.ntmps72, Tryz.results72, enumA]
  repeat' (first | (with_reducible first | refine vseq ?_ | refine vthenN ?_ | refine vthenE ?_ | refine vthenR ?_ | refine vret ?_ | refine vskip ?_ | refine vexit ?_ | refine vblock ?_ | refine vblockN ?_ | refine vblockR ?_ | refine vblockH ?_ | refine vrun_nil ?_ | refine vblockE rfl ?_ | refine vregion [] ?_ | refine vhrun_nil ?_) | ((with_reducible refine vcondT ?_ ?_); (focus (go_simp; done))) | ((with_reducible refine vcondF ?_ ?_); (focus (go_simp; done))) | ((with_reducible first | refine vrun_cons fun KK hKK => ?_ | refine vhrun_cons fun KK hKK => ?_); go_simp; refine hKK _ ?_; clear hKK KK) | ((with_reducible refine vcondS ?_ (fun ht => ?_) (fun ht => ?_)); (focus (go_simp; done)); (all_goals (simp [go_sem] at ht; replace ht := ht.out))))
  apply vfor [0, 1] (fun k => [(5, I k)]) (fun k => ([] : Hp)) (isI l x) (l.length)
  · go_simp <;> exact rfl
  · go_simp
  · intro k hk HB HP K hK
    obtain ⟨w1, w2, w3, w4, w5, w6⟩ := ixs (m := k) (by omega)
    have hp : ¬ l[k] = x := by
      have := HP.out
      simp only [isI, iat_get hk, decide_eq_false_iff_not] at this
      exact fun h => this h.symm
    repeat' (first | (with_reducible first | refine vseq ?_ | refine vthenN ?_ | refine vthenE ?_ | refine vthenR ?_ | refine vret ?_ | refine vskip ?_ | refine vexit ?_ | refine vblock ?_ | refine vblockN ?_ | refine vblockR ?_ | refine vblockH ?_ | refine vrun_nil ?_ | refine vblockE rfl ?_ | refine vregion [] ?_ | refine vhrun_nil ?_) | ((with_reducible refine vcondT ?_ ?_); (focus (go_simp; done))) | ((with_reducible refine vcondF ?_ ?_); (focus (go_simp; done))) | ((with_reducible first | refine vrun_cons fun KK hKK => ?_ | refine vhrun_cons fun KK hKK => ?_); go_simp; refine hKK _ ?_; clear hKK KK) | ((with_reducible refine vcondS ?_ (fun ht => ?_) (fun ht => ?_)); (focus (go_simp; done)); (all_goals (simp [go_sem] at ht; replace ht := ht.out))))
    refine hK _ ?_
    go_simp
  · intro k hk HB HP K
    have hp : l[k] = x := by
      have := HP.out
      simp only [isI, iat_get hk, decide_eq_true_eq] at this
      exact this.symm
    have e := HR.out
    unfold hasI at e
    rw [anyP_hit hk HP.out] at e
    subst e
    repeat' (first | (with_reducible first | refine vseq ?_ | refine vthenN ?_ | refine vthenE ?_ | refine vthenR ?_ | refine vret ?_ | refine vskip ?_ | refine vexit ?_ | refine vblock ?_ | refine vblockN ?_ | refine vblockR ?_ | refine vblockH ?_ | refine vrun_nil ?_ | refine vblockE rfl ?_ | refine vregion [] ?_ | refine vhrun_nil ?_) | ((with_reducible refine vcondT ?_ ?_); (focus (go_simp; done))) | ((with_reducible refine vcondF ?_ ?_); (focus (go_simp; done))) | ((with_reducible first | refine vrun_cons fun KK hKK => ?_ | refine vhrun_cons fun KK hKK => ?_); go_simp; refine hKK _ ?_; clear hKK KK) | ((with_reducible refine vcondS ?_ (fun ht => ?_) (fun ht => ?_)); (focus (go_simp; done)); (all_goals (simp [go_sem] at ht; replace ht := ht.out))))
    go_simp
  · intro HB K
    have e := HR.out
    unfold hasI at e
    rw [anyP_out HB.out] at e
    subst e
    repeat' (first | (with_reducible first | refine vseq ?_ | refine vthenN ?_ | refine vthenE ?_ | refine vthenR ?_ | refine vret ?_ | refine vskip ?_ | refine vexit ?_ | refine vblock ?_ | refine vblockN ?_ | refine vblockR ?_ | refine vblockH ?_ | refine vrun_nil ?_ | refine vblockE rfl ?_ | refine vregion [] ?_ | refine vhrun_nil ?_) | ((with_reducible refine vcondT ?_ ?_); (focus (go_simp; done))) | ((with_reducible refine vcondF ?_ ?_); (focus (go_simp; done))) | ((with_reducible first | refine vrun_cons fun KK hKK => ?_ | refine vhrun_cons fun KK hKK => ?_); go_simp; refine hKK _ ?_; clear hKK KK) | ((with_reducible refine vcondS ?_ (fun ht => ?_) (fun ht => ?_)); (focus (go_simp; done)); (all_goals (simp [go_sem] at ht; replace ht := ht.out))))
    go_simp
theorem r_numbersErr (l : List Int) (n : Int) (hl : l.length ≤ 1000000) (hn : -1000000 ≤ n ∧ n ≤ 1000000) : VC Tryz.prog 71 [intsA l, I n] (I (numsE l n)) := by
  obtain ⟨R, hR⟩ : ∃ R, numsE l n = R := ⟨_, rfl⟩
  rw [hR]
  unfold numsE at hR
  have HR := Lib.hid hR
  clear hR
  have u1 := wrap_eq (x := n - 1) (by omega) (by omega)
  clear hn
  refine VC_of Tryz.func71 rfl (by kernel_rfl) (by kernel_rfl) rfl fun M0 w0 => ?_
  simp only [Tryz.ntmps71, Tryz.results71, enumA]
  repeat' (first | (with_reducible first | refine vseq ?_ | refine vthenN ?_ | refine vthenE ?_ | refine vthenR ?_ | refine vret ?_ | refine vskip ?_ | refine vexit ?_ | refine vblock ?_ | refine vblockN ?_ | refine vblockR ?_ | refine vblockH ?_ | refine vrun_nil ?_ | refine vblockE rfl ?_ | refine vregion [] ?_ | refine vhrun_nil ?_) | ((with_reducible refine vcondT ?_ ?_); (focus (go_simp; done))) | ((with_reducible refine vcondF ?_ ?_); (focus (go_simp; done))) | ((with_reducible first | refine vrun_cons fun KK hKK => ?_ | refine vhrun_cons fun KK hKK => ?_); go_simp; refine hKK _ ?_; clear hKK KK) | ((refine vdrawL 14 14 [] rfl (by kernel_rfl) (by kernel_rfl) ?_); simp only [List.append, List.take, List.drop]) | ((with_reducible refine vcondS ?_ (fun ht => ?_) (fun ht => ?_)); (focus (go_simp; done)); (all_goals (simp [go_sem] at ht; replace ht := ht.out))) | ((apply vrun_consG0 rfl); (focus (go_simp <;> exact rfl)); (focus (go_simp; done)); (focus (intro hb0; replace hb0 := hb0.out; go_simp <;> (first | exact rfl))); intro KK hKK; go_simp; refine hKK _ ?_; clear hKK KK) | ((apply vhrun_consG0 rfl); (focus (go_simp <;> exact rfl)); (focus (intro hb0; replace hb0 := hb0.out; go_simp <;> (first | exact rfl))); intro KK hKK; go_simp; refine hKK _ ?_; clear hKK KK))
  apply vfor [0, 1] (fun k => [(5, I k)]) (fun k => ([] : Hp)) (bad (numE n l)) (l.length)
  · go_simp <;> exact rfl
  · go_simp
  · intro k hk HB HP K hK
    obtain ⟨w1, w2, w3, w4, w5, w6⟩ := ixs (m := k) (by omega)
    have g1 := b_within l[k] 0 (n - 1)
    have e := bad_no HP.out
    rw [numE_at hk] at e
    have e1 := unl_zero (fst_zero e (unl (inR l[k] 0 (n - 1)) 6) (by simp)) (by decide)
    have e2 := unl_zero (fst_zero e (unl (decide (befI l k < l[k])) 9) (by simp)) (by decide)
    rw [e1] at g1
    rw [decide_eq_true_eq] at e2
    clear e e1
    rcases k with _ | m
    · clear e2
      repeat' (first | (with_reducible first | refine vseq ?_ | refine vthenN ?_ | refine vthenE ?_ | refine vthenR ?_ | refine vret ?_ | refine vskip ?_ | refine vexit ?_ | refine vblock ?_ | refine vblockN ?_ | refine vblockR ?_ | refine vblockH ?_ | refine vrun_nil ?_ | refine vblockE rfl ?_ | refine vregion [] ?_ | refine vhrun_nil ?_) | ((with_reducible refine vcondT ?_ ?_); (focus (go_simp; done))) | ((with_reducible refine vcondF ?_ ?_); (focus (go_simp; done))) | ((with_reducible first | refine vrun_cons fun KK hKK => ?_ | refine vhrun_cons fun KK hKK => ?_); go_simp; (first | (with_reducible refine ⟨_, g1, ?_⟩) | skip); refine hKK _ ?_; clear hKK KK) | ((refine vdrawL 14 14 [] rfl (by kernel_rfl) (by kernel_rfl) ?_); simp only [List.take, List.drop]) | ((with_reducible refine vcondS ?_ (fun ht => ?_) (fun ht => ?_)); (focus (go_simp; done)); (all_goals (simp [go_sem] at ht; replace ht := ht.out))) | ((apply vrun_consG0 rfl); (focus (go_simp <;> exact rfl)); (focus (go_simp; done)); (focus (intro hb0; replace hb0 := hb0.out; go_simp <;> (first | exact rfl | exact g1 | exact ⟨g1, rfl⟩))); intro KK hKK; go_simp; refine hKK _ ?_; clear hKK KK) | ((apply vhrun_consG0 rfl); (focus (go_simp <;> exact rfl)); (focus (intro hb0; replace hb0 := hb0.out; go_simp <;> (first | exact rfl | exact g1 | exact ⟨g1, rfl⟩))); intro KK hKK; go_simp; refine hKK _ ?_; clear hKK KK))
      refine hK _ ?_
      go_simp
    · obtain ⟨x1, x2, x3, hm⟩ := ixl hk
      obtain ⟨v1, v2, v3, v4, v5, v6⟩ := ixs (m := m) (by omega)
      rw [befI_next hm] at e2
      have hlt : ¬ l[m + 1] ≤ l[m] := by omega
      clear e2
      repeat' (first | (with_reducible first | refine vseq ?_ | refine vthenN ?_ | refine vthenE ?_ | refine vthenR ?_ | refine vret ?_ | refine vskip ?_ | refine vexit ?_ | refine vblock ?_ | refine vblockN ?_ | refine vblockR ?_ | refine vblockH ?_ | refine vrun_nil ?_ | refine vblockE rfl ?_ | refine vregion [] ?_ | refine vhrun_nil ?_) | ((with_reducible refine vcondT ?_ ?_); (focus (go_simp; done))) | ((with_reducible refine vcondF ?_ ?_); (focus (go_simp; done))) | ((with_reducible first | refine vrun_cons fun KK hKK => ?_ | refine vhrun_cons fun KK hKK => ?_); go_simp; (first | (with_reducible refine ⟨_, g1, ?_⟩) | skip); refine hKK _ ?_; clear hKK KK) | ((refine vdrawL 14 14 [] rfl (by kernel_rfl) (by kernel_rfl) ?_); simp only [List.take, List.drop]) | ((with_reducible refine vcondS ?_ (fun ht => ?_) (fun ht => ?_)); (focus (go_simp; done)); (all_goals (simp [go_sem] at ht; replace ht := ht.out))) | ((apply vrun_consG0 rfl); (focus (go_simp <;> exact rfl)); (focus (go_simp; done)); (focus (intro hb0; replace hb0 := hb0.out; go_simp <;> (first | exact rfl | exact g1 | exact ⟨g1, rfl⟩))); intro KK hKK; go_simp; refine hKK _ ?_; clear hKK KK) | ((apply vhrun_consG0 rfl); (focus (go_simp <;> exact rfl)); (focus (intro hb0; replace hb0 := hb0.out; go_simp <;> (first | exact rfl | exact g1 | exact ⟨g1, rfl⟩))); intro KK hKK; go_simp; refine hKK _ ?_; clear hKK KK))
      refine hK _ ?_
      go_simp
  · intro k hk HB HP K
    obtain ⟨w1, w2, w3, w4, w5, w6⟩ := ixs (m := k) (by omega)
    have g1 := b_within l[k] 0 (n - 1)
    have e := HR.out
    rw [firstErr_hit hk HB.out HP.out] at e
    simp only at e
    have hne := bad_yes HP.out
    rw [e] at hne
    rw [numE_at hk] at e
    cases hr : inR l[k] 0 (n - 1)
    · rw [hr] at e g1
      have e6 : R = 6 := by rw [← e]; simp [fst, unl]
      subst e6
      clear e hr
      repeat' (first | (with_reducible first | refine vseq ?_ | refine vthenN ?_ | refine vthenE ?_ | refine vthenR ?_ | refine vret ?_ | refine vskip ?_ | refine vexit ?_ | refine vblock ?_ | refine vblockN ?_ | refine vblockR ?_ | refine vblockH ?_ | refine vrun_nil ?_ | refine vblockE rfl ?_ | refine vregion [] ?_ | refine vhrun_nil ?_) | ((with_reducible refine vcondT ?_ ?_); (focus (go_simp; done))) | ((with_reducible refine vcondF ?_ ?_); (focus (go_simp; done))) | ((with_reducible first | refine vrun_cons fun KK hKK => ?_ | refine vhrun_cons fun KK hKK => ?_); go_simp; (first | (with_reducible refine ⟨_, g1, ?_⟩) | skip); refine hKK _ ?_; clear hKK KK) | ((refine vdrawL 14 14 [] rfl (by kernel_rfl) (by kernel_rfl) ?_); simp only [List.append, List.take, List.drop]) | ((with_reducible refine vcondS ?_ (fun ht => ?_) (fun ht => ?_)); (focus (go_simp; done)); (all_goals (simp [go_sem] at ht; replace ht := ht.out))) | ((apply vrun_consG0 rfl); (focus (go_simp <;> exact rfl)); (focus (go_simp; done)); (focus (intro hb0; replace hb0 := hb0.out; go_simp <;> (first | exact rfl | exact g1 | exact ⟨g1, rfl⟩))); intro KK hKK; go_simp; refine hKK _ ?_; clear hKK KK) | ((apply vhrun_consG0 rfl); (focus (go_simp <;> exact rfl)); (focus (intro hb0; replace hb0 := hb0.out; go_simp <;> (first | exact rfl | exact g1 | exact ⟨g1, rfl⟩))); intro KK hKK; go_simp; refine hKK _ ?_; clear hKK KK))
      go_simp
    · rw [hr] at e g1
      by_cases hb : befI l k < l[k]
      · rw [decide_eq_true hb] at e
        exact absurd e.symm hne
      · rw [decide_eq_false hb] at e
        have e9 : R = 9 := by rw [← e]; simp [fst, unl]
        subst e9
        rcases k with _ | m
        · have := inR_iff.1 hr
          have h0 : befI l 0 = -1 := rfl
          omega
        · obtain ⟨x1, x2, x3, hm⟩ := ixl hk
          obtain ⟨v1, v2, v3, v4, v5, v6⟩ := ixs (m := m) (by omega)
          rw [befI_next hm] at hb
          have hle : l[m + 1] ≤ l[m] := by omega
          clear e hb hr
          repeat' (first | (with_reducible first | refine vseq ?_ | refine vthenN ?_ | refine vthenE ?_ | refine vthenR ?_ | refine vret ?_ | refine vskip ?_ | refine vexit ?_ | refine vblock ?_ | refine vblockN ?_ | refine vblockR ?_ | refine vblockH ?_ | refine vrun_nil ?_ | refine vblockE rfl ?_ | refine vregion [] ?_ | refine vhrun_nil ?_) | ((with_reducible refine vcondT ?_ ?_); (focus (go_simp; done))) | ((with_reducible refine vcondF ?_ ?_); (focus (go_simp; done))) | ((with_reducible first | refine vrun_cons fun KK hKK => ?_ | refine vhrun_cons fun KK hKK => ?_); go_simp; (first | (with_reducible refine ⟨_, g1, ?_⟩) | skip); refine hKK _ ?_; clear hKK KK) | ((refine vdrawL 14 14 [] rfl (by kernel_rfl) (by kernel_rfl) ?_); simp only [List.take, List.drop]) | ((with_reducible refine vcondS ?_ (fun ht => ?_) (fun ht => ?_)); (focus (go_simp; done)); (all_goals (simp [go_sem] at ht; replace ht := ht.out))) | ((apply vrun_consG0 rfl); (focus (go_simp <;> exact rfl)); (focus (go_simp; done)); (focus (intro hb0; replace hb0 := hb0.out; go_simp <;> (first | exact rfl | exact g1 | exact ⟨g1, rfl⟩))); intro KK hKK; go_simp; refine hKK _ ?_; clear hKK KK) | ((apply vhrun_consG0 rfl); (focus (go_simp <;> exact rfl)); (focus (intro hb0; replace hb0 := hb0.out; go_simp <;> (first | exact rfl | exact g1 | exact ⟨g1, rfl⟩))); intro KK hKK; go_simp; refine hKK _ ?_; clear hKK KK))
          go_simp
  · intro HB K
    have e := HR.out
    rw [firstErr_out HB.out] at e
    subst e
    repeat' (first | (with_reducible first | refine vseq ?_ | refine vthenN ?_ | refine vthenE ?_ | refine vthenR ?_ | refine vret ?_ | refine vskip ?_ | refine vexit ?_ | refine vblock ?_ | refine vblockN ?_ | refine vblockR ?_ | refine vblockH ?_ | refine vrun_nil ?_ | refine vblockE rfl ?_ | refine vregion [] ?_ | refine vhrun_nil ?_) | ((with_reducible refine vcondT ?_ ?_); (focus (go_simp; done))) | ((with_reducible refine vcondF ?_ ?_); (focus (go_simp; done))) | ((with_reducible first | refine vrun_cons fun KK hKK => ?_ | refine vhrun_cons fun KK hKK => ?_); go_simp; refine hKK _ ?_; clear hKK KK) | ((refine vdrawL 14 14 [] rfl (by kernel_rfl) (by kernel_rfl) ?_); simp only [List.append, List.take, List.drop]) | ((with_reducible refine vcondS ?_ (fun ht => ?_) (fun ht => ?_)); (focus (go_simp; done)); (all_goals (simp [go_sem] at ht; replace ht := ht.out))) | ((apply vrun_consG0 rfl); (focus (go_simp <;> exact rfl)); (focus (go_simp; done)); (focus (intro hb0; replace hb0 := hb0.out; go_simp <;> (first | exact rfl))); intro KK hKK; go_simp; refine hKK _ ?_; clear hKK KK) | ((apply vhrun_consG0 rfl); (focus (go_simp <;> exact rfl)); (focus (intro hb0; replace hb0 := hb0.out; go_simp <;> (first | exact rfl))); intro KK hKK; go_simp; refine hKK _ ?_; clear hKK KK))
    go_simp
def cellP (l c : List Item) (xi xc : List Int) (i k : Nat) : Bool := (canBe (xat l i) (xat c k) && !hasI xi i) && !hasI xc k
theorem cell_any (l c : List Item) (xi xc : List Int) : anyP (fun i => anyP (cellP l c xi xc i) 0 c.length) 0 l.length = anyP (openP l c xi xc) 0 c.length := by
  rw [Bool.eq_iff_iff, anyP_iff, anyP_iff]
  constructor
  · rintro ⟨i, _, h2, h3⟩
    obtain ⟨k, _, k2, k3⟩ := anyP_iff.1 h3
    unfold cellP at k3
    rw [Bool.and_eq_true] at k3
    refine ⟨k, Nat.zero_le _, k2, ?_⟩
    unfold openP
    rw [Bool.and_eq_true]
    exact ⟨k3.2, anyP_iff.2 ⟨i, Nat.zero_le _, h2, k3.1⟩⟩
  · rintro ⟨k, _, h2, h3⟩
    unfold openP at h3
    rw [Bool.and_eq_true] at h3
    obtain ⟨i, _, i2, i3⟩ := anyP_iff.1 h3.2
    refine ⟨i, Nat.zero_le _, i2, anyP_iff.2 ⟨k, Nat.zero_le _, h2, ?_⟩⟩
    unfold cellP
    rw [i3, h3.1]
    rfl
theorem r_CheckCover (l c : List Item) (xi xc : List Int) (hx : SmallX l) (hc : SmallX c) (hi : xi.length ≤ 1000) (hj : xc.length ≤ 1000) : VC Tryz.prog 23 [itemsA l, itemsA c, coverA xi xc] (.tup [I (coverN l c xi xc), I (coverE l c xi xc)]) := by
  have h1 := r_BothErr l c hx hc
  have h3 := r_numbersErr xi l.length (by omega) (by have := hx.few; omega)
  have h4 := r_numbersErr xc c.length (by omega) (by have := hc.few; omega)
  have hH : coverHead l c xi xc = fst [bothE l c, numsE xi l.length, numsE xc c.length] := by
    unfold coverHead bothE
    generalize itemsErr l = E1
    generalize itemsErr c = E2
    by_cases e1 : E1 = 0 <;> by_cases e2 : E2 = 0 <;> simp [fst, e1, e2]
  by_cases hb : bothE l c = 0
  · by_cases n1 : numsE xi l.length = 0
    · by_cases n2 : numsE xc c.length = 0
      · have z1 : itemsErr l = 0 := fst_zero hb _ (by simp)
        have z2 : itemsErr c = 0 := fst_zero hb _ (by simp)
        have BB := both_of hx hc z1 z2
        have hB1 := BB.lfew
        have hB2 := BB.cfew
        have HB0 := Lib.hid BB
        rw [hb, n1, n2] at hH
        have hH0 : coverHead l c xi xc = 0 := hH
        obtain ⟨R, hR⟩ : ∃ R, anyP (fun i => anyP (cellP l c xi xc i) 0 c.length) 0 l.length = R := ⟨_, rfl⟩
        have hE : coverE l c xi xc = if R = true then 20 else 0 := by unfold coverE; rw [if_neg (by simpa using hH0), ← cell_any, hR]
        unfold coverN
        rw [hE]
        have HR := Lib.hid hR
        rw [hb] at h1
        rw [n1] at h3
        rw [n2] at h4
        have u1 := wrap_eq (x := (xi.length : Int) + xc.length) (by omega) (by omega)
        clear z1 z2 n1 n2 hb hH hH0 hE hR BB hx hc
        refine VC_of Tryz.func23 rfl (by kernel_rfl) (by kernel_rfl) rfl fun M0 w0 => ?_
        simp only [Tryz.ntmps23, Tryz.results23, enumA]
        repeat' (first | (with_reducible first | refine vseq ?_ | refine vthenN ?_ | refine vthenE ?_ | refine vthenR ?_ | refine vret ?_ | refine vskip ?_ | refine vexit ?_ | refine vblock ?_ | refine vblockN ?_ | refine vblockR ?_ | refine vblockH ?_ | refine vrun_nil ?_ | refine vblockE rfl ?_ | refine vregion [] ?_ | refine vhrun_nil ?_) | ((with_reducible refine vcondT ?_ ?_); (focus (go_simp; done))) | ((with_reducible refine vcondF ?_ ?_); (focus (go_simp; done))) | ((with_reducible first | refine vrun_cons fun KK hKK => ?_ | refine vhrun_cons fun KK hKK => ?_); go_simp; (first | (with_reducible refine ⟨_, h1, ?_⟩) | (with_reducible refine ⟨_, h3, ?_⟩) | (with_reducible refine ⟨_, h4, ?_⟩) | skip); refine hKK _ ?_; clear hKK KK) | ((refine vdrawL 23 23 [] rfl (by kernel_rfl) (by kernel_rfl) ?_); simp only [List.append, List.take, List.drop]) | ((with_reducible refine vcondS ?_ (fun ht => ?_) (fun ht => ?_)); (focus (go_simp; done)); (all_goals (simp [go_sem] at ht; replace ht := ht.out))) | ((apply vrun_consG0 rfl); (focus (go_simp <;> exact rfl)); (focus (go_simp; done)); (focus (intro hb0; replace hb0 := hb0.out; go_simp <;> (first | exact rfl | exact h1 | exact h3 | exact h4 | exact ⟨h1, rfl⟩ | exact ⟨h3, rfl⟩ | exact ⟨h4, rfl⟩))); intro KK hKK; go_simp; refine hKK _ ?_; clear hKK KK) | ((apply vhrun_consG0 rfl); (focus (go_simp <;> exact rfl)); (focus (intro hb0; replace hb0 := hb0.out; go_simp <;> (first | exact rfl | exact h1 | exact h3 | exact h4 | exact ⟨h1, rfl⟩ | exact ⟨h3, rfl⟩ | exact ⟨h4, rfl⟩))); intro KK hKK; go_simp; refine hKK _ ?_; clear hKK KK))
        apply vfor [0, 1, 5] (fun k => [(11, I k)]) (fun k => ([] : Hp)) ((fun i => anyP (cellP l c xi xc i) 0 c.length)) (l.length)
        · go_simp <;> exact rfl
        · go_simp
        · intro i hi2 HB HP K hK
          obtain ⟨w1, w2, w3, w4, w5, w6⟩ := ixs (m := i) (by omega)
          repeat' (first | (with_reducible first | refine vseq ?_ | refine vthenN ?_ | refine vthenE ?_ | refine vthenR ?_ | refine vret ?_ | refine vskip ?_ | refine vexit ?_ | refine vblock ?_ | refine vblockN ?_ | refine vblockR ?_ | refine vblockH ?_ | refine vrun_nil ?_ | refine vblockE rfl ?_ | refine vregion [] ?_ | refine vhrun_nil ?_) | ((with_reducible refine vcondT ?_ ?_); (focus (go_simp; done))) | ((with_reducible refine vcondF ?_ ?_); (focus (go_simp; done))) | ((with_reducible first | refine vrun_cons fun KK hKK => ?_ | refine vhrun_cons fun KK hKK => ?_); go_simp; refine hKK _ ?_; clear hKK KK) | ((refine vdrawL 23 23 [] rfl (by kernel_rfl) (by kernel_rfl) ?_); simp only [List.append, List.take, List.drop]) | ((with_reducible refine vcondS ?_ (fun ht => ?_) (fun ht => ?_)); (focus (go_simp; done)); (all_goals (simp [go_sem] at ht; replace ht := ht.out))) | ((apply vrun_consG0 rfl); (focus (go_simp <;> exact rfl)); (focus (go_simp; done)); (focus (intro hb0; replace hb0 := hb0.out; go_simp <;> (first | exact rfl))); intro KK hKK; go_simp; refine hKK _ ?_; clear hKK KK) | ((apply vhrun_consG0 rfl); (focus (go_simp <;> exact rfl)); (focus (intro hb0; replace hb0 := hb0.out; go_simp <;> (first | exact rfl))); intro KK hKK; go_simp; refine hKK _ ?_; clear hKK KK))
          apply vfor [0, 1, 5, 11] (fun k => [(12, I k)]) (fun k => ([] : Hp)) (cellP l c xi xc i) (c.length)
          · go_simp <;> exact rfl
          · go_simp
          · intro k hk HB2 HPk K2 hK2
            obtain ⟨v1, v2, v3, v4, v5, v6⟩ := ixs (m := k) (by omega)
            have q1 := HB0.out.marks i hi2
            have q2 := HB0.out.cmarks k hk
            rw [xat_get hi2] at q1
            rw [xat_get hk] at q2
            have g1 := r_CanBe l[i] c[k] q1.1 q2.1 q2.2 q1.2
            have g2 := b_Has xi i (by omega)
            have g3 := b_Has xc k (by omega)
            have hp := HPk.out
            unfold cellP at hp
            rw [xat_get hi2, xat_get hk] at hp
            clear q1 q2
            generalize canBe l[i] c[k] = A at *
            generalize hasI xi i = B1 at *
            generalize hasI xc k = B2 at *
            cases A
            · repeat' (first | (with_reducible first | refine vseq ?_ | refine vthenN ?_ | refine vthenE ?_ | refine vthenR ?_ | refine vret ?_ | refine vskip ?_ | refine vexit ?_ | refine vblock ?_ | refine vblockN ?_ | refine vblockR ?_ | refine vblockH ?_ | refine vrun_nil ?_ | refine vblockE rfl ?_ | refine vregion [] ?_ | refine vhrun_nil ?_) | ((with_reducible refine vcondT ?_ ?_); (focus (go_simp; done))) | ((with_reducible refine vcondF ?_ ?_); (focus (go_simp; done))) | ((with_reducible first | refine vrun_cons fun KK hKK => ?_ | refine vhrun_cons fun KK hKK => ?_); go_simp; (first | (with_reducible refine ⟨_, g1, ?_⟩) | skip); refine hKK _ ?_; clear hKK KK) | ((refine vdrawL 23 23 [] rfl (by kernel_rfl) (by kernel_rfl) ?_); simp only [List.take, List.drop]) | ((with_reducible refine vcondS ?_ (fun ht => ?_) (fun ht => ?_)); (focus (go_simp; done)); (all_goals (simp [go_sem] at ht; replace ht := ht.out))) | ((apply vrun_consG0 rfl); (focus (go_simp <;> exact rfl)); (focus (go_simp; done)); (focus (intro hb0; replace hb0 := hb0.out; go_simp <;> (first | exact rfl | exact g1 | exact ⟨g1, rfl⟩))); intro KK hKK; go_simp; refine hKK _ ?_; clear hKK KK) | ((apply vhrun_consG0 rfl); (focus (go_simp <;> exact rfl)); (focus (intro hb0; replace hb0 := hb0.out; go_simp <;> (first | exact rfl | exact g1 | exact ⟨g1, rfl⟩))); intro KK hKK; go_simp; refine hKK _ ?_; clear hKK KK))
              refine hK2 _ ?_
              go_simp
            · cases B1
              · cases B2
                · cases hp
                · repeat' (first | (with_reducible first | refine vseq ?_ | refine vthenN ?_ | refine vthenE ?_ | refine vthenR ?_ | refine vret ?_ | refine vskip ?_ | refine vexit ?_ | refine vblock ?_ | refine vblockN ?_ | refine vblockR ?_ | refine vblockH ?_ | refine vrun_nil ?_ | refine vblockE rfl ?_ | refine vregion [] ?_ | refine vhrun_nil ?_) | ((with_reducible refine vcondT ?_ ?_); (focus (go_simp; done))) | ((with_reducible refine vcondF ?_ ?_); (focus (go_simp; done))) | ((with_reducible first | refine vrun_cons fun KK hKK => ?_ | refine vhrun_cons fun KK hKK => ?_); go_simp; (first | (with_reducible refine ⟨_, g1, ?_⟩) | (with_reducible refine ⟨_, g2, ?_⟩) | (with_reducible refine ⟨_, g3, ?_⟩) | skip); refine hKK _ ?_; clear hKK KK) | ((refine vdrawL 23 23 [] rfl (by kernel_rfl) (by kernel_rfl) ?_); simp only [List.take, List.drop]) | ((with_reducible refine vcondS ?_ (fun ht => ?_) (fun ht => ?_)); (focus (go_simp; done)); (all_goals (simp [go_sem] at ht; replace ht := ht.out))) | ((apply vrun_consG0 rfl); (focus (go_simp <;> exact rfl)); (focus (go_simp; done)); (focus (intro hb0; replace hb0 := hb0.out; go_simp <;> (first | exact rfl | exact g1 | exact g2 | exact g3 | exact ⟨g1, rfl⟩ | exact ⟨g2, rfl⟩ | exact ⟨g3, rfl⟩))); intro KK hKK; go_simp; refine hKK _ ?_; clear hKK KK) | ((apply vhrun_consG0 rfl); (focus (go_simp <;> exact rfl)); (focus (intro hb0; replace hb0 := hb0.out; go_simp <;> (first | exact rfl | exact g1 | exact g2 | exact g3 | exact ⟨g1, rfl⟩ | exact ⟨g2, rfl⟩ | exact ⟨g3, rfl⟩))); intro KK hKK; go_simp; refine hKK _ ?_; clear hKK KK))
                  refine hK2 _ ?_
                  go_simp
              · repeat' (first | (with_reducible first | refine vseq ?_ | refine vthenN ?_ | refine vthenE ?_ | refine vthenR ?_ | refine vret ?_ | refine vskip ?_ | refine vexit ?_ | refine vblock ?_ | refine vblockN ?_ | refine vblockR ?_ | refine vblockH ?_ | refine vrun_nil ?_ | refine vblockE rfl ?_ | refine vregion [] ?_ | refine vhrun_nil ?_) | ((with_reducible refine vcondT ?_ ?_); (focus (go_simp; done))) | ((with_reducible refine vcondF ?_ ?_); (focus (go_simp; done))) | ((with_reducible first | refine vrun_cons fun KK hKK => ?_ | refine vhrun_cons fun KK hKK => ?_); go_simp; (first | (with_reducible refine ⟨_, g1, ?_⟩) | (with_reducible refine ⟨_, g2, ?_⟩) | skip); refine hKK _ ?_; clear hKK KK) | ((refine vdrawL 23 23 [] rfl (by kernel_rfl) (by kernel_rfl) ?_); simp only [List.take, List.drop]) | ((with_reducible refine vcondS ?_ (fun ht => ?_) (fun ht => ?_)); (focus (go_simp; done)); (all_goals (simp [go_sem] at ht; replace ht := ht.out))) | ((apply vrun_consG0 rfl); (focus (go_simp <;> exact rfl)); (focus (go_simp; done)); (focus (intro hb0; replace hb0 := hb0.out; go_simp <;> (first | exact rfl | exact g1 | exact g2 | exact ⟨g1, rfl⟩ | exact ⟨g2, rfl⟩))); intro KK hKK; go_simp; refine hKK _ ?_; clear hKK KK) | ((apply vhrun_consG0 rfl); (focus (go_simp <;> exact rfl)); (focus (intro hb0; replace hb0 := hb0.out; go_simp <;> (first | exact rfl | exact g1 | exact g2 | exact ⟨g1, rfl⟩ | exact ⟨g2, rfl⟩))); intro KK hKK; go_simp; refine hKK _ ?_; clear hKK KK))
                refine hK2 _ ?_
                go_simp
          · intro k hk HB2 HPk K2
            have := HP.out
            rw [anyP_hit hk HPk.out] at this
            cases this
          · intro HB2 K2
            repeat' (first | (with_reducible first | refine vseq ?_ | refine vthenN ?_ | refine vthenE ?_ | refine vthenR ?_ | refine vret ?_ | refine vskip ?_ | refine vexit ?_ | refine vblock ?_ | refine vblockN ?_ | refine vblockR ?_ | refine vblockH ?_ | refine vrun_nil ?_ | refine vblockE rfl ?_ | refine vregion [] ?_ | refine vhrun_nil ?_) | ((with_reducible refine vcondT ?_ ?_); (focus (go_simp; done))) | ((with_reducible refine vcondF ?_ ?_); (focus (go_simp; done))) | ((with_reducible first | refine vrun_cons fun KK hKK => ?_ | refine vhrun_cons fun KK hKK => ?_); go_simp; refine hKK _ ?_; clear hKK KK) | ((refine vdrawL 23 23 [] rfl (by kernel_rfl) (by kernel_rfl) ?_); simp only [List.append, List.take, List.drop]) | ((with_reducible refine vcondS ?_ (fun ht => ?_) (fun ht => ?_)); (focus (go_simp; done)); (all_goals (simp [go_sem] at ht; replace ht := ht.out))) | ((apply vrun_consG0 rfl); (focus (go_simp <;> exact rfl)); (focus (go_simp; done)); (focus (intro hb0; replace hb0 := hb0.out; go_simp <;> (first | exact rfl))); intro KK hKK; go_simp; refine hKK _ ?_; clear hKK KK) | ((apply vhrun_consG0 rfl); (focus (go_simp <;> exact rfl)); (focus (intro hb0; replace hb0 := hb0.out; go_simp <;> (first | exact rfl))); intro KK hKK; go_simp; refine hKK _ ?_; clear hKK KK))
            refine hK _ ?_
            go_simp
        · intro i hi2 HB HP K
          have e := HR.out
          rw [anyP_hit hi2 HP.out] at e
          subst e
          repeat' (first | (with_reducible first | refine vseq ?_ | refine vthenN ?_ | refine vthenE ?_ | refine vthenR ?_ | refine vret ?_ | refine vskip ?_ | refine vexit ?_ | refine vblock ?_ | refine vblockN ?_ | refine vblockR ?_ | refine vblockH ?_ | refine vrun_nil ?_ | refine vblockE rfl ?_ | refine vregion [] ?_ | refine vhrun_nil ?_) | ((with_reducible refine vcondT ?_ ?_); (focus (go_simp; done))) | ((with_reducible refine vcondF ?_ ?_); (focus (go_simp; done))) | ((with_reducible first | refine vrun_cons fun KK hKK => ?_ | refine vhrun_cons fun KK hKK => ?_); go_simp; refine hKK _ ?_; clear hKK KK) | ((refine vdrawL 23 23 [] rfl (by kernel_rfl) (by kernel_rfl) ?_); simp only [List.append, List.take, List.drop]) | ((with_reducible refine vcondS ?_ (fun ht => ?_) (fun ht => ?_)); (focus (go_simp; done)); (all_goals (simp [go_sem] at ht; replace ht := ht.out))) | ((apply vrun_consG0 rfl); (focus (go_simp <;> exact rfl)); (focus (go_simp; done)); (focus (intro hb0; replace hb0 := hb0.out; go_simp <;> (first | exact rfl))); intro KK hKK; go_simp; refine hKK _ ?_; clear hKK KK) | ((apply vhrun_consG0 rfl); (focus (go_simp <;> exact rfl)); (focus (intro hb0; replace hb0 := hb0.out; go_simp <;> (first | exact rfl))); intro KK hKK; go_simp; refine hKK _ ?_; clear hKK KK))
          apply vfor [0, 1, 5, 11] (fun k => [(12, I k)]) (fun k => ([] : Hp)) (cellP l c xi xc i) (c.length)
          · go_simp <;> exact rfl
          · go_simp
          · intro k hk HB2 HPk K2 hK2
            obtain ⟨v1, v2, v3, v4, v5, v6⟩ := ixs (m := k) (by omega)
            have q1 := HB0.out.marks i hi2
            have q2 := HB0.out.cmarks k hk
            rw [xat_get hi2] at q1
            rw [xat_get hk] at q2
            have g1 := r_CanBe l[i] c[k] q1.1 q2.1 q2.2 q1.2
            have g2 := b_Has xi i (by omega)
            have g3 := b_Has xc k (by omega)
            have hp := HPk.out
            unfold cellP at hp
            rw [xat_get hi2, xat_get hk] at hp
            clear q1 q2
            generalize canBe l[i] c[k] = A at *
            generalize hasI xi i = B1 at *
            generalize hasI xc k = B2 at *
            cases A
            · repeat' (first | (with_reducible first | refine vseq ?_ | refine vthenN ?_ | refine vthenE ?_ | refine vthenR ?_ | refine vret ?_ | refine vskip ?_ | refine vexit ?_ | refine vblock ?_ | refine vblockN ?_ | refine vblockR ?_ | refine vblockH ?_ | refine vrun_nil ?_ | refine vblockE rfl ?_ | refine vregion [] ?_ | refine vhrun_nil ?_) | ((with_reducible refine vcondT ?_ ?_); (focus (go_simp; done))) | ((with_reducible refine vcondF ?_ ?_); (focus (go_simp; done))) | ((with_reducible first | refine vrun_cons fun KK hKK => ?_ | refine vhrun_cons fun KK hKK => ?_); go_simp; (first | (with_reducible refine ⟨_, g1, ?_⟩) | skip); refine hKK _ ?_; clear hKK KK) | ((refine vdrawL 23 23 [] rfl (by kernel_rfl) (by kernel_rfl) ?_); simp only [List.take, List.drop]) | ((with_reducible refine vcondS ?_ (fun ht => ?_) (fun ht => ?_)); (focus (go_simp; done)); (all_goals (simp [go_sem] at ht; replace ht := ht.out))) | ((apply vrun_consG0 rfl); (focus (go_simp <;> exact rfl)); (focus (go_simp; done)); (focus (intro hb0; replace hb0 := hb0.out; go_simp <;> (first | exact rfl | exact g1 | exact ⟨g1, rfl⟩))); intro KK hKK; go_simp; refine hKK _ ?_; clear hKK KK) | ((apply vhrun_consG0 rfl); (focus (go_simp <;> exact rfl)); (focus (intro hb0; replace hb0 := hb0.out; go_simp <;> (first | exact rfl | exact g1 | exact ⟨g1, rfl⟩))); intro KK hKK; go_simp; refine hKK _ ?_; clear hKK KK))
              refine hK2 _ ?_
              go_simp
            · cases B1
              · cases B2
                · cases hp
                · repeat' (first | (with_reducible first | refine vseq ?_ | refine vthenN ?_ | refine vthenE ?_ | refine vthenR ?_ | refine vret ?_ | refine vskip ?_ | refine vexit ?_ | refine vblock ?_ | refine vblockN ?_ | refine vblockR ?_ | refine vblockH ?_ | refine vrun_nil ?_ | refine vblockE rfl ?_ | refine vregion [] ?_ | refine vhrun_nil ?_) | ((with_reducible refine vcondT ?_ ?_); (focus (go_simp; done))) | ((with_reducible refine vcondF ?_ ?_); (focus (go_simp; done))) | ((with_reducible first | refine vrun_cons fun KK hKK => ?_ | refine vhrun_cons fun KK hKK => ?_); go_simp; (first | (with_reducible refine ⟨_, g1, ?_⟩) | (with_reducible refine ⟨_, g2, ?_⟩) | (with_reducible refine ⟨_, g3, ?_⟩) | skip); refine hKK _ ?_; clear hKK KK) | ((refine vdrawL 23 23 [] rfl (by kernel_rfl) (by kernel_rfl) ?_); simp only [List.take, List.drop]) | ((with_reducible refine vcondS ?_ (fun ht => ?_) (fun ht => ?_)); (focus (go_simp; done)); (all_goals (simp [go_sem] at ht; replace ht := ht.out))) | ((apply vrun_consG0 rfl); (focus (go_simp <;> exact rfl)); (focus (go_simp; done)); (focus (intro hb0; replace hb0 := hb0.out; go_simp <;> (first | exact rfl | exact g1 | exact g2 | exact g3 | exact ⟨g1, rfl⟩ | exact ⟨g2, rfl⟩ | exact ⟨g3, rfl⟩))); intro KK hKK; go_simp; refine hKK _ ?_; clear hKK KK) | ((apply vhrun_consG0 rfl); (focus (go_simp <;> exact rfl)); (focus (intro hb0; replace hb0 := hb0.out; go_simp <;> (first | exact rfl | exact g1 | exact g2 | exact g3 | exact ⟨g1, rfl⟩ | exact ⟨g2, rfl⟩ | exact ⟨g3, rfl⟩))); intro KK hKK; go_simp; refine hKK _ ?_; clear hKK KK))
                  refine hK2 _ ?_
                  go_simp
              · repeat' (first | (with_reducible first | refine vseq ?_ | refine vthenN ?_ | refine vthenE ?_ | refine vthenR ?_ | refine vret ?_ | refine vskip ?_ | refine vexit ?_ | refine vblock ?_ | refine vblockN ?_ | refine vblockR ?_ | refine vblockH ?_ | refine vrun_nil ?_ | refine vblockE rfl ?_ | refine vregion [] ?_ | refine vhrun_nil ?_) | ((with_reducible refine vcondT ?_ ?_); (focus (go_simp; done))) | ((with_reducible refine vcondF ?_ ?_); (focus (go_simp; done))) | ((with_reducible first | refine vrun_cons fun KK hKK => ?_ | refine vhrun_cons fun KK hKK => ?_); go_simp; (first | (with_reducible refine ⟨_, g1, ?_⟩) | (with_reducible refine ⟨_, g2, ?_⟩) | skip); refine hKK _ ?_; clear hKK KK) | ((refine vdrawL 23 23 [] rfl (by kernel_rfl) (by kernel_rfl) ?_); simp only [List.take, List.drop]) | ((with_reducible refine vcondS ?_ (fun ht => ?_) (fun ht => ?_)); (focus (go_simp; done)); (all_goals (simp [go_sem] at ht; replace ht := ht.out))) | ((apply vrun_consG0 rfl); (focus (go_simp <;> exact rfl)); (focus (go_simp; done)); (focus (intro hb0; replace hb0 := hb0.out; go_simp <;> (first | exact rfl | exact g1 | exact g2 | exact ⟨g1, rfl⟩ | exact ⟨g2, rfl⟩))); intro KK hKK; go_simp; refine hKK _ ?_; clear hKK KK) | ((apply vhrun_consG0 rfl); (focus (go_simp <;> exact rfl)); (focus (intro hb0; replace hb0 := hb0.out; go_simp <;> (first | exact rfl | exact g1 | exact g2 | exact ⟨g1, rfl⟩ | exact ⟨g2, rfl⟩))); intro KK hKK; go_simp; refine hKK _ ?_; clear hKK KK))
                refine hK2 _ ?_
                go_simp
          · intro k hk HB2 HPk K2
            have q1 := HB0.out.marks i hi2
            have q2 := HB0.out.cmarks k hk
            rw [xat_get hi2] at q1
            rw [xat_get hk] at q2
            have g1 := r_CanBe l[i] c[k] q1.1 q2.1 q2.2 q1.2
            have g2 := b_Has xi i (by omega)
            have g3 := b_Has xc k (by omega)
            have hp := HPk.out
            unfold cellP at hp
            rw [xat_get hi2, xat_get hk, Bool.and_eq_true, Bool.and_eq_true, Bool.not_eq_true', Bool.not_eq_true'] at hp
            rw [hp.1.1] at g1
            rw [hp.1.2] at g2
            rw [hp.2] at g3
            clear q1 q2 hp
            repeat' (first | (with_reducible first | refine vseq ?_ | refine vthenN ?_ | refine vthenE ?_ | refine vthenR ?_ | refine vret ?_ | refine vskip ?_ | refine vexit ?_ | refine vblock ?_ | refine vblockN ?_ | refine vblockR ?_ | refine vblockH ?_ | refine vrun_nil ?_ | refine vblockE rfl ?_ | refine vregion [] ?_ | refine vhrun_nil ?_) | ((with_reducible refine vcondT ?_ ?_); (focus (go_simp; done))) | ((with_reducible refine vcondF ?_ ?_); (focus (go_simp; done))) | ((with_reducible first | refine vrun_cons fun KK hKK => ?_ | refine vhrun_cons fun KK hKK => ?_); go_simp; (first | (with_reducible refine ⟨_, g1, ?_⟩) | (with_reducible refine ⟨_, g2, ?_⟩) | (with_reducible refine ⟨_, g3, ?_⟩) | skip); refine hKK _ ?_; clear hKK KK) | ((refine vdrawL 23 23 [] rfl (by kernel_rfl) (by kernel_rfl) ?_); simp only [List.take, List.drop]) | ((with_reducible refine vcondS ?_ (fun ht => ?_) (fun ht => ?_)); (focus (go_simp; done)); (all_goals (simp [go_sem] at ht; replace ht := ht.out))) | ((apply vrun_consG0 rfl); (focus (go_simp <;> exact rfl)); (focus (go_simp; done)); (focus (intro hb0; replace hb0 := hb0.out; go_simp <;> (first | exact rfl | exact g1 | exact g2 | exact g3 | exact ⟨g1, rfl⟩ | exact ⟨g2, rfl⟩ | exact ⟨g3, rfl⟩))); intro KK hKK; go_simp; refine hKK _ ?_; clear hKK KK) | ((apply vhrun_consG0 rfl); (focus (go_simp <;> exact rfl)); (focus (intro hb0; replace hb0 := hb0.out; go_simp <;> (first | exact rfl | exact g1 | exact g2 | exact g3 | exact ⟨g1, rfl⟩ | exact ⟨g2, rfl⟩ | exact ⟨g3, rfl⟩))); intro KK hKK; go_simp; refine hKK _ ?_; clear hKK KK))
            go_simp
          · intro HB2 K2
            have := HP.out
            rw [anyP_out HB2.out] at this
            cases this
        · intro HB K
          have e := HR.out
          rw [anyP_out HB.out] at e
          subst e
          repeat' (first | (with_reducible first | refine vseq ?_ | refine vthenN ?_ | refine vthenE ?_ | refine vthenR ?_ | refine vret ?_ | refine vskip ?_ | refine vexit ?_ | refine vblock ?_ | refine vblockN ?_ | refine vblockR ?_ | refine vblockH ?_ | refine vrun_nil ?_ | refine vblockE rfl ?_ | refine vregion [] ?_ | refine vhrun_nil ?_) | ((with_reducible refine vcondT ?_ ?_); (focus (go_simp; done))) | ((with_reducible refine vcondF ?_ ?_); (focus (go_simp; done))) | ((with_reducible first | refine vrun_cons fun KK hKK => ?_ | refine vhrun_cons fun KK hKK => ?_); go_simp; refine hKK _ ?_; clear hKK KK) | ((refine vdrawL 23 23 [] rfl (by kernel_rfl) (by kernel_rfl) ?_); simp only [List.append, List.take, List.drop]) | ((with_reducible refine vcondS ?_ (fun ht => ?_) (fun ht => ?_)); (focus (go_simp; done)); (all_goals (simp [go_sem] at ht; replace ht := ht.out))) | ((apply vrun_consG0 rfl); (focus (go_simp <;> exact rfl)); (focus (go_simp; done)); (focus (intro hb0; replace hb0 := hb0.out; go_simp <;> (first | exact rfl))); intro KK hKK; go_simp; refine hKK _ ?_; clear hKK KK) | ((apply vhrun_consG0 rfl); (focus (go_simp <;> exact rfl)); (focus (intro hb0; replace hb0 := hb0.out; go_simp <;> (first | exact rfl))); intro KK hKK; go_simp; refine hKK _ ?_; clear hKK KK))
          go_simp
      · rw [hb, n1] at hH
        have hH0 : coverHead l c xi xc = numsE xc c.length := by rw [hH]; simp [fst, n2]
        have hE : coverE l c xi xc = numsE xc c.length := by unfold coverE; rw [hH0, if_pos n2]
        unfold coverN
        rw [hE, if_neg n2]
        rw [hb] at h1
        rw [n1] at h3
        generalize numsE xc c.length = E at *
        clear hb n1 hH hH0 hE hx hc
        refine VC_of Tryz.func23 rfl (by kernel_rfl) (by kernel_rfl) rfl fun M0 w0 => ?_
        simp only [Tryz.ntmps23, Tryz.results23, enumA]
        repeat' (first | (with_reducible first | refine vseq ?_ | refine vthenN ?_ | refine vthenE ?_ | refine vthenR ?_ | refine vret ?_ | refine vskip ?_ | refine vexit ?_ | refine vblock ?_ | refine vblockN ?_ | refine vblockR ?_ | refine vblockH ?_ | refine vrun_nil ?_ | refine vblockE rfl ?_ | refine vregion [] ?_ | refine vhrun_nil ?_) | ((with_reducible refine vcondT ?_ ?_); (focus (go_simp; done))) | ((with_reducible refine vcondF ?_ ?_); (focus (go_simp; done))) | ((with_reducible first | refine vrun_cons fun KK hKK => ?_ | refine vhrun_cons fun KK hKK => ?_); go_simp; (first | (with_reducible refine ⟨_, h1, ?_⟩) | (with_reducible refine ⟨_, h3, ?_⟩) | (with_reducible refine ⟨_, h4, ?_⟩) | skip); refine hKK _ ?_; clear hKK KK) | ((refine vdrawL 23 23 [] rfl (by kernel_rfl) (by kernel_rfl) ?_); simp only [List.append, List.take, List.drop]) | ((with_reducible refine vcondS ?_ (fun ht => ?_) (fun ht => ?_)); (focus (go_simp; done)); (all_goals (simp [go_sem] at ht; replace ht := ht.out))) | ((apply vrun_consG0 rfl); (focus (go_simp <;> exact rfl)); (focus (go_simp; done)); (focus (intro hb0; replace hb0 := hb0.out; go_simp <;> (first | exact rfl | exact h1 | exact h3 | exact h4 | exact ⟨h1, rfl⟩ | exact ⟨h3, rfl⟩ | exact ⟨h4, rfl⟩))); intro KK hKK; go_simp; refine hKK _ ?_; clear hKK KK) | ((apply vhrun_consG0 rfl); (focus (go_simp <;> exact rfl)); (focus (intro hb0; replace hb0 := hb0.out; go_simp <;> (first | exact rfl | exact h1 | exact h3 | exact h4 | exact ⟨h1, rfl⟩ | exact ⟨h3, rfl⟩ | exact ⟨h4, rfl⟩))); intro KK hKK; go_simp; refine hKK _ ?_; clear hKK KK))
        go_simp
    · rw [hb] at hH
      have hH0 : coverHead l c xi xc = numsE xi l.length := by rw [hH]; simp [fst, n1]
      have hE : coverE l c xi xc = numsE xi l.length := by unfold coverE; rw [hH0, if_pos n1]
      unfold coverN
      rw [hE, if_neg n1]
      rw [hb] at h1
      generalize numsE xi l.length = E at *
      clear hb hH hH0 hE hx hc h4
      refine VC_of Tryz.func23 rfl (by kernel_rfl) (by kernel_rfl) rfl fun M0 w0 => ?_
      simp only [Tryz.ntmps23, Tryz.results23, enumA]
      repeat' (first | (with_reducible first | refine vseq ?_ | refine vthenN ?_ | refine vthenE ?_ | refine vthenR ?_ | refine vret ?_ | refine vskip ?_ | refine vexit ?_ | refine vblock ?_ | refine vblockN ?_ | refine vblockR ?_ | refine vblockH ?_ | refine vrun_nil ?_ | refine vblockE rfl ?_ | refine vregion [] ?_ | refine vhrun_nil ?_) | ((with_reducible refine vcondT ?_ ?_); (focus (go_simp; done))) | ((with_reducible refine vcondF ?_ ?_); (focus (go_simp; done))) | ((with_reducible first | refine vrun_cons fun KK hKK => ?_ | refine vhrun_cons fun KK hKK => ?_); go_simp; (first | (with_reducible refine ⟨_, h1, ?_⟩) | (with_reducible refine ⟨_, h3, ?_⟩) | skip); refine hKK _ ?_; clear hKK KK) | ((refine vdrawL 23 23 [] rfl (by kernel_rfl) (by kernel_rfl) ?_); simp only [List.append, List.take, List.drop]) | ((with_reducible refine vcondS ?_ (fun ht => ?_) (fun ht => ?_)); (focus (go_simp; done)); (all_goals (simp [go_sem] at ht; replace ht := ht.out))) | ((apply vrun_consG0 rfl); (focus (go_simp <;> exact rfl)); (focus (go_simp; done)); (focus (intro hb0; replace hb0 := hb0.out; go_simp <;> (first | exact rfl | exact h1 | exact h3 | exact ⟨h1, rfl⟩ | exact ⟨h3, rfl⟩))); intro KK hKK; go_simp; refine hKK _ ?_; clear hKK KK) | ((apply vhrun_consG0 rfl); (focus (go_simp <;> exact rfl)); (focus (intro hb0; replace hb0 := hb0.out; go_simp <;> (first | exact rfl | exact h1 | exact h3 | exact ⟨h1, rfl⟩ | exact ⟨h3, rfl⟩))); intro KK hKK; go_simp; refine hKK _ ?_; clear hKK KK))
      go_simp
  · have hH0 : coverHead l c xi xc = bothE l c := by rw [hH]; simp [fst, hb]
    have hE : coverE l c xi xc = bothE l c := by unfold coverE; rw [hH0, if_pos hb]
    unfold coverN
    rw [hE, if_neg hb]
    generalize bothE l c = E at *
    clear hH hH0 hE hx hc h3 h4
    refine VC_of Tryz.func23 rfl (by kernel_rfl) (by kernel_rfl) rfl fun M0 w0 => ?_
    simp only [Tryz.ntmps23, Tryz.results23, enumA]
    repeat' (first | (with_reducible first | refine vseq ?_ | refine vthenN ?_ | refine vthenE ?_ | refine vthenR ?_ | refine vret ?_ | refine vskip ?_ | refine vexit ?_ | refine vblock ?_ | refine vblockN ?_ | refine vblockR ?_ | refine vblockH ?_ | refine vrun_nil ?_ | refine vblockE rfl ?_ | refine vregion [] ?_ | refine vhrun_nil ?_) | ((with_reducible refine vcondT ?_ ?_); (focus (go_simp; done))) | ((with_reducible refine vcondF ?_ ?_); (focus (go_simp; done))) | ((with_reducible first | refine vrun_cons fun KK hKK => ?_ | refine vhrun_cons fun KK hKK => ?_); go_simp; (first | (with_reducible refine ⟨_, h1, ?_⟩) | skip); refine hKK _ ?_; clear hKK KK) | ((refine vdrawL 23 23 [] rfl (by kernel_rfl) (by kernel_rfl) ?_); simp only [List.append, List.take, List.drop]) | ((with_reducible refine vcondS ?_ (fun ht => ?_) (fun ht => ?_)); (focus (go_simp; done)); (all_goals (simp [go_sem] at ht; replace ht := ht.out))) | ((apply vrun_consG0 rfl); (focus (go_simp <;> exact rfl)); (focus (go_simp; done)); (focus (intro hb0; replace hb0 := hb0.out; go_simp <;> (first | exact rfl | exact h1 | exact ⟨h1, rfl⟩))); intro KK hKK; go_simp; refine hKK _ ?_; clear hKK KK) | ((apply vhrun_consG0 rfl); (focus (go_simp <;> exact rfl)); (focus (intro hb0; replace hb0 := hb0.out; go_simp <;> (first | exact rfl | exact h1 | exact ⟨h1, rfl⟩))); intro KK hKK; go_simp; refine hKK _ ?_; clear hKK KK))
    go_simp
end Go.Proofs.YthbgghmjbaldlaaGreatDoor
