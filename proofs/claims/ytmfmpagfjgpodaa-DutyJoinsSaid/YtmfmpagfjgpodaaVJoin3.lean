/- The law of joined records on plain values: it gives true; no condition. -/
import Derived.Test.YtmfmpagfjgpodaaVSort2
namespace Go.Proofs.Ytmfmpagfjgpodaa
open Go.RowKit
set_option maxRecDepth 100000
theorem twoD.symm {a b : List Rec} (h : twoD a b) : twoD b a := by
  obtain ⟨h1, h2, h3⟩ := h
  exact ⟨h2, h1, fun h => h3 h.symm⟩
theorem Ovl.symm {a b : List Rec} (h : Ovl a b) : Ovl b a := by
  obtain ⟨x, hx, y, hy, ho⟩ := h
  refine ⟨y, hy, x, hx, ?_⟩
  unfold ov at *
  rw [Bool.and_comm]
  exact ho
theorem sort_facts (a b : List Rec) : (sortP (a ++ b)).length = a.length + b.length := by rw [sortP_len, List.length_append]
theorem v62ovl (a b : List Rec) (hla : a.length ≤ 1000) (hlb : b.length ≤ 1000) (hda : Small a) (hdb : Small b) (h1 : Right true a) (h2 : Right true b) (h : ¬ twoD a b) (ho : Ovl a b) : VC Try.prog 62 [recsA a, recsA b] (.tup [.lit (.slice none 0 0), I 26]) := by
  have hw := join_wrong (right_aft h1).1 (right_aft h2).1 (sortP_spec (a ++ b)).1 ho
  exact v62fin a b (sortP (a ++ b)) hla hlb hda hdb h1 h2 h (o116 a b hla hlb) (fun _ => w117 (a ++ b) (by simp; omega)) v117n (sort_facts a b) _ (fun _ => rfl) (fun h => absurd h hw) (fun h => absurd h hw)
theorem v62many (a b : List Rec) (hla : a.length ≤ 1000) (hlb : b.length ≤ 1000) (hda : Small a) (hdb : Small b) (h1 : Right true a) (h2 : Right true b) (h : ¬ twoD a b) (ho : ¬ Ovl a b) (h40 : 40 < a.length + b.length) : VC Try.prog 62 [recsA a, recsA b] (.tup [.lit (.slice none 0 0), I 8]) := by
  have hw := join_right (right_aft h1).1 (right_aft h2).1 (right_aft h1).2 (right_aft h2).2 (sortP_spec (a ++ b)).1 (sortP_spec (a ++ b)).2 ho
  exact v62fin a b (sortP (a ++ b)) hla hlb hda hdb h1 h2 h (o116 a b hla hlb) (fun _ => w117 (a ++ b) (by simp; omega)) v117n (sort_facts a b) _ (fun h => absurd hw.2 h) (fun _ _ => rfl) (fun _ h => absurd (by rw [sort_facts]; exact h40) h)
theorem v62ok (a b : List Rec) (hla : a.length ≤ 1000) (hlb : b.length ≤ 1000) (hda : Small a) (hdb : Small b) (h1 : Right true a) (h2 : Right true b) (h : ¬ twoD a b) (ho : ¬ Ovl a b) (h40 : ¬ 40 < a.length + b.length) : VC Try.prog 62 [recsA a, recsA b] (.tup [recsA (mergeL a b), I 0]) := by
  have hw := join_right (right_aft h1).1 (right_aft h2).1 (right_aft h1).2 (right_aft h2).2 (sortP_spec (a ++ b)).1 (sortP_spec (a ++ b)).2 ho
  have := v62fin a b (sortP (a ++ b)) hla hlb hda hdb h1 h2 h (o116 a b hla hlb) (fun _ => w117 (a ++ b) (by simp; omega)) v117n (sort_facts a b) (.tup [recsA (sortP (a ++ b)), I 0]) (fun h => absurd hw.2 h) (fun _ h => absurd (by rwa [sort_facts] at h) h40) (fun _ _ => rfl)
  rwa [hw.1] at this
theorem joins (a b : List Rec) (hla : a.length ≤ 1000) (hlb : b.length ≤ 1000) (hda : Small a) (hdb : Small b) (h1 : Right true a) (h2 : Right true b) :
    ∃ (e : Int) (X : AV), VC Try.prog 62 [recsA a, recsA b] (.tup [X, I e]) ∧ VC Try.prog 63 [recsA a, recsA b] (.tup [X, I e]) ∧ VC Try.prog 62 [recsA b, recsA a] (.tup [X, I e]) ∧ VC Try.prog 64 [X, X] (B true) ∧ (X = .lit (.slice none 0 0) ∨ ∃ L, X = recsA L) := by
  by_cases ht : twoD a b
  · exact ⟨13, .lit (.slice none 0 0), v62two a b hla hlb hda hdb h1 h2 ht, v63two a b ht, v62two b a hlb hla hdb hda h2 h1 ht.symm, v64n, .inl rfl⟩
  · have ht' : ¬ twoD b a := fun h => ht h.symm
    by_cases ho : Ovl a b
    · exact ⟨26, .lit (.slice none 0 0), v62ovl a b hla hlb hda hdb h1 h2 ht ho, v63ovl a b hla hlb ht ho, v62ovl b a hlb hla hdb hda h2 h1 ht' ho.symm, v64n, .inl rfl⟩
    · have ho' : ¬ Ovl b a := fun h => ho h.symm
      have h63 := v63pre a b hla hlb ht ho
      by_cases h40 : 40 < a.length + b.length
      · rw [if_pos h40] at h63
        exact ⟨8, .lit (.slice none 0 0), v62many a b hla hlb hda hdb h1 h2 ht ho h40, h63, v62many b a hlb hla hdb hda h2 h1 ht' ho' (by omega), v64n, .inl rfl⟩
      · rw [if_neg h40] at h63
        have hab := mergeL_perm _ a b (Nat.le_refl _)
        have hba := mergeL_perm _ b a (Nat.le_refl _)
        have e : mergeL a b = mergeL b a := by
          refine aft_eq ?_ (mergeL_aft _ a b (Nat.le_refl _) (right_aft h1).1 (right_aft h2).1 (right_aft h1).2 (right_aft h2).2 fun x hx y hy => not_ovl ho hx hy) (mergeL_aft _ b a (Nat.le_refl _) (right_aft h2).1 (right_aft h1).1 (right_aft h2).2 (right_aft h1).2 fun x hx y hy => not_ovl ho' hx hy) (hab.trans (List.perm_append_comm.trans hba.symm))
          intro x hx
          rcases List.mem_append.1 (hab.mem_iff.1 hx) with h | h
          · exact (right_aft h1).1 x h
          · exact (right_aft h2).1 x h
        have h62b := v62ok b a hlb hla hdb hda h2 h1 ht' ho' (by omega)
        rw [← e] at h62b
        exact ⟨0, recsA (mergeL a b), v62ok a b hla hlb hda hdb h1 h2 ht ho h40, h63, h62b, v64 _ (by rw [hab.length_eq, List.length_append]; omega), .inr ⟨_, rfl⟩⟩
theorem VC_nil2 {P : Program} {f : FuncId} {x r : AV} {sz : Nat} (h : VC P f [x, .sl sz []] r) : VC P f [x, .lit (.slice none 0 0)] r :=
  ⟨h.1, fun w M vs hM hl hv => h.2 w M vs hM hl fun i c v hc hvv => by
    rcases i with _ | _ | i
    · exact hv 0 c v hc hvv
    · simp only [List.getElem?_cons_succ, List.getElem?_cons_zero, Option.some.injEq] at hc
      subst hc
      have := V0.lit_inv (hv 1 _ v rfl hvv)
      subst this
      exact .slNil _ _ _
    · simp at hc⟩
theorem v62none (a : List Rec) (hla : a.length ≤ 1000) (hda : Small a) (h1 : Right true a) : VC Try.prog 62 [recsA a, .lit (.slice none 0 0)] (.tup [recsA a, I 0]) := by
  have := v62ok a [] hla (by simp) hda (fun x hx => by simp at hx) h1 rfl (fun ⟨_, h, _⟩ => by simp at h) (fun ⟨_, _, _, h, _⟩ => by simp at h) (by have := h1.len; simp; omega)
  rw [mergeL_nil] at this
  exact VC_nil2 this
theorem v14 (a b : List Rec) (hla : a.length ≤ 9223372036854775807) (hda : ∀ x ∈ a, x.driver.size ≤ 9223372036854775807) (hlb : b.length ≤ 9223372036854775807) (hdb : ∀ x ∈ b, x.driver.size ≤ 9223372036854775807) : VC Try.prog 14 [recsA a, recsA b] (B true) := by
  refine VC_of Try.func14 rfl (by kernel_rfl) (by kernel_rfl) rfl fun M0 w0 => ?_
  simp only [Try.ntmps14, Try.results14, enumA]
  cases hfa : fewP a
  · repeat (first | (with_reducible refine vseq ?_) | (with_reducible refine vthenN ?_) | (with_reducible refine vthenE ?_) | (with_reducible refine vthenR ?_) | (with_reducible refine vret ?_) | (with_reducible refine vskip ?_) | (with_reducible refine vexit ?_) | (with_reducible refine vblock ?_) | (with_reducible refine vblockN ?_) | (with_reducible refine vblockR ?_) | (with_reducible refine vblockH ?_) | (with_reducible refine vrun_nil ?_) | (with_reducible refine vblockE rfl ?_) | (with_reducible refine vregion [] ?_) | (with_reducible refine vhrun_nil ?_) | ((with_reducible refine vcondT ?_ ?_); (focus (go_simp; done))) | ((with_reducible refine vcondF ?_ ?_); (focus (go_simp; done))) | ((with_reducible refine vrun_cons fun KK hKK => ?_); go_simp; (first | (with_reducible refine ⟨_, v17, ?_⟩) | (with_reducible refine ⟨_, v18 a hla hda, ?_⟩) | skip); refine hKK _ ?_; clear hKK KK) | ((with_reducible refine vhrun_cons fun KK hKK => ?_); go_simp; (first | (with_reducible refine ⟨_, v17, ?_⟩) | (with_reducible refine ⟨_, v18 a hla hda, ?_⟩) | skip); refine hKK _ ?_; clear hKK KK))
    go_simp
  · cases hfb : fewP b
    · repeat (first | (with_reducible refine vseq ?_) | (with_reducible refine vthenN ?_) | (with_reducible refine vthenE ?_) | (with_reducible refine vthenR ?_) | (with_reducible refine vret ?_) | (with_reducible refine vskip ?_) | (with_reducible refine vexit ?_) | (with_reducible refine vblock ?_) | (with_reducible refine vblockN ?_) | (with_reducible refine vblockR ?_) | (with_reducible refine vblockH ?_) | (with_reducible refine vrun_nil ?_) | (with_reducible refine vblockE rfl ?_) | (with_reducible refine vregion [] ?_) | (with_reducible refine vhrun_nil ?_) | ((with_reducible refine vcondT ?_ ?_); (focus (go_simp; done))) | ((with_reducible refine vcondF ?_ ?_); (focus (go_simp; done))) | ((with_reducible refine vrun_cons fun KK hKK => ?_); go_simp; (first | (with_reducible refine ⟨_, v17, ?_⟩) | (with_reducible refine ⟨_, v18 a hla hda, ?_⟩) | (with_reducible refine ⟨_, v18 b hlb hdb, ?_⟩) | skip); refine hKK _ ?_; clear hKK KK) | ((with_reducible refine vhrun_cons fun KK hKK => ?_); go_simp; (first | (with_reducible refine ⟨_, v17, ?_⟩) | (with_reducible refine ⟨_, v18 a hla hda, ?_⟩) | (with_reducible refine ⟨_, v18 b hlb hdb, ?_⟩) | skip); refine hKK _ ?_; clear hKK KK))
      go_simp
    · obtain ⟨hsa, hla2, _⟩ := fewP_small hfa
      obtain ⟨hsb, hlb2, _⟩ := fewP_small hfb
      have h20a := Lib.hid (VC_of_own (o20 a (by omega)))
      have h20b := Lib.hid (VC_of_own (o20 b (by omega)))
      have h21a := Lib.hid (v21 (l := a) (by omega) hsa)
      have h21b := Lib.hid (v21 (l := b) (by omega) hsb)
      by_cases hE : (checkRecs true a).2 = 0 ∧ (checkRecs true b).2 = 0
      · obtain ⟨e, X, h1, h2, h3, h4, hX⟩ := joins a b (by omega) (by omega) hsa hsb hE.1 hE.2
        have H5 := Lib.hid (v62none a (by omega) hsa hE.1)
        have H6 := Lib.hid (v64 a (by omega))
        obtain ⟨e1, e2⟩ := hE
        clear hsa hsb
        generalize checkRecs true a = E1 at *
        generalize checkRecs true b = E2 at *
        rcases hX with rfl | ⟨L, rfl⟩
        all_goals
          have H1 := Lib.hid h1
          have H2 := Lib.hid h2
          have H3 := Lib.hid h3
          have H4 := Lib.hid h4
          clear h1 h2 h3 h4
          repeat (first | (with_reducible refine vseq ?_) | (with_reducible refine vthenN ?_) | (with_reducible refine vthenE ?_) | (with_reducible refine vthenR ?_) | (with_reducible refine vret ?_) | (with_reducible refine vskip ?_) | (with_reducible refine vexit ?_) | (with_reducible refine vblock ?_) | (with_reducible refine vblockN ?_) | (with_reducible refine vblockR ?_) | (with_reducible refine vblockH ?_) | (with_reducible refine vrun_nil ?_) | (with_reducible refine vblockE rfl ?_) | (with_reducible refine vregion [] ?_) | (with_reducible refine vhrun_nil ?_) | ((with_reducible refine vcondT ?_ ?_); (focus (go_simp; done))) | ((with_reducible refine vcondF ?_ ?_); (focus (go_simp; done))) | ((with_reducible refine vrun_cons fun KK hKK => ?_); go_simp; (first | (with_reducible refine ⟨_, v17, ?_⟩) | (with_reducible refine ⟨_, v18 a hla hda, ?_⟩) | (with_reducible refine ⟨_, v18 b hlb hdb, ?_⟩) | (refine ⟨_, h20a.out, ?_⟩) | (refine ⟨_, h20b.out, ?_⟩) | (refine ⟨_, H1.out, ?_⟩) | (refine ⟨_, H2.out, ?_⟩) | (refine ⟨_, H3.out, ?_⟩) | (refine ⟨_, H4.out, ?_⟩) | (refine ⟨_, H5.out, ?_⟩) | (refine ⟨_, H6.out, ?_⟩) | (refine ⟨_, h21a.out, ?_⟩) | (refine ⟨_, h21b.out, ?_⟩) | skip); refine hKK _ ?_; clear hKK KK) | ((with_reducible refine vhrun_cons fun KK hKK => ?_); go_simp; (first | (with_reducible refine ⟨_, v17, ?_⟩) | (with_reducible refine ⟨_, v18 a hla hda, ?_⟩) | (with_reducible refine ⟨_, v18 b hlb hdb, ?_⟩) | (refine ⟨_, h20a.out, ?_⟩) | (refine ⟨_, h20b.out, ?_⟩) | (refine ⟨_, H1.out, ?_⟩) | (refine ⟨_, H2.out, ?_⟩) | (refine ⟨_, H3.out, ?_⟩) | (refine ⟨_, H4.out, ?_⟩) | (refine ⟨_, H5.out, ?_⟩) | (refine ⟨_, H6.out, ?_⟩) | (refine ⟨_, h21a.out, ?_⟩) | (refine ⟨_, h21b.out, ?_⟩) | skip); refine hKK _ ?_; clear hKK KK))
          go_simp
      · have H1 := Lib.hid (v62err a b (by omega) (by omega) hsa hsb hE)
        clear hsa hsb
        generalize checkRecs true a = E1 at *
        generalize checkRecs true b = E2 at *
        by_cases e1 : E1.2 = 0
        · have e2 : ¬ E2.2 = 0 := fun h => hE ⟨e1, h⟩
          clear hE
          repeat (first | (with_reducible refine vseq ?_) | (with_reducible refine vthenN ?_) | (with_reducible refine vthenE ?_) | (with_reducible refine vthenR ?_) | (with_reducible refine vret ?_) | (with_reducible refine vskip ?_) | (with_reducible refine vexit ?_) | (with_reducible refine vblock ?_) | (with_reducible refine vblockN ?_) | (with_reducible refine vblockR ?_) | (with_reducible refine vblockH ?_) | (with_reducible refine vrun_nil ?_) | (with_reducible refine vblockE rfl ?_) | (with_reducible refine vregion [] ?_) | (with_reducible refine vhrun_nil ?_) | ((with_reducible refine vcondT ?_ ?_); (focus (go_simp; done))) | ((with_reducible refine vcondF ?_ ?_); (focus (go_simp; done))) | ((with_reducible refine vrun_cons fun KK hKK => ?_); go_simp; (first | (with_reducible refine ⟨_, v17, ?_⟩) | (with_reducible refine ⟨_, v18 a hla hda, ?_⟩) | (with_reducible refine ⟨_, v18 b hlb hdb, ?_⟩) | (refine ⟨_, h20a.out, ?_⟩) | (refine ⟨_, h20b.out, ?_⟩) | (refine ⟨_, H1.out, ?_⟩) | (refine ⟨_, h21a.out, ?_⟩) | (refine ⟨_, h21b.out, ?_⟩) | skip); refine hKK _ ?_; clear hKK KK) | ((with_reducible refine vhrun_cons fun KK hKK => ?_); go_simp; (first | (with_reducible refine ⟨_, v17, ?_⟩) | (with_reducible refine ⟨_, v18 a hla hda, ?_⟩) | (with_reducible refine ⟨_, v18 b hlb hdb, ?_⟩) | (refine ⟨_, h20a.out, ?_⟩) | (refine ⟨_, h20b.out, ?_⟩) | (refine ⟨_, H1.out, ?_⟩) | (refine ⟨_, h21a.out, ?_⟩) | (refine ⟨_, h21b.out, ?_⟩) | skip); refine hKK _ ?_; clear hKK KK))
          go_simp
        · clear hE
          repeat (first | (with_reducible refine vseq ?_) | (with_reducible refine vthenN ?_) | (with_reducible refine vthenE ?_) | (with_reducible refine vthenR ?_) | (with_reducible refine vret ?_) | (with_reducible refine vskip ?_) | (with_reducible refine vexit ?_) | (with_reducible refine vblock ?_) | (with_reducible refine vblockN ?_) | (with_reducible refine vblockR ?_) | (with_reducible refine vblockH ?_) | (with_reducible refine vrun_nil ?_) | (with_reducible refine vblockE rfl ?_) | (with_reducible refine vregion [] ?_) | (with_reducible refine vhrun_nil ?_) | ((with_reducible refine vcondT ?_ ?_); (focus (go_simp; done))) | ((with_reducible refine vcondF ?_ ?_); (focus (go_simp; done))) | ((with_reducible refine vrun_cons fun KK hKK => ?_); go_simp; (first | (with_reducible refine ⟨_, v17, ?_⟩) | (with_reducible refine ⟨_, v18 a hla hda, ?_⟩) | (with_reducible refine ⟨_, v18 b hlb hdb, ?_⟩) | (refine ⟨_, h20a.out, ?_⟩) | (refine ⟨_, h20b.out, ?_⟩) | (refine ⟨_, H1.out, ?_⟩) | (refine ⟨_, h21a.out, ?_⟩) | (refine ⟨_, h21b.out, ?_⟩) | skip); refine hKK _ ?_; clear hKK KK) | ((with_reducible refine vhrun_cons fun KK hKK => ?_); go_simp; (first | (with_reducible refine ⟨_, v17, ?_⟩) | (with_reducible refine ⟨_, v18 a hla hda, ?_⟩) | (with_reducible refine ⟨_, v18 b hlb hdb, ?_⟩) | (refine ⟨_, h20a.out, ?_⟩) | (refine ⟨_, h20b.out, ?_⟩) | (refine ⟨_, H1.out, ?_⟩) | (refine ⟨_, h21a.out, ?_⟩) | (refine ⟨_, h21b.out, ?_⟩) | skip); refine hKK _ ?_; clear hKK KK))
          go_simp
end Go.Proofs.Ytmfmpagfjgpodaa
