/- Walks on plain values: the law of the longest trip; records with texts of at most 1000 bytes. -/
import Derived.Test.YtmfmpagfjgpodaaVAllow2
import Derived.Test.YtmfmpagfjgpodaaVLongP
namespace Go.Proofs.Ytmfmpagfjgpodaa
open Go.RowKit
set_option maxRecDepth 100000
theorem v94 (n : Int) (hn : -10000000000 ≤ n ∧ n ≤ 10000000000) : VC Try.prog 94 [I n, I 2] (I (n / 2)) := by
  have hq : n.tdiv 2 = if n.tmod 2 < 0 then n / 2 + 1 else n / 2 := by
    rcases Int.le_total 0 n with h | h
    · rw [Int.tdiv_eq_ediv_of_nonneg h, if_neg (by have := Int.tmod_nonneg 2 h; omega)]
    · have h1 : n.tdiv 2 = -((-n) / 2) := by rw [← Int.tdiv_eq_ediv_of_nonneg (show 0 ≤ -n by omega), Int.neg_tdiv, Int.neg_neg]
      have h2 : n.tmod 2 = n - 2 * n.tdiv 2 := by have := Int.mul_tdiv_add_tmod n 2; omega
      rw [h2, h1]
      split <;> omega
  have hb : -10000000000 ≤ n / 2 ∧ n / 2 ≤ 10000000000 := by omega
  refine VC_of Try.func94 rfl (by kernel_rfl) (by kernel_rfl) rfl fun M0 w0 => ?_
  simp only [Try.ntmps94, Try.results94, enumA]
  by_cases h : n.tmod 2 < 0
  · rw [if_pos h] at hq
    have hw1 := wrap_eq (x := n.tdiv 2) (by omega) (by omega)
    have hw2 := wrap_eq (x := n.tdiv 2 - 1) (by omega) (by omega)
    have HQ := Lib.hid (show n.tdiv 2 - 1 = n / 2 by omega)
    clear hq
    repeat (first | (with_reducible refine vseq ?_) | (with_reducible refine vthenN ?_) | (with_reducible refine vthenE ?_) | (with_reducible refine vthenR ?_) | (with_reducible refine vret ?_) | (with_reducible refine vskip ?_) | (with_reducible refine vexit ?_) | (with_reducible refine vblock ?_) | (with_reducible refine vblockN ?_) | (with_reducible refine vblockR ?_) | (with_reducible refine vblockH ?_) | (with_reducible refine vrun_nil ?_) | (with_reducible refine vblockE rfl ?_) | (with_reducible refine vregion [] ?_) | (with_reducible refine vhrun_nil ?_) | ((with_reducible refine vcondT ?_ ?_); (focus (go_simp; done))) | ((with_reducible refine vcondF ?_ ?_); (focus (go_simp; done))) | ((with_reducible refine vrun_cons fun KK hKK => ?_); go_simp; refine hKK _ ?_; clear hKK KK) | ((with_reducible refine vhrun_cons fun KK hKK => ?_); go_simp; refine hKK _ ?_; clear hKK KK))
    have := HQ.out
    go_simp
  · rw [if_neg h] at hq
    have hw1 := wrap_eq (x := n.tdiv 2) (by omega) (by omega)
    have HQ := Lib.hid hq
    clear hq
    repeat (first | (with_reducible refine vseq ?_) | (with_reducible refine vthenN ?_) | (with_reducible refine vthenE ?_) | (with_reducible refine vthenR ?_) | (with_reducible refine vret ?_) | (with_reducible refine vskip ?_) | (with_reducible refine vexit ?_) | (with_reducible refine vblock ?_) | (with_reducible refine vblockN ?_) | (with_reducible refine vblockR ?_) | (with_reducible refine vblockH ?_) | (with_reducible refine vrun_nil ?_) | (with_reducible refine vblockE rfl ?_) | (with_reducible refine vregion [] ?_) | (with_reducible refine vhrun_nil ?_) | ((with_reducible refine vcondT ?_ ?_); (focus (go_simp; done))) | ((with_reducible refine vcondF ?_ ?_); (focus (go_simp; done))) | ((with_reducible refine vrun_cons fun KK hKK => ?_); go_simp; refine hKK _ ?_; clear hKK KK) | ((with_reducible refine vhrun_cons fun KK hKK => ?_); go_simp; refine hKK _ ?_; clear hKK KK))
    have := HQ.out
    go_simp
theorem v87 (n : Int) (hn : 0 ≤ n ∧ n ≤ 10000000000) : VC Try.prog 87 [I n, I 2] (I ((n + 1) / 2)) := by
  have h1 := v94 (-n) (by omega)
  have hw1 := wrap_eq (x := -n) (by omega) (by omega)
  generalize hq : (-n) / 2 = q at h1
  have hw2 := wrap_eq (x := -q) (by omega) (by omega)
  have HQ := Lib.hid (show -q = (n + 1) / 2 by omega)
  have H1 := Lib.hid h1
  clear hq h1
  rw [← HQ.out]
  refine VC_of Try.func87 rfl (by kernel_rfl) (by kernel_rfl) rfl fun M0 w0 => ?_
  simp only [Try.ntmps87, Try.results87, enumA]
  repeat (first | (with_reducible refine vseq ?_) | (with_reducible refine vthenN ?_) | (with_reducible refine vthenE ?_) | (with_reducible refine vthenR ?_) | (with_reducible refine vret ?_) | (with_reducible refine vskip ?_) | (with_reducible refine vexit ?_) | (with_reducible refine vblock ?_) | (with_reducible refine vblockN ?_) | (with_reducible refine vblockR ?_) | (with_reducible refine vblockH ?_) | (with_reducible refine vrun_nil ?_) | (with_reducible refine vblockE rfl ?_) | (with_reducible refine vregion [] ?_) | (with_reducible refine vhrun_nil ?_) | ((with_reducible refine vcondT ?_ ?_); (focus (go_simp; done))) | ((with_reducible refine vcondF ?_ ?_); (focus (go_simp; done))) | ((with_reducible refine vrun_cons fun KK hKK => ?_); go_simp; (first | (with_reducible refine ⟨_, H1.out, ?_⟩) | skip); refine hKK _ ?_; clear hKK KK) | ((with_reducible refine vhrun_cons fun KK hKK => ?_); go_simp; (first | (with_reducible refine ⟨_, H1.out, ?_⟩) | skip); refine hKK _ ?_; clear hKK KK))
  go_simp
/-- The greatest length. -/
theorem long_facts {one : Bool} {r : Rul} {l : List Rec} (h : Right one l) {start : Int} (he : endOf l ≤ start) : ∃ n : Nat, n ≤ 200000 ∧ (searchP (fun m => breaksP r l start (-1) m != 0) 200001 0 200001 : Int) - 1 = n ∧ breaksP r l start (-1) n = 0 ∧ (n = 200000 ∨ breaksP r l start (-1) ((n : Int) + 1) ≠ 0) := by
  obtain ⟨s1, s2, s3⟩ := search_spec (p := fun m => breaksP r l start (-1) m != 0) (N := 200001) 200001 0 200001 (by omega) (by omega) (Nat.le_refl _) (fun a b hab hb hp => by
    simp only [bne_iff_ne] at hp ⊢
    exact breaks_mono h he (by omega) (by omega) (by omega) hp) (fun k hk => absurd hk (Nat.not_lt_zero k)) (.inl rfl)
  generalize searchP (fun m => breaksP r l start (-1) m != 0) 200001 0 200001 = R at *
  have hR : R ≠ 0 := fun hR => by
    subst hR
    rcases s2 with h2 | h2
    · omega
    · simp only [bne_iff_ne] at h2
      exact h2 (breaks_zero r l start)
  refine ⟨R - 1, by omega, by omega, ?_, ?_⟩
  · have := s1 (R - 1) (by omega)
    simpa only [bne_eq_false_iff_eq] using this
  · rcases s2 with h2 | h2
    · exact .inl (by omega)
    · simp only [bne_iff_ne] at h2
      have e : ((R - 1 : Nat) : Int) + 1 = R := by omega
      rw [e]
      exact .inr h2
theorem v28 (l : List Rec) (r : Rul) (start : Int) (h : tripErrP r l ⟨start, 0, 0, -1⟩ = 0) : VC Try.prog 28 [.agg r.av, recsA l, I start] (I ((searchP (fun m => breaksP r l start (-1) m != 0) 200001 0 200001 : Int) - 1)) := by
  obtain ⟨h1, h2, h3, h4, h5, h6, h7, h8, h9⟩ := tripRight h
  have hR := (bothErr_zero h1).2
  have h84 := fun (m : Int) (hm : 0 ≤ m ∧ m ≤ 200000) => v84 l r ⟨start, 0, 0, -1⟩ m hR h3 h8 hm h7
  have HL := Lib.hid fun (n : Nat) (hn : n ≤ 200000) h0 h1 => long_is (r := r) hR h8 (n := n) hn h0 h1
  have H84 := Lib.hid h84
  clear h h1 h2 h3 h4 h5 h6 h7 h8 h9 hR h84
  generalize hS : (searchP (fun m => breaksP r l start (-1) m != 0) 200001 0 200001 : Int) - 1 = R
  rw [hS] at HL
  clear hS
  refine VC_of Try.func28 rfl (by kernel_rfl) (by kernel_rfl) rfl fun M0 w0 => ?_
  simp only [Try.ntmps28, Try.results28, enumA]
  repeat (first | (with_reducible refine vseq ?_) | (with_reducible refine vthenN ?_) | (with_reducible refine vthenE ?_) | (with_reducible refine vthenR ?_) | (with_reducible refine vret ?_) | (with_reducible refine vskip ?_) | (with_reducible refine vexit ?_) | (with_reducible refine vblock ?_) | (with_reducible refine vblockN ?_) | (with_reducible refine vblockR ?_) | (with_reducible refine vblockH ?_) | (with_reducible refine vrun_nil ?_) | (with_reducible refine vblockE rfl ?_) | (with_reducible refine vregion [] ?_) | (with_reducible refine vhrun_nil ?_) | ((with_reducible refine vcondT ?_ ?_); (focus (go_simp; done))) | ((with_reducible refine vcondF ?_ ?_); (focus (go_simp; done))) | ((with_reducible refine vrun_cons fun KK hKK => ?_); go_simp; refine hKK _ ?_; clear hKK KK) | ((with_reducible refine vhrun_cons fun KK hKK => ?_); go_simp; refine hKK _ ?_; clear hKK KK))
  refine vloop (α := Nat × Nat) (fun q => ⟨[(8, I q.1), (9, I q.2), (3, .vp r.av), (1, recsA l), (7, .ref 0 0)], [some (.box [I start, I 0, I 0, I (-1)])]⟩) (fun q => q.1 ≤ q.2 ∧ q.2 ≤ 200000 ∧ Hid (breaksP r l start (-1) q.1 = 0) ∧ Hid (q.2 = 200000 ∨ breaksP r l start (-1) ((q.2 : Int) + 1) ≠ 0)) (fun q => q.2 - q.1) (0, 200000) ⟨by simp, by simp, Lib.hid (breaks_zero r l start), Lib.hid (.inl rfl)⟩ (by go_simp) ?_
  rintro ⟨lo, hi⟩ ⟨b1, b2, hb1, hb2⟩ K hR
  simp only at b1 b2 hb1 hb2 hR ⊢
  by_cases hlt : lo < hi
  · have hlt' : (lo : Int) < hi := by omega
    have hw1 := wrap_eq (x := (lo : Int) + hi) (by omega) (by omega)
    have h87 := v87 ((lo : Int) + hi) (by omega)
    obtain ⟨m, hm⟩ : ∃ m : Nat, ((lo : Int) + hi + 1) / 2 = m := ⟨(lo + hi + 1) / 2, by omega⟩
    rw [hm] at h87
    have hm1 : lo < m := by omega
    have hm2 : m ≤ hi := by omega
    have H87 := Lib.hid h87
    have h84 := Lib.hid (H84.out m (by omega))
    have hw2 := wrap_eq (x := (m : Int) - 1) (by omega) (by omega)
    clear hm h87
    by_cases hb : breaksP r l start (-1) m = 0
    · repeat (first | (with_reducible refine vseq ?_) | (with_reducible refine vthenN ?_) | (with_reducible refine vthenE ?_) | (with_reducible refine vthenR ?_) | (with_reducible refine vret ?_) | (with_reducible refine vskip ?_) | (with_reducible refine vexit ?_) | (with_reducible refine vblock ?_) | (with_reducible refine vblockN ?_) | (with_reducible refine vblockR ?_) | (with_reducible refine vblockH ?_) | (with_reducible refine vrun_nil ?_) | (with_reducible refine vblockE rfl ?_) | (with_reducible refine vregion [] ?_) | (with_reducible refine vhrun_nil ?_) | ((with_reducible refine vcondT ?_ ?_); (focus (go_simp; done))) | ((with_reducible refine vcondF ?_ ?_); (focus (go_simp; done))) | ((with_reducible refine vrun_cons fun KK hKK => ?_); go_simp; (first | (with_reducible refine ⟨_, H87.out, ?_⟩) | (refine ⟨_, h84.out, ?_⟩) | skip); refine hKK _ ?_; clear hKK KK) | ((with_reducible refine vhrun_cons fun KK hKK => ?_); go_simp; (first | (with_reducible refine ⟨_, H87.out, ?_⟩) | (refine ⟨_, h84.out, ?_⟩) | skip); refine hKK _ ?_; clear hKK KK))
      refine hR _ (m, hi) ⟨hm2, b2, Lib.hid hb, hb2⟩ (by simp only; omega) ?_
      go_simp
    · repeat (first | (with_reducible refine vseq ?_) | (with_reducible refine vthenN ?_) | (with_reducible refine vthenE ?_) | (with_reducible refine vthenR ?_) | (with_reducible refine vret ?_) | (with_reducible refine vskip ?_) | (with_reducible refine vexit ?_) | (with_reducible refine vblock ?_) | (with_reducible refine vblockN ?_) | (with_reducible refine vblockR ?_) | (with_reducible refine vblockH ?_) | (with_reducible refine vrun_nil ?_) | (with_reducible refine vblockE rfl ?_) | (with_reducible refine vregion [] ?_) | (with_reducible refine vhrun_nil ?_) | ((with_reducible refine vcondT ?_ ?_); (focus (go_simp; done))) | ((with_reducible refine vcondF ?_ ?_); (focus (go_simp; done))) | ((with_reducible refine vrun_cons fun KK hKK => ?_); go_simp; (first | (with_reducible refine ⟨_, H87.out, ?_⟩) | (refine ⟨_, h84.out, ?_⟩) | skip); refine hKK _ ?_; clear hKK KK) | ((with_reducible refine vhrun_cons fun KK hKK => ?_); go_simp; (first | (with_reducible refine ⟨_, H87.out, ?_⟩) | (refine ⟨_, h84.out, ?_⟩) | skip); refine hKK _ ?_; clear hKK KK))
      have e : ((m - 1 : Nat) : Int) = (m : Int) - 1 := by omega
      refine hR _ (lo, m - 1) ⟨by simp only; omega, by simp only; omega, hb1, Lib.hid (.inr ?_)⟩ (by simp only; omega) ?_
      · simp only
        rw [e, Int.sub_add_cancel]
        exact hb
      · go_simp
  · have hlt' : ¬ (lo : Int) < hi := by omega
    have he : lo = hi := by omega
    subst he
    have hres := Lib.hid (HL.out lo b2 hb1.out hb2.out)
    repeat (first | (with_reducible refine vseq ?_) | (with_reducible refine vthenN ?_) | (with_reducible refine vthenE ?_) | (with_reducible refine vthenR ?_) | (with_reducible refine vret ?_) | (with_reducible refine vskip ?_) | (with_reducible refine vexit ?_) | (with_reducible refine vblock ?_) | (with_reducible refine vblockN ?_) | (with_reducible refine vblockR ?_) | (with_reducible refine vblockH ?_) | (with_reducible refine vrun_nil ?_) | (with_reducible refine vblockE rfl ?_) | (with_reducible refine vregion [] ?_) | (with_reducible refine vhrun_nil ?_) | ((with_reducible refine vcondT ?_ ?_); (focus (go_simp; done))) | ((with_reducible refine vcondF ?_ ?_); (focus (go_simp; done))) | ((with_reducible refine vrun_cons fun KK hKK => ?_); go_simp; refine hKK _ ?_; clear hKK KK) | ((with_reducible refine vhrun_cons fun KK hKK => ?_); go_simp; refine hKK _ ?_; clear hKK KK))
    rw [hres.out]
    go_simp
theorem trip_len {r : Rul} {l : List Rec} {start : Int} (h : tripErrP r l ⟨start, 0, 0, -1⟩ = 0) {m : Int} (hm : 0 ≤ m ∧ m ≤ 200000) : tripErrP r l ⟨start, m, m, -1⟩ = 0 := by
  obtain ⟨h1, h2, h3, h4, h5, h6, h7, h8, h9⟩ := tripRight h
  have e1 : isTime start = true := inR_iff.2 h3
  have e2 : isTake m = true := inR_iff.2 hm
  have e3 : (l.length : Int) < 40 := by omega
  have h8' : endOf l ≤ start := h8
  unfold tripErrP tripE
  simp [fst, unl, h1, e1, e2, e3, h8', h9]
theorem v5 (l : List Rec) (r : Rul) (start : Int) (hl : l.length ≤ 9223372036854775807) (hd : ∀ x ∈ l, x.driver.size ≤ 9223372036854775807) : VC Try.prog 5 [.agg r.av, recsA l, I start] (B true) := by
  refine VC_of Try.func5 rfl (by kernel_rfl) (by kernel_rfl) rfl fun M0 w0 => ?_
  simp only [Try.ntmps5, Try.results5, enumA]
  cases hfew : fewP l
  · repeat (first | (with_reducible refine vseq ?_) | (with_reducible refine vthenN ?_) | (with_reducible refine vthenE ?_) | (with_reducible refine vthenR ?_) | (with_reducible refine vret ?_) | (with_reducible refine vskip ?_) | (with_reducible refine vexit ?_) | (with_reducible refine vblock ?_) | (with_reducible refine vblockN ?_) | (with_reducible refine vblockR ?_) | (with_reducible refine vblockH ?_) | (with_reducible refine vrun_nil ?_) | (with_reducible refine vblockE rfl ?_) | (with_reducible refine vregion [] ?_) | (with_reducible refine vhrun_nil ?_) | ((with_reducible refine vcondT ?_ ?_); (focus (go_simp; done))) | ((with_reducible refine vcondF ?_ ?_); (focus (go_simp; done))) | ((with_reducible refine vrun_cons fun KK hKK => ?_); go_simp; (first | (with_reducible refine ⟨_, v17, ?_⟩) | (with_reducible refine ⟨_, v18 l hl hd, ?_⟩) | skip); refine hKK _ ?_; clear hKK KK) | ((with_reducible refine vhrun_cons fun KK hKK => ?_); go_simp; (first | (with_reducible refine ⟨_, v17, ?_⟩) | (with_reducible refine ⟨_, v18 l hl hd, ?_⟩) | skip); refine hKK _ ?_; clear hKK KK))
    go_simp
  · obtain ⟨hsm, hl3, _⟩ := fewP_small hfew
    have h27 := v27 l r start (by omega) hsm
    have h25 := v25 l r ⟨start, 0, 0, -1⟩ (by omega) hsm
    have h20 := Lib.hid (v20 l (by omega))
    unfold longOut at h27
    by_cases hE : tripErrP r l ⟨start, 0, 0, -1⟩ = 0
    · obtain ⟨h1, h2, h3, h4, h5, h6, h7, h8, h9⟩ := tripRight hE
      obtain ⟨n, n1, n2, n3, n4⟩ := long_facts (r := r) (bothErr_zero h1).2 h8
      rw [if_neg (by simpa using hE)] at h27
      simp only at h27 n2 n3 n4
      have h28 := v28 l r start hE
      rw [n2] at h27 h28
      rw [hE] at h25
      have h24 := v24 l r ⟨start, n, n, -1⟩ (by omega) hsm
      unfold allowOut at h24
      rw [if_neg (by rw [trip_len hE (by omega)]; simp)] at h24
      simp only [n3, if_true] at h24
      have H24 := Lib.hid h24
      have H25 := Lib.hid h25
      have H27 := Lib.hid h27
      have H28 := Lib.hid h28
      have HX : n ≠ 200000 → ∃ X : Int, Hid (VC Try.prog 24 [.agg r.av, recsA l, .agg (Trip.av ⟨start, (n : Int) + 1, (n : Int) + 1, -1⟩)] (.tup [I 0, I X, I 0])) := fun hn => by
        have h24 := v24 l r ⟨start, (n : Int) + 1, (n : Int) + 1, -1⟩ (by omega) hsm
        unfold allowOut at h24
        have n4' := n4.resolve_left hn
        rw [if_neg (by rw [trip_len hE (by omega)]; simp)] at h24
        simp only at h24
        rw [if_neg n4', if_neg n4'] at h24
        exact ⟨_, Lib.hid h24⟩
      clear h24 h25 h27 h28 hE h1 h2 h3 h4 h5 h6 h7 h8 h9 n2 n3 n4 hsm
      by_cases hn : n = 200000
      · have hn' : (n : Int) = 200000 := by omega
        clear HX
        repeat (first | (with_reducible refine vseq ?_) | (with_reducible refine vthenN ?_) | (with_reducible refine vthenE ?_) | (with_reducible refine vthenR ?_) | (with_reducible refine vret ?_) | (with_reducible refine vskip ?_) | (with_reducible refine vexit ?_) | (with_reducible refine vblock ?_) | (with_reducible refine vblockN ?_) | (with_reducible refine vblockR ?_) | (with_reducible refine vblockH ?_) | (with_reducible refine vrun_nil ?_) | (with_reducible refine vblockE rfl ?_) | (with_reducible refine vregion [] ?_) | (with_reducible refine vhrun_nil ?_) | ((with_reducible refine vcondT ?_ ?_); (focus (go_simp; done))) | ((with_reducible refine vcondF ?_ ?_); (focus (go_simp; done))) | ((with_reducible refine vrun_cons fun KK hKK => ?_); go_simp; (first | (with_reducible refine ⟨_, v17, ?_⟩) | (with_reducible refine ⟨_, v18 l hl hd, ?_⟩) | skip); refine hKK _ ?_; clear hKK KK) | ((with_reducible refine vhrun_cons fun KK hKK => ?_); go_simp; (first | (with_reducible refine ⟨_, v17, ?_⟩) | (with_reducible refine ⟨_, v18 l hl hd, ?_⟩) | skip); refine hKK _ ?_; clear hKK KK))
        refine vdraw 10 [] (by kernel_rfl) (by kernel_rfl) ?_
        simp only [List.take, List.drop]
        subst hn
        repeat (first | (with_reducible refine vseq ?_) | (with_reducible refine vthenN ?_) | (with_reducible refine vthenE ?_) | (with_reducible refine vthenR ?_) | (with_reducible refine vret ?_) | (with_reducible refine vskip ?_) | (with_reducible refine vexit ?_) | (with_reducible refine vblock ?_) | (with_reducible refine vblockN ?_) | (with_reducible refine vblockR ?_) | (with_reducible refine vblockH ?_) | (with_reducible refine vrun_nil ?_) | (with_reducible refine vblockE rfl ?_) | (with_reducible refine vregion [] ?_) | (with_reducible refine vhrun_nil ?_) | ((with_reducible refine vcondT ?_ ?_); (focus (go_simp; done))) | ((with_reducible refine vcondF ?_ ?_); (focus (go_simp; done))) | ((with_reducible refine vrun_cons fun KK hKK => ?_); go_simp; (first | (refine ⟨_, h20.out, ?_⟩) | (refine ⟨_, H27.out, ?_⟩) | (refine ⟨_, H25.out, ?_⟩) | (refine ⟨_, H28.out, ?_⟩) | skip); refine hKK _ ?_; clear hKK KK) | ((with_reducible refine vhrun_cons fun KK hKK => ?_); go_simp; (first | (refine ⟨_, h20.out, ?_⟩) | (refine ⟨_, H27.out, ?_⟩) | (refine ⟨_, H25.out, ?_⟩) | (refine ⟨_, H28.out, ?_⟩) | skip); refine hKK _ ?_; clear hKK KK))
        refine vdraw 16 [] (by kernel_rfl) (by kernel_rfl) ?_
        simp only [List.take, List.drop]
        repeat (first | (with_reducible refine vseq ?_) | (with_reducible refine vthenN ?_) | (with_reducible refine vthenE ?_) | (with_reducible refine vthenR ?_) | (with_reducible refine vret ?_) | (with_reducible refine vskip ?_) | (with_reducible refine vexit ?_) | (with_reducible refine vblock ?_) | (with_reducible refine vblockN ?_) | (with_reducible refine vblockR ?_) | (with_reducible refine vblockH ?_) | (with_reducible refine vrun_nil ?_) | (with_reducible refine vblockE rfl ?_) | (with_reducible refine vregion [] ?_) | (with_reducible refine vhrun_nil ?_) | ((with_reducible refine vcondT ?_ ?_); (focus (go_simp; done))) | ((with_reducible refine vcondF ?_ ?_); (focus (go_simp; done))) | ((with_reducible refine vrun_cons fun KK hKK => ?_); go_simp; (first | (refine ⟨_, h20.out, ?_⟩) | (refine ⟨_, H24.out, ?_⟩) | skip); refine hKK _ ?_; clear hKK KK) | ((with_reducible refine vhrun_cons fun KK hKK => ?_); go_simp; (first | (refine ⟨_, h20.out, ?_⟩) | (refine ⟨_, H24.out, ?_⟩) | skip); refine hKK _ ?_; clear hKK KK))
        go_simp
      · have hn' : ¬ (n : Int) = 200000 := by omega
        obtain ⟨X, hX⟩ := HX hn
        clear HX
        have hw := wrap_eq (x := (n : Int) + 1) (by omega) (by omega)
        repeat (first | (with_reducible refine vseq ?_) | (with_reducible refine vthenN ?_) | (with_reducible refine vthenE ?_) | (with_reducible refine vthenR ?_) | (with_reducible refine vret ?_) | (with_reducible refine vskip ?_) | (with_reducible refine vexit ?_) | (with_reducible refine vblock ?_) | (with_reducible refine vblockN ?_) | (with_reducible refine vblockR ?_) | (with_reducible refine vblockH ?_) | (with_reducible refine vrun_nil ?_) | (with_reducible refine vblockE rfl ?_) | (with_reducible refine vregion [] ?_) | (with_reducible refine vhrun_nil ?_) | ((with_reducible refine vcondT ?_ ?_); (focus (go_simp; done))) | ((with_reducible refine vcondF ?_ ?_); (focus (go_simp; done))) | ((with_reducible refine vrun_cons fun KK hKK => ?_); go_simp; (first | (with_reducible refine ⟨_, v17, ?_⟩) | (with_reducible refine ⟨_, v18 l hl hd, ?_⟩) | skip); refine hKK _ ?_; clear hKK KK) | ((with_reducible refine vhrun_cons fun KK hKK => ?_); go_simp; (first | (with_reducible refine ⟨_, v17, ?_⟩) | (with_reducible refine ⟨_, v18 l hl hd, ?_⟩) | skip); refine hKK _ ?_; clear hKK KK))
        refine vdraw 10 [] (by kernel_rfl) (by kernel_rfl) ?_
        simp only [List.take, List.drop]
        repeat (first | (with_reducible refine vseq ?_) | (with_reducible refine vthenN ?_) | (with_reducible refine vthenE ?_) | (with_reducible refine vthenR ?_) | (with_reducible refine vret ?_) | (with_reducible refine vskip ?_) | (with_reducible refine vexit ?_) | (with_reducible refine vblock ?_) | (with_reducible refine vblockN ?_) | (with_reducible refine vblockR ?_) | (with_reducible refine vblockH ?_) | (with_reducible refine vrun_nil ?_) | (with_reducible refine vblockE rfl ?_) | (with_reducible refine vregion [] ?_) | (with_reducible refine vhrun_nil ?_) | ((with_reducible refine vcondT ?_ ?_); (focus (go_simp; done))) | ((with_reducible refine vcondF ?_ ?_); (focus (go_simp; done))) | ((with_reducible refine vrun_cons fun KK hKK => ?_); go_simp; (first | (refine ⟨_, h20.out, ?_⟩) | (refine ⟨_, H27.out, ?_⟩) | (refine ⟨_, H25.out, ?_⟩) | (refine ⟨_, H28.out, ?_⟩) | skip); refine hKK _ ?_; clear hKK KK) | ((with_reducible refine vhrun_cons fun KK hKK => ?_); go_simp; (first | (refine ⟨_, h20.out, ?_⟩) | (refine ⟨_, H27.out, ?_⟩) | (refine ⟨_, H25.out, ?_⟩) | (refine ⟨_, H28.out, ?_⟩) | skip); refine hKK _ ?_; clear hKK KK))
        refine vdraw 16 [] (by kernel_rfl) (by kernel_rfl) ?_
        simp only [List.take, List.drop]
        repeat (first | (with_reducible refine vseq ?_) | (with_reducible refine vthenN ?_) | (with_reducible refine vthenE ?_) | (with_reducible refine vthenR ?_) | (with_reducible refine vret ?_) | (with_reducible refine vskip ?_) | (with_reducible refine vexit ?_) | (with_reducible refine vblock ?_) | (with_reducible refine vblockN ?_) | (with_reducible refine vblockR ?_) | (with_reducible refine vblockH ?_) | (with_reducible refine vrun_nil ?_) | (with_reducible refine vblockE rfl ?_) | (with_reducible refine vregion [] ?_) | (with_reducible refine vhrun_nil ?_) | ((with_reducible refine vcondT ?_ ?_); (focus (go_simp; done))) | ((with_reducible refine vcondF ?_ ?_); (focus (go_simp; done))) | ((with_reducible refine vrun_cons fun KK hKK => ?_); go_simp; (first | (refine ⟨_, h20.out, ?_⟩) | (refine ⟨_, H24.out, ?_⟩) | skip); refine hKK _ ?_; clear hKK KK) | ((with_reducible refine vhrun_cons fun KK hKK => ?_); go_simp; (first | (refine ⟨_, h20.out, ?_⟩) | (refine ⟨_, H24.out, ?_⟩) | skip); refine hKK _ ?_; clear hKK KK))
        refine vdraw 18 [] (by kernel_rfl) (by kernel_rfl) ?_
        simp only [List.take, List.drop]
        repeat (first | (with_reducible refine vseq ?_) | (with_reducible refine vthenN ?_) | (with_reducible refine vthenE ?_) | (with_reducible refine vthenR ?_) | (with_reducible refine vret ?_) | (with_reducible refine vskip ?_) | (with_reducible refine vexit ?_) | (with_reducible refine vblock ?_) | (with_reducible refine vblockN ?_) | (with_reducible refine vblockR ?_) | (with_reducible refine vblockH ?_) | (with_reducible refine vrun_nil ?_) | (with_reducible refine vblockE rfl ?_) | (with_reducible refine vregion [] ?_) | (with_reducible refine vhrun_nil ?_) | ((with_reducible refine vcondT ?_ ?_); (focus (go_simp; done))) | ((with_reducible refine vcondF ?_ ?_); (focus (go_simp; done))) | ((with_reducible refine vrun_cons fun KK hKK => ?_); go_simp; (first | (refine ⟨_, h20.out, ?_⟩) | (refine ⟨_, hX.out, ?_⟩) | skip); refine hKK _ ?_; clear hKK KK) | ((with_reducible refine vhrun_cons fun KK hKK => ?_); go_simp; (first | (refine ⟨_, h20.out, ?_⟩) | (refine ⟨_, hX.out, ?_⟩) | skip); refine hKK _ ?_; clear hKK KK))
        go_simp
    · rw [if_pos hE] at h27
      simp only at h27
      have H25 := Lib.hid h25
      have H27 := Lib.hid h27
      clear h25 h27 hsm
      repeat (first | (with_reducible refine vseq ?_) | (with_reducible refine vthenN ?_) | (with_reducible refine vthenE ?_) | (with_reducible refine vthenR ?_) | (with_reducible refine vret ?_) | (with_reducible refine vskip ?_) | (with_reducible refine vexit ?_) | (with_reducible refine vblock ?_) | (with_reducible refine vblockN ?_) | (with_reducible refine vblockR ?_) | (with_reducible refine vblockH ?_) | (with_reducible refine vrun_nil ?_) | (with_reducible refine vblockE rfl ?_) | (with_reducible refine vregion [] ?_) | (with_reducible refine vhrun_nil ?_) | ((with_reducible refine vcondT ?_ ?_); (focus (go_simp; done))) | ((with_reducible refine vcondF ?_ ?_); (focus (go_simp; done))) | ((with_reducible refine vrun_cons fun KK hKK => ?_); go_simp; (first | (with_reducible refine ⟨_, v17, ?_⟩) | (with_reducible refine ⟨_, v18 l hl hd, ?_⟩) | skip); refine hKK _ ?_; clear hKK KK) | ((with_reducible refine vhrun_cons fun KK hKK => ?_); go_simp; (first | (with_reducible refine ⟨_, v17, ?_⟩) | (with_reducible refine ⟨_, v18 l hl hd, ?_⟩) | skip); refine hKK _ ?_; clear hKK KK))
      refine vdraw 10 [] (by kernel_rfl) (by kernel_rfl) ?_
      simp only [List.take, List.drop]
      repeat (first | (with_reducible refine vseq ?_) | (with_reducible refine vthenN ?_) | (with_reducible refine vthenE ?_) | (with_reducible refine vthenR ?_) | (with_reducible refine vret ?_) | (with_reducible refine vskip ?_) | (with_reducible refine vexit ?_) | (with_reducible refine vblock ?_) | (with_reducible refine vblockN ?_) | (with_reducible refine vblockR ?_) | (with_reducible refine vblockH ?_) | (with_reducible refine vrun_nil ?_) | (with_reducible refine vblockE rfl ?_) | (with_reducible refine vregion [] ?_) | (with_reducible refine vhrun_nil ?_) | ((with_reducible refine vcondT ?_ ?_); (focus (go_simp; done))) | ((with_reducible refine vcondF ?_ ?_); (focus (go_simp; done))) | ((with_reducible refine vrun_cons fun KK hKK => ?_); go_simp; (first | (refine ⟨_, h20.out, ?_⟩) | (refine ⟨_, H27.out, ?_⟩) | (refine ⟨_, H25.out, ?_⟩) | skip); refine hKK _ ?_; clear hKK KK) | ((with_reducible refine vhrun_cons fun KK hKK => ?_); go_simp; (first | (refine ⟨_, h20.out, ?_⟩) | (refine ⟨_, H27.out, ?_⟩) | (refine ⟨_, H25.out, ?_⟩) | skip); refine hKK _ ?_; clear hKK KK))
      go_simp
end Go.Proofs.Ytmfmpagfjgpodaa
