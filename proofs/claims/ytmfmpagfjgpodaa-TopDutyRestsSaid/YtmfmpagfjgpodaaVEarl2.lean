/- Walks on plain values: the earliest time of a trip, in the reference; records with texts of at most 1000 bytes. -/
import Derived.Test.YtmfmpagfjgpodaaVEarl
namespace Go.Proofs.Ytmfmpagfjgpodaa
open Go.RowKit
set_option maxRecDepth 100000
theorem v94b (n : Int) (hn : -1000000000000 ≤ n ∧ n ≤ 1000000000000) : VC Try.prog 94 [I n, I 2] (I (n / 2)) := by
  have hq : n.tdiv 2 = if n.tmod 2 < 0 then n / 2 + 1 else n / 2 := by
    rcases Int.le_total 0 n with h | h
    · rw [Int.tdiv_eq_ediv_of_nonneg h, if_neg (by have := Int.tmod_nonneg 2 h; omega)]
    · have h1 : n.tdiv 2 = -((-n) / 2) := by rw [← Int.tdiv_eq_ediv_of_nonneg (show 0 ≤ -n by omega), Int.neg_tdiv, Int.neg_neg]
      have h2 : n.tmod 2 = n - 2 * n.tdiv 2 := by have := Int.mul_tdiv_add_tmod n 2; omega
      rw [h2, h1]
      split <;> omega
  have hb : -1000000000000 ≤ n / 2 ∧ n / 2 ≤ 1000000000000 := by omega
  refine VC_of Try.func94 rfl (by kernel_rfl) (by kernel_rfl) rfl fun M0 w0 => ?_
  simp only [Try.ntmps94, Try.results94, enumA]
  by_cases h : n.tmod 2 < 0
  · rw [if_pos h] at hq
    have hw1 := wrap_eq (x := n.tdiv 2) (by omega) (by omega)
    have hw2 := wrap_eq (x := n.tdiv 2 - 1) (by omega) (by omega)
    have HQ := Lib.hid (show n.tdiv 2 - 1 = n / 2 by omega)
    clear hq
    repeat (first | (with_reducible refine vseq ?_) | (with_reducible refine vthenN ?_) | (with_reducible refine vthenE ?_) | (with_reducible refine vthenR ?_) | (with_reducible refine vret ?_) | (with_reducible refine vskip ?_) | (with_reducible refine vexit ?_) | (with_reducible refine vblock ?_) | (with_reducible refine vblockN ?_) | (with_reducible refine vblockR ?_) | (with_reducible refine vblockH ?_) | (with_reducible refine vrun_nil ?_) | (with_reducible refine vblockE rfl ?_) | (with_reducible refine vregion [] ?_) | (with_reducible refine vhrun_nil ?_) | ((with_reducible refine vcondT ?_ ?_); (focus (go_simp; done))) | ((with_reducible refine vcondF ?_ ?_); (focus (go_simp; done))) | ((with_reducible refine vrun_cons fun KK hKK => ?_); go_simp; refine hKK _ ?_; clear hKK KK) | ((with_reducible refine vhrun_cons fun KK hKK => ?_); go_simp; refine hKK _ ?_; clear hKK KK))
    have := HQ.out
    go_simp
  · rw [if_neg h] at hq
    have hw1 := wrap_eq (x := n.tdiv 2) (by omega) (by omega)
    have HQ := Lib.hid hq
    clear hq
    repeat (first | (with_reducible refine vseq ?_) | (with_reducible refine vthenN ?_) | (with_reducible refine vthenE ?_) | (with_reducible refine vthenR ?_) | (with_reducible refine vret ?_) | (with_reducible refine vskip ?_) | (with_reducible refine vexit ?_) | (with_reducible refine vblock ?_) | (with_reducible refine vblockN ?_) | (with_reducible refine vblockR ?_) | (with_reducible refine vblockH ?_) | (with_reducible refine vrun_nil ?_) | (with_reducible refine vblockE rfl ?_) | (with_reducible refine vregion [] ?_) | (with_reducible refine vhrun_nil ?_) | ((with_reducible refine vcondT ?_ ?_); (focus (go_simp; done))) | ((with_reducible refine vcondF ?_ ?_); (focus (go_simp; done))) | ((with_reducible refine vrun_cons fun KK hKK => ?_); go_simp; refine hKK _ ?_; clear hKK KK) | ((with_reducible refine vhrun_cons fun KK hKK => ?_); go_simp; refine hKK _ ?_; clear hKK KK))
    have := HQ.out
    go_simp
theorem v95 (l : List Rec) (s m : Int) (hl : l.length ≤ 40) (hT : Timed l) (hs : 0 ≤ s ∧ s ≤ 8640000000) (hm : 0 ≤ m ∧ m ≤ 200000) : VC Try.prog 95 [recsA l, I s, I m] (I (weekly l s m)) := by
  unfold weekly
  have h23 := v23 l (s + m - 604800) s (by omega) hT (by omega) (by omega)
  have hb := work_small hT hl (s + m - 604800) s
  generalize workIn l (s + m - 604800) s = W at *
  have hw1 := wrap_eq (x := s + m) (by omega) (by omega)
  have hw2 := wrap_eq (x := s + m - 604800) (by omega) (by omega)
  have hw3 := wrap_eq (x := m + W) (by omega) (by omega)
  have H23 := Lib.hid h23
  clear h23 hT
  refine VC_of Try.func95 rfl (by kernel_rfl) (by kernel_rfl) rfl fun M0 w0 => ?_
  simp only [Try.ntmps95, Try.results95, enumA]
  repeat (first | (with_reducible refine vseq ?_) | (with_reducible refine vthenN ?_) | (with_reducible refine vthenE ?_) | (with_reducible refine vthenR ?_) | (with_reducible refine vret ?_) | (with_reducible refine vskip ?_) | (with_reducible refine vexit ?_) | (with_reducible refine vblock ?_) | (with_reducible refine vblockN ?_) | (with_reducible refine vblockR ?_) | (with_reducible refine vblockH ?_) | (with_reducible refine vrun_nil ?_) | (with_reducible refine vblockE rfl ?_) | (with_reducible refine vregion [] ?_) | (with_reducible refine vhrun_nil ?_) | ((with_reducible refine vcondT ?_ ?_); (focus (go_simp; done))) | ((with_reducible refine vcondF ?_ ?_); (focus (go_simp; done))) | ((with_reducible refine vrun_cons fun KK hKK => ?_); go_simp; (first | (refine ⟨_, H23.out, ?_⟩) | skip); refine hKK _ ?_; clear hKK KK) | ((with_reducible refine vhrun_cons fun KK hKK => ?_); go_simp; (first | (refine ⟨_, H23.out, ?_⟩) | skip); refine hKK _ ?_; clear hKK KK))
  go_simp
theorem weekly_mono {one : Bool} {r : Rul} {l : List Rec} {m s s' : Int} (h : Right one l) (hb : (firstBroken r l).2 = 0) (hw : 0 ≤ r.week) (he : endOf l ≤ s) (hs : s ≤ s') (hm : 0 ≤ m) (hk : weekly l s m ≤ r.week) : weekly l s' m ≤ r.week :=
  (weekly_is h hb hw (by omega) hm).2 (weekOK_mono h he hs hm ((weekly_is h hb hw he hm).1 hk))
set_option maxHeartbeats 8000000 in
theorem v38 (l : List Rec) (r : Rul) (t : Trip) (h : tripErrP r l t = 0) (v : Int) (hv : IsEarl r l t.start (stopOf t.start) t.next t.hi v) : VC Try.prog 38 [.agg r.av, recsA l, .agg t.av] (I v) := by
  obtain ⟨g1, g2, g3, g4, g5, g6, g7, g8, g9⟩ := tripRight h
  have hR0 := (bothErr_zero g1).2
  have hru := rulesErr_zero (bothErr_zero g1).1
  have hT := hR0.timed
  have hs := stopOf_le t.start
  have hsd : (if 8640000000 < t.start + 10000000 then 8640000000 else t.start + 10000000) = stopOf t.start := rfl
  have hN := fun a => (hv.one (ref_none (next := t.next) (stop := stopOf t.start) (m := t.hi) hR0 g9 ⟨hru.1, hru.2.1⟩ (by omega) g8 g5 a))
  have hV := fun (i : Nat) lo a b c => hv.one (ref_found (next := t.next) (i := i) (lo := lo) hR0 g9 ⟨hru.1, hru.2.1⟩ (by omega) g8 g5 a b c)
  generalize stopOf t.start = S at *
  have HNo : Hid ((∀ j, j < begN l → Passed r l t.start S t.next t.hi j) → v = -1) := Lib.hid hN
  have HV : Hid (∀ (i : Nat) (lo : Int), (∀ j, j < i → Passed r l t.start S t.next t.hi j) → IsLo r l t.start S t.hi i lo → breaksP r l lo t.next t.hi = 0 → v = lo) := Lib.hid hV
  have HT := Lib.hid hT
  have HRi := Lib.hid hR0
  have HFB := Lib.hid g9
  have hwk0 : 0 ≤ r.week := by omega
  have hhi := g5
  have hBS : Hid (∀ i, t.start ≤ begAt r l t.start i) := Lib.hid fun i => by
    unfold begAt
    split
    · exact Int.le_refl _
    · exact Int.le_max_left ..
  have hww := wrap_eq (x := t.start + 10000000) (by omega) (by omega)
  have k1 := wrap_eq (x := 1) (by omega) (by omega)
  have k2 := wrap_eq (x := 2) (by omega) (by omega)
  have k3 := wrap_eq (x := 3) (by omega) (by omega)
  have b1 := g3
  have b2 := g7
  have b3 := g2
  have b4 := g8
  clear hN hV hv hT h g1 g2 g3 g4 g5 g6 g7 g8 g9 hR0
  refine VC_of Try.func38 rfl (by kernel_rfl) (by kernel_rfl) rfl fun M0 w0 => ?_
  simp only [Try.ntmps38, Try.results38, enumA]
  have HB0 : Hid (begAt r l t.start 0 = t.start) := Lib.hid rfl
  by_cases hl0 : l.length = 0
  · have hl0' : (l.length : Int) = 0 := by omega
    have HN0 : Hid (begN l = 1) := Lib.hid (by unfold begN; rw [if_pos hl0])
    repeat (first | (with_reducible refine vseq ?_) | (with_reducible refine vthenN ?_) | (with_reducible refine vthenE ?_) | (with_reducible refine vthenR ?_) | (with_reducible refine vret ?_) | (with_reducible refine vskip ?_) | (with_reducible refine vexit ?_) | (with_reducible refine vblock ?_) | (with_reducible refine vblockN ?_) | (with_reducible refine vblockR ?_) | (with_reducible refine vblockH ?_) | (with_reducible refine vrun_nil ?_) | (with_reducible refine vblockE rfl ?_) | (with_reducible refine vregion [21] ?_) | (with_reducible refine vhrun_nil ?_) | ((with_reducible refine vcondT ?_ ?_); (focus (go_simp; done))) | ((with_reducible refine vcondF ?_ ?_); (focus (go_simp; done))) | ((with_reducible refine vrun_cons fun KK hKK => ?_); go_simp; refine hKK _ ?_; clear hKK KK) | ((with_reducible refine vhrun_cons fun KK hKK => ?_); go_simp; refine hKK _ ?_; clear hKK KK))
    refine vloop (α := Int) (fun i => ⟨[(10, I i), (8, .osl 0), (1, recsA l), (5, .vp t.av), (3, .vp r.av), (7, I S)], [some (.arr 3 1 false [[I t.start]])]⟩) (fun i => 0 ≤ i ∧ i ≤ 1 ∧ Hid (∀ j : Nat, (j : Int) < i → Passed r l t.start S t.next t.hi j)) (fun i => (1 - i).toNat) 0 ⟨by omega, by omega, Lib.hid fun j hj => by omega⟩ (by go_simp) ?_
    rintro i ⟨i0, i3, hb⟩ K hR
    rcases (show i = 0 ∨ i = 1 by omega) with h0 | h1
    · subst h0
      have hB := HB0.out
      by_cases c1 : S < t.start
      · have hp := Lib.hid (show Passed r l t.start S t.next t.hi 0 from .inl (by rw [hB]; exact c1))
        clear hB
        repeat (first | (with_reducible refine vseq ?_) | (with_reducible refine vthenN ?_) | (with_reducible refine vthenE ?_) | (with_reducible refine vthenR ?_) | (with_reducible refine vret ?_) | (with_reducible refine vskip ?_) | (with_reducible refine vexit ?_) | (with_reducible refine vblock ?_) | (with_reducible refine vblockN ?_) | (with_reducible refine vblockR ?_) | (with_reducible refine vblockH ?_) | (with_reducible refine vrun_nil ?_) | (with_reducible refine vblockE rfl ?_) | (with_reducible refine vregion [] ?_) | (with_reducible refine vhrun_nil ?_) | ((with_reducible refine vcondT ?_ ?_); (focus (go_simp; done))) | ((with_reducible refine vcondF ?_ ?_); (focus (go_simp; done))) | ((with_reducible refine vrun_cons fun KK hKK => ?_); go_simp; refine hKK _ ?_; clear hKK KK) | ((with_reducible refine vhrun_cons fun KK hKK => ?_); go_simp; refine hKK _ ?_; clear hKK KK))
        refine hR _ 1 ⟨by omega, by omega, Lib.hid fun j hj => (by
              rcases Nat.lt_or_ge j 0 with h | h
              · exact hb.out j (by omega)
              · have e : j = 0 := by omega
                rw [e]
                exact hp.out)⟩ (by omega) ?_
        go_simp
      · have c1' : t.start ≤ S := by omega
        have hinv := Lib.hid (show ∀ s, begAt r l t.start 0 ≤ s → s < t.start → ¬ weekly l s t.hi ≤ r.week from fun s a b => by omega)
        have HBB := Lib.hid hB
        clear hB
        repeat (first | (with_reducible refine vseq ?_) | (with_reducible refine vthenN ?_) | (with_reducible refine vthenE ?_) | (with_reducible refine vthenR ?_) | (with_reducible refine vret ?_) | (with_reducible refine vskip ?_) | (with_reducible refine vexit ?_) | (with_reducible refine vblock ?_) | (with_reducible refine vblockN ?_) | (with_reducible refine vblockR ?_) | (with_reducible refine vblockH ?_) | (with_reducible refine vrun_nil ?_) | (with_reducible refine vblockE rfl ?_) | (with_reducible refine vregion [] ?_) | (with_reducible refine vhrun_nil ?_) | ((with_reducible refine vcondT ?_ ?_); (focus (go_simp; done))) | ((with_reducible refine vcondF ?_ ?_); (focus (go_simp; done))) | ((with_reducible refine vrun_cons fun KK hKK => ?_); go_simp; refine hKK _ ?_; clear hKK KK) | ((with_reducible refine vhrun_cons fun KK hKK => ?_); go_simp; refine hKK _ ?_; clear hKK KK))
        refine vloop (α := Int × Int) (fun q => ⟨[(11, I q.1), (12, I q.2), (10, I 0), (8, .osl 0), (1, recsA l), (5, .vp t.av), (3, .vp r.av), (7, I S)], [some (.arr 3 1 false [[I t.start]])]⟩) (fun q => t.start ≤ q.1 ∧ q.1 ≤ q.2 ∧ q.2 ≤ S ∧ Hid (∀ s, begAt r l t.start 0 ≤ s → s < q.1 → ¬ weekly l s t.hi ≤ r.week) ∧ Hid (q.2 = S ∨ weekly l q.2 t.hi ≤ r.week)) (fun q => (q.2 - q.1).toNat) (t.start, S) ⟨by simp only; omega, by simp only; omega, by simp only; omega, hinv, Lib.hid (.inl rfl)⟩ (by go_simp) ?_
        rintro ⟨lo, hi⟩ ⟨d1, d2, d3, hq1, hq2⟩ K2 hR2
        simp only at d1 d2 d3 hq1 hq2 hR2 ⊢
        by_cases hlt : lo < hi
        · have hw1 := wrap_eq (x := lo + hi) (by omega) (by omega)
          have h94 := v94b (lo + hi) (by omega)
          obtain ⟨m, hm⟩ : ∃ m : Int, (lo + hi) / 2 = m := ⟨_, rfl⟩
          rw [hm] at h94
          have hm1 : lo ≤ m := by omega
          have hm2 : m < hi := by omega
          have H94 := Lib.hid h94
          have h95 := Lib.hid (v95 l m t.hi (by omega) HT.out (by omega) hhi)
          have hw2 := wrap_eq (x := m + 1) (by omega) (by omega)
          clear hm h94
          obtain ⟨Y, hY⟩ : ∃ Y, weekly l m t.hi = Y := ⟨_, rfl⟩
          rw [hY] at h95
          have HY := Lib.hid hY
          clear hY
          by_cases hwk : Y ≤ r.week
          · repeat (first | (with_reducible refine vseq ?_) | (with_reducible refine vthenN ?_) | (with_reducible refine vthenE ?_) | (with_reducible refine vthenR ?_) | (with_reducible refine vret ?_) | (with_reducible refine vskip ?_) | (with_reducible refine vexit ?_) | (with_reducible refine vblock ?_) | (with_reducible refine vblockN ?_) | (with_reducible refine vblockR ?_) | (with_reducible refine vblockH ?_) | (with_reducible refine vrun_nil ?_) | (with_reducible refine vblockE rfl ?_) | (with_reducible refine vregion [] ?_) | (with_reducible refine vhrun_nil ?_) | ((with_reducible refine vcondT ?_ ?_); (focus (go_simp; done))) | ((with_reducible refine vcondF ?_ ?_); (focus (go_simp; done))) | ((with_reducible refine vrun_cons fun KK hKK => ?_); go_simp; (first | (refine ⟨_, H94.out, ?_⟩) | skip); refine hKK _ ?_; clear hKK KK) | ((with_reducible refine vhrun_cons fun KK hKK => ?_); go_simp; (first | (refine ⟨_, H94.out, ?_⟩) | skip); refine hKK _ ?_; clear hKK KK))
            refine vdraw 9 [] (by kernel_rfl) (by kernel_rfl) ?_
            simp only [List.take, List.drop]
            repeat (first | (with_reducible refine vseq ?_) | (with_reducible refine vthenN ?_) | (with_reducible refine vthenE ?_) | (with_reducible refine vthenR ?_) | (with_reducible refine vret ?_) | (with_reducible refine vskip ?_) | (with_reducible refine vexit ?_) | (with_reducible refine vblock ?_) | (with_reducible refine vblockN ?_) | (with_reducible refine vblockR ?_) | (with_reducible refine vblockH ?_) | (with_reducible refine vrun_nil ?_) | (with_reducible refine vblockE rfl ?_) | (with_reducible refine vregion [] ?_) | (with_reducible refine vhrun_nil ?_) | ((with_reducible refine vcondT ?_ ?_); (focus (go_simp; done))) | ((with_reducible refine vcondF ?_ ?_); (focus (go_simp; done))) | ((with_reducible refine vrun_cons fun KK hKK => ?_); go_simp; (first | (refine ⟨_, h95.out, ?_⟩) | skip); refine hKK _ ?_; clear hKK KK) | ((with_reducible refine vhrun_cons fun KK hKK => ?_); go_simp; (first | (refine ⟨_, h95.out, ?_⟩) | skip); refine hKK _ ?_; clear hKK KK))
            refine hR2 _ (lo, m) ⟨d1, hm1, by simp only; omega, hq1, Lib.hid (.inr (by simp only; rw [HY.out]; exact hwk))⟩ (by simp only; omega) ?_
            go_simp
          · repeat (first | (with_reducible refine vseq ?_) | (with_reducible refine vthenN ?_) | (with_reducible refine vthenE ?_) | (with_reducible refine vthenR ?_) | (with_reducible refine vret ?_) | (with_reducible refine vskip ?_) | (with_reducible refine vexit ?_) | (with_reducible refine vblock ?_) | (with_reducible refine vblockN ?_) | (with_reducible refine vblockR ?_) | (with_reducible refine vblockH ?_) | (with_reducible refine vrun_nil ?_) | (with_reducible refine vblockE rfl ?_) | (with_reducible refine vregion [] ?_) | (with_reducible refine vhrun_nil ?_) | ((with_reducible refine vcondT ?_ ?_); (focus (go_simp; done))) | ((with_reducible refine vcondF ?_ ?_); (focus (go_simp; done))) | ((with_reducible refine vrun_cons fun KK hKK => ?_); go_simp; (first | (refine ⟨_, H94.out, ?_⟩) | skip); refine hKK _ ?_; clear hKK KK) | ((with_reducible refine vhrun_cons fun KK hKK => ?_); go_simp; (first | (refine ⟨_, H94.out, ?_⟩) | skip); refine hKK _ ?_; clear hKK KK))
            refine vdraw 9 [] (by kernel_rfl) (by kernel_rfl) ?_
            simp only [List.take, List.drop]
            repeat (first | (with_reducible refine vseq ?_) | (with_reducible refine vthenN ?_) | (with_reducible refine vthenE ?_) | (with_reducible refine vthenR ?_) | (with_reducible refine vret ?_) | (with_reducible refine vskip ?_) | (with_reducible refine vexit ?_) | (with_reducible refine vblock ?_) | (with_reducible refine vblockN ?_) | (with_reducible refine vblockR ?_) | (with_reducible refine vblockH ?_) | (with_reducible refine vrun_nil ?_) | (with_reducible refine vblockE rfl ?_) | (with_reducible refine vregion [] ?_) | (with_reducible refine vhrun_nil ?_) | ((with_reducible refine vcondT ?_ ?_); (focus (go_simp; done))) | ((with_reducible refine vcondF ?_ ?_); (focus (go_simp; done))) | ((with_reducible refine vrun_cons fun KK hKK => ?_); go_simp; (first | (refine ⟨_, h95.out, ?_⟩) | skip); refine hKK _ ?_; clear hKK KK) | ((with_reducible refine vhrun_cons fun KK hKK => ?_); go_simp; (first | (refine ⟨_, h95.out, ?_⟩) | skip); refine hKK _ ?_; clear hKK KK))
            refine hR2 _ (m + 1, hi) ⟨by simp only; omega, by simp only; omega, d3, Lib.hid fun s a b => (by
              simp only at b
              rcases Int.lt_or_le s lo with h | h
              · exact hq1.out s a h
              · intro hc
                have hbs := hBS.out 0
                have := weekly_mono HRi.out HFB.out hwk0 (show endOf l ≤ s by omega) (show s ≤ m by omega) hhi.1 hc
                rw [HY.out] at this
                exact hwk this), hq2⟩ (by simp only; omega) ?_
            go_simp
        · have he : lo = hi := by omega
          subst he
          have hlo := Lib.hid (show IsLo r l t.start S t.hi 0 lo from ⟨by rw [HBB.out]; exact d1, d3, hq1.out, hq2.out⟩)
          have h84 := Lib.hid (v84 l r ⟨lo, t.lo, t.hi, t.next⟩ t.hi HRi.out (by show 0 ≤ lo ∧ lo ≤ _; omega) (by show endOf l ≤ lo; omega) hhi (by show -1 ≤ t.next ∧ t.next ≤ _; omega))
          clear hR2
          by_cases c2 : breaksP r l lo t.next t.hi = 0
          · have hres := Lib.hid (HV.out 0 lo (fun j hj => hb.out j (by omega)) hlo.out c2)
            repeat (first | (with_reducible refine vseq ?_) | (with_reducible refine vthenN ?_) | (with_reducible refine vthenE ?_) | (with_reducible refine vthenR ?_) | (with_reducible refine vret ?_) | (with_reducible refine vskip ?_) | (with_reducible refine vexit ?_) | (with_reducible refine vblock ?_) | (with_reducible refine vblockN ?_) | (with_reducible refine vblockR ?_) | (with_reducible refine vblockH ?_) | (with_reducible refine vrun_nil ?_) | (with_reducible refine vblockE rfl ?_) | (with_reducible refine vregion [] ?_) | (with_reducible refine vhrun_nil ?_) | ((with_reducible refine vcondT ?_ ?_); (focus (go_simp; done))) | ((with_reducible refine vcondF ?_ ?_); (focus (go_simp; done))) | ((with_reducible refine vrun_cons fun KK hKK => ?_); go_simp; refine hKK _ ?_; clear hKK KK) | ((with_reducible refine vhrun_cons fun KK hKK => ?_); go_simp; refine hKK _ ?_; clear hKK KK))
            refine vdraw 26 [] (by kernel_rfl) (by kernel_rfl) ?_
            simp only [List.take, List.drop]
            repeat (first | (with_reducible refine vseq ?_) | (with_reducible refine vthenN ?_) | (with_reducible refine vthenE ?_) | (with_reducible refine vthenR ?_) | (with_reducible refine vret ?_) | (with_reducible refine vskip ?_) | (with_reducible refine vexit ?_) | (with_reducible refine vblock ?_) | (with_reducible refine vblockN ?_) | (with_reducible refine vblockR ?_) | (with_reducible refine vblockH ?_) | (with_reducible refine vrun_nil ?_) | (with_reducible refine vblockE rfl ?_) | (with_reducible refine vregion [] ?_) | (with_reducible refine vhrun_nil ?_) | ((with_reducible refine vcondT ?_ ?_); (focus (go_simp; done))) | ((with_reducible refine vcondF ?_ ?_); (focus (go_simp; done))) | ((with_reducible refine vrun_cons fun KK hKK => ?_); go_simp; (first | (refine ⟨_, h84.out, ?_⟩) | (refine ⟨_, ⟨h84.out, rfl⟩, ?_⟩) | skip); refine hKK _ ?_; clear hKK KK) | ((with_reducible refine vhrun_cons fun KK hKK => ?_); go_simp; (first | (refine ⟨_, h84.out, ?_⟩) | (refine ⟨_, ⟨h84.out, rfl⟩, ?_⟩) | skip); refine hKK _ ?_; clear hKK KK))
            rw [hres.out]
            go_simp
          · have hp := Lib.hid (show Passed r l t.start S t.next t.hi 0 from .inr ⟨lo, hlo.out, .inr c2⟩)
            repeat (first | (with_reducible refine vseq ?_) | (with_reducible refine vthenN ?_) | (with_reducible refine vthenE ?_) | (with_reducible refine vthenR ?_) | (with_reducible refine vret ?_) | (with_reducible refine vskip ?_) | (with_reducible refine vexit ?_) | (with_reducible refine vblock ?_) | (with_reducible refine vblockN ?_) | (with_reducible refine vblockR ?_) | (with_reducible refine vblockH ?_) | (with_reducible refine vrun_nil ?_) | (with_reducible refine vblockE rfl ?_) | (with_reducible refine vregion [] ?_) | (with_reducible refine vhrun_nil ?_) | ((with_reducible refine vcondT ?_ ?_); (focus (go_simp; done))) | ((with_reducible refine vcondF ?_ ?_); (focus (go_simp; done))) | ((with_reducible refine vrun_cons fun KK hKK => ?_); go_simp; refine hKK _ ?_; clear hKK KK) | ((with_reducible refine vhrun_cons fun KK hKK => ?_); go_simp; refine hKK _ ?_; clear hKK KK))
            refine vdraw 26 [] (by kernel_rfl) (by kernel_rfl) ?_
            simp only [List.take, List.drop]
            repeat (first | (with_reducible refine vseq ?_) | (with_reducible refine vthenN ?_) | (with_reducible refine vthenE ?_) | (with_reducible refine vthenR ?_) | (with_reducible refine vret ?_) | (with_reducible refine vskip ?_) | (with_reducible refine vexit ?_) | (with_reducible refine vblock ?_) | (with_reducible refine vblockN ?_) | (with_reducible refine vblockR ?_) | (with_reducible refine vblockH ?_) | (with_reducible refine vrun_nil ?_) | (with_reducible refine vblockE rfl ?_) | (with_reducible refine vregion [] ?_) | (with_reducible refine vhrun_nil ?_) | ((with_reducible refine vcondT ?_ ?_); (focus (go_simp; done))) | ((with_reducible refine vcondF ?_ ?_); (focus (go_simp; done))) | ((with_reducible refine vrun_cons fun KK hKK => ?_); go_simp; (first | (refine ⟨_, h84.out, ?_⟩) | (refine ⟨_, ⟨h84.out, rfl⟩, ?_⟩) | skip); refine hKK _ ?_; clear hKK KK) | ((with_reducible refine vhrun_cons fun KK hKK => ?_); go_simp; (first | (refine ⟨_, h84.out, ?_⟩) | (refine ⟨_, ⟨h84.out, rfl⟩, ?_⟩) | skip); refine hKK _ ?_; clear hKK KK))
            refine hR _ 1 ⟨by omega, by omega, Lib.hid fun j hj => (by
              rcases Nat.lt_or_ge j 0 with h | h
              · exact hb.out j (by omega)
              · have e : j = 0 := by omega
                rw [e]
                exact hp.out)⟩ (by omega) ?_
            go_simp
    · subst h1
      have hres := Lib.hid (HNo.out fun j hj => hb.out j (by have := HN0.out; omega))
      repeat (first | (with_reducible refine vseq ?_) | (with_reducible refine vthenN ?_) | (with_reducible refine vthenE ?_) | (with_reducible refine vthenR ?_) | (with_reducible refine vret ?_) | (with_reducible refine vskip ?_) | (with_reducible refine vexit ?_) | (with_reducible refine vblock ?_) | (with_reducible refine vblockN ?_) | (with_reducible refine vblockR ?_) | (with_reducible refine vblockH ?_) | (with_reducible refine vrun_nil ?_) | (with_reducible refine vblockE rfl ?_) | (with_reducible refine vregion [] ?_) | (with_reducible refine vhrun_nil ?_) | ((with_reducible refine vcondT ?_ ?_); (focus (go_simp; done))) | ((with_reducible refine vcondF ?_ ?_); (focus (go_simp; done))) | ((with_reducible refine vrun_cons fun KK hKK => ?_); go_simp; refine hKK _ ?_; clear hKK KK) | ((with_reducible refine vhrun_cons fun KK hKK => ?_); go_simp; refine hKK _ ?_; clear hKK KK))
      rw [hres.out]
      go_simp
  · have hl0' : (0 : Int) < l.length := by omega
    have hl0n : 0 < l.length := by omega
    have HN0 : Hid (begN l = 3) := Lib.hid (by unfold begN; rw [if_neg hl0])
    have hk : l.length - 1 < l.length := by omega
    have q4 : (1 : Int) ≤ l.length := by omega
    have q1 : (0 : Int) ≤ (l.length : Int) - 1 := by omega
    have q2 := wrap_eq (x := (l.length : Int) - 1) (by omega) (by omega)
    have q3 : ((l.length : Int) - 1).toNat = l.length - 1 := by omega
    have hee : l[l.length - 1].hi = endOf l := by unfold endOf; rw [if_neg hl0, rat_get hk]
    obtain ⟨E, hE⟩ : ∃ E, endOf l = E := ⟨_, rfl⟩
    rw [hE] at hee b4
    have hE0 : 0 ≤ E := by rw [← hee]; have := HRi.out.time hk; omega
    obtain ⟨B1, hB1⟩ : ∃ B, begAt r l t.start 1 = B := ⟨_, rfl⟩
    obtain ⟨B2, hB2⟩ : ∃ B, begAt r l t.start 2 = B := ⟨_, rfl⟩
    have m1 : (if t.start < E + r.brk then E + r.brk else t.start) = B1 := by
      rw [← hB1, ← hE]
      unfold begAt
      rw [if_neg (show ¬ (1 = 0) by omega), Int.max_def, show gapOf r 1 = r.brk from rfl]
      split <;> split <;> omega
    have m2 : (if t.start < E + r.rest then E + r.rest else t.start) = B2 := by
      rw [← hB2, ← hE]
      unfold begAt
      rw [if_neg (show ¬ (2 = 0) by omega), Int.max_def, show gapOf r 2 = r.rest from rfl]
      split <;> split <;> omega
    have n1 : t.start ≤ B1 := by rw [← m1]; split <;> omega
    have n2 : t.start ≤ B2 := by rw [← m2]; split <;> omega
    have w1 := wrap_eq (x := E + r.brk) (by omega) (by omega)
    have w2 := wrap_eq (x := E + r.rest) (by omega) (by omega)
    have HB1 := Lib.hid hB1
    have HB2 := Lib.hid hB2
    have b4' : endOf l ≤ t.start := by omega
    clear hB1 hB2 hE
    repeat (first | (with_reducible refine vseq ?_) | (with_reducible refine vthenN ?_) | (with_reducible refine vthenE ?_) | (with_reducible refine vthenR ?_) | (with_reducible refine vret ?_) | (with_reducible refine vskip ?_) | (with_reducible refine vexit ?_) | (with_reducible refine vblock ?_) | (with_reducible refine vblockN ?_) | (with_reducible refine vblockR ?_) | (with_reducible refine vblockH ?_) | (with_reducible refine vrun_nil ?_) | (with_reducible refine vblockE rfl ?_) | (with_reducible refine vregion [21] ?_) | (with_reducible refine vhrun_nil ?_) | ((with_reducible refine vcondT ?_ ?_); (focus (go_simp; done))) | ((with_reducible refine vcondF ?_ ?_); (focus (go_simp; done))) | ((with_reducible refine vrun_cons fun KK hKK => ?_); go_simp; refine hKK _ ?_; clear hKK KK) | ((with_reducible refine vhrun_cons fun KK hKK => ?_); go_simp; refine hKK _ ?_; clear hKK KK))
    clear m1 m2 w1 w2
    have b4 := b4'
    refine vloop (α := Int) (fun i => ⟨[(10, I i), (8, .osl 0), (1, recsA l), (5, .vp t.av), (3, .vp r.av), (7, I S)], [some (.arr 3 1 false [[I t.start], [I B1], [I B2]])]⟩) (fun i => 0 ≤ i ∧ i ≤ 3 ∧ Hid (∀ j : Nat, (j : Int) < i → Passed r l t.start S t.next t.hi j)) (fun i => (3 - i).toNat) 0 ⟨by omega, by omega, Lib.hid fun j hj => by omega⟩ (by go_simp) ?_
    rintro i ⟨i0, i3, hb⟩ K hR
    rcases (show i = 0 ∨ i = 1 ∨ i = 2 ∨ i = 3 by omega) with h0 | h1 | h2 | h3
    · subst h0
      have hB := HB0.out
      by_cases c1 : S < t.start
      · have hp := Lib.hid (show Passed r l t.start S t.next t.hi 0 from .inl (by rw [hB]; exact c1))
        clear hB
        repeat (first | (with_reducible refine vseq ?_) | (with_reducible refine vthenN ?_) | (with_reducible refine vthenE ?_) | (with_reducible refine vthenR ?_) | (with_reducible refine vret ?_) | (with_reducible refine vskip ?_) | (with_reducible refine vexit ?_) | (with_reducible refine vblock ?_) | (with_reducible refine vblockN ?_) | (with_reducible refine vblockR ?_) | (with_reducible refine vblockH ?_) | (with_reducible refine vrun_nil ?_) | (with_reducible refine vblockE rfl ?_) | (with_reducible refine vregion [] ?_) | (with_reducible refine vhrun_nil ?_) | ((with_reducible refine vcondT ?_ ?_); (focus (go_simp; done))) | ((with_reducible refine vcondF ?_ ?_); (focus (go_simp; done))) | ((with_reducible refine vrun_cons fun KK hKK => ?_); go_simp; refine hKK _ ?_; clear hKK KK) | ((with_reducible refine vhrun_cons fun KK hKK => ?_); go_simp; refine hKK _ ?_; clear hKK KK))
        refine hR _ 1 ⟨by omega, by omega, Lib.hid fun j hj => (by
              rcases Nat.lt_or_ge j 0 with h | h
              · exact hb.out j (by omega)
              · have e : j = 0 := by omega
                rw [e]
                exact hp.out)⟩ (by omega) ?_
        go_simp
      · have c1' : t.start ≤ S := by omega
        have hinv := Lib.hid (show ∀ s, begAt r l t.start 0 ≤ s → s < t.start → ¬ weekly l s t.hi ≤ r.week from fun s a b => by omega)
        have HBB := Lib.hid hB
        clear hB
        repeat (first | (with_reducible refine vseq ?_) | (with_reducible refine vthenN ?_) | (with_reducible refine vthenE ?_) | (with_reducible refine vthenR ?_) | (with_reducible refine vret ?_) | (with_reducible refine vskip ?_) | (with_reducible refine vexit ?_) | (with_reducible refine vblock ?_) | (with_reducible refine vblockN ?_) | (with_reducible refine vblockR ?_) | (with_reducible refine vblockH ?_) | (with_reducible refine vrun_nil ?_) | (with_reducible refine vblockE rfl ?_) | (with_reducible refine vregion [] ?_) | (with_reducible refine vhrun_nil ?_) | ((with_reducible refine vcondT ?_ ?_); (focus (go_simp; done))) | ((with_reducible refine vcondF ?_ ?_); (focus (go_simp; done))) | ((with_reducible refine vrun_cons fun KK hKK => ?_); go_simp; refine hKK _ ?_; clear hKK KK) | ((with_reducible refine vhrun_cons fun KK hKK => ?_); go_simp; refine hKK _ ?_; clear hKK KK))
        refine vloop (α := Int × Int) (fun q => ⟨[(11, I q.1), (12, I q.2), (10, I 0), (8, .osl 0), (1, recsA l), (5, .vp t.av), (3, .vp r.av), (7, I S)], [some (.arr 3 1 false [[I t.start], [I B1], [I B2]])]⟩) (fun q => t.start ≤ q.1 ∧ q.1 ≤ q.2 ∧ q.2 ≤ S ∧ Hid (∀ s, begAt r l t.start 0 ≤ s → s < q.1 → ¬ weekly l s t.hi ≤ r.week) ∧ Hid (q.2 = S ∨ weekly l q.2 t.hi ≤ r.week)) (fun q => (q.2 - q.1).toNat) (t.start, S) ⟨by simp only; omega, by simp only; omega, by simp only; omega, hinv, Lib.hid (.inl rfl)⟩ (by go_simp) ?_
        rintro ⟨lo, hi⟩ ⟨d1, d2, d3, hq1, hq2⟩ K2 hR2
        simp only at d1 d2 d3 hq1 hq2 hR2 ⊢
        by_cases hlt : lo < hi
        · have hw1 := wrap_eq (x := lo + hi) (by omega) (by omega)
          have h94 := v94b (lo + hi) (by omega)
          obtain ⟨m, hm⟩ : ∃ m : Int, (lo + hi) / 2 = m := ⟨_, rfl⟩
          rw [hm] at h94
          have hm1 : lo ≤ m := by omega
          have hm2 : m < hi := by omega
          have H94 := Lib.hid h94
          have h95 := Lib.hid (v95 l m t.hi (by omega) HT.out (by omega) hhi)
          have hw2 := wrap_eq (x := m + 1) (by omega) (by omega)
          clear hm h94
          obtain ⟨Y, hY⟩ : ∃ Y, weekly l m t.hi = Y := ⟨_, rfl⟩
          rw [hY] at h95
          have HY := Lib.hid hY
          clear hY
          by_cases hwk : Y ≤ r.week
          · repeat (first | (with_reducible refine vseq ?_) | (with_reducible refine vthenN ?_) | (with_reducible refine vthenE ?_) | (with_reducible refine vthenR ?_) | (with_reducible refine vret ?_) | (with_reducible refine vskip ?_) | (with_reducible refine vexit ?_) | (with_reducible refine vblock ?_) | (with_reducible refine vblockN ?_) | (with_reducible refine vblockR ?_) | (with_reducible refine vblockH ?_) | (with_reducible refine vrun_nil ?_) | (with_reducible refine vblockE rfl ?_) | (with_reducible refine vregion [] ?_) | (with_reducible refine vhrun_nil ?_) | ((with_reducible refine vcondT ?_ ?_); (focus (go_simp; done))) | ((with_reducible refine vcondF ?_ ?_); (focus (go_simp; done))) | ((with_reducible refine vrun_cons fun KK hKK => ?_); go_simp; (first | (refine ⟨_, H94.out, ?_⟩) | skip); refine hKK _ ?_; clear hKK KK) | ((with_reducible refine vhrun_cons fun KK hKK => ?_); go_simp; (first | (refine ⟨_, H94.out, ?_⟩) | skip); refine hKK _ ?_; clear hKK KK))
            refine vdraw 9 [] (by kernel_rfl) (by kernel_rfl) ?_
            simp only [List.take, List.drop]
            repeat (first | (with_reducible refine vseq ?_) | (with_reducible refine vthenN ?_) | (with_reducible refine vthenE ?_) | (with_reducible refine vthenR ?_) | (with_reducible refine vret ?_) | (with_reducible refine vskip ?_) | (with_reducible refine vexit ?_) | (with_reducible refine vblock ?_) | (with_reducible refine vblockN ?_) | (with_reducible refine vblockR ?_) | (with_reducible refine vblockH ?_) | (with_reducible refine vrun_nil ?_) | (with_reducible refine vblockE rfl ?_) | (with_reducible refine vregion [] ?_) | (with_reducible refine vhrun_nil ?_) | ((with_reducible refine vcondT ?_ ?_); (focus (go_simp; done))) | ((with_reducible refine vcondF ?_ ?_); (focus (go_simp; done))) | ((with_reducible refine vrun_cons fun KK hKK => ?_); go_simp; (first | (refine ⟨_, h95.out, ?_⟩) | skip); refine hKK _ ?_; clear hKK KK) | ((with_reducible refine vhrun_cons fun KK hKK => ?_); go_simp; (first | (refine ⟨_, h95.out, ?_⟩) | skip); refine hKK _ ?_; clear hKK KK))
            refine hR2 _ (lo, m) ⟨d1, hm1, by simp only; omega, hq1, Lib.hid (.inr (by simp only; rw [HY.out]; exact hwk))⟩ (by simp only; omega) ?_
            go_simp
          · repeat (first | (with_reducible refine vseq ?_) | (with_reducible refine vthenN ?_) | (with_reducible refine vthenE ?_) | (with_reducible refine vthenR ?_) | (with_reducible refine vret ?_) | (with_reducible refine vskip ?_) | (with_reducible refine vexit ?_) | (with_reducible refine vblock ?_) | (with_reducible refine vblockN ?_) | (with_reducible refine vblockR ?_) | (with_reducible refine vblockH ?_) | (with_reducible refine vrun_nil ?_) | (with_reducible refine vblockE rfl ?_) | (with_reducible refine vregion [] ?_) | (with_reducible refine vhrun_nil ?_) | ((with_reducible refine vcondT ?_ ?_); (focus (go_simp; done))) | ((with_reducible refine vcondF ?_ ?_); (focus (go_simp; done))) | ((with_reducible refine vrun_cons fun KK hKK => ?_); go_simp; (first | (refine ⟨_, H94.out, ?_⟩) | skip); refine hKK _ ?_; clear hKK KK) | ((with_reducible refine vhrun_cons fun KK hKK => ?_); go_simp; (first | (refine ⟨_, H94.out, ?_⟩) | skip); refine hKK _ ?_; clear hKK KK))
            refine vdraw 9 [] (by kernel_rfl) (by kernel_rfl) ?_
            simp only [List.take, List.drop]
            repeat (first | (with_reducible refine vseq ?_) | (with_reducible refine vthenN ?_) | (with_reducible refine vthenE ?_) | (with_reducible refine vthenR ?_) | (with_reducible refine vret ?_) | (with_reducible refine vskip ?_) | (with_reducible refine vexit ?_) | (with_reducible refine vblock ?_) | (with_reducible refine vblockN ?_) | (with_reducible refine vblockR ?_) | (with_reducible refine vblockH ?_) | (with_reducible refine vrun_nil ?_) | (with_reducible refine vblockE rfl ?_) | (with_reducible refine vregion [] ?_) | (with_reducible refine vhrun_nil ?_) | ((with_reducible refine vcondT ?_ ?_); (focus (go_simp; done))) | ((with_reducible refine vcondF ?_ ?_); (focus (go_simp; done))) | ((with_reducible refine vrun_cons fun KK hKK => ?_); go_simp; (first | (refine ⟨_, h95.out, ?_⟩) | skip); refine hKK _ ?_; clear hKK KK) | ((with_reducible refine vhrun_cons fun KK hKK => ?_); go_simp; (first | (refine ⟨_, h95.out, ?_⟩) | skip); refine hKK _ ?_; clear hKK KK))
            refine hR2 _ (m + 1, hi) ⟨by simp only; omega, by simp only; omega, d3, Lib.hid fun s a b => (by
              simp only at b
              rcases Int.lt_or_le s lo with h | h
              · exact hq1.out s a h
              · intro hc
                have hbs := hBS.out 0
                have := weekly_mono HRi.out HFB.out hwk0 (show endOf l ≤ s by omega) (show s ≤ m by omega) hhi.1 hc
                rw [HY.out] at this
                exact hwk this), hq2⟩ (by simp only; omega) ?_
            go_simp
        · have he : lo = hi := by omega
          subst he
          have hlo := Lib.hid (show IsLo r l t.start S t.hi 0 lo from ⟨by rw [HBB.out]; exact d1, d3, hq1.out, hq2.out⟩)
          have h84 := Lib.hid (v84 l r ⟨lo, t.lo, t.hi, t.next⟩ t.hi HRi.out (by show 0 ≤ lo ∧ lo ≤ _; omega) (by show endOf l ≤ lo; omega) hhi (by show -1 ≤ t.next ∧ t.next ≤ _; omega))
          clear hR2
          have hB1 := HB1.out
          by_cases e1 : B1 ≤ lo
          · by_cases e2 : t.start < B1
            · have hp := Lib.hid (show Passed r l t.start S t.next t.hi 0 from .inr ⟨lo, hlo.out, .inl ⟨by rw [HN0.out]; omega, by rw [hB1]; exact e1, by rw [HBB.out, hB1]; exact e2⟩⟩)
              clear hB1
              repeat (first | (with_reducible refine vseq ?_) | (with_reducible refine vthenN ?_) | (with_reducible refine vthenE ?_) | (with_reducible refine vthenR ?_) | (with_reducible refine vret ?_) | (with_reducible refine vskip ?_) | (with_reducible refine vexit ?_) | (with_reducible refine vblock ?_) | (with_reducible refine vblockN ?_) | (with_reducible refine vblockR ?_) | (with_reducible refine vblockH ?_) | (with_reducible refine vrun_nil ?_) | (with_reducible refine vblockE rfl ?_) | (with_reducible refine vregion [] ?_) | (with_reducible refine vhrun_nil ?_) | ((with_reducible refine vcondT ?_ ?_); (focus (go_simp; done))) | ((with_reducible refine vcondF ?_ ?_); (focus (go_simp; done))) | ((with_reducible refine vrun_cons fun KK hKK => ?_); go_simp; refine hKK _ ?_; clear hKK KK) | ((with_reducible refine vhrun_cons fun KK hKK => ?_); go_simp; refine hKK _ ?_; clear hKK KK))
              refine vdraw 26 [] (by kernel_rfl) (by kernel_rfl) ?_
              simp only [List.take, List.drop]
              repeat (first | (with_reducible refine vseq ?_) | (with_reducible refine vthenN ?_) | (with_reducible refine vthenE ?_) | (with_reducible refine vthenR ?_) | (with_reducible refine vret ?_) | (with_reducible refine vskip ?_) | (with_reducible refine vexit ?_) | (with_reducible refine vblock ?_) | (with_reducible refine vblockN ?_) | (with_reducible refine vblockR ?_) | (with_reducible refine vblockH ?_) | (with_reducible refine vrun_nil ?_) | (with_reducible refine vblockE rfl ?_) | (with_reducible refine vregion [] ?_) | (with_reducible refine vhrun_nil ?_) | ((with_reducible refine vcondT ?_ ?_); (focus (go_simp; done))) | ((with_reducible refine vcondF ?_ ?_); (focus (go_simp; done))) | ((with_reducible refine vrun_cons fun KK hKK => ?_); go_simp; refine hKK _ ?_; clear hKK KK) | ((with_reducible refine vhrun_cons fun KK hKK => ?_); go_simp; refine hKK _ ?_; clear hKK KK))
              refine hR _ 1 ⟨by omega, by omega, Lib.hid fun j hj => (by
              rcases Nat.lt_or_ge j 0 with h | h
              · exact hb.out j (by omega)
              · have e : j = 0 := by omega
                rw [e]
                exact hp.out)⟩ (by omega) ?_
              go_simp
            · clear hB1
              by_cases c2 : breaksP r l lo t.next t.hi = 0
              · have hres := Lib.hid (HV.out 0 lo (fun j hj => hb.out j (by omega)) hlo.out c2)
                repeat (first | (with_reducible refine vseq ?_) | (with_reducible refine vthenN ?_) | (with_reducible refine vthenE ?_) | (with_reducible refine vthenR ?_) | (with_reducible refine vret ?_) | (with_reducible refine vskip ?_) | (with_reducible refine vexit ?_) | (with_reducible refine vblock ?_) | (with_reducible refine vblockN ?_) | (with_reducible refine vblockR ?_) | (with_reducible refine vblockH ?_) | (with_reducible refine vrun_nil ?_) | (with_reducible refine vblockE rfl ?_) | (with_reducible refine vregion [] ?_) | (with_reducible refine vhrun_nil ?_) | ((with_reducible refine vcondT ?_ ?_); (focus (go_simp; done))) | ((with_reducible refine vcondF ?_ ?_); (focus (go_simp; done))) | ((with_reducible refine vrun_cons fun KK hKK => ?_); go_simp; refine hKK _ ?_; clear hKK KK) | ((with_reducible refine vhrun_cons fun KK hKK => ?_); go_simp; refine hKK _ ?_; clear hKK KK))
                refine vdraw 26 [] (by kernel_rfl) (by kernel_rfl) ?_
                simp only [List.take, List.drop]
                repeat (first | (with_reducible refine vseq ?_) | (with_reducible refine vthenN ?_) | (with_reducible refine vthenE ?_) | (with_reducible refine vthenR ?_) | (with_reducible refine vret ?_) | (with_reducible refine vskip ?_) | (with_reducible refine vexit ?_) | (with_reducible refine vblock ?_) | (with_reducible refine vblockN ?_) | (with_reducible refine vblockR ?_) | (with_reducible refine vblockH ?_) | (with_reducible refine vrun_nil ?_) | (with_reducible refine vblockE rfl ?_) | (with_reducible refine vregion [] ?_) | (with_reducible refine vhrun_nil ?_) | ((with_reducible refine vcondT ?_ ?_); (focus (go_simp; done))) | ((with_reducible refine vcondF ?_ ?_); (focus (go_simp; done))) | ((with_reducible refine vrun_cons fun KK hKK => ?_); go_simp; (first | (refine ⟨_, h84.out, ?_⟩) | (refine ⟨_, ⟨h84.out, rfl⟩, ?_⟩) | skip); refine hKK _ ?_; clear hKK KK) | ((with_reducible refine vhrun_cons fun KK hKK => ?_); go_simp; (first | (refine ⟨_, h84.out, ?_⟩) | (refine ⟨_, ⟨h84.out, rfl⟩, ?_⟩) | skip); refine hKK _ ?_; clear hKK KK))
                rw [hres.out]
                go_simp
              · have hp := Lib.hid (show Passed r l t.start S t.next t.hi 0 from .inr ⟨lo, hlo.out, .inr c2⟩)
                repeat (first | (with_reducible refine vseq ?_) | (with_reducible refine vthenN ?_) | (with_reducible refine vthenE ?_) | (with_reducible refine vthenR ?_) | (with_reducible refine vret ?_) | (with_reducible refine vskip ?_) | (with_reducible refine vexit ?_) | (with_reducible refine vblock ?_) | (with_reducible refine vblockN ?_) | (with_reducible refine vblockR ?_) | (with_reducible refine vblockH ?_) | (with_reducible refine vrun_nil ?_) | (with_reducible refine vblockE rfl ?_) | (with_reducible refine vregion [] ?_) | (with_reducible refine vhrun_nil ?_) | ((with_reducible refine vcondT ?_ ?_); (focus (go_simp; done))) | ((with_reducible refine vcondF ?_ ?_); (focus (go_simp; done))) | ((with_reducible refine vrun_cons fun KK hKK => ?_); go_simp; refine hKK _ ?_; clear hKK KK) | ((with_reducible refine vhrun_cons fun KK hKK => ?_); go_simp; refine hKK _ ?_; clear hKK KK))
                refine vdraw 26 [] (by kernel_rfl) (by kernel_rfl) ?_
                simp only [List.take, List.drop]
                repeat (first | (with_reducible refine vseq ?_) | (with_reducible refine vthenN ?_) | (with_reducible refine vthenE ?_) | (with_reducible refine vthenR ?_) | (with_reducible refine vret ?_) | (with_reducible refine vskip ?_) | (with_reducible refine vexit ?_) | (with_reducible refine vblock ?_) | (with_reducible refine vblockN ?_) | (with_reducible refine vblockR ?_) | (with_reducible refine vblockH ?_) | (with_reducible refine vrun_nil ?_) | (with_reducible refine vblockE rfl ?_) | (with_reducible refine vregion [] ?_) | (with_reducible refine vhrun_nil ?_) | ((with_reducible refine vcondT ?_ ?_); (focus (go_simp; done))) | ((with_reducible refine vcondF ?_ ?_); (focus (go_simp; done))) | ((with_reducible refine vrun_cons fun KK hKK => ?_); go_simp; (first | (refine ⟨_, h84.out, ?_⟩) | (refine ⟨_, ⟨h84.out, rfl⟩, ?_⟩) | skip); refine hKK _ ?_; clear hKK KK) | ((with_reducible refine vhrun_cons fun KK hKK => ?_); go_simp; (first | (refine ⟨_, h84.out, ?_⟩) | (refine ⟨_, ⟨h84.out, rfl⟩, ?_⟩) | skip); refine hKK _ ?_; clear hKK KK))
                refine hR _ 1 ⟨by omega, by omega, Lib.hid fun j hj => (by
              rcases Nat.lt_or_ge j 0 with h | h
              · exact hb.out j (by omega)
              · have e : j = 0 := by omega
                rw [e]
                exact hp.out)⟩ (by omega) ?_
                go_simp
          · clear hB1
            by_cases c2 : breaksP r l lo t.next t.hi = 0
            · have hres := Lib.hid (HV.out 0 lo (fun j hj => hb.out j (by omega)) hlo.out c2)
              repeat (first | (with_reducible refine vseq ?_) | (with_reducible refine vthenN ?_) | (with_reducible refine vthenE ?_) | (with_reducible refine vthenR ?_) | (with_reducible refine vret ?_) | (with_reducible refine vskip ?_) | (with_reducible refine vexit ?_) | (with_reducible refine vblock ?_) | (with_reducible refine vblockN ?_) | (with_reducible refine vblockR ?_) | (with_reducible refine vblockH ?_) | (with_reducible refine vrun_nil ?_) | (with_reducible refine vblockE rfl ?_) | (with_reducible refine vregion [] ?_) | (with_reducible refine vhrun_nil ?_) | ((with_reducible refine vcondT ?_ ?_); (focus (go_simp; done))) | ((with_reducible refine vcondF ?_ ?_); (focus (go_simp; done))) | ((with_reducible refine vrun_cons fun KK hKK => ?_); go_simp; refine hKK _ ?_; clear hKK KK) | ((with_reducible refine vhrun_cons fun KK hKK => ?_); go_simp; refine hKK _ ?_; clear hKK KK))
              refine vdraw 26 [] (by kernel_rfl) (by kernel_rfl) ?_
              simp only [List.take, List.drop]
              repeat (first | (with_reducible refine vseq ?_) | (with_reducible refine vthenN ?_) | (with_reducible refine vthenE ?_) | (with_reducible refine vthenR ?_) | (with_reducible refine vret ?_) | (with_reducible refine vskip ?_) | (with_reducible refine vexit ?_) | (with_reducible refine vblock ?_) | (with_reducible refine vblockN ?_) | (with_reducible refine vblockR ?_) | (with_reducible refine vblockH ?_) | (with_reducible refine vrun_nil ?_) | (with_reducible refine vblockE rfl ?_) | (with_reducible refine vregion [] ?_) | (with_reducible refine vhrun_nil ?_) | ((with_reducible refine vcondT ?_ ?_); (focus (go_simp; done))) | ((with_reducible refine vcondF ?_ ?_); (focus (go_simp; done))) | ((with_reducible refine vrun_cons fun KK hKK => ?_); go_simp; (first | (refine ⟨_, h84.out, ?_⟩) | (refine ⟨_, ⟨h84.out, rfl⟩, ?_⟩) | skip); refine hKK _ ?_; clear hKK KK) | ((with_reducible refine vhrun_cons fun KK hKK => ?_); go_simp; (first | (refine ⟨_, h84.out, ?_⟩) | (refine ⟨_, ⟨h84.out, rfl⟩, ?_⟩) | skip); refine hKK _ ?_; clear hKK KK))
              rw [hres.out]
              go_simp
            · have hp := Lib.hid (show Passed r l t.start S t.next t.hi 0 from .inr ⟨lo, hlo.out, .inr c2⟩)
              repeat (first | (with_reducible refine vseq ?_) | (with_reducible refine vthenN ?_) | (with_reducible refine vthenE ?_) | (with_reducible refine vthenR ?_) | (with_reducible refine vret ?_) | (with_reducible refine vskip ?_) | (with_reducible refine vexit ?_) | (with_reducible refine vblock ?_) | (with_reducible refine vblockN ?_) | (with_reducible refine vblockR ?_) | (with_reducible refine vblockH ?_) | (with_reducible refine vrun_nil ?_) | (with_reducible refine vblockE rfl ?_) | (with_reducible refine vregion [] ?_) | (with_reducible refine vhrun_nil ?_) | ((with_reducible refine vcondT ?_ ?_); (focus (go_simp; done))) | ((with_reducible refine vcondF ?_ ?_); (focus (go_simp; done))) | ((with_reducible refine vrun_cons fun KK hKK => ?_); go_simp; refine hKK _ ?_; clear hKK KK) | ((with_reducible refine vhrun_cons fun KK hKK => ?_); go_simp; refine hKK _ ?_; clear hKK KK))
              refine vdraw 26 [] (by kernel_rfl) (by kernel_rfl) ?_
              simp only [List.take, List.drop]
              repeat (first | (with_reducible refine vseq ?_) | (with_reducible refine vthenN ?_) | (with_reducible refine vthenE ?_) | (with_reducible refine vthenR ?_) | (with_reducible refine vret ?_) | (with_reducible refine vskip ?_) | (with_reducible refine vexit ?_) | (with_reducible refine vblock ?_) | (with_reducible refine vblockN ?_) | (with_reducible refine vblockR ?_) | (with_reducible refine vblockH ?_) | (with_reducible refine vrun_nil ?_) | (with_reducible refine vblockE rfl ?_) | (with_reducible refine vregion [] ?_) | (with_reducible refine vhrun_nil ?_) | ((with_reducible refine vcondT ?_ ?_); (focus (go_simp; done))) | ((with_reducible refine vcondF ?_ ?_); (focus (go_simp; done))) | ((with_reducible refine vrun_cons fun KK hKK => ?_); go_simp; (first | (refine ⟨_, h84.out, ?_⟩) | (refine ⟨_, ⟨h84.out, rfl⟩, ?_⟩) | skip); refine hKK _ ?_; clear hKK KK) | ((with_reducible refine vhrun_cons fun KK hKK => ?_); go_simp; (first | (refine ⟨_, h84.out, ?_⟩) | (refine ⟨_, ⟨h84.out, rfl⟩, ?_⟩) | skip); refine hKK _ ?_; clear hKK KK))
              refine hR _ 1 ⟨by omega, by omega, Lib.hid fun j hj => (by
              rcases Nat.lt_or_ge j 0 with h | h
              · exact hb.out j (by omega)
              · have e : j = 0 := by omega
                rw [e]
                exact hp.out)⟩ (by omega) ?_
              go_simp
    · subst h1
      have hB := HB1.out
      by_cases c1 : S < B1
      · have hp := Lib.hid (show Passed r l t.start S t.next t.hi 1 from .inl (by rw [hB]; exact c1))
        clear hB
        repeat (first | (with_reducible refine vseq ?_) | (with_reducible refine vthenN ?_) | (with_reducible refine vthenE ?_) | (with_reducible refine vthenR ?_) | (with_reducible refine vret ?_) | (with_reducible refine vskip ?_) | (with_reducible refine vexit ?_) | (with_reducible refine vblock ?_) | (with_reducible refine vblockN ?_) | (with_reducible refine vblockR ?_) | (with_reducible refine vblockH ?_) | (with_reducible refine vrun_nil ?_) | (with_reducible refine vblockE rfl ?_) | (with_reducible refine vregion [] ?_) | (with_reducible refine vhrun_nil ?_) | ((with_reducible refine vcondT ?_ ?_); (focus (go_simp; done))) | ((with_reducible refine vcondF ?_ ?_); (focus (go_simp; done))) | ((with_reducible refine vrun_cons fun KK hKK => ?_); go_simp; refine hKK _ ?_; clear hKK KK) | ((with_reducible refine vhrun_cons fun KK hKK => ?_); go_simp; refine hKK _ ?_; clear hKK KK))
        refine hR _ 2 ⟨by omega, by omega, Lib.hid fun j hj => (by
              rcases Nat.lt_or_ge j 1 with h | h
              · exact hb.out j (by omega)
              · have e : j = 1 := by omega
                rw [e]
                exact hp.out)⟩ (by omega) ?_
        go_simp
      · have c1' : B1 ≤ S := by omega
        have hinv := Lib.hid (show ∀ s, begAt r l t.start 1 ≤ s → s < B1 → ¬ weekly l s t.hi ≤ r.week from fun s a b => by omega)
        have HBB := Lib.hid hB
        clear hB
        repeat (first | (with_reducible refine vseq ?_) | (with_reducible refine vthenN ?_) | (with_reducible refine vthenE ?_) | (with_reducible refine vthenR ?_) | (with_reducible refine vret ?_) | (with_reducible refine vskip ?_) | (with_reducible refine vexit ?_) | (with_reducible refine vblock ?_) | (with_reducible refine vblockN ?_) | (with_reducible refine vblockR ?_) | (with_reducible refine vblockH ?_) | (with_reducible refine vrun_nil ?_) | (with_reducible refine vblockE rfl ?_) | (with_reducible refine vregion [] ?_) | (with_reducible refine vhrun_nil ?_) | ((with_reducible refine vcondT ?_ ?_); (focus (go_simp; done))) | ((with_reducible refine vcondF ?_ ?_); (focus (go_simp; done))) | ((with_reducible refine vrun_cons fun KK hKK => ?_); go_simp; refine hKK _ ?_; clear hKK KK) | ((with_reducible refine vhrun_cons fun KK hKK => ?_); go_simp; refine hKK _ ?_; clear hKK KK))
        refine vloop (α := Int × Int) (fun q => ⟨[(11, I q.1), (12, I q.2), (10, I 1), (8, .osl 0), (1, recsA l), (5, .vp t.av), (3, .vp r.av), (7, I S)], [some (.arr 3 1 false [[I t.start], [I B1], [I B2]])]⟩) (fun q => B1 ≤ q.1 ∧ q.1 ≤ q.2 ∧ q.2 ≤ S ∧ Hid (∀ s, begAt r l t.start 1 ≤ s → s < q.1 → ¬ weekly l s t.hi ≤ r.week) ∧ Hid (q.2 = S ∨ weekly l q.2 t.hi ≤ r.week)) (fun q => (q.2 - q.1).toNat) (B1, S) ⟨by simp only; omega, by simp only; omega, by simp only; omega, hinv, Lib.hid (.inl rfl)⟩ (by go_simp) ?_
        rintro ⟨lo, hi⟩ ⟨d1, d2, d3, hq1, hq2⟩ K2 hR2
        simp only at d1 d2 d3 hq1 hq2 hR2 ⊢
        by_cases hlt : lo < hi
        · have hw1 := wrap_eq (x := lo + hi) (by omega) (by omega)
          have h94 := v94b (lo + hi) (by omega)
          obtain ⟨m, hm⟩ : ∃ m : Int, (lo + hi) / 2 = m := ⟨_, rfl⟩
          rw [hm] at h94
          have hm1 : lo ≤ m := by omega
          have hm2 : m < hi := by omega
          have H94 := Lib.hid h94
          have h95 := Lib.hid (v95 l m t.hi (by omega) HT.out (by omega) hhi)
          have hw2 := wrap_eq (x := m + 1) (by omega) (by omega)
          clear hm h94
          obtain ⟨Y, hY⟩ : ∃ Y, weekly l m t.hi = Y := ⟨_, rfl⟩
          rw [hY] at h95
          have HY := Lib.hid hY
          clear hY
          by_cases hwk : Y ≤ r.week
          · repeat (first | (with_reducible refine vseq ?_) | (with_reducible refine vthenN ?_) | (with_reducible refine vthenE ?_) | (with_reducible refine vthenR ?_) | (with_reducible refine vret ?_) | (with_reducible refine vskip ?_) | (with_reducible refine vexit ?_) | (with_reducible refine vblock ?_) | (with_reducible refine vblockN ?_) | (with_reducible refine vblockR ?_) | (with_reducible refine vblockH ?_) | (with_reducible refine vrun_nil ?_) | (with_reducible refine vblockE rfl ?_) | (with_reducible refine vregion [] ?_) | (with_reducible refine vhrun_nil ?_) | ((with_reducible refine vcondT ?_ ?_); (focus (go_simp; done))) | ((with_reducible refine vcondF ?_ ?_); (focus (go_simp; done))) | ((with_reducible refine vrun_cons fun KK hKK => ?_); go_simp; (first | (refine ⟨_, H94.out, ?_⟩) | skip); refine hKK _ ?_; clear hKK KK) | ((with_reducible refine vhrun_cons fun KK hKK => ?_); go_simp; (first | (refine ⟨_, H94.out, ?_⟩) | skip); refine hKK _ ?_; clear hKK KK))
            refine vdraw 9 [] (by kernel_rfl) (by kernel_rfl) ?_
            simp only [List.take, List.drop]
            repeat (first | (with_reducible refine vseq ?_) | (with_reducible refine vthenN ?_) | (with_reducible refine vthenE ?_) | (with_reducible refine vthenR ?_) | (with_reducible refine vret ?_) | (with_reducible refine vskip ?_) | (with_reducible refine vexit ?_) | (with_reducible refine vblock ?_) | (with_reducible refine vblockN ?_) | (with_reducible refine vblockR ?_) | (with_reducible refine vblockH ?_) | (with_reducible refine vrun_nil ?_) | (with_reducible refine vblockE rfl ?_) | (with_reducible refine vregion [] ?_) | (with_reducible refine vhrun_nil ?_) | ((with_reducible refine vcondT ?_ ?_); (focus (go_simp; done))) | ((with_reducible refine vcondF ?_ ?_); (focus (go_simp; done))) | ((with_reducible refine vrun_cons fun KK hKK => ?_); go_simp; (first | (refine ⟨_, h95.out, ?_⟩) | skip); refine hKK _ ?_; clear hKK KK) | ((with_reducible refine vhrun_cons fun KK hKK => ?_); go_simp; (first | (refine ⟨_, h95.out, ?_⟩) | skip); refine hKK _ ?_; clear hKK KK))
            refine hR2 _ (lo, m) ⟨d1, hm1, by simp only; omega, hq1, Lib.hid (.inr (by simp only; rw [HY.out]; exact hwk))⟩ (by simp only; omega) ?_
            go_simp
          · repeat (first | (with_reducible refine vseq ?_) | (with_reducible refine vthenN ?_) | (with_reducible refine vthenE ?_) | (with_reducible refine vthenR ?_) | (with_reducible refine vret ?_) | (with_reducible refine vskip ?_) | (with_reducible refine vexit ?_) | (with_reducible refine vblock ?_) | (with_reducible refine vblockN ?_) | (with_reducible refine vblockR ?_) | (with_reducible refine vblockH ?_) | (with_reducible refine vrun_nil ?_) | (with_reducible refine vblockE rfl ?_) | (with_reducible refine vregion [] ?_) | (with_reducible refine vhrun_nil ?_) | ((with_reducible refine vcondT ?_ ?_); (focus (go_simp; done))) | ((with_reducible refine vcondF ?_ ?_); (focus (go_simp; done))) | ((with_reducible refine vrun_cons fun KK hKK => ?_); go_simp; (first | (refine ⟨_, H94.out, ?_⟩) | skip); refine hKK _ ?_; clear hKK KK) | ((with_reducible refine vhrun_cons fun KK hKK => ?_); go_simp; (first | (refine ⟨_, H94.out, ?_⟩) | skip); refine hKK _ ?_; clear hKK KK))
            refine vdraw 9 [] (by kernel_rfl) (by kernel_rfl) ?_
            simp only [List.take, List.drop]
            repeat (first | (with_reducible refine vseq ?_) | (with_reducible refine vthenN ?_) | (with_reducible refine vthenE ?_) | (with_reducible refine vthenR ?_) | (with_reducible refine vret ?_) | (with_reducible refine vskip ?_) | (with_reducible refine vexit ?_) | (with_reducible refine vblock ?_) | (with_reducible refine vblockN ?_) | (with_reducible refine vblockR ?_) | (with_reducible refine vblockH ?_) | (with_reducible refine vrun_nil ?_) | (with_reducible refine vblockE rfl ?_) | (with_reducible refine vregion [] ?_) | (with_reducible refine vhrun_nil ?_) | ((with_reducible refine vcondT ?_ ?_); (focus (go_simp; done))) | ((with_reducible refine vcondF ?_ ?_); (focus (go_simp; done))) | ((with_reducible refine vrun_cons fun KK hKK => ?_); go_simp; (first | (refine ⟨_, h95.out, ?_⟩) | skip); refine hKK _ ?_; clear hKK KK) | ((with_reducible refine vhrun_cons fun KK hKK => ?_); go_simp; (first | (refine ⟨_, h95.out, ?_⟩) | skip); refine hKK _ ?_; clear hKK KK))
            refine hR2 _ (m + 1, hi) ⟨by simp only; omega, by simp only; omega, d3, Lib.hid fun s a b => (by
              simp only at b
              rcases Int.lt_or_le s lo with h | h
              · exact hq1.out s a h
              · intro hc
                have hbs := hBS.out 1
                have := weekly_mono HRi.out HFB.out hwk0 (show endOf l ≤ s by omega) (show s ≤ m by omega) hhi.1 hc
                rw [HY.out] at this
                exact hwk this), hq2⟩ (by simp only; omega) ?_
            go_simp
        · have he : lo = hi := by omega
          subst he
          have hlo := Lib.hid (show IsLo r l t.start S t.hi 1 lo from ⟨by rw [HBB.out]; exact d1, d3, hq1.out, hq2.out⟩)
          have h84 := Lib.hid (v84 l r ⟨lo, t.lo, t.hi, t.next⟩ t.hi HRi.out (by show 0 ≤ lo ∧ lo ≤ _; omega) (by show endOf l ≤ lo; omega) hhi (by show -1 ≤ t.next ∧ t.next ≤ _; omega))
          clear hR2
          have hB1 := HB2.out
          by_cases e1 : B2 ≤ lo
          · by_cases e2 : B1 < B2
            · have hp := Lib.hid (show Passed r l t.start S t.next t.hi 1 from .inr ⟨lo, hlo.out, .inl ⟨by rw [HN0.out]; omega, by rw [hB1]; exact e1, by rw [HBB.out, hB1]; exact e2⟩⟩)
              clear hB1
              repeat (first | (with_reducible refine vseq ?_) | (with_reducible refine vthenN ?_) | (with_reducible refine vthenE ?_) | (with_reducible refine vthenR ?_) | (with_reducible refine vret ?_) | (with_reducible refine vskip ?_) | (with_reducible refine vexit ?_) | (with_reducible refine vblock ?_) | (with_reducible refine vblockN ?_) | (with_reducible refine vblockR ?_) | (with_reducible refine vblockH ?_) | (with_reducible refine vrun_nil ?_) | (with_reducible refine vblockE rfl ?_) | (with_reducible refine vregion [] ?_) | (with_reducible refine vhrun_nil ?_) | ((with_reducible refine vcondT ?_ ?_); (focus (go_simp; done))) | ((with_reducible refine vcondF ?_ ?_); (focus (go_simp; done))) | ((with_reducible refine vrun_cons fun KK hKK => ?_); go_simp; refine hKK _ ?_; clear hKK KK) | ((with_reducible refine vhrun_cons fun KK hKK => ?_); go_simp; refine hKK _ ?_; clear hKK KK))
              refine vdraw 26 [] (by kernel_rfl) (by kernel_rfl) ?_
              simp only [List.take, List.drop]
              repeat (first | (with_reducible refine vseq ?_) | (with_reducible refine vthenN ?_) | (with_reducible refine vthenE ?_) | (with_reducible refine vthenR ?_) | (with_reducible refine vret ?_) | (with_reducible refine vskip ?_) | (with_reducible refine vexit ?_) | (with_reducible refine vblock ?_) | (with_reducible refine vblockN ?_) | (with_reducible refine vblockR ?_) | (with_reducible refine vblockH ?_) | (with_reducible refine vrun_nil ?_) | (with_reducible refine vblockE rfl ?_) | (with_reducible refine vregion [] ?_) | (with_reducible refine vhrun_nil ?_) | ((with_reducible refine vcondT ?_ ?_); (focus (go_simp; done))) | ((with_reducible refine vcondF ?_ ?_); (focus (go_simp; done))) | ((with_reducible refine vrun_cons fun KK hKK => ?_); go_simp; refine hKK _ ?_; clear hKK KK) | ((with_reducible refine vhrun_cons fun KK hKK => ?_); go_simp; refine hKK _ ?_; clear hKK KK))
              refine hR _ 2 ⟨by omega, by omega, Lib.hid fun j hj => (by
              rcases Nat.lt_or_ge j 1 with h | h
              · exact hb.out j (by omega)
              · have e : j = 1 := by omega
                rw [e]
                exact hp.out)⟩ (by omega) ?_
              go_simp
            · clear hB1
              by_cases c2 : breaksP r l lo t.next t.hi = 0
              · have hres := Lib.hid (HV.out 1 lo (fun j hj => hb.out j (by omega)) hlo.out c2)
                repeat (first | (with_reducible refine vseq ?_) | (with_reducible refine vthenN ?_) | (with_reducible refine vthenE ?_) | (with_reducible refine vthenR ?_) | (with_reducible refine vret ?_) | (with_reducible refine vskip ?_) | (with_reducible refine vexit ?_) | (with_reducible refine vblock ?_) | (with_reducible refine vblockN ?_) | (with_reducible refine vblockR ?_) | (with_reducible refine vblockH ?_) | (with_reducible refine vrun_nil ?_) | (with_reducible refine vblockE rfl ?_) | (with_reducible refine vregion [] ?_) | (with_reducible refine vhrun_nil ?_) | ((with_reducible refine vcondT ?_ ?_); (focus (go_simp; done))) | ((with_reducible refine vcondF ?_ ?_); (focus (go_simp; done))) | ((with_reducible refine vrun_cons fun KK hKK => ?_); go_simp; refine hKK _ ?_; clear hKK KK) | ((with_reducible refine vhrun_cons fun KK hKK => ?_); go_simp; refine hKK _ ?_; clear hKK KK))
                refine vdraw 26 [] (by kernel_rfl) (by kernel_rfl) ?_
                simp only [List.take, List.drop]
                repeat (first | (with_reducible refine vseq ?_) | (with_reducible refine vthenN ?_) | (with_reducible refine vthenE ?_) | (with_reducible refine vthenR ?_) | (with_reducible refine vret ?_) | (with_reducible refine vskip ?_) | (with_reducible refine vexit ?_) | (with_reducible refine vblock ?_) | (with_reducible refine vblockN ?_) | (with_reducible refine vblockR ?_) | (with_reducible refine vblockH ?_) | (with_reducible refine vrun_nil ?_) | (with_reducible refine vblockE rfl ?_) | (with_reducible refine vregion [] ?_) | (with_reducible refine vhrun_nil ?_) | ((with_reducible refine vcondT ?_ ?_); (focus (go_simp; done))) | ((with_reducible refine vcondF ?_ ?_); (focus (go_simp; done))) | ((with_reducible refine vrun_cons fun KK hKK => ?_); go_simp; (first | (refine ⟨_, h84.out, ?_⟩) | (refine ⟨_, ⟨h84.out, rfl⟩, ?_⟩) | skip); refine hKK _ ?_; clear hKK KK) | ((with_reducible refine vhrun_cons fun KK hKK => ?_); go_simp; (first | (refine ⟨_, h84.out, ?_⟩) | (refine ⟨_, ⟨h84.out, rfl⟩, ?_⟩) | skip); refine hKK _ ?_; clear hKK KK))
                rw [hres.out]
                go_simp
              · have hp := Lib.hid (show Passed r l t.start S t.next t.hi 1 from .inr ⟨lo, hlo.out, .inr c2⟩)
                repeat (first | (with_reducible refine vseq ?_) | (with_reducible refine vthenN ?_) | (with_reducible refine vthenE ?_) | (with_reducible refine vthenR ?_) | (with_reducible refine vret ?_) | (with_reducible refine vskip ?_) | (with_reducible refine vexit ?_) | (with_reducible refine vblock ?_) | (with_reducible refine vblockN ?_) | (with_reducible refine vblockR ?_) | (with_reducible refine vblockH ?_) | (with_reducible refine vrun_nil ?_) | (with_reducible refine vblockE rfl ?_) | (with_reducible refine vregion [] ?_) | (with_reducible refine vhrun_nil ?_) | ((with_reducible refine vcondT ?_ ?_); (focus (go_simp; done))) | ((with_reducible refine vcondF ?_ ?_); (focus (go_simp; done))) | ((with_reducible refine vrun_cons fun KK hKK => ?_); go_simp; refine hKK _ ?_; clear hKK KK) | ((with_reducible refine vhrun_cons fun KK hKK => ?_); go_simp; refine hKK _ ?_; clear hKK KK))
                refine vdraw 26 [] (by kernel_rfl) (by kernel_rfl) ?_
                simp only [List.take, List.drop]
                repeat (first | (with_reducible refine vseq ?_) | (with_reducible refine vthenN ?_) | (with_reducible refine vthenE ?_) | (with_reducible refine vthenR ?_) | (with_reducible refine vret ?_) | (with_reducible refine vskip ?_) | (with_reducible refine vexit ?_) | (with_reducible refine vblock ?_) | (with_reducible refine vblockN ?_) | (with_reducible refine vblockR ?_) | (with_reducible refine vblockH ?_) | (with_reducible refine vrun_nil ?_) | (with_reducible refine vblockE rfl ?_) | (with_reducible refine vregion [] ?_) | (with_reducible refine vhrun_nil ?_) | ((with_reducible refine vcondT ?_ ?_); (focus (go_simp; done))) | ((with_reducible refine vcondF ?_ ?_); (focus (go_simp; done))) | ((with_reducible refine vrun_cons fun KK hKK => ?_); go_simp; (first | (refine ⟨_, h84.out, ?_⟩) | (refine ⟨_, ⟨h84.out, rfl⟩, ?_⟩) | skip); refine hKK _ ?_; clear hKK KK) | ((with_reducible refine vhrun_cons fun KK hKK => ?_); go_simp; (first | (refine ⟨_, h84.out, ?_⟩) | (refine ⟨_, ⟨h84.out, rfl⟩, ?_⟩) | skip); refine hKK _ ?_; clear hKK KK))
                refine hR _ 2 ⟨by omega, by omega, Lib.hid fun j hj => (by
              rcases Nat.lt_or_ge j 1 with h | h
              · exact hb.out j (by omega)
              · have e : j = 1 := by omega
                rw [e]
                exact hp.out)⟩ (by omega) ?_
                go_simp
          · clear hB1
            by_cases c2 : breaksP r l lo t.next t.hi = 0
            · have hres := Lib.hid (HV.out 1 lo (fun j hj => hb.out j (by omega)) hlo.out c2)
              repeat (first | (with_reducible refine vseq ?_) | (with_reducible refine vthenN ?_) | (with_reducible refine vthenE ?_) | (with_reducible refine vthenR ?_) | (with_reducible refine vret ?_) | (with_reducible refine vskip ?_) | (with_reducible refine vexit ?_) | (with_reducible refine vblock ?_) | (with_reducible refine vblockN ?_) | (with_reducible refine vblockR ?_) | (with_reducible refine vblockH ?_) | (with_reducible refine vrun_nil ?_) | (with_reducible refine vblockE rfl ?_) | (with_reducible refine vregion [] ?_) | (with_reducible refine vhrun_nil ?_) | ((with_reducible refine vcondT ?_ ?_); (focus (go_simp; done))) | ((with_reducible refine vcondF ?_ ?_); (focus (go_simp; done))) | ((with_reducible refine vrun_cons fun KK hKK => ?_); go_simp; refine hKK _ ?_; clear hKK KK) | ((with_reducible refine vhrun_cons fun KK hKK => ?_); go_simp; refine hKK _ ?_; clear hKK KK))
              refine vdraw 26 [] (by kernel_rfl) (by kernel_rfl) ?_
              simp only [List.take, List.drop]
              repeat (first | (with_reducible refine vseq ?_) | (with_reducible refine vthenN ?_) | (with_reducible refine vthenE ?_) | (with_reducible refine vthenR ?_) | (with_reducible refine vret ?_) | (with_reducible refine vskip ?_) | (with_reducible refine vexit ?_) | (with_reducible refine vblock ?_) | (with_reducible refine vblockN ?_) | (with_reducible refine vblockR ?_) | (with_reducible refine vblockH ?_) | (with_reducible refine vrun_nil ?_) | (with_reducible refine vblockE rfl ?_) | (with_reducible refine vregion [] ?_) | (with_reducible refine vhrun_nil ?_) | ((with_reducible refine vcondT ?_ ?_); (focus (go_simp; done))) | ((with_reducible refine vcondF ?_ ?_); (focus (go_simp; done))) | ((with_reducible refine vrun_cons fun KK hKK => ?_); go_simp; (first | (refine ⟨_, h84.out, ?_⟩) | (refine ⟨_, ⟨h84.out, rfl⟩, ?_⟩) | skip); refine hKK _ ?_; clear hKK KK) | ((with_reducible refine vhrun_cons fun KK hKK => ?_); go_simp; (first | (refine ⟨_, h84.out, ?_⟩) | (refine ⟨_, ⟨h84.out, rfl⟩, ?_⟩) | skip); refine hKK _ ?_; clear hKK KK))
              rw [hres.out]
              go_simp
            · have hp := Lib.hid (show Passed r l t.start S t.next t.hi 1 from .inr ⟨lo, hlo.out, .inr c2⟩)
              repeat (first | (with_reducible refine vseq ?_) | (with_reducible refine vthenN ?_) | (with_reducible refine vthenE ?_) | (with_reducible refine vthenR ?_) | (with_reducible refine vret ?_) | (with_reducible refine vskip ?_) | (with_reducible refine vexit ?_) | (with_reducible refine vblock ?_) | (with_reducible refine vblockN ?_) | (with_reducible refine vblockR ?_) | (with_reducible refine vblockH ?_) | (with_reducible refine vrun_nil ?_) | (with_reducible refine vblockE rfl ?_) | (with_reducible refine vregion [] ?_) | (with_reducible refine vhrun_nil ?_) | ((with_reducible refine vcondT ?_ ?_); (focus (go_simp; done))) | ((with_reducible refine vcondF ?_ ?_); (focus (go_simp; done))) | ((with_reducible refine vrun_cons fun KK hKK => ?_); go_simp; refine hKK _ ?_; clear hKK KK) | ((with_reducible refine vhrun_cons fun KK hKK => ?_); go_simp; refine hKK _ ?_; clear hKK KK))
              refine vdraw 26 [] (by kernel_rfl) (by kernel_rfl) ?_
              simp only [List.take, List.drop]
              repeat (first | (with_reducible refine vseq ?_) | (with_reducible refine vthenN ?_) | (with_reducible refine vthenE ?_) | (with_reducible refine vthenR ?_) | (with_reducible refine vret ?_) | (with_reducible refine vskip ?_) | (with_reducible refine vexit ?_) | (with_reducible refine vblock ?_) | (with_reducible refine vblockN ?_) | (with_reducible refine vblockR ?_) | (with_reducible refine vblockH ?_) | (with_reducible refine vrun_nil ?_) | (with_reducible refine vblockE rfl ?_) | (with_reducible refine vregion [] ?_) | (with_reducible refine vhrun_nil ?_) | ((with_reducible refine vcondT ?_ ?_); (focus (go_simp; done))) | ((with_reducible refine vcondF ?_ ?_); (focus (go_simp; done))) | ((with_reducible refine vrun_cons fun KK hKK => ?_); go_simp; (first | (refine ⟨_, h84.out, ?_⟩) | (refine ⟨_, ⟨h84.out, rfl⟩, ?_⟩) | skip); refine hKK _ ?_; clear hKK KK) | ((with_reducible refine vhrun_cons fun KK hKK => ?_); go_simp; (first | (refine ⟨_, h84.out, ?_⟩) | (refine ⟨_, ⟨h84.out, rfl⟩, ?_⟩) | skip); refine hKK _ ?_; clear hKK KK))
              refine hR _ 2 ⟨by omega, by omega, Lib.hid fun j hj => (by
              rcases Nat.lt_or_ge j 1 with h | h
              · exact hb.out j (by omega)
              · have e : j = 1 := by omega
                rw [e]
                exact hp.out)⟩ (by omega) ?_
              go_simp
    · subst h2
      have hB := HB2.out
      by_cases c1 : S < B2
      · have hp := Lib.hid (show Passed r l t.start S t.next t.hi 2 from .inl (by rw [hB]; exact c1))
        clear hB
        repeat (first | (with_reducible refine vseq ?_) | (with_reducible refine vthenN ?_) | (with_reducible refine vthenE ?_) | (with_reducible refine vthenR ?_) | (with_reducible refine vret ?_) | (with_reducible refine vskip ?_) | (with_reducible refine vexit ?_) | (with_reducible refine vblock ?_) | (with_reducible refine vblockN ?_) | (with_reducible refine vblockR ?_) | (with_reducible refine vblockH ?_) | (with_reducible refine vrun_nil ?_) | (with_reducible refine vblockE rfl ?_) | (with_reducible refine vregion [] ?_) | (with_reducible refine vhrun_nil ?_) | ((with_reducible refine vcondT ?_ ?_); (focus (go_simp; done))) | ((with_reducible refine vcondF ?_ ?_); (focus (go_simp; done))) | ((with_reducible refine vrun_cons fun KK hKK => ?_); go_simp; refine hKK _ ?_; clear hKK KK) | ((with_reducible refine vhrun_cons fun KK hKK => ?_); go_simp; refine hKK _ ?_; clear hKK KK))
        refine hR _ 3 ⟨by omega, by omega, Lib.hid fun j hj => (by
              rcases Nat.lt_or_ge j 2 with h | h
              · exact hb.out j (by omega)
              · have e : j = 2 := by omega
                rw [e]
                exact hp.out)⟩ (by omega) ?_
        go_simp
      · have c1' : B2 ≤ S := by omega
        have hinv := Lib.hid (show ∀ s, begAt r l t.start 2 ≤ s → s < B2 → ¬ weekly l s t.hi ≤ r.week from fun s a b => by omega)
        have HBB := Lib.hid hB
        clear hB
        repeat (first | (with_reducible refine vseq ?_) | (with_reducible refine vthenN ?_) | (with_reducible refine vthenE ?_) | (with_reducible refine vthenR ?_) | (with_reducible refine vret ?_) | (with_reducible refine vskip ?_) | (with_reducible refine vexit ?_) | (with_reducible refine vblock ?_) | (with_reducible refine vblockN ?_) | (with_reducible refine vblockR ?_) | (with_reducible refine vblockH ?_) | (with_reducible refine vrun_nil ?_) | (with_reducible refine vblockE rfl ?_) | (with_reducible refine vregion [] ?_) | (with_reducible refine vhrun_nil ?_) | ((with_reducible refine vcondT ?_ ?_); (focus (go_simp; done))) | ((with_reducible refine vcondF ?_ ?_); (focus (go_simp; done))) | ((with_reducible refine vrun_cons fun KK hKK => ?_); go_simp; refine hKK _ ?_; clear hKK KK) | ((with_reducible refine vhrun_cons fun KK hKK => ?_); go_simp; refine hKK _ ?_; clear hKK KK))
        refine vloop (α := Int × Int) (fun q => ⟨[(11, I q.1), (12, I q.2), (10, I 2), (8, .osl 0), (1, recsA l), (5, .vp t.av), (3, .vp r.av), (7, I S)], [some (.arr 3 1 false [[I t.start], [I B1], [I B2]])]⟩) (fun q => B2 ≤ q.1 ∧ q.1 ≤ q.2 ∧ q.2 ≤ S ∧ Hid (∀ s, begAt r l t.start 2 ≤ s → s < q.1 → ¬ weekly l s t.hi ≤ r.week) ∧ Hid (q.2 = S ∨ weekly l q.2 t.hi ≤ r.week)) (fun q => (q.2 - q.1).toNat) (B2, S) ⟨by simp only; omega, by simp only; omega, by simp only; omega, hinv, Lib.hid (.inl rfl)⟩ (by go_simp) ?_
        rintro ⟨lo, hi⟩ ⟨d1, d2, d3, hq1, hq2⟩ K2 hR2
        simp only at d1 d2 d3 hq1 hq2 hR2 ⊢
        by_cases hlt : lo < hi
        · have hw1 := wrap_eq (x := lo + hi) (by omega) (by omega)
          have h94 := v94b (lo + hi) (by omega)
          obtain ⟨m, hm⟩ : ∃ m : Int, (lo + hi) / 2 = m := ⟨_, rfl⟩
          rw [hm] at h94
          have hm1 : lo ≤ m := by omega
          have hm2 : m < hi := by omega
          have H94 := Lib.hid h94
          have h95 := Lib.hid (v95 l m t.hi (by omega) HT.out (by omega) hhi)
          have hw2 := wrap_eq (x := m + 1) (by omega) (by omega)
          clear hm h94
          obtain ⟨Y, hY⟩ : ∃ Y, weekly l m t.hi = Y := ⟨_, rfl⟩
          rw [hY] at h95
          have HY := Lib.hid hY
          clear hY
          by_cases hwk : Y ≤ r.week
          · repeat (first | (with_reducible refine vseq ?_) | (with_reducible refine vthenN ?_) | (with_reducible refine vthenE ?_) | (with_reducible refine vthenR ?_) | (with_reducible refine vret ?_) | (with_reducible refine vskip ?_) | (with_reducible refine vexit ?_) | (with_reducible refine vblock ?_) | (with_reducible refine vblockN ?_) | (with_reducible refine vblockR ?_) | (with_reducible refine vblockH ?_) | (with_reducible refine vrun_nil ?_) | (with_reducible refine vblockE rfl ?_) | (with_reducible refine vregion [] ?_) | (with_reducible refine vhrun_nil ?_) | ((with_reducible refine vcondT ?_ ?_); (focus (go_simp; done))) | ((with_reducible refine vcondF ?_ ?_); (focus (go_simp; done))) | ((with_reducible refine vrun_cons fun KK hKK => ?_); go_simp; (first | (refine ⟨_, H94.out, ?_⟩) | skip); refine hKK _ ?_; clear hKK KK) | ((with_reducible refine vhrun_cons fun KK hKK => ?_); go_simp; (first | (refine ⟨_, H94.out, ?_⟩) | skip); refine hKK _ ?_; clear hKK KK))
            refine vdraw 9 [] (by kernel_rfl) (by kernel_rfl) ?_
            simp only [List.take, List.drop]
            repeat (first | (with_reducible refine vseq ?_) | (with_reducible refine vthenN ?_) | (with_reducible refine vthenE ?_) | (with_reducible refine vthenR ?_) | (with_reducible refine vret ?_) | (with_reducible refine vskip ?_) | (with_reducible refine vexit ?_) | (with_reducible refine vblock ?_) | (with_reducible refine vblockN ?_) | (with_reducible refine vblockR ?_) | (with_reducible refine vblockH ?_) | (with_reducible refine vrun_nil ?_) | (with_reducible refine vblockE rfl ?_) | (with_reducible refine vregion [] ?_) | (with_reducible refine vhrun_nil ?_) | ((with_reducible refine vcondT ?_ ?_); (focus (go_simp; done))) | ((with_reducible refine vcondF ?_ ?_); (focus (go_simp; done))) | ((with_reducible refine vrun_cons fun KK hKK => ?_); go_simp; (first | (refine ⟨_, h95.out, ?_⟩) | skip); refine hKK _ ?_; clear hKK KK) | ((with_reducible refine vhrun_cons fun KK hKK => ?_); go_simp; (first | (refine ⟨_, h95.out, ?_⟩) | skip); refine hKK _ ?_; clear hKK KK))
            refine hR2 _ (lo, m) ⟨d1, hm1, by simp only; omega, hq1, Lib.hid (.inr (by simp only; rw [HY.out]; exact hwk))⟩ (by simp only; omega) ?_
            go_simp
          · repeat (first | (with_reducible refine vseq ?_) | (with_reducible refine vthenN ?_) | (with_reducible refine vthenE ?_) | (with_reducible refine vthenR ?_) | (with_reducible refine vret ?_) | (with_reducible refine vskip ?_) | (with_reducible refine vexit ?_) | (with_reducible refine vblock ?_) | (with_reducible refine vblockN ?_) | (with_reducible refine vblockR ?_) | (with_reducible refine vblockH ?_) | (with_reducible refine vrun_nil ?_) | (with_reducible refine vblockE rfl ?_) | (with_reducible refine vregion [] ?_) | (with_reducible refine vhrun_nil ?_) | ((with_reducible refine vcondT ?_ ?_); (focus (go_simp; done))) | ((with_reducible refine vcondF ?_ ?_); (focus (go_simp; done))) | ((with_reducible refine vrun_cons fun KK hKK => ?_); go_simp; (first | (refine ⟨_, H94.out, ?_⟩) | skip); refine hKK _ ?_; clear hKK KK) | ((with_reducible refine vhrun_cons fun KK hKK => ?_); go_simp; (first | (refine ⟨_, H94.out, ?_⟩) | skip); refine hKK _ ?_; clear hKK KK))
            refine vdraw 9 [] (by kernel_rfl) (by kernel_rfl) ?_
            simp only [List.take, List.drop]
            repeat (first | (with_reducible refine vseq ?_) | (with_reducible refine vthenN ?_) | (with_reducible refine vthenE ?_) | (with_reducible refine vthenR ?_) | (with_reducible refine vret ?_) | (with_reducible refine vskip ?_) | (with_reducible refine vexit ?_) | (with_reducible refine vblock ?_) | (with_reducible refine vblockN ?_) | (with_reducible refine vblockR ?_) | (with_reducible refine vblockH ?_) | (with_reducible refine vrun_nil ?_) | (with_reducible refine vblockE rfl ?_) | (with_reducible refine vregion [] ?_) | (with_reducible refine vhrun_nil ?_) | ((with_reducible refine vcondT ?_ ?_); (focus (go_simp; done))) | ((with_reducible refine vcondF ?_ ?_); (focus (go_simp; done))) | ((with_reducible refine vrun_cons fun KK hKK => ?_); go_simp; (first | (refine ⟨_, h95.out, ?_⟩) | skip); refine hKK _ ?_; clear hKK KK) | ((with_reducible refine vhrun_cons fun KK hKK => ?_); go_simp; (first | (refine ⟨_, h95.out, ?_⟩) | skip); refine hKK _ ?_; clear hKK KK))
            refine hR2 _ (m + 1, hi) ⟨by simp only; omega, by simp only; omega, d3, Lib.hid fun s a b => (by
              simp only at b
              rcases Int.lt_or_le s lo with h | h
              · exact hq1.out s a h
              · intro hc
                have hbs := hBS.out 2
                have := weekly_mono HRi.out HFB.out hwk0 (show endOf l ≤ s by omega) (show s ≤ m by omega) hhi.1 hc
                rw [HY.out] at this
                exact hwk this), hq2⟩ (by simp only; omega) ?_
            go_simp
        · have he : lo = hi := by omega
          subst he
          have hlo := Lib.hid (show IsLo r l t.start S t.hi 2 lo from ⟨by rw [HBB.out]; exact d1, d3, hq1.out, hq2.out⟩)
          have h84 := Lib.hid (v84 l r ⟨lo, t.lo, t.hi, t.next⟩ t.hi HRi.out (by show 0 ≤ lo ∧ lo ≤ _; omega) (by show endOf l ≤ lo; omega) hhi (by show -1 ≤ t.next ∧ t.next ≤ _; omega))
          clear hR2
          by_cases c2 : breaksP r l lo t.next t.hi = 0
          · have hres := Lib.hid (HV.out 2 lo (fun j hj => hb.out j (by omega)) hlo.out c2)
            repeat (first | (with_reducible refine vseq ?_) | (with_reducible refine vthenN ?_) | (with_reducible refine vthenE ?_) | (with_reducible refine vthenR ?_) | (with_reducible refine vret ?_) | (with_reducible refine vskip ?_) | (with_reducible refine vexit ?_) | (with_reducible refine vblock ?_) | (with_reducible refine vblockN ?_) | (with_reducible refine vblockR ?_) | (with_reducible refine vblockH ?_) | (with_reducible refine vrun_nil ?_) | (with_reducible refine vblockE rfl ?_) | (with_reducible refine vregion [] ?_) | (with_reducible refine vhrun_nil ?_) | ((with_reducible refine vcondT ?_ ?_); (focus (go_simp; done))) | ((with_reducible refine vcondF ?_ ?_); (focus (go_simp; done))) | ((with_reducible refine vrun_cons fun KK hKK => ?_); go_simp; refine hKK _ ?_; clear hKK KK) | ((with_reducible refine vhrun_cons fun KK hKK => ?_); go_simp; refine hKK _ ?_; clear hKK KK))
            refine vdraw 26 [] (by kernel_rfl) (by kernel_rfl) ?_
            simp only [List.take, List.drop]
            repeat (first | (with_reducible refine vseq ?_) | (with_reducible refine vthenN ?_) | (with_reducible refine vthenE ?_) | (with_reducible refine vthenR ?_) | (with_reducible refine vret ?_) | (with_reducible refine vskip ?_) | (with_reducible refine vexit ?_) | (with_reducible refine vblock ?_) | (with_reducible refine vblockN ?_) | (with_reducible refine vblockR ?_) | (with_reducible refine vblockH ?_) | (with_reducible refine vrun_nil ?_) | (with_reducible refine vblockE rfl ?_) | (with_reducible refine vregion [] ?_) | (with_reducible refine vhrun_nil ?_) | ((with_reducible refine vcondT ?_ ?_); (focus (go_simp; done))) | ((with_reducible refine vcondF ?_ ?_); (focus (go_simp; done))) | ((with_reducible refine vrun_cons fun KK hKK => ?_); go_simp; (first | (refine ⟨_, h84.out, ?_⟩) | (refine ⟨_, ⟨h84.out, rfl⟩, ?_⟩) | skip); refine hKK _ ?_; clear hKK KK) | ((with_reducible refine vhrun_cons fun KK hKK => ?_); go_simp; (first | (refine ⟨_, h84.out, ?_⟩) | (refine ⟨_, ⟨h84.out, rfl⟩, ?_⟩) | skip); refine hKK _ ?_; clear hKK KK))
            rw [hres.out]
            go_simp
          · have hp := Lib.hid (show Passed r l t.start S t.next t.hi 2 from .inr ⟨lo, hlo.out, .inr c2⟩)
            repeat (first | (with_reducible refine vseq ?_) | (with_reducible refine vthenN ?_) | (with_reducible refine vthenE ?_) | (with_reducible refine vthenR ?_) | (with_reducible refine vret ?_) | (with_reducible refine vskip ?_) | (with_reducible refine vexit ?_) | (with_reducible refine vblock ?_) | (with_reducible refine vblockN ?_) | (with_reducible refine vblockR ?_) | (with_reducible refine vblockH ?_) | (with_reducible refine vrun_nil ?_) | (with_reducible refine vblockE rfl ?_) | (with_reducible refine vregion [] ?_) | (with_reducible refine vhrun_nil ?_) | ((with_reducible refine vcondT ?_ ?_); (focus (go_simp; done))) | ((with_reducible refine vcondF ?_ ?_); (focus (go_simp; done))) | ((with_reducible refine vrun_cons fun KK hKK => ?_); go_simp; refine hKK _ ?_; clear hKK KK) | ((with_reducible refine vhrun_cons fun KK hKK => ?_); go_simp; refine hKK _ ?_; clear hKK KK))
            refine vdraw 26 [] (by kernel_rfl) (by kernel_rfl) ?_
            simp only [List.take, List.drop]
            repeat (first | (with_reducible refine vseq ?_) | (with_reducible refine vthenN ?_) | (with_reducible refine vthenE ?_) | (with_reducible refine vthenR ?_) | (with_reducible refine vret ?_) | (with_reducible refine vskip ?_) | (with_reducible refine vexit ?_) | (with_reducible refine vblock ?_) | (with_reducible refine vblockN ?_) | (with_reducible refine vblockR ?_) | (with_reducible refine vblockH ?_) | (with_reducible refine vrun_nil ?_) | (with_reducible refine vblockE rfl ?_) | (with_reducible refine vregion [] ?_) | (with_reducible refine vhrun_nil ?_) | ((with_reducible refine vcondT ?_ ?_); (focus (go_simp; done))) | ((with_reducible refine vcondF ?_ ?_); (focus (go_simp; done))) | ((with_reducible refine vrun_cons fun KK hKK => ?_); go_simp; (first | (refine ⟨_, h84.out, ?_⟩) | (refine ⟨_, ⟨h84.out, rfl⟩, ?_⟩) | skip); refine hKK _ ?_; clear hKK KK) | ((with_reducible refine vhrun_cons fun KK hKK => ?_); go_simp; (first | (refine ⟨_, h84.out, ?_⟩) | (refine ⟨_, ⟨h84.out, rfl⟩, ?_⟩) | skip); refine hKK _ ?_; clear hKK KK))
            refine hR _ 3 ⟨by omega, by omega, Lib.hid fun j hj => (by
              rcases Nat.lt_or_ge j 2 with h | h
              · exact hb.out j (by omega)
              · have e : j = 2 := by omega
                rw [e]
                exact hp.out)⟩ (by omega) ?_
            go_simp
    · subst h3
      have hres := Lib.hid (HNo.out fun j hj => hb.out j (by have := HN0.out; omega))
      repeat (first | (with_reducible refine vseq ?_) | (with_reducible refine vthenN ?_) | (with_reducible refine vthenE ?_) | (with_reducible refine vthenR ?_) | (with_reducible refine vret ?_) | (with_reducible refine vskip ?_) | (with_reducible refine vexit ?_) | (with_reducible refine vblock ?_) | (with_reducible refine vblockN ?_) | (with_reducible refine vblockR ?_) | (with_reducible refine vblockH ?_) | (with_reducible refine vrun_nil ?_) | (with_reducible refine vblockE rfl ?_) | (with_reducible refine vregion [] ?_) | (with_reducible refine vhrun_nil ?_) | ((with_reducible refine vcondT ?_ ?_); (focus (go_simp; done))) | ((with_reducible refine vcondF ?_ ?_); (focus (go_simp; done))) | ((with_reducible refine vrun_cons fun KK hKK => ?_); go_simp; refine hKK _ ?_; clear hKK KK) | ((with_reducible refine vhrun_cons fun KK hKK => ?_); go_simp; refine hKK _ ?_; clear hKK KK))
      rw [hres.out]
      go_simp
end Go.Proofs.Ytmfmpagfjgpodaa
