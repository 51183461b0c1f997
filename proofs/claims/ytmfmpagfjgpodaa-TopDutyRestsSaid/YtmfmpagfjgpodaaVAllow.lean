/- Walks on plain values: the law of allowed trips; records with texts of at most 1000 bytes. -/
import Derived.Test.YtmfmpagfjgpodaaVBrok
import Derived.Test.YtmfmpagfjgpodaaVAllowP
namespace Go.Proofs.Ytmfmpagfjgpodaa
open Go.RowKit
set_option maxRecDepth 100000
theorem v84 (l : List Rec) (r : Rul) (t : Trip) (len : Int) (hR : Right true l) (hs : 0 ≤ t.start ∧ t.start ≤ 8640000000) (he : endOf l ≤ t.start) (hlen : 0 ≤ len ∧ len ≤ 200000) (hn : -1 ≤ t.next ∧ t.next ≤ 8640000000) :
    VC Try.prog 84 [.agg r.av, recsA l, .agg t.av, I len] (I (breaksP r l t.start t.next len)) := by
  have hbt := broken_trip hR r (⟨#[120]⟩ : ByteArray) he hlen.1
  have hl := hR.len
  have hT : Timed (l ++ [⟨⟨#[120]⟩, t.start, t.start + len⟩]) := fun x hx => by
    rcases List.mem_append.1 hx with h | h
    · exact hR.timed x h
    · simp only [List.mem_singleton] at h
      subst h
      exact ⟨hs.1, by simp only; omega, by simp only; omega, by simp only; omega⟩
  have h91 := v91 (l ++ [⟨⟨#[120]⟩, t.start, t.start + len⟩]) r l.length (by simp; omega) (by simp) hT
  rw [hbt] at h91
  simp only [recsA, List.map_append, List.map_cons, List.map_nil, Rec.av] at h91
  clear hT hbt
  generalize hR0 : breaksP r l t.start t.next len = R
  unfold breaksP at hR0
  generalize brokenP r (withTrip l t.start len) = B0 at *
  have HR := Lib.hid hR0
  have H91 := Lib.hid h91
  clear hR0 h91
  have hw1 := wrap_eq (x := t.start + len) (by omega) (by omega)
  have hw2 := wrap_eq (x := t.next - (t.start + len)) (by omega) (by omega)
  have hw3 := wrap_eq (x := (l.length : Int)) (by omega) (by omega)
  have hb1 : l.length + 1 ≤ 1000000000 := by omega
  have hl6 : l.length ≤ 1000000 := by omega
  clear hs he hn
  refine VC_of Try.func84 rfl (by kernel_rfl) (by kernel_rfl) rfl fun M0 w0 => ?_
  simp only [Try.ntmps84, Try.results84, enumA]
  by_cases h0 : 0 < len
  · repeat (first | (with_reducible refine vseq ?_) | (with_reducible refine vthenN ?_) | (with_reducible refine vthenE ?_) | (with_reducible refine vthenR ?_) | (with_reducible refine vret ?_) | (with_reducible refine vskip ?_) | (with_reducible refine vexit ?_) | (with_reducible refine vblock ?_) | (with_reducible refine vblockN ?_) | (with_reducible refine vblockR ?_) | (with_reducible refine vblockH ?_) | (with_reducible refine vrun_nil ?_) | (with_reducible refine vblockE rfl ?_) | (with_reducible refine vregion [] ?_) | (with_reducible refine vhrun_nil ?_) | ((with_reducible refine vcondT ?_ ?_); (focus (go_simp; done))) | ((with_reducible refine vcondF ?_ ?_); (focus (go_simp; done))) | ((with_reducible refine vrun_cons fun KK hKK => ?_); go_simp; refine hKK _ ?_; clear hKK KK) | ((with_reducible refine vhrun_cons fun KK hKK => ?_); go_simp; refine hKK _ ?_; clear hKK KK))
    refine vdrawC 11 [14] (fun i => i == 1 || i == 10) (by kernel_rfl) (by kernel_rfl) (by kernel_rfl) (by go_simp) (by go_simp) ?_
    simp only [List.take, List.drop]
    repeat (first | (with_reducible refine vseq ?_) | (with_reducible refine vthenN ?_) | (with_reducible refine vthenE ?_) | (with_reducible refine vthenR ?_) | (with_reducible refine vret ?_) | (with_reducible refine vskip ?_) | (with_reducible refine vexit ?_) | (with_reducible refine vblock ?_) | (with_reducible refine vblockN ?_) | (with_reducible refine vblockR ?_) | (with_reducible refine vblockH ?_) | (with_reducible refine vrun_nil ?_) | (with_reducible refine vblockE rfl ?_) | (with_reducible refine vregion [] ?_) | (with_reducible refine vhrun_nil ?_) | ((with_reducible refine vcondT ?_ ?_); (focus (go_simp; done))) | ((with_reducible refine vcondF ?_ ?_); (focus (go_simp; done))) | ((with_reducible refine vrun_cons fun KK hKK => ?_); go_simp; refine hKK _ ?_; clear hKK KK) | ((with_reducible refine vhrun_cons fun KK hKK => ?_); go_simp; refine hKK _ ?_; clear hKK KK) | ((with_reducible refine vhc_cons rfl fun KK hKK => ?_); go_simp; refine hKK _ (by go_simp) ?_; clear hKK KK) | ((with_reducible refine vhc_nil ?_); simp only [List.cons_append, List.nil_append, List.append_nil, newCs]))
    refine vhc_chain [some (.arr 57 3 false (l.map Rec.av))] none (.osl 0) rfl ⟨rfl, fun _ => rfl, fun _ h => by cases h⟩ ?_ ?_
    · intro s2 hs2
      have q1 : lkp s2 13 = recsA l := (hs2 13 (by simp [Op.operands, Call.operands]) (by go_simp)).trans (by go_simp)
      clear hs2
      go_simp
      refine ⟨57, 3, l.map Rec.av, ?_⟩
      go_simp
      exact o20 l hl6
    repeat (first | (with_reducible refine vseq ?_) | (with_reducible refine vthenN ?_) | (with_reducible refine vthenE ?_) | (with_reducible refine vthenR ?_) | (with_reducible refine vret ?_) | (with_reducible refine vskip ?_) | (with_reducible refine vexit ?_) | (with_reducible refine vblock ?_) | (with_reducible refine vblockN ?_) | (with_reducible refine vblockR ?_) | (with_reducible refine vblockH ?_) | (with_reducible refine vrun_nil ?_) | (with_reducible refine vblockE rfl ?_) | (with_reducible refine vregion [] ?_) | (with_reducible refine vhrun_nil ?_) | ((with_reducible refine vcondT ?_ ?_); (focus (go_simp; done))) | ((with_reducible refine vcondF ?_ ?_); (focus (go_simp; done))) | ((with_reducible refine vrun_cons fun KK hKK => ?_); go_simp; refine hKK _ ?_; clear hKK KK) | ((with_reducible refine vhrun_cons fun KK hKK => ?_); go_simp; refine hKK _ ?_; clear hKK KK) | ((with_reducible refine vhc_cons rfl fun KK hKK => ?_); go_simp; refine hKK _ (by go_simp) ?_; clear hKK KK) | ((with_reducible refine vhc_nil ?_); simp only [List.cons_append, List.nil_append, List.append_nil, newCs]))
    refine vhc_chain [some (.arr 57 3 false (l.map Rec.av ++ [[S ⟨#[120]⟩, I t.start, I (t.start + len)]]))] (some 0) (.osl 0) rfl ⟨rfl, fun h => (by cases h), fun _ h => (by cases h; exact Nat.le_refl _)⟩ ?_ ?_
    · intro s2 hs2
      have q1 : lkp s2 14 = .osl 0 := (hs2 14 (by simp [Op.operands, Call.operands]) (by go_simp)).trans (by go_simp)
      have q2 : lkp s2 22 = .sl 3 [[S ⟨#[120]⟩, I t.start, I (t.start + len)]] := (hs2 22 (by simp [Op.operands, Call.operands]) (by go_simp)).trans (by go_simp)
      clear hs2
      go_simp
    repeat (first | (with_reducible refine vseq ?_) | (with_reducible refine vthenN ?_) | (with_reducible refine vthenE ?_) | (with_reducible refine vthenR ?_) | (with_reducible refine vret ?_) | (with_reducible refine vskip ?_) | (with_reducible refine vexit ?_) | (with_reducible refine vblock ?_) | (with_reducible refine vblockN ?_) | (with_reducible refine vblockR ?_) | (with_reducible refine vblockH ?_) | (with_reducible refine vrun_nil ?_) | (with_reducible refine vblockE rfl ?_) | (with_reducible refine vregion [] ?_) | (with_reducible refine vhrun_nil ?_) | ((with_reducible refine vcondT ?_ ?_); (focus (go_simp; done))) | ((with_reducible refine vcondF ?_ ?_); (focus (go_simp; done))) | ((with_reducible refine vrun_cons fun KK hKK => ?_); go_simp; refine hKK _ ?_; clear hKK KK) | ((with_reducible refine vhrun_cons fun KK hKK => ?_); go_simp; refine hKK _ ?_; clear hKK KK) | ((with_reducible refine vhc_cons rfl fun KK hKK => ?_); go_simp; refine hKK _ (by go_simp) ?_; clear hKK KK) | ((with_reducible refine vhc_nil ?_); simp only [List.cons_append, List.nil_append, newCs]))
    by_cases hB : B0 = 0
    · have e := HR.out
      rw [if_neg (by simp [hB])] at e
      have HE := Lib.hid e
      clear e
      by_cases h1 : t.next = -1
      · repeat (first | (with_reducible refine vseq ?_) | (with_reducible refine vthenN ?_) | (with_reducible refine vthenE ?_) | (with_reducible refine vthenR ?_) | (with_reducible refine vret ?_) | (with_reducible refine vskip ?_) | (with_reducible refine vexit ?_) | (with_reducible refine vblock ?_) | (with_reducible refine vblockN ?_) | (with_reducible refine vblockR ?_) | (with_reducible refine vblockH ?_) | (with_reducible refine vrun_nil ?_) | (with_reducible refine vblockE rfl ?_) | (with_reducible refine vregion [] ?_) | (with_reducible refine vhrun_nil ?_) | ((with_reducible refine vcondT ?_ ?_); (focus (go_simp; done))) | ((with_reducible refine vcondF ?_ ?_); (focus (go_simp; done))) | ((with_reducible refine vrun_cons fun KK hKK => ?_); go_simp; (first | (refine ⟨_, ⟨H91.out, rfl⟩, ?_⟩) | skip); refine hKK _ ?_; clear hKK KK) | ((with_reducible refine vhrun_cons fun KK hKK => ?_); go_simp; (first | (refine ⟨_, ⟨H91.out, rfl⟩, ?_⟩) | skip); refine hKK _ ?_; clear hKK KK))
        have e := HE.out
        rw [if_neg (by simp [h1])] at e
        subst e
        go_simp
      · by_cases h2 : t.next - (t.start + len) < r.rest
        · repeat (first | (with_reducible refine vseq ?_) | (with_reducible refine vthenN ?_) | (with_reducible refine vthenE ?_) | (with_reducible refine vthenR ?_) | (with_reducible refine vret ?_) | (with_reducible refine vskip ?_) | (with_reducible refine vexit ?_) | (with_reducible refine vblock ?_) | (with_reducible refine vblockN ?_) | (with_reducible refine vblockR ?_) | (with_reducible refine vblockH ?_) | (with_reducible refine vrun_nil ?_) | (with_reducible refine vblockE rfl ?_) | (with_reducible refine vregion [] ?_) | (with_reducible refine vhrun_nil ?_) | ((with_reducible refine vcondT ?_ ?_); (focus (go_simp; done))) | ((with_reducible refine vcondF ?_ ?_); (focus (go_simp; done))) | ((with_reducible refine vrun_cons fun KK hKK => ?_); go_simp; (first | (refine ⟨_, ⟨H91.out, rfl⟩, ?_⟩) | skip); refine hKK _ ?_; clear hKK KK) | ((with_reducible refine vhrun_cons fun KK hKK => ?_); go_simp; (first | (refine ⟨_, ⟨H91.out, rfl⟩, ?_⟩) | skip); refine hKK _ ?_; clear hKK KK))
          have e := HE.out
          rw [if_pos ⟨h1, h2⟩] at e
          subst e
          go_simp
        · repeat (first | (with_reducible refine vseq ?_) | (with_reducible refine vthenN ?_) | (with_reducible refine vthenE ?_) | (with_reducible refine vthenR ?_) | (with_reducible refine vret ?_) | (with_reducible refine vskip ?_) | (with_reducible refine vexit ?_) | (with_reducible refine vblock ?_) | (with_reducible refine vblockN ?_) | (with_reducible refine vblockR ?_) | (with_reducible refine vblockH ?_) | (with_reducible refine vrun_nil ?_) | (with_reducible refine vblockE rfl ?_) | (with_reducible refine vregion [] ?_) | (with_reducible refine vhrun_nil ?_) | ((with_reducible refine vcondT ?_ ?_); (focus (go_simp; done))) | ((with_reducible refine vcondF ?_ ?_); (focus (go_simp; done))) | ((with_reducible refine vrun_cons fun KK hKK => ?_); go_simp; (first | (refine ⟨_, ⟨H91.out, rfl⟩, ?_⟩) | skip); refine hKK _ ?_; clear hKK KK) | ((with_reducible refine vhrun_cons fun KK hKK => ?_); go_simp; (first | (refine ⟨_, ⟨H91.out, rfl⟩, ?_⟩) | skip); refine hKK _ ?_; clear hKK KK))
          have e := HE.out
          rw [if_neg fun h => h2 h.2] at e
          subst e
          go_simp
    · repeat (first | (with_reducible refine vseq ?_) | (with_reducible refine vthenN ?_) | (with_reducible refine vthenE ?_) | (with_reducible refine vthenR ?_) | (with_reducible refine vret ?_) | (with_reducible refine vskip ?_) | (with_reducible refine vexit ?_) | (with_reducible refine vblock ?_) | (with_reducible refine vblockN ?_) | (with_reducible refine vblockR ?_) | (with_reducible refine vblockH ?_) | (with_reducible refine vrun_nil ?_) | (with_reducible refine vblockE rfl ?_) | (with_reducible refine vregion [] ?_) | (with_reducible refine vhrun_nil ?_) | ((with_reducible refine vcondT ?_ ?_); (focus (go_simp; done))) | ((with_reducible refine vcondF ?_ ?_); (focus (go_simp; done))) | ((with_reducible refine vrun_cons fun KK hKK => ?_); go_simp; (first | (refine ⟨_, ⟨H91.out, rfl⟩, ?_⟩) | skip); refine hKK _ ?_; clear hKK KK) | ((with_reducible refine vhrun_cons fun KK hKK => ?_); go_simp; (first | (refine ⟨_, ⟨H91.out, rfl⟩, ?_⟩) | skip); refine hKK _ ?_; clear hKK KK))
      have e := HR.out
      rw [if_pos ⟨h0, hB⟩] at e
      subst e
      go_simp
  · have e := HR.out
    rw [if_neg fun h => h0 h.1] at e
    have HE := Lib.hid e
    clear e
    by_cases h1 : t.next = -1
    · repeat (first | (with_reducible refine vseq ?_) | (with_reducible refine vthenN ?_) | (with_reducible refine vthenE ?_) | (with_reducible refine vthenR ?_) | (with_reducible refine vret ?_) | (with_reducible refine vskip ?_) | (with_reducible refine vexit ?_) | (with_reducible refine vblock ?_) | (with_reducible refine vblockN ?_) | (with_reducible refine vblockR ?_) | (with_reducible refine vblockH ?_) | (with_reducible refine vrun_nil ?_) | (with_reducible refine vblockE rfl ?_) | (with_reducible refine vregion [] ?_) | (with_reducible refine vhrun_nil ?_) | ((with_reducible refine vcondT ?_ ?_); (focus (go_simp; done))) | ((with_reducible refine vcondF ?_ ?_); (focus (go_simp; done))) | ((with_reducible refine vrun_cons fun KK hKK => ?_); go_simp; refine hKK _ ?_; clear hKK KK) | ((with_reducible refine vhrun_cons fun KK hKK => ?_); go_simp; refine hKK _ ?_; clear hKK KK))
      have e := HE.out
      rw [if_neg (by simp [h1])] at e
      subst e
      go_simp
    · by_cases h2 : t.next - (t.start + len) < r.rest
      · repeat (first | (with_reducible refine vseq ?_) | (with_reducible refine vthenN ?_) | (with_reducible refine vthenE ?_) | (with_reducible refine vthenR ?_) | (with_reducible refine vret ?_) | (with_reducible refine vskip ?_) | (with_reducible refine vexit ?_) | (with_reducible refine vblock ?_) | (with_reducible refine vblockN ?_) | (with_reducible refine vblockR ?_) | (with_reducible refine vblockH ?_) | (with_reducible refine vrun_nil ?_) | (with_reducible refine vblockE rfl ?_) | (with_reducible refine vregion [] ?_) | (with_reducible refine vhrun_nil ?_) | ((with_reducible refine vcondT ?_ ?_); (focus (go_simp; done))) | ((with_reducible refine vcondF ?_ ?_); (focus (go_simp; done))) | ((with_reducible refine vrun_cons fun KK hKK => ?_); go_simp; refine hKK _ ?_; clear hKK KK) | ((with_reducible refine vhrun_cons fun KK hKK => ?_); go_simp; refine hKK _ ?_; clear hKK KK))
        have e := HE.out
        rw [if_pos ⟨h1, h2⟩] at e
        subst e
        go_simp
      · repeat (first | (with_reducible refine vseq ?_) | (with_reducible refine vthenN ?_) | (with_reducible refine vthenE ?_) | (with_reducible refine vthenR ?_) | (with_reducible refine vret ?_) | (with_reducible refine vskip ?_) | (with_reducible refine vexit ?_) | (with_reducible refine vblock ?_) | (with_reducible refine vblockN ?_) | (with_reducible refine vblockR ?_) | (with_reducible refine vblockH ?_) | (with_reducible refine vrun_nil ?_) | (with_reducible refine vblockE rfl ?_) | (with_reducible refine vregion [] ?_) | (with_reducible refine vhrun_nil ?_) | ((with_reducible refine vcondT ?_ ?_); (focus (go_simp; done))) | ((with_reducible refine vcondF ?_ ?_); (focus (go_simp; done))) | ((with_reducible refine vrun_cons fun KK hKK => ?_); go_simp; refine hKK _ ?_; clear hKK KK) | ((with_reducible refine vhrun_cons fun KK hKK => ?_); go_simp; refine hKK _ ?_; clear hKK KK))
        have e := HE.out
        rw [if_neg fun h => h2 h.2] at e
        subst e
        go_simp
end Go.Proofs.Ytmfmpagfjgpodaa
