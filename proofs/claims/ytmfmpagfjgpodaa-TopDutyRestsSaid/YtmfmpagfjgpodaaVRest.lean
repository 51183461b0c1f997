/- Walks on plain values: the law of rests; records with texts of at most 1000 bytes. -/
import Derived.Test.YtmfmpagfjgpodaaVAllow2
import Derived.Test.YtmfmpagfjgpodaaVRestP
namespace Go.Proofs.Ytmfmpagfjgpodaa
open Go.RowKit
set_option maxRecDepth 100000
/-- The driver of the trip. -/
def whoP (l : List Rec) : ByteArray := if l.length = 0 then ⟨#[97, 110, 110]⟩ else (rat l 0).driver
theorem who_name {l : List Rec} (h : Right true l) : isName (whoP l) = true := by
  unfold whoP
  split
  · decide +kernel
  · rw [rat_get (by omega)]
    exact (recErr_zero (h.recOk (show 0 < l.length by omega))).1
/-- What the law compares. -/
theorem rest_facts {r : Rul} {l : List Rec} {t : Trip} {L : Int} (h : tripErrP r l t = 0) (h1 : 1 ≤ L ∧ L ≤ 200000) (h2 : t.lo ≤ L ∧ L ≤ t.hi) (h3 : t.start + L ≤ 8640000000) :
    let x : Rec := ⟨whoP l, t.start, t.start + L⟩
    Right true (l ++ [x]) ∧ bothErr r (l ++ [x]) = 0 ∧ ((firstBroken r (l ++ [x])).2 = 0 ∧ (t.next = -1 ∨ r.rest ≤ t.next - (t.start + L)) ↔ breaksP r l t.start t.next L = 0) ∧
      (breaksP r l t.start t.next t.hi = 0 → breaksP r l t.start t.next L = 0) ∧ (breaksP r l t.start t.next t.lo ≠ 0 → breaksP r l t.start t.next L ≠ 0) ∧ (breaksP r l t.start t.next t.hi = 0 → breaksP r l t.start t.next t.lo = 0) := by
  obtain ⟨g1, g2, g3, g4, g5, g6, g7, g8, g9⟩ := tripRight h
  have hR := (bothErr_zero g1).2
  have hA : Right true (l ++ [⟨whoP l, t.start, t.start + L⟩]) := right_app hR g2 (who_name hR) (fun h0 => by
    show whoP l = _
    unfold whoP
    rw [if_neg (by omega), rat_get h0]) g8 g3.1 (by show t.start < t.start + L; omega) h3
  refine ⟨hA, ?_, ?_, fun hh => ?_, fun hh => ?_, fun hh => ?_⟩
  · have h3 : (checkRecs true (l ++ [⟨whoP l, t.start, t.start + L⟩])).2 = 0 := hA
    unfold bothErr
    rw [(bothErr_zero g1).1, h3]
    rfl
  · rw [first_app hR hA g9, broken_trip hR r (whoP l) g8 (by omega), breaks_pos (by omega)]
  · by_cases hc : breaksP r l t.start t.next L = 0
    · exact hc
    · exact absurd hh (breaks_mono' hR g8 (by omega) h2.2 g5.2 hc)
  · exact breaks_mono' hR g8 g4.1 h2.1 h1.2 hh
  · by_cases hc : breaksP r l t.start t.next t.lo = 0
    · exact hc
    · exact absurd hh (breaks_mono' hR g8 g4.1 g6 g5.2 hc)
set_option maxHeartbeats 8000000 in
theorem v8 (l : List Rec) (r : Rul) (t : Trip) (L : Int) (hl : l.length ≤ 9223372036854775807) (hd : ∀ x ∈ l, x.driver.size ≤ 9223372036854775807) : VC Try.prog 8 [.agg r.av, recsA l, .agg [I t.start, I t.lo, I t.hi, I t.next, I L]] (B true) := by
  refine VC_of Try.func8 rfl (by kernel_rfl) (by kernel_rfl) rfl fun M0 w0 => ?_
  simp only [Try.ntmps8, Try.results8, enumA]
  cases hfew : fewP l
  · repeat (first | (with_reducible refine vseq ?_) | (with_reducible refine vthenN ?_) | (with_reducible refine vthenE ?_) | (with_reducible refine vthenR ?_) | (with_reducible refine vret ?_) | (with_reducible refine vskip ?_) | (with_reducible refine vexit ?_) | (with_reducible refine vblock ?_) | (with_reducible refine vblockN ?_) | (with_reducible refine vblockR ?_) | (with_reducible refine vblockH ?_) | (with_reducible refine vrun_nil ?_) | (with_reducible refine vblockE rfl ?_) | (with_reducible refine vregion [] ?_) | (with_reducible refine vhrun_nil ?_) | ((with_reducible refine vcondT ?_ ?_); (focus (go_simp; done))) | ((with_reducible refine vcondF ?_ ?_); (focus (go_simp; done))) | ((with_reducible refine vrun_cons fun KK hKK => ?_); go_simp; (first | (with_reducible refine ⟨_, v17, ?_⟩) | (with_reducible refine ⟨_, v18 l hl hd, ?_⟩) | skip); refine hKK _ ?_; clear hKK KK) | ((with_reducible refine vhrun_cons fun KK hKK => ?_); go_simp; (first | (with_reducible refine ⟨_, v17, ?_⟩) | (with_reducible refine ⟨_, v18 l hl hd, ?_⟩) | skip); refine hKK _ ?_; clear hKK KK))
    go_simp
  · obtain ⟨hsm, hl3, _⟩ := fewP_small hfew
    have h25 := Lib.hid (v25 l r t (by omega) hsm)
    have HS := Lib.hid hsm
    clear hsm
    by_cases hE : tripErrP r l t = 0
    · cases c2 : inR L 1 200000
      · repeat (first | (with_reducible refine vseq ?_) | (with_reducible refine vthenN ?_) | (with_reducible refine vthenE ?_) | (with_reducible refine vthenR ?_) | (with_reducible refine vret ?_) | (with_reducible refine vskip ?_) | (with_reducible refine vexit ?_) | (with_reducible refine vblock ?_) | (with_reducible refine vblockN ?_) | (with_reducible refine vblockR ?_) | (with_reducible refine vblockH ?_) | (with_reducible refine vrun_nil ?_) | (with_reducible refine vblockE rfl ?_) | (with_reducible refine vregion [] ?_) | (with_reducible refine vhrun_nil ?_) | ((with_reducible refine vcondT ?_ ?_); (focus (go_simp; done))) | ((with_reducible refine vcondF ?_ ?_); (focus (go_simp; done))) | ((with_reducible refine vrun_cons fun KK hKK => ?_); go_simp; (first | (with_reducible refine ⟨_, v17, ?_⟩) | (with_reducible refine ⟨_, v18 l hl hd, ?_⟩) | (refine ⟨_, h25.out, ?_⟩) | (with_reducible refine ⟨_, v36 _ _ _, ?_⟩) | skip); refine hKK _ ?_; clear hKK KK) | ((with_reducible refine vhrun_cons fun KK hKK => ?_); go_simp; (first | (with_reducible refine ⟨_, v17, ?_⟩) | (with_reducible refine ⟨_, v18 l hl hd, ?_⟩) | (refine ⟨_, h25.out, ?_⟩) | (with_reducible refine ⟨_, v36 _ _ _, ?_⟩) | skip); refine hKK _ ?_; clear hKK KK))
        go_simp
      · cases c3 : inR L t.lo t.hi
        · repeat (first | (with_reducible refine vseq ?_) | (with_reducible refine vthenN ?_) | (with_reducible refine vthenE ?_) | (with_reducible refine vthenR ?_) | (with_reducible refine vret ?_) | (with_reducible refine vskip ?_) | (with_reducible refine vexit ?_) | (with_reducible refine vblock ?_) | (with_reducible refine vblockN ?_) | (with_reducible refine vblockR ?_) | (with_reducible refine vblockH ?_) | (with_reducible refine vrun_nil ?_) | (with_reducible refine vblockE rfl ?_) | (with_reducible refine vregion [] ?_) | (with_reducible refine vhrun_nil ?_) | ((with_reducible refine vcondT ?_ ?_); (focus (go_simp; done))) | ((with_reducible refine vcondF ?_ ?_); (focus (go_simp; done))) | ((with_reducible refine vrun_cons fun KK hKK => ?_); go_simp; (first | (with_reducible refine ⟨_, v17, ?_⟩) | (with_reducible refine ⟨_, v18 l hl hd, ?_⟩) | (refine ⟨_, h25.out, ?_⟩) | (with_reducible refine ⟨_, v36 _ _ _, ?_⟩) | skip); refine hKK _ ?_; clear hKK KK) | ((with_reducible refine vhrun_cons fun KK hKK => ?_); go_simp; (first | (with_reducible refine ⟨_, v17, ?_⟩) | (with_reducible refine ⟨_, v18 l hl hd, ?_⟩) | (refine ⟨_, h25.out, ?_⟩) | (with_reducible refine ⟨_, v36 _ _ _, ?_⟩) | skip); refine hKK _ ?_; clear hKK KK))
          go_simp
        · have b1 := inR_iff.1 c2
          have b2 := (tripRight hE).2.2.1
          have hw := wrap_eq (x := t.start + L) (by omega) (by omega)
          by_cases c4 : 8640000000 < t.start + L
          · repeat (first | (with_reducible refine vseq ?_) | (with_reducible refine vthenN ?_) | (with_reducible refine vthenE ?_) | (with_reducible refine vthenR ?_) | (with_reducible refine vret ?_) | (with_reducible refine vskip ?_) | (with_reducible refine vexit ?_) | (with_reducible refine vblock ?_) | (with_reducible refine vblockN ?_) | (with_reducible refine vblockR ?_) | (with_reducible refine vblockH ?_) | (with_reducible refine vrun_nil ?_) | (with_reducible refine vblockE rfl ?_) | (with_reducible refine vregion [] ?_) | (with_reducible refine vhrun_nil ?_) | ((with_reducible refine vcondT ?_ ?_); (focus (go_simp; done))) | ((with_reducible refine vcondF ?_ ?_); (focus (go_simp; done))) | ((with_reducible refine vrun_cons fun KK hKK => ?_); go_simp; (first | (with_reducible refine ⟨_, v17, ?_⟩) | (with_reducible refine ⟨_, v18 l hl hd, ?_⟩) | (refine ⟨_, h25.out, ?_⟩) | (with_reducible refine ⟨_, v36 _ _ _, ?_⟩) | skip); refine hKK _ ?_; clear hKK KK) | ((with_reducible refine vhrun_cons fun KK hKK => ?_); go_simp; (first | (with_reducible refine ⟨_, v17, ?_⟩) | (with_reducible refine ⟨_, v18 l hl hd, ?_⟩) | (refine ⟨_, h25.out, ?_⟩) | (with_reducible refine ⟨_, v36 _ _ _, ?_⟩) | skip); refine hKK _ ?_; clear hKK KK))
            go_simp
          · obtain ⟨f1, f2, f3, f4, f5, f6⟩ := rest_facts hE b1 (inR_iff.1 c3) (by omega)
            have hlen := (tripRight hE).2.1
            have h7 := (tripRight hE).2.2.2.2.2.2.1
            have h34 := v34 (l ++ [⟨whoP l, t.start, t.start + L⟩]) r (by simp; omega) (fun x hx => by
              rcases List.mem_append.1 hx with h | h
              · exact HS.out x h
              · simp only [List.mem_singleton] at h
                subst h
                show (whoP l).size ≤ 1000
                unfold whoP
                split
                · decide
                · rw [rat_get (by omega)]
                  exact HS.out.at_ _)
            unfold fbOut at h34
            rw [if_neg (by simpa using f2)] at h34
            simp only [recsA, List.map_append, List.map_cons, List.map_nil, Rec.av] at h34
            have h24 := v24 l r t (by omega) HS.out
            unfold allowOut at h24
            rw [if_neg (by simpa using hE)] at h24
            simp only at h24
            have hw2 := wrap_eq (x := t.next - (t.start + L)) (by omega) (by omega)
            have hl6 : l.length ≤ 1000000 := by omega
            have hb1 : l.length + 1 ≤ 1000000000 := by omega
            generalize firstBroken r (l ++ [⟨whoP l, t.start, t.start + L⟩]) = F at *
            generalize breaksP r l t.start t.next t.hi = X at *
            generalize breaksP r l t.start t.next t.lo = Y at *
            generalize breaksP r l t.start t.next L = Z at *
            have hA1 : Z = 0 → (if X = 0 then (2 : Int) else if Y = 0 then 1 else 0) = 2 ∨ (if X = 0 then (2 : Int) else if Y = 0 then 1 else 0) = 1 := fun hz => by
              by_cases hx : X = 0
              · exact .inl (if_pos hx)
              · rw [if_neg hx]
                by_cases hy : Y = 0
                · exact .inr (if_pos hy)
                · exact absurd hz (f5 hy)
            have hA2 : Z ≠ 0 → (if X = 0 then (2 : Int) else if Y = 0 then 1 else 0) = 0 ∨ (if X = 0 then (2 : Int) else if Y = 0 then 1 else 0) = 1 := fun hz => by
              by_cases hx : X = 0
              · exact absurd (f4 hx) hz
              · rw [if_neg hx]
                by_cases hy : Y = 0
                · exact .inr (if_pos hy)
                · exact .inl (if_neg hy)
            generalize (if X = 0 then (2 : Int) else if Y = 0 then 1 else 0) = A at *
            have H24 := Lib.hid h24
            clear h24
            obtain ⟨fk, fb⟩ := F
            simp only at h34 f3
            have HA1 : Hid (fb = 0 ∧ (t.next = -1 ∨ r.rest ≤ t.next - (t.start + L)) → A = 2 ∨ A = 1) := Lib.hid fun h => hA1 (f3.1 h)
            have HA2 : Hid (¬ (fb = 0 ∧ (t.next = -1 ∨ r.rest ≤ t.next - (t.start + L))) → A = 0 ∨ A = 1) := Lib.hid fun h => hA2 fun hz => h (f3.2 hz)
            clear hA1 hA2
            have h20 := Lib.hid (VC_of_own (o20 l hl6))
            clear f1 f2 f3 f4 f5 f6 hlen h7 b1 b2
            by_cases h0 : l.length = 0
            · have h0' : (l.length : Int) = 0 := by omega
              rw [show whoP l = (⟨#[97, 110, 110]⟩ : ByteArray) from by unfold whoP; rw [if_pos h0]] at h34
              have H34 := Lib.hid h34
              clear h34
              repeat (first | (with_reducible refine vseq ?_) | (with_reducible refine vthenN ?_) | (with_reducible refine vthenE ?_) | (with_reducible refine vthenR ?_) | (with_reducible refine vret ?_) | (with_reducible refine vskip ?_) | (with_reducible refine vexit ?_) | (with_reducible refine vblock ?_) | (with_reducible refine vblockN ?_) | (with_reducible refine vblockR ?_) | (with_reducible refine vblockH ?_) | (with_reducible refine vrun_nil ?_) | (with_reducible refine vblockE rfl ?_) | (with_reducible refine vregion [] ?_) | (with_reducible refine vhrun_nil ?_) | ((with_reducible refine vcondT ?_ ?_); (focus (go_simp; done))) | ((with_reducible refine vcondF ?_ ?_); (focus (go_simp; done))) | ((with_reducible refine vrun_cons fun KK hKK => ?_); go_simp; (first | (with_reducible refine ⟨_, v17, ?_⟩) | (with_reducible refine ⟨_, v18 l hl hd, ?_⟩) | (refine ⟨_, h25.out, ?_⟩) | (with_reducible refine ⟨_, v36 _ _ _, ?_⟩) | skip); refine hKK _ ?_; clear hKK KK) | ((with_reducible refine vhrun_cons fun KK hKK => ?_); go_simp; (first | (with_reducible refine ⟨_, v17, ?_⟩) | (with_reducible refine ⟨_, v18 l hl hd, ?_⟩) | (refine ⟨_, h25.out, ?_⟩) | (with_reducible refine ⟨_, v36 _ _ _, ?_⟩) | skip); refine hKK _ ?_; clear hKK KK))
              refine vdraw 12 [] (by kernel_rfl) (by kernel_rfl) ?_
              simp only [List.take, List.drop]
              repeat (first | (with_reducible refine vseq ?_) | (with_reducible refine vthenN ?_) | (with_reducible refine vthenE ?_) | (with_reducible refine vthenR ?_) | (with_reducible refine vret ?_) | (with_reducible refine vskip ?_) | (with_reducible refine vexit ?_) | (with_reducible refine vblock ?_) | (with_reducible refine vblockN ?_) | (with_reducible refine vblockR ?_) | (with_reducible refine vblockH ?_) | (with_reducible refine vrun_nil ?_) | (with_reducible refine vblockE rfl ?_) | (with_reducible refine vregion [] ?_) | (with_reducible refine vhrun_nil ?_) | ((with_reducible refine vcondT ?_ ?_); (focus (go_simp; done))) | ((with_reducible refine vcondF ?_ ?_); (focus (go_simp; done))) | ((with_reducible refine vrun_cons fun KK hKK => ?_); go_simp; (first | (refine ⟨_, h20.out, ?_⟩) | (refine ⟨_, H24.out, ?_⟩) | skip); refine hKK _ ?_; clear hKK KK) | ((with_reducible refine vhrun_cons fun KK hKK => ?_); go_simp; (first | (refine ⟨_, h20.out, ?_⟩) | (refine ⟨_, H24.out, ?_⟩) | skip); refine hKK _ ?_; clear hKK KK))
              refine vdrawC 13 [75] (fun i => i == 1 || i == 12) (by kernel_rfl) (by kernel_rfl) (by kernel_rfl) (by go_simp) (by go_simp) ?_
              simp only [List.take, List.drop]
              repeat (first | (with_reducible refine vseq ?_) | (with_reducible refine vthenN ?_) | (with_reducible refine vthenE ?_) | (with_reducible refine vthenR ?_) | (with_reducible refine vret ?_) | (with_reducible refine vskip ?_) | (with_reducible refine vexit ?_) | (with_reducible refine vblock ?_) | (with_reducible refine vblockN ?_) | (with_reducible refine vblockR ?_) | (with_reducible refine vblockH ?_) | (with_reducible refine vrun_nil ?_) | (with_reducible refine vblockE rfl ?_) | (with_reducible refine vregion [] ?_) | (with_reducible refine vhrun_nil ?_) | ((with_reducible refine vcondT ?_ ?_); (focus (go_simp; done))) | ((with_reducible refine vcondF ?_ ?_); (focus (go_simp; done))) | ((with_reducible refine vrun_cons fun KK hKK => ?_); go_simp; refine hKK _ ?_; clear hKK KK) | ((with_reducible refine vhrun_cons fun KK hKK => ?_); go_simp; refine hKK _ ?_; clear hKK KK) | ((with_reducible refine vhc_cons rfl fun KK hKK => ?_); go_simp; refine hKK _ (by go_simp) ?_; clear hKK KK) | ((with_reducible refine vhc_nil ?_); simp only [List.cons_append, List.nil_append, List.append_nil, newCs]))
              refine vhc_chain [some (.arr 57 3 false (l.map Rec.av))] none (.osl 1) rfl ⟨rfl, fun _ => rfl, fun _ h => by cases h⟩ ?_ ?_
              · intro s2 hs2
                have q1 : lkp s2 74 = recsA l := (hs2 74 (by simp [Op.operands, Call.operands]) (by go_simp)).trans (by go_simp)
                clear hs2
                go_simp
                refine ⟨57, 3, l.map Rec.av, ?_⟩
                go_simp
                exact o20 l hl6
              repeat (first | (with_reducible refine vseq ?_) | (with_reducible refine vthenN ?_) | (with_reducible refine vthenE ?_) | (with_reducible refine vthenR ?_) | (with_reducible refine vret ?_) | (with_reducible refine vskip ?_) | (with_reducible refine vexit ?_) | (with_reducible refine vblock ?_) | (with_reducible refine vblockN ?_) | (with_reducible refine vblockR ?_) | (with_reducible refine vblockH ?_) | (with_reducible refine vrun_nil ?_) | (with_reducible refine vblockE rfl ?_) | (with_reducible refine vregion [] ?_) | (with_reducible refine vhrun_nil ?_) | ((with_reducible refine vcondT ?_ ?_); (focus (go_simp; done))) | ((with_reducible refine vcondF ?_ ?_); (focus (go_simp; done))) | ((with_reducible refine vrun_cons fun KK hKK => ?_); go_simp; refine hKK _ ?_; clear hKK KK) | ((with_reducible refine vhrun_cons fun KK hKK => ?_); go_simp; refine hKK _ ?_; clear hKK KK) | ((with_reducible refine vhc_cons rfl fun KK hKK => ?_); go_simp; refine hKK _ (by go_simp) ?_; clear hKK KK) | ((with_reducible refine vhc_nil ?_); simp only [List.cons_append, List.nil_append, List.append_nil, newCs]))
              refine vhc_chain [some (.arr 57 3 false (l.map Rec.av ++ [[S ((⟨#[97, 110, 110]⟩ : ByteArray)), I t.start, I (t.start + L)]]))] (some 1) (.osl 1) rfl ⟨rfl, fun h => (by cases h), fun _ h => (by cases h; exact Nat.le_refl _)⟩ ?_ ?_
              · intro s2 hs2
                have q1 : lkp s2 75 = .osl 1 := (hs2 75 (by simp [Op.operands, Call.operands]) (by go_simp)).trans (by go_simp)
                have q2 : lkp s2 85 = .sl 3 [[S ((⟨#[97, 110, 110]⟩ : ByteArray)), I t.start, I (t.start + L)]] := (hs2 85 (by simp [Op.operands, Call.operands]) (by go_simp)).trans (by go_simp)
                clear hs2
                go_simp
              repeat (first | (with_reducible refine vseq ?_) | (with_reducible refine vthenN ?_) | (with_reducible refine vthenE ?_) | (with_reducible refine vthenR ?_) | (with_reducible refine vret ?_) | (with_reducible refine vskip ?_) | (with_reducible refine vexit ?_) | (with_reducible refine vblock ?_) | (with_reducible refine vblockN ?_) | (with_reducible refine vblockR ?_) | (with_reducible refine vblockH ?_) | (with_reducible refine vrun_nil ?_) | (with_reducible refine vblockE rfl ?_) | (with_reducible refine vregion [] ?_) | (with_reducible refine vhrun_nil ?_) | ((with_reducible refine vcondT ?_ ?_); (focus (go_simp; done))) | ((with_reducible refine vcondF ?_ ?_); (focus (go_simp; done))) | ((with_reducible refine vrun_cons fun KK hKK => ?_); go_simp; refine hKK _ ?_; clear hKK KK) | ((with_reducible refine vhrun_cons fun KK hKK => ?_); go_simp; refine hKK _ ?_; clear hKK KK) | ((with_reducible refine vhc_cons rfl fun KK hKK => ?_); go_simp; refine hKK _ (by go_simp) ?_; clear hKK KK) | ((with_reducible refine vhc_nil ?_); simp only [List.cons_append, List.nil_append, newCs]))
              by_cases hb : fb = 0
              · have h34 := H34.out
                simp only [hb, ne_eq, not_true_eq_false, decide_false, unl, Bool.false_eq_true, if_false] at h34
                have H34 := Lib.hid h34
                clear h34
                by_cases hn : t.next = -1
                · rcases HA1.out ⟨hb, .inl hn⟩ with hA | hA
                  · subst hA
                    repeat (first | (with_reducible refine vseq ?_) | (with_reducible refine vthenN ?_) | (with_reducible refine vthenE ?_) | (with_reducible refine vthenR ?_) | (with_reducible refine vret ?_) | (with_reducible refine vskip ?_) | (with_reducible refine vexit ?_) | (with_reducible refine vblock ?_) | (with_reducible refine vblockN ?_) | (with_reducible refine vblockR ?_) | (with_reducible refine vblockH ?_) | (with_reducible refine vrun_nil ?_) | (with_reducible refine vblockE rfl ?_) | (with_reducible refine vregion [] ?_) | (with_reducible refine vhrun_nil ?_) | ((with_reducible refine vcondT ?_ ?_); (focus (go_simp; done))) | ((with_reducible refine vcondF ?_ ?_); (focus (go_simp; done))) | ((with_reducible refine vrun_cons fun KK hKK => ?_); go_simp; (first | (refine ⟨_, ⟨H34.out, rfl⟩, ?_⟩) | skip); refine hKK _ ?_; clear hKK KK) | ((with_reducible refine vhrun_cons fun KK hKK => ?_); go_simp; (first | (refine ⟨_, ⟨H34.out, rfl⟩, ?_⟩) | skip); refine hKK _ ?_; clear hKK KK))
                    go_simp
                  · subst hA
                    repeat (first | (with_reducible refine vseq ?_) | (with_reducible refine vthenN ?_) | (with_reducible refine vthenE ?_) | (with_reducible refine vthenR ?_) | (with_reducible refine vret ?_) | (with_reducible refine vskip ?_) | (with_reducible refine vexit ?_) | (with_reducible refine vblock ?_) | (with_reducible refine vblockN ?_) | (with_reducible refine vblockR ?_) | (with_reducible refine vblockH ?_) | (with_reducible refine vrun_nil ?_) | (with_reducible refine vblockE rfl ?_) | (with_reducible refine vregion [] ?_) | (with_reducible refine vhrun_nil ?_) | ((with_reducible refine vcondT ?_ ?_); (focus (go_simp; done))) | ((with_reducible refine vcondF ?_ ?_); (focus (go_simp; done))) | ((with_reducible refine vrun_cons fun KK hKK => ?_); go_simp; (first | (refine ⟨_, ⟨H34.out, rfl⟩, ?_⟩) | skip); refine hKK _ ?_; clear hKK KK) | ((with_reducible refine vhrun_cons fun KK hKK => ?_); go_simp; (first | (refine ⟨_, ⟨H34.out, rfl⟩, ?_⟩) | skip); refine hKK _ ?_; clear hKK KK))
                    go_simp
                · by_cases hr : r.rest ≤ t.next - (t.start + L)
                  · rcases HA1.out ⟨hb, .inr hr⟩ with hA | hA
                    · subst hA
                      repeat (first | (with_reducible refine vseq ?_) | (with_reducible refine vthenN ?_) | (with_reducible refine vthenE ?_) | (with_reducible refine vthenR ?_) | (with_reducible refine vret ?_) | (with_reducible refine vskip ?_) | (with_reducible refine vexit ?_) | (with_reducible refine vblock ?_) | (with_reducible refine vblockN ?_) | (with_reducible refine vblockR ?_) | (with_reducible refine vblockH ?_) | (with_reducible refine vrun_nil ?_) | (with_reducible refine vblockE rfl ?_) | (with_reducible refine vregion [] ?_) | (with_reducible refine vhrun_nil ?_) | ((with_reducible refine vcondT ?_ ?_); (focus (go_simp; done))) | ((with_reducible refine vcondF ?_ ?_); (focus (go_simp; done))) | ((with_reducible refine vrun_cons fun KK hKK => ?_); go_simp; (first | (refine ⟨_, ⟨H34.out, rfl⟩, ?_⟩) | skip); refine hKK _ ?_; clear hKK KK) | ((with_reducible refine vhrun_cons fun KK hKK => ?_); go_simp; (first | (refine ⟨_, ⟨H34.out, rfl⟩, ?_⟩) | skip); refine hKK _ ?_; clear hKK KK))
                      go_simp
                    · subst hA
                      repeat (first | (with_reducible refine vseq ?_) | (with_reducible refine vthenN ?_) | (with_reducible refine vthenE ?_) | (with_reducible refine vthenR ?_) | (with_reducible refine vret ?_) | (with_reducible refine vskip ?_) | (with_reducible refine vexit ?_) | (with_reducible refine vblock ?_) | (with_reducible refine vblockN ?_) | (with_reducible refine vblockR ?_) | (with_reducible refine vblockH ?_) | (with_reducible refine vrun_nil ?_) | (with_reducible refine vblockE rfl ?_) | (with_reducible refine vregion [] ?_) | (with_reducible refine vhrun_nil ?_) | ((with_reducible refine vcondT ?_ ?_); (focus (go_simp; done))) | ((with_reducible refine vcondF ?_ ?_); (focus (go_simp; done))) | ((with_reducible refine vrun_cons fun KK hKK => ?_); go_simp; (first | (refine ⟨_, ⟨H34.out, rfl⟩, ?_⟩) | skip); refine hKK _ ?_; clear hKK KK) | ((with_reducible refine vhrun_cons fun KK hKK => ?_); go_simp; (first | (refine ⟨_, ⟨H34.out, rfl⟩, ?_⟩) | skip); refine hKK _ ?_; clear hKK KK))
                      go_simp
                  · rcases HA2.out fun h => h.2.elim hn hr with hA | hA
                    · subst hA
                      repeat (first | (with_reducible refine vseq ?_) | (with_reducible refine vthenN ?_) | (with_reducible refine vthenE ?_) | (with_reducible refine vthenR ?_) | (with_reducible refine vret ?_) | (with_reducible refine vskip ?_) | (with_reducible refine vexit ?_) | (with_reducible refine vblock ?_) | (with_reducible refine vblockN ?_) | (with_reducible refine vblockR ?_) | (with_reducible refine vblockH ?_) | (with_reducible refine vrun_nil ?_) | (with_reducible refine vblockE rfl ?_) | (with_reducible refine vregion [] ?_) | (with_reducible refine vhrun_nil ?_) | ((with_reducible refine vcondT ?_ ?_); (focus (go_simp; done))) | ((with_reducible refine vcondF ?_ ?_); (focus (go_simp; done))) | ((with_reducible refine vrun_cons fun KK hKK => ?_); go_simp; (first | (refine ⟨_, ⟨H34.out, rfl⟩, ?_⟩) | skip); refine hKK _ ?_; clear hKK KK) | ((with_reducible refine vhrun_cons fun KK hKK => ?_); go_simp; (first | (refine ⟨_, ⟨H34.out, rfl⟩, ?_⟩) | skip); refine hKK _ ?_; clear hKK KK))
                      go_simp
                    · subst hA
                      repeat (first | (with_reducible refine vseq ?_) | (with_reducible refine vthenN ?_) | (with_reducible refine vthenE ?_) | (with_reducible refine vthenR ?_) | (with_reducible refine vret ?_) | (with_reducible refine vskip ?_) | (with_reducible refine vexit ?_) | (with_reducible refine vblock ?_) | (with_reducible refine vblockN ?_) | (with_reducible refine vblockR ?_) | (with_reducible refine vblockH ?_) | (with_reducible refine vrun_nil ?_) | (with_reducible refine vblockE rfl ?_) | (with_reducible refine vregion [] ?_) | (with_reducible refine vhrun_nil ?_) | ((with_reducible refine vcondT ?_ ?_); (focus (go_simp; done))) | ((with_reducible refine vcondF ?_ ?_); (focus (go_simp; done))) | ((with_reducible refine vrun_cons fun KK hKK => ?_); go_simp; (first | (refine ⟨_, ⟨H34.out, rfl⟩, ?_⟩) | skip); refine hKK _ ?_; clear hKK KK) | ((with_reducible refine vhrun_cons fun KK hKK => ?_); go_simp; (first | (refine ⟨_, ⟨H34.out, rfl⟩, ?_⟩) | skip); refine hKK _ ?_; clear hKK KK))
                      go_simp
              · have h34 := H34.out
                simp only [hb, ne_eq, not_false_eq_true, decide_true, unl, if_true] at h34
                have H34 := Lib.hid h34
                clear h34
                rcases HA2.out fun h => hb h.1 with hA | hA
                · subst hA
                  repeat (first | (with_reducible refine vseq ?_) | (with_reducible refine vthenN ?_) | (with_reducible refine vthenE ?_) | (with_reducible refine vthenR ?_) | (with_reducible refine vret ?_) | (with_reducible refine vskip ?_) | (with_reducible refine vexit ?_) | (with_reducible refine vblock ?_) | (with_reducible refine vblockN ?_) | (with_reducible refine vblockR ?_) | (with_reducible refine vblockH ?_) | (with_reducible refine vrun_nil ?_) | (with_reducible refine vblockE rfl ?_) | (with_reducible refine vregion [] ?_) | (with_reducible refine vhrun_nil ?_) | ((with_reducible refine vcondT ?_ ?_); (focus (go_simp; done))) | ((with_reducible refine vcondF ?_ ?_); (focus (go_simp; done))) | ((with_reducible refine vrun_cons fun KK hKK => ?_); go_simp; (first | (refine ⟨_, ⟨H34.out, rfl⟩, ?_⟩) | skip); refine hKK _ ?_; clear hKK KK) | ((with_reducible refine vhrun_cons fun KK hKK => ?_); go_simp; (first | (refine ⟨_, ⟨H34.out, rfl⟩, ?_⟩) | skip); refine hKK _ ?_; clear hKK KK))
                  go_simp
                · subst hA
                  repeat (first | (with_reducible refine vseq ?_) | (with_reducible refine vthenN ?_) | (with_reducible refine vthenE ?_) | (with_reducible refine vthenR ?_) | (with_reducible refine vret ?_) | (with_reducible refine vskip ?_) | (with_reducible refine vexit ?_) | (with_reducible refine vblock ?_) | (with_reducible refine vblockN ?_) | (with_reducible refine vblockR ?_) | (with_reducible refine vblockH ?_) | (with_reducible refine vrun_nil ?_) | (with_reducible refine vblockE rfl ?_) | (with_reducible refine vregion [] ?_) | (with_reducible refine vhrun_nil ?_) | ((with_reducible refine vcondT ?_ ?_); (focus (go_simp; done))) | ((with_reducible refine vcondF ?_ ?_); (focus (go_simp; done))) | ((with_reducible refine vrun_cons fun KK hKK => ?_); go_simp; (first | (refine ⟨_, ⟨H34.out, rfl⟩, ?_⟩) | skip); refine hKK _ ?_; clear hKK KK) | ((with_reducible refine vhrun_cons fun KK hKK => ?_); go_simp; (first | (refine ⟨_, ⟨H34.out, rfl⟩, ?_⟩) | skip); refine hKK _ ?_; clear hKK KK))
                  go_simp
            · have h0' : (0 : Int) < l.length := by omega
              have h0n : 0 < l.length := by omega
              rw [show whoP l = l[0].driver from by unfold whoP; rw [if_neg h0, rat_get h0n]] at h34
              have H34 := Lib.hid h34
              clear h34
              repeat (first | (with_reducible refine vseq ?_) | (with_reducible refine vthenN ?_) | (with_reducible refine vthenE ?_) | (with_reducible refine vthenR ?_) | (with_reducible refine vret ?_) | (with_reducible refine vskip ?_) | (with_reducible refine vexit ?_) | (with_reducible refine vblock ?_) | (with_reducible refine vblockN ?_) | (with_reducible refine vblockR ?_) | (with_reducible refine vblockH ?_) | (with_reducible refine vrun_nil ?_) | (with_reducible refine vblockE rfl ?_) | (with_reducible refine vregion [] ?_) | (with_reducible refine vhrun_nil ?_) | ((with_reducible refine vcondT ?_ ?_); (focus (go_simp; done))) | ((with_reducible refine vcondF ?_ ?_); (focus (go_simp; done))) | ((with_reducible refine vrun_cons fun KK hKK => ?_); go_simp; (first | (with_reducible refine ⟨_, v17, ?_⟩) | (with_reducible refine ⟨_, v18 l hl hd, ?_⟩) | (refine ⟨_, h25.out, ?_⟩) | (with_reducible refine ⟨_, v36 _ _ _, ?_⟩) | skip); refine hKK _ ?_; clear hKK KK) | ((with_reducible refine vhrun_cons fun KK hKK => ?_); go_simp; (first | (with_reducible refine ⟨_, v17, ?_⟩) | (with_reducible refine ⟨_, v18 l hl hd, ?_⟩) | (refine ⟨_, h25.out, ?_⟩) | (with_reducible refine ⟨_, v36 _ _ _, ?_⟩) | skip); refine hKK _ ?_; clear hKK KK))
              refine vdraw 12 [] (by kernel_rfl) (by kernel_rfl) ?_
              simp only [List.take, List.drop]
              repeat (first | (with_reducible refine vseq ?_) | (with_reducible refine vthenN ?_) | (with_reducible refine vthenE ?_) | (with_reducible refine vthenR ?_) | (with_reducible refine vret ?_) | (with_reducible refine vskip ?_) | (with_reducible refine vexit ?_) | (with_reducible refine vblock ?_) | (with_reducible refine vblockN ?_) | (with_reducible refine vblockR ?_) | (with_reducible refine vblockH ?_) | (with_reducible refine vrun_nil ?_) | (with_reducible refine vblockE rfl ?_) | (with_reducible refine vregion [] ?_) | (with_reducible refine vhrun_nil ?_) | ((with_reducible refine vcondT ?_ ?_); (focus (go_simp; done))) | ((with_reducible refine vcondF ?_ ?_); (focus (go_simp; done))) | ((with_reducible refine vrun_cons fun KK hKK => ?_); go_simp; (first | (refine ⟨_, h20.out, ?_⟩) | (refine ⟨_, H24.out, ?_⟩) | skip); refine hKK _ ?_; clear hKK KK) | ((with_reducible refine vhrun_cons fun KK hKK => ?_); go_simp; (first | (refine ⟨_, h20.out, ?_⟩) | (refine ⟨_, H24.out, ?_⟩) | skip); refine hKK _ ?_; clear hKK KK))
              refine vdrawC 13 [75] (fun i => i == 1 || i == 12) (by kernel_rfl) (by kernel_rfl) (by kernel_rfl) (by go_simp) (by go_simp) ?_
              simp only [List.take, List.drop]
              repeat (first | (with_reducible refine vseq ?_) | (with_reducible refine vthenN ?_) | (with_reducible refine vthenE ?_) | (with_reducible refine vthenR ?_) | (with_reducible refine vret ?_) | (with_reducible refine vskip ?_) | (with_reducible refine vexit ?_) | (with_reducible refine vblock ?_) | (with_reducible refine vblockN ?_) | (with_reducible refine vblockR ?_) | (with_reducible refine vblockH ?_) | (with_reducible refine vrun_nil ?_) | (with_reducible refine vblockE rfl ?_) | (with_reducible refine vregion [] ?_) | (with_reducible refine vhrun_nil ?_) | ((with_reducible refine vcondT ?_ ?_); (focus (go_simp; done))) | ((with_reducible refine vcondF ?_ ?_); (focus (go_simp; done))) | ((with_reducible refine vrun_cons fun KK hKK => ?_); go_simp; refine hKK _ ?_; clear hKK KK) | ((with_reducible refine vhrun_cons fun KK hKK => ?_); go_simp; refine hKK _ ?_; clear hKK KK) | ((with_reducible refine vhc_cons rfl fun KK hKK => ?_); go_simp; refine hKK _ (by go_simp) ?_; clear hKK KK) | ((with_reducible refine vhc_nil ?_); simp only [List.cons_append, List.nil_append, List.append_nil, newCs]))
              refine vhc_chain [some (.arr 57 3 false (l.map Rec.av))] none (.osl 1) rfl ⟨rfl, fun _ => rfl, fun _ h => by cases h⟩ ?_ ?_
              · intro s2 hs2
                have q1 : lkp s2 74 = recsA l := (hs2 74 (by simp [Op.operands, Call.operands]) (by go_simp)).trans (by go_simp)
                clear hs2
                go_simp
                refine ⟨57, 3, l.map Rec.av, ?_⟩
                go_simp
                exact o20 l hl6
              repeat (first | (with_reducible refine vseq ?_) | (with_reducible refine vthenN ?_) | (with_reducible refine vthenE ?_) | (with_reducible refine vthenR ?_) | (with_reducible refine vret ?_) | (with_reducible refine vskip ?_) | (with_reducible refine vexit ?_) | (with_reducible refine vblock ?_) | (with_reducible refine vblockN ?_) | (with_reducible refine vblockR ?_) | (with_reducible refine vblockH ?_) | (with_reducible refine vrun_nil ?_) | (with_reducible refine vblockE rfl ?_) | (with_reducible refine vregion [] ?_) | (with_reducible refine vhrun_nil ?_) | ((with_reducible refine vcondT ?_ ?_); (focus (go_simp; done))) | ((with_reducible refine vcondF ?_ ?_); (focus (go_simp; done))) | ((with_reducible refine vrun_cons fun KK hKK => ?_); go_simp; refine hKK _ ?_; clear hKK KK) | ((with_reducible refine vhrun_cons fun KK hKK => ?_); go_simp; refine hKK _ ?_; clear hKK KK) | ((with_reducible refine vhc_cons rfl fun KK hKK => ?_); go_simp; refine hKK _ (by go_simp) ?_; clear hKK KK) | ((with_reducible refine vhc_nil ?_); simp only [List.cons_append, List.nil_append, List.append_nil, newCs]))
              refine vhc_chain [some (.arr 57 3 false (l.map Rec.av ++ [[S (l[0].driver), I t.start, I (t.start + L)]]))] (some 1) (.osl 1) rfl ⟨rfl, fun h => (by cases h), fun _ h => (by cases h; exact Nat.le_refl _)⟩ ?_ ?_
              · intro s2 hs2
                have q1 : lkp s2 75 = .osl 1 := (hs2 75 (by simp [Op.operands, Call.operands]) (by go_simp)).trans (by go_simp)
                have q2 : lkp s2 85 = .sl 3 [[S (l[0].driver), I t.start, I (t.start + L)]] := (hs2 85 (by simp [Op.operands, Call.operands]) (by go_simp)).trans (by go_simp)
                clear hs2
                go_simp
              repeat (first | (with_reducible refine vseq ?_) | (with_reducible refine vthenN ?_) | (with_reducible refine vthenE ?_) | (with_reducible refine vthenR ?_) | (with_reducible refine vret ?_) | (with_reducible refine vskip ?_) | (with_reducible refine vexit ?_) | (with_reducible refine vblock ?_) | (with_reducible refine vblockN ?_) | (with_reducible refine vblockR ?_) | (with_reducible refine vblockH ?_) | (with_reducible refine vrun_nil ?_) | (with_reducible refine vblockE rfl ?_) | (with_reducible refine vregion [] ?_) | (with_reducible refine vhrun_nil ?_) | ((with_reducible refine vcondT ?_ ?_); (focus (go_simp; done))) | ((with_reducible refine vcondF ?_ ?_); (focus (go_simp; done))) | ((with_reducible refine vrun_cons fun KK hKK => ?_); go_simp; refine hKK _ ?_; clear hKK KK) | ((with_reducible refine vhrun_cons fun KK hKK => ?_); go_simp; refine hKK _ ?_; clear hKK KK) | ((with_reducible refine vhc_cons rfl fun KK hKK => ?_); go_simp; refine hKK _ (by go_simp) ?_; clear hKK KK) | ((with_reducible refine vhc_nil ?_); simp only [List.cons_append, List.nil_append, newCs]))
              by_cases hb : fb = 0
              · have h34 := H34.out
                simp only [hb, ne_eq, not_true_eq_false, decide_false, unl, Bool.false_eq_true, if_false] at h34
                have H34 := Lib.hid h34
                clear h34
                by_cases hn : t.next = -1
                · rcases HA1.out ⟨hb, .inl hn⟩ with hA | hA
                  · subst hA
                    repeat (first | (with_reducible refine vseq ?_) | (with_reducible refine vthenN ?_) | (with_reducible refine vthenE ?_) | (with_reducible refine vthenR ?_) | (with_reducible refine vret ?_) | (with_reducible refine vskip ?_) | (with_reducible refine vexit ?_) | (with_reducible refine vblock ?_) | (with_reducible refine vblockN ?_) | (with_reducible refine vblockR ?_) | (with_reducible refine vblockH ?_) | (with_reducible refine vrun_nil ?_) | (with_reducible refine vblockE rfl ?_) | (with_reducible refine vregion [] ?_) | (with_reducible refine vhrun_nil ?_) | ((with_reducible refine vcondT ?_ ?_); (focus (go_simp; done))) | ((with_reducible refine vcondF ?_ ?_); (focus (go_simp; done))) | ((with_reducible refine vrun_cons fun KK hKK => ?_); go_simp; (first | (refine ⟨_, ⟨H34.out, rfl⟩, ?_⟩) | skip); refine hKK _ ?_; clear hKK KK) | ((with_reducible refine vhrun_cons fun KK hKK => ?_); go_simp; (first | (refine ⟨_, ⟨H34.out, rfl⟩, ?_⟩) | skip); refine hKK _ ?_; clear hKK KK))
                    go_simp
                  · subst hA
                    repeat (first | (with_reducible refine vseq ?_) | (with_reducible refine vthenN ?_) | (with_reducible refine vthenE ?_) | (with_reducible refine vthenR ?_) | (with_reducible refine vret ?_) | (with_reducible refine vskip ?_) | (with_reducible refine vexit ?_) | (with_reducible refine vblock ?_) | (with_reducible refine vblockN ?_) | (with_reducible refine vblockR ?_) | (with_reducible refine vblockH ?_) | (with_reducible refine vrun_nil ?_) | (with_reducible refine vblockE rfl ?_) | (with_reducible refine vregion [] ?_) | (with_reducible refine vhrun_nil ?_) | ((with_reducible refine vcondT ?_ ?_); (focus (go_simp; done))) | ((with_reducible refine vcondF ?_ ?_); (focus (go_simp; done))) | ((with_reducible refine vrun_cons fun KK hKK => ?_); go_simp; (first | (refine ⟨_, ⟨H34.out, rfl⟩, ?_⟩) | skip); refine hKK _ ?_; clear hKK KK) | ((with_reducible refine vhrun_cons fun KK hKK => ?_); go_simp; (first | (refine ⟨_, ⟨H34.out, rfl⟩, ?_⟩) | skip); refine hKK _ ?_; clear hKK KK))
                    go_simp
                · by_cases hr : r.rest ≤ t.next - (t.start + L)
                  · rcases HA1.out ⟨hb, .inr hr⟩ with hA | hA
                    · subst hA
                      repeat (first | (with_reducible refine vseq ?_) | (with_reducible refine vthenN ?_) | (with_reducible refine vthenE ?_) | (with_reducible refine vthenR ?_) | (with_reducible refine vret ?_) | (with_reducible refine vskip ?_) | (with_reducible refine vexit ?_) | (with_reducible refine vblock ?_) | (with_reducible refine vblockN ?_) | (with_reducible refine vblockR ?_) | (with_reducible refine vblockH ?_) | (with_reducible refine vrun_nil ?_) | (with_reducible refine vblockE rfl ?_) | (with_reducible refine vregion [] ?_) | (with_reducible refine vhrun_nil ?_) | ((with_reducible refine vcondT ?_ ?_); (focus (go_simp; done))) | ((with_reducible refine vcondF ?_ ?_); (focus (go_simp; done))) | ((with_reducible refine vrun_cons fun KK hKK => ?_); go_simp; (first | (refine ⟨_, ⟨H34.out, rfl⟩, ?_⟩) | skip); refine hKK _ ?_; clear hKK KK) | ((with_reducible refine vhrun_cons fun KK hKK => ?_); go_simp; (first | (refine ⟨_, ⟨H34.out, rfl⟩, ?_⟩) | skip); refine hKK _ ?_; clear hKK KK))
                      go_simp
                    · subst hA
                      repeat (first | (with_reducible refine vseq ?_) | (with_reducible refine vthenN ?_) | (with_reducible refine vthenE ?_) | (with_reducible refine vthenR ?_) | (with_reducible refine vret ?_) | (with_reducible refine vskip ?_) | (with_reducible refine vexit ?_) | (with_reducible refine vblock ?_) | (with_reducible refine vblockN ?_) | (with_reducible refine vblockR ?_) | (with_reducible refine vblockH ?_) | (with_reducible refine vrun_nil ?_) | (with_reducible refine vblockE rfl ?_) | (with_reducible refine vregion [] ?_) | (with_reducible refine vhrun_nil ?_) | ((with_reducible refine vcondT ?_ ?_); (focus (go_simp; done))) | ((with_reducible refine vcondF ?_ ?_); (focus (go_simp; done))) | ((with_reducible refine vrun_cons fun KK hKK => ?_); go_simp; (first | (refine ⟨_, ⟨H34.out, rfl⟩, ?_⟩) | skip); refine hKK _ ?_; clear hKK KK) | ((with_reducible refine vhrun_cons fun KK hKK => ?_); go_simp; (first | (refine ⟨_, ⟨H34.out, rfl⟩, ?_⟩) | skip); refine hKK _ ?_; clear hKK KK))
                      go_simp
                  · rcases HA2.out fun h => h.2.elim hn hr with hA | hA
                    · subst hA
                      repeat (first | (with_reducible refine vseq ?_) | (with_reducible refine vthenN ?_) | (with_reducible refine vthenE ?_) | (with_reducible refine vthenR ?_) | (with_reducible refine vret ?_) | (with_reducible refine vskip ?_) | (with_reducible refine vexit ?_) | (with_reducible refine vblock ?_) | (with_reducible refine vblockN ?_) | (with_reducible refine vblockR ?_) | (with_reducible refine vblockH ?_) | (with_reducible refine vrun_nil ?_) | (with_reducible refine vblockE rfl ?_) | (with_reducible refine vregion [] ?_) | (with_reducible refine vhrun_nil ?_) | ((with_reducible refine vcondT ?_ ?_); (focus (go_simp; done))) | ((with_reducible refine vcondF ?_ ?_); (focus (go_simp; done))) | ((with_reducible refine vrun_cons fun KK hKK => ?_); go_simp; (first | (refine ⟨_, ⟨H34.out, rfl⟩, ?_⟩) | skip); refine hKK _ ?_; clear hKK KK) | ((with_reducible refine vhrun_cons fun KK hKK => ?_); go_simp; (first | (refine ⟨_, ⟨H34.out, rfl⟩, ?_⟩) | skip); refine hKK _ ?_; clear hKK KK))
                      go_simp
                    · subst hA
                      repeat (first | (with_reducible refine vseq ?_) | (with_reducible refine vthenN ?_) | (with_reducible refine vthenE ?_) | (with_reducible refine vthenR ?_) | (with_reducible refine vret ?_) | (with_reducible refine vskip ?_) | (with_reducible refine vexit ?_) | (with_reducible refine vblock ?_) | (with_reducible refine vblockN ?_) | (with_reducible refine vblockR ?_) | (with_reducible refine vblockH ?_) | (with_reducible refine vrun_nil ?_) | (with_reducible refine vblockE rfl ?_) | (with_reducible refine vregion [] ?_) | (with_reducible refine vhrun_nil ?_) | ((with_reducible refine vcondT ?_ ?_); (focus (go_simp; done))) | ((with_reducible refine vcondF ?_ ?_); (focus (go_simp; done))) | ((with_reducible refine vrun_cons fun KK hKK => ?_); go_simp; (first | (refine ⟨_, ⟨H34.out, rfl⟩, ?_⟩) | skip); refine hKK _ ?_; clear hKK KK) | ((with_reducible refine vhrun_cons fun KK hKK => ?_); go_simp; (first | (refine ⟨_, ⟨H34.out, rfl⟩, ?_⟩) | skip); refine hKK _ ?_; clear hKK KK))
                      go_simp
              · have h34 := H34.out
                simp only [hb, ne_eq, not_false_eq_true, decide_true, unl, if_true] at h34
                have H34 := Lib.hid h34
                clear h34
                rcases HA2.out fun h => hb h.1 with hA | hA
                · subst hA
                  repeat (first | (with_reducible refine vseq ?_) | (with_reducible refine vthenN ?_) | (with_reducible refine vthenE ?_) | (with_reducible refine vthenR ?_) | (with_reducible refine vret ?_) | (with_reducible refine vskip ?_) | (with_reducible refine vexit ?_) | (with_reducible refine vblock ?_) | (with_reducible refine vblockN ?_) | (with_reducible refine vblockR ?_) | (with_reducible refine vblockH ?_) | (with_reducible refine vrun_nil ?_) | (with_reducible refine vblockE rfl ?_) | (with_reducible refine vregion [] ?_) | (with_reducible refine vhrun_nil ?_) | ((with_reducible refine vcondT ?_ ?_); (focus (go_simp; done))) | ((with_reducible refine vcondF ?_ ?_); (focus (go_simp; done))) | ((with_reducible refine vrun_cons fun KK hKK => ?_); go_simp; (first | (refine ⟨_, ⟨H34.out, rfl⟩, ?_⟩) | skip); refine hKK _ ?_; clear hKK KK) | ((with_reducible refine vhrun_cons fun KK hKK => ?_); go_simp; (first | (refine ⟨_, ⟨H34.out, rfl⟩, ?_⟩) | skip); refine hKK _ ?_; clear hKK KK))
                  go_simp
                · subst hA
                  repeat (first | (with_reducible refine vseq ?_) | (with_reducible refine vthenN ?_) | (with_reducible refine vthenE ?_) | (with_reducible refine vthenR ?_) | (with_reducible refine vret ?_) | (with_reducible refine vskip ?_) | (with_reducible refine vexit ?_) | (with_reducible refine vblock ?_) | (with_reducible refine vblockN ?_) | (with_reducible refine vblockR ?_) | (with_reducible refine vblockH ?_) | (with_reducible refine vrun_nil ?_) | (with_reducible refine vblockE rfl ?_) | (with_reducible refine vregion [] ?_) | (with_reducible refine vhrun_nil ?_) | ((with_reducible refine vcondT ?_ ?_); (focus (go_simp; done))) | ((with_reducible refine vcondF ?_ ?_); (focus (go_simp; done))) | ((with_reducible refine vrun_cons fun KK hKK => ?_); go_simp; (first | (refine ⟨_, ⟨H34.out, rfl⟩, ?_⟩) | skip); refine hKK _ ?_; clear hKK KK) | ((with_reducible refine vhrun_cons fun KK hKK => ?_); go_simp; (first | (refine ⟨_, ⟨H34.out, rfl⟩, ?_⟩) | skip); refine hKK _ ?_; clear hKK KK))
                  go_simp
    · repeat (first | (with_reducible refine vseq ?_) | (with_reducible refine vthenN ?_) | (with_reducible refine vthenE ?_) | (with_reducible refine vthenR ?_) | (with_reducible refine vret ?_) | (with_reducible refine vskip ?_) | (with_reducible refine vexit ?_) | (with_reducible refine vblock ?_) | (with_reducible refine vblockN ?_) | (with_reducible refine vblockR ?_) | (with_reducible refine vblockH ?_) | (with_reducible refine vrun_nil ?_) | (with_reducible refine vblockE rfl ?_) | (with_reducible refine vregion [] ?_) | (with_reducible refine vhrun_nil ?_) | ((with_reducible refine vcondT ?_ ?_); (focus (go_simp; done))) | ((with_reducible refine vcondF ?_ ?_); (focus (go_simp; done))) | ((with_reducible refine vrun_cons fun KK hKK => ?_); go_simp; (first | (with_reducible refine ⟨_, v17, ?_⟩) | (with_reducible refine ⟨_, v18 l hl hd, ?_⟩) | (refine ⟨_, h25.out, ?_⟩) | (with_reducible refine ⟨_, v36 _ _ _, ?_⟩) | skip); refine hKK _ ?_; clear hKK KK) | ((with_reducible refine vhrun_cons fun KK hKK => ?_); go_simp; (first | (with_reducible refine ⟨_, v17, ?_⟩) | (with_reducible refine ⟨_, v18 l hl hd, ?_⟩) | (refine ⟨_, h25.out, ?_⟩) | (with_reducible refine ⟨_, v36 _ _ _, ?_⟩) | skip); refine hKK _ ?_; clear hKK KK))
      go_simp
end Go.Proofs.Ytmfmpagfjgpodaa
