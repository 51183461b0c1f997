/- Walks on plain values: two drivers' records joined, as the reference does it; conditions as each says. -/
import Derived.Test.YtmfmpagfjgpodaaVStint
import Derived.Test.YtmfmpagfjgpodaaVJoinP
namespace Go.Proofs.Ytmfmpagfjgpodaa
open Go.RowKit
set_option maxRecDepth 100000
section
variable {P : Program} {M0 : Nat → Prop} {w0 : World} {N : Nat} {st : VS} {Q : Exit → VS → Prop}
/-- A statement that comes to one state, whichever way it goes; the rest from that state. -/
theorem vcutU {c x : Code} {Q' : Exit → VS → Prop} (stU : VS) (h1 : VWp P M0 w0 N c (fun e st' => e = .normal ∧ Le st' stU) st) (h2 : VWp P M0 w0 N x Q' stU) : VWp P M0 w0 N c (VThen (VWp P M0 w0 N x Q') Q) st := by
  intro hB p a w R
  refine wp_mono (h1 hB p a w R) ?_
  rintro e a' w' ⟨st', p', R', rfl, hle⟩
  exact ⟨st', p', R', vle hle h2⟩
end
theorem v76 (l : List Rec) (hl : l.length ≤ 1000000) (hd : Small l) : VC Try.prog 76 [recsA l] (I (checkRecs true l).2) := VC_mk1 (by kernel_rfl) fun w M v1 h1 => by
  obtain ⟨A, cap, rfl, hcap, hS⟩ := recs_inv h1
  exact (c76 l A _ cap w rfl hl hd hS).mono fun e w' ⟨he, hb⟩ => ⟨_, he, hb, .lit _⟩
theorem v64 (l : List Rec) (hl : l.length ≤ 1000000) : VC Try.prog 64 [recsA l, recsA l] (B true) := by
  refine VC_of Try.func64 rfl (by kernel_rfl) (by kernel_rfl) rfl fun M0 w0 => ?_
  simp only [Try.ntmps64, Try.results64, enumA]
  repeat (first | (with_reducible refine vseq ?_) | (with_reducible refine vthenN ?_) | (with_reducible refine vthenE ?_) | (with_reducible refine vthenR ?_) | (with_reducible refine vret ?_) | (with_reducible refine vskip ?_) | (with_reducible refine vexit ?_) | (with_reducible refine vblock ?_) | (with_reducible refine vblockN ?_) | (with_reducible refine vblockR ?_) | (with_reducible refine vblockH ?_) | (with_reducible refine vrun_nil ?_) | (with_reducible refine vblockE rfl ?_) | (with_reducible refine vregion [] ?_) | (with_reducible refine vhrun_nil ?_) | ((with_reducible refine vcondT ?_ ?_); (focus (go_simp; done))) | ((with_reducible refine vcondF ?_ ?_); (focus (go_simp; done))) | ((with_reducible refine vrun_cons fun KK hKK => ?_); go_simp; refine hKK _ ?_; clear hKK KK) | ((with_reducible refine vhrun_cons fun KK hKK => ?_); go_simp; refine hKK _ ?_; clear hKK KK))
  refine vloop (α := Nat) (fun k => ⟨[(5, I k), (0, recsA l), (1, recsA l)], []⟩) (fun k => k ≤ l.length) (fun k => l.length - k) 0 (Nat.zero_le _) (by go_simp) ?_
  rintro k hk K hR
  by_cases hlt : k < l.length
  · have hw := wrap_eq (x := (k : Int) + 1) (by omega) (by omega)
    repeat (first | (with_reducible refine vseq ?_) | (with_reducible refine vthenN ?_) | (with_reducible refine vthenE ?_) | (with_reducible refine vthenR ?_) | (with_reducible refine vret ?_) | (with_reducible refine vskip ?_) | (with_reducible refine vexit ?_) | (with_reducible refine vblock ?_) | (with_reducible refine vblockN ?_) | (with_reducible refine vblockR ?_) | (with_reducible refine vblockH ?_) | (with_reducible refine vrun_nil ?_) | (with_reducible refine vblockE rfl ?_) | (with_reducible refine vregion [] ?_) | (with_reducible refine vhrun_nil ?_) | ((with_reducible refine vcondT ?_ ?_); (focus (go_simp; done))) | ((with_reducible refine vcondF ?_ ?_); (focus (go_simp; done))) | ((with_reducible refine vrun_cons fun KK hKK => ?_); go_simp; refine hKK _ ?_; clear hKK KK) | ((with_reducible refine vhrun_cons fun KK hKK => ?_); go_simp; refine hKK _ ?_; clear hKK KK))
    refine vdraw 9 [] (by kernel_rfl) (by kernel_rfl) ?_
    simp only [List.take, List.drop]
    repeat (first | (with_reducible refine vseq ?_) | (with_reducible refine vthenN ?_) | (with_reducible refine vthenE ?_) | (with_reducible refine vthenR ?_) | (with_reducible refine vret ?_) | (with_reducible refine vskip ?_) | (with_reducible refine vexit ?_) | (with_reducible refine vblock ?_) | (with_reducible refine vblockN ?_) | (with_reducible refine vblockR ?_) | (with_reducible refine vblockH ?_) | (with_reducible refine vrun_nil ?_) | (with_reducible refine vblockE rfl ?_) | (with_reducible refine vregion [] ?_) | (with_reducible refine vhrun_nil ?_) | ((with_reducible refine vcondT ?_ ?_); (focus (go_simp; done))) | ((with_reducible refine vcondF ?_ ?_); (focus (go_simp; done))) | ((with_reducible refine vrun_cons fun KK hKK => ?_); go_simp; refine hKK _ ?_; clear hKK KK) | ((with_reducible refine vhrun_cons fun KK hKK => ?_); go_simp; refine hKK _ ?_; clear hKK KK))
    refine hR _ (k + 1) hlt (by omega) ?_
    go_simp
  · repeat (first | (with_reducible refine vseq ?_) | (with_reducible refine vthenN ?_) | (with_reducible refine vthenE ?_) | (with_reducible refine vthenR ?_) | (with_reducible refine vret ?_) | (with_reducible refine vskip ?_) | (with_reducible refine vexit ?_) | (with_reducible refine vblock ?_) | (with_reducible refine vblockN ?_) | (with_reducible refine vblockR ?_) | (with_reducible refine vblockH ?_) | (with_reducible refine vrun_nil ?_) | (with_reducible refine vblockE rfl ?_) | (with_reducible refine vregion [] ?_) | (with_reducible refine vhrun_nil ?_) | ((with_reducible refine vcondT ?_ ?_); (focus (go_simp; done))) | ((with_reducible refine vcondF ?_ ?_); (focus (go_simp; done))) | ((with_reducible refine vrun_cons fun KK hKK => ?_); go_simp; refine hKK _ ?_; clear hKK KK) | ((with_reducible refine vhrun_cons fun KK hKK => ?_); go_simp; refine hKK _ ?_; clear hKK KK))
    go_simp
theorem v64n : VC Try.prog 64 [.lit (.slice none 0 0), .lit (.slice none 0 0)] (B true) := by
  refine VC_of Try.func64 rfl (by kernel_rfl) (by kernel_rfl) rfl fun M0 w0 => ?_
  simp only [Try.ntmps64, Try.results64, enumA]
  repeat (first | (with_reducible refine vseq ?_) | (with_reducible refine vthenN ?_) | (with_reducible refine vthenE ?_) | (with_reducible refine vthenR ?_) | (with_reducible refine vret ?_) | (with_reducible refine vskip ?_) | (with_reducible refine vexit ?_) | (with_reducible refine vblock ?_) | (with_reducible refine vblockN ?_) | (with_reducible refine vblockR ?_) | (with_reducible refine vblockH ?_) | (with_reducible refine vrun_nil ?_) | (with_reducible refine vblockE rfl ?_) | (with_reducible refine vregion [] ?_) | (with_reducible refine vhrun_nil ?_) | ((with_reducible refine vcondT ?_ ?_); (focus (go_simp; done))) | ((with_reducible refine vcondF ?_ ?_); (focus (go_simp; done))) | ((with_reducible refine vrun_cons fun KK hKK => ?_); go_simp; refine hKK _ ?_; clear hKK KK) | ((with_reducible refine vhrun_cons fun KK hKK => ?_); go_simp; refine hKK _ ?_; clear hKK KK))
  refine vloop (α := Unit) (fun _ => ⟨[(5, I 0), (0, .lit (.slice none 0 0)), (1, .lit (.slice none 0 0))], []⟩) (fun _ => True) (fun _ => 0) () trivial (by go_simp) ?_
  rintro _ _ K hR
  repeat (first | (with_reducible refine vseq ?_) | (with_reducible refine vthenN ?_) | (with_reducible refine vthenE ?_) | (with_reducible refine vthenR ?_) | (with_reducible refine vret ?_) | (with_reducible refine vskip ?_) | (with_reducible refine vexit ?_) | (with_reducible refine vblock ?_) | (with_reducible refine vblockN ?_) | (with_reducible refine vblockR ?_) | (with_reducible refine vblockH ?_) | (with_reducible refine vrun_nil ?_) | (with_reducible refine vblockE rfl ?_) | (with_reducible refine vregion [] ?_) | (with_reducible refine vhrun_nil ?_) | ((with_reducible refine vcondT ?_ ?_); (focus (go_simp; done))) | ((with_reducible refine vcondF ?_ ?_); (focus (go_simp; done))) | ((with_reducible refine vrun_cons fun KK hKK => ?_); go_simp; refine hKK _ ?_; clear hKK KK) | ((with_reducible refine vhrun_cons fun KK hKK => ?_); go_simp; refine hKK _ ?_; clear hKK KK))
  go_simp
/-- The first records of both name two drivers. -/
def twoD (a b : List Rec) : Prop := ∃ (h1 : 0 < a.length) (h2 : 0 < b.length), a[0].driver ≠ b[0].driver
theorem v63two (a b : List Rec) (h : twoD a b) : VC Try.prog 63 [recsA a, recsA b] (.tup [.lit (.slice none 0 0), I 13]) := by
  obtain ⟨h1, h2, h3⟩ := h
  refine VC_of Try.func63 rfl (by kernel_rfl) (by kernel_rfl) rfl fun M0 w0 => ?_
  simp only [Try.ntmps63, Try.results63, enumA]
  repeat (first | (with_reducible refine vseq ?_) | (with_reducible refine vthenN ?_) | (with_reducible refine vthenE ?_) | (with_reducible refine vthenR ?_) | (with_reducible refine vret ?_) | (with_reducible refine vskip ?_) | (with_reducible refine vexit ?_) | (with_reducible refine vblock ?_) | (with_reducible refine vblockN ?_) | (with_reducible refine vblockR ?_) | (with_reducible refine vblockH ?_) | (with_reducible refine vrun_nil ?_) | (with_reducible refine vblockE rfl ?_) | (with_reducible refine vregion [] ?_) | (with_reducible refine vhrun_nil ?_) | ((with_reducible refine vcondT ?_ ?_); (focus (go_simp; done))) | ((with_reducible refine vcondF ?_ ?_); (focus (go_simp; done))) | ((with_reducible refine vrun_cons fun KK hKK => ?_); go_simp; refine hKK _ ?_; clear hKK KK) | ((with_reducible refine vhrun_cons fun KK hKK => ?_); go_simp; refine hKK _ ?_; clear hKK KK))
  refine vdraw 19 [] (by kernel_rfl) (by kernel_rfl) ?_
  simp only [List.take, List.drop]
  repeat (first | (with_reducible refine vseq ?_) | (with_reducible refine vthenN ?_) | (with_reducible refine vthenE ?_) | (with_reducible refine vthenR ?_) | (with_reducible refine vret ?_) | (with_reducible refine vskip ?_) | (with_reducible refine vexit ?_) | (with_reducible refine vblock ?_) | (with_reducible refine vblockN ?_) | (with_reducible refine vblockR ?_) | (with_reducible refine vblockH ?_) | (with_reducible refine vrun_nil ?_) | (with_reducible refine vblockE rfl ?_) | (with_reducible refine vregion [] ?_) | (with_reducible refine vhrun_nil ?_) | ((with_reducible refine vcondT ?_ ?_); (focus (go_simp; done))) | ((with_reducible refine vcondF ?_ ?_); (focus (go_simp; done))) | ((with_reducible refine vrun_cons fun KK hKK => ?_); go_simp; refine hKK _ ?_; clear hKK KK) | ((with_reducible refine vhrun_cons fun KK hKK => ?_); go_simp; refine hKK _ ?_; clear hKK KK))
  go_simp
theorem not_two {a b : List Rec} (h : ¬ twoD a b) : a = [] ∨ (∃ _ : 0 < a.length, b = []) ∨ ∃ (h1 : 0 < a.length) (h2 : 0 < b.length), a[0].driver = b[0].driver := by
  rcases Nat.eq_zero_or_pos a.length with h1 | h1
  · exact .inl (List.length_eq_zero_iff.1 h1)
  · rcases Nat.eq_zero_or_pos b.length with h2 | h2
    · exact .inr (.inl ⟨h1, List.length_eq_zero_iff.1 h2⟩)
    · refine .inr (.inr ⟨h1, h2, ?_⟩)
      by_cases h3 : a[0].driver = b[0].driver
      · exact h3
      · exact absurd ⟨h1, h2, h3⟩ h
theorem v63ovl (a b : List Rec) (hla : a.length ≤ 1000) (hlb : b.length ≤ 1000) (h : ¬ twoD a b) (ho : Ovl a b) : VC Try.prog 63 [recsA a, recsA b] (.tup [.lit (.slice none 0 0), I 26]) := by
  have HT := not_two h
  obtain ⟨x, hx, y, hy, hxy⟩ := ho
  obtain ⟨i0, hi0, rfl⟩ := List.getElem_of_mem hx
  obtain ⟨j0, hj0, rfl⟩ := List.getElem_of_mem hy
  clear hx hy
  have HO := Lib.hid hxy
  clear hxy
  refine VC_of Try.func63 rfl (by kernel_rfl) (by kernel_rfl) rfl fun M0 w0 => ?_
  simp only [Try.ntmps63, Try.results63, enumA]
  repeat (first | (with_reducible refine vseq ?_) | (with_reducible refine vthenN ?_) | (with_reducible refine vthenE ?_) | (with_reducible refine vthenR ?_) | (with_reducible refine vret ?_) | (with_reducible refine vskip ?_) | (with_reducible refine vexit ?_) | (with_reducible refine vblock ?_) | (with_reducible refine vblockN ?_) | (with_reducible refine vblockR ?_) | (with_reducible refine vblockH ?_) | (with_reducible refine vrun_nil ?_) | (with_reducible refine vblockE rfl ?_) | (with_reducible refine vregion [] ?_) | (with_reducible refine vhrun_nil ?_) | ((with_reducible refine vcondT ?_ ?_); (focus (go_simp; done))) | ((with_reducible refine vcondF ?_ ?_); (focus (go_simp; done))) | ((with_reducible refine vrun_cons fun KK hKK => ?_); go_simp; refine hKK _ ?_; clear hKK KK) | ((with_reducible refine vhrun_cons fun KK hKK => ?_); go_simp; refine hKK _ ?_; clear hKK KK))
  refine vcutU ⟨[(29, B false), (0, recsA a), (1, recsA b)], []⟩ ?_ ?_
  · clear HO
    rcases HT with rfl | ⟨h1, rfl⟩ | ⟨h1, h2, h3⟩
    all_goals
      refine vdraw 19 [] (by kernel_rfl) (by kernel_rfl) ?_
      simp only [List.take, List.drop]
      repeat (first | (with_reducible refine vseq ?_) | (with_reducible refine vthenN ?_) | (with_reducible refine vthenE ?_) | (with_reducible refine vthenR ?_) | (with_reducible refine vret ?_) | (with_reducible refine vskip ?_) | (with_reducible refine vexit ?_) | (with_reducible refine vblock ?_) | (with_reducible refine vblockN ?_) | (with_reducible refine vblockR ?_) | (with_reducible refine vblockH ?_) | (with_reducible refine vrun_nil ?_) | (with_reducible refine vblockE rfl ?_) | (with_reducible refine vregion [] ?_) | (with_reducible refine vhrun_nil ?_) | ((with_reducible refine vcondT ?_ ?_); (focus (go_simp; done))) | ((with_reducible refine vcondF ?_ ?_); (focus (go_simp; done))) | ((with_reducible refine vrun_cons fun KK hKK => ?_); go_simp; refine hKK _ ?_; clear hKK KK) | ((with_reducible refine vhrun_cons fun KK hKK => ?_); go_simp; refine hKK _ ?_; clear hKK KK))
      go_simp
  · clear HT h
    repeat (first | (with_reducible refine vseq ?_) | (with_reducible refine vthenN ?_) | (with_reducible refine vthenE ?_) | (with_reducible refine vthenR ?_) | (with_reducible refine vret ?_) | (with_reducible refine vskip ?_) | (with_reducible refine vexit ?_) | (with_reducible refine vblock ?_) | (with_reducible refine vblockN ?_) | (with_reducible refine vblockR ?_) | (with_reducible refine vblockH ?_) | (with_reducible refine vrun_nil ?_) | (with_reducible refine vblockE rfl ?_) | (with_reducible refine vregion [] ?_) | (with_reducible refine vhrun_nil ?_) | ((with_reducible refine vcondT ?_ ?_); (focus (go_simp; done))) | ((with_reducible refine vcondF ?_ ?_); (focus (go_simp; done))) | ((with_reducible refine vrun_cons fun KK hKK => ?_); go_simp; refine hKK _ ?_; clear hKK KK) | ((with_reducible refine vhrun_cons fun KK hKK => ?_); go_simp; refine hKK _ ?_; clear hKK KK))
    refine vloop (α := Nat) (fun k => ⟨[(6, I k), (0, recsA a), (1, recsA b)], []⟩) (fun k => k ≤ i0) (fun k => a.length - k) 0 (Nat.zero_le _) (by go_simp) ?_
    rintro k hk K hR
    have hlt : k < a.length := by omega
    have hw := wrap_eq (x := (k : Int) + 1) (by omega) (by omega)
    repeat (first | (with_reducible refine vseq ?_) | (with_reducible refine vthenN ?_) | (with_reducible refine vthenE ?_) | (with_reducible refine vthenR ?_) | (with_reducible refine vret ?_) | (with_reducible refine vskip ?_) | (with_reducible refine vexit ?_) | (with_reducible refine vblock ?_) | (with_reducible refine vblockN ?_) | (with_reducible refine vblockR ?_) | (with_reducible refine vblockH ?_) | (with_reducible refine vrun_nil ?_) | (with_reducible refine vblockE rfl ?_) | (with_reducible refine vregion [] ?_) | (with_reducible refine vhrun_nil ?_) | ((with_reducible refine vcondT ?_ ?_); (focus (go_simp; done))) | ((with_reducible refine vcondF ?_ ?_); (focus (go_simp; done))) | ((with_reducible refine vrun_cons fun KK hKK => ?_); go_simp; refine hKK _ ?_; clear hKK KK) | ((with_reducible refine vhrun_cons fun KK hKK => ?_); go_simp; refine hKK _ ?_; clear hKK KK))
    refine vloop (α := Nat) (fun j => ⟨[(7, I j), (6, I k), (0, recsA a), (1, recsA b)], []⟩) (fun j => j ≤ b.length ∧ (k = i0 → j ≤ j0)) (fun j => b.length - j) 0 ⟨Nat.zero_le _, fun _ => Nat.zero_le _⟩ (by go_simp) ?_
    rintro j ⟨hj, hj2⟩ K2 hR2
    have HJ := Lib.hid hj2
    clear hj2
    by_cases hlt2 : j < b.length
    · have hw2 := wrap_eq (x := (j : Int) + 1) (by omega) (by omega)
      by_cases c1 : a[k].lo < b[j].hi
      · by_cases c2 : b[j].lo < a[k].hi
        · repeat (first | (with_reducible refine vseq ?_) | (with_reducible refine vthenN ?_) | (with_reducible refine vthenE ?_) | (with_reducible refine vthenR ?_) | (with_reducible refine vret ?_) | (with_reducible refine vskip ?_) | (with_reducible refine vexit ?_) | (with_reducible refine vblock ?_) | (with_reducible refine vblockN ?_) | (with_reducible refine vblockR ?_) | (with_reducible refine vblockH ?_) | (with_reducible refine vrun_nil ?_) | (with_reducible refine vblockE rfl ?_) | (with_reducible refine vregion [] ?_) | (with_reducible refine vhrun_nil ?_) | ((with_reducible refine vcondT ?_ ?_); (focus (go_simp; done))) | ((with_reducible refine vcondF ?_ ?_); (focus (go_simp; done))) | ((with_reducible refine vrun_cons fun KK hKK => ?_); go_simp; refine hKK _ ?_; clear hKK KK) | ((with_reducible refine vhrun_cons fun KK hKK => ?_); go_simp; refine hKK _ ?_; clear hKK KK))
          refine vdraw 24 [] (by kernel_rfl) (by kernel_rfl) ?_
          simp only [List.take, List.drop]
          repeat (first | (with_reducible refine vseq ?_) | (with_reducible refine vthenN ?_) | (with_reducible refine vthenE ?_) | (with_reducible refine vthenR ?_) | (with_reducible refine vret ?_) | (with_reducible refine vskip ?_) | (with_reducible refine vexit ?_) | (with_reducible refine vblock ?_) | (with_reducible refine vblockN ?_) | (with_reducible refine vblockR ?_) | (with_reducible refine vblockH ?_) | (with_reducible refine vrun_nil ?_) | (with_reducible refine vblockE rfl ?_) | (with_reducible refine vregion [] ?_) | (with_reducible refine vhrun_nil ?_) | ((with_reducible refine vcondT ?_ ?_); (focus (go_simp; done))) | ((with_reducible refine vcondF ?_ ?_); (focus (go_simp; done))) | ((with_reducible refine vrun_cons fun KK hKK => ?_); go_simp; refine hKK _ ?_; clear hKK KK) | ((with_reducible refine vhrun_cons fun KK hKK => ?_); go_simp; refine hKK _ ?_; clear hKK KK))
          go_simp
        · repeat (first | (with_reducible refine vseq ?_) | (with_reducible refine vthenN ?_) | (with_reducible refine vthenE ?_) | (with_reducible refine vthenR ?_) | (with_reducible refine vret ?_) | (with_reducible refine vskip ?_) | (with_reducible refine vexit ?_) | (with_reducible refine vblock ?_) | (with_reducible refine vblockN ?_) | (with_reducible refine vblockR ?_) | (with_reducible refine vblockH ?_) | (with_reducible refine vrun_nil ?_) | (with_reducible refine vblockE rfl ?_) | (with_reducible refine vregion [] ?_) | (with_reducible refine vhrun_nil ?_) | ((with_reducible refine vcondT ?_ ?_); (focus (go_simp; done))) | ((with_reducible refine vcondF ?_ ?_); (focus (go_simp; done))) | ((with_reducible refine vrun_cons fun KK hKK => ?_); go_simp; refine hKK _ ?_; clear hKK KK) | ((with_reducible refine vhrun_cons fun KK hKK => ?_); go_simp; refine hKK _ ?_; clear hKK KK))
          refine vdraw 24 [] (by kernel_rfl) (by kernel_rfl) ?_
          simp only [List.take, List.drop]
          repeat (first | (with_reducible refine vseq ?_) | (with_reducible refine vthenN ?_) | (with_reducible refine vthenE ?_) | (with_reducible refine vthenR ?_) | (with_reducible refine vret ?_) | (with_reducible refine vskip ?_) | (with_reducible refine vexit ?_) | (with_reducible refine vblock ?_) | (with_reducible refine vblockN ?_) | (with_reducible refine vblockR ?_) | (with_reducible refine vblockH ?_) | (with_reducible refine vrun_nil ?_) | (with_reducible refine vblockE rfl ?_) | (with_reducible refine vregion [] ?_) | (with_reducible refine vhrun_nil ?_) | ((with_reducible refine vcondT ?_ ?_); (focus (go_simp; done))) | ((with_reducible refine vcondF ?_ ?_); (focus (go_simp; done))) | ((with_reducible refine vrun_cons fun KK hKK => ?_); go_simp; refine hKK _ ?_; clear hKK KK) | ((with_reducible refine vhrun_cons fun KK hKK => ?_); go_simp; refine hKK _ ?_; clear hKK KK))
          refine hR2 _ (j + 1) ⟨hlt2, fun he => ?_⟩ (by omega) ?_
          · have := HJ.out he
            by_cases hjj : j = j0
            · subst he
              subst hjj
              have := HO.out
              simp [ov, c2] at this
            · omega
          · go_simp
      · repeat (first | (with_reducible refine vseq ?_) | (with_reducible refine vthenN ?_) | (with_reducible refine vthenE ?_) | (with_reducible refine vthenR ?_) | (with_reducible refine vret ?_) | (with_reducible refine vskip ?_) | (with_reducible refine vexit ?_) | (with_reducible refine vblock ?_) | (with_reducible refine vblockN ?_) | (with_reducible refine vblockR ?_) | (with_reducible refine vblockH ?_) | (with_reducible refine vrun_nil ?_) | (with_reducible refine vblockE rfl ?_) | (with_reducible refine vregion [] ?_) | (with_reducible refine vhrun_nil ?_) | ((with_reducible refine vcondT ?_ ?_); (focus (go_simp; done))) | ((with_reducible refine vcondF ?_ ?_); (focus (go_simp; done))) | ((with_reducible refine vrun_cons fun KK hKK => ?_); go_simp; refine hKK _ ?_; clear hKK KK) | ((with_reducible refine vhrun_cons fun KK hKK => ?_); go_simp; refine hKK _ ?_; clear hKK KK))
        refine vdraw 24 [] (by kernel_rfl) (by kernel_rfl) ?_
        simp only [List.take, List.drop]
        repeat (first | (with_reducible refine vseq ?_) | (with_reducible refine vthenN ?_) | (with_reducible refine vthenE ?_) | (with_reducible refine vthenR ?_) | (with_reducible refine vret ?_) | (with_reducible refine vskip ?_) | (with_reducible refine vexit ?_) | (with_reducible refine vblock ?_) | (with_reducible refine vblockN ?_) | (with_reducible refine vblockR ?_) | (with_reducible refine vblockH ?_) | (with_reducible refine vrun_nil ?_) | (with_reducible refine vblockE rfl ?_) | (with_reducible refine vregion [] ?_) | (with_reducible refine vhrun_nil ?_) | ((with_reducible refine vcondT ?_ ?_); (focus (go_simp; done))) | ((with_reducible refine vcondF ?_ ?_); (focus (go_simp; done))) | ((with_reducible refine vrun_cons fun KK hKK => ?_); go_simp; refine hKK _ ?_; clear hKK KK) | ((with_reducible refine vhrun_cons fun KK hKK => ?_); go_simp; refine hKK _ ?_; clear hKK KK))
        refine hR2 _ (j + 1) ⟨hlt2, fun he => ?_⟩ (by omega) ?_
        · have := HJ.out he
          by_cases hjj : j = j0
          · subst he
            subst hjj
            have := HO.out
            simp [ov, c1] at this
          · omega
        · go_simp
    · repeat (first | (with_reducible refine vseq ?_) | (with_reducible refine vthenN ?_) | (with_reducible refine vthenE ?_) | (with_reducible refine vthenR ?_) | (with_reducible refine vret ?_) | (with_reducible refine vskip ?_) | (with_reducible refine vexit ?_) | (with_reducible refine vblock ?_) | (with_reducible refine vblockN ?_) | (with_reducible refine vblockR ?_) | (with_reducible refine vblockH ?_) | (with_reducible refine vrun_nil ?_) | (with_reducible refine vblockE rfl ?_) | (with_reducible refine vregion [] ?_) | (with_reducible refine vhrun_nil ?_) | ((with_reducible refine vcondT ?_ ?_); (focus (go_simp; done))) | ((with_reducible refine vcondF ?_ ?_); (focus (go_simp; done))) | ((with_reducible refine vrun_cons fun KK hKK => ?_); go_simp; refine hKK _ ?_; clear hKK KK) | ((with_reducible refine vhrun_cons fun KK hKK => ?_); go_simp; refine hKK _ ?_; clear hKK KK))
      refine hR _ (k + 1) ?_ (by omega) ?_
      · have := HJ.out
        omega
      · go_simp
theorem mg_a {a b : List Rec} {x y : Nat} (hx : x < a.length) (hy : y < b.length) (h : a[x].lo < b[y].lo) : mergeL (a.drop x) (b.drop y) = a[x] :: mergeL (a.drop (x + 1)) (b.drop y) := by
  rw [List.drop_eq_getElem_cons hx, List.drop_eq_getElem_cons hy, mergeL, if_pos h]
theorem mg_b {a b : List Rec} {x y : Nat} (hx : x < a.length) (hy : y < b.length) (h : ¬ a[x].lo < b[y].lo) : mergeL (a.drop x) (b.drop y) = b[y] :: mergeL (a.drop x) (b.drop (y + 1)) := by
  rw [List.drop_eq_getElem_cons hx, List.drop_eq_getElem_cons hy, mergeL, if_neg h]
theorem mg_ae {a b : List Rec} {x : Nat} (hx : x < a.length) : mergeL (a.drop x) (b.drop b.length) = a[x] :: mergeL (a.drop (x + 1)) (b.drop b.length) := by
  rw [List.drop_length, mergeL_nil, mergeL_nil, List.drop_eq_getElem_cons hx]
theorem mg_be {a b : List Rec} {y : Nat} (hy : y < b.length) : mergeL (a.drop a.length) (b.drop y) = b[y] :: mergeL (a.drop a.length) (b.drop (y + 1)) := by
  rw [List.drop_length, mergeL, mergeL, List.drop_eq_getElem_cons hy]
set_option maxHeartbeats 4000000 in
theorem v63pre (a b : List Rec) (hla : a.length ≤ 1000) (hlb : b.length ≤ 1000) (h : ¬ twoD a b) (ho : ¬ Ovl a b) : VC Try.prog 63 [recsA a, recsA b] (if 40 < a.length + b.length then .tup [.lit (.slice none 0 0), I 8] else .tup [recsA (mergeL a b), I 0]) := by
  have HT := not_two h
  have HO := Lib.hid ho
  clear ho
  have hw0 := wrap_eq (x := (a.length : Int) + b.length) (by omega) (by omega)
  refine VC_of Try.func63 rfl (by kernel_rfl) (by kernel_rfl) rfl fun M0 w0 => ?_
  simp only [Try.ntmps63, Try.results63, enumA]
  repeat (first | (with_reducible refine vseq ?_) | (with_reducible refine vthenN ?_) | (with_reducible refine vthenE ?_) | (with_reducible refine vthenR ?_) | (with_reducible refine vret ?_) | (with_reducible refine vskip ?_) | (with_reducible refine vexit ?_) | (with_reducible refine vblock ?_) | (with_reducible refine vblockN ?_) | (with_reducible refine vblockR ?_) | (with_reducible refine vblockH ?_) | (with_reducible refine vrun_nil ?_) | (with_reducible refine vblockE rfl ?_) | (with_reducible refine vregion [] ?_) | (with_reducible refine vhrun_nil ?_) | ((with_reducible refine vcondT ?_ ?_); (focus (go_simp; done))) | ((with_reducible refine vcondF ?_ ?_); (focus (go_simp; done))) | ((with_reducible refine vrun_cons fun KK hKK => ?_); go_simp; refine hKK _ ?_; clear hKK KK) | ((with_reducible refine vhrun_cons fun KK hKK => ?_); go_simp; refine hKK _ ?_; clear hKK KK))
  refine vcutU ⟨[(29, B false), (0, recsA a), (1, recsA b)], []⟩ ?_ ?_
  · clear HO
    rcases HT with rfl | ⟨h1, rfl⟩ | ⟨h1, h2, h3⟩
    all_goals
      refine vdraw 19 [] (by kernel_rfl) (by kernel_rfl) ?_
      simp only [List.take, List.drop]
      repeat (first | (with_reducible refine vseq ?_) | (with_reducible refine vthenN ?_) | (with_reducible refine vthenE ?_) | (with_reducible refine vthenR ?_) | (with_reducible refine vret ?_) | (with_reducible refine vskip ?_) | (with_reducible refine vexit ?_) | (with_reducible refine vblock ?_) | (with_reducible refine vblockN ?_) | (with_reducible refine vblockR ?_) | (with_reducible refine vblockH ?_) | (with_reducible refine vrun_nil ?_) | (with_reducible refine vblockE rfl ?_) | (with_reducible refine vregion [] ?_) | (with_reducible refine vhrun_nil ?_) | ((with_reducible refine vcondT ?_ ?_); (focus (go_simp; done))) | ((with_reducible refine vcondF ?_ ?_); (focus (go_simp; done))) | ((with_reducible refine vrun_cons fun KK hKK => ?_); go_simp; refine hKK _ ?_; clear hKK KK) | ((with_reducible refine vhrun_cons fun KK hKK => ?_); go_simp; refine hKK _ ?_; clear hKK KK))
      go_simp
  · clear HT h
    repeat (first | (with_reducible refine vseq ?_) | (with_reducible refine vthenN ?_) | (with_reducible refine vthenE ?_) | (with_reducible refine vthenR ?_) | (with_reducible refine vret ?_) | (with_reducible refine vskip ?_) | (with_reducible refine vexit ?_) | (with_reducible refine vblock ?_) | (with_reducible refine vblockN ?_) | (with_reducible refine vblockR ?_) | (with_reducible refine vblockH ?_) | (with_reducible refine vrun_nil ?_) | (with_reducible refine vblockE rfl ?_) | (with_reducible refine vregion [] ?_) | (with_reducible refine vhrun_nil ?_) | ((with_reducible refine vcondT ?_ ?_); (focus (go_simp; done))) | ((with_reducible refine vcondF ?_ ?_); (focus (go_simp; done))) | ((with_reducible refine vrun_cons fun KK hKK => ?_); go_simp; refine hKK _ ?_; clear hKK KK) | ((with_reducible refine vhrun_cons fun KK hKK => ?_); go_simp; refine hKK _ ?_; clear hKK KK))
    refine vloop (α := Nat) (fun k => ⟨[(6, I k), (0, recsA a), (1, recsA b)], []⟩) (fun k => k ≤ a.length) (fun k => a.length - k) 0 (Nat.zero_le _) (by go_simp) ?_
    rintro k hk K hR
    by_cases hlt : k < a.length
    · have hw := wrap_eq (x := (k : Int) + 1) (by omega) (by omega)
      repeat (first | (with_reducible refine vseq ?_) | (with_reducible refine vthenN ?_) | (with_reducible refine vthenE ?_) | (with_reducible refine vthenR ?_) | (with_reducible refine vret ?_) | (with_reducible refine vskip ?_) | (with_reducible refine vexit ?_) | (with_reducible refine vblock ?_) | (with_reducible refine vblockN ?_) | (with_reducible refine vblockR ?_) | (with_reducible refine vblockH ?_) | (with_reducible refine vrun_nil ?_) | (with_reducible refine vblockE rfl ?_) | (with_reducible refine vregion [] ?_) | (with_reducible refine vhrun_nil ?_) | ((with_reducible refine vcondT ?_ ?_); (focus (go_simp; done))) | ((with_reducible refine vcondF ?_ ?_); (focus (go_simp; done))) | ((with_reducible refine vrun_cons fun KK hKK => ?_); go_simp; refine hKK _ ?_; clear hKK KK) | ((with_reducible refine vhrun_cons fun KK hKK => ?_); go_simp; refine hKK _ ?_; clear hKK KK))
      refine vloop (α := Nat) (fun j => ⟨[(7, I j), (6, I k), (0, recsA a), (1, recsA b)], []⟩) (fun j => j ≤ b.length) (fun j => b.length - j) 0 (Nat.zero_le _) (by go_simp) ?_
      rintro j hj K2 hR2
      by_cases hlt2 : j < b.length
      · have hw2 := wrap_eq (x := (j : Int) + 1) (by omega) (by omega)
        have hdis := not_ovl HO.out (List.getElem_mem hlt) (List.getElem_mem hlt2)
        by_cases c1 : a[k].lo < b[j].hi
        · have c2 : ¬ b[j].lo < a[k].hi := by unfold Dis at hdis; omega
          clear hdis
          repeat (first | (with_reducible refine vseq ?_) | (with_reducible refine vthenN ?_) | (with_reducible refine vthenE ?_) | (with_reducible refine vthenR ?_) | (with_reducible refine vret ?_) | (with_reducible refine vskip ?_) | (with_reducible refine vexit ?_) | (with_reducible refine vblock ?_) | (with_reducible refine vblockN ?_) | (with_reducible refine vblockR ?_) | (with_reducible refine vblockH ?_) | (with_reducible refine vrun_nil ?_) | (with_reducible refine vblockE rfl ?_) | (with_reducible refine vregion [] ?_) | (with_reducible refine vhrun_nil ?_) | ((with_reducible refine vcondT ?_ ?_); (focus (go_simp; done))) | ((with_reducible refine vcondF ?_ ?_); (focus (go_simp; done))) | ((with_reducible refine vrun_cons fun KK hKK => ?_); go_simp; refine hKK _ ?_; clear hKK KK) | ((with_reducible refine vhrun_cons fun KK hKK => ?_); go_simp; refine hKK _ ?_; clear hKK KK))
          refine vdraw 24 [] (by kernel_rfl) (by kernel_rfl) ?_
          simp only [List.take, List.drop]
          repeat (first | (with_reducible refine vseq ?_) | (with_reducible refine vthenN ?_) | (with_reducible refine vthenE ?_) | (with_reducible refine vthenR ?_) | (with_reducible refine vret ?_) | (with_reducible refine vskip ?_) | (with_reducible refine vexit ?_) | (with_reducible refine vblock ?_) | (with_reducible refine vblockN ?_) | (with_reducible refine vblockR ?_) | (with_reducible refine vblockH ?_) | (with_reducible refine vrun_nil ?_) | (with_reducible refine vblockE rfl ?_) | (with_reducible refine vregion [] ?_) | (with_reducible refine vhrun_nil ?_) | ((with_reducible refine vcondT ?_ ?_); (focus (go_simp; done))) | ((with_reducible refine vcondF ?_ ?_); (focus (go_simp; done))) | ((with_reducible refine vrun_cons fun KK hKK => ?_); go_simp; refine hKK _ ?_; clear hKK KK) | ((with_reducible refine vhrun_cons fun KK hKK => ?_); go_simp; refine hKK _ ?_; clear hKK KK))
          refine hR2 _ (j + 1) hlt2 (by omega) ?_
          go_simp
        · clear hdis
          repeat (first | (with_reducible refine vseq ?_) | (with_reducible refine vthenN ?_) | (with_reducible refine vthenE ?_) | (with_reducible refine vthenR ?_) | (with_reducible refine vret ?_) | (with_reducible refine vskip ?_) | (with_reducible refine vexit ?_) | (with_reducible refine vblock ?_) | (with_reducible refine vblockN ?_) | (with_reducible refine vblockR ?_) | (with_reducible refine vblockH ?_) | (with_reducible refine vrun_nil ?_) | (with_reducible refine vblockE rfl ?_) | (with_reducible refine vregion [] ?_) | (with_reducible refine vhrun_nil ?_) | ((with_reducible refine vcondT ?_ ?_); (focus (go_simp; done))) | ((with_reducible refine vcondF ?_ ?_); (focus (go_simp; done))) | ((with_reducible refine vrun_cons fun KK hKK => ?_); go_simp; refine hKK _ ?_; clear hKK KK) | ((with_reducible refine vhrun_cons fun KK hKK => ?_); go_simp; refine hKK _ ?_; clear hKK KK))
          refine vdraw 24 [] (by kernel_rfl) (by kernel_rfl) ?_
          simp only [List.take, List.drop]
          repeat (first | (with_reducible refine vseq ?_) | (with_reducible refine vthenN ?_) | (with_reducible refine vthenE ?_) | (with_reducible refine vthenR ?_) | (with_reducible refine vret ?_) | (with_reducible refine vskip ?_) | (with_reducible refine vexit ?_) | (with_reducible refine vblock ?_) | (with_reducible refine vblockN ?_) | (with_reducible refine vblockR ?_) | (with_reducible refine vblockH ?_) | (with_reducible refine vrun_nil ?_) | (with_reducible refine vblockE rfl ?_) | (with_reducible refine vregion [] ?_) | (with_reducible refine vhrun_nil ?_) | ((with_reducible refine vcondT ?_ ?_); (focus (go_simp; done))) | ((with_reducible refine vcondF ?_ ?_); (focus (go_simp; done))) | ((with_reducible refine vrun_cons fun KK hKK => ?_); go_simp; refine hKK _ ?_; clear hKK KK) | ((with_reducible refine vhrun_cons fun KK hKK => ?_); go_simp; refine hKK _ ?_; clear hKK KK))
          refine hR2 _ (j + 1) hlt2 (by omega) ?_
          go_simp
      · repeat (first | (with_reducible refine vseq ?_) | (with_reducible refine vthenN ?_) | (with_reducible refine vthenE ?_) | (with_reducible refine vthenR ?_) | (with_reducible refine vret ?_) | (with_reducible refine vskip ?_) | (with_reducible refine vexit ?_) | (with_reducible refine vblock ?_) | (with_reducible refine vblockN ?_) | (with_reducible refine vblockR ?_) | (with_reducible refine vblockH ?_) | (with_reducible refine vrun_nil ?_) | (with_reducible refine vblockE rfl ?_) | (with_reducible refine vregion [] ?_) | (with_reducible refine vhrun_nil ?_) | ((with_reducible refine vcondT ?_ ?_); (focus (go_simp; done))) | ((with_reducible refine vcondF ?_ ?_); (focus (go_simp; done))) | ((with_reducible refine vrun_cons fun KK hKK => ?_); go_simp; refine hKK _ ?_; clear hKK KK) | ((with_reducible refine vhrun_cons fun KK hKK => ?_); go_simp; refine hKK _ ?_; clear hKK KK))
        refine hR _ (k + 1) hlt (by omega) ?_
        go_simp
    · by_cases h40 : 40 < a.length + b.length
      · have h40' : (40 : Int) < (a.length : Int) + b.length := by omega
        rw [if_pos h40]
        repeat (first | (with_reducible refine vseq ?_) | (with_reducible refine vthenN ?_) | (with_reducible refine vthenE ?_) | (with_reducible refine vthenR ?_) | (with_reducible refine vret ?_) | (with_reducible refine vskip ?_) | (with_reducible refine vexit ?_) | (with_reducible refine vblock ?_) | (with_reducible refine vblockN ?_) | (with_reducible refine vblockR ?_) | (with_reducible refine vblockH ?_) | (with_reducible refine vrun_nil ?_) | (with_reducible refine vblockE rfl ?_) | (with_reducible refine vregion [] ?_) | (with_reducible refine vhrun_nil ?_) | ((with_reducible refine vcondT ?_ ?_); (focus (go_simp; done))) | ((with_reducible refine vcondF ?_ ?_); (focus (go_simp; done))) | ((with_reducible refine vrun_cons fun KK hKK => ?_); go_simp; refine hKK _ ?_; clear hKK KK) | ((with_reducible refine vhrun_cons fun KK hKK => ?_); go_simp; refine hKK _ ?_; clear hKK KK))
        go_simp
      · have h40' : ¬ (40 : Int) < (a.length : Int) + b.length := by omega
        rw [if_neg h40]
        repeat (first | (with_reducible refine vseq ?_) | (with_reducible refine vthenN ?_) | (with_reducible refine vthenE ?_) | (with_reducible refine vthenR ?_) | (with_reducible refine vret ?_) | (with_reducible refine vskip ?_) | (with_reducible refine vexit ?_) | (with_reducible refine vblock ?_) | (with_reducible refine vblockN ?_) | (with_reducible refine vblockR ?_) | (with_reducible refine vblockH ?_) | (with_reducible refine vrun_nil ?_) | (with_reducible refine vblockE rfl ?_) | (with_reducible refine vregion [8] ?_) | (with_reducible refine vhrun_nil ?_) | ((with_reducible refine vcondT ?_ ?_); (focus (go_simp; done))) | ((with_reducible refine vcondF ?_ ?_); (focus (go_simp; done))) | ((with_reducible refine vrun_cons fun KK hKK => ?_); go_simp; refine hKK _ ?_; clear hKK KK) | ((with_reducible refine vhrun_cons fun KK hKK => ?_); go_simp; refine hKK _ ?_; clear hKK KK))
        refine vloop (α := Nat × Nat × List Rec) (fun q => ⟨[(8, .osl 0), (9, I q.1), (10, I q.2.1), (0, recsA a), (1, recsA b)], [some (.arr 57 3 (decide (q.2.2 = [])) (q.2.2.map Rec.av))]⟩) (fun q => q.1 ≤ a.length ∧ q.2.1 ≤ b.length ∧ q.2.2 ++ mergeL (a.drop q.1) (b.drop q.2.1) = mergeL a b ∧ q.2.2.length = q.1 + q.2.1) (fun q => (a.length - q.1) + (b.length - q.2.1)) (0, 0, []) ⟨Nat.zero_le _, Nat.zero_le _, by simp, rfl⟩ (by go_simp) ?_
        clear hR hlt hk k K
        rintro ⟨x, y, M⟩ ⟨hx, hy, hM, hml⟩ K hR
        simp only at hx hy hM hml hR ⊢
        have HM := Lib.hid hM
        clear hM h40'
        have hb1 : M.length + 1 ≤ 1000000000 := by omega
        have HL := Lib.hid hml
        clear hml
        have hwx := wrap_eq (x := (x : Int) + 1) (by omega) (by omega)
        have hwy := wrap_eq (x := (y : Int) + 1) (by omega) (by omega)
        by_cases hlx : x < a.length
        · by_cases hly : y < b.length
          · have hne : ¬ ((y : Int) = b.length) := by omega
            by_cases hc : a[x].lo < b[y].lo
            · rcases Classical.em (M = []) with rfl | hMe
              · repeat (first | (with_reducible refine vseq ?_) | (with_reducible refine vthenN ?_) | (with_reducible refine vthenE ?_) | (with_reducible refine vthenR ?_) | (with_reducible refine vret ?_) | (with_reducible refine vskip ?_) | (with_reducible refine vexit ?_) | (with_reducible refine vblock ?_) | (with_reducible refine vblockN ?_) | (with_reducible refine vblockR ?_) | (with_reducible refine vblockH ?_) | (with_reducible refine vrun_nil ?_) | (with_reducible refine vblockE rfl ?_) | (with_reducible refine vregion [] ?_) | (with_reducible refine vhrun_nil ?_) | ((with_reducible refine vcondT ?_ ?_); (focus (go_simp; done))) | ((with_reducible refine vcondF ?_ ?_); (focus (go_simp; done))) | ((with_reducible refine vrun_cons fun KK hKK => ?_); go_simp; refine hKK _ ?_; clear hKK KK) | ((with_reducible refine vhrun_cons fun KK hKK => ?_); go_simp; refine hKK _ ?_; clear hKK KK))
                refine vdraw 23 [] (by kernel_rfl) (by kernel_rfl) ?_
                simp only [List.take, List.drop]
                repeat (first | (with_reducible refine vseq ?_) | (with_reducible refine vthenN ?_) | (with_reducible refine vthenE ?_) | (with_reducible refine vthenR ?_) | (with_reducible refine vret ?_) | (with_reducible refine vskip ?_) | (with_reducible refine vexit ?_) | (with_reducible refine vblock ?_) | (with_reducible refine vblockN ?_) | (with_reducible refine vblockR ?_) | (with_reducible refine vblockH ?_) | (with_reducible refine vrun_nil ?_) | (with_reducible refine vblockE rfl ?_) | (with_reducible refine vregion [] ?_) | (with_reducible refine vhrun_nil ?_) | ((with_reducible refine vcondT ?_ ?_); (focus (go_simp; done))) | ((with_reducible refine vcondF ?_ ?_); (focus (go_simp; done))) | ((with_reducible refine vrun_cons fun KK hKK => ?_); go_simp; refine hKK _ ?_; clear hKK KK) | ((with_reducible refine vhrun_cons fun KK hKK => ?_); go_simp; refine hKK _ ?_; clear hKK KK))
                refine hR _ (x + 1, y, [a[x]]) ⟨by dsimp only; omega, by dsimp only; omega, ?_, by have hml := HL.out; simp at hml ⊢; omega⟩ (by dsimp only; omega) ?_
                · have e := HM.out
                  rw [mg_a hlx hly hc] at e
                  exact e
                  
                · go_simp
              · repeat (first | (with_reducible refine vseq ?_) | (with_reducible refine vthenN ?_) | (with_reducible refine vthenE ?_) | (with_reducible refine vthenR ?_) | (with_reducible refine vret ?_) | (with_reducible refine vskip ?_) | (with_reducible refine vexit ?_) | (with_reducible refine vblock ?_) | (with_reducible refine vblockN ?_) | (with_reducible refine vblockR ?_) | (with_reducible refine vblockH ?_) | (with_reducible refine vrun_nil ?_) | (with_reducible refine vblockE rfl ?_) | (with_reducible refine vregion [] ?_) | (with_reducible refine vhrun_nil ?_) | ((with_reducible refine vcondT ?_ ?_); (focus (go_simp; done))) | ((with_reducible refine vcondF ?_ ?_); (focus (go_simp; done))) | ((with_reducible refine vrun_cons fun KK hKK => ?_); go_simp; refine hKK _ ?_; clear hKK KK) | ((with_reducible refine vhrun_cons fun KK hKK => ?_); go_simp; refine hKK _ ?_; clear hKK KK))
                refine vdraw 23 [] (by kernel_rfl) (by kernel_rfl) ?_
                simp only [List.take, List.drop]
                repeat (first | (with_reducible refine vseq ?_) | (with_reducible refine vthenN ?_) | (with_reducible refine vthenE ?_) | (with_reducible refine vthenR ?_) | (with_reducible refine vret ?_) | (with_reducible refine vskip ?_) | (with_reducible refine vexit ?_) | (with_reducible refine vblock ?_) | (with_reducible refine vblockN ?_) | (with_reducible refine vblockR ?_) | (with_reducible refine vblockH ?_) | (with_reducible refine vrun_nil ?_) | (with_reducible refine vblockE rfl ?_) | (with_reducible refine vregion [] ?_) | (with_reducible refine vhrun_nil ?_) | ((with_reducible refine vcondT ?_ ?_); (focus (go_simp; done))) | ((with_reducible refine vcondF ?_ ?_); (focus (go_simp; done))) | ((with_reducible refine vrun_cons fun KK hKK => ?_); go_simp; refine hKK _ ?_; clear hKK KK) | ((with_reducible refine vhrun_cons fun KK hKK => ?_); go_simp; refine hKK _ ?_; clear hKK KK))
                refine hR _ (x + 1, y, M ++ [a[x]]) ⟨by dsimp only; omega, by dsimp only; omega, ?_, by have hml := HL.out; simp at hml ⊢; omega⟩ (by dsimp only; omega) ?_
                · have e := HM.out
                  rw [mg_a hlx hly hc] at e
                  rw [List.append_assoc]
                  exact e
                · go_simp
            · rcases Classical.em (M = []) with rfl | hMe
              · repeat (first | (with_reducible refine vseq ?_) | (with_reducible refine vthenN ?_) | (with_reducible refine vthenE ?_) | (with_reducible refine vthenR ?_) | (with_reducible refine vret ?_) | (with_reducible refine vskip ?_) | (with_reducible refine vexit ?_) | (with_reducible refine vblock ?_) | (with_reducible refine vblockN ?_) | (with_reducible refine vblockR ?_) | (with_reducible refine vblockH ?_) | (with_reducible refine vrun_nil ?_) | (with_reducible refine vblockE rfl ?_) | (with_reducible refine vregion [] ?_) | (with_reducible refine vhrun_nil ?_) | ((with_reducible refine vcondT ?_ ?_); (focus (go_simp; done))) | ((with_reducible refine vcondF ?_ ?_); (focus (go_simp; done))) | ((with_reducible refine vrun_cons fun KK hKK => ?_); go_simp; refine hKK _ ?_; clear hKK KK) | ((with_reducible refine vhrun_cons fun KK hKK => ?_); go_simp; refine hKK _ ?_; clear hKK KK))
                refine vdraw 23 [] (by kernel_rfl) (by kernel_rfl) ?_
                simp only [List.take, List.drop]
                repeat (first | (with_reducible refine vseq ?_) | (with_reducible refine vthenN ?_) | (with_reducible refine vthenE ?_) | (with_reducible refine vthenR ?_) | (with_reducible refine vret ?_) | (with_reducible refine vskip ?_) | (with_reducible refine vexit ?_) | (with_reducible refine vblock ?_) | (with_reducible refine vblockN ?_) | (with_reducible refine vblockR ?_) | (with_reducible refine vblockH ?_) | (with_reducible refine vrun_nil ?_) | (with_reducible refine vblockE rfl ?_) | (with_reducible refine vregion [] ?_) | (with_reducible refine vhrun_nil ?_) | ((with_reducible refine vcondT ?_ ?_); (focus (go_simp; done))) | ((with_reducible refine vcondF ?_ ?_); (focus (go_simp; done))) | ((with_reducible refine vrun_cons fun KK hKK => ?_); go_simp; refine hKK _ ?_; clear hKK KK) | ((with_reducible refine vhrun_cons fun KK hKK => ?_); go_simp; refine hKK _ ?_; clear hKK KK))
                refine hR _ (x, y + 1, [b[y]]) ⟨by dsimp only; omega, by dsimp only; omega, ?_, by have hml := HL.out; simp at hml ⊢; omega⟩ (by dsimp only; omega) ?_
                · have e := HM.out
                  rw [mg_b hlx hly hc] at e
                  exact e
                  
                · go_simp
              · repeat (first | (with_reducible refine vseq ?_) | (with_reducible refine vthenN ?_) | (with_reducible refine vthenE ?_) | (with_reducible refine vthenR ?_) | (with_reducible refine vret ?_) | (with_reducible refine vskip ?_) | (with_reducible refine vexit ?_) | (with_reducible refine vblock ?_) | (with_reducible refine vblockN ?_) | (with_reducible refine vblockR ?_) | (with_reducible refine vblockH ?_) | (with_reducible refine vrun_nil ?_) | (with_reducible refine vblockE rfl ?_) | (with_reducible refine vregion [] ?_) | (with_reducible refine vhrun_nil ?_) | ((with_reducible refine vcondT ?_ ?_); (focus (go_simp; done))) | ((with_reducible refine vcondF ?_ ?_); (focus (go_simp; done))) | ((with_reducible refine vrun_cons fun KK hKK => ?_); go_simp; refine hKK _ ?_; clear hKK KK) | ((with_reducible refine vhrun_cons fun KK hKK => ?_); go_simp; refine hKK _ ?_; clear hKK KK))
                refine vdraw 23 [] (by kernel_rfl) (by kernel_rfl) ?_
                simp only [List.take, List.drop]
                repeat (first | (with_reducible refine vseq ?_) | (with_reducible refine vthenN ?_) | (with_reducible refine vthenE ?_) | (with_reducible refine vthenR ?_) | (with_reducible refine vret ?_) | (with_reducible refine vskip ?_) | (with_reducible refine vexit ?_) | (with_reducible refine vblock ?_) | (with_reducible refine vblockN ?_) | (with_reducible refine vblockR ?_) | (with_reducible refine vblockH ?_) | (with_reducible refine vrun_nil ?_) | (with_reducible refine vblockE rfl ?_) | (with_reducible refine vregion [] ?_) | (with_reducible refine vhrun_nil ?_) | ((with_reducible refine vcondT ?_ ?_); (focus (go_simp; done))) | ((with_reducible refine vcondF ?_ ?_); (focus (go_simp; done))) | ((with_reducible refine vrun_cons fun KK hKK => ?_); go_simp; refine hKK _ ?_; clear hKK KK) | ((with_reducible refine vhrun_cons fun KK hKK => ?_); go_simp; refine hKK _ ?_; clear hKK KK))
                refine hR _ (x, y + 1, M ++ [b[y]]) ⟨by dsimp only; omega, by dsimp only; omega, ?_, by have hml := HL.out; simp at hml ⊢; omega⟩ (by dsimp only; omega) ?_
                · have e := HM.out
                  rw [mg_b hlx hly hc] at e
                  rw [List.append_assoc]
                  exact e
                · go_simp
          · have hye : y = b.length := by omega
            subst hye
            rcases Classical.em (M = []) with rfl | hMe
            · repeat (first | (with_reducible refine vseq ?_) | (with_reducible refine vthenN ?_) | (with_reducible refine vthenE ?_) | (with_reducible refine vthenR ?_) | (with_reducible refine vret ?_) | (with_reducible refine vskip ?_) | (with_reducible refine vexit ?_) | (with_reducible refine vblock ?_) | (with_reducible refine vblockN ?_) | (with_reducible refine vblockR ?_) | (with_reducible refine vblockH ?_) | (with_reducible refine vrun_nil ?_) | (with_reducible refine vblockE rfl ?_) | (with_reducible refine vregion [] ?_) | (with_reducible refine vhrun_nil ?_) | ((with_reducible refine vcondT ?_ ?_); (focus (go_simp; done))) | ((with_reducible refine vcondF ?_ ?_); (focus (go_simp; done))) | ((with_reducible refine vrun_cons fun KK hKK => ?_); go_simp; refine hKK _ ?_; clear hKK KK) | ((with_reducible refine vhrun_cons fun KK hKK => ?_); go_simp; refine hKK _ ?_; clear hKK KK))
              refine vdraw 23 [] (by kernel_rfl) (by kernel_rfl) ?_
              simp only [List.take, List.drop]
              repeat (first | (with_reducible refine vseq ?_) | (with_reducible refine vthenN ?_) | (with_reducible refine vthenE ?_) | (with_reducible refine vthenR ?_) | (with_reducible refine vret ?_) | (with_reducible refine vskip ?_) | (with_reducible refine vexit ?_) | (with_reducible refine vblock ?_) | (with_reducible refine vblockN ?_) | (with_reducible refine vblockR ?_) | (with_reducible refine vblockH ?_) | (with_reducible refine vrun_nil ?_) | (with_reducible refine vblockE rfl ?_) | (with_reducible refine vregion [] ?_) | (with_reducible refine vhrun_nil ?_) | ((with_reducible refine vcondT ?_ ?_); (focus (go_simp; done))) | ((with_reducible refine vcondF ?_ ?_); (focus (go_simp; done))) | ((with_reducible refine vrun_cons fun KK hKK => ?_); go_simp; refine hKK _ ?_; clear hKK KK) | ((with_reducible refine vhrun_cons fun KK hKK => ?_); go_simp; refine hKK _ ?_; clear hKK KK))
              refine hR _ (x + 1, b.length, [a[x]]) ⟨by dsimp only; omega, by dsimp only; omega, ?_, by have hml := HL.out; simp at hml ⊢; omega⟩ (by dsimp only; omega) ?_
              · have e := HM.out
                rw [mg_ae hlx] at e
                exact e
                
              · go_simp
            · repeat (first | (with_reducible refine vseq ?_) | (with_reducible refine vthenN ?_) | (with_reducible refine vthenE ?_) | (with_reducible refine vthenR ?_) | (with_reducible refine vret ?_) | (with_reducible refine vskip ?_) | (with_reducible refine vexit ?_) | (with_reducible refine vblock ?_) | (with_reducible refine vblockN ?_) | (with_reducible refine vblockR ?_) | (with_reducible refine vblockH ?_) | (with_reducible refine vrun_nil ?_) | (with_reducible refine vblockE rfl ?_) | (with_reducible refine vregion [] ?_) | (with_reducible refine vhrun_nil ?_) | ((with_reducible refine vcondT ?_ ?_); (focus (go_simp; done))) | ((with_reducible refine vcondF ?_ ?_); (focus (go_simp; done))) | ((with_reducible refine vrun_cons fun KK hKK => ?_); go_simp; refine hKK _ ?_; clear hKK KK) | ((with_reducible refine vhrun_cons fun KK hKK => ?_); go_simp; refine hKK _ ?_; clear hKK KK))
              refine vdraw 23 [] (by kernel_rfl) (by kernel_rfl) ?_
              simp only [List.take, List.drop]
              repeat (first | (with_reducible refine vseq ?_) | (with_reducible refine vthenN ?_) | (with_reducible refine vthenE ?_) | (with_reducible refine vthenR ?_) | (with_reducible refine vret ?_) | (with_reducible refine vskip ?_) | (with_reducible refine vexit ?_) | (with_reducible refine vblock ?_) | (with_reducible refine vblockN ?_) | (with_reducible refine vblockR ?_) | (with_reducible refine vblockH ?_) | (with_reducible refine vrun_nil ?_) | (with_reducible refine vblockE rfl ?_) | (with_reducible refine vregion [] ?_) | (with_reducible refine vhrun_nil ?_) | ((with_reducible refine vcondT ?_ ?_); (focus (go_simp; done))) | ((with_reducible refine vcondF ?_ ?_); (focus (go_simp; done))) | ((with_reducible refine vrun_cons fun KK hKK => ?_); go_simp; refine hKK _ ?_; clear hKK KK) | ((with_reducible refine vhrun_cons fun KK hKK => ?_); go_simp; refine hKK _ ?_; clear hKK KK))
              refine hR _ (x + 1, b.length, M ++ [a[x]]) ⟨by dsimp only; omega, by dsimp only; omega, ?_, by have hml := HL.out; simp at hml ⊢; omega⟩ (by dsimp only; omega) ?_
              · have e := HM.out
                rw [mg_ae hlx] at e
                rw [List.append_assoc]
                exact e
              · go_simp
        · have hxe : x = a.length := by omega
          subst hxe
          by_cases hly : y < b.length
          · have hne : ¬ ((y : Int) = b.length) := by omega
            rcases Classical.em (M = []) with rfl | hMe
            · repeat (first | (with_reducible refine vseq ?_) | (with_reducible refine vthenN ?_) | (with_reducible refine vthenE ?_) | (with_reducible refine vthenR ?_) | (with_reducible refine vret ?_) | (with_reducible refine vskip ?_) | (with_reducible refine vexit ?_) | (with_reducible refine vblock ?_) | (with_reducible refine vblockN ?_) | (with_reducible refine vblockR ?_) | (with_reducible refine vblockH ?_) | (with_reducible refine vrun_nil ?_) | (with_reducible refine vblockE rfl ?_) | (with_reducible refine vregion [] ?_) | (with_reducible refine vhrun_nil ?_) | ((with_reducible refine vcondT ?_ ?_); (focus (go_simp; done))) | ((with_reducible refine vcondF ?_ ?_); (focus (go_simp; done))) | ((with_reducible refine vrun_cons fun KK hKK => ?_); go_simp; refine hKK _ ?_; clear hKK KK) | ((with_reducible refine vhrun_cons fun KK hKK => ?_); go_simp; refine hKK _ ?_; clear hKK KK))
              refine vdraw 23 [] (by kernel_rfl) (by kernel_rfl) ?_
              simp only [List.take, List.drop]
              repeat (first | (with_reducible refine vseq ?_) | (with_reducible refine vthenN ?_) | (with_reducible refine vthenE ?_) | (with_reducible refine vthenR ?_) | (with_reducible refine vret ?_) | (with_reducible refine vskip ?_) | (with_reducible refine vexit ?_) | (with_reducible refine vblock ?_) | (with_reducible refine vblockN ?_) | (with_reducible refine vblockR ?_) | (with_reducible refine vblockH ?_) | (with_reducible refine vrun_nil ?_) | (with_reducible refine vblockE rfl ?_) | (with_reducible refine vregion [] ?_) | (with_reducible refine vhrun_nil ?_) | ((with_reducible refine vcondT ?_ ?_); (focus (go_simp; done))) | ((with_reducible refine vcondF ?_ ?_); (focus (go_simp; done))) | ((with_reducible refine vrun_cons fun KK hKK => ?_); go_simp; refine hKK _ ?_; clear hKK KK) | ((with_reducible refine vhrun_cons fun KK hKK => ?_); go_simp; refine hKK _ ?_; clear hKK KK))
              refine hR _ (a.length, y + 1, [b[y]]) ⟨by dsimp only; omega, by dsimp only; omega, ?_, by have hml := HL.out; simp at hml ⊢; omega⟩ (by dsimp only; omega) ?_
              · have e := HM.out
                rw [mg_be hly] at e
                exact e
                
              · go_simp
            · repeat (first | (with_reducible refine vseq ?_) | (with_reducible refine vthenN ?_) | (with_reducible refine vthenE ?_) | (with_reducible refine vthenR ?_) | (with_reducible refine vret ?_) | (with_reducible refine vskip ?_) | (with_reducible refine vexit ?_) | (with_reducible refine vblock ?_) | (with_reducible refine vblockN ?_) | (with_reducible refine vblockR ?_) | (with_reducible refine vblockH ?_) | (with_reducible refine vrun_nil ?_) | (with_reducible refine vblockE rfl ?_) | (with_reducible refine vregion [] ?_) | (with_reducible refine vhrun_nil ?_) | ((with_reducible refine vcondT ?_ ?_); (focus (go_simp; done))) | ((with_reducible refine vcondF ?_ ?_); (focus (go_simp; done))) | ((with_reducible refine vrun_cons fun KK hKK => ?_); go_simp; refine hKK _ ?_; clear hKK KK) | ((with_reducible refine vhrun_cons fun KK hKK => ?_); go_simp; refine hKK _ ?_; clear hKK KK))
              refine vdraw 23 [] (by kernel_rfl) (by kernel_rfl) ?_
              simp only [List.take, List.drop]
              repeat (first | (with_reducible refine vseq ?_) | (with_reducible refine vthenN ?_) | (with_reducible refine vthenE ?_) | (with_reducible refine vthenR ?_) | (with_reducible refine vret ?_) | (with_reducible refine vskip ?_) | (with_reducible refine vexit ?_) | (with_reducible refine vblock ?_) | (with_reducible refine vblockN ?_) | (with_reducible refine vblockR ?_) | (with_reducible refine vblockH ?_) | (with_reducible refine vrun_nil ?_) | (with_reducible refine vblockE rfl ?_) | (with_reducible refine vregion [] ?_) | (with_reducible refine vhrun_nil ?_) | ((with_reducible refine vcondT ?_ ?_); (focus (go_simp; done))) | ((with_reducible refine vcondF ?_ ?_); (focus (go_simp; done))) | ((with_reducible refine vrun_cons fun KK hKK => ?_); go_simp; refine hKK _ ?_; clear hKK KK) | ((with_reducible refine vhrun_cons fun KK hKK => ?_); go_simp; refine hKK _ ?_; clear hKK KK))
              refine hR _ (a.length, y + 1, M ++ [b[y]]) ⟨by dsimp only; omega, by dsimp only; omega, ?_, by have hml := HL.out; simp at hml ⊢; omega⟩ (by dsimp only; omega) ?_
              · have e := HM.out
                rw [mg_be hly] at e
                rw [List.append_assoc]
                exact e
              · go_simp
          · have hye : y = b.length := by omega
            subst hye
            have e := HM.out
            rw [List.drop_length, List.drop_length, mergeL, List.append_nil] at e
            subst e
            repeat (first | (with_reducible refine vseq ?_) | (with_reducible refine vthenN ?_) | (with_reducible refine vthenE ?_) | (with_reducible refine vthenR ?_) | (with_reducible refine vret ?_) | (with_reducible refine vskip ?_) | (with_reducible refine vexit ?_) | (with_reducible refine vblock ?_) | (with_reducible refine vblockN ?_) | (with_reducible refine vblockR ?_) | (with_reducible refine vblockH ?_) | (with_reducible refine vrun_nil ?_) | (with_reducible refine vblockE rfl ?_) | (with_reducible refine vregion [] ?_) | (with_reducible refine vhrun_nil ?_) | ((with_reducible refine vcondT ?_ ?_); (focus (go_simp; done))) | ((with_reducible refine vcondF ?_ ?_); (focus (go_simp; done))) | ((with_reducible refine vrun_cons fun KK hKK => ?_); go_simp; refine hKK _ ?_; clear hKK KK) | ((with_reducible refine vhrun_cons fun KK hKK => ?_); go_simp; refine hKK _ ?_; clear hKK KK))
            go_simp
end Go.Proofs.Ytmfmpagfjgpodaa
