/- Texts in one: Walks on plain values: plates given to uses; conditions as each says. -/
import Derived.Test.YtmfmpagfjgpodaaMS31
import Derived.Test.YtmfmpagfjgpodaaMS22
import Derived.Test.YtmfmpagfjgpodaaMS32
/-! VPlate7: Walks on plain values: plates given to uses; conditions as each says. -/
namespace Go.Proofs.Ytmfmpagfjgpodaa
open Go.RowKit
set_option maxRecDepth 100000
abbrev nil_ : AV := .lit (.slice none 0 0)
theorem v66e (l : List Rec) (hl : l.length ≤ 1000) (hd : Small l) (hE : (usesE l).2 ≠ 0) : VC Try.prog 66 [recsA l] (.tup [.agg [nil_, I 0], I (usesE l).2]) := by
  have H120 := Lib.hid (v120 l hl hd)
  generalize usesE l = E at *
  refine VC_of Try.func66 rfl (by kernel_rfl) (by kernel_rfl) rfl fun M0 w0 => ?_
  simp only [Try.ntmps66, Try.results66, enumA]
  repeat (first | (with_reducible refine vseq ?_) | (with_reducible refine vthenN ?_) | (with_reducible refine vthenE ?_) | (with_reducible refine vthenR ?_) | (with_reducible refine vret ?_) | (with_reducible refine vskip ?_) | (with_reducible refine vexit ?_) | (with_reducible refine vblock ?_) | (with_reducible refine vblockN ?_) | (with_reducible refine vblockR ?_) | (with_reducible refine vblockH ?_) | (with_reducible refine vrun_nil ?_) | (with_reducible refine vblockE rfl ?_) | (with_reducible refine vregion [] ?_) | (with_reducible refine vhrun_nil ?_) | ((with_reducible refine vcondT ?_ ?_); (focus (go_simp; done))) | ((with_reducible refine vcondF ?_ ?_); (focus (go_simp; done))) | ((with_reducible refine vrun_cons fun KK hKK => ?_); go_simp; (first | (refine ⟨_, H120.out, ?_⟩) | skip); refine hKK _ ?_; clear hKK KK) | ((with_reducible refine vhrun_cons fun KK hKK => ?_); go_simp; (first | (refine ⟨_, H120.out, ?_⟩) | skip); refine hKK _ ?_; clear hKK KK))
  go_simp
/-- The order of the numbers, first of all. -/
def rowN (k : Nat) : List (List AV) := (List.range k).map natA
theorem rowN_next (k : Nat) : rowN (k + 1) = rowN k ++ [[I (k : Int)]] := by simp [rowN, List.range_succ, natA]
theorem rowN_len (k : Nat) : (rowN k).length = k := by simp [rowN]
def st66 (l : List Rec) : Nat → VS
  | 0 => ⟨[(19, I 0), (18, I l.length), (5, .ref 1 0), (2, .ref 0 0), (1, .vp [recsA l])], [some (.box [nil_, I 0]), some (.box [nil_])]⟩
  | k + 1 => ⟨[(19, I ((k + 1 : Nat) : Int)), (18, I l.length), (5, .ref 1 0), (2, .ref 0 0), (1, .vp [recsA l])], [some (.box [nil_, I 0]), some (.box [.osl 2]), some (.arr 3 1 false (rowN (k + 1)))]⟩
theorem st66_pos (l : List Rec) {n : Nat} (h : 0 < n) : st66 l n = ⟨[(19, I (n : Int)), (18, I l.length), (5, .ref 1 0), (2, .ref 0 0), (1, .vp [recsA l])], [some (.box [nil_, I 0]), some (.box [.osl 2]), some (.arr 3 1 false (rowN n))]⟩ := by
  cases n with
  | zero => omega
  | succ k => rfl
/-- All numbers. -/
def allF (n : Nat) : List (Fin n) := List.ofFn fun i => i
theorem allF_val (n : Nat) : (allF n).map (·.val) = List.range n := by
  apply List.ext_getElem
  · simp [allF]
  · intro i h1 h2
    simp [allF]
theorem v66w (l : List Rec) (hl : l.length ≤ 1000) (hd : Small l) (hE : (usesE l).2 = 0) (hn0 : 0 < l.length) [Inhabited (Fin l.length)] (os : List Nat) (hos : os = (sortU l (allF l.length)).map (·.val)) (hon : Once os l.length) : VC Try.prog 66 [recsA l] (.tup [.agg [intsA (gOf l os l.length), I (gAt l os l.length)], I 0]) := by
  obtain ⟨R, hR0⟩ : ∃ R : AV, R = .tup [.agg [intsA (gOf l os l.length), I (gAt l os l.length)], I 0] := ⟨_, rfl⟩
  rw [← hR0]
  have HR := Lib.hid hR0
  have HON := Lib.hid hon
  have hol : os.length = l.length := hon.1
  have HMEM := Lib.hid (show ∀ k ∈ os, k < l.length from fun k hk => by
    obtain ⟨j, hj, rfl⟩ := List.getElem_of_mem hk
    have := hon.2.1 j (by omega)
    rwa [nat_get hj] at this)
  have hw := w121 (l := l) (allF l.length) (by simp [allF]; omega) (fun x hx => by
    obtain ⟨k, hk, rfl⟩ := List.getElem_of_mem hx
    have := use_time hE hk
    rw [rat_get hk] at this
    omega)
  rw [allF_val] at hw
  have hrow : rowN l.length = (List.range l.length).map natA := rfl
  rw [← hrow, ← hos] at hw
  have HW := Lib.hid hw
  clear hw hrow hR0 hon hos
  have H120 := Lib.hid (v120 l hl hd)
  rw [hE] at H120
  clear hE
  refine VC_of Try.func66 rfl (by kernel_rfl) (by kernel_rfl) rfl fun M0 w0 => ?_
  simp only [Try.ntmps66, Try.results66, enumA]
  repeat (first | (with_reducible refine vseq ?_) | (with_reducible refine vthenN ?_) | (with_reducible refine vthenE ?_) | (with_reducible refine vthenR ?_) | (with_reducible refine vret ?_) | (with_reducible refine vskip ?_) | (with_reducible refine vexit ?_) | (with_reducible refine vblock ?_) | (with_reducible refine vblockN ?_) | (with_reducible refine vblockR ?_) | (with_reducible refine vblockH ?_) | (with_reducible refine vrun_nil ?_) | (with_reducible refine vblockE rfl ?_) | (with_reducible refine vregion [] ?_) | (with_reducible refine vhrun_nil ?_) | ((with_reducible refine vcondT ?_ ?_); (focus (go_simp; done))) | ((with_reducible refine vcondF ?_ ?_); (focus (go_simp; done))) | ((with_reducible refine vrun_cons fun KK hKK => ?_); go_simp; (first | (refine ⟨_, H120.out, ?_⟩) | skip); refine hKK _ ?_; clear hKK KK) | ((with_reducible refine vhrun_cons fun KK hKK => ?_); go_simp; (first | (refine ⟨_, H120.out, ?_⟩) | skip); refine hKK _ ?_; clear hKK KK))
  refine vloop (α := Nat) (st66 l) (fun k => k ≤ l.length) (fun k => l.length - k) 0 (Nat.zero_le _) (by simp only [st66]; go_simp) ?_
  rintro k hk K hR
  by_cases hlt : k < l.length
  · have hw := wrap_eq (x := (k : Int) + 1) (by omega) (by omega)
    rcases k with _ | m
    · have hr1 : rowN 1 = [[I 0]] := rfl
      have hw1 : IntKind.i64.wrap 1 = 1 := rfl
      simp only [st66]
      repeat (first | (with_reducible refine vseq ?_) | (with_reducible refine vthenN ?_) | (with_reducible refine vthenE ?_) | (with_reducible refine vthenR ?_) | (with_reducible refine vret ?_) | (with_reducible refine vskip ?_) | (with_reducible refine vexit ?_) | (with_reducible refine vblock ?_) | (with_reducible refine vblockN ?_) | (with_reducible refine vblockR ?_) | (with_reducible refine vblockH ?_) | (with_reducible refine vrun_nil ?_) | (with_reducible refine vblockE rfl ?_) | (with_reducible refine vhrun_nil ?_) | ((with_reducible refine vcondT ?_ ?_); (focus (go_simp; done))) | ((with_reducible refine vcondF ?_ ?_); (focus (go_simp; done))) | ((with_reducible refine vrun_cons fun KK hKK => ?_); go_simp; refine hKK _ ?_; clear hKK KK) | ((with_reducible refine vhrun_cons fun KK hKK => ?_); go_simp; refine hKK _ ?_; clear hKK KK))
      refine vregion [] ?_
      repeat (first | (with_reducible refine vseq ?_) | (with_reducible refine vthenN ?_) | (with_reducible refine vthenE ?_) | (with_reducible refine vthenR ?_) | (with_reducible refine vret ?_) | (with_reducible refine vskip ?_) | (with_reducible refine vexit ?_) | (with_reducible refine vblock ?_) | (with_reducible refine vblockN ?_) | (with_reducible refine vblockR ?_) | (with_reducible refine vblockH ?_) | (with_reducible refine vrun_nil ?_) | (with_reducible refine vblockE rfl ?_) | (with_reducible refine vhrun_nil ?_) | ((with_reducible refine vcondT ?_ ?_); (focus (go_simp; done))) | ((with_reducible refine vcondF ?_ ?_); (focus (go_simp; done))) | ((with_reducible refine vrun_cons fun KK hKK => ?_); go_simp; refine hKK _ ?_; clear hKK KK) | ((with_reducible refine vhrun_cons fun KK hKK => ?_); go_simp; refine hKK _ ?_; clear hKK KK))
      refine vregion [] ?_
      repeat (first | (with_reducible refine vseq ?_) | (with_reducible refine vthenN ?_) | (with_reducible refine vthenE ?_) | (with_reducible refine vthenR ?_) | (with_reducible refine vret ?_) | (with_reducible refine vskip ?_) | (with_reducible refine vexit ?_) | (with_reducible refine vblock ?_) | (with_reducible refine vblockN ?_) | (with_reducible refine vblockR ?_) | (with_reducible refine vblockH ?_) | (with_reducible refine vrun_nil ?_) | (with_reducible refine vblockE rfl ?_) | (with_reducible refine vhrun_nil ?_) | ((with_reducible refine vcondT ?_ ?_); (focus (go_simp; done))) | ((with_reducible refine vcondF ?_ ?_); (focus (go_simp; done))) | ((with_reducible refine vrun_cons fun KK hKK => ?_); go_simp; refine hKK _ ?_; clear hKK KK) | ((with_reducible refine vhrun_cons fun KK hKK => ?_); go_simp; refine hKK _ ?_; clear hKK KK))
      refine vregionS [] 1 ⟨rfl, rfl⟩ ?_
      simp only [List.take, List.drop]
      repeat (first | (with_reducible refine vseq ?_) | (with_reducible refine vthenN ?_) | (with_reducible refine vthenE ?_) | (with_reducible refine vthenR ?_) | (with_reducible refine vret ?_) | (with_reducible refine vskip ?_) | (with_reducible refine vexit ?_) | (with_reducible refine vblock ?_) | (with_reducible refine vblockN ?_) | (with_reducible refine vblockR ?_) | (with_reducible refine vblockH ?_) | (with_reducible refine vrun_nil ?_) | (with_reducible refine vblockE rfl ?_) | (with_reducible refine vhrun_nil ?_) | ((with_reducible refine vcondT ?_ ?_); (focus (go_simp; done))) | ((with_reducible refine vcondF ?_ ?_); (focus (go_simp; done))) | ((with_reducible refine vrun_cons fun KK hKK => ?_); go_simp; refine hKK _ ?_; clear hKK KK) | ((with_reducible refine vhrun_cons fun KK hKK => ?_); go_simp; refine hKK _ ?_; clear hKK KK))
      refine ⟨_, fun p a w R => Rel.nilRe (e := 3) (sz := 1) (t := 22) R (by go_simp) (by decide), ?_⟩
      simp only [List.length_cons, List.length_nil, List.cons_append, List.nil_append]
      repeat (first | (with_reducible refine vseq ?_) | (with_reducible refine vthenN ?_) | (with_reducible refine vthenE ?_) | (with_reducible refine vthenR ?_) | (with_reducible refine vret ?_) | (with_reducible refine vskip ?_) | (with_reducible refine vexit ?_) | (with_reducible refine vblock ?_) | (with_reducible refine vblockN ?_) | (with_reducible refine vblockR ?_) | (with_reducible refine vblockH ?_) | (with_reducible refine vrun_nil ?_) | (with_reducible refine vblockE rfl ?_) | (with_reducible refine vregion [] ?_) | (with_reducible refine vhrun_nil ?_) | ((with_reducible refine vcondT ?_ ?_); (focus (go_simp; done))) | ((with_reducible refine vcondF ?_ ?_); (focus (go_simp; done))) | ((with_reducible refine vrun_cons fun KK hKK => ?_); go_simp; refine hKK _ ?_; clear hKK KK) | ((with_reducible refine vhrun_cons fun KK hKK => ?_); go_simp; refine hKK _ ?_; clear hKK KK))
      refine hR _ 1 hlt (by omega) ?_
      simp only [st66, hr1]
      go_simp
    · have hn := rowN_next (m + 1)
      have hlt' : (m : Int) + 1 < l.length := by omega
      have hw5 := wrap_eq (x := (m : Int) + 1 + 1) (by omega) (by omega)
      have hb1 : (rowN (m + 1)).length + 1 ≤ 1000000000 := by rw [rowN_len]; omega
      have HN := Lib.hid hn
      clear hn
      simp only [st66]
      repeat (first | (with_reducible refine vseq ?_) | (with_reducible refine vthenN ?_) | (with_reducible refine vthenE ?_) | (with_reducible refine vthenR ?_) | (with_reducible refine vret ?_) | (with_reducible refine vskip ?_) | (with_reducible refine vexit ?_) | (with_reducible refine vblock ?_) | (with_reducible refine vblockN ?_) | (with_reducible refine vblockR ?_) | (with_reducible refine vblockH ?_) | (with_reducible refine vrun_nil ?_) | (with_reducible refine vblockE rfl ?_) | (with_reducible refine vhrun_nil ?_) | ((with_reducible refine vcondT ?_ ?_); (focus (go_simp; done))) | ((with_reducible refine vcondF ?_ ?_); (focus (go_simp; done))) | ((with_reducible refine vrun_cons fun KK hKK => ?_); go_simp; refine hKK _ ?_; clear hKK KK) | ((with_reducible refine vhrun_cons fun KK hKK => ?_); go_simp; refine hKK _ ?_; clear hKK KK))
      refine vregion [] ?_
      repeat (first | (with_reducible refine vseq ?_) | (with_reducible refine vthenN ?_) | (with_reducible refine vthenE ?_) | (with_reducible refine vthenR ?_) | (with_reducible refine vret ?_) | (with_reducible refine vskip ?_) | (with_reducible refine vexit ?_) | (with_reducible refine vblock ?_) | (with_reducible refine vblockN ?_) | (with_reducible refine vblockR ?_) | (with_reducible refine vblockH ?_) | (with_reducible refine vrun_nil ?_) | (with_reducible refine vblockE rfl ?_) | (with_reducible refine vhrun_nil ?_) | ((with_reducible refine vcondT ?_ ?_); (focus (go_simp; done))) | ((with_reducible refine vcondF ?_ ?_); (focus (go_simp; done))) | ((with_reducible refine vrun_cons fun KK hKK => ?_); go_simp; refine hKK _ ?_; clear hKK KK) | ((with_reducible refine vhrun_cons fun KK hKK => ?_); go_simp; refine hKK _ ?_; clear hKK KK))
      refine vregion [] ?_
      repeat (first | (with_reducible refine vseq ?_) | (with_reducible refine vthenN ?_) | (with_reducible refine vthenE ?_) | (with_reducible refine vthenR ?_) | (with_reducible refine vret ?_) | (with_reducible refine vskip ?_) | (with_reducible refine vexit ?_) | (with_reducible refine vblock ?_) | (with_reducible refine vblockN ?_) | (with_reducible refine vblockR ?_) | (with_reducible refine vblockH ?_) | (with_reducible refine vrun_nil ?_) | (with_reducible refine vblockE rfl ?_) | (with_reducible refine vhrun_nil ?_) | ((with_reducible refine vcondT ?_ ?_); (focus (go_simp; done))) | ((with_reducible refine vcondF ?_ ?_); (focus (go_simp; done))) | ((with_reducible refine vrun_cons fun KK hKK => ?_); go_simp; refine hKK _ ?_; clear hKK KK) | ((with_reducible refine vhrun_cons fun KK hKK => ?_); go_simp; refine hKK _ ?_; clear hKK KK))
      refine vregionS [] 1 ⟨rfl, rfl⟩ ?_
      simp only [List.take, List.drop]
      repeat (first | (with_reducible refine vseq ?_) | (with_reducible refine vthenN ?_) | (with_reducible refine vthenE ?_) | (with_reducible refine vthenR ?_) | (with_reducible refine vret ?_) | (with_reducible refine vskip ?_) | (with_reducible refine vexit ?_) | (with_reducible refine vblock ?_) | (with_reducible refine vblockN ?_) | (with_reducible refine vblockR ?_) | (with_reducible refine vblockH ?_) | (with_reducible refine vrun_nil ?_) | (with_reducible refine vblockE rfl ?_) | (with_reducible refine vhrun_nil ?_) | ((with_reducible refine vcondT ?_ ?_); (focus (go_simp; done))) | ((with_reducible refine vcondF ?_ ?_); (focus (go_simp; done))) | ((with_reducible refine vrun_cons fun KK hKK => ?_); go_simp; refine hKK _ ?_; clear hKK KK) | ((with_reducible refine vhrun_cons fun KK hKK => ?_); go_simp; refine hKK _ ?_; clear hKK KK))
      refine ⟨_, fun p a w R => ⟨_, Rel.dead R (bi := 1) (j := 0) (id := 2) rfl rfl⟩, ?_⟩
      simp only [List.length_cons, List.length_nil, List.set, List.cons_append, List.nil_append]
      repeat (first | (with_reducible refine vseq ?_) | (with_reducible refine vthenN ?_) | (with_reducible refine vthenE ?_) | (with_reducible refine vthenR ?_) | (with_reducible refine vret ?_) | (with_reducible refine vskip ?_) | (with_reducible refine vexit ?_) | (with_reducible refine vblock ?_) | (with_reducible refine vblockN ?_) | (with_reducible refine vblockR ?_) | (with_reducible refine vblockH ?_) | (with_reducible refine vrun_nil ?_) | (with_reducible refine vblockE rfl ?_) | (with_reducible refine vregion [] ?_) | (with_reducible refine vhrun_nil ?_) | ((with_reducible refine vcondT ?_ ?_); (focus (go_simp; done))) | ((with_reducible refine vcondF ?_ ?_); (focus (go_simp; done))) | ((with_reducible refine vrun_cons fun KK hKK => ?_); go_simp; refine hKK _ ?_; clear hKK KK) | ((with_reducible refine vhrun_cons fun KK hKK => ?_); go_simp; refine hKK _ ?_; clear hKK KK))
      refine hR _ (m + 1 + 1) hlt (by omega) ?_
      have hn := HN.out
      simp only [st66]
      go_simp
  · have hkn : k = l.length := by omega
    subst hkn
    clear hR hlt hk
    rw [st66_pos l hn0]
    repeat (first | (with_reducible refine vseq ?_) | (with_reducible refine vthenN ?_) | (with_reducible refine vthenE ?_) | (with_reducible refine vthenR ?_) | (with_reducible refine vret ?_) | (with_reducible refine vskip ?_) | (with_reducible refine vexit ?_) | (with_reducible refine vblock ?_) | (with_reducible refine vblockN ?_) | (with_reducible refine vblockR ?_) | (with_reducible refine vblockH ?_) | (with_reducible refine vrun_nil ?_) | (with_reducible refine vblockE rfl ?_) | (with_reducible refine vhrun_nil ?_) | ((with_reducible refine vcondT ?_ ?_); (focus (go_simp; done))) | ((with_reducible refine vcondF ?_ ?_); (focus (go_simp; done))) | ((with_reducible refine vrun_cons fun KK hKK => ?_); go_simp; refine hKK _ ?_; clear hKK KK) | ((with_reducible refine vhrun_cons fun KK hKK => ?_); go_simp; refine hKK _ ?_; clear hKK KK))
    refine vregion [] ?_
    repeat (first | (with_reducible refine vseq ?_) | (with_reducible refine vthenN ?_) | (with_reducible refine vthenE ?_) | (with_reducible refine vthenR ?_) | (with_reducible refine vret ?_) | (with_reducible refine vskip ?_) | (with_reducible refine vexit ?_) | (with_reducible refine vblock ?_) | (with_reducible refine vblockN ?_) | (with_reducible refine vblockR ?_) | (with_reducible refine vblockH ?_) | (with_reducible refine vrun_nil ?_) | (with_reducible refine vblockE rfl ?_) | (with_reducible refine vhrun_nil ?_) | ((with_reducible refine vcondT ?_ ?_); (focus (go_simp; done))) | ((with_reducible refine vcondF ?_ ?_); (focus (go_simp; done))) | ((with_reducible refine vrun_cons fun KK hKK => ?_); go_simp; refine hKK _ ?_; clear hKK KK) | ((with_reducible refine vhrun_cons fun KK hKK => ?_); go_simp; refine hKK _ ?_; clear hKK KK))
    refine vregionW [] 2 ⟨rfl, rfl⟩ ?_
    simp only [List.take]
    repeat (first | (with_reducible refine vseq ?_) | (with_reducible refine vthenN ?_) | (with_reducible refine vthenE ?_) | (with_reducible refine vthenR ?_) | (with_reducible refine vret ?_) | (with_reducible refine vskip ?_) | (with_reducible refine vexit ?_) | (with_reducible refine vblock ?_) | (with_reducible refine vblockN ?_) | (with_reducible refine vblockR ?_) | (with_reducible refine vblockH ?_) | (with_reducible refine vrun_nil ?_) | (with_reducible refine vblockE rfl ?_) | (with_reducible refine vhrun_nil ?_) | ((with_reducible refine vcondT ?_ ?_); (focus (go_simp; done))) | ((with_reducible refine vcondF ?_ ?_); (focus (go_simp; done))) | ((with_reducible refine vrun_cons fun KK hKK => ?_); go_simp; refine hKK _ ?_; clear hKK KK) | ((with_reducible refine vhrun_cons fun KK hKK => ?_); go_simp; refine hKK _ ?_; clear hKK KK))
    refine ⟨_, 121, 2, 3, 1, rowN l.length, _, [.fn (.func 122) [] [.vp [recsA l]]], none, by trivial, by simp, rfl, ?_, ?_, rfl, HW.out, ?_⟩
    · go_simp
    · go_simp
    · simp only [wriS, VS.put, List.set]
      clear HW
      repeat (first | (with_reducible refine vseq ?_) | (with_reducible refine vthenN ?_) | (with_reducible refine vthenE ?_) | (with_reducible refine vthenR ?_) | (with_reducible refine vret ?_) | (with_reducible refine vskip ?_) | (with_reducible refine vexit ?_) | (with_reducible refine vblock ?_) | (with_reducible refine vblockN ?_) | (with_reducible refine vblockR ?_) | (with_reducible refine vblockH ?_) | (with_reducible refine vrun_nil ?_) | (with_reducible refine vblockE rfl ?_) | (with_reducible refine vhrun_nil ?_) | ((with_reducible refine vcondT ?_ ?_); (focus (go_simp; done))) | ((with_reducible refine vcondF ?_ ?_); (focus (go_simp; done))) | ((with_reducible refine vrun_cons fun KK hKK => ?_); go_simp; refine hKK _ ?_; clear hKK KK) | ((with_reducible refine vhrun_cons fun KK hKK => ?_); go_simp; refine hKK _ ?_; clear hKK KK))
      refine vregion [32] ?_
      have hl2 : l.length ≤ 1000000000 := by omega
      have hl3 : (l.length : Int) ≤ 1000000000 := by omega
      repeat (first | (with_reducible refine vseq ?_) | (with_reducible refine vthenN ?_) | (with_reducible refine vthenE ?_) | (with_reducible refine vthenR ?_) | (with_reducible refine vret ?_) | (with_reducible refine vskip ?_) | (with_reducible refine vexit ?_) | (with_reducible refine vblock ?_) | (with_reducible refine vblockN ?_) | (with_reducible refine vblockR ?_) | (with_reducible refine vblockH ?_) | (with_reducible refine vrun_nil ?_) | (with_reducible refine vblockE rfl ?_) | (with_reducible refine vregion [] ?_) | (with_reducible refine vhrun_nil ?_) | ((with_reducible refine vcondT ?_ ?_); (focus (go_simp; done))) | ((with_reducible refine vcondF ?_ ?_); (focus (go_simp; done))) | ((with_reducible refine vrun_cons fun KK hKK => ?_); go_simp; refine hKK _ ?_; clear hKK KK) | ((with_reducible refine vhrun_cons fun KK hKK => ?_); go_simp; refine hKK _ ?_; clear hKK KK))
      refine vloop (α := Nat) (fun i => ⟨[(36, I i), (35, I l.length), (34, .osl 2), (7, .ref 4 0), (5, .ref 1 0), (2, .ref 0 0), (1, .vp [recsA l])], [some (.box [nil_, I 0]), some (.box [.osl 2]), some (.arr 3 1 false (os.map natA)), some (.arr 3 1 false ((gOf l os i).map intA)), some (.box [.osl 3, I (gAt l os i)])]⟩) (fun i => i ≤ l.length) (fun i => l.length - i) 0 (Nat.zero_le _) (by simp only [gOf, gAt, List.map_replicate, intA]; go_simp) ?_
      rintro i hi K2 hR
      by_cases hlt : i < l.length
      · have hlo : i < os.length := by omega
        have hw1 := wrap_eq (x := (i : Int) + 1) (by omega) (by omega)
        have g := gOf_gr HON.out i hi
        have hgl := g.len
        have hen := HON.out.2.1 i hlt
        rw [nat_get hlo] at hen
        have G := Lib.hid g
        clear g
        have hz : iat (gOf l os i) os[i] = 0 := G.out.rest _ hen fun j hj h => by
          rw [← nat_get hlo] at h
          have := HON.out.2.2 j i (by omega) hlt h
          omega
        have hset : (gOf l os i).set os[i] ((0 : Nat) : Int) = gOf l os i := by
          rw [iat_get (by omega)] at hz
          apply List.ext_getElem
          · simp
          · intro x h1 h2
            rw [List.getElem_set]
            split
            · rename_i he
              subst he
              rw [hz]
              rfl
            · rfl
        clear hz
        have hidx : os[i] < (gOf l os i).length := by omega
        repeat (first | (with_reducible refine vseq ?_) | (with_reducible refine vthenN ?_) | (with_reducible refine vthenE ?_) | (with_reducible refine vthenR ?_) | (with_reducible refine vret ?_) | (with_reducible refine vskip ?_) | (with_reducible refine vexit ?_) | (with_reducible refine vblock ?_) | (with_reducible refine vblockN ?_) | (with_reducible refine vblockR ?_) | (with_reducible refine vblockH ?_) | (with_reducible refine vrun_nil ?_) | (with_reducible refine vblockE rfl ?_) | (with_reducible refine vregion [] ?_) | (with_reducible refine vhrun_nil ?_) | ((with_reducible refine vcondT ?_ ?_); (focus (go_simp; done))) | ((with_reducible refine vcondF ?_ ?_); (focus (go_simp; done))) | ((with_reducible refine vrun_cons fun KK hKK => ?_); go_simp; refine hKK _ ?_; clear hKK KK) | ((with_reducible refine vhrun_cons fun KK hKK => ?_); go_simp; refine hKK _ ?_; clear hKK KK))
        refine vloop (α := Nat) (fun c => ⟨[(10, .fn (.func 123) [] [.ref 1 0, .ref 5 0, .ref 4 0, .vp [recsA l], .ref 6 0]), (9, .ref 6 0), (8, .ref 5 0), (36, I i), (35, I l.length), (34, .osl 2), (7, .ref 4 0), (5, .ref 1 0), (2, .ref 0 0), (1, .vp [recsA l])], [some (.box [nil_, I 0]), some (.box [.osl 2]), some (.arr 3 1 false (os.map natA)), some (.arr 3 1 false (((gOf l os i).set os[i] (c : Int)).map intA)), some (.box [.osl 3, I (gAt l os i)]), some (.box [I i]), some (.box [I os[i]])]⟩) (fun c => ∀ x, x < c → busy l os (gOf l os i) i x = true) (fun c => i + 1 - c) 0 (fun x h => by omega) (by rw [hset]; go_simp) ?_
        intro c hc K3 hR3
        have HC := Lib.hid hc
        clear hc hset
        have hsl : ((gOf l os i).set os[i] (c : Int)).length = l.length := by rw [List.length_set]; exact hgl
        have hsg : ((gOf l os i).set os[i] (c : Int))[os[i]]? = some (c : Int) := by rw [List.getElem?_set_self hidx]
        have hms : ((gOf l os i).set os[i] (c : Int)).map intA = ((gOf l os i).map intA).set os[i] [I c] := by rw [List.map_set]; rfl
        have hbz : taken l ((gOf l os i).set os[i] (c : Int)) os c os[i] i = busy l os (gOf l os i) i c := by rw [busy, nat_get hlo]
        have h123 : VC Try.prog 123 [I (c : Int), .vp [natsA os], .vp [I (i : Int)], .vp [.sl 1 (((gOf l os i).map intA).set os[i] [I (c : Int)]), I (gAt l os i)], .vp [recsA l], .vp [I (os[i] : Int)]] (B (busy l os (gOf l os i) i c)) := by
          rw [← hms, ← hbz]
          exact v123 l ((gOf l os i).set os[i] (c : Int)) (gAt l os i) c os[i] i os hsl hl hen HMEM.out (by omega) (by omega)
        have H123 := Lib.hid h123
        have hcl : c ≤ i := free_le G.out HON.out hlt HC.out
        have hwc := wrap_eq (x := (c : Int) + 1) (by omega) (by omega)
        clear h123 hbz
        cases hb : busy l os (gOf l os i) i c
        · rw [hb] at H123
          have hpl := plateAt_eq G.out HON.out hlt hb HC.out
          have hg1 : gOf l os (i + 1) = (gOf l os i).set os[i] (c : Int) := by rw [gOf, hpl, nat_get hlo]
          have ha1 : gAt l os (i + 1) = if usesAt l (gAt l os i) l.length < usesAt l l[os[i]].lo l.length then l[os[i]].lo else gAt l os i := by rw [gAt, nat_get hlo, rat_get hen]
          have Ha := Lib.hid (v127 l l[os[i]].lo hl)
          have Hb := Lib.hid (v127 l (gAt l os i) hl)
          have HG := Lib.hid (And.intro hg1 ha1)
          clear hg1 ha1 hpl hb
          by_cases hgt : usesAt l (gAt l os i) l.length < usesAt l l[os[i]].lo l.length
          · have hgt' : (usesAt l (gAt l os i) l.length : Int) < usesAt l l[os[i]].lo l.length := by omega
            repeat (first | (with_reducible refine vseq ?_) | (with_reducible refine vthenN ?_) | (with_reducible refine vthenE ?_) | (with_reducible refine vthenR ?_) | (with_reducible refine vret ?_) | (with_reducible refine vskip ?_) | (with_reducible refine vexit ?_) | (with_reducible refine vblock ?_) | (with_reducible refine vblockN ?_) | (with_reducible refine vblockR ?_) | (with_reducible refine vblockH ?_) | (with_reducible refine vrun_nil ?_) | (with_reducible refine vblockE rfl ?_) | (with_reducible refine vregion [] ?_) | (with_reducible refine vhrun_nil ?_) | ((with_reducible refine vcondT ?_ ?_); (focus (go_simp; done))) | ((with_reducible refine vcondF ?_ ?_); (focus (go_simp; done))) | ((with_reducible refine vrun_cons fun KK hKK => ?_); go_simp; (first | (refine ⟨_, ⟨H123.out, rfl⟩, ?_⟩) | skip); refine hKK _ ?_; clear hKK KK) | ((with_reducible refine vhrun_cons fun KK hKK => ?_); go_simp; (first | (refine ⟨_, ⟨H123.out, rfl⟩, ?_⟩) | skip); refine hKK _ ?_; clear hKK KK))
            refine vdraw 11 [] (by kernel_rfl) (by kernel_rfl) ?_
            simp only [List.take, List.drop]
            repeat (first | (with_reducible refine vseq ?_) | (with_reducible refine vthenN ?_) | (with_reducible refine vthenE ?_) | (with_reducible refine vthenR ?_) | (with_reducible refine vret ?_) | (with_reducible refine vskip ?_) | (with_reducible refine vexit ?_) | (with_reducible refine vblock ?_) | (with_reducible refine vblockN ?_) | (with_reducible refine vblockR ?_) | (with_reducible refine vblockH ?_) | (with_reducible refine vrun_nil ?_) | (with_reducible refine vblockE rfl ?_) | (with_reducible refine vregion [] ?_) | (with_reducible refine vhrun_nil ?_) | ((with_reducible refine vcondT ?_ ?_); (focus (go_simp; done))) | ((with_reducible refine vcondF ?_ ?_); (focus (go_simp; done))) | ((with_reducible refine vrun_cons fun KK hKK => ?_); go_simp; (first | (refine ⟨_, Ha.out, ?_⟩) | (refine ⟨_, Hb.out, ?_⟩) | skip); refine hKK _ ?_; clear hKK KK) | ((with_reducible refine vhrun_cons fun KK hKK => ?_); go_simp; (first | (refine ⟨_, Ha.out, ?_⟩) | (refine ⟨_, Hb.out, ?_⟩) | skip); refine hKK _ ?_; clear hKK KK))
            refine hR _ (i + 1) hlt (by omega) ?_
            have h1 := HG.out.1
            have h2 := HG.out.2
            rw [if_pos hgt] at h2
            rw [h1, h2, hms]
            clear h1 h2
            go_simp
          · have hgt' : ¬ (usesAt l (gAt l os i) l.length : Int) < usesAt l l[os[i]].lo l.length := by omega
            repeat (first | (with_reducible refine vseq ?_) | (with_reducible refine vthenN ?_) | (with_reducible refine vthenE ?_) | (with_reducible refine vthenR ?_) | (with_reducible refine vret ?_) | (with_reducible refine vskip ?_) | (with_reducible refine vexit ?_) | (with_reducible refine vblock ?_) | (with_reducible refine vblockN ?_) | (with_reducible refine vblockR ?_) | (with_reducible refine vblockH ?_) | (with_reducible refine vrun_nil ?_) | (with_reducible refine vblockE rfl ?_) | (with_reducible refine vregion [] ?_) | (with_reducible refine vhrun_nil ?_) | ((with_reducible refine vcondT ?_ ?_); (focus (go_simp; done))) | ((with_reducible refine vcondF ?_ ?_); (focus (go_simp; done))) | ((with_reducible refine vrun_cons fun KK hKK => ?_); go_simp; (first | (refine ⟨_, ⟨H123.out, rfl⟩, ?_⟩) | skip); refine hKK _ ?_; clear hKK KK) | ((with_reducible refine vhrun_cons fun KK hKK => ?_); go_simp; (first | (refine ⟨_, ⟨H123.out, rfl⟩, ?_⟩) | skip); refine hKK _ ?_; clear hKK KK))
            refine vdraw 11 [] (by kernel_rfl) (by kernel_rfl) ?_
            simp only [List.take, List.drop]
            repeat (first | (with_reducible refine vseq ?_) | (with_reducible refine vthenN ?_) | (with_reducible refine vthenE ?_) | (with_reducible refine vthenR ?_) | (with_reducible refine vret ?_) | (with_reducible refine vskip ?_) | (with_reducible refine vexit ?_) | (with_reducible refine vblock ?_) | (with_reducible refine vblockN ?_) | (with_reducible refine vblockR ?_) | (with_reducible refine vblockH ?_) | (with_reducible refine vrun_nil ?_) | (with_reducible refine vblockE rfl ?_) | (with_reducible refine vregion [] ?_) | (with_reducible refine vhrun_nil ?_) | ((with_reducible refine vcondT ?_ ?_); (focus (go_simp; done))) | ((with_reducible refine vcondF ?_ ?_); (focus (go_simp; done))) | ((with_reducible refine vrun_cons fun KK hKK => ?_); go_simp; (first | (refine ⟨_, Ha.out, ?_⟩) | (refine ⟨_, Hb.out, ?_⟩) | skip); refine hKK _ ?_; clear hKK KK) | ((with_reducible refine vhrun_cons fun KK hKK => ?_); go_simp; (first | (refine ⟨_, Ha.out, ?_⟩) | (refine ⟨_, Hb.out, ?_⟩) | skip); refine hKK _ ?_; clear hKK KK))
            refine hR _ (i + 1) hlt (by omega) ?_
            have h1 := HG.out.1
            have h2 := HG.out.2
            rw [if_neg hgt] at h2
            rw [h1, h2, hms]
            clear h1 h2
            go_simp
        · rw [hb] at H123
          have HB := Lib.hid hb
          clear hb
          repeat (first | (with_reducible refine vseq ?_) | (with_reducible refine vthenN ?_) | (with_reducible refine vthenE ?_) | (with_reducible refine vthenR ?_) | (with_reducible refine vret ?_) | (with_reducible refine vskip ?_) | (with_reducible refine vexit ?_) | (with_reducible refine vblock ?_) | (with_reducible refine vblockN ?_) | (with_reducible refine vblockR ?_) | (with_reducible refine vblockH ?_) | (with_reducible refine vrun_nil ?_) | (with_reducible refine vblockE rfl ?_) | (with_reducible refine vregion [] ?_) | (with_reducible refine vhrun_nil ?_) | ((with_reducible refine vcondT ?_ ?_); (focus (go_simp; done))) | ((with_reducible refine vcondF ?_ ?_); (focus (go_simp; done))) | ((with_reducible refine vrun_cons fun KK hKK => ?_); go_simp; (first | (refine ⟨_, ⟨H123.out, rfl⟩, ?_⟩) | skip); refine hKK _ ?_; clear hKK KK) | ((with_reducible refine vhrun_cons fun KK hKK => ?_); go_simp; (first | (refine ⟨_, ⟨H123.out, rfl⟩, ?_⟩) | skip); refine hKK _ ?_; clear hKK KK))
          refine hR3 _ (c + 1) (fun x hx => ?_) (by omega) ?_
          · by_cases he : x = c
            · rw [he]; exact HB.out
            · exact HC.out x (by omega)
          · go_simp
      · have hin : i = l.length := by omega
        subst hin
        have hr := HR.out
        subst hr
        repeat (first | (with_reducible refine vseq ?_) | (with_reducible refine vthenN ?_) | (with_reducible refine vthenE ?_) | (with_reducible refine vthenR ?_) | (with_reducible refine vret ?_) | (with_reducible refine vskip ?_) | (with_reducible refine vexit ?_) | (with_reducible refine vblock ?_) | (with_reducible refine vblockN ?_) | (with_reducible refine vblockR ?_) | (with_reducible refine vblockH ?_) | (with_reducible refine vrun_nil ?_) | (with_reducible refine vblockE rfl ?_) | (with_reducible refine vregion [] ?_) | (with_reducible refine vhrun_nil ?_) | ((with_reducible refine vcondT ?_ ?_); (focus (go_simp; done))) | ((with_reducible refine vcondF ?_ ?_); (focus (go_simp; done))) | ((with_reducible refine vrun_cons fun KK hKK => ?_); go_simp; refine hKK _ ?_; clear hKK KK) | ((with_reducible refine vhrun_cons fun KK hKK => ?_); go_simp; refine hKK _ ?_; clear hKK KK))
        go_simp
end Go.Proofs.Ytmfmpagfjgpodaa
