/- Texts in one: Walks on plain values: whom a car was handed to; texts of at most 1000 bytes. -/
import Derived.Test.YtmfmpagfjgpodaaMS23
import Derived.Test.YtmfmpagfjgpodaaMS24
/-! VCars: Walks on plain values: whom a car was handed to; texts of at most 1000 bytes. -/
namespace Go.Proofs.Ytmfmpagfjgpodaa
open Go.RowKit
set_option maxRecDepth 100000
def dvs (l : List Rec) : List ByteArray := l.map (·.driver)
theorem dvs_len (l : List Rec) : (dvs l).length = l.length := by simp [dvs]
theorem dvs_at {l : List Rec} {k : Nat} (h : k < l.length) : tat (dvs l) k = l[k].driver := by
  rw [tat_get (by rw [dvs_len]; exact h)]
  simp [dvs]
theorem v58 (l : List ByteArray) (hl : l.length ≤ 1000000) : VC Try.prog 58 [txtsA l, txtsA l] (B true) := by
  refine VC_of Try.func58 rfl (by kernel_rfl) (by kernel_rfl) rfl fun M0 w0 => ?_
  simp only [Try.ntmps58, Try.results58, enumA]
  repeat (first | (with_reducible refine vseq ?_) | (with_reducible refine vthenN ?_) | (with_reducible refine vthenE ?_) | (with_reducible refine vthenR ?_) | (with_reducible refine vret ?_) | (with_reducible refine vskip ?_) | (with_reducible refine vexit ?_) | (with_reducible refine vblock ?_) | (with_reducible refine vblockN ?_) | (with_reducible refine vblockR ?_) | (with_reducible refine vblockH ?_) | (with_reducible refine vrun_nil ?_) | (with_reducible refine vblockE rfl ?_) | (with_reducible refine vregion [] ?_) | (with_reducible refine vhrun_nil ?_) | ((with_reducible refine vcondT ?_ ?_); (focus (go_simp; done))) | ((with_reducible refine vcondF ?_ ?_); (focus (go_simp; done))) | ((with_reducible refine vrun_cons fun KK hKK => ?_); go_simp; refine hKK _ ?_; clear hKK KK) | ((with_reducible refine vhrun_cons fun KK hKK => ?_); go_simp; refine hKK _ ?_; clear hKK KK))
  refine vloop (α := Nat) (fun k => ⟨[(5, I k), (0, txtsA l), (1, txtsA l)], []⟩) (fun k => k ≤ l.length) (fun k => l.length - k) 0 (Nat.zero_le _) (by go_simp) ?_
  rintro k hk K hR
  by_cases hlt : k < l.length
  · have hw := wrap_eq (x := (k : Int) + 1) (by omega) (by omega)
    repeat (first | (with_reducible refine vseq ?_) | (with_reducible refine vthenN ?_) | (with_reducible refine vthenE ?_) | (with_reducible refine vthenR ?_) | (with_reducible refine vret ?_) | (with_reducible refine vskip ?_) | (with_reducible refine vexit ?_) | (with_reducible refine vblock ?_) | (with_reducible refine vblockN ?_) | (with_reducible refine vblockR ?_) | (with_reducible refine vblockH ?_) | (with_reducible refine vrun_nil ?_) | (with_reducible refine vblockE rfl ?_) | (with_reducible refine vregion [] ?_) | (with_reducible refine vhrun_nil ?_) | ((with_reducible refine vcondT ?_ ?_); (focus (go_simp; done))) | ((with_reducible refine vcondF ?_ ?_); (focus (go_simp; done))) | ((with_reducible refine vrun_cons fun KK hKK => ?_); go_simp; refine hKK _ ?_; clear hKK KK) | ((with_reducible refine vhrun_cons fun KK hKK => ?_); go_simp; refine hKK _ ?_; clear hKK KK))
    refine vdraw 9 [] (by kernel_rfl) (by kernel_rfl) ?_
    simp only [List.take, List.drop]
    repeat (first | (with_reducible refine vseq ?_) | (with_reducible refine vthenN ?_) | (with_reducible refine vthenE ?_) | (with_reducible refine vthenR ?_) | (with_reducible refine vret ?_) | (with_reducible refine vskip ?_) | (with_reducible refine vexit ?_) | (with_reducible refine vblock ?_) | (with_reducible refine vblockN ?_) | (with_reducible refine vblockR ?_) | (with_reducible refine vblockH ?_) | (with_reducible refine vrun_nil ?_) | (with_reducible refine vblockE rfl ?_) | (with_reducible refine vregion [] ?_) | (with_reducible refine vhrun_nil ?_) | ((with_reducible refine vcondT ?_ ?_); (focus (go_simp; done))) | ((with_reducible refine vcondF ?_ ?_); (focus (go_simp; done))) | ((with_reducible refine vrun_cons fun KK hKK => ?_); go_simp; refine hKK _ ?_; clear hKK KK) | ((with_reducible refine vhrun_cons fun KK hKK => ?_); go_simp; refine hKK _ ?_; clear hKK KK))
    refine hR _ (k + 1) hlt (by omega) ?_
    go_simp
  · repeat (first | (with_reducible refine vseq ?_) | (with_reducible refine vthenN ?_) | (with_reducible refine vthenE ?_) | (with_reducible refine vthenR ?_) | (with_reducible refine vret ?_) | (with_reducible refine vskip ?_) | (with_reducible refine vexit ?_) | (with_reducible refine vblock ?_) | (with_reducible refine vblockN ?_) | (with_reducible refine vblockR ?_) | (with_reducible refine vblockH ?_) | (with_reducible refine vrun_nil ?_) | (with_reducible refine vblockE rfl ?_) | (with_reducible refine vregion [] ?_) | (with_reducible refine vhrun_nil ?_) | ((with_reducible refine vcondT ?_ ?_); (focus (go_simp; done))) | ((with_reducible refine vcondF ?_ ?_); (focus (go_simp; done))) | ((with_reducible refine vrun_cons fun KK hKK => ?_); go_simp; refine hKK _ ?_; clear hKK KK) | ((with_reducible refine vhrun_cons fun KK hKK => ?_); go_simp; refine hKK _ ?_; clear hKK KK))
    go_simp
theorem comp_first (l : List ByteArray) : compB l 1 = [tat l 0] := by simp [compB, keepB, List.range_succ]
theorem comp_next (l : List ByteArray) (m : Nat) : compB l (m + 1 + 1) = if tat l (m + 1) = tat l m then compB l (m + 1) else compB l (m + 1) ++ [tat l (m + 1)] := by
  rw [compB_succ]
  by_cases h : tat l (m + 1) = tat l m
  · simp [keepB, h]
  · simp [keepB, h]
theorem o59 (l : List Rec) (hl : l.length ≤ 1000) : VCo Try.prog 59 [recsA l] 9 1 (decide (l.length = 0)) ((compB (dvs l) l.length).map txtA) := by
  refine VCo_of Try.func59 rfl (by kernel_rfl) (by kernel_rfl) rfl Try.results59 (by decide) (txts_one _) fun M0 w0 => ?_
  simp only [Try.ntmps59, enumA]
  repeat (first | (with_reducible refine vseq ?_) | (with_reducible refine vthenN ?_) | (with_reducible refine vthenE ?_) | (with_reducible refine vthenR ?_) | (with_reducible refine vret ?_) | (with_reducible refine vskip ?_) | (with_reducible refine vexit ?_) | (with_reducible refine vblock ?_) | (with_reducible refine vblockN ?_) | (with_reducible refine vblockR ?_) | (with_reducible refine vblockH ?_) | (with_reducible refine vrun_nil ?_) | (with_reducible refine vblockE rfl ?_) | (with_reducible refine vregion [3] ?_) | (with_reducible refine vhrun_nil ?_) | ((with_reducible refine vcondT ?_ ?_); (focus (go_simp; done))) | ((with_reducible refine vcondF ?_ ?_); (focus (go_simp; done))) | ((with_reducible refine vrun_cons fun KK hKK => ?_); go_simp; refine hKK _ ?_; clear hKK KK) | ((with_reducible refine vhrun_cons fun KK hKK => ?_); go_simp; refine hKK _ ?_; clear hKK KK))
  refine vloop (α := Nat) (fun k => ⟨[(4, I k), (0, recsA l), (3, .osl 0)], [some (.arr 9 1 (decide (k = 0)) ((compB (dvs l) k).map txtA))]⟩) (fun k => k ≤ l.length) (fun k => l.length - k) 0 (Nat.zero_le _) (by simp only [compB, List.range_zero, List.filter_nil, List.map_nil]; go_simp) ?_
  rintro k hk K hR
  by_cases hlt : k < l.length
  · have hw := wrap_eq (x := (k : Int) + 1) (by omega) (by omega)
    cases k with
    | zero =>
      have hg : compB (dvs l) 1 = [l[0].driver] := by rw [comp_first, dvs_at hlt]
      have hg0 : compB (dvs l) 0 = [] := rfl
      have hw1 : IntKind.i64.wrap 1 = 1 := rfl
      clear hw
      repeat (first | (with_reducible refine vseq ?_) | (with_reducible refine vthenN ?_) | (with_reducible refine vthenE ?_) | (with_reducible refine vthenR ?_) | (with_reducible refine vret ?_) | (with_reducible refine vskip ?_) | (with_reducible refine vexit ?_) | (with_reducible refine vblock ?_) | (with_reducible refine vblockN ?_) | (with_reducible refine vblockR ?_) | (with_reducible refine vblockH ?_) | (with_reducible refine vrun_nil ?_) | (with_reducible refine vblockE rfl ?_) | (with_reducible refine vregion [] ?_) | (with_reducible refine vhrun_nil ?_) | ((with_reducible refine vcondT ?_ ?_); (focus (go_simp; done))) | ((with_reducible refine vcondF ?_ ?_); (focus (go_simp; done))) | ((with_reducible refine vrun_cons fun KK hKK => ?_); go_simp; refine hKK _ ?_; clear hKK KK) | ((with_reducible refine vhrun_cons fun KK hKK => ?_); go_simp; refine hKK _ ?_; clear hKK KK))
      refine vdraw 16 [] (by kernel_rfl) (by kernel_rfl) ?_
      simp only [List.take, List.drop]
      repeat (first | (with_reducible refine vseq ?_) | (with_reducible refine vthenN ?_) | (with_reducible refine vthenE ?_) | (with_reducible refine vthenR ?_) | (with_reducible refine vret ?_) | (with_reducible refine vskip ?_) | (with_reducible refine vexit ?_) | (with_reducible refine vblock ?_) | (with_reducible refine vblockN ?_) | (with_reducible refine vblockR ?_) | (with_reducible refine vblockH ?_) | (with_reducible refine vrun_nil ?_) | (with_reducible refine vblockE rfl ?_) | (with_reducible refine vregion [] ?_) | (with_reducible refine vhrun_nil ?_) | ((with_reducible refine vcondT ?_ ?_); (focus (go_simp; done))) | ((with_reducible refine vcondF ?_ ?_); (focus (go_simp; done))) | ((with_reducible refine vrun_cons fun KK hKK => ?_); go_simp; refine hKK _ ?_; clear hKK KK) | ((with_reducible refine vhrun_cons fun KK hKK => ?_); go_simp; refine hKK _ ?_; clear hKK KK))
      refine hR _ 1 hlt (by omega) ?_
      go_simp
    | succ m =>
      have hm : m < l.length := by omega
      have hlt' : (m : Int) + 1 < l.length := by omega
      have hpos2 : (0 : Int) ≤ m + 1 := by omega
      have hne : ¬ ((m : Int) + 1 = 0) := by omega
      have htn : ((m : Int) + 1).toNat = m + 1 := by omega
      have hw5 := wrap_eq (x := (m : Int) + 1 + 1) (by omega) (by omega)
      clear hw
      have hw3 := wrap_eq (x := (m : Int)) (by omega) (by omega)
      have hcl := compB_len (dvs l) (m + 1)
      have hn := comp_next (dvs l) m
      rw [dvs_at hlt, dvs_at hm] at hn
      have hb1 : (compB (dvs l) (m + 1)).length + 1 ≤ 1000000000 := by omega
      clear hcl
      by_cases he : l[m + 1].driver = l[m].driver
      · rw [if_pos he] at hn
        have HN := Lib.hid hn
        clear hn
        repeat (first | (with_reducible refine vseq ?_) | (with_reducible refine vthenN ?_) | (with_reducible refine vthenE ?_) | (with_reducible refine vthenR ?_) | (with_reducible refine vret ?_) | (with_reducible refine vskip ?_) | (with_reducible refine vexit ?_) | (with_reducible refine vblock ?_) | (with_reducible refine vblockN ?_) | (with_reducible refine vblockR ?_) | (with_reducible refine vblockH ?_) | (with_reducible refine vrun_nil ?_) | (with_reducible refine vblockE rfl ?_) | (with_reducible refine vregion [] ?_) | (with_reducible refine vhrun_nil ?_) | ((with_reducible refine vcondT ?_ ?_); (focus (go_simp; done))) | ((with_reducible refine vcondF ?_ ?_); (focus (go_simp; done))) | ((with_reducible refine vrun_cons fun KK hKK => ?_); go_simp; refine hKK _ ?_; clear hKK KK) | ((with_reducible refine vhrun_cons fun KK hKK => ?_); go_simp; refine hKK _ ?_; clear hKK KK))
        refine vdraw 16 [] (by kernel_rfl) (by kernel_rfl) ?_
        simp only [List.take, List.drop]
        repeat (first | (with_reducible refine vseq ?_) | (with_reducible refine vthenN ?_) | (with_reducible refine vthenE ?_) | (with_reducible refine vthenR ?_) | (with_reducible refine vret ?_) | (with_reducible refine vskip ?_) | (with_reducible refine vexit ?_) | (with_reducible refine vblock ?_) | (with_reducible refine vblockN ?_) | (with_reducible refine vblockR ?_) | (with_reducible refine vblockH ?_) | (with_reducible refine vrun_nil ?_) | (with_reducible refine vblockE rfl ?_) | (with_reducible refine vregion [] ?_) | (with_reducible refine vhrun_nil ?_) | ((with_reducible refine vcondT ?_ ?_); (focus (go_simp; done))) | ((with_reducible refine vcondF ?_ ?_); (focus (go_simp; done))) | ((with_reducible refine vrun_cons fun KK hKK => ?_); go_simp; refine hKK _ ?_; clear hKK KK) | ((with_reducible refine vhrun_cons fun KK hKK => ?_); go_simp; refine hKK _ ?_; clear hKK KK))
        refine hR _ (m + 1 + 1) hlt (by omega) ?_
        have hn := HN.out
        go_simp
      · rw [if_neg he] at hn
        have HN := Lib.hid hn
        clear hn
        repeat (first | (with_reducible refine vseq ?_) | (with_reducible refine vthenN ?_) | (with_reducible refine vthenE ?_) | (with_reducible refine vthenR ?_) | (with_reducible refine vret ?_) | (with_reducible refine vskip ?_) | (with_reducible refine vexit ?_) | (with_reducible refine vblock ?_) | (with_reducible refine vblockN ?_) | (with_reducible refine vblockR ?_) | (with_reducible refine vblockH ?_) | (with_reducible refine vrun_nil ?_) | (with_reducible refine vblockE rfl ?_) | (with_reducible refine vregion [] ?_) | (with_reducible refine vhrun_nil ?_) | ((with_reducible refine vcondT ?_ ?_); (focus (go_simp; done))) | ((with_reducible refine vcondF ?_ ?_); (focus (go_simp; done))) | ((with_reducible refine vrun_cons fun KK hKK => ?_); go_simp; refine hKK _ ?_; clear hKK KK) | ((with_reducible refine vhrun_cons fun KK hKK => ?_); go_simp; refine hKK _ ?_; clear hKK KK))
        refine vdraw 16 [] (by kernel_rfl) (by kernel_rfl) ?_
        simp only [List.take, List.drop]
        repeat (first | (with_reducible refine vseq ?_) | (with_reducible refine vthenN ?_) | (with_reducible refine vthenE ?_) | (with_reducible refine vthenR ?_) | (with_reducible refine vret ?_) | (with_reducible refine vskip ?_) | (with_reducible refine vexit ?_) | (with_reducible refine vblock ?_) | (with_reducible refine vblockN ?_) | (with_reducible refine vblockR ?_) | (with_reducible refine vblockH ?_) | (with_reducible refine vrun_nil ?_) | (with_reducible refine vblockE rfl ?_) | (with_reducible refine vregion [] ?_) | (with_reducible refine vhrun_nil ?_) | ((with_reducible refine vcondT ?_ ?_); (focus (go_simp; done))) | ((with_reducible refine vcondF ?_ ?_); (focus (go_simp; done))) | ((with_reducible refine vrun_cons fun KK hKK => ?_); go_simp; refine hKK _ ?_; clear hKK KK) | ((with_reducible refine vhrun_cons fun KK hKK => ?_); go_simp; refine hKK _ ?_; clear hKK KK))
        refine hR _ (m + 1 + 1) hlt (by omega) ?_
        have hn := HN.out
        go_simp
  · have e : k = l.length := by omega
    subst e
    repeat (first | (with_reducible refine vseq ?_) | (with_reducible refine vthenN ?_) | (with_reducible refine vthenE ?_) | (with_reducible refine vthenR ?_) | (with_reducible refine vret ?_) | (with_reducible refine vskip ?_) | (with_reducible refine vexit ?_) | (with_reducible refine vblock ?_) | (with_reducible refine vblockN ?_) | (with_reducible refine vblockR ?_) | (with_reducible refine vblockH ?_) | (with_reducible refine vrun_nil ?_) | (with_reducible refine vblockE rfl ?_) | (with_reducible refine vregion [] ?_) | (with_reducible refine vhrun_nil ?_) | ((with_reducible refine vcondT ?_ ?_); (focus (go_simp; done))) | ((with_reducible refine vcondF ?_ ?_); (focus (go_simp; done))) | ((with_reducible refine vrun_cons fun KK hKK => ?_); go_simp; refine hKK _ ?_; clear hKK KK) | ((with_reducible refine vhrun_cons fun KK hKK => ?_); go_simp; refine hKK _ ?_; clear hKK KK))
    go_simp
    exact ⟨0, rfl, rfl⟩
theorem v109 (r : Rec) (hs : r.driver.size ≤ 1000) : VC Try.prog 109 [.agg r.av] (I (recErr r)) := VC_mk1 (by kernel_rfl) fun w M v1 h1 => by
  rw [V0.agg_lits (us := [.string r.driver, .int .i64 r.lo, .int .i64 r.hi]) h1]
  exact (c109 r w hs).mono fun e w' ⟨he, hb⟩ => ⟨_, he, hb, .lit _⟩
theorem v108z (l : List Rec) (hk : 0 < l.length) (hs : l[0].driver.size ≤ 1000) : VC Try.prog 108 [I ((0 : Nat) : Int), .agg l[0].av, .vp [recsA l]] (I (chkE false l 0)) := by
  have e := chkE_zero false l
  rw [rat_get hk] at e
  rw [e]
  have hf : fst [recErr l[0], unl true 26] = recErr l[0] := by by_cases h : recErr l[0] = 0 <;> simp [fst, unl, h]
  rw [← hf]
  clear e hf
  refine VC_of Try.func108 rfl (by kernel_rfl) (by kernel_rfl) rfl fun M0 w0 => ?_
  simp only [Try.ntmps108, Try.results108, enumA]
  repeat (first | (with_reducible refine vseq ?_) | (with_reducible refine vthenN ?_) | (with_reducible refine vthenE ?_) | (with_reducible refine vthenR ?_) | (with_reducible refine vret ?_) | (with_reducible refine vskip ?_) | (with_reducible refine vexit ?_) | (with_reducible refine vblock ?_) | (with_reducible refine vblockN ?_) | (with_reducible refine vblockR ?_) | (with_reducible refine vblockH ?_) | (with_reducible refine vrun_nil ?_) | (with_reducible refine vblockE rfl ?_) | (with_reducible refine vregion [] ?_) | (with_reducible refine vhrun_nil ?_) | ((with_reducible refine vcondT ?_ ?_); (focus (go_simp; done))) | ((with_reducible refine vcondF ?_ ?_); (focus (go_simp; done))) | ((with_reducible refine vrun_cons fun KK hKK => ?_); go_simp; refine hKK _ ?_; clear hKK KK) | ((with_reducible refine vhrun_cons fun KK hKK => ?_); go_simp; refine hKK _ ?_; clear hKK KK))
  refine vdraw 17 [] (by kernel_rfl) (by kernel_rfl) ?_
  simp only [List.take, List.drop]
  repeat (first | (with_reducible refine vseq ?_) | (with_reducible refine vthenN ?_) | (with_reducible refine vthenE ?_) | (with_reducible refine vthenR ?_) | (with_reducible refine vret ?_) | (with_reducible refine vskip ?_) | (with_reducible refine vexit ?_) | (with_reducible refine vblock ?_) | (with_reducible refine vblockN ?_) | (with_reducible refine vblockR ?_) | (with_reducible refine vblockH ?_) | (with_reducible refine vrun_nil ?_) | (with_reducible refine vblockE rfl ?_) | (with_reducible refine vregion [] ?_) | (with_reducible refine vhrun_nil ?_) | ((with_reducible refine vcondT ?_ ?_); (focus (go_simp; done))) | ((with_reducible refine vcondF ?_ ?_); (focus (go_simp; done))) | ((with_reducible refine vrun_cons fun KK hKK => ?_); go_simp; (first | (refine ⟨_, v109 l[0] hs, ?_⟩) | (with_reducible refine ⟨_, v78 _ _, ?_⟩) | (refine ⟨_, v75 [_, _] rfl, ?_⟩) | skip); refine hKK _ ?_; clear hKK KK) | ((with_reducible refine vhrun_cons fun KK hKK => ?_); go_simp; (first | (refine ⟨_, v109 l[0] hs, ?_⟩) | (with_reducible refine ⟨_, v78 _ _, ?_⟩) | (refine ⟨_, v75 [_, _] rfl, ?_⟩) | skip); refine hKK _ ?_; clear hKK KK))
  go_simp
theorem v108s (l : List Rec) (m : Nat) (hk : m + 1 < l.length) (hl : l.length ≤ 1000) (hs : l[m + 1].driver.size ≤ 1000) : VC Try.prog 108 [I ((m + 1 : Nat) : Int), .agg l[m + 1].av, .vp [recsA l]] (I (chkE false l (m + 1))) := by
  have hm : m < l.length := by omega
  have e := chkE_any l (k := m + 1) (by omega)
  simp only [Nat.add_sub_cancel] at e
  rw [rat_get hk, rat_get hm] at e
  rw [← e]
  clear e
  have hne : ¬ ((m : Int) + 1 = 0) := by omega
  have hw3 := wrap_eq (x := (m : Int)) (by omega) (by omega)
  have hmx : (if 0 < m then (m : Int) else 0) = (m : Int) := by split <;> omega
  refine VC_of Try.func108 rfl (by kernel_rfl) (by kernel_rfl) rfl fun M0 w0 => ?_
  simp only [Try.ntmps108, Try.results108, enumA]
  repeat (first | (with_reducible refine vseq ?_) | (with_reducible refine vthenN ?_) | (with_reducible refine vthenE ?_) | (with_reducible refine vthenR ?_) | (with_reducible refine vret ?_) | (with_reducible refine vskip ?_) | (with_reducible refine vexit ?_) | (with_reducible refine vblock ?_) | (with_reducible refine vblockN ?_) | (with_reducible refine vblockR ?_) | (with_reducible refine vblockH ?_) | (with_reducible refine vrun_nil ?_) | (with_reducible refine vblockE rfl ?_) | (with_reducible refine vregion [] ?_) | (with_reducible refine vhrun_nil ?_) | ((with_reducible refine vcondT ?_ ?_); (focus (go_simp; done))) | ((with_reducible refine vcondF ?_ ?_); (focus (go_simp; done))) | ((with_reducible refine vrun_cons fun KK hKK => ?_); go_simp; refine hKK _ ?_; clear hKK KK) | ((with_reducible refine vhrun_cons fun KK hKK => ?_); go_simp; refine hKK _ ?_; clear hKK KK))
  refine vdraw 17 [] (by kernel_rfl) (by kernel_rfl) ?_
  simp only [List.take, List.drop]
  repeat (first | (with_reducible refine vseq ?_) | (with_reducible refine vthenN ?_) | (with_reducible refine vthenE ?_) | (with_reducible refine vthenR ?_) | (with_reducible refine vret ?_) | (with_reducible refine vskip ?_) | (with_reducible refine vexit ?_) | (with_reducible refine vblock ?_) | (with_reducible refine vblockN ?_) | (with_reducible refine vblockR ?_) | (with_reducible refine vblockH ?_) | (with_reducible refine vrun_nil ?_) | (with_reducible refine vblockE rfl ?_) | (with_reducible refine vregion [] ?_) | (with_reducible refine vhrun_nil ?_) | ((with_reducible refine vcondT ?_ ?_); (focus (go_simp; done))) | ((with_reducible refine vcondF ?_ ?_); (focus (go_simp; done))) | ((with_reducible refine vrun_cons fun KK hKK => ?_); go_simp; (first | (refine ⟨_, v109 l[m + 1] hs, ?_⟩) | (with_reducible refine ⟨_, v78 _ _, ?_⟩) | (refine ⟨_, v75 [_, _] rfl, ?_⟩) | skip); refine hKK _ ?_; clear hKK KK) | ((with_reducible refine vhrun_cons fun KK hKK => ?_); go_simp; (first | (refine ⟨_, v109 l[m + 1] hs, ?_⟩) | (with_reducible refine ⟨_, v78 _ _, ?_⟩) | (refine ⟨_, v75 [_, _] rfl, ?_⟩) | skip); refine hKK _ ?_; clear hKK KK))
  go_simp
theorem v108 (l : List Rec) (k : Nat) (hk : k < l.length) (hl : l.length ≤ 1000) (hs : l[k].driver.size ≤ 1000) : VC Try.prog 108 [I (k : Int), .agg l[k].av, .vp [recsA l]] (I (chkE false l k)) := by
  rcases k with _ | m
  · exact v108z l hk hs
  · exact v108s l m hk hl hs
theorem v107h (l : List Rec) (hl : l.length ≤ 1000) (hd : Small l) : VC Try.prog 107 [recsA l, I 40, .fn (.func 108) [] [.vp [recsA l]]] (.tup [I (checkRecs false l).1, I (checkRecs false l).2]) := by
  generalize hR0 : checkRecs false l = R
  unfold checkRecs checkL at hR0
  have HR := Lib.hid hR0
  clear hR0
  refine VC_of Try.func107 rfl (by kernel_rfl) (by kernel_rfl) rfl fun M0 w0 => ?_
  simp only [Try.ntmps107, Try.results107, enumA]
  by_cases hlen : (40 : Int) < l.length
  · repeat (first | (with_reducible refine vseq ?_) | (with_reducible refine vthenN ?_) | (with_reducible refine vthenE ?_) | (with_reducible refine vthenR ?_) | (with_reducible refine vret ?_) | (with_reducible refine vskip ?_) | (with_reducible refine vexit ?_) | (with_reducible refine vblock ?_) | (with_reducible refine vblockN ?_) | (with_reducible refine vblockR ?_) | (with_reducible refine vblockH ?_) | (with_reducible refine vrun_nil ?_) | (with_reducible refine vblockE rfl ?_) | (with_reducible refine vregion [] ?_) | (with_reducible refine vhrun_nil ?_) | ((with_reducible refine vcondT ?_ ?_); (focus (go_simp; done))) | ((with_reducible refine vcondF ?_ ?_); (focus (go_simp; done))) | ((with_reducible refine vrun_cons fun KK hKK => ?_); go_simp; refine hKK _ ?_; clear hKK KK) | ((with_reducible refine vhrun_cons fun KK hKK => ?_); go_simp; refine hKK _ ?_; clear hKK KK))
    have e := HR.out
    rw [if_pos hlen] at e
    subst e
    go_simp
  · repeat (first | (with_reducible refine vseq ?_) | (with_reducible refine vthenN ?_) | (with_reducible refine vthenE ?_) | (with_reducible refine vthenR ?_) | (with_reducible refine vret ?_) | (with_reducible refine vskip ?_) | (with_reducible refine vexit ?_) | (with_reducible refine vblock ?_) | (with_reducible refine vblockN ?_) | (with_reducible refine vblockR ?_) | (with_reducible refine vblockH ?_) | (with_reducible refine vrun_nil ?_) | (with_reducible refine vblockE rfl ?_) | (with_reducible refine vregion [] ?_) | (with_reducible refine vhrun_nil ?_) | ((with_reducible refine vcondT ?_ ?_); (focus (go_simp; done))) | ((with_reducible refine vcondF ?_ ?_); (focus (go_simp; done))) | ((with_reducible refine vrun_cons fun KK hKK => ?_); go_simp; refine hKK _ ?_; clear hKK KK) | ((with_reducible refine vhrun_cons fun KK hKK => ?_); go_simp; refine hKK _ ?_; clear hKK KK))
    have e := HR.out
    rw [if_neg hlen] at e
    refine vloop (α := Nat) (fun k => ⟨[(2, .fn (.func 108) [] [.vp [recsA l]]), (17, I k), (16, I l.length), (15, recsA l)], []⟩) (fun k => k ≤ l.length ∧ firstErr (chkE false l) k (l.length - k) = R) (fun k => l.length - k) 0 ⟨by omega, e⟩ (by clear e; go_simp) ?_
    clear e
    rintro k ⟨hk, hf⟩ K hR
    have HF := Lib.hid hf
    clear hf
    by_cases hlt : k < l.length
    · have hf := HF.out
      rw [firstErr_at hlt] at hf
      have HE := Lib.hid hf
      clear hf
      have H8 := Lib.hid (v108 l k hlt hl (hd.at_ hlt))
      generalize chkE false l k = E at *
      by_cases h0 : E = 0
      · have hw := wrap_eq (x := (k : Int) + 1) (by omega) (by omega)
        repeat (first | (with_reducible refine vseq ?_) | (with_reducible refine vthenN ?_) | (with_reducible refine vthenE ?_) | (with_reducible refine vthenR ?_) | (with_reducible refine vret ?_) | (with_reducible refine vskip ?_) | (with_reducible refine vexit ?_) | (with_reducible refine vblock ?_) | (with_reducible refine vblockN ?_) | (with_reducible refine vblockR ?_) | (with_reducible refine vblockH ?_) | (with_reducible refine vrun_nil ?_) | (with_reducible refine vblockE rfl ?_) | (with_reducible refine vregion [] ?_) | (with_reducible refine vhrun_nil ?_) | ((with_reducible refine vcondT ?_ ?_); (focus (go_simp; done))) | ((with_reducible refine vcondF ?_ ?_); (focus (go_simp; done))) | ((with_reducible refine vrun_cons fun KK hKK => ?_); go_simp; (first | (refine ⟨_, H8.out, ?_⟩) | skip); refine hKK _ ?_; clear hKK KK) | ((with_reducible refine vhrun_cons fun KK hKK => ?_); go_simp; (first | (refine ⟨_, H8.out, ?_⟩) | skip); refine hKK _ ?_; clear hKK KK))
        refine hR _ (k + 1) ⟨hlt, ?_⟩ (by omega) ?_
        · have := HE.out
          rwa [if_neg (by simpa using h0)] at this
        · go_simp
      · repeat (first | (with_reducible refine vseq ?_) | (with_reducible refine vthenN ?_) | (with_reducible refine vthenE ?_) | (with_reducible refine vthenR ?_) | (with_reducible refine vret ?_) | (with_reducible refine vskip ?_) | (with_reducible refine vexit ?_) | (with_reducible refine vblock ?_) | (with_reducible refine vblockN ?_) | (with_reducible refine vblockR ?_) | (with_reducible refine vblockH ?_) | (with_reducible refine vrun_nil ?_) | (with_reducible refine vblockE rfl ?_) | (with_reducible refine vregion [] ?_) | (with_reducible refine vhrun_nil ?_) | ((with_reducible refine vcondT ?_ ?_); (focus (go_simp; done))) | ((with_reducible refine vcondF ?_ ?_); (focus (go_simp; done))) | ((with_reducible refine vrun_cons fun KK hKK => ?_); go_simp; (first | (refine ⟨_, H8.out, ?_⟩) | skip); refine hKK _ ?_; clear hKK KK) | ((with_reducible refine vhrun_cons fun KK hKK => ?_); go_simp; (first | (refine ⟨_, H8.out, ?_⟩) | skip); refine hKK _ ?_; clear hKK KK))
        have e := HE.out
        rw [if_pos h0] at e
        subst e
        go_simp
    · repeat (first | (with_reducible refine vseq ?_) | (with_reducible refine vthenN ?_) | (with_reducible refine vthenE ?_) | (with_reducible refine vthenR ?_) | (with_reducible refine vret ?_) | (with_reducible refine vskip ?_) | (with_reducible refine vexit ?_) | (with_reducible refine vblock ?_) | (with_reducible refine vblockN ?_) | (with_reducible refine vblockR ?_) | (with_reducible refine vblockH ?_) | (with_reducible refine vrun_nil ?_) | (with_reducible refine vblockE rfl ?_) | (with_reducible refine vregion [] ?_) | (with_reducible refine vhrun_nil ?_) | ((with_reducible refine vcondT ?_ ?_); (focus (go_simp; done))) | ((with_reducible refine vcondF ?_ ?_); (focus (go_simp; done))) | ((with_reducible refine vrun_cons fun KK hKK => ?_); go_simp; refine hKK _ ?_; clear hKK KK) | ((with_reducible refine vhrun_cons fun KK hKK => ?_); go_simp; refine hKK _ ?_; clear hKK KK))
      have e := HF.out
      rw [show l.length - k = 0 by omega, firstErr] at e
      subst e
      go_simp
theorem v53e (l : List Rec) (hl : l.length ≤ 1000) (hd : Small l) (he : (checkRecs false l).2 ≠ 0) : VC Try.prog 53 [recsA l] (.tup [.lit (.slice none 0 0), I (checkRecs false l).2]) := by
  have H7 := Lib.hid (v107h l hl hd)
  generalize checkRecs false l = R at *
  refine VC_of Try.func53 rfl (by kernel_rfl) (by kernel_rfl) rfl fun M0 w0 => ?_
  simp only [Try.ntmps53, Try.results53, enumA]
  repeat (first | (with_reducible refine vseq ?_) | (with_reducible refine vthenN ?_) | (with_reducible refine vthenE ?_) | (with_reducible refine vthenR ?_) | (with_reducible refine vret ?_) | (with_reducible refine vskip ?_) | (with_reducible refine vexit ?_) | (with_reducible refine vblock ?_) | (with_reducible refine vblockN ?_) | (with_reducible refine vblockR ?_) | (with_reducible refine vblockH ?_) | (with_reducible refine vrun_nil ?_) | (with_reducible refine vblockE rfl ?_) | (with_reducible refine vregion [] ?_) | (with_reducible refine vhrun_nil ?_) | ((with_reducible refine vcondT ?_ ?_); (focus (go_simp; done))) | ((with_reducible refine vcondF ?_ ?_); (focus (go_simp; done))) | ((with_reducible refine vrun_cons fun KK hKK => ?_); go_simp; (first | (refine ⟨_, H7.out, ?_⟩) | skip); refine hKK _ ?_; clear hKK KK) | ((with_reducible refine vhrun_cons fun KK hKK => ?_); go_simp; (first | (refine ⟨_, H7.out, ?_⟩) | skip); refine hKK _ ?_; clear hKK KK))
  go_simp
theorem v110e : VC Try.prog 110 [.sl 1 []] (.sl 1 []) := by
  refine VC_of Try.func110 rfl (by kernel_rfl) (by kernel_rfl) rfl fun M0 w0 => ?_
  simp only [Try.ntmps110, Try.results110, enumA]
  repeat (first | (with_reducible refine vseq ?_) | (with_reducible refine vthenN ?_) | (with_reducible refine vthenE ?_) | (with_reducible refine vthenR ?_) | (with_reducible refine vret ?_) | (with_reducible refine vskip ?_) | (with_reducible refine vexit ?_) | (with_reducible refine vblock ?_) | (with_reducible refine vblockN ?_) | (with_reducible refine vblockR ?_) | (with_reducible refine vblockH ?_) | (with_reducible refine vrun_nil ?_) | (with_reducible refine vblockE rfl ?_) | (with_reducible refine vregion [] ?_) | (with_reducible refine vhrun_nil ?_) | ((with_reducible refine vcondT ?_ ?_); (focus (go_simp; done))) | ((with_reducible refine vcondF ?_ ?_); (focus (go_simp; done))) | ((with_reducible refine vrun_cons fun KK hKK => ?_); go_simp; refine hKK _ ?_; clear hKK KK) | ((with_reducible refine vhrun_cons fun KK hKK => ?_); go_simp; refine hKK _ ?_; clear hKK KK))
  go_simp
def takA (l : List Rec) (k : Nat) : List (List AV) := ((dvs l).map txtA).take k
theorem takA_len (l : List Rec) (k : Nat) : (takA l k).length ≤ l.length := by
  simp only [takA, List.length_take, List.length_map, dvs_len]
  omega
theorem takA_all (l : List Rec) : takA l l.length = (dvs l).map txtA := by
  unfold takA
  rw [List.take_of_length_le (by simp [dvs_len])]
theorem take_next (l : List Rec) {k : Nat} (h : k < l.length) : takA l (k + 1) = takA l k ++ [[S l[k].driver]] := by
  unfold takA
  rw [List.take_add_one, List.getElem?_eq_getElem (by simp [dvs_len]; exact h)]
  simp [dvs, txtA]
theorem v53 (l : List Rec) (hl : l.length ≤ 1000) (hd : Small l) (he : (checkRecs false l).2 = 0) : VC Try.prog 53 [recsA l] (.tup [txtsA (compB (dvs l) l.length), I 0]) := by
  have H7 := Lib.hid (v107h l hl hd)
  generalize checkRecs false l = R at *
  have HW := Lib.hid (w110 (dvs l))
  have HT := Lib.hid (compRow_take (dvs l))
  refine VC_of Try.func53 rfl (by kernel_rfl) (by kernel_rfl) rfl fun M0 w0 => ?_
  simp only [Try.ntmps53, Try.results53, enumA]
  repeat (first | (with_reducible refine vseq ?_) | (with_reducible refine vthenN ?_) | (with_reducible refine vthenE ?_) | (with_reducible refine vthenR ?_) | (with_reducible refine vret ?_) | (with_reducible refine vskip ?_) | (with_reducible refine vexit ?_) | (with_reducible refine vblock ?_) | (with_reducible refine vblockN ?_) | (with_reducible refine vblockR ?_) | (with_reducible refine vblockH ?_) | (with_reducible refine vrun_nil ?_) | (with_reducible refine vblockE rfl ?_) | (with_reducible refine vregion [6] ?_) | (with_reducible refine vhrun_nil ?_) | ((with_reducible refine vcondT ?_ ?_); (focus (go_simp; done))) | ((with_reducible refine vcondF ?_ ?_); (focus (go_simp; done))) | ((with_reducible refine vrun_cons fun KK hKK => ?_); go_simp; (first | (refine ⟨_, H7.out, ?_⟩) | skip); refine hKK _ ?_; clear hKK KK) | ((with_reducible refine vhrun_cons fun KK hKK => ?_); go_simp; (first | (refine ⟨_, H7.out, ?_⟩) | skip); refine hKK _ ?_; clear hKK KK))
  refine vloop (α := Nat) (fun k => ⟨[(20, I k), (19, I l.length), (18, recsA l), (6, .osl 0)], [some (.arr 9 1 (decide (k = 0)) (takA l k))]⟩) (fun k => k ≤ l.length) (fun k => l.length - k) 0 (Nat.zero_le _) (by simp only [takA, List.take_zero]; go_simp) ?_
  rintro k hk K hR
  by_cases hlt : k < l.length
  · have hn := take_next l hlt
    have HN := Lib.hid hn
    clear hn
    rcases k with _ | m
    · have hw1 : IntKind.i64.wrap 1 = 1 := rfl
      have h00 : takA l 0 = [] := rfl
      repeat (first | (with_reducible refine vseq ?_) | (with_reducible refine vthenN ?_) | (with_reducible refine vthenE ?_) | (with_reducible refine vthenR ?_) | (with_reducible refine vret ?_) | (with_reducible refine vskip ?_) | (with_reducible refine vexit ?_) | (with_reducible refine vblock ?_) | (with_reducible refine vblockN ?_) | (with_reducible refine vblockR ?_) | (with_reducible refine vblockH ?_) | (with_reducible refine vrun_nil ?_) | (with_reducible refine vblockE rfl ?_) | (with_reducible refine vregion [] ?_) | (with_reducible refine vhrun_nil ?_) | ((with_reducible refine vcondT ?_ ?_); (focus (go_simp; done))) | ((with_reducible refine vcondF ?_ ?_); (focus (go_simp; done))) | ((with_reducible refine vrun_cons fun KK hKK => ?_); go_simp; refine hKK _ ?_; clear hKK KK) | ((with_reducible refine vhrun_cons fun KK hKK => ?_); go_simp; refine hKK _ ?_; clear hKK KK))
      refine hR _ 1 hlt (by omega) ?_
      have hn := HN.out
      go_simp
    · have hlt' : (m : Int) + 1 < l.length := by omega
      have hpos2 : (0 : Int) ≤ m + 1 := by omega
      have htn : ((m : Int) + 1).toNat = m + 1 := by omega
      have hw5 := wrap_eq (x := (m : Int) + 1 + 1) (by omega) (by omega)
      have hdl := takA_len l (m + 1)
      have hb1 : (takA l (m + 1)).length + 1 ≤ 1000000000 := by omega
      clear hdl
      repeat (first | (with_reducible refine vseq ?_) | (with_reducible refine vthenN ?_) | (with_reducible refine vthenE ?_) | (with_reducible refine vthenR ?_) | (with_reducible refine vret ?_) | (with_reducible refine vskip ?_) | (with_reducible refine vexit ?_) | (with_reducible refine vblock ?_) | (with_reducible refine vblockN ?_) | (with_reducible refine vblockR ?_) | (with_reducible refine vblockH ?_) | (with_reducible refine vrun_nil ?_) | (with_reducible refine vblockE rfl ?_) | (with_reducible refine vregion [] ?_) | (with_reducible refine vhrun_nil ?_) | ((with_reducible refine vcondT ?_ ?_); (focus (go_simp; done))) | ((with_reducible refine vcondF ?_ ?_); (focus (go_simp; done))) | ((with_reducible refine vrun_cons fun KK hKK => ?_); go_simp; refine hKK _ ?_; clear hKK KK) | ((with_reducible refine vhrun_cons fun KK hKK => ?_); go_simp; refine hKK _ ?_; clear hKK KK))
      refine hR _ (m + 1 + 1) hlt (by omega) ?_
      have hn := HN.out
      go_simp
  · have e : k = l.length := by omega
    subst e
    repeat (first | (with_reducible refine vseq ?_) | (with_reducible refine vthenN ?_) | (with_reducible refine vthenE ?_) | (with_reducible refine vthenR ?_) | (with_reducible refine vret ?_) | (with_reducible refine vskip ?_) | (with_reducible refine vexit ?_) | (with_reducible refine vblock ?_) | (with_reducible refine vblockN ?_) | (with_reducible refine vblockR ?_) | (with_reducible refine vblockH ?_) | (with_reducible refine vrun_nil ?_) | (with_reducible refine vblockE rfl ?_) | (with_reducible refine vhrun_nil ?_) | ((with_reducible refine vcondT ?_ ?_); (focus (go_simp; done))) | ((with_reducible refine vcondF ?_ ?_); (focus (go_simp; done))) | ((with_reducible refine vrun_cons fun KK hKK => ?_); go_simp; refine hKK _ ?_; clear hKK KK) | ((with_reducible refine vhrun_cons fun KK hKK => ?_); go_simp; refine hKK _ ?_; clear hKK KK))
    refine vregion [] ?_
    repeat (first | (with_reducible refine vseq ?_) | (with_reducible refine vthenN ?_) | (with_reducible refine vthenE ?_) | (with_reducible refine vthenR ?_) | (with_reducible refine vret ?_) | (with_reducible refine vskip ?_) | (with_reducible refine vexit ?_) | (with_reducible refine vblock ?_) | (with_reducible refine vblockN ?_) | (with_reducible refine vblockR ?_) | (with_reducible refine vblockH ?_) | (with_reducible refine vrun_nil ?_) | (with_reducible refine vblockE rfl ?_) | (with_reducible refine vhrun_nil ?_) | ((with_reducible refine vcondT ?_ ?_); (focus (go_simp; done))) | ((with_reducible refine vcondF ?_ ?_); (focus (go_simp; done))) | ((with_reducible refine vrun_cons fun KK hKK => ?_); go_simp; refine hKK _ ?_; clear hKK KK) | ((with_reducible refine vhrun_cons fun KK hKK => ?_); go_simp; refine hKK _ ?_; clear hKK KK))
    by_cases h0 : l = []
    · subst h0
      refine vfreeze 6 0 (by go_simp) rfl ?_
      simp only [List.set]
      have ht : takA [] ([] : List Rec).length = [] := rfl
      have hc : compB (dvs []) ([] : List Rec).length = [] := rfl
      rw [ht, hc]
      repeat (first | (with_reducible refine vseq ?_) | (with_reducible refine vthenN ?_) | (with_reducible refine vthenE ?_) | (with_reducible refine vthenR ?_) | (with_reducible refine vret ?_) | (with_reducible refine vskip ?_) | (with_reducible refine vexit ?_) | (with_reducible refine vblock ?_) | (with_reducible refine vblockN ?_) | (with_reducible refine vblockR ?_) | (with_reducible refine vblockH ?_) | (with_reducible refine vrun_nil ?_) | (with_reducible refine vblockE rfl ?_) | (with_reducible refine vregion [] ?_) | (with_reducible refine vhrun_nil ?_) | ((with_reducible refine vcondT ?_ ?_); (focus (go_simp; done))) | ((with_reducible refine vcondF ?_ ?_); (focus (go_simp; done))) | ((with_reducible refine vrun_cons fun KK hKK => ?_); go_simp; (first | (with_reducible refine ⟨_, v110e, ?_⟩) | skip); refine hKK _ ?_; clear hKK KK) | ((with_reducible refine vhrun_cons fun KK hKK => ?_); go_simp; (first | (with_reducible refine ⟨_, v110e, ?_⟩) | skip); refine hKK _ ?_; clear hKK KK))
      go_simp
    · refine vregionW [] 1 ⟨rfl, rfl⟩ ?_
      simp only [List.take]
      refine vrun_cons fun KK hKK => ?_
      go_simp
      refine hKK _ ?_
      clear hKK KK
      refine vrun_nil ?_
      refine ⟨_, 110, 0, 9, 1, (dvs l).map txtA, _, [], _, by trivial, by simp, rfl, ?_, ?_, rfl, HW.out, ?_⟩
      · go_simp
      · have ha := takA_all l
        go_simp
      · have ht := HT.out
        simp only [wriS, ← List.map_take, ht]
        have hdl := dvs_len l
        repeat (first | (with_reducible refine vseq ?_) | (with_reducible refine vthenN ?_) | (with_reducible refine vthenE ?_) | (with_reducible refine vthenR ?_) | (with_reducible refine vret ?_) | (with_reducible refine vskip ?_) | (with_reducible refine vexit ?_) | (with_reducible refine vblock ?_) | (with_reducible refine vblockN ?_) | (with_reducible refine vblockR ?_) | (with_reducible refine vblockH ?_) | (with_reducible refine vrun_nil ?_) | (with_reducible refine vblockE rfl ?_) | (with_reducible refine vregion [] ?_) | (with_reducible refine vhrun_nil ?_) | ((with_reducible refine vcondT ?_ ?_); (focus (go_simp; done))) | ((with_reducible refine vcondF ?_ ?_); (focus (go_simp; done))) | ((with_reducible refine vrun_cons fun KK hKK => ?_); go_simp; refine hKK _ ?_; clear hKK KK) | ((with_reducible refine vhrun_cons fun KK hKK => ?_); go_simp; refine hKK _ ?_; clear hKK KK))
        go_simp
end Go.Proofs.Ytmfmpagfjgpodaa

/-! VCars2: Walks on plain values: when a car is looked at next; no condition but what each says. -/
namespace Go.Proofs.Ytmfmpagfjgpodaa
open Go.RowKit
set_option maxRecDepth 100000
abbrev intsA (l : List Int) : AV := .sl 1 (l.map intA)
def iat (l : List Int) (k : Nat) : Int := l.getD k 0
theorem iat_get {l : List Int} {k : Nat} (h : k < l.length) : iat l k = l[k] := by simp [iat, h]
theorem ints_one (l : List Int) : ∀ (k : Nat) (x : List AV), (l.map intA)[k]? = some x → x.length = 1 ∧ ∀ c ∈ x, oneAV c = true := by
  intro k x hk
  obtain ⟨r, _, rfl⟩ := map_at hk
  refine ⟨rfl, fun c hc => ?_⟩
  simp only [intA, List.mem_cons, List.not_mem_nil, or_false] at hc
  rcases hc with rfl
  rfl
theorem o55 (l : List Int) (hl : l.length ≤ 1000000) : VCo Try.prog 55 [intsA l] 3 1 false (l.map intA) := by
  refine VCo_of Try.func55 rfl (by kernel_rfl) (by kernel_rfl) rfl Try.results55 (by decide) (ints_one l) fun M0 w0 => ?_
  simp only [Try.ntmps55, enumA]
  have hl2 : l.length ≤ 1000000000 := by omega
  repeat (first | (with_reducible refine vseq ?_) | (with_reducible refine vthenN ?_) | (with_reducible refine vthenE ?_) | (with_reducible refine vthenR ?_) | (with_reducible refine vret ?_) | (with_reducible refine vskip ?_) | (with_reducible refine vexit ?_) | (with_reducible refine vblock ?_) | (with_reducible refine vblockN ?_) | (with_reducible refine vblockR ?_) | (with_reducible refine vblockH ?_) | (with_reducible refine vrun_nil ?_) | (with_reducible refine vblockE rfl ?_) | (with_reducible refine vregion [3] ?_) | (with_reducible refine vhrun_nil ?_) | ((with_reducible refine vcondT ?_ ?_); (focus (go_simp; done))) | ((with_reducible refine vcondF ?_ ?_); (focus (go_simp; done))) | ((with_reducible refine vrun_cons fun KK hKK => ?_); go_simp; refine hKK _ ?_; clear hKK KK) | ((with_reducible refine vhrun_cons fun KK hKK => ?_); go_simp; refine hKK _ ?_; clear hKK KK))
  exact ⟨0, rfl, rfl⟩
/-- The error of date number k. -/
def dchk (l : List Int) (k : Nat) : Int := fst [dateErr (iat l k), unl (decide (k = 0) || decide (iat l (k - 1) < iat l k)) 9]
def datesE (l : List Int) : Nat × Int := checkL l.length 20 (dchk l)
theorem v114 (d date : Int) : VC Try.prog 114 [I d, .vp [I date]] (B (decide (date < d))) := by
  refine VC_of Try.func114 rfl (by kernel_rfl) (by kernel_rfl) rfl fun M0 w0 => ?_
  simp only [Try.ntmps114, Try.results114, enumA]
  repeat (first | (with_reducible refine vseq ?_) | (with_reducible refine vthenN ?_) | (with_reducible refine vthenE ?_) | (with_reducible refine vthenR ?_) | (with_reducible refine vret ?_) | (with_reducible refine vskip ?_) | (with_reducible refine vexit ?_) | (with_reducible refine vblock ?_) | (with_reducible refine vblockN ?_) | (with_reducible refine vblockR ?_) | (with_reducible refine vblockH ?_) | (with_reducible refine vrun_nil ?_) | (with_reducible refine vblockE rfl ?_) | (with_reducible refine vregion [] ?_) | (with_reducible refine vhrun_nil ?_) | ((with_reducible refine vcondT ?_ ?_); (focus (go_simp; done))) | ((with_reducible refine vcondF ?_ ?_); (focus (go_simp; done))) | ((with_reducible refine vrun_cons fun KK hKK => ?_); go_simp; refine hKK _ ?_; clear hKK KK) | ((with_reducible refine vhrun_cons fun KK hKK => ?_); go_simp; refine hKK _ ?_; clear hKK KK))
  go_simp
theorem v113 (l : List Int) (date : Int) (hl : l.length ≤ 1000000) : VC Try.prog 113 [intsA l, .fn (.func 114) [] [.vp [I date]]] (I (ixP (fun k => decide (date < iat l k)) 0 l.length)) := by
  generalize hR0 : ixP (fun k => decide (date < iat l k)) 0 l.length = R
  have HR := Lib.hid hR0
  clear hR0
  refine VC_of Try.func113 rfl (by kernel_rfl) (by kernel_rfl) rfl fun M0 w0 => ?_
  simp only [Try.ntmps113, Try.results113, enumA]
  repeat (first | (with_reducible refine vseq ?_) | (with_reducible refine vthenN ?_) | (with_reducible refine vthenE ?_) | (with_reducible refine vthenR ?_) | (with_reducible refine vret ?_) | (with_reducible refine vskip ?_) | (with_reducible refine vexit ?_) | (with_reducible refine vblock ?_) | (with_reducible refine vblockN ?_) | (with_reducible refine vblockR ?_) | (with_reducible refine vblockH ?_) | (with_reducible refine vrun_nil ?_) | (with_reducible refine vblockE rfl ?_) | (with_reducible refine vregion [] ?_) | (with_reducible refine vhrun_nil ?_) | ((with_reducible refine vcondT ?_ ?_); (focus (go_simp; done))) | ((with_reducible refine vcondF ?_ ?_); (focus (go_simp; done))) | ((with_reducible refine vrun_cons fun KK hKK => ?_); go_simp; refine hKK _ ?_; clear hKK KK) | ((with_reducible refine vhrun_cons fun KK hKK => ?_); go_simp; refine hKK _ ?_; clear hKK KK))
  refine vloop (α := Nat) (fun k => ⟨[(8, I k), (7, I l.length), (0, intsA l), (1, .fn (.func 114) [] [.vp [I date]])], []⟩) (fun k => k ≤ l.length ∧ ixP (fun k => decide (date < iat l k)) k (l.length - k) = R) (fun k => l.length - k) 0 ⟨by omega, HR.out⟩ (by go_simp) ?_
  rintro k ⟨hk, hf⟩ K hR
  have HF := Lib.hid hf
  clear hf
  by_cases hlt : k < l.length
  · have hf := HF.out
    rw [ixP_at hlt, iat_get hlt] at hf
    have HE := Lib.hid hf
    clear hf
    have hw := wrap_eq (x := (k : Int) + 1) (by omega) (by omega)
    by_cases h : date < l[k]
    · repeat (first | (with_reducible refine vseq ?_) | (with_reducible refine vthenN ?_) | (with_reducible refine vthenE ?_) | (with_reducible refine vthenR ?_) | (with_reducible refine vret ?_) | (with_reducible refine vskip ?_) | (with_reducible refine vexit ?_) | (with_reducible refine vblock ?_) | (with_reducible refine vblockN ?_) | (with_reducible refine vblockR ?_) | (with_reducible refine vblockH ?_) | (with_reducible refine vrun_nil ?_) | (with_reducible refine vblockE rfl ?_) | (with_reducible refine vregion [] ?_) | (with_reducible refine vhrun_nil ?_) | ((with_reducible refine vcondT ?_ ?_); (focus (go_simp; done))) | ((with_reducible refine vcondF ?_ ?_); (focus (go_simp; done))) | ((with_reducible refine vrun_cons fun KK hKK => ?_); go_simp; (first | (with_reducible refine ⟨_, v114 _ _, ?_⟩) | skip); refine hKK _ ?_; clear hKK KK) | ((with_reducible refine vhrun_cons fun KK hKK => ?_); go_simp; (first | (with_reducible refine ⟨_, v114 _ _, ?_⟩) | skip); refine hKK _ ?_; clear hKK KK))
      have e := HE.out
      rw [if_pos (by simpa using h)] at e
      clear h
      subst e
      go_simp
    · repeat (first | (with_reducible refine vseq ?_) | (with_reducible refine vthenN ?_) | (with_reducible refine vthenE ?_) | (with_reducible refine vthenR ?_) | (with_reducible refine vret ?_) | (with_reducible refine vskip ?_) | (with_reducible refine vexit ?_) | (with_reducible refine vblock ?_) | (with_reducible refine vblockN ?_) | (with_reducible refine vblockR ?_) | (with_reducible refine vblockH ?_) | (with_reducible refine vrun_nil ?_) | (with_reducible refine vblockE rfl ?_) | (with_reducible refine vregion [] ?_) | (with_reducible refine vhrun_nil ?_) | ((with_reducible refine vcondT ?_ ?_); (focus (go_simp; done))) | ((with_reducible refine vcondF ?_ ?_); (focus (go_simp; done))) | ((with_reducible refine vrun_cons fun KK hKK => ?_); go_simp; (first | (with_reducible refine ⟨_, v114 _ _, ?_⟩) | skip); refine hKK _ ?_; clear hKK KK) | ((with_reducible refine vhrun_cons fun KK hKK => ?_); go_simp; (first | (with_reducible refine ⟨_, v114 _ _, ?_⟩) | skip); refine hKK _ ?_; clear hKK KK))
      refine hR _ (k + 1) ⟨hlt, ?_⟩ (by omega) ?_
      · have := HE.out
        rwa [if_neg (by simpa using h)] at this
      · go_simp
  · repeat (first | (with_reducible refine vseq ?_) | (with_reducible refine vthenN ?_) | (with_reducible refine vthenE ?_) | (with_reducible refine vthenR ?_) | (with_reducible refine vret ?_) | (with_reducible refine vskip ?_) | (with_reducible refine vexit ?_) | (with_reducible refine vblock ?_) | (with_reducible refine vblockN ?_) | (with_reducible refine vblockR ?_) | (with_reducible refine vblockH ?_) | (with_reducible refine vrun_nil ?_) | (with_reducible refine vblockE rfl ?_) | (with_reducible refine vregion [] ?_) | (with_reducible refine vhrun_nil ?_) | ((with_reducible refine vcondT ?_ ?_); (focus (go_simp; done))) | ((with_reducible refine vcondF ?_ ?_); (focus (go_simp; done))) | ((with_reducible refine vrun_cons fun KK hKK => ?_); go_simp; refine hKK _ ?_; clear hKK KK) | ((with_reducible refine vhrun_cons fun KK hKK => ?_); go_simp; refine hKK _ ?_; clear hKK KK))
    have e := HF.out
    rw [show l.length - k = 0 by omega, ixP] at e
    subst e
    go_simp
theorem v112z (l : List Int) (hk : 0 < l.length) : VC Try.prog 112 [I ((0 : Nat) : Int), I l[0], .vp [intsA l]] (I (dchk l 0)) := by
  unfold dchk
  rw [iat_get hk]
  simp only [decide_true, Bool.true_or]
  refine VC_of Try.func112 rfl (by kernel_rfl) (by kernel_rfl) rfl fun M0 w0 => ?_
  simp only [Try.ntmps112, Try.results112, enumA]
  repeat (first | (with_reducible refine vseq ?_) | (with_reducible refine vthenN ?_) | (with_reducible refine vthenE ?_) | (with_reducible refine vthenR ?_) | (with_reducible refine vret ?_) | (with_reducible refine vskip ?_) | (with_reducible refine vexit ?_) | (with_reducible refine vblock ?_) | (with_reducible refine vblockN ?_) | (with_reducible refine vblockR ?_) | (with_reducible refine vblockH ?_) | (with_reducible refine vrun_nil ?_) | (with_reducible refine vblockE rfl ?_) | (with_reducible refine vregion [] ?_) | (with_reducible refine vhrun_nil ?_) | ((with_reducible refine vcondT ?_ ?_); (focus (go_simp; done))) | ((with_reducible refine vcondF ?_ ?_); (focus (go_simp; done))) | ((with_reducible refine vrun_cons fun KK hKK => ?_); go_simp; (first | (with_reducible refine ⟨_, v100 _, ?_⟩) | (with_reducible refine ⟨_, v78 _ _, ?_⟩) | (refine ⟨_, v75 [_, _] rfl, ?_⟩) | skip); refine hKK _ ?_; clear hKK KK) | ((with_reducible refine vhrun_cons fun KK hKK => ?_); go_simp; (first | (with_reducible refine ⟨_, v100 _, ?_⟩) | (with_reducible refine ⟨_, v78 _ _, ?_⟩) | (refine ⟨_, v75 [_, _] rfl, ?_⟩) | skip); refine hKK _ ?_; clear hKK KK))
  go_simp
theorem v112s (l : List Int) (m : Nat) (hk : m + 1 < l.length) (hl : l.length ≤ 1000) : VC Try.prog 112 [I ((m + 1 : Nat) : Int), I l[m + 1], .vp [intsA l]] (I (dchk l (m + 1))) := by
  unfold dchk
  have hm : m < l.length := by omega
  rw [Nat.add_sub_cancel, iat_get hk, iat_get hm, show decide (m + 1 = 0) = false by simp, Bool.false_or]
  have hne : ¬ ((m : Int) + 1 = 0) := by omega
  have hw3 := wrap_eq (x := (m : Int)) (by omega) (by omega)
  have hmx : (if 0 < m then (m : Int) else 0) = (m : Int) := by split <;> omega
  refine VC_of Try.func112 rfl (by kernel_rfl) (by kernel_rfl) rfl fun M0 w0 => ?_
  simp only [Try.ntmps112, Try.results112, enumA]
  repeat (first | (with_reducible refine vseq ?_) | (with_reducible refine vthenN ?_) | (with_reducible refine vthenE ?_) | (with_reducible refine vthenR ?_) | (with_reducible refine vret ?_) | (with_reducible refine vskip ?_) | (with_reducible refine vexit ?_) | (with_reducible refine vblock ?_) | (with_reducible refine vblockN ?_) | (with_reducible refine vblockR ?_) | (with_reducible refine vblockH ?_) | (with_reducible refine vrun_nil ?_) | (with_reducible refine vblockE rfl ?_) | (with_reducible refine vregion [] ?_) | (with_reducible refine vhrun_nil ?_) | ((with_reducible refine vcondT ?_ ?_); (focus (go_simp; done))) | ((with_reducible refine vcondF ?_ ?_); (focus (go_simp; done))) | ((with_reducible refine vrun_cons fun KK hKK => ?_); go_simp; (first | (with_reducible refine ⟨_, v100 _, ?_⟩) | (with_reducible refine ⟨_, v78 _ _, ?_⟩) | (refine ⟨_, v75 [_, _] rfl, ?_⟩) | skip); refine hKK _ ?_; clear hKK KK) | ((with_reducible refine vhrun_cons fun KK hKK => ?_); go_simp; (first | (with_reducible refine ⟨_, v100 _, ?_⟩) | (with_reducible refine ⟨_, v78 _ _, ?_⟩) | (refine ⟨_, v75 [_, _] rfl, ?_⟩) | skip); refine hKK _ ?_; clear hKK KK))
  go_simp
theorem v112 (l : List Int) (k : Nat) (hk : k < l.length) (hl : l.length ≤ 1000) : VC Try.prog 112 [I (k : Int), I l[k], .vp [intsA l]] (I (dchk l k)) := by
  rcases k with _ | m
  · exact v112z l hk
  · exact v112s l m hk hl
theorem v111 (l : List Int) (hl : l.length ≤ 1000) : VC Try.prog 111 [intsA l, I 20, .fn (.func 112) [] [.vp [intsA l]]] (.tup [I (datesE l).1, I (datesE l).2]) := by
  generalize hR0 : datesE l = R
  unfold datesE checkL at hR0
  have HR := Lib.hid hR0
  clear hR0
  refine VC_of Try.func111 rfl (by kernel_rfl) (by kernel_rfl) rfl fun M0 w0 => ?_
  simp only [Try.ntmps111, Try.results111, enumA]
  by_cases hlen : (20 : Int) < l.length
  · repeat (first | (with_reducible refine vseq ?_) | (with_reducible refine vthenN ?_) | (with_reducible refine vthenE ?_) | (with_reducible refine vthenR ?_) | (with_reducible refine vret ?_) | (with_reducible refine vskip ?_) | (with_reducible refine vexit ?_) | (with_reducible refine vblock ?_) | (with_reducible refine vblockN ?_) | (with_reducible refine vblockR ?_) | (with_reducible refine vblockH ?_) | (with_reducible refine vrun_nil ?_) | (with_reducible refine vblockE rfl ?_) | (with_reducible refine vregion [] ?_) | (with_reducible refine vhrun_nil ?_) | ((with_reducible refine vcondT ?_ ?_); (focus (go_simp; done))) | ((with_reducible refine vcondF ?_ ?_); (focus (go_simp; done))) | ((with_reducible refine vrun_cons fun KK hKK => ?_); go_simp; refine hKK _ ?_; clear hKK KK) | ((with_reducible refine vhrun_cons fun KK hKK => ?_); go_simp; refine hKK _ ?_; clear hKK KK))
    have e := HR.out
    rw [if_pos hlen] at e
    subst e
    go_simp
  · repeat (first | (with_reducible refine vseq ?_) | (with_reducible refine vthenN ?_) | (with_reducible refine vthenE ?_) | (with_reducible refine vthenR ?_) | (with_reducible refine vret ?_) | (with_reducible refine vskip ?_) | (with_reducible refine vexit ?_) | (with_reducible refine vblock ?_) | (with_reducible refine vblockN ?_) | (with_reducible refine vblockR ?_) | (with_reducible refine vblockH ?_) | (with_reducible refine vrun_nil ?_) | (with_reducible refine vblockE rfl ?_) | (with_reducible refine vregion [] ?_) | (with_reducible refine vhrun_nil ?_) | ((with_reducible refine vcondT ?_ ?_); (focus (go_simp; done))) | ((with_reducible refine vcondF ?_ ?_); (focus (go_simp; done))) | ((with_reducible refine vrun_cons fun KK hKK => ?_); go_simp; refine hKK _ ?_; clear hKK KK) | ((with_reducible refine vhrun_cons fun KK hKK => ?_); go_simp; refine hKK _ ?_; clear hKK KK))
    have e := HR.out
    rw [if_neg hlen] at e
    refine vloop (α := Nat) (fun k => ⟨[(2, .fn (.func 112) [] [.vp [intsA l]]), (17, I k), (16, I l.length), (15, intsA l)], []⟩) (fun k => k ≤ l.length ∧ firstErr (dchk l) k (l.length - k) = R) (fun k => l.length - k) 0 ⟨by omega, e⟩ (by clear e; go_simp) ?_
    clear e
    rintro k ⟨hk, hf⟩ K hR
    have HF := Lib.hid hf
    clear hf
    by_cases hlt : k < l.length
    · have hf := HF.out
      rw [firstErr_at hlt] at hf
      have HE := Lib.hid hf
      clear hf
      have H8 := Lib.hid (v112 l k hlt hl)
      generalize dchk l k = E at *
      by_cases h0 : E = 0
      · have hw := wrap_eq (x := (k : Int) + 1) (by omega) (by omega)
        repeat (first | (with_reducible refine vseq ?_) | (with_reducible refine vthenN ?_) | (with_reducible refine vthenE ?_) | (with_reducible refine vthenR ?_) | (with_reducible refine vret ?_) | (with_reducible refine vskip ?_) | (with_reducible refine vexit ?_) | (with_reducible refine vblock ?_) | (with_reducible refine vblockN ?_) | (with_reducible refine vblockR ?_) | (with_reducible refine vblockH ?_) | (with_reducible refine vrun_nil ?_) | (with_reducible refine vblockE rfl ?_) | (with_reducible refine vregion [] ?_) | (with_reducible refine vhrun_nil ?_) | ((with_reducible refine vcondT ?_ ?_); (focus (go_simp; done))) | ((with_reducible refine vcondF ?_ ?_); (focus (go_simp; done))) | ((with_reducible refine vrun_cons fun KK hKK => ?_); go_simp; (first | (refine ⟨_, H8.out, ?_⟩) | skip); refine hKK _ ?_; clear hKK KK) | ((with_reducible refine vhrun_cons fun KK hKK => ?_); go_simp; (first | (refine ⟨_, H8.out, ?_⟩) | skip); refine hKK _ ?_; clear hKK KK))
        refine hR _ (k + 1) ⟨hlt, ?_⟩ (by omega) ?_
        · have := HE.out
          rwa [if_neg (by simpa using h0)] at this
        · go_simp
      · repeat (first | (with_reducible refine vseq ?_) | (with_reducible refine vthenN ?_) | (with_reducible refine vthenE ?_) | (with_reducible refine vthenR ?_) | (with_reducible refine vret ?_) | (with_reducible refine vskip ?_) | (with_reducible refine vexit ?_) | (with_reducible refine vblock ?_) | (with_reducible refine vblockN ?_) | (with_reducible refine vblockR ?_) | (with_reducible refine vblockH ?_) | (with_reducible refine vrun_nil ?_) | (with_reducible refine vblockE rfl ?_) | (with_reducible refine vregion [] ?_) | (with_reducible refine vhrun_nil ?_) | ((with_reducible refine vcondT ?_ ?_); (focus (go_simp; done))) | ((with_reducible refine vcondF ?_ ?_); (focus (go_simp; done))) | ((with_reducible refine vrun_cons fun KK hKK => ?_); go_simp; (first | (refine ⟨_, H8.out, ?_⟩) | skip); refine hKK _ ?_; clear hKK KK) | ((with_reducible refine vhrun_cons fun KK hKK => ?_); go_simp; (first | (refine ⟨_, H8.out, ?_⟩) | skip); refine hKK _ ?_; clear hKK KK))
        have e := HE.out
        rw [if_pos h0] at e
        subst e
        go_simp
    · repeat (first | (with_reducible refine vseq ?_) | (with_reducible refine vthenN ?_) | (with_reducible refine vthenE ?_) | (with_reducible refine vthenR ?_) | (with_reducible refine vret ?_) | (with_reducible refine vskip ?_) | (with_reducible refine vexit ?_) | (with_reducible refine vblock ?_) | (with_reducible refine vblockN ?_) | (with_reducible refine vblockR ?_) | (with_reducible refine vblockH ?_) | (with_reducible refine vrun_nil ?_) | (with_reducible refine vblockE rfl ?_) | (with_reducible refine vregion [] ?_) | (with_reducible refine vhrun_nil ?_) | ((with_reducible refine vcondT ?_ ?_); (focus (go_simp; done))) | ((with_reducible refine vcondF ?_ ?_); (focus (go_simp; done))) | ((with_reducible refine vrun_cons fun KK hKK => ?_); go_simp; refine hKK _ ?_; clear hKK KK) | ((with_reducible refine vhrun_cons fun KK hKK => ?_); go_simp; refine hKK _ ?_; clear hKK KK))
      have e := HF.out
      rw [show l.length - k = 0 by omega, firstErr] at e
      subst e
      go_simp
end Go.Proofs.Ytmfmpagfjgpodaa
