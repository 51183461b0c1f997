/- Texts in one: One car and many drivers: what the law needs, on plain values; conditions as each says. -/
import Derived.Test.YtmfmpagfjgpodaaMS34
import Derived.Test.YtmfmpagfjgpodaaMS26
import Derived.Test.YtmfmpagfjgpodaaMS25
/-! VShared: One car and many drivers: what the law needs, on plain values; conditions as each says. -/
namespace Go.Proofs.Ytmfmpagfjgpodaa
open Go.RowKit
set_option maxRecDepth 100000
theorem v102b (s : ByteArray) (hs : s.size ≤ 9223372036854775807) : VC Try.prog 102 [S s] (B (isName s)) := by
  by_cases h12 : s.size ≤ 1000
  · exact v102 s h12
  · have e : isName s = false := by simp [isName, show ¬ s.size ≤ 12 by omega]
    rw [e]
    have h1 : ¬ (s.size : Int) < 1 := by omega
    have h2 : (12 : Int) < s.size := by omega
    refine VC_of Try.func102 rfl (by kernel_rfl) (by kernel_rfl) rfl fun M0 w0 => ?_
    simp only [Try.ntmps102, Try.results102, enumA]
    repeat (first | (with_reducible refine vseq ?_) | (with_reducible refine vthenN ?_) | (with_reducible refine vthenE ?_) | (with_reducible refine vthenR ?_) | (with_reducible refine vret ?_) | (with_reducible refine vskip ?_) | (with_reducible refine vexit ?_) | (with_reducible refine vblock ?_) | (with_reducible refine vblockN ?_) | (with_reducible refine vblockR ?_) | (with_reducible refine vblockH ?_) | (with_reducible refine vrun_nil ?_) | (with_reducible refine vblockE rfl ?_) | (with_reducible refine vregion [] ?_) | (with_reducible refine vhrun_nil ?_) | ((with_reducible refine vcondT ?_ ?_); (focus (go_simp; done))) | ((with_reducible refine vcondF ?_ ?_); (focus (go_simp; done))) | ((with_reducible refine vrun_cons fun KK hKK => ?_); go_simp; refine hKK _ ?_; clear hKK KK) | ((with_reducible refine vhrun_cons fun KK hKK => ?_); go_simp; refine hKK _ ?_; clear hKK KK))
    go_simp
theorem v144b (r : Rec) (hs : r.driver.size ≤ 9223372036854775807) : VC Try.prog 144 [.agg r.av] (I (recErr r)) := by
  have h102 := v102b r.driver hs
  unfold recErr
  cases hn : isName r.driver
  · rw [hn] at h102
    refine VC_of Try.func144 rfl (by kernel_rfl) (by kernel_rfl) rfl fun M0 w0 => ?_
    simp only [Try.ntmps144, Try.results144, enumA]
    repeat (first | (with_reducible refine vseq ?_) | (with_reducible refine vthenN ?_) | (with_reducible refine vthenE ?_) | (with_reducible refine vthenR ?_) | (with_reducible refine vret ?_) | (with_reducible refine vskip ?_) | (with_reducible refine vexit ?_) | (with_reducible refine vblock ?_) | (with_reducible refine vblockN ?_) | (with_reducible refine vblockR ?_) | (with_reducible refine vblockH ?_) | (with_reducible refine vrun_nil ?_) | (with_reducible refine vblockE rfl ?_) | (with_reducible refine vregion [] ?_) | (with_reducible refine vhrun_nil ?_) | ((with_reducible refine vcondT ?_ ?_); (focus (go_simp; done))) | ((with_reducible refine vcondF ?_ ?_); (focus (go_simp; done))) | ((with_reducible refine vrun_cons fun KK hKK => ?_); go_simp; (first | (with_reducible refine ⟨_, h102, ?_⟩) | skip); refine hKK _ ?_; clear hKK KK) | ((with_reducible refine vhrun_cons fun KK hKK => ?_); go_simp; (first | (with_reducible refine ⟨_, h102, ?_⟩) | skip); refine hKK _ ?_; clear hKK KK))
    go_simp
  · rw [hn] at h102
    refine VC_of Try.func144 rfl (by kernel_rfl) (by kernel_rfl) rfl fun M0 w0 => ?_
    simp only [Try.ntmps144, Try.results144, enumA]
    repeat (first | (with_reducible refine vseq ?_) | (with_reducible refine vthenN ?_) | (with_reducible refine vthenE ?_) | (with_reducible refine vthenR ?_) | (with_reducible refine vret ?_) | (with_reducible refine vskip ?_) | (with_reducible refine vexit ?_) | (with_reducible refine vblock ?_) | (with_reducible refine vblockN ?_) | (with_reducible refine vblockR ?_) | (with_reducible refine vblockH ?_) | (with_reducible refine vrun_nil ?_) | (with_reducible refine vblockE rfl ?_) | (with_reducible refine vregion [] ?_) | (with_reducible refine vhrun_nil ?_) | ((with_reducible refine vcondT ?_ ?_); (focus (go_simp; done))) | ((with_reducible refine vcondF ?_ ?_); (focus (go_simp; done))) | ((with_reducible refine vrun_cons fun KK hKK => ?_); go_simp; (first | (with_reducible refine ⟨_, h102, ?_⟩) | (with_reducible refine ⟨_, v130 _ _, ?_⟩) | skip); refine hKK _ ?_; clear hKK KK) | ((with_reducible refine vhrun_cons fun KK hKK => ?_); go_simp; (first | (with_reducible refine ⟨_, h102, ?_⟩) | (with_reducible refine ⟨_, v130 _ _, ?_⟩) | skip); refine hKK _ ?_; clear hKK KK))
    go_simp
theorem chkF (l : List Rec) (k : Nat) : chkE false l k = if recErr (rat l k) ≠ 0 then recErr (rat l k) else if k = 0 then 0 else if (rat l k).lo < (rat l (k - 1)).hi then 26 else 0 := by
  unfold chkE
  simp
theorem v115b (l : List Rec) (hl : l.length ≤ 1000) (hd : ∀ x ∈ l, x.driver.size ≤ 9223372036854775807) : VC Try.prog 115 [recsA l, B false] (.tup [I (checkRecs false l).1, I (checkRecs false l).2]) := by
  obtain ⟨R, hR⟩ : ∃ R, checkRecs false l = R := ⟨_, rfl⟩
  rw [hR]
  obtain ⟨Rk, Re⟩ := R
  unfold checkRecs checkL at hR
  have HD := Lib.hid hd
  have HR := Lib.hid hR
  clear hd hR
  refine VC_of Try.func115 rfl (by kernel_rfl) (by kernel_rfl) rfl fun M0 w0 => ?_
  simp only [Try.ntmps115, Try.results115, enumA]
  by_cases h40 : (40 : Int) < l.length
  · repeat (first | (with_reducible refine vseq ?_) | (with_reducible refine vthenN ?_) | (with_reducible refine vthenE ?_) | (with_reducible refine vthenR ?_) | (with_reducible refine vret ?_) | (with_reducible refine vskip ?_) | (with_reducible refine vexit ?_) | (with_reducible refine vblock ?_) | (with_reducible refine vblockN ?_) | (with_reducible refine vblockR ?_) | (with_reducible refine vblockH ?_) | (with_reducible refine vrun_nil ?_) | (with_reducible refine vblockE rfl ?_) | (with_reducible refine vregion [] ?_) | (with_reducible refine vhrun_nil ?_) | ((with_reducible refine vcondT ?_ ?_); (focus (go_simp; done))) | ((with_reducible refine vcondF ?_ ?_); (focus (go_simp; done))) | ((with_reducible refine vrun_cons fun KK hKK => ?_); go_simp; refine hKK _ ?_; clear hKK KK) | ((with_reducible refine vhrun_cons fun KK hKK => ?_); go_simp; refine hKK _ ?_; clear hKK KK))
    have e := HR.out
    rw [if_pos h40] at e
    injection e with e1 e2
    subst e1 e2
    go_simp
  · repeat (first | (with_reducible refine vseq ?_) | (with_reducible refine vthenN ?_) | (with_reducible refine vthenE ?_) | (with_reducible refine vthenR ?_) | (with_reducible refine vret ?_) | (with_reducible refine vskip ?_) | (with_reducible refine vexit ?_) | (with_reducible refine vblock ?_) | (with_reducible refine vblockN ?_) | (with_reducible refine vblockR ?_) | (with_reducible refine vblockH ?_) | (with_reducible refine vrun_nil ?_) | (with_reducible refine vblockE rfl ?_) | (with_reducible refine vregion [] ?_) | (with_reducible refine vhrun_nil ?_) | ((with_reducible refine vcondT ?_ ?_); (focus (go_simp; done))) | ((with_reducible refine vcondF ?_ ?_); (focus (go_simp; done))) | ((with_reducible refine vrun_cons fun KK hKK => ?_); go_simp; refine hKK _ ?_; clear hKK KK) | ((with_reducible refine vhrun_cons fun KK hKK => ?_); go_simp; refine hKK _ ?_; clear hKK KK))
    refine vloop (α := Nat) (fun k => ⟨[(6, I k), (1, B false), (0, recsA l)], []⟩) (fun k => k ≤ l.length ∧ firstErr (chkE false l) k (l.length - k) = (Rk, Re)) (fun k => l.length - k) 0 ⟨by omega, by rw [← HR.out, if_neg (by omega)]; rfl⟩ (by go_simp) ?_
    rintro k ⟨hk, hf⟩ K hR
    have HF := Lib.hid hf
    clear hf
    by_cases hlt : k < l.length
    · have hf := HF.out
      rw [firstErr_at hlt] at hf
      have HE := Lib.hid hf
      have H144 := Lib.hid (v144b l[k] (HD.out _ (List.getElem_mem hlt)))
      clear hf HF
      have hw := wrap_eq (x := (k : Int) + 1) (by omega) (by omega)
      by_cases he : recErr l[k] = 0
      · rw [he] at H144
        rcases k with _ | m
        · have hw1 : IntKind.i64.wrap 1 = 1 := rfl
          repeat (first | (with_reducible refine vseq ?_) | (with_reducible refine vthenN ?_) | (with_reducible refine vthenE ?_) | (with_reducible refine vthenR ?_) | (with_reducible refine vret ?_) | (with_reducible refine vskip ?_) | (with_reducible refine vexit ?_) | (with_reducible refine vblock ?_) | (with_reducible refine vblockN ?_) | (with_reducible refine vblockR ?_) | (with_reducible refine vblockH ?_) | (with_reducible refine vrun_nil ?_) | (with_reducible refine vblockE rfl ?_) | (with_reducible refine vregion [] ?_) | (with_reducible refine vhrun_nil ?_) | ((with_reducible refine vcondT ?_ ?_); (focus (go_simp; done))) | ((with_reducible refine vcondF ?_ ?_); (focus (go_simp; done))) | ((with_reducible refine vrun_cons fun KK hKK => ?_); go_simp; (first | (refine ⟨_, H144.out, ?_⟩) | skip); refine hKK _ ?_; clear hKK KK) | ((with_reducible refine vhrun_cons fun KK hKK => ?_); go_simp; (first | (refine ⟨_, H144.out, ?_⟩) | skip); refine hKK _ ?_; clear hKK KK))
          refine vdraw 19 [] (by kernel_rfl) (by kernel_rfl) ?_
          simp only [List.take, List.drop]
          repeat (first | (with_reducible refine vseq ?_) | (with_reducible refine vthenN ?_) | (with_reducible refine vthenE ?_) | (with_reducible refine vthenR ?_) | (with_reducible refine vret ?_) | (with_reducible refine vskip ?_) | (with_reducible refine vexit ?_) | (with_reducible refine vblock ?_) | (with_reducible refine vblockN ?_) | (with_reducible refine vblockR ?_) | (with_reducible refine vblockH ?_) | (with_reducible refine vrun_nil ?_) | (with_reducible refine vblockE rfl ?_) | (with_reducible refine vregion [] ?_) | (with_reducible refine vhrun_nil ?_) | ((with_reducible refine vcondT ?_ ?_); (focus (go_simp; done))) | ((with_reducible refine vcondF ?_ ?_); (focus (go_simp; done))) | ((with_reducible refine vrun_cons fun KK hKK => ?_); go_simp; refine hKK _ ?_; clear hKK KK) | ((with_reducible refine vhrun_cons fun KK hKK => ?_); go_simp; refine hKK _ ?_; clear hKK KK))
          refine vdraw 16 [] (by kernel_rfl) (by kernel_rfl) ?_
          simp only [List.take, List.drop]
          repeat (first | (with_reducible refine vseq ?_) | (with_reducible refine vthenN ?_) | (with_reducible refine vthenE ?_) | (with_reducible refine vthenR ?_) | (with_reducible refine vret ?_) | (with_reducible refine vskip ?_) | (with_reducible refine vexit ?_) | (with_reducible refine vblock ?_) | (with_reducible refine vblockN ?_) | (with_reducible refine vblockR ?_) | (with_reducible refine vblockH ?_) | (with_reducible refine vrun_nil ?_) | (with_reducible refine vblockE rfl ?_) | (with_reducible refine vregion [] ?_) | (with_reducible refine vhrun_nil ?_) | ((with_reducible refine vcondT ?_ ?_); (focus (go_simp; done))) | ((with_reducible refine vcondF ?_ ?_); (focus (go_simp; done))) | ((with_reducible refine vrun_cons fun KK hKK => ?_); go_simp; refine hKK _ ?_; clear hKK KK) | ((with_reducible refine vhrun_cons fun KK hKK => ?_); go_simp; refine hKK _ ?_; clear hKK KK))
          refine hR _ 1 ⟨hlt, ?_⟩ (by omega) ?_
          · have e := HE.out
            have hc : chkE false l 0 = 0 := by rw [chkF, rat_get hlt, he]; rfl
            rw [hc] at e
            simpa using e
          · go_simp
        · have hm : m < l.length := by omega
          have hc : chkE false l (m + 1) = if l[m + 1].lo < l[m].hi then 26 else 0 := by
            rw [chkF, rat_get hlt, he, if_neg (by decide), if_neg (by omega), Nat.add_sub_cancel, rat_get hm]
          have e := HE.out
          rw [hc] at e
          have HE2 := Lib.hid e
          clear e HE hc
          have hw2 := wrap_eq (x := (m : Int)) (by omega) (by omega)
          have hw3 := wrap_eq (x := (m : Int) + 1 + 1) (by omega) (by omega)
          have ht1 : ((m : Int) + 1).toNat = m + 1 := by omega
          have h01 : (0 : Int) ≤ (m : Int) + 1 := by omega
          have hm1 : (0 : Int) < (m : Int) + 1 := by omega
          have hmi : (m : Int) + 1 < l.length := by omega
          by_cases hlo : l[m + 1].lo < l[m].hi
          · have e := HE2.out
            rw [if_pos hlo, if_pos (by decide)] at e
            injection e with e1 e2
            subst e1 e2
            clear HE2 HR
            repeat (first | (with_reducible refine vseq ?_) | (with_reducible refine vthenN ?_) | (with_reducible refine vthenE ?_) | (with_reducible refine vthenR ?_) | (with_reducible refine vret ?_) | (with_reducible refine vskip ?_) | (with_reducible refine vexit ?_) | (with_reducible refine vblock ?_) | (with_reducible refine vblockN ?_) | (with_reducible refine vblockR ?_) | (with_reducible refine vblockH ?_) | (with_reducible refine vrun_nil ?_) | (with_reducible refine vblockE rfl ?_) | (with_reducible refine vregion [] ?_) | (with_reducible refine vhrun_nil ?_) | ((with_reducible refine vcondT ?_ ?_); (focus (go_simp; done))) | ((with_reducible refine vcondF ?_ ?_); (focus (go_simp; done))) | ((with_reducible refine vrun_cons fun KK hKK => ?_); go_simp; (first | (refine ⟨_, H144.out, ?_⟩) | skip); refine hKK _ ?_; clear hKK KK) | ((with_reducible refine vhrun_cons fun KK hKK => ?_); go_simp; (first | (refine ⟨_, H144.out, ?_⟩) | skip); refine hKK _ ?_; clear hKK KK))
            refine vdraw 19 [] (by kernel_rfl) (by kernel_rfl) ?_
            simp only [List.take, List.drop]
            repeat (first | (with_reducible refine vseq ?_) | (with_reducible refine vthenN ?_) | (with_reducible refine vthenE ?_) | (with_reducible refine vthenR ?_) | (with_reducible refine vret ?_) | (with_reducible refine vskip ?_) | (with_reducible refine vexit ?_) | (with_reducible refine vblock ?_) | (with_reducible refine vblockN ?_) | (with_reducible refine vblockR ?_) | (with_reducible refine vblockH ?_) | (with_reducible refine vrun_nil ?_) | (with_reducible refine vblockE rfl ?_) | (with_reducible refine vregion [] ?_) | (with_reducible refine vhrun_nil ?_) | ((with_reducible refine vcondT ?_ ?_); (focus (go_simp; done))) | ((with_reducible refine vcondF ?_ ?_); (focus (go_simp; done))) | ((with_reducible refine vrun_cons fun KK hKK => ?_); go_simp; refine hKK _ ?_; clear hKK KK) | ((with_reducible refine vhrun_cons fun KK hKK => ?_); go_simp; refine hKK _ ?_; clear hKK KK))
            refine vdraw 16 [] (by kernel_rfl) (by kernel_rfl) ?_
            simp only [List.take, List.drop]
            repeat (first | (with_reducible refine vseq ?_) | (with_reducible refine vthenN ?_) | (with_reducible refine vthenE ?_) | (with_reducible refine vthenR ?_) | (with_reducible refine vret ?_) | (with_reducible refine vskip ?_) | (with_reducible refine vexit ?_) | (with_reducible refine vblock ?_) | (with_reducible refine vblockN ?_) | (with_reducible refine vblockR ?_) | (with_reducible refine vblockH ?_) | (with_reducible refine vrun_nil ?_) | (with_reducible refine vblockE rfl ?_) | (with_reducible refine vregion [] ?_) | (with_reducible refine vhrun_nil ?_) | ((with_reducible refine vcondT ?_ ?_); (focus (go_simp; done))) | ((with_reducible refine vcondF ?_ ?_); (focus (go_simp; done))) | ((with_reducible refine vrun_cons fun KK hKK => ?_); go_simp; refine hKK _ ?_; clear hKK KK) | ((with_reducible refine vhrun_cons fun KK hKK => ?_); go_simp; refine hKK _ ?_; clear hKK KK))
            go_simp
          · repeat (first | (with_reducible refine vseq ?_) | (with_reducible refine vthenN ?_) | (with_reducible refine vthenE ?_) | (with_reducible refine vthenR ?_) | (with_reducible refine vret ?_) | (with_reducible refine vskip ?_) | (with_reducible refine vexit ?_) | (with_reducible refine vblock ?_) | (with_reducible refine vblockN ?_) | (with_reducible refine vblockR ?_) | (with_reducible refine vblockH ?_) | (with_reducible refine vrun_nil ?_) | (with_reducible refine vblockE rfl ?_) | (with_reducible refine vregion [] ?_) | (with_reducible refine vhrun_nil ?_) | ((with_reducible refine vcondT ?_ ?_); (focus (go_simp; done))) | ((with_reducible refine vcondF ?_ ?_); (focus (go_simp; done))) | ((with_reducible refine vrun_cons fun KK hKK => ?_); go_simp; (first | (refine ⟨_, H144.out, ?_⟩) | skip); refine hKK _ ?_; clear hKK KK) | ((with_reducible refine vhrun_cons fun KK hKK => ?_); go_simp; (first | (refine ⟨_, H144.out, ?_⟩) | skip); refine hKK _ ?_; clear hKK KK))
            refine vdraw 19 [] (by kernel_rfl) (by kernel_rfl) ?_
            simp only [List.take, List.drop]
            repeat (first | (with_reducible refine vseq ?_) | (with_reducible refine vthenN ?_) | (with_reducible refine vthenE ?_) | (with_reducible refine vthenR ?_) | (with_reducible refine vret ?_) | (with_reducible refine vskip ?_) | (with_reducible refine vexit ?_) | (with_reducible refine vblock ?_) | (with_reducible refine vblockN ?_) | (with_reducible refine vblockR ?_) | (with_reducible refine vblockH ?_) | (with_reducible refine vrun_nil ?_) | (with_reducible refine vblockE rfl ?_) | (with_reducible refine vregion [] ?_) | (with_reducible refine vhrun_nil ?_) | ((with_reducible refine vcondT ?_ ?_); (focus (go_simp; done))) | ((with_reducible refine vcondF ?_ ?_); (focus (go_simp; done))) | ((with_reducible refine vrun_cons fun KK hKK => ?_); go_simp; refine hKK _ ?_; clear hKK KK) | ((with_reducible refine vhrun_cons fun KK hKK => ?_); go_simp; refine hKK _ ?_; clear hKK KK))
            refine vdraw 16 [] (by kernel_rfl) (by kernel_rfl) ?_
            simp only [List.take, List.drop]
            repeat (first | (with_reducible refine vseq ?_) | (with_reducible refine vthenN ?_) | (with_reducible refine vthenE ?_) | (with_reducible refine vthenR ?_) | (with_reducible refine vret ?_) | (with_reducible refine vskip ?_) | (with_reducible refine vexit ?_) | (with_reducible refine vblock ?_) | (with_reducible refine vblockN ?_) | (with_reducible refine vblockR ?_) | (with_reducible refine vblockH ?_) | (with_reducible refine vrun_nil ?_) | (with_reducible refine vblockE rfl ?_) | (with_reducible refine vregion [] ?_) | (with_reducible refine vhrun_nil ?_) | ((with_reducible refine vcondT ?_ ?_); (focus (go_simp; done))) | ((with_reducible refine vcondF ?_ ?_); (focus (go_simp; done))) | ((with_reducible refine vrun_cons fun KK hKK => ?_); go_simp; refine hKK _ ?_; clear hKK KK) | ((with_reducible refine vhrun_cons fun KK hKK => ?_); go_simp; refine hKK _ ?_; clear hKK KK))
            refine hR _ (m + 1 + 1) ⟨hlt, ?_⟩ (by omega) ?_
            · have e := HE2.out
              rw [if_neg hlo, if_neg (by decide)] at e
              exact e
            · go_simp
      · have hc : chkE false l k = recErr l[k] := by rw [chkF, rat_get hlt, if_pos he]
        have e := HE.out
        rw [hc, if_pos he] at e
        injection e with e1 e2
        subst e1
        rw [e2] at H144 he
        clear HE e2 HR
        repeat (first | (with_reducible refine vseq ?_) | (with_reducible refine vthenN ?_) | (with_reducible refine vthenE ?_) | (with_reducible refine vthenR ?_) | (with_reducible refine vret ?_) | (with_reducible refine vskip ?_) | (with_reducible refine vexit ?_) | (with_reducible refine vblock ?_) | (with_reducible refine vblockN ?_) | (with_reducible refine vblockR ?_) | (with_reducible refine vblockH ?_) | (with_reducible refine vrun_nil ?_) | (with_reducible refine vblockE rfl ?_) | (with_reducible refine vregion [] ?_) | (with_reducible refine vhrun_nil ?_) | ((with_reducible refine vcondT ?_ ?_); (focus (go_simp; done))) | ((with_reducible refine vcondF ?_ ?_); (focus (go_simp; done))) | ((with_reducible refine vrun_cons fun KK hKK => ?_); go_simp; (first | (refine ⟨_, H144.out, ?_⟩) | skip); refine hKK _ ?_; clear hKK KK) | ((with_reducible refine vhrun_cons fun KK hKK => ?_); go_simp; (first | (refine ⟨_, H144.out, ?_⟩) | skip); refine hKK _ ?_; clear hKK KK))
        go_simp
    · repeat (first | (with_reducible refine vseq ?_) | (with_reducible refine vthenN ?_) | (with_reducible refine vthenE ?_) | (with_reducible refine vthenR ?_) | (with_reducible refine vret ?_) | (with_reducible refine vskip ?_) | (with_reducible refine vexit ?_) | (with_reducible refine vblock ?_) | (with_reducible refine vblockN ?_) | (with_reducible refine vblockR ?_) | (with_reducible refine vblockH ?_) | (with_reducible refine vrun_nil ?_) | (with_reducible refine vblockE rfl ?_) | (with_reducible refine vregion [] ?_) | (with_reducible refine vhrun_nil ?_) | ((with_reducible refine vcondT ?_ ?_); (focus (go_simp; done))) | ((with_reducible refine vcondF ?_ ?_); (focus (go_simp; done))) | ((with_reducible refine vrun_cons fun KK hKK => ?_); go_simp; refine hKK _ ?_; clear hKK KK) | ((with_reducible refine vhrun_cons fun KK hKK => ?_); go_simp; refine hKK _ ?_; clear hKK KK))
      have e := HF.out
      rw [show l.length - k = 0 by omega, firstErr] at e
      injection e with e1 e2
      subst e1 e2
      go_simp
theorem v57b (l : List Rec) (hl : l.length ≤ 1000) (hd : ∀ x ∈ l, x.driver.size ≤ 9223372036854775807) : VC Try.prog 57 [recsA l] (I (checkRecs false l).2) := by
  have H := Lib.hid (v115b l hl hd)
  generalize checkRecs false l = E at *
  clear hd
  refine VC_of Try.func57 rfl (by kernel_rfl) (by kernel_rfl) rfl fun M0 w0 => ?_
  simp only [Try.ntmps57, Try.results57, enumA]
  repeat (first | (with_reducible refine vseq ?_) | (with_reducible refine vthenN ?_) | (with_reducible refine vthenE ?_) | (with_reducible refine vthenR ?_) | (with_reducible refine vret ?_) | (with_reducible refine vskip ?_) | (with_reducible refine vexit ?_) | (with_reducible refine vblock ?_) | (with_reducible refine vblockN ?_) | (with_reducible refine vblockR ?_) | (with_reducible refine vblockH ?_) | (with_reducible refine vrun_nil ?_) | (with_reducible refine vblockE rfl ?_) | (with_reducible refine vregion [] ?_) | (with_reducible refine vhrun_nil ?_) | ((with_reducible refine vcondT ?_ ?_); (focus (go_simp; done))) | ((with_reducible refine vcondF ?_ ?_); (focus (go_simp; done))) | ((with_reducible refine vrun_cons fun KK hKK => ?_); go_simp; (first | (refine ⟨_, H.out, ?_⟩) | skip); refine hKK _ ?_; clear hKK KK) | ((with_reducible refine vhrun_cons fun KK hKK => ?_); go_simp; (first | (refine ⟨_, H.out, ?_⟩) | skip); refine hKK _ ?_; clear hKK KK))
  go_simp
/-! ### Drivers, one behind the other -/
structure Hand (l : List ByteArray) (m : Nat) (h : List ByteArray) : Prop where
  pos : 0 < m → 0 < h.length
  fst : 0 < m → h[0]? = some (tat l 0)
  lst : 0 < m → h[h.length - 1]? = some (tat l (m - 1))
  two : ∀ k, k + 1 < h.length → h[k + 1]? ≠ h[k]?
theorem hand_of (l : List ByteArray) : ∀ m, Hand l m (compB l m)
  | 0 => ⟨fun h => by omega, fun h => by omega, fun h => by omega, fun k h => by simp [compB] at h⟩
  | m + 1 => by
    have ih := hand_of l m
    rw [compB_succ]
    by_cases hk : keepB l m = true
    · rw [if_pos hk]
      by_cases h0 : m = 0
      · subst h0
        refine ⟨fun _ => by simp, fun _ => by simp [compB], fun _ => by simp [compB], fun k h => by simp [compB] at h⟩
      · have hne : tat l m ≠ tat l (m - 1) := by
          unfold keepB at hk
          rcases of_decide_eq_true hk with h | h
          · exact absurd h h0
          · exact h
        have hp := ih.pos (by omega)
        refine ⟨fun _ => by simp, fun _ => ?_, fun _ => by simp, fun k h => ?_⟩
        · rw [List.getElem?_append_left hp]
          exact ih.fst (by omega)
        · simp only [List.length_append, List.length_cons, List.length_nil] at h
          by_cases he : k + 1 < (compB l m).length
          · rw [List.getElem?_append_left he, List.getElem?_append_left (by omega)]
            exact ih.two k he
          · have hkl : k + 1 = (compB l m).length := by omega
            rw [hkl, List.getElem?_append_right (Nat.le_refl _), Nat.sub_self, List.getElem?_append_left (by omega)]
            have := ih.lst (by omega)
            rw [← hkl, Nat.add_sub_cancel] at this
            rw [this]
            simpa using hne
    · rw [if_neg hk, List.append_nil]
      have h0 : m ≠ 0 := fun h => by subst h; exact hk rfl
      have he : tat l m = tat l (m - 1) := by
        by_cases he : tat l m = tat l (m - 1)
        · exact he
        · exact absurd (decide_eq_true (Or.inr he)) hk
      refine ⟨fun _ => ih.pos (by omega), fun _ => ih.fst (by omega), fun _ => ?_, ih.two⟩
      rw [Nat.add_sub_cancel, he]
      exact ih.lst (by omega)
/-! ### The uses -/
def usR (f : Nat → ByteArray) (l : List Rec) (m : Nat) : List Rec := (List.range m).map fun k => ⟨f k, (rat l k).lo, (rat l k).hi⟩
theorem usR_len (f : Nat → ByteArray) (l : List Rec) (m : Nat) : (usR f l m).length = m := by simp [usR]
theorem usR_at {f : Nat → ByteArray} {l : List Rec} {m k : Nat} (h : k < m) : rat (usR f l m) k = ⟨f k, (rat l k).lo, (rat l k).hi⟩ := by
  rw [rat_get (by rw [usR_len]; exact h)]
  simp [usR]
theorem usR_succ (f : Nat → ByteArray) (l : List Rec) (m : Nat) : usR f l (m + 1) = usR f l m ++ [⟨f m, (rat l m).lo, (rat l m).hi⟩] := by
  simp [usR, List.range_succ]
theorem right_ord {l : List Rec} (h : Right false l) : ∀ d k, k + (d + 1) < l.length → (rat l k).hi ≤ (rat l (k + (d + 1))).lo
  | 0, k, hk => by
    rw [rat_get (by omega), rat_get hk]
    exact h.next hk
  | d + 1, k, hk => by
    have h1 := right_ord h d k (by omega)
    have h2 := h.next (k := k + (d + 1)) (by omega)
    have h3 := h.time (k := k + (d + 1)) (by omega)
    rw [rat_get (show k + (d + 1) < l.length by omega)] at h1
    rw [rat_get hk]
    have h4 : l[k + (d + 1 + 1)] = l[k + (d + 1) + 1] := rfl
    rw [h4]
    omega
theorem us_right {l : List Rec} {f : Nat → ByteArray} (h : Right false l) (hl : l.length ≤ 10) (hf : ∀ k, isName (f k) = true) : URight (usR f l l.length) := by
  refine ⟨by rw [usR_len]; omega, fun k hk => ?_, fun k j hk hj => ?_⟩
  · rw [usR_len] at hk
    rw [usR_at hk]
    refine ⟨hf k, ?_⟩
    have := h.time hk
    rw [rat_get hk]
    unfold spanErr
    rw [if_pos (by simp only [isTime, Bool.and_eq_true, inR_iff]; omega), if_pos this.2.1]
  · rw [usR_len] at hk
    rw [usR_at hk, usR_at (by omega)]
    have := right_ord h (k - j - 1) j (by omega)
    rw [show j + (k - j - 1 + 1) = k by omega] at this
    have ho : ovU ⟨f k, (rat l k).lo, (rat l k).hi⟩ ⟨f j, (rat l j).lo, (rat l j).hi⟩ = false := by
      simp only [ovU, Bool.and_eq_false_iff, decide_eq_false_iff_not]
      left
      omega
    simp only [twi, ho, Bool.and_false]
theorem us_most {l : List Rec} {f : Nat → ByteArray} (h : Right false l) : mostTo (usR f l l.length) (usR f l l.length).length = min 1 l.length := by
  rw [usR_len]
  have ha : ∀ k, k < l.length → ∀ t, inU (rat (usR f l l.length) k) t = true ↔ (rat l k).lo ≤ t ∧ t < (rat l k).hi := fun k hk t => by
    rw [usR_at hk]
    simp [inU]
  have ho : ∀ i j t, i < l.length → j < l.length → i < j → inU (rat (usR f l l.length) i) t = true → ¬ inU (rat (usR f l l.length) j) t = true := fun i j t hi hj hij h1 h2 => by
    rw [ha i hi] at h1
    rw [ha j hj] at h2
    have := right_ord h (j - i - 1) i (by omega)
    rw [show i + (j - i - 1 + 1) = j by omega] at this
    omega
  apply Nat.le_antisymm
  · refine mostTo_le _ fun k hk => ?_
    have h1 : usesAt (usR f l l.length) (rat (usR f l l.length) k).lo (usR f l l.length).length ≤ 1 := by
      unfold usesAt
      rw [usR_len]
      refine cnt_one _ fun i j hi hj h1 h2 => ?_
      rcases Nat.lt_trichotomy i j with hij | hij | hij
      · exact absurd h2 (ho i j _ hi hj hij h1)
      · exact hij
      · exact absurd h1 (ho j i _ hj hi hij h2)
    omega
  · by_cases h0 : l.length = 0
    · omega
    · have h1 := mostTo_ge (l := usR f l l.length) (n := l.length) (k := 0) (by omega)
      have h2 : 1 ≤ usesAt (usR f l l.length) (rat (usR f l l.length) 0).lo (usR f l l.length).length := by
        unfold usesAt
        rw [usR_len]
        refine cnt_pos (j := 0) (by omega) ?_
        rw [ha 0 (by omega), usR_at (by omega)]
        have := h.time (k := 0) (by omega)
        rw [rat_get (by omega)]
        simp only
        omega
      omega
end Go.Proofs.Ytmfmpagfjgpodaa

/-! VShared2: The law of one car and many drivers on plain values: it gives true; no condition. -/
namespace Go.Proofs.Ytmfmpagfjgpodaa
open Go.RowKit
set_option maxRecDepth 100000
def u8A (c : Int) : List AV := [.lit (.int .u8 c)]
attribute [go_sem] u8A
/-- Six names. -/
def sixN : List ByteArray := [⟨#[97]⟩, ⟨#[98]⟩, ⟨#[99]⟩, ⟨#[100]⟩, ⟨#[101]⟩, ⟨#[102]⟩]
def carOf (NM : List ByteArray) (cs : List Int) (k : Nat) : ByteArray := tat NM ((cs.getD k 0).toNat % 6)
theorem six_names : ∀ q, q < 6 → isName (tat sixN q) = true := by decide
theorem car_name (cs : List Int) (k : Nat) : isName (carOf sixN cs k) = true := six_names _ (Nat.mod_lt _ (by omega))
theorem v16 (l : List Rec) (cs : List Int) (hl : l.length ≤ 9223372036854775807) (hd : ∀ x ∈ l, x.driver.size ≤ 9223372036854775807) (_hcl : cs.length ≤ 9223372036854775807) (hcs : ∀ c ∈ cs, 0 ≤ c ∧ c < 256) : VC Try.prog 16 [recsA l, .sl 1 (cs.map u8A)] (B true) := by
  by_cases h10 : (10 : Int) < l.length
  · clear hd hcs
    refine VC_of Try.func16 rfl (by kernel_rfl) (by kernel_rfl) rfl fun M0 w0 => ?_
    simp only [Try.ntmps16, Try.results16, enumA]
    repeat (first | (with_reducible refine vseq ?_) | (with_reducible refine vthenN ?_) | (with_reducible refine vthenE ?_) | (with_reducible refine vthenR ?_) | (with_reducible refine vret ?_) | (with_reducible refine vskip ?_) | (with_reducible refine vexit ?_) | (with_reducible refine vblock ?_) | (with_reducible refine vblockN ?_) | (with_reducible refine vblockR ?_) | (with_reducible refine vblockH ?_) | (with_reducible refine vrun_nil ?_) | (with_reducible refine vblockE rfl ?_) | (with_reducible refine vregion [] ?_) | (with_reducible refine vhrun_nil ?_) | ((with_reducible refine vcondT ?_ ?_); (focus (go_simp; done))) | ((with_reducible refine vcondF ?_ ?_); (focus (go_simp; done))) | ((with_reducible refine vrun_cons fun KK hKK => ?_); go_simp; (first | (with_reducible refine ⟨_, v60, ?_⟩) | skip); refine hKK _ ?_; clear hKK KK) | ((with_reducible refine vhrun_cons fun KK hKK => ?_); go_simp; (first | (with_reducible refine ⟨_, v60, ?_⟩) | skip); refine hKK _ ?_; clear hKK KK))
    go_simp
  · by_cases hlt : (cs.length : Int) < l.length
    · clear hd hcs
      refine VC_of Try.func16 rfl (by kernel_rfl) (by kernel_rfl) rfl fun M0 w0 => ?_
      simp only [Try.ntmps16, Try.results16, enumA]
      repeat (first | (with_reducible refine vseq ?_) | (with_reducible refine vthenN ?_) | (with_reducible refine vthenE ?_) | (with_reducible refine vthenR ?_) | (with_reducible refine vret ?_) | (with_reducible refine vskip ?_) | (with_reducible refine vexit ?_) | (with_reducible refine vblock ?_) | (with_reducible refine vblockN ?_) | (with_reducible refine vblockR ?_) | (with_reducible refine vblockH ?_) | (with_reducible refine vrun_nil ?_) | (with_reducible refine vblockE rfl ?_) | (with_reducible refine vregion [] ?_) | (with_reducible refine vhrun_nil ?_) | ((with_reducible refine vcondT ?_ ?_); (focus (go_simp; done))) | ((with_reducible refine vcondF ?_ ?_); (focus (go_simp; done))) | ((with_reducible refine vrun_cons fun KK hKK => ?_); go_simp; (first | (with_reducible refine ⟨_, v60, ?_⟩) | skip); refine hKK _ ?_; clear hKK KK) | ((with_reducible refine vhrun_cons fun KK hKK => ?_); go_simp; (first | (with_reducible refine ⟨_, v60, ?_⟩) | skip); refine hKK _ ?_; clear hKK KK))
      go_simp
    · have H57 := Lib.hid (v57b l (by omega) hd)
      by_cases hE : (checkRecs false l).2 = 0
      · have hr : Right false l := hE
        have hsm : Small l := fun x hx => by
          obtain ⟨k, hk, rfl⟩ := List.getElem_of_mem hx
          have h1 := recErr_zero (hr.recOk hk)
          have h2 := h1.1
          simp only [isName, Bool.and_eq_true, decide_eq_true_eq] at h2
          omega
        have hl10 : l.length ≤ 10 := by omega
        have hlc : l.length ≤ cs.length := by omega
        rw [hE] at H57
        have hur := us_right (f := carOf sixN cs) hr hl10 (car_name cs)
        have hmost := us_most (f := carOf sixN cs) hr
        have hul := usR_len (carOf sixN cs) l l.length
        have hue := uright_iff.2 hur
        have hus : Small (usR (carOf sixN cs) l l.length) := fun x hx => by
          obtain ⟨k, hk, rfl⟩ := List.getElem_of_mem hx
          have h1 := (hur.own k hk).1
          rw [rat_get hk] at h1
          simp only [isName, Bool.and_eq_true, decide_eq_true_eq] at h1
          omega
        obtain ⟨of1, t1, h66, g1⟩ := v66x (usR (carOf sixN cs) l l.length) (by omega) hus hue
        have h68 := v68 (usR (carOf sixN cs) l l.length) of1 t1 _ (by omega) (by have := g1.len; omega) hus hue (given_pl hue g1)
        rw [hmost] at h68
        have H20 := Lib.hid (VC_of_own (o20 l (by omega)))
        have h53 := v53 l (by omega) hsm hE
        have hh := hand_of (dvs l) l.length
        have hhl := compB_len (dvs l) l.length
        have htat : ∀ k, k < l.length → tat (dvs l) k = (rat l k).driver := fun k hk => by
          rw [rat_get hk]
          simp [tat, dvs, hk]
        obtain ⟨NM, hNM⟩ : ∃ NM, NM = sixN := ⟨_, rfl⟩
        rw [← hNM] at h66 h68
        have hsucc := usR_succ (carOf NM cs) l
        have HS := Lib.hid hsucc
        have HU := Lib.hid (usR_len (carOf NM cs) l)
        generalize hUR : usR (carOf NM cs) l = UR at *
        have H66 := Lib.hid h66
        have H68 := Lib.hid h68
        generalize compB (dvs l) l.length = D at *
        have H53 := Lib.hid h53
        have HH := Lib.hid hh
        have HT := Lib.hid htat
        have HC := Lib.hid hcs
        have HR := Lib.hid hr
        have hn6 : NM.length = 6 := by rw [hNM]; rfl
        have hnm0 : NM.map txtA = [[S ⟨#[97]⟩], [S ⟨#[98]⟩], [S ⟨#[99]⟩], [S ⟨#[100]⟩], [S ⟨#[101]⟩], [S ⟨#[102]⟩]] := by rw [hNM]; rfl
        have hUR0 : UR 0 = [] := by rw [← hUR]; rfl
        clear hsm hl hd hcs hr hE hur hmost hul hue hus g1 h66 h68 h53 hh htat hsucc hUR hNM
        refine VC_of Try.func16 rfl (by kernel_rfl) (by kernel_rfl) rfl fun M0 w0 => ?_
        simp only [Try.ntmps16, Try.results16, enumA]
        repeat (first | (with_reducible refine vseq ?_) | (with_reducible refine vthenN ?_) | (with_reducible refine vthenE ?_) | (with_reducible refine vthenR ?_) | (with_reducible refine vret ?_) | (with_reducible refine vskip ?_) | (with_reducible refine vexit ?_) | (with_reducible refine vblock ?_) | (with_reducible refine vblockN ?_) | (with_reducible refine vblockR ?_) | (with_reducible refine vblockH ?_) | (with_reducible refine vrun_nil ?_) | (with_reducible refine vblockE rfl ?_) | (with_reducible refine vregion [6] ?_) | (with_reducible refine vhrun_nil ?_) | ((with_reducible refine vcondT ?_ ?_); (focus (go_simp; done))) | ((with_reducible refine vcondF ?_ ?_); (focus (go_simp; done))) | ((with_reducible refine vrun_cons fun KK hKK => ?_); go_simp; (first | (with_reducible refine ⟨_, v60, ?_⟩) | (refine ⟨_, H57.out, ?_⟩) | skip); refine hKK _ ?_; clear hKK KK) | ((with_reducible refine vhrun_cons fun KK hKK => ?_); go_simp; (first | (with_reducible refine ⟨_, v60, ?_⟩) | (refine ⟨_, H57.out, ?_⟩) | skip); refine hKK _ ?_; clear hKK KK))
        refine vloop (α := Nat) (fun k => ⟨[(7, I k), (6, .osl 0), (5, txtsA NM), (1, .sl 1 (cs.map u8A)), (0, recsA l)], [some (.arr 120 3 (decide (k = 0)) ((UR k).map Rec.av))]⟩) (fun k => k ≤ l.length) (fun k => l.length - k) 0 (Nat.zero_le _) (by go_simp) ?_
        clear hnm0
        rintro k hk K hR
        by_cases hlt : k < l.length
        · have hkc : k < cs.length := by omega
          obtain ⟨c, hce⟩ : ∃ c, cs[k] = c := ⟨_, rfl⟩
          have hc := HC.out cs[k] (List.getElem_mem hkc)
          rw [hce] at hc
          obtain ⟨q, hq⟩ : ∃ q, c.toNat % 6 = q := ⟨_, rfl⟩
          have hq6 : q < 6 := by omega
          have htm : Int.tmod c 6 = (q : Int) := by
            rw [Int.tmod_eq_emod_of_nonneg hc.1]
            omega
          have hwc := wrap_eq (x := c) (by omega) (by omega)
          have hqn : q < NM.length := by omega
          have hsu := HS.out k
          have hcar : carOf NM cs k = NM[q] := by
            unfold carOf
            rw [show cs.getD k 0 = c by simp [List.getD, hkc, hce], hq]
            simp [tat, hqn]
          rw [hcar, rat_get hlt] at hsu
          have hbl : (UR k).length + 1 ≤ 1000000000 := by rw [HU.out]; omega
          have hw := wrap_eq (x := (k : Int) + 1) (by omega) (by omega)
          have HSU := Lib.hid hsu
          clear hsu hcar hq hc
          repeat (first | (with_reducible refine vseq ?_) | (with_reducible refine vthenN ?_) | (with_reducible refine vthenE ?_) | (with_reducible refine vthenR ?_) | (with_reducible refine vret ?_) | (with_reducible refine vskip ?_) | (with_reducible refine vexit ?_) | (with_reducible refine vblock ?_) | (with_reducible refine vblockN ?_) | (with_reducible refine vblockR ?_) | (with_reducible refine vblockH ?_) | (with_reducible refine vrun_nil ?_) | (with_reducible refine vblockE rfl ?_) | (with_reducible refine vregion [] ?_) | (with_reducible refine vhrun_nil ?_) | ((with_reducible refine vcondT ?_ ?_); (focus (go_simp; done))) | ((with_reducible refine vcondF ?_ ?_); (focus (go_simp; done))) | ((with_reducible refine vrun_cons fun KK hKK => ?_); go_simp; refine hKK _ ?_; clear hKK KK) | ((with_reducible refine vhrun_cons fun KK hKK => ?_); go_simp; refine hKK _ ?_; clear hKK KK))
          refine vdraw 22 [6] (by kernel_rfl) (by kernel_rfl) ?_
          simp only [List.take, List.drop]
          repeat (first | (with_reducible refine vseq ?_) | (with_reducible refine vthenN ?_) | (with_reducible refine vthenE ?_) | (with_reducible refine vthenR ?_) | (with_reducible refine vret ?_) | (with_reducible refine vskip ?_) | (with_reducible refine vexit ?_) | (with_reducible refine vblock ?_) | (with_reducible refine vblockN ?_) | (with_reducible refine vblockR ?_) | (with_reducible refine vblockH ?_) | (with_reducible refine vrun_nil ?_) | (with_reducible refine vblockE rfl ?_) | (with_reducible refine vregion [] ?_) | (with_reducible refine vhrun_nil ?_) | ((with_reducible refine vcondT ?_ ?_); (focus (go_simp; done))) | ((with_reducible refine vcondF ?_ ?_); (focus (go_simp; done))) | ((with_reducible refine vrun_cons fun KK hKK => ?_); go_simp; refine hKK _ ?_; clear hKK KK) | ((with_reducible refine vhrun_cons fun KK hKK => ?_); go_simp; refine hKK _ ?_; clear hKK KK))
          refine hR _ (k + 1) hlt (by omega) ?_
          have hsu := HSU.out
          go_simp
        · obtain rfl : k = l.length := by omega
          clear hR hk hlt
          by_cases h0 : l.length = 0
          · obtain rfl := List.eq_nil_of_length_eq_zero h0
            obtain rfl : D = [] := List.eq_nil_of_length_eq_zero (by simpa using hhl)
            have h66 := H66.out
            have h68 := H68.out
            rw [show ([] : List Rec).length = 0 from rfl, hUR0] at h66 h68
            have H66b := Lib.hid h66
            have H68b := Lib.hid h68
            clear h66 h68 H66 H68 HH HT HR HS HU HC
            refine vfreeze 6 0 (e := 120) (sz := 3) (nl := true) (es := []) (by go_simp) (by go_simp) ?_
            repeat (first | (with_reducible refine vseq ?_) | (with_reducible refine vthenN ?_) | (with_reducible refine vthenE ?_) | (with_reducible refine vthenR ?_) | (with_reducible refine vret ?_) | (with_reducible refine vskip ?_) | (with_reducible refine vexit ?_) | (with_reducible refine vblock ?_) | (with_reducible refine vblockN ?_) | (with_reducible refine vblockR ?_) | (with_reducible refine vblockH ?_) | (with_reducible refine vrun_nil ?_) | (with_reducible refine vblockE rfl ?_) | (with_reducible refine vregion [] ?_) | (with_reducible refine vhrun_nil ?_) | ((with_reducible refine vcondT ?_ ?_); (focus (go_simp; done))) | ((with_reducible refine vcondF ?_ ?_); (focus (go_simp; done))) | ((with_reducible refine vrun_cons fun KK hKK => ?_); go_simp; (first | (refine ⟨_, H20.out, ?_⟩) | (refine ⟨_, H53.out, ?_⟩) | skip); refine hKK _ ?_; clear hKK KK) | ((with_reducible refine vhrun_cons fun KK hKK => ?_); go_simp; (first | (refine ⟨_, H20.out, ?_⟩) | (refine ⟨_, H53.out, ?_⟩) | skip); refine hKK _ ?_; clear hKK KK))
            refine vdraw 38 [] (by kernel_rfl) (by kernel_rfl) ?_
            simp only [List.take, List.drop]
            repeat (first | (with_reducible refine vseq ?_) | (with_reducible refine vthenN ?_) | (with_reducible refine vthenE ?_) | (with_reducible refine vthenR ?_) | (with_reducible refine vret ?_) | (with_reducible refine vskip ?_) | (with_reducible refine vexit ?_) | (with_reducible refine vblock ?_) | (with_reducible refine vblockN ?_) | (with_reducible refine vblockR ?_) | (with_reducible refine vblockH ?_) | (with_reducible refine vrun_nil ?_) | (with_reducible refine vblockE rfl ?_) | (with_reducible refine vregion [] ?_) | (with_reducible refine vhrun_nil ?_) | ((with_reducible refine vcondT ?_ ?_); (focus (go_simp; done))) | ((with_reducible refine vcondF ?_ ?_); (focus (go_simp; done))) | ((with_reducible refine vrun_cons fun KK hKK => ?_); go_simp; refine hKK _ ?_; clear hKK KK) | ((with_reducible refine vhrun_cons fun KK hKK => ?_); go_simp; refine hKK _ ?_; clear hKK KK))
            refine vloop (α := Unit) (fun _ => ⟨[(10, I 1), (8, txtsA []), (6, .sl 3 []), (0, recsA [])], [none]⟩) (fun _ => True) (fun _ => 0) () trivial (by go_simp) ?_
            rintro _ _ K2 hR2
            clear hR2
            repeat (first | (with_reducible refine vseq ?_) | (with_reducible refine vthenN ?_) | (with_reducible refine vthenE ?_) | (with_reducible refine vthenR ?_) | (with_reducible refine vret ?_) | (with_reducible refine vskip ?_) | (with_reducible refine vexit ?_) | (with_reducible refine vblock ?_) | (with_reducible refine vblockN ?_) | (with_reducible refine vblockR ?_) | (with_reducible refine vblockH ?_) | (with_reducible refine vrun_nil ?_) | (with_reducible refine vblockE rfl ?_) | (with_reducible refine vregion [] ?_) | (with_reducible refine vhrun_nil ?_) | ((with_reducible refine vcondT ?_ ?_); (focus (go_simp; done))) | ((with_reducible refine vcondF ?_ ?_); (focus (go_simp; done))) | ((with_reducible refine vrun_cons fun KK hKK => ?_); go_simp; (first | (refine ⟨_, H66b.out, ?_⟩) | (refine ⟨_, H68b.out, ?_⟩) | skip); refine hKK _ ?_; clear hKK KK) | ((with_reducible refine vhrun_cons fun KK hKK => ?_); go_simp; (first | (refine ⟨_, H66b.out, ?_⟩) | (refine ⟨_, H68b.out, ?_⟩) | skip); refine hKK _ ?_; clear hKK KK))
            go_simp
          · obtain ⟨nn, hll⟩ : ∃ nn, l.length = nn + 1 := ⟨l.length - 1, by omega⟩
            have hh := HH.out
            obtain ⟨dd, hDl⟩ : ∃ dd, D.length = dd + 1 := ⟨D.length - 1, by have := hh.pos (by omega); omega⟩
            have hf : D[0]'(by omega) = (l[0]'(by omega)).driver := by
              have h1 := hh.fst (by omega)
              rw [HT.out 0 (by omega), rat_get (by omega), List.getElem?_eq_getElem (by omega)] at h1
              exact Option.some.inj h1
            have hg : D[dd]'(by omega) = (l[nn]'(by omega)).driver := by
              have h1 := hh.lst (by omega)
              rw [HT.out (l.length - 1) (by omega), rat_get (by omega), List.getElem?_eq_getElem (by omega)] at h1
              have h2 := Option.some.inj h1
              simpa only [hDl, hll, Nat.add_sub_cancel] using h2
            have htwo : ∀ k (h : k + 1 < D.length), ¬ D[k + 1] = D[k] := fun k h he => by
              refine hh.two k h ?_
              rw [List.getElem?_eq_getElem h, List.getElem?_eq_getElem (by omega), he]
            have HW2 := Lib.hid htwo
            have hmin : min 1 l.length = 1 := by omega
            have hz : decide (l.length = 0) = false := decide_eq_false h0
            have hw1 := wrap_eq (x := (nn : Int)) (by omega) (by omega)
            have hw2 := wrap_eq (x := (dd : Int)) (by omega) (by omega)
            have H68b := H68.out
            rw [hmin] at H68b
            have H68b := Lib.hid H68b
            clear hh htwo HH HT HS HU HC HR hmin h0 H68
            refine vfreeze 6 0 (e := 120) (sz := 3) (nl := false) (es := (UR l.length).map Rec.av) (by go_simp) (by simp only [hz]; rfl) ?_
            clear hz
            generalize (UR l.length) = U at *
            have hdl : 0 < D.length := by omega
            have hnl : 0 < l.length := by omega
            have hdl2 : dd < D.length := by omega
            have hnl2 : nn < l.length := by omega
            have hdn : ¬ ((dd : Int) + 1 = 0) := by omega
            repeat (first | (with_reducible refine vseq ?_) | (with_reducible refine vthenN ?_) | (with_reducible refine vthenE ?_) | (with_reducible refine vthenR ?_) | (with_reducible refine vret ?_) | (with_reducible refine vskip ?_) | (with_reducible refine vexit ?_) | (with_reducible refine vblock ?_) | (with_reducible refine vblockN ?_) | (with_reducible refine vblockR ?_) | (with_reducible refine vblockH ?_) | (with_reducible refine vrun_nil ?_) | (with_reducible refine vblockE rfl ?_) | (with_reducible refine vregion [] ?_) | (with_reducible refine vhrun_nil ?_) | ((with_reducible refine vcondT ?_ ?_); (focus (go_simp; done))) | ((with_reducible refine vcondF ?_ ?_); (focus (go_simp; done))) | ((with_reducible refine vrun_cons fun KK hKK => ?_); go_simp; (first | (refine ⟨_, H20.out, ?_⟩) | (refine ⟨_, H53.out, ?_⟩) | skip); refine hKK _ ?_; clear hKK KK) | ((with_reducible refine vhrun_cons fun KK hKK => ?_); go_simp; (first | (refine ⟨_, H20.out, ?_⟩) | (refine ⟨_, H53.out, ?_⟩) | skip); refine hKK _ ?_; clear hKK KK))
            refine vdraw 38 [] (by kernel_rfl) (by kernel_rfl) ?_
            simp only [List.take, List.drop]
            repeat (first | (with_reducible refine vseq ?_) | (with_reducible refine vthenN ?_) | (with_reducible refine vthenE ?_) | (with_reducible refine vthenR ?_) | (with_reducible refine vret ?_) | (with_reducible refine vskip ?_) | (with_reducible refine vexit ?_) | (with_reducible refine vblock ?_) | (with_reducible refine vblockN ?_) | (with_reducible refine vblockR ?_) | (with_reducible refine vblockH ?_) | (with_reducible refine vrun_nil ?_) | (with_reducible refine vblockE rfl ?_) | (with_reducible refine vregion [] ?_) | (with_reducible refine vhrun_nil ?_) | ((with_reducible refine vcondT ?_ ?_); (focus (go_simp; done))) | ((with_reducible refine vcondF ?_ ?_); (focus (go_simp; done))) | ((with_reducible refine vrun_cons fun KK hKK => ?_); go_simp; refine hKK _ ?_; clear hKK KK) | ((with_reducible refine vhrun_cons fun KK hKK => ?_); go_simp; refine hKK _ ?_; clear hKK KK))
            have hDi : D.length ≤ 1000 := by omega
            refine vloop (α := Nat) (fun k => ⟨[(10, I ((k : Int) + 1)), (8, txtsA D), (6, .sl 3 (U.map Rec.av)), (0, recsA l)], [none]⟩) (fun k => k ≤ D.length) (fun k => D.length - k) 0 (Nat.zero_le _) (by go_simp) ?_
            rintro k hk K2 hR2
            by_cases hlt : k + 1 < D.length
            · have hne := HW2.out k hlt
              have w1 := wrap_eq (x := (k : Int)) (by omega) (by omega)
              have w2 := wrap_eq (x := (k : Int) + 1 + 1) (by omega) (by omega)
              have ht1 : ((k : Int) + 1).toNat = k + 1 := by omega
              have h01 : (0 : Int) ≤ (k : Int) + 1 := by omega
              have hki : (k : Int) < dd := by omega
              have hkd : k < D.length := by omega
              have hkd2 : k < dd + 1 := by omega
              have hkd3 : k < dd := by omega
              repeat (first | (with_reducible refine vseq ?_) | (with_reducible refine vthenN ?_) | (with_reducible refine vthenE ?_) | (with_reducible refine vthenR ?_) | (with_reducible refine vret ?_) | (with_reducible refine vskip ?_) | (with_reducible refine vexit ?_) | (with_reducible refine vblock ?_) | (with_reducible refine vblockN ?_) | (with_reducible refine vblockR ?_) | (with_reducible refine vblockH ?_) | (with_reducible refine vrun_nil ?_) | (with_reducible refine vblockE rfl ?_) | (with_reducible refine vregion [] ?_) | (with_reducible refine vhrun_nil ?_) | ((with_reducible refine vcondT ?_ ?_); (focus (go_simp; done))) | ((with_reducible refine vcondF ?_ ?_); (focus (go_simp; done))) | ((with_reducible refine vrun_cons fun KK hKK => ?_); go_simp; refine hKK _ ?_; clear hKK KK) | ((with_reducible refine vhrun_cons fun KK hKK => ?_); go_simp; refine hKK _ ?_; clear hKK KK))
              refine vdraw 10 [] (by kernel_rfl) (by kernel_rfl) ?_
              simp only [List.take, List.drop]
              repeat (first | (with_reducible refine vseq ?_) | (with_reducible refine vthenN ?_) | (with_reducible refine vthenE ?_) | (with_reducible refine vthenR ?_) | (with_reducible refine vret ?_) | (with_reducible refine vskip ?_) | (with_reducible refine vexit ?_) | (with_reducible refine vblock ?_) | (with_reducible refine vblockN ?_) | (with_reducible refine vblockR ?_) | (with_reducible refine vblockH ?_) | (with_reducible refine vrun_nil ?_) | (with_reducible refine vblockE rfl ?_) | (with_reducible refine vregion [] ?_) | (with_reducible refine vhrun_nil ?_) | ((with_reducible refine vcondT ?_ ?_); (focus (go_simp; done))) | ((with_reducible refine vcondF ?_ ?_); (focus (go_simp; done))) | ((with_reducible refine vrun_cons fun KK hKK => ?_); go_simp; refine hKK _ ?_; clear hKK KK) | ((with_reducible refine vhrun_cons fun KK hKK => ?_); go_simp; refine hKK _ ?_; clear hKK KK))
              refine hR2 _ (k + 1) (Nat.le_of_lt hlt) (by omega) ?_
              go_simp
            · have hki : ¬ (k : Int) < dd := by omega
              have hmn : (1 : Int) ≤ (nn : Int) + 1 := by omega
              clear hR2
              repeat (first | (with_reducible refine vseq ?_) | (with_reducible refine vthenN ?_) | (with_reducible refine vthenE ?_) | (with_reducible refine vthenR ?_) | (with_reducible refine vret ?_) | (with_reducible refine vskip ?_) | (with_reducible refine vexit ?_) | (with_reducible refine vblock ?_) | (with_reducible refine vblockN ?_) | (with_reducible refine vblockR ?_) | (with_reducible refine vblockH ?_) | (with_reducible refine vrun_nil ?_) | (with_reducible refine vblockE rfl ?_) | (with_reducible refine vregion [] ?_) | (with_reducible refine vhrun_nil ?_) | ((with_reducible refine vcondT ?_ ?_); (focus (go_simp; done))) | ((with_reducible refine vcondF ?_ ?_); (focus (go_simp; done))) | ((with_reducible refine vrun_cons fun KK hKK => ?_); go_simp; (first | (refine ⟨_, H66.out, ?_⟩) | (refine ⟨_, H68b.out, ?_⟩) | skip); refine hKK _ ?_; clear hKK KK) | ((with_reducible refine vhrun_cons fun KK hKK => ?_); go_simp; (first | (refine ⟨_, H66.out, ?_⟩) | (refine ⟨_, H68b.out, ?_⟩) | skip); refine hKK _ ?_; clear hKK KK))
              go_simp
      · generalize checkRecs false l = E at *
        clear hd hcs
        refine VC_of Try.func16 rfl (by kernel_rfl) (by kernel_rfl) rfl fun M0 w0 => ?_
        simp only [Try.ntmps16, Try.results16, enumA]
        repeat (first | (with_reducible refine vseq ?_) | (with_reducible refine vthenN ?_) | (with_reducible refine vthenE ?_) | (with_reducible refine vthenR ?_) | (with_reducible refine vret ?_) | (with_reducible refine vskip ?_) | (with_reducible refine vexit ?_) | (with_reducible refine vblock ?_) | (with_reducible refine vblockN ?_) | (with_reducible refine vblockR ?_) | (with_reducible refine vblockH ?_) | (with_reducible refine vrun_nil ?_) | (with_reducible refine vblockE rfl ?_) | (with_reducible refine vregion [] ?_) | (with_reducible refine vhrun_nil ?_) | ((with_reducible refine vcondT ?_ ?_); (focus (go_simp; done))) | ((with_reducible refine vcondF ?_ ?_); (focus (go_simp; done))) | ((with_reducible refine vrun_cons fun KK hKK => ?_); go_simp; (first | (with_reducible refine ⟨_, v60, ?_⟩) | (refine ⟨_, H57.out, ?_⟩) | skip); refine hKK _ ?_; clear hKK KK) | ((with_reducible refine vhrun_cons fun KK hKK => ?_); go_simp; (first | (with_reducible refine ⟨_, v60, ?_⟩) | (refine ⟨_, H57.out, ?_⟩) | skip); refine hKK _ ?_; clear hKK KK))
        go_simp
end Go.Proofs.Ytmfmpagfjgpodaa
