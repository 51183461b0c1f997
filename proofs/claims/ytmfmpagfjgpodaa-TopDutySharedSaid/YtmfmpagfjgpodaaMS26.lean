/- Texts in one: The examples of the chapter hold, on plain values; no condition. -/
import Derived.Test.YtmfmpagfjgpodaaMS20
/-! VDutied: The examples of the chapter hold, on plain values; no condition. -/
namespace Go.Proofs.Ytmfmpagfjgpodaa
open Go.RowKit
set_option maxRecDepth 100000
theorem v73 : VC Try.prog 73 [] (.agg exRules.av) := VC_mk0 (by kernel_rfl) fun w M => (c73 w).mono fun e w' ⟨he, hb⟩ => ⟨_, he, hb, V0.of_agg (us := exRules.cells.toList) rfl⟩
theorem v74 : VC Try.prog 74 [] (recsA exAnn) := by
  refine VC_of Try.func74 rfl (by kernel_rfl) (by kernel_rfl) rfl fun M0 w0 => ?_
  simp only [Try.ntmps74, Try.results74, enumA]
  repeat (first | (with_reducible refine vseq ?_) | (with_reducible refine vthenN ?_) | (with_reducible refine vthenE ?_) | (with_reducible refine vthenR ?_) | (with_reducible refine vret ?_) | (with_reducible refine vskip ?_) | (with_reducible refine vexit ?_) | (with_reducible refine vblock ?_) | (with_reducible refine vblockN ?_) | (with_reducible refine vblockR ?_) | (with_reducible refine vblockH ?_) | (with_reducible refine vrun_nil ?_) | (with_reducible refine vblockE rfl ?_) | (with_reducible refine vregion [] ?_) | (with_reducible refine vhrun_nil ?_) | ((with_reducible refine vcondT ?_ ?_); (focus (go_simp; done))) | ((with_reducible refine vcondF ?_ ?_); (focus (go_simp; done))) | ((with_reducible refine vrun_cons fun KK hKK => ?_); go_simp; refine hKK _ ?_; clear hKK KK) | ((with_reducible refine vhrun_cons fun KK hKK => ?_); go_simp; refine hKK _ ?_; clear hKK KK))
  simp only [exAnn, annB]
  go_simp
theorem v60 : VC Try.prog 60 [] (B true) := by
  have h27 := v27 exAnn exRules 20000 (by decide) ex_small
  rw [ex_long] at h27
  have h24 := v24 exAnn exRules ⟨20000, 5000, 13000, -1⟩ (by decide) ex_small
  rw [ex_allow] at h24
  have H27 := Lib.hid h27
  have H24 := Lib.hid h24
  have h73 := Lib.hid v73
  have h74 := Lib.hid v74
  clear h27 h24
  refine VC_of Try.func60 rfl (by kernel_rfl) (by kernel_rfl) rfl fun M0 w0 => ?_
  simp only [Try.ntmps60, Try.results60, enumA]
  repeat (first | (with_reducible refine vseq ?_) | (with_reducible refine vthenN ?_) | (with_reducible refine vthenE ?_) | (with_reducible refine vthenR ?_) | (with_reducible refine vret ?_) | (with_reducible refine vskip ?_) | (with_reducible refine vexit ?_) | (with_reducible refine vblock ?_) | (with_reducible refine vblockN ?_) | (with_reducible refine vblockR ?_) | (with_reducible refine vblockH ?_) | (with_reducible refine vrun_nil ?_) | (with_reducible refine vblockE rfl ?_) | (with_reducible refine vregion [] ?_) | (with_reducible refine vhrun_nil ?_) | ((with_reducible refine vcondT ?_ ?_); (focus (go_simp; done))) | ((with_reducible refine vcondF ?_ ?_); (focus (go_simp; done))) | ((with_reducible refine vrun_cons fun KK hKK => ?_); go_simp; (first | (refine ⟨_, h73.out, ?_⟩) | (refine ⟨_, h74.out, ?_⟩) | (refine ⟨_, H27.out, ?_⟩) | (refine ⟨_, H24.out, ?_⟩) | skip); refine hKK _ ?_; clear hKK KK) | ((with_reducible refine vhrun_cons fun KK hKK => ?_); go_simp; (first | (refine ⟨_, h73.out, ?_⟩) | (refine ⟨_, h74.out, ?_⟩) | (refine ⟨_, H27.out, ?_⟩) | (refine ⟨_, H24.out, ?_⟩) | skip); refine hKK _ ?_; clear hKK KK))
  go_simp
end Go.Proofs.Ytmfmpagfjgpodaa
