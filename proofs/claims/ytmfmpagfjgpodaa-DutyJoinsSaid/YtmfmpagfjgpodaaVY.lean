/- Walks on plain values: small functions, licences; texts of at most 1000 bytes. -/
import Derived.Test.YtmfmpagfjgpodaaVX
namespace Go.Proofs.Ytmfmpagfjgpodaa
open Go.RowKit
theorem v75 (l : List Int) (hl : Nat.ble l.length 1000 = true) : VC Try.prog 75 [.sl 1 (l.map intA)] (I (fst l)) := VC_mk1 (by kernel_rfl) fun w M v1 h1 => by
  obtain ⟨A, cap, rfl, hcap, hS⟩ := V0.sl_inv (F := intA) (C := intC) (fun _ => rfl) h1
  exact (c75 l A _ cap w rfl (Nat.le_of_ble_eq_true hl) hS).mono fun e w' ⟨he, hw⟩ => ⟨_, he, by rw [hw]; exact Below.refl _ _, .lit _⟩
theorem VC_mk2' {P : Program} {f : FuncId} {a b r : AV} (hg : goesB P f = true) (h : ∀ w M v1 v2, V0 w M a v1 → V0 w M b v2 → Calls P f #[v1, v2] w fun e w' => ∃ v, e = .returned v ∧ Below w.heap.size w w' ∧ V0 w' M r v) : VC P f [a, b] r := VC_mk2 hg h
theorem v78 (c : Bool) (n : Int) : VC Try.prog 78 [B c, I n] (I (unl c n)) := VC_mk2 (by kernel_rfl) fun w M v1 v2 h1 h2 => by
  rw [h1.lit_inv, h2.lit_inv]
  exact (c78 c n w).mono fun e w' ⟨he, hw⟩ => ⟨_, he, by rw [hw]; exact Below.refl _ _, .lit _⟩
theorem v99 (s : ByteArray) (hs : s.size ≤ 1000) : VC Try.prog 99 [S s] (I (nameErr s)) := VC_mk1 (by kernel_rfl) fun w M v1 h1 => by
  rw [h1.lit_inv]
  exact (c99 s w hs).mono fun e w' ⟨he, hb⟩ => ⟨_, he, hb, .lit _⟩
theorem v100 (n : Int) : VC Try.prog 100 [I n] (I (dateErr n)) := VC_mk1 (by kernel_rfl) fun w M v1 h1 => by
  rw [h1.lit_inv]
  exact (c100 n w).mono fun e w' ⟨he, hw⟩ => ⟨_, he, by rw [hw]; exact Below.refl _ _, .lit _⟩
theorem v102 (s : ByteArray) (hs : s.size ≤ 1000) : VC Try.prog 102 [S s] (B (isName s)) := VC_mk1 (by kernel_rfl) fun w M v1 h1 => by
  rw [h1.lit_inv]
  exact (c102 s w hs).mono fun e w' ⟨he, hw⟩ => ⟨_, he, by rw [hw]; exact Below.refl _ _, .lit _⟩
theorem v103 (n : Int) : VC Try.prog 103 [I n] (I (dateErr n)) := VC_mk1 (by kernel_rfl) fun w M v1 h1 => by
  rw [h1.lit_inv]
  exact (c103 n w).mono fun e w' ⟨he, hw⟩ => ⟨_, he, by rw [hw]; exact Below.refl _ _, .lit _⟩
theorem v106 (n lo hi : Int) : VC Try.prog 106 [I n, I lo, I hi] (B (inR n lo hi)) := VC_mk3 (by kernel_rfl) fun w M v1 v2 v3 _ h1 h2 h3 => by
  rw [h1.lit_inv, h2.lit_inv, h3.lit_inv]
  exact (c106 n lo hi w).mono fun e w' ⟨he, hw⟩ => ⟨_, he, by rw [hw]; exact Below.refl _ _, .lit _⟩

/-! ### Licences -/
def licE (r : Rec) : Int := if isName r.driver then (if dateErr r.lo = 0 ∧ dateErr r.hi = 0 then (if r.hi < r.lo then 9 else 0) else 2) else 4
theorem dateErr_or (n : Int) : dateErr n = 0 ∨ dateErr n = 2 := by
  unfold dateErr unl
  split
  · exact .inl rfl
  · exact .inr rfl
theorem licE_fst (r : Rec) : fst [nameErr r.driver, dateErr r.lo, dateErr r.hi, unl (decide (r.lo ≤ r.hi)) 9] = licE r := by
  unfold licE nameErr unl
  cases isName r.driver
  · simp [fst]
  · rcases dateErr_or r.lo with h1 | h1 <;> rcases dateErr_or r.hi with h2 | h2 <;> by_cases h3 : r.lo ≤ r.hi <;> simp [fst, h1, h2, h3] <;> omega
theorem v105 (k : Int) (r : Rec) (hs : r.driver.size ≤ 1000) : VC Try.prog 105 [I k, .agg r.av] (I (licE r)) := by
  rw [← licE_fst]
  refine VC_of Try.func105 rfl (by kernel_rfl) (by kernel_rfl) rfl fun M0 w0 => ?_
  simp only [Try.ntmps105, Try.results105, enumA]
  repeat (first | (with_reducible refine vseq ?_) | (with_reducible refine vthenN ?_) | (with_reducible refine vthenE ?_) | (with_reducible refine vthenR ?_) | (with_reducible refine vret ?_) | (with_reducible refine vskip ?_) | (with_reducible refine vexit ?_) | (with_reducible refine vblock ?_) | (with_reducible refine vblockN ?_) | (with_reducible refine vblockR ?_) | (with_reducible refine vblockH ?_) | (with_reducible refine vrun_nil ?_) | (with_reducible refine vblockE rfl ?_) | (with_reducible refine vregion [] ?_) | (with_reducible refine vhrun_nil ?_) | ((with_reducible refine vcondT ?_ ?_); (focus (go_simp; done))) | ((with_reducible refine vcondF ?_ ?_); (focus (go_simp; done))) | ((with_reducible refine vrun_cons fun KK hKK => ?_); go_simp; refine hKK _ ?_; clear hKK KK) | ((with_reducible refine vhrun_cons fun KK hKK => ?_); go_simp; refine hKK _ ?_; clear hKK KK))
  refine vdraw 17 [] (by kernel_rfl) (by kernel_rfl) ?_
  simp only [List.take, List.drop]
  repeat (first | (with_reducible refine vseq ?_) | (with_reducible refine vthenN ?_) | (with_reducible refine vthenE ?_) | (with_reducible refine vthenR ?_) | (with_reducible refine vret ?_) | (with_reducible refine vskip ?_) | (with_reducible refine vexit ?_) | (with_reducible refine vblock ?_) | (with_reducible refine vblockN ?_) | (with_reducible refine vblockR ?_) | (with_reducible refine vblockH ?_) | (with_reducible refine vrun_nil ?_) | (with_reducible refine vblockE rfl ?_) | (with_reducible refine vregion [] ?_) | (with_reducible refine vhrun_nil ?_) | ((with_reducible refine vcondT ?_ ?_); (focus (go_simp; done))) | ((with_reducible refine vcondF ?_ ?_); (focus (go_simp; done))) | ((with_reducible refine vrun_cons fun KK hKK => ?_); go_simp; (first | (with_reducible refine ⟨_, v99 _ hs, ?_⟩) | (with_reducible refine ⟨_, v100 _, ?_⟩) | (with_reducible refine ⟨_, v78 _ _, ?_⟩) | (refine ⟨_, v75 [_, _, _, _] rfl, ?_⟩) | skip); refine hKK _ ?_; clear hKK KK) | ((with_reducible refine vhrun_cons fun KK hKK => ?_); go_simp; (first | (with_reducible refine ⟨_, v99 _ hs, ?_⟩) | (with_reducible refine ⟨_, v100 _, ?_⟩) | (with_reducible refine ⟨_, v78 _ _, ?_⟩) | (refine ⟨_, v75 [_, _, _, _] rfl, ?_⟩) | skip); refine hKK _ ?_; clear hKK KK))
  go_simp
theorem v104 (l : List Rec) (hl : l.length ≤ 1000) (hd : Small l) : VC Try.prog 104 [recsA l, I 20, .lit (.func (.func 105) #[] #[])] (.tup [I (checkL l.length 20 fun k => licE (rat l k)).1, I (checkL l.length 20 fun k => licE (rat l k)).2]) := by
  generalize hR0 : checkL l.length 20 (fun k => licE (rat l k)) = R
  unfold checkL at hR0
  have HR := Lib.hid hR0
  clear hR0
  refine VC_of Try.func104 rfl (by kernel_rfl) (by kernel_rfl) rfl fun M0 w0 => ?_
  simp only [Try.ntmps104, Try.results104, enumA]
  by_cases hlen : (20 : Int) < l.length
  · repeat (first | (with_reducible refine vseq ?_) | (with_reducible refine vthenN ?_) | (with_reducible refine vthenE ?_) | (with_reducible refine vthenR ?_) | (with_reducible refine vret ?_) | (with_reducible refine vskip ?_) | (with_reducible refine vexit ?_) | (with_reducible refine vblock ?_) | (with_reducible refine vblockN ?_) | (with_reducible refine vblockR ?_) | (with_reducible refine vblockH ?_) | (with_reducible refine vrun_nil ?_) | (with_reducible refine vblockE rfl ?_) | (with_reducible refine vregion [] ?_) | (with_reducible refine vhrun_nil ?_) | ((with_reducible refine vcondT ?_ ?_); (focus (go_simp; done))) | ((with_reducible refine vcondF ?_ ?_); (focus (go_simp; done))) | ((with_reducible refine vrun_cons fun KK hKK => ?_); go_simp; refine hKK _ ?_; clear hKK KK) | ((with_reducible refine vhrun_cons fun KK hKK => ?_); go_simp; refine hKK _ ?_; clear hKK KK))
    have e := HR.out
    rw [if_pos hlen] at e
    subst e
    go_simp
  · repeat (first | (with_reducible refine vseq ?_) | (with_reducible refine vthenN ?_) | (with_reducible refine vthenE ?_) | (with_reducible refine vthenR ?_) | (with_reducible refine vret ?_) | (with_reducible refine vskip ?_) | (with_reducible refine vexit ?_) | (with_reducible refine vblock ?_) | (with_reducible refine vblockN ?_) | (with_reducible refine vblockR ?_) | (with_reducible refine vblockH ?_) | (with_reducible refine vrun_nil ?_) | (with_reducible refine vblockE rfl ?_) | (with_reducible refine vregion [] ?_) | (with_reducible refine vhrun_nil ?_) | ((with_reducible refine vcondT ?_ ?_); (focus (go_simp; done))) | ((with_reducible refine vcondF ?_ ?_); (focus (go_simp; done))) | ((with_reducible refine vrun_cons fun KK hKK => ?_); go_simp; refine hKK _ ?_; clear hKK KK) | ((with_reducible refine vhrun_cons fun KK hKK => ?_); go_simp; refine hKK _ ?_; clear hKK KK))
    have e := HR.out
    rw [if_neg hlen] at e
    refine vloop (α := Nat) (fun k => ⟨[(2, .lit (.func (.func 105) #[] #[])), (17, I k), (16, I l.length), (15, recsA l)], []⟩) (fun k => k ≤ l.length ∧ firstErr (fun k => licE (rat l k)) k (l.length - k) = R) (fun k => l.length - k) 0 ⟨by omega, e⟩ (by clear e; go_simp) ?_
    clear e
    rintro k ⟨hk, hf⟩ K hR
    have HF := Lib.hid hf
    clear hf
    by_cases hlt : k < l.length
    · have hf := HF.out
      rw [firstErr_at hlt, rat_get hlt] at hf
      have HE := Lib.hid hf
      clear hf
      by_cases h0 : licE l[k] = 0
      · have hw := wrap_eq (x := (k : Int) + 1) (by omega) (by omega)
        repeat (first | (with_reducible refine vseq ?_) | (with_reducible refine vthenN ?_) | (with_reducible refine vthenE ?_) | (with_reducible refine vthenR ?_) | (with_reducible refine vret ?_) | (with_reducible refine vskip ?_) | (with_reducible refine vexit ?_) | (with_reducible refine vblock ?_) | (with_reducible refine vblockN ?_) | (with_reducible refine vblockR ?_) | (with_reducible refine vblockH ?_) | (with_reducible refine vrun_nil ?_) | (with_reducible refine vblockE rfl ?_) | (with_reducible refine vregion [] ?_) | (with_reducible refine vhrun_nil ?_) | ((with_reducible refine vcondT ?_ ?_); (focus (go_simp; done))) | ((with_reducible refine vcondF ?_ ?_); (focus (go_simp; done))) | ((with_reducible refine vrun_cons fun KK hKK => ?_); go_simp; (first | (with_reducible refine ⟨_, v105 _ l[k] (hd.at_ hlt), ?_⟩) | skip); refine hKK _ ?_; clear hKK KK) | ((with_reducible refine vhrun_cons fun KK hKK => ?_); go_simp; (first | (with_reducible refine ⟨_, v105 _ l[k] (hd.at_ hlt), ?_⟩) | skip); refine hKK _ ?_; clear hKK KK))
        refine hR _ (k + 1) ⟨hlt, ?_⟩ (by omega) ?_
        · have := HE.out
          rwa [if_neg (by simpa using h0)] at this
        · go_simp
      · repeat (first | (with_reducible refine vseq ?_) | (with_reducible refine vthenN ?_) | (with_reducible refine vthenE ?_) | (with_reducible refine vthenR ?_) | (with_reducible refine vret ?_) | (with_reducible refine vskip ?_) | (with_reducible refine vexit ?_) | (with_reducible refine vblock ?_) | (with_reducible refine vblockN ?_) | (with_reducible refine vblockR ?_) | (with_reducible refine vblockH ?_) | (with_reducible refine vrun_nil ?_) | (with_reducible refine vblockE rfl ?_) | (with_reducible refine vregion [] ?_) | (with_reducible refine vhrun_nil ?_) | ((with_reducible refine vcondT ?_ ?_); (focus (go_simp; done))) | ((with_reducible refine vcondF ?_ ?_); (focus (go_simp; done))) | ((with_reducible refine vrun_cons fun KK hKK => ?_); go_simp; (first | (with_reducible refine ⟨_, v105 _ l[k] (hd.at_ hlt), ?_⟩) | skip); refine hKK _ ?_; clear hKK KK) | ((with_reducible refine vhrun_cons fun KK hKK => ?_); go_simp; (first | (with_reducible refine ⟨_, v105 _ l[k] (hd.at_ hlt), ?_⟩) | skip); refine hKK _ ?_; clear hKK KK))
        have e := HE.out
        rw [if_pos h0] at e
        subst e
        go_simp
    · repeat (first | (with_reducible refine vseq ?_) | (with_reducible refine vthenN ?_) | (with_reducible refine vthenE ?_) | (with_reducible refine vthenR ?_) | (with_reducible refine vret ?_) | (with_reducible refine vskip ?_) | (with_reducible refine vexit ?_) | (with_reducible refine vblock ?_) | (with_reducible refine vblockN ?_) | (with_reducible refine vblockR ?_) | (with_reducible refine vblockH ?_) | (with_reducible refine vrun_nil ?_) | (with_reducible refine vblockE rfl ?_) | (with_reducible refine vregion [] ?_) | (with_reducible refine vhrun_nil ?_) | ((with_reducible refine vcondT ?_ ?_); (focus (go_simp; done))) | ((with_reducible refine vcondF ?_ ?_); (focus (go_simp; done))) | ((with_reducible refine vrun_cons fun KK hKK => ?_); go_simp; refine hKK _ ?_; clear hKK KK) | ((with_reducible refine vhrun_cons fun KK hKK => ?_); go_simp; refine hKK _ ?_; clear hKK KK))
      have e := HF.out
      rw [show l.length - k = 0 by omega, firstErr] at e
      subst e
      go_simp
end Go.Proofs.Ytmfmpagfjgpodaa
