/- Walks on plain values: the law of a driver who takes just what is allowed; records with texts of at most 1000 bytes. -/
import Derived.Test.YtmfmpagfjgpodaaVFrz
import Derived.Test.YtmfmpagfjgpodaaVTopP
import Derived.Test.YtmfmpagfjgpodaaVEarl3
namespace Go.Proofs.Ytmfmpagfjgpodaa
open Go.RowKit
set_option maxRecDepth 100000
theorem v61 (r : Rul) : VC Try.prog 61 [.agg r.av] (I (rulesErr r)) := VC_mk1 (by kernel_rfl) fun w M v1 h1 => by
  rw [rul_inv h1]
  exact (c61 r w).mono fun e w' ⟨he, hb⟩ => ⟨_, he, hb, .lit _⟩
theorem v73 : VC Try.prog 73 [] (.agg exRules.av) := VC_mk0 (by kernel_rfl) fun w M => (c73 w).mono fun e w' ⟨he, hb⟩ => ⟨_, he, hb, V0.of_agg (us := exRules.cells.toList) rfl⟩
theorem v74 : VC Try.prog 74 [] (recsA exAnn) := by
  refine VC_of Try.func74 rfl (by kernel_rfl) (by kernel_rfl) rfl fun M0 w0 => ?_
  simp only [Try.ntmps74, Try.results74, enumA]
  repeat (first | (with_reducible refine vseq ?_) | (with_reducible refine vthenN ?_) | (with_reducible refine vthenE ?_) | (with_reducible refine vthenR ?_) | (with_reducible refine vret ?_) | (with_reducible refine vskip ?_) | (with_reducible refine vexit ?_) | (with_reducible refine vblock ?_) | (with_reducible refine vblockN ?_) | (with_reducible refine vblockR ?_) | (with_reducible refine vblockH ?_) | (with_reducible refine vrun_nil ?_) | (with_reducible refine vblockE rfl ?_) | (with_reducible refine vregion [] ?_) | (with_reducible refine vhrun_nil ?_) | ((with_reducible refine vcondT ?_ ?_); (focus (go_simp; done))) | ((with_reducible refine vcondF ?_ ?_); (focus (go_simp; done))) | ((with_reducible refine vrun_cons fun KK hKK => ?_); go_simp; refine hKK _ ?_; clear hKK KK) | ((with_reducible refine vhrun_cons fun KK hKK => ?_); go_simp; refine hKK _ ?_; clear hKK KK))
  simp only [exAnn, annB]
  go_simp
theorem v60 : VC Try.prog 60 [] (B true) := by
  have h27 := v27 exAnn exRules 20000 (by decide) ex_small
  rw [ex_long] at h27
  have h24 := v24 exAnn exRules ⟨20000, 5000, 13000, -1⟩ (by decide) ex_small
  rw [ex_allow] at h24
  have H27 := Lib.hid h27
  have H24 := Lib.hid h24
  have h73 := Lib.hid v73
  have h74 := Lib.hid v74
  clear h27 h24
  refine VC_of Try.func60 rfl (by kernel_rfl) (by kernel_rfl) rfl fun M0 w0 => ?_
  simp only [Try.ntmps60, Try.results60, enumA]
  repeat (first | (with_reducible refine vseq ?_) | (with_reducible refine vthenN ?_) | (with_reducible refine vthenE ?_) | (with_reducible refine vthenR ?_) | (with_reducible refine vret ?_) | (with_reducible refine vskip ?_) | (with_reducible refine vexit ?_) | (with_reducible refine vblock ?_) | (with_reducible refine vblockN ?_) | (with_reducible refine vblockR ?_) | (with_reducible refine vblockH ?_) | (with_reducible refine vrun_nil ?_) | (with_reducible refine vblockE rfl ?_) | (with_reducible refine vregion [] ?_) | (with_reducible refine vhrun_nil ?_) | ((with_reducible refine vcondT ?_ ?_); (focus (go_simp; done))) | ((with_reducible refine vcondF ?_ ?_); (focus (go_simp; done))) | ((with_reducible refine vrun_cons fun KK hKK => ?_); go_simp; (first | (refine ⟨_, h73.out, ?_⟩) | (refine ⟨_, h74.out, ?_⟩) | (refine ⟨_, H27.out, ?_⟩) | (refine ⟨_, H24.out, ?_⟩) | skip); refine hKK _ ?_; clear hKK KK) | ((with_reducible refine vhrun_cons fun KK hKK => ?_); go_simp; (first | (refine ⟨_, h73.out, ?_⟩) | (refine ⟨_, h74.out, ?_⟩) | (refine ⟨_, H27.out, ?_⟩) | (refine ⟨_, H24.out, ?_⟩) | skip); refine hKK _ ?_; clear hKK KK))
  go_simp
/-- A trip that was taken. -/
structure Done where
  after : Int
  lo : Int
  hi : Int
  truth : Int
instance : Inhabited Done := ⟨⟨0, 0, 0, 0⟩⟩
@[go_sem] def Done.av (d : Done) : List AV := [I d.after, I d.lo, I d.hi, I d.truth]
def donesA (ds : List Done) : AV := .sl 4 (ds.map Done.av)
theorem done_at {ds : List Done} {k : Nat} (h : k < ds.length) : (ds.map Done.av)[k]? = some ds[k].av := by simp [h]
attribute [go_sem] annS
theorem small_app {l : List Rec} {x : Rec} (h : Small l) (hx : x.driver.size ≤ 1000) : Small (l ++ [x]) := fun y hy => by
  rcases List.mem_append.1 hy with h1 | h1
  · exact h y h1
  · simp only [List.mem_singleton] at h1
    subst h1
    exact hx
theorem name_size {s : ByteArray} (h : isName s = true) : s.size ≤ 12 := by
  unfold isName at h
  simp only [Bool.and_eq_true, decide_eq_true_eq] at h
  exact h.1.2
theorem day_small {r : Rul} {l : List Rec} {at_ : Int} (h : Day r l at_) : Small l := fun x hx => by
  obtain ⟨k, hk, rfl⟩ := List.getElem_of_mem hx
  have := name_size (recErr_zero ((bothErr_zero h.both).2.recOk hk)).1
  omega
set_option maxHeartbeats 8000000 in
theorem v13 (r : Rul) (ds : List Done) (_hds : ds.length ≤ 9223372036854775807) : VC Try.prog 13 [.agg [I r.brk, I r.rest, I r.stint, I r.shift, I r.week, .sl 4 (ds.map Done.av)]] (B true) := by
  have h61 := Lib.hid (v61 r)
  have h60 := Lib.hid v60
  have h36 := v36
  refine VC_of Try.func13 rfl (by kernel_rfl) (by kernel_rfl) rfl fun M0 w0 => ?_
  simp only [Try.ntmps13, Try.results13, enumA]
  by_cases c1 : 10 < ds.length
  · have c1' : (10 : Int) < ds.length := by omega
    repeat (first | (with_reducible refine vseq ?_) | (with_reducible refine vthenN ?_) | (with_reducible refine vthenE ?_) | (with_reducible refine vthenR ?_) | (with_reducible refine vret ?_) | (with_reducible refine vskip ?_) | (with_reducible refine vexit ?_) | (with_reducible refine vblock ?_) | (with_reducible refine vblockN ?_) | (with_reducible refine vblockR ?_) | (with_reducible refine vblockH ?_) | (with_reducible refine vrun_nil ?_) | (with_reducible refine vblockE rfl ?_) | (with_reducible refine vregion [] ?_) | (with_reducible refine vhrun_nil ?_) | ((with_reducible refine vcondT ?_ ?_); (focus (go_simp; done))) | ((with_reducible refine vcondF ?_ ?_); (focus (go_simp; done))) | ((with_reducible refine vrun_cons fun KK hKK => ?_); go_simp; (first | (with_reducible refine ⟨_, h60.out, ?_⟩) | (refine ⟨_, h61.out, ?_⟩) | skip); refine hKK _ ?_; clear hKK KK) | ((with_reducible refine vhrun_cons fun KK hKK => ?_); go_simp; (first | (with_reducible refine ⟨_, h60.out, ?_⟩) | (refine ⟨_, h61.out, ?_⟩) | skip); refine hKK _ ?_; clear hKK KK))
    go_simp
  · have c1' : ¬ (10 : Int) < ds.length := by omega
    by_cases c2 : rulesErr r = 0
    · have hD := Lib.hid (day_nil c2)
      have k1 := wrap_eq (x := 1) (by omega) (by omega)
      repeat (first | (with_reducible refine vseq ?_) | (with_reducible refine vthenN ?_) | (with_reducible refine vthenE ?_) | (with_reducible refine vthenR ?_) | (with_reducible refine vret ?_) | (with_reducible refine vskip ?_) | (with_reducible refine vexit ?_) | (with_reducible refine vblock ?_) | (with_reducible refine vblockN ?_) | (with_reducible refine vblockR ?_) | (with_reducible refine vblockH ?_) | (with_reducible refine vrun_nil ?_) | (with_reducible refine vblockE rfl ?_) | (with_reducible refine vregion [3] ?_) | (with_reducible refine vhrun_nil ?_) | ((with_reducible refine vcondT ?_ ?_); (focus (go_simp; done))) | ((with_reducible refine vcondF ?_ ?_); (focus (go_simp; done))) | ((with_reducible refine vrun_cons fun KK hKK => ?_); go_simp; (first | (with_reducible refine ⟨_, h60.out, ?_⟩) | (refine ⟨_, h61.out, ?_⟩) | skip); refine hKK _ ?_; clear hKK KK) | ((with_reducible refine vhrun_cons fun KK hKK => ?_); go_simp; (first | (with_reducible refine ⟨_, h60.out, ?_⟩) | (refine ⟨_, h61.out, ?_⟩) | skip); refine hKK _ ?_; clear hKK KK))
      refine vfreeze 3 0 (e := 57) (sz := 3) (nl := true) (es := []) (by go_simp) (by go_simp) ?_
      go_simp
      refine vloop (α := Nat × List Rec × Int) (fun q => ⟨[(5, I q.1), (3, recsA q.2.1), (4, I q.2.2), (1, .vp [I r.brk, I r.rest, I r.stint, I r.shift, I r.week, .sl 4 (ds.map Done.av)])], []⟩) (fun q => q.1 ≤ ds.length ∧ ds.length ≤ 10 ∧ q.2.1.length ≤ q.1 ∧ Hid (Day r q.2.1 q.2.2) ∧ q.2.2 ≤ 150000 * q.1) (fun q => ds.length - q.1) (0, [], 0) ⟨by simp, by omega, by simp, hD, by simp⟩ (by go_simp) ?_
      rintro ⟨k, L, at_⟩ ⟨b1, hn10, b2, HD, b3⟩ K hR
      simp only at b1 b2 HD b3 hR ⊢
      by_cases hlt : k < ds.length
      · have hlt' : (k : Int) < ds.length := by omega
        have hkw := wrap_eq (x := (k : Int) + 1) (by omega) (by omega)
        obtain ⟨d, hd⟩ : ∃ d, ds[k] = d := ⟨_, rfl⟩
        cases t1 : inR d.after 0 100000
        · repeat (first | (with_reducible refine vseq ?_) | (with_reducible refine vthenN ?_) | (with_reducible refine vthenE ?_) | (with_reducible refine vthenR ?_) | (with_reducible refine vret ?_) | (with_reducible refine vskip ?_) | (with_reducible refine vexit ?_) | (with_reducible refine vblock ?_) | (with_reducible refine vblockN ?_) | (with_reducible refine vblockR ?_) | (with_reducible refine vblockH ?_) | (with_reducible refine vrun_nil ?_) | (with_reducible refine vblockE rfl ?_) | (with_reducible refine vregion [] ?_) | (with_reducible refine vhrun_nil ?_) | ((with_reducible refine vcondT ?_ ?_); (focus (go_simp; done))) | ((with_reducible refine vcondF ?_ ?_); (focus (go_simp; done))) | ((with_reducible refine vrun_cons fun KK hKK => ?_); go_simp; (first | (with_reducible refine ⟨_, h36 _ _ _, ?_⟩) | skip); refine hKK _ ?_; clear hKK KK) | ((with_reducible refine vhrun_cons fun KK hKK => ?_); go_simp; (first | (with_reducible refine ⟨_, h36 _ _ _, ?_⟩) | skip); refine hKK _ ?_; clear hKK KK))
          go_simp
        · cases t2 : inR d.lo 1 d.hi
          · repeat (first | (with_reducible refine vseq ?_) | (with_reducible refine vthenN ?_) | (with_reducible refine vthenE ?_) | (with_reducible refine vthenR ?_) | (with_reducible refine vret ?_) | (with_reducible refine vskip ?_) | (with_reducible refine vexit ?_) | (with_reducible refine vblock ?_) | (with_reducible refine vblockN ?_) | (with_reducible refine vblockR ?_) | (with_reducible refine vblockH ?_) | (with_reducible refine vrun_nil ?_) | (with_reducible refine vblockE rfl ?_) | (with_reducible refine vregion [] ?_) | (with_reducible refine vhrun_nil ?_) | ((with_reducible refine vcondT ?_ ?_); (focus (go_simp; done))) | ((with_reducible refine vcondF ?_ ?_); (focus (go_simp; done))) | ((with_reducible refine vrun_cons fun KK hKK => ?_); go_simp; (first | (with_reducible refine ⟨_, h36 _ _ _, ?_⟩) | skip); refine hKK _ ?_; clear hKK KK) | ((with_reducible refine vhrun_cons fun KK hKK => ?_); go_simp; (first | (with_reducible refine ⟨_, h36 _ _ _, ?_⟩) | skip); refine hKK _ ?_; clear hKK KK))
            go_simp
          · by_cases t3 : 50000 < d.hi
            · repeat (first | (with_reducible refine vseq ?_) | (with_reducible refine vthenN ?_) | (with_reducible refine vthenE ?_) | (with_reducible refine vthenR ?_) | (with_reducible refine vret ?_) | (with_reducible refine vskip ?_) | (with_reducible refine vexit ?_) | (with_reducible refine vblock ?_) | (with_reducible refine vblockN ?_) | (with_reducible refine vblockR ?_) | (with_reducible refine vblockH ?_) | (with_reducible refine vrun_nil ?_) | (with_reducible refine vblockE rfl ?_) | (with_reducible refine vregion [] ?_) | (with_reducible refine vhrun_nil ?_) | ((with_reducible refine vcondT ?_ ?_); (focus (go_simp; done))) | ((with_reducible refine vcondF ?_ ?_); (focus (go_simp; done))) | ((with_reducible refine vrun_cons fun KK hKK => ?_); go_simp; (first | (with_reducible refine ⟨_, h36 _ _ _, ?_⟩) | skip); refine hKK _ ?_; clear hKK KK) | ((with_reducible refine vhrun_cons fun KK hKK => ?_); go_simp; (first | (with_reducible refine ⟨_, h36 _ _ _, ?_⟩) | skip); refine hKK _ ?_; clear hKK KK))
              go_simp
            · have u1 := inR_iff.1 t1
              have u2 := inR_iff.1 t2
              have hat := HD.out.pos
              have w1 := wrap_eq (x := d.hi - d.lo) (by omega) (by omega)
              have w2 := wrap_eq (x := d.hi - d.lo + 1) (by omega) (by omega)
              have h39 := Lib.hid (v39 d.truth (d.hi - d.lo + 1) (by omega))
              have m1 := Int.emod_nonneg d.truth (show d.hi - d.lo + 1 ≠ 0 by omega)
              have m2 := Int.emod_lt_of_pos d.truth (show 0 < d.hi - d.lo + 1 by omega)
              generalize d.truth % (d.hi - d.lo + 1) = m at *
              have w3 := wrap_eq (x := d.lo + m) (by omega) (by omega)
              have w4 := wrap_eq (x := at_ + d.after) (by omega) (by omega)
              have w5 := wrap_eq (x := at_ + d.after + (d.lo + m)) (by omega) (by omega)
              obtain ⟨f0, f1, f2, f3, f4, f5⟩ := day_trip (lo := d.lo) (hi := d.hi) (len := d.lo + m) HD.out (by omega) u1.1 (by omega) u2.1 (by omega) (by omega) (by omega)
              obtain ⟨len, hlen⟩ : ∃ len, d.lo + m = len := ⟨_, rfl⟩
              have hL6 : L.length ≤ 1000000 := by omega
              have hb1 : L.length + 1 ≤ 1000000000 := by omega
              have h24 := v24 L r ⟨at_ + d.after, d.lo, d.hi, -1⟩ (by omega) (day_small HD.out)
              unfold allowOut at h24
              rw [if_neg (by rw [f0]; simp)] at h24
              simp only at h24
              have h34 := v34 (L ++ [⟨annS, at_ + d.after, at_ + d.after + (d.lo + m)⟩]) r (by simp; omega) (small_app (day_small HD.out) (show annS.size ≤ 1000 by decide))
              have h20' := v20 (L ++ [⟨annS, at_ + d.after, at_ + d.after + (d.lo + m)⟩]) (by simp; omega)
              unfold fbOut at h34
              rw [if_neg (by simpa using f1)] at h34
              rw [hlen] at f2 f3 f4 f5 h34 h20' w3 w5
              have l0 : 0 < len := by omega
              have l1 : len ≤ 50000 := by omega
              simp only [recsA, List.map_append, List.map_cons, List.map_nil, Rec.av] at h34 h20'
              generalize firstBroken r (L ++ [⟨annS, at_ + d.after, at_ + d.after + len⟩]) = F at *
              obtain ⟨fk, fb⟩ := F
              simp only at h34 f2
              generalize breaksP r L (at_ + d.after) (-1) d.hi = X at *
              generalize breaksP r L (at_ + d.after) (-1) d.lo = Y at *
              generalize breaksP r L (at_ + d.after) (-1) len = Z at *
              have h20 := Lib.hid (v20 L hL6)
              have h20' := Lib.hid h20'
              have hx0 : X = 0 → fb = 0 := fun h => f2.2 (f3 h)
              have hy0 : Y ≠ 0 → fb ≠ 0 := fun h hf => f4 h (f2.1 hf)
              by_cases X0 : X = 0
              · have hf := hx0 X0
                have HD2 := Lib.hid (f5 X0)
                simp only [X0, if_true] at h24
                simp only [hf, ne_eq, not_true_eq_false, decide_false, unl, Bool.false_eq_true, if_false] at h34
                have H24 := Lib.hid h24
                have H34 := Lib.hid h34
                subst hf
                clear h24 h34 f0 f1 f2 f3 f4 f5 hx0 hy0 X0
                repeat (first | (with_reducible refine vseq ?_) | (with_reducible refine vthenN ?_) | (with_reducible refine vthenE ?_) | (with_reducible refine vthenR ?_) | (with_reducible refine vret ?_) | (with_reducible refine vskip ?_) | (with_reducible refine vexit ?_) | (with_reducible refine vblock ?_) | (with_reducible refine vblockN ?_) | (with_reducible refine vblockR ?_) | (with_reducible refine vblockH ?_) | (with_reducible refine vrun_nil ?_) | (with_reducible refine vblockE rfl ?_) | (with_reducible refine vregion [] ?_) | (with_reducible refine vhrun_nil ?_) | ((with_reducible refine vcondT ?_ ?_); (focus (go_simp; done))) | ((with_reducible refine vcondF ?_ ?_); (focus (go_simp; done))) | ((with_reducible refine vrun_cons fun KK hKK => ?_); go_simp; (first | (with_reducible refine ⟨_, h36 _ _ _, ?_⟩) | skip); refine hKK _ ?_; clear hKK KK) | ((with_reducible refine vhrun_cons fun KK hKK => ?_); go_simp; (first | (with_reducible refine ⟨_, h36 _ _ _, ?_⟩) | skip); refine hKK _ ?_; clear hKK KK))
                refine vdraw 15 [] (by kernel_rfl) (by kernel_rfl) ?_
                simp only [List.take, List.drop]
                repeat (first | (with_reducible refine vseq ?_) | (with_reducible refine vthenN ?_) | (with_reducible refine vthenE ?_) | (with_reducible refine vthenR ?_) | (with_reducible refine vret ?_) | (with_reducible refine vskip ?_) | (with_reducible refine vexit ?_) | (with_reducible refine vblock ?_) | (with_reducible refine vblockN ?_) | (with_reducible refine vblockR ?_) | (with_reducible refine vblockH ?_) | (with_reducible refine vrun_nil ?_) | (with_reducible refine vblockE rfl ?_) | (with_reducible refine vregion [] ?_) | (with_reducible refine vhrun_nil ?_) | ((with_reducible refine vcondT ?_ ?_); (focus (go_simp; done))) | ((with_reducible refine vcondF ?_ ?_); (focus (go_simp; done))) | ((with_reducible refine vrun_cons fun KK hKK => ?_); go_simp; (first | (refine ⟨_, h39.out, ?_⟩) | skip); refine hKK _ ?_; clear hKK KK) | ((with_reducible refine vhrun_cons fun KK hKK => ?_); go_simp; (first | (refine ⟨_, h39.out, ?_⟩) | skip); refine hKK _ ?_; clear hKK KK))
                refine vdraw 12 [] (by kernel_rfl) (by kernel_rfl) ?_
                simp only [List.take, List.drop]
                repeat (first | (with_reducible refine vseq ?_) | (with_reducible refine vthenN ?_) | (with_reducible refine vthenE ?_) | (with_reducible refine vthenR ?_) | (with_reducible refine vret ?_) | (with_reducible refine vskip ?_) | (with_reducible refine vexit ?_) | (with_reducible refine vblock ?_) | (with_reducible refine vblockN ?_) | (with_reducible refine vblockR ?_) | (with_reducible refine vblockH ?_) | (with_reducible refine vrun_nil ?_) | (with_reducible refine vblockE rfl ?_) | (with_reducible refine vregion [] ?_) | (with_reducible refine vhrun_nil ?_) | ((with_reducible refine vcondT ?_ ?_); (focus (go_simp; done))) | ((with_reducible refine vcondF ?_ ?_); (focus (go_simp; done))) | ((with_reducible refine vrun_cons fun KK hKK => ?_); go_simp; (first | (refine ⟨_, h20.out, ?_⟩) | (refine ⟨_, H24.out, ?_⟩) | skip); refine hKK _ ?_; clear hKK KK) | ((with_reducible refine vhrun_cons fun KK hKK => ?_); go_simp; (first | (refine ⟨_, h20.out, ?_⟩) | (refine ⟨_, H24.out, ?_⟩) | skip); refine hKK _ ?_; clear hKK KK))
                refine vdrawC 11 [101] (fun i => i == 1 || i == 10) (by kernel_rfl) (by kernel_rfl) (by kernel_rfl) (by go_simp) (by go_simp) ?_
                simp only [List.take, List.drop]
                repeat (first | (with_reducible refine vseq ?_) | (with_reducible refine vthenN ?_) | (with_reducible refine vthenE ?_) | (with_reducible refine vthenR ?_) | (with_reducible refine vret ?_) | (with_reducible refine vskip ?_) | (with_reducible refine vexit ?_) | (with_reducible refine vblock ?_) | (with_reducible refine vblockN ?_) | (with_reducible refine vblockR ?_) | (with_reducible refine vblockH ?_) | (with_reducible refine vrun_nil ?_) | (with_reducible refine vblockE rfl ?_) | (with_reducible refine vregion [] ?_) | (with_reducible refine vhrun_nil ?_) | ((with_reducible refine vcondT ?_ ?_); (focus (go_simp; done))) | ((with_reducible refine vcondF ?_ ?_); (focus (go_simp; done))) | ((with_reducible refine vrun_cons fun KK hKK => ?_); go_simp; refine hKK _ ?_; clear hKK KK) | ((with_reducible refine vhrun_cons fun KK hKK => ?_); go_simp; refine hKK _ ?_; clear hKK KK) | ((with_reducible refine vhc_cons rfl fun KK hKK => ?_); go_simp; refine hKK _ (by go_simp) ?_; clear hKK KK) | ((with_reducible refine vhc_nil ?_); simp only [List.cons_append, List.nil_append, List.append_nil, newCs]))
                refine vhc_chain [some (.arr 57 3 false (L.map Rec.av))] none (.osl 2) rfl ⟨rfl, fun _ => rfl, fun _ h => by cases h⟩ ?_ ?_
                · intro s2 hs2
                  have q1 : lkp s2 100 = recsA L := (hs2 100 (by simp [Op.operands, Call.operands]) (by go_simp)).trans (by go_simp)
                  clear hs2
                  go_simp
                  refine ⟨57, 3, L.map Rec.av, ?_⟩
                  go_simp
                  exact o20 L hL6
                repeat (first | (with_reducible refine vseq ?_) | (with_reducible refine vthenN ?_) | (with_reducible refine vthenE ?_) | (with_reducible refine vthenR ?_) | (with_reducible refine vret ?_) | (with_reducible refine vskip ?_) | (with_reducible refine vexit ?_) | (with_reducible refine vblock ?_) | (with_reducible refine vblockN ?_) | (with_reducible refine vblockR ?_) | (with_reducible refine vblockH ?_) | (with_reducible refine vrun_nil ?_) | (with_reducible refine vblockE rfl ?_) | (with_reducible refine vregion [] ?_) | (with_reducible refine vhrun_nil ?_) | ((with_reducible refine vcondT ?_ ?_); (focus (go_simp; done))) | ((with_reducible refine vcondF ?_ ?_); (focus (go_simp; done))) | ((with_reducible refine vrun_cons fun KK hKK => ?_); go_simp; refine hKK _ ?_; clear hKK KK) | ((with_reducible refine vhrun_cons fun KK hKK => ?_); go_simp; refine hKK _ ?_; clear hKK KK) | ((with_reducible refine vhc_cons rfl fun KK hKK => ?_); go_simp; refine hKK _ (by go_simp) ?_; clear hKK KK) | ((with_reducible refine vhc_nil ?_); simp only [List.cons_append, List.nil_append, List.append_nil, newCs]))
                refine vhc_chain [some (.arr 57 3 false (L.map Rec.av ++ [[S annS, I (at_ + d.after), I (at_ + d.after + len)]]))] (some 2) (.osl 2) rfl ⟨rfl, fun h => (by cases h), fun _ h => (by cases h; exact Nat.le_refl _)⟩ ?_ ?_
                · intro s2 hs2
                  have q1 : lkp s2 101 = .osl 2 := (hs2 101 (by simp [Op.operands, Call.operands]) (by go_simp)).trans (by go_simp)
                  have q2 : lkp s2 109 = .sl 3 [[S annS, I (at_ + d.after), I (at_ + d.after + len)]] := (hs2 109 (by simp [Op.operands, Call.operands]) (by go_simp)).trans (by go_simp)
                  clear hs2
                  go_simp
                repeat (first | (with_reducible refine vseq ?_) | (with_reducible refine vthenN ?_) | (with_reducible refine vthenE ?_) | (with_reducible refine vthenR ?_) | (with_reducible refine vret ?_) | (with_reducible refine vskip ?_) | (with_reducible refine vexit ?_) | (with_reducible refine vblock ?_) | (with_reducible refine vblockN ?_) | (with_reducible refine vblockR ?_) | (with_reducible refine vblockH ?_) | (with_reducible refine vrun_nil ?_) | (with_reducible refine vblockE rfl ?_) | (with_reducible refine vregion [] ?_) | (with_reducible refine vhrun_nil ?_) | ((with_reducible refine vcondT ?_ ?_); (focus (go_simp; done))) | ((with_reducible refine vcondF ?_ ?_); (focus (go_simp; done))) | ((with_reducible refine vrun_cons fun KK hKK => ?_); go_simp; refine hKK _ ?_; clear hKK KK) | ((with_reducible refine vhrun_cons fun KK hKK => ?_); go_simp; refine hKK _ ?_; clear hKK KK) | ((with_reducible refine vhc_cons rfl fun KK hKK => ?_); go_simp; refine hKK _ (by go_simp) ?_; clear hKK KK) | ((with_reducible refine vhc_nil ?_); simp only [List.cons_append, List.nil_append, newCs]))
                refine vfreeze 12 2 (e := 57) (sz := 3) (nl := false) (es := L.map Rec.av ++ [[S annS, I (at_ + d.after), I (at_ + d.after + len)]]) (by go_simp) (by go_simp) ?_
                go_simp
                refine vdrawC 10 [] (fun i => i == 8 || i == 9) (by kernel_rfl) (by kernel_rfl) (by kernel_rfl) (by go_simp) (by go_simp) ?_
                simp only [List.take, List.drop]
                repeat (first | (with_reducible refine vseq ?_) | (with_reducible refine vthenN ?_) | (with_reducible refine vthenE ?_) | (with_reducible refine vthenR ?_) | (with_reducible refine vret ?_) | (with_reducible refine vskip ?_) | (with_reducible refine vexit ?_) | (with_reducible refine vblock ?_) | (with_reducible refine vblockN ?_) | (with_reducible refine vblockR ?_) | (with_reducible refine vblockH ?_) | (with_reducible refine vrun_nil ?_) | (with_reducible refine vblockE rfl ?_) | (with_reducible refine vregion [] ?_) | (with_reducible refine vhrun_nil ?_) | ((with_reducible refine vcondT ?_ ?_); (focus (go_simp; done))) | ((with_reducible refine vcondF ?_ ?_); (focus (go_simp; done))) | ((with_reducible refine vrun_cons fun KK hKK => ?_); go_simp; (first | (refine ⟨_, h20'.out, ?_⟩) | (refine ⟨_, H34.out, ?_⟩) | skip); refine hKK _ ?_; clear hKK KK) | ((with_reducible refine vhrun_cons fun KK hKK => ?_); go_simp; (first | (refine ⟨_, h20'.out, ?_⟩) | (refine ⟨_, H34.out, ?_⟩) | skip); refine hKK _ ?_; clear hKK KK) | ((with_reducible refine vhc_cons rfl fun KK hKK => ?_); go_simp; (first | (refine ⟨_, h20'.out, ?_⟩) | (refine ⟨_, H34.out, ?_⟩) | skip); refine hKK _ (by go_simp) ?_; clear hKK KK) | ((with_reducible refine vhc_nil ?_); simp only [List.cons_append, List.nil_append, List.append_nil, newCs]))
                refine vhc_chain [some (.box [I 0, I 0])] none (.ref 3 0) rfl ⟨rfl, fun _ => rfl, fun _ h => by cases h⟩ ?_ ?_
                · intro s2 hs2
                  go_simp
                refine vhc_chain [some (.box [I 0, I fk])] none .any rfl ⟨rfl, fun _ => rfl, fun _ h => by cases h⟩ ?_ ?_
                · intro s2 hs2
                  have q1 : lkp s2 13 = .ref 3 0 := (hs2 13 (by simp [Op.operands]) (by go_simp)).trans (by go_simp)
                  have q2 : lkp s2 117 = .agg [I 0, I fk] := (hs2 117 (by simp [Op.operands]) (by go_simp)).trans (by go_simp)
                  clear hs2
                  go_simp
                repeat (first | (with_reducible refine vseq ?_) | (with_reducible refine vthenN ?_) | (with_reducible refine vthenE ?_) | (with_reducible refine vthenR ?_) | (with_reducible refine vret ?_) | (with_reducible refine vskip ?_) | (with_reducible refine vexit ?_) | (with_reducible refine vblock ?_) | (with_reducible refine vblockN ?_) | (with_reducible refine vblockR ?_) | (with_reducible refine vblockH ?_) | (with_reducible refine vrun_nil ?_) | (with_reducible refine vblockE rfl ?_) | (with_reducible refine vregion [] ?_) | (with_reducible refine vhrun_nil ?_) | ((with_reducible refine vcondT ?_ ?_); (focus (go_simp; done))) | ((with_reducible refine vcondF ?_ ?_); (focus (go_simp; done))) | ((with_reducible refine vrun_cons fun KK hKK => ?_); go_simp; refine hKK _ ?_; clear hKK KK) | ((with_reducible refine vhrun_cons fun KK hKK => ?_); go_simp; refine hKK _ ?_; clear hKK KK) | ((with_reducible refine vhc_cons rfl fun KK hKK => ?_); go_simp; refine hKK _ (by go_simp) ?_; clear hKK KK) | ((with_reducible refine vhc_nil ?_); simp only [List.cons_append, List.nil_append, newCs]))
                repeat (first | (with_reducible refine vseq ?_) | (with_reducible refine vthenN ?_) | (with_reducible refine vthenE ?_) | (with_reducible refine vthenR ?_) | (with_reducible refine vret ?_) | (with_reducible refine vskip ?_) | (with_reducible refine vexit ?_) | (with_reducible refine vblock ?_) | (with_reducible refine vblockN ?_) | (with_reducible refine vblockR ?_) | (with_reducible refine vblockH ?_) | (with_reducible refine vrun_nil ?_) | (with_reducible refine vblockE rfl ?_) | (with_reducible refine vregion [] ?_) | (with_reducible refine vhrun_nil ?_) | ((with_reducible refine vcondT ?_ ?_); (focus (go_simp; done))) | ((with_reducible refine vcondF ?_ ?_); (focus (go_simp; done))) | ((with_reducible refine vrun_cons fun KK hKK => ?_); go_simp; refine hKK _ ?_; clear hKK KK) | ((with_reducible refine vhrun_cons fun KK hKK => ?_); go_simp; refine hKK _ ?_; clear hKK KK))
                refine vdraw 7 [] (by kernel_rfl) (by kernel_rfl) ?_
                simp only [List.take, List.drop]
                repeat (first | (with_reducible refine vseq ?_) | (with_reducible refine vthenN ?_) | (with_reducible refine vthenE ?_) | (with_reducible refine vthenR ?_) | (with_reducible refine vret ?_) | (with_reducible refine vskip ?_) | (with_reducible refine vexit ?_) | (with_reducible refine vblock ?_) | (with_reducible refine vblockN ?_) | (with_reducible refine vblockR ?_) | (with_reducible refine vblockH ?_) | (with_reducible refine vrun_nil ?_) | (with_reducible refine vblockE rfl ?_) | (with_reducible refine vregion [] ?_) | (with_reducible refine vhrun_nil ?_) | ((with_reducible refine vcondT ?_ ?_); (focus (go_simp; done))) | ((with_reducible refine vcondF ?_ ?_); (focus (go_simp; done))) | ((with_reducible refine vrun_cons fun KK hKK => ?_); go_simp; refine hKK _ ?_; clear hKK KK) | ((with_reducible refine vhrun_cons fun KK hKK => ?_); go_simp; refine hKK _ ?_; clear hKK KK))
                refine hR _ (k + 1, L ++ [⟨annS, at_ + d.after, at_ + d.after + len⟩], at_ + d.after + len) ⟨by simp only; omega, hn10, by simp; omega, HD2, by simp only; omega⟩ (by simp only; omega) ?_
                go_simp
              · simp only [if_neg X0] at h24
                by_cases Y0 : Y = 0
                · simp only [Y0, if_true] at h24
                  have H24 := Lib.hid h24
                  have H34 := Lib.hid h34
                  clear h24 h34 f0 f1 f2 f3 f4 f5 hx0 hy0
                  repeat (first | (with_reducible refine vseq ?_) | (with_reducible refine vthenN ?_) | (with_reducible refine vthenE ?_) | (with_reducible refine vthenR ?_) | (with_reducible refine vret ?_) | (with_reducible refine vskip ?_) | (with_reducible refine vexit ?_) | (with_reducible refine vblock ?_) | (with_reducible refine vblockN ?_) | (with_reducible refine vblockR ?_) | (with_reducible refine vblockH ?_) | (with_reducible refine vrun_nil ?_) | (with_reducible refine vblockE rfl ?_) | (with_reducible refine vregion [] ?_) | (with_reducible refine vhrun_nil ?_) | ((with_reducible refine vcondT ?_ ?_); (focus (go_simp; done))) | ((with_reducible refine vcondF ?_ ?_); (focus (go_simp; done))) | ((with_reducible refine vrun_cons fun KK hKK => ?_); go_simp; (first | (with_reducible refine ⟨_, h36 _ _ _, ?_⟩) | skip); refine hKK _ ?_; clear hKK KK) | ((with_reducible refine vhrun_cons fun KK hKK => ?_); go_simp; (first | (with_reducible refine ⟨_, h36 _ _ _, ?_⟩) | skip); refine hKK _ ?_; clear hKK KK))
                  refine vdraw 15 [] (by kernel_rfl) (by kernel_rfl) ?_
                  simp only [List.take, List.drop]
                  repeat (first | (with_reducible refine vseq ?_) | (with_reducible refine vthenN ?_) | (with_reducible refine vthenE ?_) | (with_reducible refine vthenR ?_) | (with_reducible refine vret ?_) | (with_reducible refine vskip ?_) | (with_reducible refine vexit ?_) | (with_reducible refine vblock ?_) | (with_reducible refine vblockN ?_) | (with_reducible refine vblockR ?_) | (with_reducible refine vblockH ?_) | (with_reducible refine vrun_nil ?_) | (with_reducible refine vblockE rfl ?_) | (with_reducible refine vregion [] ?_) | (with_reducible refine vhrun_nil ?_) | ((with_reducible refine vcondT ?_ ?_); (focus (go_simp; done))) | ((with_reducible refine vcondF ?_ ?_); (focus (go_simp; done))) | ((with_reducible refine vrun_cons fun KK hKK => ?_); go_simp; (first | (refine ⟨_, h39.out, ?_⟩) | skip); refine hKK _ ?_; clear hKK KK) | ((with_reducible refine vhrun_cons fun KK hKK => ?_); go_simp; (first | (refine ⟨_, h39.out, ?_⟩) | skip); refine hKK _ ?_; clear hKK KK))
                  refine vdraw 12 [] (by kernel_rfl) (by kernel_rfl) ?_
                  simp only [List.take, List.drop]
                  repeat (first | (with_reducible refine vseq ?_) | (with_reducible refine vthenN ?_) | (with_reducible refine vthenE ?_) | (with_reducible refine vthenR ?_) | (with_reducible refine vret ?_) | (with_reducible refine vskip ?_) | (with_reducible refine vexit ?_) | (with_reducible refine vblock ?_) | (with_reducible refine vblockN ?_) | (with_reducible refine vblockR ?_) | (with_reducible refine vblockH ?_) | (with_reducible refine vrun_nil ?_) | (with_reducible refine vblockE rfl ?_) | (with_reducible refine vregion [] ?_) | (with_reducible refine vhrun_nil ?_) | ((with_reducible refine vcondT ?_ ?_); (focus (go_simp; done))) | ((with_reducible refine vcondF ?_ ?_); (focus (go_simp; done))) | ((with_reducible refine vrun_cons fun KK hKK => ?_); go_simp; (first | (refine ⟨_, h20.out, ?_⟩) | (refine ⟨_, H24.out, ?_⟩) | skip); refine hKK _ ?_; clear hKK KK) | ((with_reducible refine vhrun_cons fun KK hKK => ?_); go_simp; (first | (refine ⟨_, h20.out, ?_⟩) | (refine ⟨_, H24.out, ?_⟩) | skip); refine hKK _ ?_; clear hKK KK))
                  refine vdrawC 11 [101] (fun i => i == 1 || i == 10) (by kernel_rfl) (by kernel_rfl) (by kernel_rfl) (by go_simp) (by go_simp) ?_
                  simp only [List.take, List.drop]
                  repeat (first | (with_reducible refine vseq ?_) | (with_reducible refine vthenN ?_) | (with_reducible refine vthenE ?_) | (with_reducible refine vthenR ?_) | (with_reducible refine vret ?_) | (with_reducible refine vskip ?_) | (with_reducible refine vexit ?_) | (with_reducible refine vblock ?_) | (with_reducible refine vblockN ?_) | (with_reducible refine vblockR ?_) | (with_reducible refine vblockH ?_) | (with_reducible refine vrun_nil ?_) | (with_reducible refine vblockE rfl ?_) | (with_reducible refine vregion [] ?_) | (with_reducible refine vhrun_nil ?_) | ((with_reducible refine vcondT ?_ ?_); (focus (go_simp; done))) | ((with_reducible refine vcondF ?_ ?_); (focus (go_simp; done))) | ((with_reducible refine vrun_cons fun KK hKK => ?_); go_simp; refine hKK _ ?_; clear hKK KK) | ((with_reducible refine vhrun_cons fun KK hKK => ?_); go_simp; refine hKK _ ?_; clear hKK KK) | ((with_reducible refine vhc_cons rfl fun KK hKK => ?_); go_simp; refine hKK _ (by go_simp) ?_; clear hKK KK) | ((with_reducible refine vhc_nil ?_); simp only [List.cons_append, List.nil_append, List.append_nil, newCs]))
                  refine vhc_chain [some (.arr 57 3 false (L.map Rec.av))] none (.osl 2) rfl ⟨rfl, fun _ => rfl, fun _ h => by cases h⟩ ?_ ?_
                  · intro s2 hs2
                    have q1 : lkp s2 100 = recsA L := (hs2 100 (by simp [Op.operands, Call.operands]) (by go_simp)).trans (by go_simp)
                    clear hs2
                    go_simp
                    refine ⟨57, 3, L.map Rec.av, ?_⟩
                    go_simp
                    exact o20 L hL6
                  repeat (first | (with_reducible refine vseq ?_) | (with_reducible refine vthenN ?_) | (with_reducible refine vthenE ?_) | (with_reducible refine vthenR ?_) | (with_reducible refine vret ?_) | (with_reducible refine vskip ?_) | (with_reducible refine vexit ?_) | (with_reducible refine vblock ?_) | (with_reducible refine vblockN ?_) | (with_reducible refine vblockR ?_) | (with_reducible refine vblockH ?_) | (with_reducible refine vrun_nil ?_) | (with_reducible refine vblockE rfl ?_) | (with_reducible refine vregion [] ?_) | (with_reducible refine vhrun_nil ?_) | ((with_reducible refine vcondT ?_ ?_); (focus (go_simp; done))) | ((with_reducible refine vcondF ?_ ?_); (focus (go_simp; done))) | ((with_reducible refine vrun_cons fun KK hKK => ?_); go_simp; refine hKK _ ?_; clear hKK KK) | ((with_reducible refine vhrun_cons fun KK hKK => ?_); go_simp; refine hKK _ ?_; clear hKK KK) | ((with_reducible refine vhc_cons rfl fun KK hKK => ?_); go_simp; refine hKK _ (by go_simp) ?_; clear hKK KK) | ((with_reducible refine vhc_nil ?_); simp only [List.cons_append, List.nil_append, List.append_nil, newCs]))
                  refine vhc_chain [some (.arr 57 3 false (L.map Rec.av ++ [[S annS, I (at_ + d.after), I (at_ + d.after + len)]]))] (some 2) (.osl 2) rfl ⟨rfl, fun h => (by cases h), fun _ h => (by cases h; exact Nat.le_refl _)⟩ ?_ ?_
                  · intro s2 hs2
                    have q1 : lkp s2 101 = .osl 2 := (hs2 101 (by simp [Op.operands, Call.operands]) (by go_simp)).trans (by go_simp)
                    have q2 : lkp s2 109 = .sl 3 [[S annS, I (at_ + d.after), I (at_ + d.after + len)]] := (hs2 109 (by simp [Op.operands, Call.operands]) (by go_simp)).trans (by go_simp)
                    clear hs2
                    go_simp
                  repeat (first | (with_reducible refine vseq ?_) | (with_reducible refine vthenN ?_) | (with_reducible refine vthenE ?_) | (with_reducible refine vthenR ?_) | (with_reducible refine vret ?_) | (with_reducible refine vskip ?_) | (with_reducible refine vexit ?_) | (with_reducible refine vblock ?_) | (with_reducible refine vblockN ?_) | (with_reducible refine vblockR ?_) | (with_reducible refine vblockH ?_) | (with_reducible refine vrun_nil ?_) | (with_reducible refine vblockE rfl ?_) | (with_reducible refine vregion [] ?_) | (with_reducible refine vhrun_nil ?_) | ((with_reducible refine vcondT ?_ ?_); (focus (go_simp; done))) | ((with_reducible refine vcondF ?_ ?_); (focus (go_simp; done))) | ((with_reducible refine vrun_cons fun KK hKK => ?_); go_simp; refine hKK _ ?_; clear hKK KK) | ((with_reducible refine vhrun_cons fun KK hKK => ?_); go_simp; refine hKK _ ?_; clear hKK KK) | ((with_reducible refine vhc_cons rfl fun KK hKK => ?_); go_simp; refine hKK _ (by go_simp) ?_; clear hKK KK) | ((with_reducible refine vhc_nil ?_); simp only [List.cons_append, List.nil_append, newCs]))
                  refine vfreeze 12 2 (e := 57) (sz := 3) (nl := false) (es := L.map Rec.av ++ [[S annS, I (at_ + d.after), I (at_ + d.after + len)]]) (by go_simp) (by go_simp) ?_
                  go_simp
                  refine vdrawC 10 [] (fun i => i == 8 || i == 9) (by kernel_rfl) (by kernel_rfl) (by kernel_rfl) (by go_simp) (by go_simp) ?_
                  simp only [List.take, List.drop]
                  repeat (first | (with_reducible refine vseq ?_) | (with_reducible refine vthenN ?_) | (with_reducible refine vthenE ?_) | (with_reducible refine vthenR ?_) | (with_reducible refine vret ?_) | (with_reducible refine vskip ?_) | (with_reducible refine vexit ?_) | (with_reducible refine vblock ?_) | (with_reducible refine vblockN ?_) | (with_reducible refine vblockR ?_) | (with_reducible refine vblockH ?_) | (with_reducible refine vrun_nil ?_) | (with_reducible refine vblockE rfl ?_) | (with_reducible refine vregion [] ?_) | (with_reducible refine vhrun_nil ?_) | ((with_reducible refine vcondT ?_ ?_); (focus (go_simp; done))) | ((with_reducible refine vcondF ?_ ?_); (focus (go_simp; done))) | ((with_reducible refine vrun_cons fun KK hKK => ?_); go_simp; (first | (refine ⟨_, h20'.out, ?_⟩) | (refine ⟨_, H34.out, ?_⟩) | skip); refine hKK _ ?_; clear hKK KK) | ((with_reducible refine vhrun_cons fun KK hKK => ?_); go_simp; (first | (refine ⟨_, h20'.out, ?_⟩) | (refine ⟨_, H34.out, ?_⟩) | skip); refine hKK _ ?_; clear hKK KK) | ((with_reducible refine vhc_cons rfl fun KK hKK => ?_); go_simp; (first | (refine ⟨_, h20'.out, ?_⟩) | (refine ⟨_, H34.out, ?_⟩) | skip); refine hKK _ (by go_simp) ?_; clear hKK KK) | ((with_reducible refine vhc_nil ?_); simp only [List.cons_append, List.nil_append, List.append_nil, newCs]))
                  refine vhc_chain [some (.box [I 0, I 0])] none (.ref 3 0) rfl ⟨rfl, fun _ => rfl, fun _ h => by cases h⟩ ?_ ?_
                  · intro s2 hs2
                    go_simp
                  refine vhc_chain [some (.box [I fb, I fk])] none .any rfl ⟨rfl, fun _ => rfl, fun _ h => by cases h⟩ ?_ ?_
                  · intro s2 hs2
                    have q1 : lkp s2 13 = .ref 3 0 := (hs2 13 (by simp [Op.operands]) (by go_simp)).trans (by go_simp)
                    have q2 : lkp s2 117 = .agg [I fb, I fk] := (hs2 117 (by simp [Op.operands]) (by go_simp)).trans (by go_simp)
                    clear hs2
                    go_simp
                  repeat (first | (with_reducible refine vseq ?_) | (with_reducible refine vthenN ?_) | (with_reducible refine vthenE ?_) | (with_reducible refine vthenR ?_) | (with_reducible refine vret ?_) | (with_reducible refine vskip ?_) | (with_reducible refine vexit ?_) | (with_reducible refine vblock ?_) | (with_reducible refine vblockN ?_) | (with_reducible refine vblockR ?_) | (with_reducible refine vblockH ?_) | (with_reducible refine vrun_nil ?_) | (with_reducible refine vblockE rfl ?_) | (with_reducible refine vregion [] ?_) | (with_reducible refine vhrun_nil ?_) | ((with_reducible refine vcondT ?_ ?_); (focus (go_simp; done))) | ((with_reducible refine vcondF ?_ ?_); (focus (go_simp; done))) | ((with_reducible refine vrun_cons fun KK hKK => ?_); go_simp; refine hKK _ ?_; clear hKK KK) | ((with_reducible refine vhrun_cons fun KK hKK => ?_); go_simp; refine hKK _ ?_; clear hKK KK) | ((with_reducible refine vhc_cons rfl fun KK hKK => ?_); go_simp; refine hKK _ (by go_simp) ?_; clear hKK KK) | ((with_reducible refine vhc_nil ?_); simp only [List.cons_append, List.nil_append, newCs]))
                  repeat (first | (with_reducible refine vseq ?_) | (with_reducible refine vthenN ?_) | (with_reducible refine vthenE ?_) | (with_reducible refine vthenR ?_) | (with_reducible refine vret ?_) | (with_reducible refine vskip ?_) | (with_reducible refine vexit ?_) | (with_reducible refine vblock ?_) | (with_reducible refine vblockN ?_) | (with_reducible refine vblockR ?_) | (with_reducible refine vblockH ?_) | (with_reducible refine vrun_nil ?_) | (with_reducible refine vblockE rfl ?_) | (with_reducible refine vregion [] ?_) | (with_reducible refine vhrun_nil ?_) | ((with_reducible refine vcondT ?_ ?_); (focus (go_simp; done))) | ((with_reducible refine vcondF ?_ ?_); (focus (go_simp; done))) | ((with_reducible refine vrun_cons fun KK hKK => ?_); go_simp; refine hKK _ ?_; clear hKK KK) | ((with_reducible refine vhrun_cons fun KK hKK => ?_); go_simp; refine hKK _ ?_; clear hKK KK))
                  refine hR _ (k + 1, L, at_) ⟨by simp only; omega, hn10, by simp only; omega, HD, by simp only; omega⟩ (by simp only; omega) ?_
                  go_simp
                · have hf := hy0 Y0
                  simp only [if_neg Y0] at h24
                  simp only [hf, ne_eq, not_false_eq_true, decide_true, unl, if_true] at h34
                  have H24 := Lib.hid h24
                  have H34 := Lib.hid h34
                  clear h24 h34 f0 f1 f2 f3 f4 f5 hx0 hy0
                  repeat (first | (with_reducible refine vseq ?_) | (with_reducible refine vthenN ?_) | (with_reducible refine vthenE ?_) | (with_reducible refine vthenR ?_) | (with_reducible refine vret ?_) | (with_reducible refine vskip ?_) | (with_reducible refine vexit ?_) | (with_reducible refine vblock ?_) | (with_reducible refine vblockN ?_) | (with_reducible refine vblockR ?_) | (with_reducible refine vblockH ?_) | (with_reducible refine vrun_nil ?_) | (with_reducible refine vblockE rfl ?_) | (with_reducible refine vregion [] ?_) | (with_reducible refine vhrun_nil ?_) | ((with_reducible refine vcondT ?_ ?_); (focus (go_simp; done))) | ((with_reducible refine vcondF ?_ ?_); (focus (go_simp; done))) | ((with_reducible refine vrun_cons fun KK hKK => ?_); go_simp; (first | (with_reducible refine ⟨_, h36 _ _ _, ?_⟩) | skip); refine hKK _ ?_; clear hKK KK) | ((with_reducible refine vhrun_cons fun KK hKK => ?_); go_simp; (first | (with_reducible refine ⟨_, h36 _ _ _, ?_⟩) | skip); refine hKK _ ?_; clear hKK KK))
                  refine vdraw 15 [] (by kernel_rfl) (by kernel_rfl) ?_
                  simp only [List.take, List.drop]
                  repeat (first | (with_reducible refine vseq ?_) | (with_reducible refine vthenN ?_) | (with_reducible refine vthenE ?_) | (with_reducible refine vthenR ?_) | (with_reducible refine vret ?_) | (with_reducible refine vskip ?_) | (with_reducible refine vexit ?_) | (with_reducible refine vblock ?_) | (with_reducible refine vblockN ?_) | (with_reducible refine vblockR ?_) | (with_reducible refine vblockH ?_) | (with_reducible refine vrun_nil ?_) | (with_reducible refine vblockE rfl ?_) | (with_reducible refine vregion [] ?_) | (with_reducible refine vhrun_nil ?_) | ((with_reducible refine vcondT ?_ ?_); (focus (go_simp; done))) | ((with_reducible refine vcondF ?_ ?_); (focus (go_simp; done))) | ((with_reducible refine vrun_cons fun KK hKK => ?_); go_simp; (first | (refine ⟨_, h39.out, ?_⟩) | skip); refine hKK _ ?_; clear hKK KK) | ((with_reducible refine vhrun_cons fun KK hKK => ?_); go_simp; (first | (refine ⟨_, h39.out, ?_⟩) | skip); refine hKK _ ?_; clear hKK KK))
                  refine vdraw 12 [] (by kernel_rfl) (by kernel_rfl) ?_
                  simp only [List.take, List.drop]
                  repeat (first | (with_reducible refine vseq ?_) | (with_reducible refine vthenN ?_) | (with_reducible refine vthenE ?_) | (with_reducible refine vthenR ?_) | (with_reducible refine vret ?_) | (with_reducible refine vskip ?_) | (with_reducible refine vexit ?_) | (with_reducible refine vblock ?_) | (with_reducible refine vblockN ?_) | (with_reducible refine vblockR ?_) | (with_reducible refine vblockH ?_) | (with_reducible refine vrun_nil ?_) | (with_reducible refine vblockE rfl ?_) | (with_reducible refine vregion [] ?_) | (with_reducible refine vhrun_nil ?_) | ((with_reducible refine vcondT ?_ ?_); (focus (go_simp; done))) | ((with_reducible refine vcondF ?_ ?_); (focus (go_simp; done))) | ((with_reducible refine vrun_cons fun KK hKK => ?_); go_simp; (first | (refine ⟨_, h20.out, ?_⟩) | (refine ⟨_, H24.out, ?_⟩) | skip); refine hKK _ ?_; clear hKK KK) | ((with_reducible refine vhrun_cons fun KK hKK => ?_); go_simp; (first | (refine ⟨_, h20.out, ?_⟩) | (refine ⟨_, H24.out, ?_⟩) | skip); refine hKK _ ?_; clear hKK KK))
                  refine vdrawC 11 [101] (fun i => i == 1 || i == 10) (by kernel_rfl) (by kernel_rfl) (by kernel_rfl) (by go_simp) (by go_simp) ?_
                  simp only [List.take, List.drop]
                  repeat (first | (with_reducible refine vseq ?_) | (with_reducible refine vthenN ?_) | (with_reducible refine vthenE ?_) | (with_reducible refine vthenR ?_) | (with_reducible refine vret ?_) | (with_reducible refine vskip ?_) | (with_reducible refine vexit ?_) | (with_reducible refine vblock ?_) | (with_reducible refine vblockN ?_) | (with_reducible refine vblockR ?_) | (with_reducible refine vblockH ?_) | (with_reducible refine vrun_nil ?_) | (with_reducible refine vblockE rfl ?_) | (with_reducible refine vregion [] ?_) | (with_reducible refine vhrun_nil ?_) | ((with_reducible refine vcondT ?_ ?_); (focus (go_simp; done))) | ((with_reducible refine vcondF ?_ ?_); (focus (go_simp; done))) | ((with_reducible refine vrun_cons fun KK hKK => ?_); go_simp; refine hKK _ ?_; clear hKK KK) | ((with_reducible refine vhrun_cons fun KK hKK => ?_); go_simp; refine hKK _ ?_; clear hKK KK) | ((with_reducible refine vhc_cons rfl fun KK hKK => ?_); go_simp; refine hKK _ (by go_simp) ?_; clear hKK KK) | ((with_reducible refine vhc_nil ?_); simp only [List.cons_append, List.nil_append, List.append_nil, newCs]))
                  refine vhc_chain [some (.arr 57 3 false (L.map Rec.av))] none (.osl 2) rfl ⟨rfl, fun _ => rfl, fun _ h => by cases h⟩ ?_ ?_
                  · intro s2 hs2
                    have q1 : lkp s2 100 = recsA L := (hs2 100 (by simp [Op.operands, Call.operands]) (by go_simp)).trans (by go_simp)
                    clear hs2
                    go_simp
                    refine ⟨57, 3, L.map Rec.av, ?_⟩
                    go_simp
                    exact o20 L hL6
                  repeat (first | (with_reducible refine vseq ?_) | (with_reducible refine vthenN ?_) | (with_reducible refine vthenE ?_) | (with_reducible refine vthenR ?_) | (with_reducible refine vret ?_) | (with_reducible refine vskip ?_) | (with_reducible refine vexit ?_) | (with_reducible refine vblock ?_) | (with_reducible refine vblockN ?_) | (with_reducible refine vblockR ?_) | (with_reducible refine vblockH ?_) | (with_reducible refine vrun_nil ?_) | (with_reducible refine vblockE rfl ?_) | (with_reducible refine vregion [] ?_) | (with_reducible refine vhrun_nil ?_) | ((with_reducible refine vcondT ?_ ?_); (focus (go_simp; done))) | ((with_reducible refine vcondF ?_ ?_); (focus (go_simp; done))) | ((with_reducible refine vrun_cons fun KK hKK => ?_); go_simp; refine hKK _ ?_; clear hKK KK) | ((with_reducible refine vhrun_cons fun KK hKK => ?_); go_simp; refine hKK _ ?_; clear hKK KK) | ((with_reducible refine vhc_cons rfl fun KK hKK => ?_); go_simp; refine hKK _ (by go_simp) ?_; clear hKK KK) | ((with_reducible refine vhc_nil ?_); simp only [List.cons_append, List.nil_append, List.append_nil, newCs]))
                  refine vhc_chain [some (.arr 57 3 false (L.map Rec.av ++ [[S annS, I (at_ + d.after), I (at_ + d.after + len)]]))] (some 2) (.osl 2) rfl ⟨rfl, fun h => (by cases h), fun _ h => (by cases h; exact Nat.le_refl _)⟩ ?_ ?_
                  · intro s2 hs2
                    have q1 : lkp s2 101 = .osl 2 := (hs2 101 (by simp [Op.operands, Call.operands]) (by go_simp)).trans (by go_simp)
                    have q2 : lkp s2 109 = .sl 3 [[S annS, I (at_ + d.after), I (at_ + d.after + len)]] := (hs2 109 (by simp [Op.operands, Call.operands]) (by go_simp)).trans (by go_simp)
                    clear hs2
                    go_simp
                  repeat (first | (with_reducible refine vseq ?_) | (with_reducible refine vthenN ?_) | (with_reducible refine vthenE ?_) | (with_reducible refine vthenR ?_) | (with_reducible refine vret ?_) | (with_reducible refine vskip ?_) | (with_reducible refine vexit ?_) | (with_reducible refine vblock ?_) | (with_reducible refine vblockN ?_) | (with_reducible refine vblockR ?_) | (with_reducible refine vblockH ?_) | (with_reducible refine vrun_nil ?_) | (with_reducible refine vblockE rfl ?_) | (with_reducible refine vregion [] ?_) | (with_reducible refine vhrun_nil ?_) | ((with_reducible refine vcondT ?_ ?_); (focus (go_simp; done))) | ((with_reducible refine vcondF ?_ ?_); (focus (go_simp; done))) | ((with_reducible refine vrun_cons fun KK hKK => ?_); go_simp; refine hKK _ ?_; clear hKK KK) | ((with_reducible refine vhrun_cons fun KK hKK => ?_); go_simp; refine hKK _ ?_; clear hKK KK) | ((with_reducible refine vhc_cons rfl fun KK hKK => ?_); go_simp; refine hKK _ (by go_simp) ?_; clear hKK KK) | ((with_reducible refine vhc_nil ?_); simp only [List.cons_append, List.nil_append, newCs]))
                  refine vfreeze 12 2 (e := 57) (sz := 3) (nl := false) (es := L.map Rec.av ++ [[S annS, I (at_ + d.after), I (at_ + d.after + len)]]) (by go_simp) (by go_simp) ?_
                  go_simp
                  refine vdrawC 10 [] (fun i => i == 8 || i == 9) (by kernel_rfl) (by kernel_rfl) (by kernel_rfl) (by go_simp) (by go_simp) ?_
                  simp only [List.take, List.drop]
                  repeat (first | (with_reducible refine vseq ?_) | (with_reducible refine vthenN ?_) | (with_reducible refine vthenE ?_) | (with_reducible refine vthenR ?_) | (with_reducible refine vret ?_) | (with_reducible refine vskip ?_) | (with_reducible refine vexit ?_) | (with_reducible refine vblock ?_) | (with_reducible refine vblockN ?_) | (with_reducible refine vblockR ?_) | (with_reducible refine vblockH ?_) | (with_reducible refine vrun_nil ?_) | (with_reducible refine vblockE rfl ?_) | (with_reducible refine vregion [] ?_) | (with_reducible refine vhrun_nil ?_) | ((with_reducible refine vcondT ?_ ?_); (focus (go_simp; done))) | ((with_reducible refine vcondF ?_ ?_); (focus (go_simp; done))) | ((with_reducible refine vrun_cons fun KK hKK => ?_); go_simp; (first | (refine ⟨_, h20'.out, ?_⟩) | (refine ⟨_, H34.out, ?_⟩) | skip); refine hKK _ ?_; clear hKK KK) | ((with_reducible refine vhrun_cons fun KK hKK => ?_); go_simp; (first | (refine ⟨_, h20'.out, ?_⟩) | (refine ⟨_, H34.out, ?_⟩) | skip); refine hKK _ ?_; clear hKK KK) | ((with_reducible refine vhc_cons rfl fun KK hKK => ?_); go_simp; (first | (refine ⟨_, h20'.out, ?_⟩) | (refine ⟨_, H34.out, ?_⟩) | skip); refine hKK _ (by go_simp) ?_; clear hKK KK) | ((with_reducible refine vhc_nil ?_); simp only [List.cons_append, List.nil_append, List.append_nil, newCs]))
                  refine vhc_chain [some (.box [I 0, I 0])] none (.ref 3 0) rfl ⟨rfl, fun _ => rfl, fun _ h => by cases h⟩ ?_ ?_
                  · intro s2 hs2
                    go_simp
                  refine vhc_chain [some (.box [I fb, I fk])] none .any rfl ⟨rfl, fun _ => rfl, fun _ h => by cases h⟩ ?_ ?_
                  · intro s2 hs2
                    have q1 : lkp s2 13 = .ref 3 0 := (hs2 13 (by simp [Op.operands]) (by go_simp)).trans (by go_simp)
                    have q2 : lkp s2 117 = .agg [I fb, I fk] := (hs2 117 (by simp [Op.operands]) (by go_simp)).trans (by go_simp)
                    clear hs2
                    go_simp
                  repeat (first | (with_reducible refine vseq ?_) | (with_reducible refine vthenN ?_) | (with_reducible refine vthenE ?_) | (with_reducible refine vthenR ?_) | (with_reducible refine vret ?_) | (with_reducible refine vskip ?_) | (with_reducible refine vexit ?_) | (with_reducible refine vblock ?_) | (with_reducible refine vblockN ?_) | (with_reducible refine vblockR ?_) | (with_reducible refine vblockH ?_) | (with_reducible refine vrun_nil ?_) | (with_reducible refine vblockE rfl ?_) | (with_reducible refine vregion [] ?_) | (with_reducible refine vhrun_nil ?_) | ((with_reducible refine vcondT ?_ ?_); (focus (go_simp; done))) | ((with_reducible refine vcondF ?_ ?_); (focus (go_simp; done))) | ((with_reducible refine vrun_cons fun KK hKK => ?_); go_simp; refine hKK _ ?_; clear hKK KK) | ((with_reducible refine vhrun_cons fun KK hKK => ?_); go_simp; refine hKK _ ?_; clear hKK KK) | ((with_reducible refine vhc_cons rfl fun KK hKK => ?_); go_simp; refine hKK _ (by go_simp) ?_; clear hKK KK) | ((with_reducible refine vhc_nil ?_); simp only [List.cons_append, List.nil_append, newCs]))
                  repeat (first | (with_reducible refine vseq ?_) | (with_reducible refine vthenN ?_) | (with_reducible refine vthenE ?_) | (with_reducible refine vthenR ?_) | (with_reducible refine vret ?_) | (with_reducible refine vskip ?_) | (with_reducible refine vexit ?_) | (with_reducible refine vblock ?_) | (with_reducible refine vblockN ?_) | (with_reducible refine vblockR ?_) | (with_reducible refine vblockH ?_) | (with_reducible refine vrun_nil ?_) | (with_reducible refine vblockE rfl ?_) | (with_reducible refine vregion [] ?_) | (with_reducible refine vhrun_nil ?_) | ((with_reducible refine vcondT ?_ ?_); (focus (go_simp; done))) | ((with_reducible refine vcondF ?_ ?_); (focus (go_simp; done))) | ((with_reducible refine vrun_cons fun KK hKK => ?_); go_simp; refine hKK _ ?_; clear hKK KK) | ((with_reducible refine vhrun_cons fun KK hKK => ?_); go_simp; refine hKK _ ?_; clear hKK KK))
                  refine hR _ (k + 1, L, at_) ⟨by simp only; omega, hn10, by simp only; omega, HD, by simp only; omega⟩ (by simp only; omega) ?_
                  go_simp
      · have hlt' : ¬ (k : Int) < ds.length := by omega
        repeat (first | (with_reducible refine vseq ?_) | (with_reducible refine vthenN ?_) | (with_reducible refine vthenE ?_) | (with_reducible refine vthenR ?_) | (with_reducible refine vret ?_) | (with_reducible refine vskip ?_) | (with_reducible refine vexit ?_) | (with_reducible refine vblock ?_) | (with_reducible refine vblockN ?_) | (with_reducible refine vblockR ?_) | (with_reducible refine vblockH ?_) | (with_reducible refine vrun_nil ?_) | (with_reducible refine vblockE rfl ?_) | (with_reducible refine vregion [] ?_) | (with_reducible refine vhrun_nil ?_) | ((with_reducible refine vcondT ?_ ?_); (focus (go_simp; done))) | ((with_reducible refine vcondF ?_ ?_); (focus (go_simp; done))) | ((with_reducible refine vrun_cons fun KK hKK => ?_); go_simp; refine hKK _ ?_; clear hKK KK) | ((with_reducible refine vhrun_cons fun KK hKK => ?_); go_simp; refine hKK _ ?_; clear hKK KK))
        go_simp
    · repeat (first | (with_reducible refine vseq ?_) | (with_reducible refine vthenN ?_) | (with_reducible refine vthenE ?_) | (with_reducible refine vthenR ?_) | (with_reducible refine vret ?_) | (with_reducible refine vskip ?_) | (with_reducible refine vexit ?_) | (with_reducible refine vblock ?_) | (with_reducible refine vblockN ?_) | (with_reducible refine vblockR ?_) | (with_reducible refine vblockH ?_) | (with_reducible refine vrun_nil ?_) | (with_reducible refine vblockE rfl ?_) | (with_reducible refine vregion [] ?_) | (with_reducible refine vhrun_nil ?_) | ((with_reducible refine vcondT ?_ ?_); (focus (go_simp; done))) | ((with_reducible refine vcondF ?_ ?_); (focus (go_simp; done))) | ((with_reducible refine vrun_cons fun KK hKK => ?_); go_simp; (first | (with_reducible refine ⟨_, h60.out, ?_⟩) | (refine ⟨_, h61.out, ?_⟩) | skip); refine hKK _ ?_; clear hKK KK) | ((with_reducible refine vhrun_cons fun KK hKK => ?_); go_simp; (first | (with_reducible refine ⟨_, h60.out, ?_⟩) | (refine ⟨_, h61.out, ?_⟩) | skip); refine hKK _ ?_; clear hKK KK))
      go_simp
end Go.Proofs.Ytmfmpagfjgpodaa
