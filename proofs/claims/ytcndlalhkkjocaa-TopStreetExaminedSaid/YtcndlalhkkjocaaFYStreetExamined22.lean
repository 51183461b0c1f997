/- Texts in one: Walks on plain values: labels that grow, of a net that is right; numbers up to 1000000. -/
import Derived.Test.YtcndlalhkkjocaaFYStreetExamined21
import Derived.Test.YtcndlalhkkjocaaFYStreetExamined14
import Derived.Test.YtcndlalhkkjocaaFYStreetExamined8
/-! SYE: Walks on plain values: labels that grow, of a net that is right; numbers up to 1000000. -/
namespace Go.Proofs.Ytcndlalhkkjocaa
open Go.RowKit
set_option maxRecDepth 100000
set_option maxHeartbeats 1000000
theorem y_alT (r : Rd) (t : Int) (e : Bool) (h : RightPts r.pts) (t0 : 0 ≤ t) (t1 : t ≤ 2000000) : VC Try.prog 43 [roadA r, I t, .vp [endA e]] (I (alT e r t)) := by
  have g := p_takes r t e h.small t0 (by omega)
  have b := takes_rng h e t0
  unfold alT
  generalize takesF e r.pts t = T at *
  have u := wrap_eq (x := t + T) (by omega) (by omega)
  clear h b
  refine VC_of Try.func43 rfl (by kernel_rfl) (by kernel_rfl) rfl fun M0 w0 => ?_
  simp only [Try.ntmps43, Try.results43, enumA]
  repeat' (first | (with_reducible first | refine vseq ?_ | refine vthenN ?_ | refine vthenE ?_ | refine vthenR ?_ | refine vret ?_ | refine vskip ?_ | refine vexit ?_ | refine vblock ?_ | refine vblockN ?_ | refine vblockR ?_ | refine vblockH ?_ | refine vrun_nil ?_ | refine vblockE rfl ?_ | refine vregion [] ?_ | refine vhrun_nil ?_) | ((with_reducible refine vcondT ?_ ?_); (focus (go_simp; done))) | ((with_reducible refine vcondF ?_ ?_); (focus (go_simp; done))) | ((with_reducible first | refine vrun_cons fun KK hKK => ?_ | refine vhrun_cons fun KK hKK => ?_); go_simp; (first | (with_reducible refine ⟨_, g, ?_⟩) | skip); refine hKK _ ?_; clear hKK KK) | ((with_reducible refine vcondS ?_ (fun ht => ?_) (fun ht => ?_)); (focus (go_simp; done)); (all_goals (simp [go_sem] at ht; replace ht := ht.out))))
  go_simp
theorem y_alM (r : Rd) (t : Int) (h0 : 0 ≤ r.metres) (h1 : r.metres ≤ 100000) (t0 : 0 ≤ t) (t1 : t ≤ 1000000000) : VC Try.prog 45 [roadA r, I t] (I (alM r t)) := by
  unfold alM
  have u := wrap_eq (x := t + r.metres) (by omega) (by omega)
  refine VC_of Try.func45 rfl (by kernel_rfl) (by kernel_rfl) rfl fun M0 w0 => ?_
  simp only [Try.ntmps45, Try.results45, enumA]
  repeat' (first | (with_reducible first | refine vseq ?_ | refine vthenN ?_ | refine vthenE ?_ | refine vthenR ?_ | refine vret ?_ | refine vskip ?_ | refine vexit ?_ | refine vblock ?_ | refine vblockN ?_ | refine vblockR ?_ | refine vblockH ?_ | refine vrun_nil ?_ | refine vblockE rfl ?_ | refine vregion [] ?_ | refine vhrun_nil ?_) | ((with_reducible refine vcondT ?_ ?_); (focus (go_simp; done))) | ((with_reducible refine vcondF ?_ ?_); (focus (go_simp; done))) | ((with_reducible first | refine vrun_cons fun KK hKK => ?_ | refine vhrun_cons fun KK hKK => ?_); go_simp; refine hKK _ ?_; clear hKK KK) | ((with_reducible refine vcondS ?_ (fun ht => ?_) (fun ht => ?_)); (focus (go_simp; done)); (all_goals (simp [go_sem] at ht; replace ht := ht.out))))
  go_simp
/-- The first k are -1, the others 0. -/
def filT (p k : Nat) : List Int := List.replicate k (-1) ++ List.replicate (p - k) 0
theorem filT_len {p k : Nat} (h : k ≤ p) : (filT p k).length = p := by simp [filT]; omega
theorem filT_set {p k : Nat} (h : k < p) : (filT p k).set k (-1) = filT p (k + 1) := by
  unfold filT
  rw [List.set_append_right _ _ (by simp), show p - k = (p - (k + 1)) + 1 by omega, List.replicate_succ]
  simp only [List.length_replicate, Nat.sub_self, List.set_cons_zero]
  rw [List.replicate_succ', List.append_assoc]
  rfl
theorem filT_0 (p : Nat) : filT p 0 = List.replicate p 0 := by simp [filT]
theorem filT_all (p : Nat) : filT p p = List.replicate p (-1) := by simp [filT]
@[go_sem] theorem filT_0m (p : Nat) : (filT p 0).map intA = List.replicate p [I 0] := by rw [filT_0, List.map_replicate]; rfl
@[go_sem] theorem filT_am (p : Nat) : (filT p p).map intA = List.replicate p [I (-1)] := by rw [filT_all, List.map_replicate]; rfl
@[go_sem] theorem rep_m (p : Nat) : (List.replicate p (-1)).map intA = List.replicate p [I (-1)] := by rw [List.map_replicate]; rfl
@[go_sem] theorem lab0_m (p a : Nat) (num : Int) : (lab0 p a num).map intA = (List.replicate p [I (-1)]).set a [I num] := by rw [lab0, List.map_set, List.map_replicate]; rfl
@[go_sem] theorem roundG_0 (n : Nt) (al : Rd → Int → Int) (s : Gs) : roundG n al 0 s = s := rfl
theorem y_growT (n : Nt) (a : Nat) (num : Int) (e : Bool) (h : RightNet n) (ha : a < n.places.length) (h0 : 0 ≤ num) (h1 : num ≤ 1000000) :
    VC Try.prog 42 [snetA n, I (a : Int), I num, .fn (.func 43) [] [.vp [endA e]]] (.agg [intsA (growL n (alT e) num 7200 a).1, intsA (growL n (alT e) num 7200 a).2]) := by
  have A := along_T h e h0
  obtain ⟨RES, hRES⟩ : ∃ RES, growL n (alT e) num 7200 a = RES := ⟨_, rfl⟩
  rw [hRES]
  have hp20 := h.p20
  have hr60 := h.r60
  have hp0 := h.p0
  have HH := Lib.hid h
  have HA := Lib.hid A
  have HR := Lib.hid hRES
  clear h A hRES
  obtain ⟨w1, w2, w3, w4, w5, w6⟩ := ixs (m := a) (by omega)
  have hpl : n.places.length ≤ 1000000000 := by omega
  refine VC_of Try.func42 rfl (by kernel_rfl) (by kernel_rfl) rfl fun M0 w0 => ?_
  simp only [Try.ntmps42, Try.results42, enumA]
  repeat' (first | (with_reducible first | refine vseq ?_ | refine vthenN ?_ | refine vthenE ?_ | refine vthenR ?_ | refine vret ?_ | refine vskip ?_ | refine vexit ?_ | refine vblock ?_ | refine vblockN ?_ | refine vblockR ?_ | refine vblockH ?_ | refine vrun_nil ?_ | refine vblockE rfl ?_ | refine vregion [] ?_ | refine vhrun_nil ?_) | ((with_reducible refine vcondT ?_ ?_); (focus (go_simp; done))) | ((with_reducible refine vcondF ?_ ?_); (focus (go_simp; done))) | ((with_reducible first | refine vrun_cons fun KK hKK => ?_ | refine vhrun_cons fun KK hKK => ?_); go_simp; refine hKK _ ?_; clear hKK KK) | ((with_reducible refine vcondS ?_ (fun ht => ?_) (fun ht => ?_)); (focus (go_simp; done)); (all_goals (simp [go_sem] at ht; replace ht := ht.out))) | ((apply vrun_consG0 rfl); (focus (go_simp <;> exact rfl)); (focus (go_simp; done)); (focus (intro hb0; replace hb0 := hb0.out; go_simp <;> (first | exact rfl))); intro KK hKK; go_simp; refine hKK _ ?_; clear hKK KK) | ((apply vhrun_consG0 rfl); (focus (go_simp <;> exact rfl)); (focus (intro hb0; replace hb0 := hb0.out; go_simp <;> (first | exact rfl))); intro KK hKK; go_simp; refine hKK _ ?_; clear hKK KK))
  refine vdrawM2 12 [] [⟨4, 19, 3, [.int .i64 0], n.places.length, false⟩, ⟨9, 24, 3, [.int .i64 0], n.places.length, false⟩, ⟨11, 9, 0, [.slice none 0 0, .slice none 0 0], 0, true⟩] 10 25 [0, 1] (.agg [.osl 1, .osl 2]) (by kernel_rfl) ?_ ?_ (by kernel_rfl) (by kernel_rfl) (by kernel_rfl) (by go_simp) (by go_simp) ?_
  · intro hh E o ho hE
    simp only [List.getElem?_cons_succ, List.getElem?_cons_zero, Option.some.injEq] at ho
    subst ho
    have e1 := hE 0 (by simp) _ rfl
    have e2 := hE 1 (by simp) _ rfl
    simp only [Mc.av, List.length_cons, List.length_nil, Bool.false_eq_true, if_false, Nat.zero_add] at e1 e2
    simp [Gives, go_sem, e1, e2]
  · intro j hj hn
    have : j = 2 := by
      simp at hj hn
      omega
    subst this
    rfl
  simp only [List.take, List.drop]
  repeat (first | (with_reducible first | refine vseq ?_ | refine vthenN ?_ | refine vthenE ?_ | refine vthenR ?_ | refine vret ?_ | refine vskip ?_ | refine vexit ?_ | refine vblock ?_ | refine vblockN ?_ | refine vblockR ?_ | refine vblockH ?_ | refine vrun_nil ?_ | refine vblockE rfl ?_ | refine vregion [] ?_ | refine vhrun_nil ?_) | ((with_reducible refine vcondT ?_ ?_); (focus (go_simp; done))) | ((with_reducible refine vcondF ?_ ?_); (focus (go_simp; done))) | ((with_reducible first | refine vrun_cons fun KK hKK => ?_ | refine vhrun_cons fun KK hKK => ?_); go_simp; refine hKK _ ?_; clear hKK KK) | (refine vha_skip rfl ?_) | ((with_reducible refine vha_cons rfl fun KK hKK => ?_); go_simp; refine hKK _ (by go_simp) ?_; clear hKK KK) | (with_reducible refine vha_nil ?_))
  refine ⟨by simp only [mcsK, mcK, List.getElem?_cons_succ, List.getElem?_cons_zero]; go_simp, ?_⟩
  simp only [mcS, mcE, Mc.ob, Mc.av, List.cons_append, List.nil_append, Bool.false_eq_true, if_false, if_true, Nat.zero_add, List.length_cons, List.length_nil]
  repeat' (first | (with_reducible first | refine vseq ?_ | refine vthenN ?_ | refine vthenE ?_ | refine vthenR ?_ | refine vret ?_ | refine vskip ?_ | refine vexit ?_ | refine vblock ?_ | refine vblockN ?_ | refine vblockR ?_ | refine vblockH ?_ | refine vrun_nil ?_ | refine vblockE rfl ?_ | refine vregion [] ?_ | refine vhrun_nil ?_) | ((with_reducible refine vcondT ?_ ?_); (focus (go_simp; done))) | ((with_reducible refine vcondF ?_ ?_); (focus (go_simp; done))) | ((with_reducible first | refine vrun_cons fun KK hKK => ?_ | refine vhrun_cons fun KK hKK => ?_); go_simp; refine hKK _ ?_; clear hKK KK) | ((with_reducible refine vcondS ?_ (fun ht => ?_) (fun ht => ?_)); (focus (go_simp; done)); (all_goals (simp [go_sem] at ht; replace ht := ht.out))) | ((apply vrun_consG0 rfl); (focus (go_simp <;> exact rfl)); (focus (go_simp; done)); (focus (intro hb0; replace hb0 := hb0.out; go_simp <;> (first | exact rfl))); intro KK hKK; go_simp; refine hKK _ ?_; clear hKK KK) | ((apply vhrun_consG0 rfl); (focus (go_simp <;> exact rfl)); (focus (intro hb0; replace hb0 := hb0.out; go_simp <;> (first | exact rfl))); intro KK hKK; go_simp; refine hKK _ ?_; clear hKK KK))
  apply vcnt [1, 2, 3, 4, 8, 9, 28] (fun k => [(29, I (k : Int))]) (fun k => ([some (.box [nil_, nil_]), some (.arr 3 1 false ((filT n.places.length k).map intA)), some (.arr 3 1 false ((filT n.places.length k).map intA)), some (.box [.osl 1, .osl 2])] : Hp))  (n.places.length)
  · go_simp <;> exact rfl
  · go_simp
  · intro k hk K hK
    obtain ⟨x1, x2, x3, x4, x5, x6⟩ := ixs (m := k) (by omega)
    have hl := filT_len (p := n.places.length) (k := k) (by omega)
    have hs := Lib.hid (filT_set (p := n.places.length) (k := k) hk)
    generalize filT n.places.length (k + 1) = F' at *
    generalize filT n.places.length k = F at *
    repeat' (first | (with_reducible first | refine vseq ?_ | refine vthenN ?_ | refine vthenE ?_ | refine vthenR ?_ | refine vret ?_ | refine vskip ?_ | refine vexit ?_ | refine vblock ?_ | refine vblockN ?_ | refine vblockR ?_ | refine vblockH ?_ | refine vrun_nil ?_ | refine vblockE rfl ?_ | refine vregion [] ?_ | refine vhrun_nil ?_) | ((with_reducible refine vcondT ?_ ?_); (focus (go_simp; done))) | ((with_reducible refine vcondF ?_ ?_); (focus (go_simp; done))) | ((with_reducible first | refine vrun_cons fun KK hKK => ?_ | refine vhrun_cons fun KK hKK => ?_); go_simp; refine hKK _ ?_; clear hKK KK) | ((with_reducible refine vcondS ?_ (fun ht => ?_) (fun ht => ?_)); (focus (go_simp; done)); (all_goals (simp [go_sem] at ht; replace ht := ht.out))) | ((apply vrun_consG0 rfl); (focus (go_simp <;> exact rfl)); (focus (go_simp; done)); (focus (intro hb0; replace hb0 := hb0.out; go_simp <;> (first | exact rfl))); intro KK hKK; go_simp; refine hKK _ ?_; clear hKK KK) | ((apply vhrun_consG0 rfl); (focus (go_simp <;> exact rfl)); (focus (intro hb0; replace hb0 := hb0.out; go_simp <;> (first | exact rfl))); intro KK hKK; go_simp; refine hKK _ ?_; clear hKK KK))
    refine vdrawS2 7 [4] [] (by kernel_rfl) (by kernel_rfl) (by kernel_rfl) rfl ⟨rfl, rfl⟩ rfl ?_
    simp only [List.take, List.drop]
    repeat' (first | (with_reducible first | refine vseq ?_ | refine vthenN ?_ | refine vthenE ?_ | refine vthenR ?_ | refine vret ?_ | refine vskip ?_ | refine vexit ?_ | refine vblock ?_ | refine vblockN ?_ | refine vblockR ?_ | refine vblockH ?_ | refine vrun_nil ?_ | refine vblockE rfl ?_ | refine vhrun_nil ?_) | ((with_reducible refine vcondT ?_ ?_); (focus (go_simp; done))) | ((with_reducible refine vcondF ?_ ?_); (focus (go_simp; done))) | ((with_reducible first | refine vrun_cons fun KK hKK => ?_ | refine vhrun_cons fun KK hKK => ?_); go_simp; refine hKK _ ?_; clear hKK KK) | ((with_reducible refine vcondS ?_ (fun ht => ?_) (fun ht => ?_)); (focus (go_simp; done)); (all_goals (simp [go_sem] at ht; replace ht := ht.out))) | ((apply vrun_consG0 rfl); (focus (go_simp <;> exact rfl)); (focus (go_simp; done)); (focus (intro hb0; replace hb0 := hb0.out; go_simp <;> (first | exact rfl))); intro KK hKK; go_simp; refine hKK _ ?_; clear hKK KK) | ((apply vhrun_consG0 rfl); (focus (go_simp <;> exact rfl)); (focus (intro hb0; replace hb0 := hb0.out; go_simp <;> (first | exact rfl))); intro KK hKK; go_simp; refine hKK _ ?_; clear hKK KK))
    refine ⟨_, by go_simp; exact rfl, ?_, ?_⟩
    · simp only [lateK, List.getElem?_cons_succ, List.getElem?_cons_zero]
      exact ⟨⟨_, by go_simp; exact rfl, by go_simp⟩, trivial⟩
    repeat' (first | (with_reducible first | refine vseq ?_ | refine vthenN ?_ | refine vthenE ?_ | refine vthenR ?_ | refine vret ?_ | refine vskip ?_ | refine vexit ?_ | refine vblock ?_ | refine vblockN ?_ | refine vblockR ?_ | refine vblockH ?_ | refine vrun_nil ?_ | refine vblockE rfl ?_ | refine vregion [] ?_ | refine vhrun_nil ?_) | ((with_reducible refine vcondT ?_ ?_); (focus (go_simp; done))) | ((with_reducible refine vcondF ?_ ?_); (focus (go_simp; done))) | ((with_reducible first | refine vrun_cons fun KK hKK => ?_ | refine vhrun_cons fun KK hKK => ?_); go_simp; refine hKK _ ?_; clear hKK KK) | ((with_reducible refine vcondS ?_ (fun ht => ?_) (fun ht => ?_)); (focus (go_simp; done)); (all_goals (simp [go_sem] at ht; replace ht := ht.out))) | ((apply vrun_consG0 rfl); (focus (go_simp <;> exact rfl)); (focus (go_simp; done)); (focus (intro hb0; replace hb0 := hb0.out; go_simp <;> (first | exact rfl))); intro KK hKK; go_simp; refine hKK _ ?_; clear hKK KK) | ((apply vhrun_consG0 rfl); (focus (go_simp <;> exact rfl)); (focus (intro hb0; replace hb0 := hb0.out; go_simp <;> (first | exact rfl))); intro KK hKK; go_simp; refine hKK _ ?_; clear hKK KK))
    refine hK _ ?_
    rw [← hs.out]
    go_simp
  intro K
  repeat' (first | (with_reducible first | refine vseq ?_ | refine vthenN ?_ | refine vthenE ?_ | refine vthenR ?_ | refine vret ?_ | refine vskip ?_ | refine vexit ?_ | refine vblock ?_ | refine vblockN ?_ | refine vblockR ?_ | refine vblockH ?_ | refine vrun_nil ?_ | refine vblockE rfl ?_ | refine vregion [] ?_ | refine vhrun_nil ?_) | ((with_reducible refine vcondT ?_ ?_); (focus (go_simp; done))) | ((with_reducible refine vcondF ?_ ?_); (focus (go_simp; done))) | ((with_reducible first | refine vrun_cons fun KK hKK => ?_ | refine vhrun_cons fun KK hKK => ?_); go_simp; refine hKK _ ?_; clear hKK KK) | ((with_reducible refine vcondS ?_ (fun ht => ?_) (fun ht => ?_)); (focus (go_simp; done)); (all_goals (simp [go_sem] at ht; replace ht := ht.out))) | ((apply vrun_consG0 rfl); (focus (go_simp <;> exact rfl)); (focus (go_simp; done)); (focus (intro hb0; replace hb0 := hb0.out; go_simp <;> (first | exact rfl))); intro KK hKK; go_simp; refine hKK _ ?_; clear hKK KK) | ((apply vhrun_consG0 rfl); (focus (go_simp <;> exact rfl)); (focus (intro hb0; replace hb0 := hb0.out; go_simp <;> (first | exact rfl))); intro KK hKK; go_simp; refine hKK _ ?_; clear hKK KK))
  apply vloopK (α := Nat × Gs) [3, 4, 8, 9] (fun (x : Nat × Gs) => [(11, B x.2.ch)]) (fun (x : Nat × Gs) => ([some (.box [nil_, nil_]), some (.arr 3 1 false (x.2.L.map intA)), some (.arr 3 1 false (x.2.W.map intA)), some (.box [.osl 1, .osl 2])] : Hp)) (fun (x : Nat × Gs) => Hid ((if x.2.ch = true then growF n (alT e) x.1 x.2.L x.2.W else (x.2.L, x.2.W)) = RES) ∧ GI n num 7200 ⟨x.2.L, x.2.W, true⟩ ∧ (x.2.ch = true → mu (num + 20 * (7200 : Nat)).toNat x.2.L < x.1)) (fun (x : Nat × Gs) => (if x.2.ch = true then x.1 + 1 else 0)) ((growN n num 7200 a, ⟨lab0 n.places.length a num, List.replicate n.places.length (-1), true⟩)) ⟨Lib.hid (by rw [← HR.out]; rfl), (lab0_ok h0 ha).1, fun _ => by simp only [growN]; omega⟩
  · (go_simp <;> exact rfl)
  · go_simp
  rintro ⟨f, L, W, ch⟩ ⟨HI, hgi, hf⟩ K hK
  simp only at HI hgi hf
  cases ch
  · have e := HI.out
    rw [if_neg (by decide)] at e
    subst e
    repeat' (first | (with_reducible first | refine vseq ?_ | refine vthenN ?_ | refine vthenE ?_ | refine vthenR ?_ | refine vret ?_ | refine vskip ?_ | refine vexit ?_ | refine vblock ?_ | refine vblockN ?_ | refine vblockR ?_ | refine vblockH ?_ | refine vrun_nil ?_ | refine vblockE rfl ?_ | refine vhrun_nil ?_) | ((with_reducible refine vcondT ?_ ?_); (focus (go_simp; done))) | ((with_reducible refine vcondF ?_ ?_); (focus (go_simp; done))) | ((with_reducible first | refine vrun_cons fun KK hKK => ?_ | refine vhrun_cons fun KK hKK => ?_); go_simp; refine hKK _ ?_; clear hKK KK) | ((with_reducible refine vcondS ?_ (fun ht => ?_) (fun ht => ?_)); (focus (go_simp; done)); (all_goals (simp [go_sem] at ht; replace ht := ht.out))) | ((apply vrun_consG0 rfl); (focus (go_simp <;> exact rfl)); (focus (go_simp; done)); (focus (intro hb0; replace hb0 := hb0.out; go_simp <;> (first | exact rfl))); intro KK hKK; go_simp; refine hKK _ ?_; clear hKK KK) | ((apply vhrun_consG0 rfl); (focus (go_simp <;> exact rfl)); (focus (intro hb0; replace hb0 := hb0.out; go_simp <;> (first | exact rfl))); intro KK hKK; go_simp; refine hKK _ ?_; clear hKK KK))
    refine vregion [] ?_
    repeat' (first | (with_reducible first | refine vseq ?_ | refine vthenN ?_ | refine vthenE ?_ | refine vthenR ?_ | refine vret ?_ | refine vskip ?_ | refine vexit ?_ | refine vblock ?_ | refine vblockN ?_ | refine vblockR ?_ | refine vblockH ?_ | refine vrun_nil ?_ | refine vblockE rfl ?_ | refine vhrun_nil ?_) | ((with_reducible refine vcondT ?_ ?_); (focus (go_simp; done))) | ((with_reducible refine vcondF ?_ ?_); (focus (go_simp; done))) | ((with_reducible first | refine vrun_cons fun KK hKK => ?_ | refine vhrun_cons fun KK hKK => ?_); go_simp; refine hKK _ ?_; clear hKK KK) | ((with_reducible refine vcondS ?_ (fun ht => ?_) (fun ht => ?_)); (focus (go_simp; done)); (all_goals (simp [go_sem] at ht; replace ht := ht.out))) | ((apply vrun_consG0 rfl); (focus (go_simp <;> exact rfl)); (focus (go_simp; done)); (focus (intro hb0; replace hb0 := hb0.out; go_simp <;> (first | exact rfl))); intro KK hKK; go_simp; refine hKK _ ?_; clear hKK KK) | ((apply vhrun_consG0 rfl); (focus (go_simp <;> exact rfl)); (focus (intro hb0; replace hb0 := hb0.out; go_simp <;> (first | exact rfl))); intro KK hKK; go_simp; refine hKK _ ?_; clear hKK KK))
    refine vfreezeIn 3 0 1 rfl rfl rfl ?_
    refine vfreezeIn 3 1 2 rfl rfl rfl ?_
    repeat' (first | (with_reducible first | refine vseq ?_ | refine vthenN ?_ | refine vthenE ?_ | refine vthenR ?_ | refine vret ?_ | refine vskip ?_ | refine vexit ?_ | refine vblock ?_ | refine vblockN ?_ | refine vblockR ?_ | refine vblockH ?_ | refine vrun_nil ?_ | refine vblockE rfl ?_ | refine vregion [] ?_ | refine vhrun_nil ?_) | ((with_reducible refine vcondT ?_ ?_); (focus (go_simp; done))) | ((with_reducible refine vcondF ?_ ?_); (focus (go_simp; done))) | ((with_reducible first | refine vrun_cons fun KK hKK => ?_ | refine vhrun_cons fun KK hKK => ?_); go_simp; refine hKK _ ?_; clear hKK KK) | ((with_reducible refine vcondS ?_ (fun ht => ?_) (fun ht => ?_)); (focus (go_simp; done)); (all_goals (simp [go_sem] at ht; replace ht := ht.out))) | ((apply vrun_consG0 rfl); (focus (go_simp <;> exact rfl)); (focus (go_simp; done)); (focus (intro hb0; replace hb0 := hb0.out; go_simp <;> (first | exact rfl))); intro KK hKK; go_simp; refine hKK _ ?_; clear hKK KK) | ((apply vhrun_consG0 rfl); (focus (go_simp <;> exact rfl)); (focus (intro hb0; replace hb0 := hb0.out; go_simp <;> (first | exact rfl))); intro KK hKK; go_simp; refine hKK _ ?_; clear hKK KK))
    go_simp
  have hf := hf rfl
  obtain ⟨f, rfl⟩ : ∃ g, f = g + 1 := ⟨f - 1, by omega⟩
  have hg0 : GI n num 7200 ⟨L, W, false⟩ := ⟨hgi.L, hgi.W, hgi.rng⟩
  have HG := Lib.hid hg0
  have e := HI.out
  rw [if_pos rfl, growF] at e
  have HI := Lib.hid e
  clear e hgi hg0
  repeat' (first | (with_reducible first | refine vseq ?_ | refine vthenN ?_ | refine vthenE ?_ | refine vthenR ?_ | refine vret ?_ | refine vskip ?_ | refine vexit ?_ | refine vblock ?_ | refine vblockN ?_ | refine vblockR ?_ | refine vblockH ?_ | refine vrun_nil ?_ | refine vblockE rfl ?_ | refine vregion [] ?_ | refine vhrun_nil ?_) | ((with_reducible refine vcondT ?_ ?_); (focus (go_simp; done))) | ((with_reducible refine vcondF ?_ ?_); (focus (go_simp; done))) | ((with_reducible first | refine vrun_cons fun KK hKK => ?_ | refine vhrun_cons fun KK hKK => ?_); go_simp; refine hKK _ ?_; clear hKK KK) | ((with_reducible refine vcondS ?_ (fun ht => ?_) (fun ht => ?_)); (focus (go_simp; done)); (all_goals (simp [go_sem] at ht; replace ht := ht.out))) | ((apply vrun_consG0 rfl); (focus (go_simp <;> exact rfl)); (focus (go_simp; done)); (focus (intro hb0; replace hb0 := hb0.out; go_simp <;> (first | exact rfl))); intro KK hKK; go_simp; refine hKK _ ?_; clear hKK KK) | ((apply vhrun_consG0 rfl); (focus (go_simp <;> exact rfl)); (focus (intro hb0; replace hb0 := hb0.out; go_simp <;> (first | exact rfl))); intro KK hKK; go_simp; refine hKK _ ?_; clear hKK KK))
  apply vcnt [3, 4, 8, 9, 49, 50] (fun k => [(11, B (roundG n (alT e) k ⟨L, W, false⟩).ch), (51, I (k : Int))]) (fun k => ([some (.box [nil_, nil_]), some (.arr 3 1 false ((roundG n (alT e) k ⟨L, W, false⟩).L.map intA)), some (.arr 3 1 false ((roundG n (alT e) k ⟨L, W, false⟩).W.map intA)), some (.box [.osl 1, .osl 2])] : Hp))  (n.roads.length)
  · go_simp <;> exact rfl
  · go_simp
  · intro k hk K2 hK2
    obtain ⟨x1, x2, x3, x4, x5, x6⟩ := ixs (m := k) (by omega)
    have hok := (roundG_ok HA.out HG.out k (by omega)).1
    have hs : roundG n (alT e) (k + 1) ⟨L, W, false⟩ = stepG n (alT e) k (roundG n (alT e) k ⟨L, W, false⟩) := rfl
    generalize roundG n (alT e) (k + 1) ⟨L, W, false⟩ = s' at *
    generalize roundG n (alT e) k ⟨L, W, false⟩ = s at *
    have hR := HH.out.road k hk
    obtain ⟨u, hu⟩ : ∃ u : Nat, (rdat n.roads k).src = (u : Int) := ⟨(rdat n.roads k).src.toNat, by have := hR.src; omega⟩
    obtain ⟨v, hv⟩ : ∃ v : Nat, (rdat n.roads k).dst = (v : Int) := ⟨(rdat n.roads k).dst.toNat, by have := hR.dst; omega⟩
    have hu1 : u < n.places.length := by have := hR.src; omega
    have hv1 : v < n.places.length := by have := hR.dst; omega
    have c1 := hok.top hp20 hu1
    have c2 := hok.top hp20 hv1
    have l1 := hok.L
    have l2 := hok.W
    unfold stepG at hs
    rw [hu, hv, Int.toNat_natCast, Int.toNat_natCast] at hs
    have hpts := hR.pts
    have hmt := hR.metres
    clear hR hok
    obtain ⟨R, hRR⟩ : ∃ R, rdat n.roads k = R := ⟨_, rfl⟩
    rw [hRR] at hu hv hs hpts hmt
    obtain ⟨sL, sW, sc⟩ := s
    simp only at hs c1 c2 l1 l2
    have hu2 : u < sL.length := by omega
    have hv2 : v < sL.length := by omega
    have hv3 : v < sW.length := by omega
    have HS := Lib.hid hs
    clear hs
    obtain ⟨c, hc⟩ : ∃ c, iat sL u = c := ⟨_, rfl⟩
    obtain ⟨d, hd⟩ : ∃ d, iat sL v = d := ⟨_, rfl⟩
    rw [hc] at c1 HS
    rw [hd] at c2 HS
    by_cases hcm : c = -1
    · have e := HS.out
      rw [if_pos hcm] at e
      subst e
      clear c1 c2
      repeat' (first | (with_reducible first | refine vseq ?_ | refine vthenN ?_ | refine vthenE ?_ | refine vthenR ?_ | refine vret ?_ | refine vskip ?_ | refine vexit ?_ | refine vblock ?_ | refine vblockN ?_ | refine vblockR ?_ | refine vblockH ?_ | refine vrun_nil ?_ | refine vblockE rfl ?_ | refine vregion [] ?_ | refine vhrun_nil ?_) | ((with_reducible refine vcondT ?_ ?_); (focus (go_simp; done))) | ((with_reducible refine vcondF ?_ ?_); (focus (go_simp; done))) | ((with_reducible first | refine vrun_cons fun KK hKK => ?_ | refine vhrun_cons fun KK hKK => ?_); go_simp; refine hKK _ ?_; clear hKK KK) | ((with_reducible refine vcondS ?_ (fun ht => ?_) (fun ht => ?_)); (focus (go_simp; done)); (all_goals (simp [go_sem] at ht; replace ht := ht.out))) | ((apply vrun_consG0 rfl); (focus (go_simp <;> exact rfl)); (focus (go_simp; done)); (focus (intro hb0; replace hb0 := hb0.out; go_simp <;> (first | exact rfl))); intro KK hKK; go_simp; refine hKK _ ?_; clear hKK KK) | ((apply vhrun_consG0 rfl); (focus (go_simp <;> exact rfl)); (focus (intro hb0; replace hb0 := hb0.out; go_simp <;> (first | exact rfl))); intro KK hKK; go_simp; refine hKK _ ?_; clear hKK KK))
      refine hK2 _ ?_
      go_simp
    have c3 := c1.resolve_left hcm
    have g := y_alT R c e hpts (by omega) (by omega)
    simp only [roadA, hu, hv] at g
    have hb := HA.out.up k hk c c3.1 (by omega)
    rw [hRR] at hb
    generalize (alT e) R c = nv at *
    clear c1 hpts hmt
    by_cases hdm : d = -1
    · have e := HS.out
      rw [if_neg hcm, if_pos (.inl hdm)] at e
      subst e
      clear c2 c3 hb
      repeat' (first | (with_reducible first | refine vseq ?_ | refine vthenN ?_ | refine vthenE ?_ | refine vthenR ?_ | refine vret ?_ | refine vskip ?_ | refine vexit ?_ | refine vblock ?_ | refine vblockN ?_ | refine vblockR ?_ | refine vblockH ?_ | refine vrun_nil ?_ | refine vblockE rfl ?_ | refine vregion [] ?_ | refine vhrun_nil ?_) | ((with_reducible refine vcondT ?_ ?_); (focus (go_simp; done))) | ((with_reducible refine vcondF ?_ ?_); (focus (go_simp; done))) | ((with_reducible first | refine vrun_cons fun KK hKK => ?_ | refine vhrun_cons fun KK hKK => ?_); go_simp; refine hKK _ ?_; clear hKK KK) | ((with_reducible refine vcondS ?_ (fun ht => ?_) (fun ht => ?_)); (focus (go_simp; done)); (all_goals (simp [go_sem] at ht; replace ht := ht.out))) | ((apply vrun_consG0 rfl); (focus (go_simp <;> exact rfl)); (focus (go_simp; done)); (focus (intro hb0; replace hb0 := hb0.out; go_simp <;> (first | exact rfl))); intro KK hKK; go_simp; refine hKK _ ?_; clear hKK KK) | ((apply vhrun_consG0 rfl); (focus (go_simp <;> exact rfl)); (focus (intro hb0; replace hb0 := hb0.out; go_simp <;> (first | exact rfl))); intro KK hKK; go_simp; refine hKK _ ?_; clear hKK KK))
      refine vdrawL 10 9 [] rfl (by kernel_rfl) (by kernel_rfl) ?_
      simp only [List.take, List.drop]
      repeat' (first | (with_reducible first | refine vseq ?_ | refine vthenN ?_ | refine vthenE ?_ | refine vthenR ?_ | refine vret ?_ | refine vskip ?_ | refine vexit ?_ | refine vblock ?_ | refine vblockN ?_ | refine vblockR ?_ | refine vblockH ?_ | refine vrun_nil ?_ | refine vblockE rfl ?_ | refine vregion [] ?_ | refine vhrun_nil ?_) | ((with_reducible refine vcondT ?_ ?_); (focus (go_simp; done))) | ((with_reducible refine vcondF ?_ ?_); (focus (go_simp; done))) | ((with_reducible first | refine vrun_cons fun KK hKK => ?_ | refine vhrun_cons fun KK hKK => ?_); go_simp; (first | (with_reducible refine ⟨_, g, ?_⟩) | skip); refine hKK _ ?_; clear hKK KK) | ((with_reducible refine vcondS ?_ (fun ht => ?_) (fun ht => ?_)); (focus (go_simp; done)); (all_goals (simp [go_sem] at ht; replace ht := ht.out))) | ((apply vrun_consG0 rfl); (focus (go_simp <;> exact rfl)); (focus (go_simp; done)); (focus (intro hb0; replace hb0 := hb0.out; go_simp <;> (first | exact rfl | exact g | exact ⟨g, rfl⟩))); intro KK hKK; go_simp; refine hKK _ ?_; clear hKK KK) | ((apply vhrun_consG0 rfl); (focus (go_simp <;> exact rfl)); (focus (intro hb0; replace hb0 := hb0.out; go_simp <;> (first | exact rfl | exact g | exact ⟨g, rfl⟩))); intro KK hKK; go_simp; refine hKK _ ?_; clear hKK KK))
      refine vdrawS2 11 [5, 7] [] (by kernel_rfl) (by kernel_rfl) (by kernel_rfl) rfl ⟨rfl, rfl⟩ rfl ?_
      simp only [List.take, List.drop]
      repeat' (first | (with_reducible first | refine vseq ?_ | refine vthenN ?_ | refine vthenE ?_ | refine vthenR ?_ | refine vret ?_ | refine vskip ?_ | refine vexit ?_ | refine vblock ?_ | refine vblockN ?_ | refine vblockR ?_ | refine vblockH ?_ | refine vrun_nil ?_ | refine vblockE rfl ?_ | refine vhrun_nil ?_) | ((with_reducible refine vcondT ?_ ?_); (focus (go_simp; done))) | ((with_reducible refine vcondF ?_ ?_); (focus (go_simp; done))) | ((with_reducible first | refine vrun_cons fun KK hKK => ?_ | refine vhrun_cons fun KK hKK => ?_); go_simp; refine hKK _ ?_; clear hKK KK) | ((with_reducible refine vcondS ?_ (fun ht => ?_) (fun ht => ?_)); (focus (go_simp; done)); (all_goals (simp [go_sem] at ht; replace ht := ht.out))) | ((apply vrun_consG0 rfl); (focus (go_simp <;> exact rfl)); (focus (go_simp; done)); (focus (intro hb0; replace hb0 := hb0.out; go_simp <;> (first | exact rfl))); intro KK hKK; go_simp; refine hKK _ ?_; clear hKK KK) | ((apply vhrun_consG0 rfl); (focus (go_simp <;> exact rfl)); (focus (intro hb0; replace hb0 := hb0.out; go_simp <;> (first | exact rfl))); intro KK hKK; go_simp; refine hKK _ ?_; clear hKK KK))
      refine ⟨_, by go_simp; exact rfl, ?_, ?_⟩
      · simp only [lateK, List.getElem?_cons_succ, List.getElem?_cons_zero]
        exact ⟨⟨_, by go_simp; exact rfl, by go_simp⟩, ⟨_, by go_simp; exact rfl, by go_simp⟩, trivial⟩
      repeat' (first | (with_reducible first | refine vseq ?_ | refine vthenN ?_ | refine vthenE ?_ | refine vthenR ?_ | refine vret ?_ | refine vskip ?_ | refine vexit ?_ | refine vblock ?_ | refine vblockN ?_ | refine vblockR ?_ | refine vblockH ?_ | refine vrun_nil ?_ | refine vblockE rfl ?_ | refine vregion [] ?_ | refine vhrun_nil ?_) | ((with_reducible refine vcondT ?_ ?_); (focus (go_simp; done))) | ((with_reducible refine vcondF ?_ ?_); (focus (go_simp; done))) | ((with_reducible first | refine vrun_cons fun KK hKK => ?_ | refine vhrun_cons fun KK hKK => ?_); go_simp; refine hKK _ ?_; clear hKK KK) | ((with_reducible refine vcondS ?_ (fun ht => ?_) (fun ht => ?_)); (focus (go_simp; done)); (all_goals (simp [go_sem] at ht; replace ht := ht.out))) | ((apply vrun_consG0 rfl); (focus (go_simp <;> exact rfl)); (focus (go_simp; done)); (focus (intro hb0; replace hb0 := hb0.out; go_simp <;> (first | exact rfl))); intro KK hKK; go_simp; refine hKK _ ?_; clear hKK KK) | ((apply vhrun_consG0 rfl); (focus (go_simp <;> exact rfl)); (focus (intro hb0; replace hb0 := hb0.out; go_simp <;> (first | exact rfl))); intro KK hKK; go_simp; refine hKK _ ?_; clear hKK KK))
      refine hK2 _ ?_
      go_simp
    by_cases hlt : nv < d
    · have e := HS.out
      rw [if_neg hcm, if_pos (.inr hlt)] at e
      subst e
      clear c2 c3 hb
      repeat' (first | (with_reducible first | refine vseq ?_ | refine vthenN ?_ | refine vthenE ?_ | refine vthenR ?_ | refine vret ?_ | refine vskip ?_ | refine vexit ?_ | refine vblock ?_ | refine vblockN ?_ | refine vblockR ?_ | refine vblockH ?_ | refine vrun_nil ?_ | refine vblockE rfl ?_ | refine vregion [] ?_ | refine vhrun_nil ?_) | ((with_reducible refine vcondT ?_ ?_); (focus (go_simp; done))) | ((with_reducible refine vcondF ?_ ?_); (focus (go_simp; done))) | ((with_reducible first | refine vrun_cons fun KK hKK => ?_ | refine vhrun_cons fun KK hKK => ?_); go_simp; refine hKK _ ?_; clear hKK KK) | ((with_reducible refine vcondS ?_ (fun ht => ?_) (fun ht => ?_)); (focus (go_simp; done)); (all_goals (simp [go_sem] at ht; replace ht := ht.out))) | ((apply vrun_consG0 rfl); (focus (go_simp <;> exact rfl)); (focus (go_simp; done)); (focus (intro hb0; replace hb0 := hb0.out; go_simp <;> (first | exact rfl))); intro KK hKK; go_simp; refine hKK _ ?_; clear hKK KK) | ((apply vhrun_consG0 rfl); (focus (go_simp <;> exact rfl)); (focus (intro hb0; replace hb0 := hb0.out; go_simp <;> (first | exact rfl))); intro KK hKK; go_simp; refine hKK _ ?_; clear hKK KK))
      refine vdrawL 10 9 [] rfl (by kernel_rfl) (by kernel_rfl) ?_
      simp only [List.take, List.drop]
      repeat' (first | (with_reducible first | refine vseq ?_ | refine vthenN ?_ | refine vthenE ?_ | refine vthenR ?_ | refine vret ?_ | refine vskip ?_ | refine vexit ?_ | refine vblock ?_ | refine vblockN ?_ | refine vblockR ?_ | refine vblockH ?_ | refine vrun_nil ?_ | refine vblockE rfl ?_ | refine vregion [] ?_ | refine vhrun_nil ?_) | ((with_reducible refine vcondT ?_ ?_); (focus (go_simp; done))) | ((with_reducible refine vcondF ?_ ?_); (focus (go_simp; done))) | ((with_reducible first | refine vrun_cons fun KK hKK => ?_ | refine vhrun_cons fun KK hKK => ?_); go_simp; (first | (with_reducible refine ⟨_, g, ?_⟩) | skip); refine hKK _ ?_; clear hKK KK) | ((with_reducible refine vcondS ?_ (fun ht => ?_) (fun ht => ?_)); (focus (go_simp; done)); (all_goals (simp [go_sem] at ht; replace ht := ht.out))) | ((apply vrun_consG0 rfl); (focus (go_simp <;> exact rfl)); (focus (go_simp; done)); (focus (intro hb0; replace hb0 := hb0.out; go_simp <;> (first | exact rfl | exact g | exact ⟨g, rfl⟩))); intro KK hKK; go_simp; refine hKK _ ?_; clear hKK KK) | ((apply vhrun_consG0 rfl); (focus (go_simp <;> exact rfl)); (focus (intro hb0; replace hb0 := hb0.out; go_simp <;> (first | exact rfl | exact g | exact ⟨g, rfl⟩))); intro KK hKK; go_simp; refine hKK _ ?_; clear hKK KK))
      refine vdrawS2 11 [5, 7] [] (by kernel_rfl) (by kernel_rfl) (by kernel_rfl) rfl ⟨rfl, rfl⟩ rfl ?_
      simp only [List.take, List.drop]
      repeat' (first | (with_reducible first | refine vseq ?_ | refine vthenN ?_ | refine vthenE ?_ | refine vthenR ?_ | refine vret ?_ | refine vskip ?_ | refine vexit ?_ | refine vblock ?_ | refine vblockN ?_ | refine vblockR ?_ | refine vblockH ?_ | refine vrun_nil ?_ | refine vblockE rfl ?_ | refine vhrun_nil ?_) | ((with_reducible refine vcondT ?_ ?_); (focus (go_simp; done))) | ((with_reducible refine vcondF ?_ ?_); (focus (go_simp; done))) | ((with_reducible first | refine vrun_cons fun KK hKK => ?_ | refine vhrun_cons fun KK hKK => ?_); go_simp; refine hKK _ ?_; clear hKK KK) | ((with_reducible refine vcondS ?_ (fun ht => ?_) (fun ht => ?_)); (focus (go_simp; done)); (all_goals (simp [go_sem] at ht; replace ht := ht.out))) | ((apply vrun_consG0 rfl); (focus (go_simp <;> exact rfl)); (focus (go_simp; done)); (focus (intro hb0; replace hb0 := hb0.out; go_simp <;> (first | exact rfl))); intro KK hKK; go_simp; refine hKK _ ?_; clear hKK KK) | ((apply vhrun_consG0 rfl); (focus (go_simp <;> exact rfl)); (focus (intro hb0; replace hb0 := hb0.out; go_simp <;> (first | exact rfl))); intro KK hKK; go_simp; refine hKK _ ?_; clear hKK KK))
      refine ⟨_, by go_simp; exact rfl, ?_, ?_⟩
      · simp only [lateK, List.getElem?_cons_succ, List.getElem?_cons_zero]
        exact ⟨⟨_, by go_simp; exact rfl, by go_simp⟩, ⟨_, by go_simp; exact rfl, by go_simp⟩, trivial⟩
      repeat' (first | (with_reducible first | refine vseq ?_ | refine vthenN ?_ | refine vthenE ?_ | refine vthenR ?_ | refine vret ?_ | refine vskip ?_ | refine vexit ?_ | refine vblock ?_ | refine vblockN ?_ | refine vblockR ?_ | refine vblockH ?_ | refine vrun_nil ?_ | refine vblockE rfl ?_ | refine vregion [] ?_ | refine vhrun_nil ?_) | ((with_reducible refine vcondT ?_ ?_); (focus (go_simp; done))) | ((with_reducible refine vcondF ?_ ?_); (focus (go_simp; done))) | ((with_reducible first | refine vrun_cons fun KK hKK => ?_ | refine vhrun_cons fun KK hKK => ?_); go_simp; refine hKK _ ?_; clear hKK KK) | ((with_reducible refine vcondS ?_ (fun ht => ?_) (fun ht => ?_)); (focus (go_simp; done)); (all_goals (simp [go_sem] at ht; replace ht := ht.out))) | ((apply vrun_consG0 rfl); (focus (go_simp <;> exact rfl)); (focus (go_simp; done)); (focus (intro hb0; replace hb0 := hb0.out; go_simp <;> (first | exact rfl))); intro KK hKK; go_simp; refine hKK _ ?_; clear hKK KK) | ((apply vhrun_consG0 rfl); (focus (go_simp <;> exact rfl)); (focus (intro hb0; replace hb0 := hb0.out; go_simp <;> (first | exact rfl))); intro KK hKK; go_simp; refine hKK _ ?_; clear hKK KK))
      refine hK2 _ ?_
      go_simp
    · have e := HS.out
      rw [if_neg hcm, if_neg (not_or.2 ⟨hdm, hlt⟩)] at e
      subst e
      clear c2 c3 hb
      repeat' (first | (with_reducible first | refine vseq ?_ | refine vthenN ?_ | refine vthenE ?_ | refine vthenR ?_ | refine vret ?_ | refine vskip ?_ | refine vexit ?_ | refine vblock ?_ | refine vblockN ?_ | refine vblockR ?_ | refine vblockH ?_ | refine vrun_nil ?_ | refine vblockE rfl ?_ | refine vregion [] ?_ | refine vhrun_nil ?_) | ((with_reducible refine vcondT ?_ ?_); (focus (go_simp; done))) | ((with_reducible refine vcondF ?_ ?_); (focus (go_simp; done))) | ((with_reducible first | refine vrun_cons fun KK hKK => ?_ | refine vhrun_cons fun KK hKK => ?_); go_simp; refine hKK _ ?_; clear hKK KK) | ((with_reducible refine vcondS ?_ (fun ht => ?_) (fun ht => ?_)); (focus (go_simp; done)); (all_goals (simp [go_sem] at ht; replace ht := ht.out))) | ((apply vrun_consG0 rfl); (focus (go_simp <;> exact rfl)); (focus (go_simp; done)); (focus (intro hb0; replace hb0 := hb0.out; go_simp <;> (first | exact rfl))); intro KK hKK; go_simp; refine hKK _ ?_; clear hKK KK) | ((apply vhrun_consG0 rfl); (focus (go_simp <;> exact rfl)); (focus (intro hb0; replace hb0 := hb0.out; go_simp <;> (first | exact rfl))); intro KK hKK; go_simp; refine hKK _ ?_; clear hKK KK))
      refine vdrawL 10 9 [] rfl (by kernel_rfl) (by kernel_rfl) ?_
      simp only [List.take, List.drop]
      repeat' (first | (with_reducible first | refine vseq ?_ | refine vthenN ?_ | refine vthenE ?_ | refine vthenR ?_ | refine vret ?_ | refine vskip ?_ | refine vexit ?_ | refine vblock ?_ | refine vblockN ?_ | refine vblockR ?_ | refine vblockH ?_ | refine vrun_nil ?_ | refine vblockE rfl ?_ | refine vregion [] ?_ | refine vhrun_nil ?_) | ((with_reducible refine vcondT ?_ ?_); (focus (go_simp; done))) | ((with_reducible refine vcondF ?_ ?_); (focus (go_simp; done))) | ((with_reducible first | refine vrun_cons fun KK hKK => ?_ | refine vhrun_cons fun KK hKK => ?_); go_simp; (first | (with_reducible refine ⟨_, g, ?_⟩) | skip); refine hKK _ ?_; clear hKK KK) | ((with_reducible refine vcondS ?_ (fun ht => ?_) (fun ht => ?_)); (focus (go_simp; done)); (all_goals (simp [go_sem] at ht; replace ht := ht.out))) | ((apply vrun_consG0 rfl); (focus (go_simp <;> exact rfl)); (focus (go_simp; done)); (focus (intro hb0; replace hb0 := hb0.out; go_simp <;> (first | exact rfl | exact g | exact ⟨g, rfl⟩))); intro KK hKK; go_simp; refine hKK _ ?_; clear hKK KK) | ((apply vhrun_consG0 rfl); (focus (go_simp <;> exact rfl)); (focus (intro hb0; replace hb0 := hb0.out; go_simp <;> (first | exact rfl | exact g | exact ⟨g, rfl⟩))); intro KK hKK; go_simp; refine hKK _ ?_; clear hKK KK))
      refine hK2 _ ?_
      go_simp
  intro K2
  obtain ⟨hgi2, hdec⟩ := roundG_ok HA.out HG.out n.roads.length (Nat.le_refl _)
  generalize roundG n (alT e) n.roads.length ⟨L, W, false⟩ = s at *
  obtain ⟨sL, sW, sc⟩ := s
  simp only at hdec HI
  repeat' (first | (with_reducible first | refine vseq ?_ | refine vthenN ?_ | refine vthenE ?_ | refine vthenR ?_ | refine vret ?_ | refine vskip ?_ | refine vexit ?_ | refine vblock ?_ | refine vblockN ?_ | refine vblockR ?_ | refine vblockH ?_ | refine vrun_nil ?_ | refine vblockE rfl ?_ | refine vregion [] ?_ | refine vhrun_nil ?_) | ((with_reducible refine vcondT ?_ ?_); (focus (go_simp; done))) | ((with_reducible refine vcondF ?_ ?_); (focus (go_simp; done))) | ((with_reducible first | refine vrun_cons fun KK hKK => ?_ | refine vhrun_cons fun KK hKK => ?_); go_simp; refine hKK _ ?_; clear hKK KK) | ((with_reducible refine vcondS ?_ (fun ht => ?_) (fun ht => ?_)); (focus (go_simp; done)); (all_goals (simp [go_sem] at ht; replace ht := ht.out))) | ((apply vrun_consG0 rfl); (focus (go_simp <;> exact rfl)); (focus (go_simp; done)); (focus (intro hb0; replace hb0 := hb0.out; go_simp <;> (first | exact rfl))); intro KK hKK; go_simp; refine hKK _ ?_; clear hKK KK) | ((apply vhrun_consG0 rfl); (focus (go_simp <;> exact rfl)); (focus (intro hb0; replace hb0 := hb0.out; go_simp <;> (first | exact rfl))); intro KK hKK; go_simp; refine hKK _ ?_; clear hKK KK))
  refine hK _ (f, ⟨sL, sW, sc⟩) ⟨HI, ⟨hgi2.L, hgi2.W, hgi2.rng⟩, fun hsc => ?_⟩ ?_ ?_
  · simp only at hsc
    rcases hdec with hdec | ⟨_, hdec⟩
    · simp only [Gs.mk.injEq] at hdec
      rw [hdec.2.2] at hsc
      cases hsc
    · simp only
      omega
  · simp only
    split <;> simp
  · go_simp
theorem y_growM (n : Nt) (a : Nat) (h : RightNet n) (ha : a < n.places.length) :
    VC Try.prog 42 [snetA n, I (a : Int), I (0 : Int), .lit (.func (.func 45) #[] #[])] (.agg [intsA (growL n alM (0 : Int) 100000 a).1, intsA (growL n alM (0 : Int) 100000 a).2]) := by
  have A := along_M h
  obtain ⟨RES, hRES⟩ : ∃ RES, growL n alM (0 : Int) 100000 a = RES := ⟨_, rfl⟩
  rw [hRES]
  have hp20 := h.p20
  have hr60 := h.r60
  have hp0 := h.p0
  have HH := Lib.hid h
  have HA := Lib.hid A
  have HR := Lib.hid hRES
  clear h A hRES
  obtain ⟨w1, w2, w3, w4, w5, w6⟩ := ixs (m := a) (by omega)
  have hpl : n.places.length ≤ 1000000000 := by omega
  refine VC_of Try.func42 rfl (by kernel_rfl) (by kernel_rfl) rfl fun M0 w0 => ?_
  simp only [Try.ntmps42, Try.results42, enumA]
  repeat' (first | (with_reducible first | refine vseq ?_ | refine vthenN ?_ | refine vthenE ?_ | refine vthenR ?_ | refine vret ?_ | refine vskip ?_ | refine vexit ?_ | refine vblock ?_ | refine vblockN ?_ | refine vblockR ?_ | refine vblockH ?_ | refine vrun_nil ?_ | refine vblockE rfl ?_ | refine vregion [] ?_ | refine vhrun_nil ?_) | ((with_reducible refine vcondT ?_ ?_); (focus (go_simp; done))) | ((with_reducible refine vcondF ?_ ?_); (focus (go_simp; done))) | ((with_reducible first | refine vrun_cons fun KK hKK => ?_ | refine vhrun_cons fun KK hKK => ?_); go_simp; refine hKK _ ?_; clear hKK KK) | ((with_reducible refine vcondS ?_ (fun ht => ?_) (fun ht => ?_)); (focus (go_simp; done)); (all_goals (simp [go_sem] at ht; replace ht := ht.out))) | ((apply vrun_consG0 rfl); (focus (go_simp <;> exact rfl)); (focus (go_simp; done)); (focus (intro hb0; replace hb0 := hb0.out; go_simp <;> (first | exact rfl))); intro KK hKK; go_simp; refine hKK _ ?_; clear hKK KK) | ((apply vhrun_consG0 rfl); (focus (go_simp <;> exact rfl)); (focus (intro hb0; replace hb0 := hb0.out; go_simp <;> (first | exact rfl))); intro KK hKK; go_simp; refine hKK _ ?_; clear hKK KK))
  refine vdrawM2 12 [] [⟨4, 19, 3, [.int .i64 0], n.places.length, false⟩, ⟨9, 24, 3, [.int .i64 0], n.places.length, false⟩, ⟨11, 9, 0, [.slice none 0 0, .slice none 0 0], 0, true⟩] 10 25 [0, 1] (.agg [.osl 1, .osl 2]) (by kernel_rfl) ?_ ?_ (by kernel_rfl) (by kernel_rfl) (by kernel_rfl) (by go_simp) (by go_simp) ?_
  · intro hh E o ho hE
    simp only [List.getElem?_cons_succ, List.getElem?_cons_zero, Option.some.injEq] at ho
    subst ho
    have e1 := hE 0 (by simp) _ rfl
    have e2 := hE 1 (by simp) _ rfl
    simp only [Mc.av, List.length_cons, List.length_nil, Bool.false_eq_true, if_false, Nat.zero_add] at e1 e2
    simp [Gives, go_sem, e1, e2]
  · intro j hj hn
    have : j = 2 := by
      simp at hj hn
      omega
    subst this
    rfl
  simp only [List.take, List.drop]
  repeat (first | (with_reducible first | refine vseq ?_ | refine vthenN ?_ | refine vthenE ?_ | refine vthenR ?_ | refine vret ?_ | refine vskip ?_ | refine vexit ?_ | refine vblock ?_ | refine vblockN ?_ | refine vblockR ?_ | refine vblockH ?_ | refine vrun_nil ?_ | refine vblockE rfl ?_ | refine vregion [] ?_ | refine vhrun_nil ?_) | ((with_reducible refine vcondT ?_ ?_); (focus (go_simp; done))) | ((with_reducible refine vcondF ?_ ?_); (focus (go_simp; done))) | ((with_reducible first | refine vrun_cons fun KK hKK => ?_ | refine vhrun_cons fun KK hKK => ?_); go_simp; refine hKK _ ?_; clear hKK KK) | (refine vha_skip rfl ?_) | ((with_reducible refine vha_cons rfl fun KK hKK => ?_); go_simp; refine hKK _ (by go_simp) ?_; clear hKK KK) | (with_reducible refine vha_nil ?_))
  refine ⟨by simp only [mcsK, mcK, List.getElem?_cons_succ, List.getElem?_cons_zero]; go_simp, ?_⟩
  simp only [mcS, mcE, Mc.ob, Mc.av, List.cons_append, List.nil_append, Bool.false_eq_true, if_false, if_true, Nat.zero_add, List.length_cons, List.length_nil]
  repeat' (first | (with_reducible first | refine vseq ?_ | refine vthenN ?_ | refine vthenE ?_ | refine vthenR ?_ | refine vret ?_ | refine vskip ?_ | refine vexit ?_ | refine vblock ?_ | refine vblockN ?_ | refine vblockR ?_ | refine vblockH ?_ | refine vrun_nil ?_ | refine vblockE rfl ?_ | refine vregion [] ?_ | refine vhrun_nil ?_) | ((with_reducible refine vcondT ?_ ?_); (focus (go_simp; done))) | ((with_reducible refine vcondF ?_ ?_); (focus (go_simp; done))) | ((with_reducible first | refine vrun_cons fun KK hKK => ?_ | refine vhrun_cons fun KK hKK => ?_); go_simp; refine hKK _ ?_; clear hKK KK) | ((with_reducible refine vcondS ?_ (fun ht => ?_) (fun ht => ?_)); (focus (go_simp; done)); (all_goals (simp [go_sem] at ht; replace ht := ht.out))) | ((apply vrun_consG0 rfl); (focus (go_simp <;> exact rfl)); (focus (go_simp; done)); (focus (intro hb0; replace hb0 := hb0.out; go_simp <;> (first | exact rfl))); intro KK hKK; go_simp; refine hKK _ ?_; clear hKK KK) | ((apply vhrun_consG0 rfl); (focus (go_simp <;> exact rfl)); (focus (intro hb0; replace hb0 := hb0.out; go_simp <;> (first | exact rfl))); intro KK hKK; go_simp; refine hKK _ ?_; clear hKK KK))
  apply vcnt [1, 2, 3, 4, 8, 9, 28] (fun k => [(29, I (k : Int))]) (fun k => ([some (.box [nil_, nil_]), some (.arr 3 1 false ((filT n.places.length k).map intA)), some (.arr 3 1 false ((filT n.places.length k).map intA)), some (.box [.osl 1, .osl 2])] : Hp))  (n.places.length)
  · go_simp <;> exact rfl
  · go_simp
  · intro k hk K hK
    obtain ⟨x1, x2, x3, x4, x5, x6⟩ := ixs (m := k) (by omega)
    have hl := filT_len (p := n.places.length) (k := k) (by omega)
    have hs := Lib.hid (filT_set (p := n.places.length) (k := k) hk)
    generalize filT n.places.length (k + 1) = F' at *
    generalize filT n.places.length k = F at *
    repeat' (first | (with_reducible first | refine vseq ?_ | refine vthenN ?_ | refine vthenE ?_ | refine vthenR ?_ | refine vret ?_ | refine vskip ?_ | refine vexit ?_ | refine vblock ?_ | refine vblockN ?_ | refine vblockR ?_ | refine vblockH ?_ | refine vrun_nil ?_ | refine vblockE rfl ?_ | refine vregion [] ?_ | refine vhrun_nil ?_) | ((with_reducible refine vcondT ?_ ?_); (focus (go_simp; done))) | ((with_reducible refine vcondF ?_ ?_); (focus (go_simp; done))) | ((with_reducible first | refine vrun_cons fun KK hKK => ?_ | refine vhrun_cons fun KK hKK => ?_); go_simp; refine hKK _ ?_; clear hKK KK) | ((with_reducible refine vcondS ?_ (fun ht => ?_) (fun ht => ?_)); (focus (go_simp; done)); (all_goals (simp [go_sem] at ht; replace ht := ht.out))) | ((apply vrun_consG0 rfl); (focus (go_simp <;> exact rfl)); (focus (go_simp; done)); (focus (intro hb0; replace hb0 := hb0.out; go_simp <;> (first | exact rfl))); intro KK hKK; go_simp; refine hKK _ ?_; clear hKK KK) | ((apply vhrun_consG0 rfl); (focus (go_simp <;> exact rfl)); (focus (intro hb0; replace hb0 := hb0.out; go_simp <;> (first | exact rfl))); intro KK hKK; go_simp; refine hKK _ ?_; clear hKK KK))
    refine vdrawS2 7 [4] [] (by kernel_rfl) (by kernel_rfl) (by kernel_rfl) rfl ⟨rfl, rfl⟩ rfl ?_
    simp only [List.take, List.drop]
    repeat' (first | (with_reducible first | refine vseq ?_ | refine vthenN ?_ | refine vthenE ?_ | refine vthenR ?_ | refine vret ?_ | refine vskip ?_ | refine vexit ?_ | refine vblock ?_ | refine vblockN ?_ | refine vblockR ?_ | refine vblockH ?_ | refine vrun_nil ?_ | refine vblockE rfl ?_ | refine vhrun_nil ?_) | ((with_reducible refine vcondT ?_ ?_); (focus (go_simp; done))) | ((with_reducible refine vcondF ?_ ?_); (focus (go_simp; done))) | ((with_reducible first | refine vrun_cons fun KK hKK => ?_ | refine vhrun_cons fun KK hKK => ?_); go_simp; refine hKK _ ?_; clear hKK KK) | ((with_reducible refine vcondS ?_ (fun ht => ?_) (fun ht => ?_)); (focus (go_simp; done)); (all_goals (simp [go_sem] at ht; replace ht := ht.out))) | ((apply vrun_consG0 rfl); (focus (go_simp <;> exact rfl)); (focus (go_simp; done)); (focus (intro hb0; replace hb0 := hb0.out; go_simp <;> (first | exact rfl))); intro KK hKK; go_simp; refine hKK _ ?_; clear hKK KK) | ((apply vhrun_consG0 rfl); (focus (go_simp <;> exact rfl)); (focus (intro hb0; replace hb0 := hb0.out; go_simp <;> (first | exact rfl))); intro KK hKK; go_simp; refine hKK _ ?_; clear hKK KK))
    refine ⟨_, by go_simp; exact rfl, ?_, ?_⟩
    · simp only [lateK, List.getElem?_cons_succ, List.getElem?_cons_zero]
      exact ⟨⟨_, by go_simp; exact rfl, by go_simp⟩, trivial⟩
    repeat' (first | (with_reducible first | refine vseq ?_ | refine vthenN ?_ | refine vthenE ?_ | refine vthenR ?_ | refine vret ?_ | refine vskip ?_ | refine vexit ?_ | refine vblock ?_ | refine vblockN ?_ | refine vblockR ?_ | refine vblockH ?_ | refine vrun_nil ?_ | refine vblockE rfl ?_ | refine vregion [] ?_ | refine vhrun_nil ?_) | ((with_reducible refine vcondT ?_ ?_); (focus (go_simp; done))) | ((with_reducible refine vcondF ?_ ?_); (focus (go_simp; done))) | ((with_reducible first | refine vrun_cons fun KK hKK => ?_ | refine vhrun_cons fun KK hKK => ?_); go_simp; refine hKK _ ?_; clear hKK KK) | ((with_reducible refine vcondS ?_ (fun ht => ?_) (fun ht => ?_)); (focus (go_simp; done)); (all_goals (simp [go_sem] at ht; replace ht := ht.out))) | ((apply vrun_consG0 rfl); (focus (go_simp <;> exact rfl)); (focus (go_simp; done)); (focus (intro hb0; replace hb0 := hb0.out; go_simp <;> (first | exact rfl))); intro KK hKK; go_simp; refine hKK _ ?_; clear hKK KK) | ((apply vhrun_consG0 rfl); (focus (go_simp <;> exact rfl)); (focus (intro hb0; replace hb0 := hb0.out; go_simp <;> (first | exact rfl))); intro KK hKK; go_simp; refine hKK _ ?_; clear hKK KK))
    refine hK _ ?_
    rw [← hs.out]
    go_simp
  intro K
  repeat' (first | (with_reducible first | refine vseq ?_ | refine vthenN ?_ | refine vthenE ?_ | refine vthenR ?_ | refine vret ?_ | refine vskip ?_ | refine vexit ?_ | refine vblock ?_ | refine vblockN ?_ | refine vblockR ?_ | refine vblockH ?_ | refine vrun_nil ?_ | refine vblockE rfl ?_ | refine vregion [] ?_ | refine vhrun_nil ?_) | ((with_reducible refine vcondT ?_ ?_); (focus (go_simp; done))) | ((with_reducible refine vcondF ?_ ?_); (focus (go_simp; done))) | ((with_reducible first | refine vrun_cons fun KK hKK => ?_ | refine vhrun_cons fun KK hKK => ?_); go_simp; refine hKK _ ?_; clear hKK KK) | ((with_reducible refine vcondS ?_ (fun ht => ?_) (fun ht => ?_)); (focus (go_simp; done)); (all_goals (simp [go_sem] at ht; replace ht := ht.out))) | ((apply vrun_consG0 rfl); (focus (go_simp <;> exact rfl)); (focus (go_simp; done)); (focus (intro hb0; replace hb0 := hb0.out; go_simp <;> (first | exact rfl))); intro KK hKK; go_simp; refine hKK _ ?_; clear hKK KK) | ((apply vhrun_consG0 rfl); (focus (go_simp <;> exact rfl)); (focus (intro hb0; replace hb0 := hb0.out; go_simp <;> (first | exact rfl))); intro KK hKK; go_simp; refine hKK _ ?_; clear hKK KK))
  apply vloopK (α := Nat × Gs) [3, 4, 8, 9] (fun (x : Nat × Gs) => [(11, B x.2.ch)]) (fun (x : Nat × Gs) => ([some (.box [nil_, nil_]), some (.arr 3 1 false (x.2.L.map intA)), some (.arr 3 1 false (x.2.W.map intA)), some (.box [.osl 1, .osl 2])] : Hp)) (fun (x : Nat × Gs) => Hid ((if x.2.ch = true then growF n alM x.1 x.2.L x.2.W else (x.2.L, x.2.W)) = RES) ∧ GI n (0 : Int) 100000 ⟨x.2.L, x.2.W, true⟩ ∧ (x.2.ch = true → mu ((0 : Int) + 20 * (100000 : Nat)).toNat x.2.L < x.1)) (fun (x : Nat × Gs) => (if x.2.ch = true then x.1 + 1 else 0)) ((growN n (0 : Int) 100000 a, ⟨lab0 n.places.length a (0 : Int), List.replicate n.places.length (-1), true⟩)) ⟨Lib.hid (by rw [← HR.out]; rfl), (lab0_ok (Int.le_refl 0) ha).1, fun _ => by simp only [growN]; omega⟩
  · (go_simp <;> exact rfl)
  · go_simp
  rintro ⟨f, L, W, ch⟩ ⟨HI, hgi, hf⟩ K hK
  simp only at HI hgi hf
  cases ch
  · have e := HI.out
    rw [if_neg (by decide)] at e
    subst e
    repeat' (first | (with_reducible first | refine vseq ?_ | refine vthenN ?_ | refine vthenE ?_ | refine vthenR ?_ | refine vret ?_ | refine vskip ?_ | refine vexit ?_ | refine vblock ?_ | refine vblockN ?_ | refine vblockR ?_ | refine vblockH ?_ | refine vrun_nil ?_ | refine vblockE rfl ?_ | refine vhrun_nil ?_) | ((with_reducible refine vcondT ?_ ?_); (focus (go_simp; done))) | ((with_reducible refine vcondF ?_ ?_); (focus (go_simp; done))) | ((with_reducible first | refine vrun_cons fun KK hKK => ?_ | refine vhrun_cons fun KK hKK => ?_); go_simp; refine hKK _ ?_; clear hKK KK) | ((with_reducible refine vcondS ?_ (fun ht => ?_) (fun ht => ?_)); (focus (go_simp; done)); (all_goals (simp [go_sem] at ht; replace ht := ht.out))) | ((apply vrun_consG0 rfl); (focus (go_simp <;> exact rfl)); (focus (go_simp; done)); (focus (intro hb0; replace hb0 := hb0.out; go_simp <;> (first | exact rfl))); intro KK hKK; go_simp; refine hKK _ ?_; clear hKK KK) | ((apply vhrun_consG0 rfl); (focus (go_simp <;> exact rfl)); (focus (intro hb0; replace hb0 := hb0.out; go_simp <;> (first | exact rfl))); intro KK hKK; go_simp; refine hKK _ ?_; clear hKK KK))
    refine vregion [] ?_
    repeat' (first | (with_reducible first | refine vseq ?_ | refine vthenN ?_ | refine vthenE ?_ | refine vthenR ?_ | refine vret ?_ | refine vskip ?_ | refine vexit ?_ | refine vblock ?_ | refine vblockN ?_ | refine vblockR ?_ | refine vblockH ?_ | refine vrun_nil ?_ | refine vblockE rfl ?_ | refine vhrun_nil ?_) | ((with_reducible refine vcondT ?_ ?_); (focus (go_simp; done))) | ((with_reducible refine vcondF ?_ ?_); (focus (go_simp; done))) | ((with_reducible first | refine vrun_cons fun KK hKK => ?_ | refine vhrun_cons fun KK hKK => ?_); go_simp; refine hKK _ ?_; clear hKK KK) | ((with_reducible refine vcondS ?_ (fun ht => ?_) (fun ht => ?_)); (focus (go_simp; done)); (all_goals (simp [go_sem] at ht; replace ht := ht.out))) | ((apply vrun_consG0 rfl); (focus (go_simp <;> exact rfl)); (focus (go_simp; done)); (focus (intro hb0; replace hb0 := hb0.out; go_simp <;> (first | exact rfl))); intro KK hKK; go_simp; refine hKK _ ?_; clear hKK KK) | ((apply vhrun_consG0 rfl); (focus (go_simp <;> exact rfl)); (focus (intro hb0; replace hb0 := hb0.out; go_simp <;> (first | exact rfl))); intro KK hKK; go_simp; refine hKK _ ?_; clear hKK KK))
    refine vfreezeIn 3 0 1 rfl rfl rfl ?_
    refine vfreezeIn 3 1 2 rfl rfl rfl ?_
    repeat' (first | (with_reducible first | refine vseq ?_ | refine vthenN ?_ | refine vthenE ?_ | refine vthenR ?_ | refine vret ?_ | refine vskip ?_ | refine vexit ?_ | refine vblock ?_ | refine vblockN ?_ | refine vblockR ?_ | refine vblockH ?_ | refine vrun_nil ?_ | refine vblockE rfl ?_ | refine vregion [] ?_ | refine vhrun_nil ?_) | ((with_reducible refine vcondT ?_ ?_); (focus (go_simp; done))) | ((with_reducible refine vcondF ?_ ?_); (focus (go_simp; done))) | ((with_reducible first | refine vrun_cons fun KK hKK => ?_ | refine vhrun_cons fun KK hKK => ?_); go_simp; refine hKK _ ?_; clear hKK KK) | ((with_reducible refine vcondS ?_ (fun ht => ?_) (fun ht => ?_)); (focus (go_simp; done)); (all_goals (simp [go_sem] at ht; replace ht := ht.out))) | ((apply vrun_consG0 rfl); (focus (go_simp <;> exact rfl)); (focus (go_simp; done)); (focus (intro hb0; replace hb0 := hb0.out; go_simp <;> (first | exact rfl))); intro KK hKK; go_simp; refine hKK _ ?_; clear hKK KK) | ((apply vhrun_consG0 rfl); (focus (go_simp <;> exact rfl)); (focus (intro hb0; replace hb0 := hb0.out; go_simp <;> (first | exact rfl))); intro KK hKK; go_simp; refine hKK _ ?_; clear hKK KK))
    go_simp
  have hf := hf rfl
  obtain ⟨f, rfl⟩ : ∃ g, f = g + 1 := ⟨f - 1, by omega⟩
  have hg0 : GI n (0 : Int) 100000 ⟨L, W, false⟩ := ⟨hgi.L, hgi.W, hgi.rng⟩
  have HG := Lib.hid hg0
  have e := HI.out
  rw [if_pos rfl, growF] at e
  have HI := Lib.hid e
  clear e hgi hg0
  repeat' (first | (with_reducible first | refine vseq ?_ | refine vthenN ?_ | refine vthenE ?_ | refine vthenR ?_ | refine vret ?_ | refine vskip ?_ | refine vexit ?_ | refine vblock ?_ | refine vblockN ?_ | refine vblockR ?_ | refine vblockH ?_ | refine vrun_nil ?_ | refine vblockE rfl ?_ | refine vregion [] ?_ | refine vhrun_nil ?_) | ((with_reducible refine vcondT ?_ ?_); (focus (go_simp; done))) | ((with_reducible refine vcondF ?_ ?_); (focus (go_simp; done))) | ((with_reducible first | refine vrun_cons fun KK hKK => ?_ | refine vhrun_cons fun KK hKK => ?_); go_simp; refine hKK _ ?_; clear hKK KK) | ((with_reducible refine vcondS ?_ (fun ht => ?_) (fun ht => ?_)); (focus (go_simp; done)); (all_goals (simp [go_sem] at ht; replace ht := ht.out))) | ((apply vrun_consG0 rfl); (focus (go_simp <;> exact rfl)); (focus (go_simp; done)); (focus (intro hb0; replace hb0 := hb0.out; go_simp <;> (first | exact rfl))); intro KK hKK; go_simp; refine hKK _ ?_; clear hKK KK) | ((apply vhrun_consG0 rfl); (focus (go_simp <;> exact rfl)); (focus (intro hb0; replace hb0 := hb0.out; go_simp <;> (first | exact rfl))); intro KK hKK; go_simp; refine hKK _ ?_; clear hKK KK))
  apply vcnt [3, 4, 8, 9, 49, 50] (fun k => [(11, B (roundG n alM k ⟨L, W, false⟩).ch), (51, I (k : Int))]) (fun k => ([some (.box [nil_, nil_]), some (.arr 3 1 false ((roundG n alM k ⟨L, W, false⟩).L.map intA)), some (.arr 3 1 false ((roundG n alM k ⟨L, W, false⟩).W.map intA)), some (.box [.osl 1, .osl 2])] : Hp))  (n.roads.length)
  · go_simp <;> exact rfl
  · go_simp
  · intro k hk K2 hK2
    obtain ⟨x1, x2, x3, x4, x5, x6⟩ := ixs (m := k) (by omega)
    have hok := (roundG_ok HA.out HG.out k (by omega)).1
    have hs : roundG n alM (k + 1) ⟨L, W, false⟩ = stepG n alM k (roundG n alM k ⟨L, W, false⟩) := rfl
    generalize roundG n alM (k + 1) ⟨L, W, false⟩ = s' at *
    generalize roundG n alM k ⟨L, W, false⟩ = s at *
    have hR := HH.out.road k hk
    obtain ⟨u, hu⟩ : ∃ u : Nat, (rdat n.roads k).src = (u : Int) := ⟨(rdat n.roads k).src.toNat, by have := hR.src; omega⟩
    obtain ⟨v, hv⟩ : ∃ v : Nat, (rdat n.roads k).dst = (v : Int) := ⟨(rdat n.roads k).dst.toNat, by have := hR.dst; omega⟩
    have hu1 : u < n.places.length := by have := hR.src; omega
    have hv1 : v < n.places.length := by have := hR.dst; omega
    have c1 := hok.top hp20 hu1
    have c2 := hok.top hp20 hv1
    have l1 := hok.L
    have l2 := hok.W
    unfold stepG at hs
    rw [hu, hv, Int.toNat_natCast, Int.toNat_natCast] at hs
    have hpts := hR.pts
    have hmt := hR.metres
    clear hR hok
    obtain ⟨R, hRR⟩ : ∃ R, rdat n.roads k = R := ⟨_, rfl⟩
    rw [hRR] at hu hv hs hpts hmt
    obtain ⟨sL, sW, sc⟩ := s
    simp only at hs c1 c2 l1 l2
    have hu2 : u < sL.length := by omega
    have hv2 : v < sL.length := by omega
    have hv3 : v < sW.length := by omega
    have HS := Lib.hid hs
    clear hs
    obtain ⟨c, hc⟩ : ∃ c, iat sL u = c := ⟨_, rfl⟩
    obtain ⟨d, hd⟩ : ∃ d, iat sL v = d := ⟨_, rfl⟩
    rw [hc] at c1 HS
    rw [hd] at c2 HS
    by_cases hcm : c = -1
    · have e := HS.out
      rw [if_pos hcm] at e
      subst e
      clear c1 c2
      repeat' (first | (with_reducible first | refine vseq ?_ | refine vthenN ?_ | refine vthenE ?_ | refine vthenR ?_ | refine vret ?_ | refine vskip ?_ | refine vexit ?_ | refine vblock ?_ | refine vblockN ?_ | refine vblockR ?_ | refine vblockH ?_ | refine vrun_nil ?_ | refine vblockE rfl ?_ | refine vregion [] ?_ | refine vhrun_nil ?_) | ((with_reducible refine vcondT ?_ ?_); (focus (go_simp; done))) | ((with_reducible refine vcondF ?_ ?_); (focus (go_simp; done))) | ((with_reducible first | refine vrun_cons fun KK hKK => ?_ | refine vhrun_cons fun KK hKK => ?_); go_simp; refine hKK _ ?_; clear hKK KK) | ((with_reducible refine vcondS ?_ (fun ht => ?_) (fun ht => ?_)); (focus (go_simp; done)); (all_goals (simp [go_sem] at ht; replace ht := ht.out))) | ((apply vrun_consG0 rfl); (focus (go_simp <;> exact rfl)); (focus (go_simp; done)); (focus (intro hb0; replace hb0 := hb0.out; go_simp <;> (first | exact rfl))); intro KK hKK; go_simp; refine hKK _ ?_; clear hKK KK) | ((apply vhrun_consG0 rfl); (focus (go_simp <;> exact rfl)); (focus (intro hb0; replace hb0 := hb0.out; go_simp <;> (first | exact rfl))); intro KK hKK; go_simp; refine hKK _ ?_; clear hKK KK))
      refine hK2 _ ?_
      go_simp
    have c3 := c1.resolve_left hcm
    have g := y_alM R c hmt.1 hmt.2 (by omega) (by omega)
    simp only [roadA, hu, hv] at g
    have hb := HA.out.up k hk c c3.1 (by omega)
    rw [hRR] at hb
    generalize alM R c = nv at *
    clear c1 hpts hmt
    by_cases hdm : d = -1
    · have e := HS.out
      rw [if_neg hcm, if_pos (.inl hdm)] at e
      subst e
      clear c2 c3 hb
      repeat' (first | (with_reducible first | refine vseq ?_ | refine vthenN ?_ | refine vthenE ?_ | refine vthenR ?_ | refine vret ?_ | refine vskip ?_ | refine vexit ?_ | refine vblock ?_ | refine vblockN ?_ | refine vblockR ?_ | refine vblockH ?_ | refine vrun_nil ?_ | refine vblockE rfl ?_ | refine vregion [] ?_ | refine vhrun_nil ?_) | ((with_reducible refine vcondT ?_ ?_); (focus (go_simp; done))) | ((with_reducible refine vcondF ?_ ?_); (focus (go_simp; done))) | ((with_reducible first | refine vrun_cons fun KK hKK => ?_ | refine vhrun_cons fun KK hKK => ?_); go_simp; refine hKK _ ?_; clear hKK KK) | ((with_reducible refine vcondS ?_ (fun ht => ?_) (fun ht => ?_)); (focus (go_simp; done)); (all_goals (simp [go_sem] at ht; replace ht := ht.out))) | ((apply vrun_consG0 rfl); (focus (go_simp <;> exact rfl)); (focus (go_simp; done)); (focus (intro hb0; replace hb0 := hb0.out; go_simp <;> (first | exact rfl))); intro KK hKK; go_simp; refine hKK _ ?_; clear hKK KK) | ((apply vhrun_consG0 rfl); (focus (go_simp <;> exact rfl)); (focus (intro hb0; replace hb0 := hb0.out; go_simp <;> (first | exact rfl))); intro KK hKK; go_simp; refine hKK _ ?_; clear hKK KK))
      refine vdrawL 10 9 [] rfl (by kernel_rfl) (by kernel_rfl) ?_
      simp only [List.take, List.drop]
      repeat' (first | (with_reducible first | refine vseq ?_ | refine vthenN ?_ | refine vthenE ?_ | refine vthenR ?_ | refine vret ?_ | refine vskip ?_ | refine vexit ?_ | refine vblock ?_ | refine vblockN ?_ | refine vblockR ?_ | refine vblockH ?_ | refine vrun_nil ?_ | refine vblockE rfl ?_ | refine vregion [] ?_ | refine vhrun_nil ?_) | ((with_reducible refine vcondT ?_ ?_); (focus (go_simp; done))) | ((with_reducible refine vcondF ?_ ?_); (focus (go_simp; done))) | ((with_reducible first | refine vrun_cons fun KK hKK => ?_ | refine vhrun_cons fun KK hKK => ?_); go_simp; (first | (with_reducible refine ⟨_, g, ?_⟩) | skip); refine hKK _ ?_; clear hKK KK) | ((with_reducible refine vcondS ?_ (fun ht => ?_) (fun ht => ?_)); (focus (go_simp; done)); (all_goals (simp [go_sem] at ht; replace ht := ht.out))) | ((apply vrun_consG0 rfl); (focus (go_simp <;> exact rfl)); (focus (go_simp; done)); (focus (intro hb0; replace hb0 := hb0.out; go_simp <;> (first | exact rfl | exact g | exact ⟨g, rfl⟩))); intro KK hKK; go_simp; refine hKK _ ?_; clear hKK KK) | ((apply vhrun_consG0 rfl); (focus (go_simp <;> exact rfl)); (focus (intro hb0; replace hb0 := hb0.out; go_simp <;> (first | exact rfl | exact g | exact ⟨g, rfl⟩))); intro KK hKK; go_simp; refine hKK _ ?_; clear hKK KK))
      refine vdrawS2 11 [5, 7] [] (by kernel_rfl) (by kernel_rfl) (by kernel_rfl) rfl ⟨rfl, rfl⟩ rfl ?_
      simp only [List.take, List.drop]
      repeat' (first | (with_reducible first | refine vseq ?_ | refine vthenN ?_ | refine vthenE ?_ | refine vthenR ?_ | refine vret ?_ | refine vskip ?_ | refine vexit ?_ | refine vblock ?_ | refine vblockN ?_ | refine vblockR ?_ | refine vblockH ?_ | refine vrun_nil ?_ | refine vblockE rfl ?_ | refine vhrun_nil ?_) | ((with_reducible refine vcondT ?_ ?_); (focus (go_simp; done))) | ((with_reducible refine vcondF ?_ ?_); (focus (go_simp; done))) | ((with_reducible first | refine vrun_cons fun KK hKK => ?_ | refine vhrun_cons fun KK hKK => ?_); go_simp; refine hKK _ ?_; clear hKK KK) | ((with_reducible refine vcondS ?_ (fun ht => ?_) (fun ht => ?_)); (focus (go_simp; done)); (all_goals (simp [go_sem] at ht; replace ht := ht.out))) | ((apply vrun_consG0 rfl); (focus (go_simp <;> exact rfl)); (focus (go_simp; done)); (focus (intro hb0; replace hb0 := hb0.out; go_simp <;> (first | exact rfl))); intro KK hKK; go_simp; refine hKK _ ?_; clear hKK KK) | ((apply vhrun_consG0 rfl); (focus (go_simp <;> exact rfl)); (focus (intro hb0; replace hb0 := hb0.out; go_simp <;> (first | exact rfl))); intro KK hKK; go_simp; refine hKK _ ?_; clear hKK KK))
      refine ⟨_, by go_simp; exact rfl, ?_, ?_⟩
      · simp only [lateK, List.getElem?_cons_succ, List.getElem?_cons_zero]
        exact ⟨⟨_, by go_simp; exact rfl, by go_simp⟩, ⟨_, by go_simp; exact rfl, by go_simp⟩, trivial⟩
      repeat' (first | (with_reducible first | refine vseq ?_ | refine vthenN ?_ | refine vthenE ?_ | refine vthenR ?_ | refine vret ?_ | refine vskip ?_ | refine vexit ?_ | refine vblock ?_ | refine vblockN ?_ | refine vblockR ?_ | refine vblockH ?_ | refine vrun_nil ?_ | refine vblockE rfl ?_ | refine vregion [] ?_ | refine vhrun_nil ?_) | ((with_reducible refine vcondT ?_ ?_); (focus (go_simp; done))) | ((with_reducible refine vcondF ?_ ?_); (focus (go_simp; done))) | ((with_reducible first | refine vrun_cons fun KK hKK => ?_ | refine vhrun_cons fun KK hKK => ?_); go_simp; refine hKK _ ?_; clear hKK KK) | ((with_reducible refine vcondS ?_ (fun ht => ?_) (fun ht => ?_)); (focus (go_simp; done)); (all_goals (simp [go_sem] at ht; replace ht := ht.out))) | ((apply vrun_consG0 rfl); (focus (go_simp <;> exact rfl)); (focus (go_simp; done)); (focus (intro hb0; replace hb0 := hb0.out; go_simp <;> (first | exact rfl))); intro KK hKK; go_simp; refine hKK _ ?_; clear hKK KK) | ((apply vhrun_consG0 rfl); (focus (go_simp <;> exact rfl)); (focus (intro hb0; replace hb0 := hb0.out; go_simp <;> (first | exact rfl))); intro KK hKK; go_simp; refine hKK _ ?_; clear hKK KK))
      refine hK2 _ ?_
      go_simp
    by_cases hlt : nv < d
    · have e := HS.out
      rw [if_neg hcm, if_pos (.inr hlt)] at e
      subst e
      clear c2 c3 hb
      repeat' (first | (with_reducible first | refine vseq ?_ | refine vthenN ?_ | refine vthenE ?_ | refine vthenR ?_ | refine vret ?_ | refine vskip ?_ | refine vexit ?_ | refine vblock ?_ | refine vblockN ?_ | refine vblockR ?_ | refine vblockH ?_ | refine vrun_nil ?_ | refine vblockE rfl ?_ | refine vregion [] ?_ | refine vhrun_nil ?_) | ((with_reducible refine vcondT ?_ ?_); (focus (go_simp; done))) | ((with_reducible refine vcondF ?_ ?_); (focus (go_simp; done))) | ((with_reducible first | refine vrun_cons fun KK hKK => ?_ | refine vhrun_cons fun KK hKK => ?_); go_simp; refine hKK _ ?_; clear hKK KK) | ((with_reducible refine vcondS ?_ (fun ht => ?_) (fun ht => ?_)); (focus (go_simp; done)); (all_goals (simp [go_sem] at ht; replace ht := ht.out))) | ((apply vrun_consG0 rfl); (focus (go_simp <;> exact rfl)); (focus (go_simp; done)); (focus (intro hb0; replace hb0 := hb0.out; go_simp <;> (first | exact rfl))); intro KK hKK; go_simp; refine hKK _ ?_; clear hKK KK) | ((apply vhrun_consG0 rfl); (focus (go_simp <;> exact rfl)); (focus (intro hb0; replace hb0 := hb0.out; go_simp <;> (first | exact rfl))); intro KK hKK; go_simp; refine hKK _ ?_; clear hKK KK))
      refine vdrawL 10 9 [] rfl (by kernel_rfl) (by kernel_rfl) ?_
      simp only [List.take, List.drop]
      repeat' (first | (with_reducible first | refine vseq ?_ | refine vthenN ?_ | refine vthenE ?_ | refine vthenR ?_ | refine vret ?_ | refine vskip ?_ | refine vexit ?_ | refine vblock ?_ | refine vblockN ?_ | refine vblockR ?_ | refine vblockH ?_ | refine vrun_nil ?_ | refine vblockE rfl ?_ | refine vregion [] ?_ | refine vhrun_nil ?_) | ((with_reducible refine vcondT ?_ ?_); (focus (go_simp; done))) | ((with_reducible refine vcondF ?_ ?_); (focus (go_simp; done))) | ((with_reducible first | refine vrun_cons fun KK hKK => ?_ | refine vhrun_cons fun KK hKK => ?_); go_simp; (first | (with_reducible refine ⟨_, g, ?_⟩) | skip); refine hKK _ ?_; clear hKK KK) | ((with_reducible refine vcondS ?_ (fun ht => ?_) (fun ht => ?_)); (focus (go_simp; done)); (all_goals (simp [go_sem] at ht; replace ht := ht.out))) | ((apply vrun_consG0 rfl); (focus (go_simp <;> exact rfl)); (focus (go_simp; done)); (focus (intro hb0; replace hb0 := hb0.out; go_simp <;> (first | exact rfl | exact g | exact ⟨g, rfl⟩))); intro KK hKK; go_simp; refine hKK _ ?_; clear hKK KK) | ((apply vhrun_consG0 rfl); (focus (go_simp <;> exact rfl)); (focus (intro hb0; replace hb0 := hb0.out; go_simp <;> (first | exact rfl | exact g | exact ⟨g, rfl⟩))); intro KK hKK; go_simp; refine hKK _ ?_; clear hKK KK))
      refine vdrawS2 11 [5, 7] [] (by kernel_rfl) (by kernel_rfl) (by kernel_rfl) rfl ⟨rfl, rfl⟩ rfl ?_
      simp only [List.take, List.drop]
      repeat' (first | (with_reducible first | refine vseq ?_ | refine vthenN ?_ | refine vthenE ?_ | refine vthenR ?_ | refine vret ?_ | refine vskip ?_ | refine vexit ?_ | refine vblock ?_ | refine vblockN ?_ | refine vblockR ?_ | refine vblockH ?_ | refine vrun_nil ?_ | refine vblockE rfl ?_ | refine vhrun_nil ?_) | ((with_reducible refine vcondT ?_ ?_); (focus (go_simp; done))) | ((with_reducible refine vcondF ?_ ?_); (focus (go_simp; done))) | ((with_reducible first | refine vrun_cons fun KK hKK => ?_ | refine vhrun_cons fun KK hKK => ?_); go_simp; refine hKK _ ?_; clear hKK KK) | ((with_reducible refine vcondS ?_ (fun ht => ?_) (fun ht => ?_)); (focus (go_simp; done)); (all_goals (simp [go_sem] at ht; replace ht := ht.out))) | ((apply vrun_consG0 rfl); (focus (go_simp <;> exact rfl)); (focus (go_simp; done)); (focus (intro hb0; replace hb0 := hb0.out; go_simp <;> (first | exact rfl))); intro KK hKK; go_simp; refine hKK _ ?_; clear hKK KK) | ((apply vhrun_consG0 rfl); (focus (go_simp <;> exact rfl)); (focus (intro hb0; replace hb0 := hb0.out; go_simp <;> (first | exact rfl))); intro KK hKK; go_simp; refine hKK _ ?_; clear hKK KK))
      refine ⟨_, by go_simp; exact rfl, ?_, ?_⟩
      · simp only [lateK, List.getElem?_cons_succ, List.getElem?_cons_zero]
        exact ⟨⟨_, by go_simp; exact rfl, by go_simp⟩, ⟨_, by go_simp; exact rfl, by go_simp⟩, trivial⟩
      repeat' (first | (with_reducible first | refine vseq ?_ | refine vthenN ?_ | refine vthenE ?_ | refine vthenR ?_ | refine vret ?_ | refine vskip ?_ | refine vexit ?_ | refine vblock ?_ | refine vblockN ?_ | refine vblockR ?_ | refine vblockH ?_ | refine vrun_nil ?_ | refine vblockE rfl ?_ | refine vregion [] ?_ | refine vhrun_nil ?_) | ((with_reducible refine vcondT ?_ ?_); (focus (go_simp; done))) | ((with_reducible refine vcondF ?_ ?_); (focus (go_simp; done))) | ((with_reducible first | refine vrun_cons fun KK hKK => ?_ | refine vhrun_cons fun KK hKK => ?_); go_simp; refine hKK _ ?_; clear hKK KK) | ((with_reducible refine vcondS ?_ (fun ht => ?_) (fun ht => ?_)); (focus (go_simp; done)); (all_goals (simp [go_sem] at ht; replace ht := ht.out))) | ((apply vrun_consG0 rfl); (focus (go_simp <;> exact rfl)); (focus (go_simp; done)); (focus (intro hb0; replace hb0 := hb0.out; go_simp <;> (first | exact rfl))); intro KK hKK; go_simp; refine hKK _ ?_; clear hKK KK) | ((apply vhrun_consG0 rfl); (focus (go_simp <;> exact rfl)); (focus (intro hb0; replace hb0 := hb0.out; go_simp <;> (first | exact rfl))); intro KK hKK; go_simp; refine hKK _ ?_; clear hKK KK))
      refine hK2 _ ?_
      go_simp
    · have e := HS.out
      rw [if_neg hcm, if_neg (not_or.2 ⟨hdm, hlt⟩)] at e
      subst e
      clear c2 c3 hb
      repeat' (first | (with_reducible first | refine vseq ?_ | refine vthenN ?_ | refine vthenE ?_ | refine vthenR ?_ | refine vret ?_ | refine vskip ?_ | refine vexit ?_ | refine vblock ?_ | refine vblockN ?_ | refine vblockR ?_ | refine vblockH ?_ | refine vrun_nil ?_ | refine vblockE rfl ?_ | refine vregion [] ?_ | refine vhrun_nil ?_) | ((with_reducible refine vcondT ?_ ?_); (focus (go_simp; done))) | ((with_reducible refine vcondF ?_ ?_); (focus (go_simp; done))) | ((with_reducible first | refine vrun_cons fun KK hKK => ?_ | refine vhrun_cons fun KK hKK => ?_); go_simp; refine hKK _ ?_; clear hKK KK) | ((with_reducible refine vcondS ?_ (fun ht => ?_) (fun ht => ?_)); (focus (go_simp; done)); (all_goals (simp [go_sem] at ht; replace ht := ht.out))) | ((apply vrun_consG0 rfl); (focus (go_simp <;> exact rfl)); (focus (go_simp; done)); (focus (intro hb0; replace hb0 := hb0.out; go_simp <;> (first | exact rfl))); intro KK hKK; go_simp; refine hKK _ ?_; clear hKK KK) | ((apply vhrun_consG0 rfl); (focus (go_simp <;> exact rfl)); (focus (intro hb0; replace hb0 := hb0.out; go_simp <;> (first | exact rfl))); intro KK hKK; go_simp; refine hKK _ ?_; clear hKK KK))
      refine vdrawL 10 9 [] rfl (by kernel_rfl) (by kernel_rfl) ?_
      simp only [List.take, List.drop]
      repeat' (first | (with_reducible first | refine vseq ?_ | refine vthenN ?_ | refine vthenE ?_ | refine vthenR ?_ | refine vret ?_ | refine vskip ?_ | refine vexit ?_ | refine vblock ?_ | refine vblockN ?_ | refine vblockR ?_ | refine vblockH ?_ | refine vrun_nil ?_ | refine vblockE rfl ?_ | refine vregion [] ?_ | refine vhrun_nil ?_) | ((with_reducible refine vcondT ?_ ?_); (focus (go_simp; done))) | ((with_reducible refine vcondF ?_ ?_); (focus (go_simp; done))) | ((with_reducible first | refine vrun_cons fun KK hKK => ?_ | refine vhrun_cons fun KK hKK => ?_); go_simp; (first | (with_reducible refine ⟨_, g, ?_⟩) | skip); refine hKK _ ?_; clear hKK KK) | ((with_reducible refine vcondS ?_ (fun ht => ?_) (fun ht => ?_)); (focus (go_simp; done)); (all_goals (simp [go_sem] at ht; replace ht := ht.out))) | ((apply vrun_consG0 rfl); (focus (go_simp <;> exact rfl)); (focus (go_simp; done)); (focus (intro hb0; replace hb0 := hb0.out; go_simp <;> (first | exact rfl | exact g | exact ⟨g, rfl⟩))); intro KK hKK; go_simp; refine hKK _ ?_; clear hKK KK) | ((apply vhrun_consG0 rfl); (focus (go_simp <;> exact rfl)); (focus (intro hb0; replace hb0 := hb0.out; go_simp <;> (first | exact rfl | exact g | exact ⟨g, rfl⟩))); intro KK hKK; go_simp; refine hKK _ ?_; clear hKK KK))
      refine hK2 _ ?_
      go_simp
  intro K2
  obtain ⟨hgi2, hdec⟩ := roundG_ok HA.out HG.out n.roads.length (Nat.le_refl _)
  generalize roundG n alM n.roads.length ⟨L, W, false⟩ = s at *
  obtain ⟨sL, sW, sc⟩ := s
  simp only at hdec HI
  repeat' (first | (with_reducible first | refine vseq ?_ | refine vthenN ?_ | refine vthenE ?_ | refine vthenR ?_ | refine vret ?_ | refine vskip ?_ | refine vexit ?_ | refine vblock ?_ | refine vblockN ?_ | refine vblockR ?_ | refine vblockH ?_ | refine vrun_nil ?_ | refine vblockE rfl ?_ | refine vregion [] ?_ | refine vhrun_nil ?_) | ((with_reducible refine vcondT ?_ ?_); (focus (go_simp; done))) | ((with_reducible refine vcondF ?_ ?_); (focus (go_simp; done))) | ((with_reducible first | refine vrun_cons fun KK hKK => ?_ | refine vhrun_cons fun KK hKK => ?_); go_simp; refine hKK _ ?_; clear hKK KK) | ((with_reducible refine vcondS ?_ (fun ht => ?_) (fun ht => ?_)); (focus (go_simp; done)); (all_goals (simp [go_sem] at ht; replace ht := ht.out))) | ((apply vrun_consG0 rfl); (focus (go_simp <;> exact rfl)); (focus (go_simp; done)); (focus (intro hb0; replace hb0 := hb0.out; go_simp <;> (first | exact rfl))); intro KK hKK; go_simp; refine hKK _ ?_; clear hKK KK) | ((apply vhrun_consG0 rfl); (focus (go_simp <;> exact rfl)); (focus (intro hb0; replace hb0 := hb0.out; go_simp <;> (first | exact rfl))); intro KK hKK; go_simp; refine hKK _ ?_; clear hKK KK))
  refine hK _ (f, ⟨sL, sW, sc⟩) ⟨HI, ⟨hgi2.L, hgi2.W, hgi2.rng⟩, fun hsc => ?_⟩ ?_ ?_
  · simp only at hsc
    rcases hdec with hdec | ⟨_, hdec⟩
    · simp only [Gs.mk.injEq] at hdec
      rw [hdec.2.2] at hsc
      cases hsc
    · simp only
      omega
  · simp only
    split <;> simp
  · go_simp
end Go.Proofs.Ytcndlalhkkjocaa

/-! SYF: Walks on plain values: copies, arrivals, heights, how long a road takes, the estimate of a trip; nets that are right. -/
namespace Go.Proofs.Ytcndlalhkkjocaa
open Go.RowKit
set_option maxRecDepth 100000
set_option maxHeartbeats 1000000
theorem ints_one (l : List Int) : ∀ (k : Nat) (x : List AV), (l.map intA)[k]? = some x → x.length = 1 ∧ ∀ c ∈ x, oneAV c = true := fun k x hx => by
  obtain ⟨y, hy, rfl⟩ := map_at hx
  exact ⟨rfl, by simp [intA, oneAV, Value.oneCell']⟩
theorem texts_one (l : List ByteArray) : ∀ (k : Nat) (x : List AV), (l.map txtA)[k]? = some x → x.length = 1 ∧ ∀ c ∈ x, oneAV c = true := fun k x hx => by
  obtain ⟨y, hy, rfl⟩ := map_at hx
  exact ⟨rfl, by simp [txtA, oneAV, Value.oneCell']⟩
theorem y_CopyInts (l : List Int) (hl : l.length ≤ 1000000) : VCo Try.prog 15 [intsA l] 3 1 false (l.map intA) := by
  refine VCo_of Try.func15 rfl (by kernel_rfl) (by kernel_rfl) rfl Try.results15 (by decide) (ints_one l) fun M0 w0 => ?_
  simp only [Try.ntmps15, enumA]
  have hl2 : l.length ≤ 1000000000 := by omega
  repeat (first | (with_reducible first | refine vseq ?_ | refine vthenN ?_ | refine vthenE ?_ | refine vthenR ?_ | refine vret ?_ | refine vskip ?_ | refine vexit ?_ | refine vblock ?_ | refine vblockN ?_ | refine vblockR ?_ | refine vblockH ?_ | refine vrun_nil ?_ | refine vblockE rfl ?_ | refine vregion [3] ?_ | refine vhrun_nil ?_) | ((with_reducible refine vcondT ?_ ?_); (focus (go_simp; done))) | ((with_reducible refine vcondF ?_ ?_); (focus (go_simp; done))) | ((with_reducible first | refine vrun_cons fun KK hKK => ?_ | refine vhrun_cons fun KK hKK => ?_); go_simp; refine hKK _ ?_; clear hKK KK))
  exact ⟨0, rfl, rfl⟩
theorem y_CopyTexts (l : List ByteArray) (hl : l.length ≤ 1000000) : VCo Try.prog 27 [.sl 1 (l.map txtA)] 9 1 false (l.map txtA) := by
  refine VCo_of Try.func27 rfl (by kernel_rfl) (by kernel_rfl) rfl Try.results27 (by decide) (texts_one l) fun M0 w0 => ?_
  simp only [Try.ntmps27, enumA]
  have hl2 : l.length ≤ 1000000000 := by omega
  repeat (first | (with_reducible first | refine vseq ?_ | refine vthenN ?_ | refine vthenE ?_ | refine vthenR ?_ | refine vret ?_ | refine vskip ?_ | refine vexit ?_ | refine vblock ?_ | refine vblockN ?_ | refine vblockR ?_ | refine vblockH ?_ | refine vrun_nil ?_ | refine vblockE rfl ?_ | refine vregion [3] ?_ | refine vhrun_nil ?_) | ((with_reducible refine vcondT ?_ ?_); (focus (go_simp; done))) | ((with_reducible refine vcondF ?_ ?_); (focus (go_simp; done))) | ((with_reducible first | refine vrun_cons fun KK hKK => ?_ | refine vhrun_cons fun KK hKK => ?_); go_simp; refine hKK _ ?_; clear hKK KK))
  exact ⟨0, rfl, rfl⟩
def upR (l : List Rd) (k : Nat) : List Rd := l.take k
theorem upR_succ {l : List Rd} {k : Nat} (h : k < l.length) : upR l (k + 1) = upR l k ++ [rdat l k] := by
  unfold upR
  rw [List.take_add_one, List.getElem?_eq_getElem h, rdat_get h]
  rfl
theorem upR_len {l : List Rd} {k : Nat} (h : k ≤ l.length) : (upR l k).length = k := by
  unfold upR
  rw [List.length_take]
  omega
@[go_sem] theorem upR_0 (l : List Rd) : upR l 0 = [] := rfl
theorem upR_all (l : List Rd) : upR l l.length = l := List.take_length
theorem y_Copy (n : Nt) (h : SmallN n) : VC Try.prog 12 [netA n] (netA n) := by
  have g := VC_of_own (y_CopyTexts n.places (by have := h.p; omega))
  have hr := h.r
  have HH := Lib.hid h
  clear h
  refine VC_of Try.func12 rfl (by kernel_rfl) (by kernel_rfl) rfl fun M0 w0 => ?_
  simp only [Try.ntmps12, Try.results12, enumA]
  repeat' (first | (with_reducible first | refine vseq ?_ | refine vthenN ?_ | refine vthenE ?_ | refine vthenR ?_ | refine vret ?_ | refine vskip ?_ | refine vexit ?_ | refine vblock ?_ | refine vblockN ?_ | refine vblockR ?_ | refine vblockH ?_ | refine vrun_nil ?_ | refine vblockE rfl ?_ | refine vregion [] ?_ | refine vhrun_nil ?_) | ((with_reducible refine vcondT ?_ ?_); (focus (go_simp; done))) | ((with_reducible refine vcondF ?_ ?_); (focus (go_simp; done))) | ((with_reducible first | refine vrun_cons fun KK hKK => ?_ | refine vhrun_cons fun KK hKK => ?_); go_simp; (first | (with_reducible refine ⟨_, g, ?_⟩) | skip); refine hKK _ ?_; clear hKK KK) | ((with_reducible refine vcondS ?_ (fun ht => ?_) (fun ht => ?_)); (focus (go_simp; done)); (all_goals (simp [go_sem] at ht; replace ht := ht.out))))
  refine vconv (fun p a w R => ⟨_, Rel.nilCell R (bi := 1) (j := 1) (e := 35) (sz := 5) rfl rfl (by decide)⟩) ?_
  simp only [List.length_cons, List.length_nil, List.set, List.cons_append, List.nil_append]
  apply vcnt [1, 2, 3] (fun k => [(4, I (k : Int))]) (fun k => ([some (.box [nil_, nil_]), some (.box [.sl 1 (n.places.map txtA), .osl 2]), some (.arr 35 5 (decide (upR n.roads k = [])) ((upR n.roads k).map Rd.av))] : Hp))  (n.roads.length)
  · go_simp <;> exact rfl
  · go_simp
  · intro k hk K hK
    obtain ⟨w1, w2, w3, w4, w5, w6⟩ := ixs (m := k) (by omega)
    have hs := upR_succ hk
    have hnl := upR_len (l := n.roads) (k := k) (by omega)
    have hb : (upR n.roads k).length + 1 ≤ 1000000000 := by omega
    have hq := HH.out.pt k hk
    have hq2 : (rdat n.roads k).pts.length ≤ 1000000000 := by omega
    have HS := Lib.hid hs
    clear hnl hs hq
    repeat' (first | (with_reducible first | refine vseq ?_ | refine vthenN ?_ | refine vthenE ?_ | refine vthenR ?_ | refine vret ?_ | refine vskip ?_ | refine vexit ?_ | refine vblock ?_ | refine vblockN ?_ | refine vblockR ?_ | refine vblockH ?_ | refine vrun_nil ?_ | refine vblockE rfl ?_ | refine vhrun_nil ?_) | ((with_reducible refine vcondT ?_ ?_); (focus (go_simp; done))) | ((with_reducible refine vcondF ?_ ?_); (focus (go_simp; done))) | ((with_reducible first | refine vrun_cons fun KK hKK => ?_ | refine vhrun_cons fun KK hKK => ?_); go_simp; refine hKK _ ?_; clear hKK KK) | ((with_reducible refine vcondS ?_ (fun ht => ?_) (fun ht => ?_)); (focus (go_simp; done)); (all_goals (simp [go_sem] at ht; replace ht := ht.out))))
    refine vregion [] ?_
    repeat' (first | (with_reducible first | refine vseq ?_ | refine vthenN ?_ | refine vthenE ?_ | refine vthenR ?_ | refine vret ?_ | refine vskip ?_ | refine vexit ?_ | refine vblock ?_ | refine vblockN ?_ | refine vblockR ?_ | refine vblockH ?_ | refine vrun_nil ?_ | refine vblockE rfl ?_ | refine vhrun_nil ?_) | ((with_reducible refine vcondT ?_ ?_); (focus (go_simp; done))) | ((with_reducible refine vcondF ?_ ?_); (focus (go_simp; done))) | ((with_reducible first | refine vrun_cons fun KK hKK => ?_ | refine vhrun_cons fun KK hKK => ?_); go_simp; refine hKK _ ?_; clear hKK KK) | ((with_reducible refine vcondS ?_ (fun ht => ?_) (fun ht => ?_)); (focus (go_simp; done)); (all_goals (simp [go_sem] at ht; replace ht := ht.out))))
    refine vregion [] ?_
    repeat' (first | (with_reducible first | refine vseq ?_ | refine vthenN ?_ | refine vthenE ?_ | refine vthenR ?_ | refine vret ?_ | refine vskip ?_ | refine vexit ?_ | refine vblock ?_ | refine vblockN ?_ | refine vblockR ?_ | refine vblockH ?_ | refine vrun_nil ?_ | refine vblockE rfl ?_ | refine vhrun_nil ?_) | ((with_reducible refine vcondT ?_ ?_); (focus (go_simp; done))) | ((with_reducible refine vcondF ?_ ?_); (focus (go_simp; done))) | ((with_reducible first | refine vrun_cons fun KK hKK => ?_ | refine vhrun_cons fun KK hKK => ?_); go_simp; refine hKK _ ?_; clear hKK KK) | ((with_reducible refine vcondS ?_ (fun ht => ?_) (fun ht => ?_)); (focus (go_simp; done)); (all_goals (simp [go_sem] at ht; replace ht := ht.out))))
    refine vregion [22] ?_
    repeat' (first | (with_reducible first | refine vseq ?_ | refine vthenN ?_ | refine vthenE ?_ | refine vthenR ?_ | refine vret ?_ | refine vskip ?_ | refine vexit ?_ | refine vblock ?_ | refine vblockN ?_ | refine vblockR ?_ | refine vblockH ?_ | refine vrun_nil ?_ | refine vblockE rfl ?_ | refine vhrun_nil ?_) | ((with_reducible refine vcondT ?_ ?_); (focus (go_simp; done))) | ((with_reducible refine vcondF ?_ ?_); (focus (go_simp; done))) | ((with_reducible first | refine vrun_cons fun KK hKK => ?_ | refine vhrun_cons fun KK hKK => ?_); go_simp; refine hKK _ ?_; clear hKK KK) | ((with_reducible refine vcondS ?_ (fun ht => ?_) (fun ht => ?_)); (focus (go_simp; done)); (all_goals (simp [go_sem] at ht; replace ht := ht.out))))
    refine vfreezeIn 3 4 4 rfl rfl rfl ?_
    repeat' (first | (with_reducible first | refine vseq ?_ | refine vthenN ?_ | refine vthenE ?_ | refine vthenR ?_ | refine vret ?_ | refine vskip ?_ | refine vexit ?_ | refine vblock ?_ | refine vblockN ?_ | refine vblockR ?_ | refine vblockH ?_ | refine vrun_nil ?_ | refine vblockE rfl ?_ | refine vregion [] ?_ | refine vhrun_nil ?_) | ((with_reducible refine vcondT ?_ ?_); (focus (go_simp; done))) | ((with_reducible refine vcondF ?_ ?_); (focus (go_simp; done))) | ((with_reducible first | refine vrun_cons fun KK hKK => ?_ | refine vhrun_cons fun KK hKK => ?_); go_simp; refine hKK _ ?_; clear hKK KK) | ((with_reducible refine vcondS ?_ (fun ht => ?_) (fun ht => ?_)); (focus (go_simp; done)); (all_goals (simp [go_sem] at ht; replace ht := ht.out))))
    refine hK _ ?_
    rw [HS.out]
    go_simp
  · intro K
    rw [upR_all]
    repeat' (first | (with_reducible first | refine vseq ?_ | refine vthenN ?_ | refine vthenE ?_ | refine vthenR ?_ | refine vret ?_ | refine vskip ?_ | refine vexit ?_ | refine vblock ?_ | refine vblockN ?_ | refine vblockR ?_ | refine vblockH ?_ | refine vrun_nil ?_ | refine vblockE rfl ?_ | refine vregion [] ?_ | refine vhrun_nil ?_) | ((with_reducible refine vcondT ?_ ?_); (focus (go_simp; done))) | ((with_reducible refine vcondF ?_ ?_); (focus (go_simp; done))) | ((with_reducible first | refine vrun_cons fun KK hKK => ?_ | refine vhrun_cons fun KK hKK => ?_); go_simp; refine hKK _ ?_; clear hKK KK) | ((with_reducible refine vcondS ?_ (fun ht => ?_) (fun ht => ?_)); (focus (go_simp; done)); (all_goals (simp [go_sem] at ht; replace ht := ht.out))))
    go_simp
theorem y_arrivals (n : Nt) (a : Nat) (t : Int) (e : Bool) (h : RightNet n) (ha : a < n.places.length) (h0 : 0 ≤ t) (h1 : t ≤ 1000000) :
    VC Try.prog 24 [snetA n, I (a : Int), I t, endA e] (.agg [intsA (growL n (alT e) t 7200 a).1, intsA (growL n (alT e) t 7200 a).2]) := by
  have g := y_growT n a t e h ha h0 h1
  generalize growL n (alT e) t 7200 a = R at *
  clear h ha
  refine VC_of Try.func24 rfl (by kernel_rfl) (by kernel_rfl) rfl fun M0 w0 => ?_
  simp only [Try.ntmps24, Try.results24, enumA]
  repeat' (first | (with_reducible first | refine vseq ?_ | refine vthenN ?_ | refine vthenE ?_ | refine vthenR ?_ | refine vret ?_ | refine vskip ?_ | refine vexit ?_ | refine vblock ?_ | refine vblockN ?_ | refine vblockR ?_ | refine vblockH ?_ | refine vrun_nil ?_ | refine vblockE rfl ?_ | refine vregion [] ?_ | refine vhrun_nil ?_) | ((with_reducible refine vcondT ?_ ?_); (focus (go_simp; done))) | ((with_reducible refine vcondF ?_ ?_); (focus (go_simp; done))) | ((with_reducible first | refine vrun_cons fun KK hKK => ?_ | refine vhrun_cons fun KK hKK => ?_); go_simp; (first | (refine ⟨_, g, ?_⟩) | skip); refine hKK _ ?_; clear hKK KK) | ((with_reducible refine vcondS ?_ (fun ht => ?_) (fun ht => ?_)); (focus (go_simp; done)); (all_goals (simp [go_sem] at ht; replace ht := ht.out))))
  go_simp
theorem y_heights (n : Nt) (a : Nat) (h : RightNet n) (ha : a < n.places.length) :
    VC Try.prog 33 [snetA n, I (a : Int)] (.agg [intsA (growL n alM 0 100000 a).1, intsA (growL n alM 0 100000 a).2]) := by
  have g := y_growM n a h ha
  generalize growL n alM 0 100000 a = R at *
  clear h ha
  refine VC_of Try.func33 rfl (by kernel_rfl) (by kernel_rfl) rfl fun M0 w0 => ?_
  simp only [Try.ntmps33, Try.results33, enumA]
  repeat' (first | (with_reducible first | refine vseq ?_ | refine vthenN ?_ | refine vthenE ?_ | refine vthenR ?_ | refine vret ?_ | refine vskip ?_ | refine vexit ?_ | refine vblock ?_ | refine vblockN ?_ | refine vblockR ?_ | refine vblockH ?_ | refine vrun_nil ?_ | refine vblockE rfl ?_ | refine vregion [] ?_ | refine vhrun_nil ?_) | ((with_reducible refine vcondT ?_ ?_); (focus (go_simp; done))) | ((with_reducible refine vcondF ?_ ?_); (focus (go_simp; done))) | ((with_reducible first | refine vrun_cons fun KK hKK => ?_ | refine vhrun_cons fun KK hKK => ?_); go_simp; (first | (refine ⟨_, g, ?_⟩) | skip); refine hKK _ ?_; clear hKK KK) | ((with_reducible refine vcondS ?_ (fun ht => ?_) (fun ht => ?_)); (focus (go_simp; done)); (all_goals (simp [go_sem] at ht; replace ht := ht.out))))
  go_simp
theorem tripE_zero {n : Nt} {t : Tr} (h : tripE n t = 0) : (0 ≤ t.src ∧ t.src < n.places.length) ∧ (0 ≤ t.dst ∧ t.dst < n.places.length) ∧ 0 ≤ t.at_ ∧ t.at_ ≤ 604800 := by
  unfold tripE at h
  split at h
  · cases h
  · rename_i h1
    rw [not_or, Bool.not_eq_false, Bool.not_eq_false] at h1
    split at h
    · rename_i h2
      have a1 := inR_iff.1 h1.1
      have a2 := inR_iff.1 h1.2
      have a3 := inR_iff.1 h2
      omega
    · cases h
def loL (n : Nt) (t : Tr) : List Int := (growL n (alT false) t.at_ 7200 t.src.toNat).1
def hiL (n : Nt) (t : Tr) : List Int := (growL n (alT true) t.at_ 7200 t.src.toNat).1
def estE (n : Nt) (t : Tr) : (Int × Int) × Int := if iat (loL n t) t.dst.toNat = -1 then ((0, 0), 12) else ((iat (loL n t) t.dst.toNat, iat (hiL n t) t.dst.toNat), 0)
theorem y_Estimate (n : Nt) (t : Tr) (h : RightNet n) (hs : SmallN n) (ht : tripE n t = 0) :
    VC Try.prog 11 [netA n, tripA t] (.tup [.agg [I (estE n t).1.1, I (estE n t).1.2], I (estE n t).2]) := by
  have g1 := y_openTrip n t h hs ht
  obtain ⟨h1, h2, h3⟩ := tripE_zero ht
  have g2 := y_arrivals n t.src.toNat t.at_ false h (by omega) h3.1 (by omega)
  have g3 := y_arrivals n t.src.toNat t.at_ true h (by omega) h3.1 (by omega)
  have l1 := (growL_ok (along_T h false h3.1) (a := t.src.toNat) (by omega)).1.len
  have l2 := (growL_ok (along_T h true h3.1) (a := t.src.toNat) (by omega)).1.len
  obtain ⟨a, hav⟩ : ∃ a : Nat, t.src = (a : Int) := ⟨t.src.toNat, by omega⟩
  obtain ⟨b, hbv⟩ : ∃ b : Nat, t.dst = (b : Int) := ⟨t.dst.toNat, by omega⟩
  unfold estE loL hiL
  generalize growL n (alT false) t.at_ 7200 t.src.toNat = X at *
  generalize growL n (alT true) t.at_ 7200 t.src.toNat = Y at *
  obtain ⟨X, X'⟩ := X
  obtain ⟨Y, Y'⟩ := Y
  obtain ⟨src, dst, at_⟩ := t
  simp only at hav hbv h2 l1 l2 g2 g3 g1 ⊢
  subst hav
  subst hbv
  rw [Int.toNat_natCast] at g2 g3
  rw [Int.toNat_natCast]
  have b1 : b < X.length := by omega
  have b2 : b < Y.length := by omega
  obtain ⟨c, hc⟩ : ∃ c, iat X b = c := ⟨_, rfl⟩
  rw [hc]
  have hp20 := h.p20
  obtain ⟨w1, w2, w3, w4, w5, w6⟩ := ixs (m := b) (by omega)
  clear h hs ht h1 h2 h3 l1 l2
  by_cases hz : c = -1
  · rw [if_pos hz]
    refine VC_of Try.func11 rfl (by kernel_rfl) (by kernel_rfl) rfl fun M0 w0 => ?_
    simp only [Try.ntmps11, Try.results11, enumA]
    repeat' (first | (with_reducible first | refine vseq ?_ | refine vthenN ?_ | refine vthenE ?_ | refine vthenR ?_ | refine vret ?_ | refine vskip ?_ | refine vexit ?_ | refine vblock ?_ | refine vblockN ?_ | refine vblockR ?_ | refine vblockH ?_ | refine vrun_nil ?_ | refine vblockE rfl ?_ | refine vregion [] ?_ | refine vhrun_nil ?_) | ((with_reducible refine vcondT ?_ ?_); (focus (go_simp; done))) | ((with_reducible refine vcondF ?_ ?_); (focus (go_simp; done))) | ((with_reducible first | refine vrun_cons fun KK hKK => ?_ | refine vhrun_cons fun KK hKK => ?_); go_simp; (first | (with_reducible refine ⟨_, g1, ?_⟩) | skip); refine hKK _ ?_; clear hKK KK) | ((with_reducible refine vcondS ?_ (fun ht => ?_) (fun ht => ?_)); (focus (go_simp; done)); (all_goals (simp [go_sem] at ht; replace ht := ht.out))))
    refine vdrawA 24 [] [⟨23, 8, [.int .i64 0, .int .i64 0], none, []⟩] (by kernel_rfl) (by kernel_rfl) (by kernel_rfl) (by go_simp) (by go_simp) ?_
    simp only [List.take, List.drop]
    repeat (first | (with_reducible first | refine vseq ?_ | refine vthenN ?_ | refine vthenE ?_ | refine vthenR ?_ | refine vret ?_ | refine vskip ?_ | refine vexit ?_ | refine vblock ?_ | refine vblockN ?_ | refine vblockR ?_ | refine vblockH ?_ | refine vrun_nil ?_ | refine vblockE rfl ?_ | refine vregion [] ?_ | refine vhrun_nil ?_) | ((with_reducible refine vcondT ?_ ?_); (focus (go_simp; done))) | ((with_reducible refine vcondF ?_ ?_); (focus (go_simp; done))) | ((with_reducible first | refine vrun_cons fun KK hKK => ?_ | refine vhrun_cons fun KK hKK => ?_); go_simp; (first | (refine ⟨_, g2, ?_⟩) | (refine ⟨_, g3, ?_⟩) | skip); refine hKK _ ?_; clear hKK KK) | (refine vha_skip rfl ?_) | ((with_reducible refine vha_cons rfl fun KK hKK => ?_); go_simp; (first | (refine ⟨_, g2, ?_⟩) | (refine ⟨_, g3, ?_⟩) | skip); refine hKK _ (by go_simp) ?_; clear hKK KK) | (with_reducible refine vha_nil ?_))
    refine ⟨by go_simp, ?_⟩
    simp only [slotS, slotE, Slot.end_, List.cons_append, List.nil_append]
    repeat' (first | (with_reducible first | refine vseq ?_ | refine vthenN ?_ | refine vthenE ?_ | refine vthenR ?_ | refine vret ?_ | refine vskip ?_ | refine vexit ?_ | refine vblock ?_ | refine vblockN ?_ | refine vblockR ?_ | refine vblockH ?_ | refine vrun_nil ?_ | refine vblockE rfl ?_ | refine vregion [] ?_ | refine vhrun_nil ?_) | ((with_reducible refine vcondT ?_ ?_); (focus (go_simp; done))) | ((with_reducible refine vcondF ?_ ?_); (focus (go_simp; done))) | ((with_reducible first | refine vrun_cons fun KK hKK => ?_ | refine vhrun_cons fun KK hKK => ?_); go_simp; refine hKK _ ?_; clear hKK KK) | ((refine vdrawL 25 25 [] rfl (by kernel_rfl) (by kernel_rfl) ?_); simp only [List.append, List.take, List.drop]) | ((with_reducible refine vcondS ?_ (fun ht => ?_) (fun ht => ?_)); (focus (go_simp; done)); (all_goals (simp [go_sem] at ht; replace ht := ht.out))))
    go_simp
  · rw [if_neg hz]
    refine VC_of Try.func11 rfl (by kernel_rfl) (by kernel_rfl) rfl fun M0 w0 => ?_
    simp only [Try.ntmps11, Try.results11, enumA]
    repeat' (first | (with_reducible first | refine vseq ?_ | refine vthenN ?_ | refine vthenE ?_ | refine vthenR ?_ | refine vret ?_ | refine vskip ?_ | refine vexit ?_ | refine vblock ?_ | refine vblockN ?_ | refine vblockR ?_ | refine vblockH ?_ | refine vrun_nil ?_ | refine vblockE rfl ?_ | refine vregion [] ?_ | refine vhrun_nil ?_) | ((with_reducible refine vcondT ?_ ?_); (focus (go_simp; done))) | ((with_reducible refine vcondF ?_ ?_); (focus (go_simp; done))) | ((with_reducible first | refine vrun_cons fun KK hKK => ?_ | refine vhrun_cons fun KK hKK => ?_); go_simp; (first | (with_reducible refine ⟨_, g1, ?_⟩) | skip); refine hKK _ ?_; clear hKK KK) | ((with_reducible refine vcondS ?_ (fun ht => ?_) (fun ht => ?_)); (focus (go_simp; done)); (all_goals (simp [go_sem] at ht; replace ht := ht.out))))
    refine vdrawA 24 [] [⟨23, 8, [.int .i64 0, .int .i64 0], none, []⟩] (by kernel_rfl) (by kernel_rfl) (by kernel_rfl) (by go_simp) (by go_simp) ?_
    simp only [List.take, List.drop]
    repeat (first | (with_reducible first | refine vseq ?_ | refine vthenN ?_ | refine vthenE ?_ | refine vthenR ?_ | refine vret ?_ | refine vskip ?_ | refine vexit ?_ | refine vblock ?_ | refine vblockN ?_ | refine vblockR ?_ | refine vblockH ?_ | refine vrun_nil ?_ | refine vblockE rfl ?_ | refine vregion [] ?_ | refine vhrun_nil ?_) | ((with_reducible refine vcondT ?_ ?_); (focus (go_simp; done))) | ((with_reducible refine vcondF ?_ ?_); (focus (go_simp; done))) | ((with_reducible first | refine vrun_cons fun KK hKK => ?_ | refine vhrun_cons fun KK hKK => ?_); go_simp; (first | (refine ⟨_, g2, ?_⟩) | (refine ⟨_, g3, ?_⟩) | skip); refine hKK _ ?_; clear hKK KK) | (refine vha_skip rfl ?_) | ((with_reducible refine vha_cons rfl fun KK hKK => ?_); go_simp; (first | (refine ⟨_, g2, ?_⟩) | (refine ⟨_, g3, ?_⟩) | skip); refine hKK _ (by go_simp) ?_; clear hKK KK) | (with_reducible refine vha_nil ?_))
    refine ⟨by go_simp, ?_⟩
    simp only [slotS, slotE, Slot.end_, List.cons_append, List.nil_append]
    repeat' (first | (with_reducible first | refine vseq ?_ | refine vthenN ?_ | refine vthenE ?_ | refine vthenR ?_ | refine vret ?_ | refine vskip ?_ | refine vexit ?_ | refine vblock ?_ | refine vblockN ?_ | refine vblockR ?_ | refine vblockH ?_ | refine vrun_nil ?_ | refine vblockE rfl ?_ | refine vregion [] ?_ | refine vhrun_nil ?_) | ((with_reducible refine vcondT ?_ ?_); (focus (go_simp; done))) | ((with_reducible refine vcondF ?_ ?_); (focus (go_simp; done))) | ((with_reducible first | refine vrun_cons fun KK hKK => ?_ | refine vhrun_cons fun KK hKK => ?_); go_simp; refine hKK _ ?_; clear hKK KK) | ((refine vdrawL 25 25 [] rfl (by kernel_rfl) (by kernel_rfl) ?_); simp only [List.append, List.take, List.drop]) | ((with_reducible refine vcondS ?_ (fun ht => ?_) (fun ht => ?_)); (focus (go_simp; done)); (all_goals (simp [go_sem] at ht; replace ht := ht.out))))
    go_simp
end Go.Proofs.Ytcndlalhkkjocaa
