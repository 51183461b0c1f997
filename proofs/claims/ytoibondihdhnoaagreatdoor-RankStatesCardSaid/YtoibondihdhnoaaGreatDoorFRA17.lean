/- Texts in one: Walks on rows of texts: copies, several rows behind one another. -/
import Derived.Test.YtoibondihdhnoaaGreatDoorFRA16
import Derived.Test.YtoibondihdhnoaaGreatDoorFRA1
namespace Go.Proofs.YtoibondihdhnoaaGreatDoor
open Go.RowKit
set_option maxRecDepth 100000
set_option maxHeartbeats 1000000
theorem o_Grow (n : Nat) (hn : n ≤ 100000) : VCo Tryz.prog 236 [.lit (.slice none 0 0), I n] 9 1 (decide (n = 0)) [] := by
 refine ⟨by kernel_rfl, by decide, fun k x hk => by simp at hk, ?_⟩
 intro w M vs hM hvl hv
 obtain ⟨v1, v2, rfl⟩ : ∃ v1 v2, vs = [v1, v2] := by
  rcases vs with _ | ⟨v, _ | ⟨v2, _ | ⟨_, _⟩⟩⟩
  ·simp at hvl
  ·simp at hvl
  ·exact ⟨v, v2, rfl⟩
  ·simp at hvl
 obtain rfl := V0.lit_inv (hv 0 _ _ rfl rfl)
 obtain rfl := V0.lit_inv (hv 1 _ _ rfl rfl)
 by_cases h0 : n = 0
 ·subst h0
  have hcon := Any8.slices_Grow_room growLays none 0 0 0 w (by omega) (by omega) (by omega) (by omega)
  change Calls Tryz.prog 236 _ _ _ at hcon
  refine hcon.mono ?_
  rintro en w' ⟨rfl, rfl⟩
  exact ⟨_, rfl, Below.refl _ _, ⟨none, rfl⟩, rfl⟩
 ·obtain ⟨d, i0, z, hd, hi, hz, h1z, hti⟩ := tinfo_spec ti9
  injection hti with q1 q2 q3 q4 q5 q6 q7 q8 q9
  have hsz : z.cells.size = 1 := by
   rw [← Array.length_toList, ← q9]
   rfl
  have hcon := Any8.slices_Grow_grow growLays i0 z hi hz (by omega) none 0 0 n [] w (by omega) (by omega) (by rw [← q3]; omega) (by omega) (by simp) (fun _ => rfl) (fun a h => by cases h)
  change Calls Tryz.prog 236 _ _ _ at hcon
  refine hcon.mono ?_
  rintro en w' ⟨rfl, rfl⟩
  have g1 := grownCap_ge w n 0 9
  have g2 := grownCap_le_maxLen w n 0 9 (by simp only [maxLen]; omega)
  have e25 : growLays_ren.t 25 = 9 := rfl
  rw [e25] at *
  simp only [Nat.zero_add] at *
  generalize grownCap w n 0 9 = G at *
  refine ⟨_, rfl, ?_, ?_⟩
  ·exact bl_alloc (show Below w.heap.size w w.drew from ⟨rfl, rfl, rfl, Nat.le_refl _, fun _ _ => rfl⟩) _
  ·unfold OwnRow
   rw [if_neg (by simpa using h0)]
   refine ⟨w.heap.size, G, _, rfl, Nat.le_refl _, heap_alloc_new w.drew _, ?_, Nat.zero_le _, g2, fun k x j c hk => by simp at hk⟩
   simp [Builtin.zeroCells, hsz]
   omega
theorem v_Grow0 : VC Tryz.prog 236 [.lit (.slice none 0 0), I 0] (.lit (.slice none 0 0)) := by
 refine ⟨by kernel_rfl, fun w M vs hM hvl hv => ?_⟩
 obtain ⟨v1, v2, rfl⟩ : ∃ v1 v2, vs = [v1, v2] := by
  rcases vs with _ | ⟨v, _ | ⟨v2, _ | ⟨_, _⟩⟩⟩
  ·simp at hvl
  ·simp at hvl
  ·exact ⟨v, v2, rfl⟩
  ·simp at hvl
 obtain rfl := V0.lit_inv (hv 0 _ _ rfl rfl)
 obtain rfl := V0.lit_inv (hv 1 _ _ rfl rfl)
 have hcon := Any8.slices_Grow_room growLays none 0 0 0 w (by omega) (by omega) (by omega) (by omega)
 change Calls Tryz.prog 236 _ _ _ at hcon
 refine hcon.mono ?_
 rintro en w' ⟨rfl, rfl⟩
 exact ⟨_, rfl, Below.refl _ _, .lit _⟩
theorem VCo_nil {P : Program} {f : FuncId} {args : List AV} {e sz : Nat} (h : VC P f args (.lit (.slice none 0 0))) (hsz : 0 < sz) : VCo P f args e sz true [] :=
 ⟨h.1, hsz, fun k x hk => by simp at hk, fun w M vs hM hl hv => (h.2 w M vs hM hl hv).mono fun en w' ⟨v, he, hb, hr⟩ => ⟨v, he, hb, ⟨none, V0.lit_inv hr⟩, rfl⟩⟩
def sumL (L : List (List (List AV))) (k : Nat) : Nat := (L.take k).flatten.length
def flatL (L : List (List (List AV))) (k : Nat) : List (List AV) := (L.take k).flatten
theorem flatL_succ {L : List (List (List AV))} {k : Nat} (h : k < L.length) : flatL L (k + 1) = flatL L k ++ L[k] := by
 unfold flatL
 rw [List.take_succ_eq_append_getElem h, List.flatten_append]
 simp
theorem sumL_succ {L : List (List (List AV))} {k : Nat} (h : k < L.length) : sumL L (k + 1) = sumL L k + L[k].length := by
 have := congrArg List.length (flatL_succ h)
 simpa [sumL, flatL] using this
theorem flatL_all {L : List (List (List AV))} : flatL L L.length = L.flatten := by simp [flatL]
theorem sumL_le {L : List (List (List AV))} {k : Nat} : sumL L k ≤ L.flatten.length := by
 unfold sumL
 have : L.flatten = (L.take k).flatten ++ (L.drop k).flatten := by rw [← List.flatten_append, List.take_append_drop]
 rw [this, List.length_append]
 omega
abbrev rowsA (L : List (List (List AV))) : AV := .sl 1 (L.map fun l => [.sl 1 l])
theorem o_Concat1 (L : List (List (List AV))) (h1 : ∀ x ∈ L.flatten, x.length = 1 ∧ ∀ c ∈ x, oneAV c = true) (hn : L.flatten.length ≤ 100000) (hl : L.length ≤ 1000) (h0 : 0 < L.flatten.length) : VCo Tryz.prog 233 [rowsA L] 9 1 false L.flatten := by
 obtain ⟨n, hen⟩ : ∃ n, L.flatten.length = n := ⟨_, rfl⟩
 have hsl : ∀ k, sumL L k ≤ n := fun k => by rw [← hen]; exact sumL_le
 have hflat : sumL L L.length = n := by rw [← hen]; simp [sumL]
 rw [hen] at hn h0
 have HG := Lib.hid (o_Grow n hn)
 have H1 := Lib.hid h1
 have HN := Lib.hid hn
 have HS := Lib.hid hsl
 clear hsl hen
 have HF := Lib.hid hflat
 have hs0 : sumL L 0 = 0 := rfl
 clear h1 hn hflat
 refine VCo_of Tryz.func233 rfl (by kernel_rfl) (by kernel_rfl) rfl Tryz.results233 (by decide) (fun k x hx => H1.out x (List.mem_of_getElem? hx)) fun M0 w0 => ?_
 simp only [Tryz.ntmps233, enumA]
 repeat' (first | (with_reducible first | refine vseq ?_ | refine vthenN ?_ | refine vblock ?_ | refine vrun_nil ?_ | refine vregion [] ?_) | ((with_reducible refine vrun_cons fun KK hKK => ?_); go_simp; refine hKK _ ?_; clear hKK KK))
 apply vcnt [0, 9, 10] (fun k => [(11, I (k : Int)), (3, I (sumL L k : Int))]) (fun k => ([] : Hp))  (L.length)
 ·go_simp <;> exact rfl
 ·go_simp
 ·intro k hk K hK
  obtain ⟨w1, w2, w3, w4, w5, w6⟩ := ixs (m := k) (by omega)
  have e1 := sumL_succ hk
  have e2 := HS.out (k + 1)
  have hb : sumL L k + L[k].length ≤ 100000 := by have := HN.out; omega
  have hw := wrap_eq (x := (sumL L k : Int) + (L[k].length : Int)) (by omega) (by omega)
  have hno : ¬ ((sumL L k : Int) + (L[k].length : Int) < 0) := by omega
  have e3 : (sumL L (k + 1) : Int) = (sumL L k : Int) + (L[k].length : Int) := by rw [e1, Int.natCast_add]
  have E3 := Lib.hid e3
  clear e1 e2 e3 hb
  repeat' (first | (with_reducible first | refine vseq ?_ | refine vthenN ?_ | refine vskip ?_ | refine vblock ?_ | refine vblockN ?_ | refine vrun_nil ?_ | refine vregion [] ?_) | ((with_reducible refine vcondT ?_ ?_); (focus (go_simp; done))) | ((with_reducible refine vcondF ?_ ?_); (focus (go_simp; done))) | ((with_reducible refine vrun_cons fun KK hKK => ?_); go_simp; refine hKK _ ?_; clear hKK KK))
  refine hK _ ?_
  rw [E3.out]
  go_simp
 ·intro K
  have e := HF.out
  have hg := HG.out
  rw [show decide (n = 0) = false from decide_eq_false (by omega)] at hg
  rw [e]
  clear e
  have hz0 : flatL L 0 = [] := rfl
  repeat' (first | (with_reducible first | refine vseq ?_ | refine vthenN ?_ | refine vthenE ?_ | refine vexit ?_ | refine vblock ?_ | refine vblockH ?_ | refine vrun_nil ?_ | refine vregion [24] ?_) | ((with_reducible refine vcondF ?_ ?_); (focus (go_simp; done))) | ((with_reducible refine vrun_cons fun KK hKK => ?_); go_simp; (first | (refine ⟨_, _, .inl ⟨_, hg, ?_⟩⟩) | skip); refine hKK _ ?_; clear hKK KK))
  apply vcnt [25, 26] (fun k => [(27, I (k : Int)), (6, .osl 0)]) (fun k => ([some (.arr 9 1 false (flatL L k))] : Hp))  (L.length)
  ·go_simp <;> exact rfl
  ·go_simp
  ·intro k hk K hK
   obtain ⟨w1, w2, w3, w4, w5, w6⟩ := ixs (m := k) (by omega)
   have e1 := Lib.hid (flatL_succ hk)
   have hb : (flatL L k).length + L[k].length ≤ 1000000000 := by
    have h2 := sumL_succ hk
    have h3 := HS.out (k + 1)
    have := HN.out
    unfold sumL at h2 h3
    unfold flatL
    omega
   repeat' (first | (with_reducible first | refine vseq ?_ | refine vthenN ?_ | refine vskip ?_ | refine vblock ?_ | refine vblockN ?_ | refine vrun_nil ?_ | refine vregion [] ?_) | ((with_reducible refine vcondT ?_ ?_); (focus (go_simp; done))) | ((with_reducible refine vrun_cons fun KK hKK => ?_); go_simp; refine hKK _ ?_; clear hKK KK))
   refine hK _ ?_
   rw [e1.out]
   go_simp
  ·intro K
   rw [flatL_all]
   repeat' (first | (with_reducible first | refine vseq ?_ | refine vthenN ?_ | refine vthenE ?_ | refine vret ?_ | refine vexit ?_ | refine vblockH ?_ | refine vrun_nil ?_ | refine vregion [] ?_) | ((with_reducible refine vcondF ?_ ?_); (focus (go_simp; done))) | ((with_reducible refine vrun_cons fun KK hKK => ?_); go_simp; refine hKK _ ?_; clear hKK KK))
   exact ⟨0, rfl, rfl⟩
theorem v_Concat0 (L : List (List (List AV))) (hl : L.length ≤ 1000) (h0 : L.flatten.length = 0) : VC Tryz.prog 233 [rowsA L] (.lit (.slice none 0 0)) := by
 have hsum : ∀ k, sumL L k = 0 := fun k => by have := sumL_le (L := L) (k := k); omega
 have hnil : ∀ k (h : k < L.length), L[k] = [] := fun k h => by
  have := List.length_eq_zero_iff.1 h0
  rw [List.flatten_eq_nil_iff] at this
  exact this _ (List.getElem_mem h)
 have HN := Lib.hid hnil
 clear hnil h0
 have hw0 : IntKind.i64.wrap 0 = 0 := rfl
 obtain ⟨d, i0, z, hd, hi, hz, h1z, hti⟩ := tinfo_spec ti9
 refine VC_of Tryz.func233 rfl (by kernel_rfl) (by kernel_rfl) rfl fun M0 w0 => ?_
 simp only [Tryz.ntmps233, Tryz.results233, enumA]
 repeat' (first | (with_reducible first | refine vseq ?_ | refine vthenN ?_ | refine vblock ?_ | refine vrun_nil ?_ | refine vregion [] ?_) | ((with_reducible refine vrun_cons fun KK hKK => ?_); go_simp; refine hKK _ ?_; clear hKK KK))
 apply vcnt [0, 9, 10] (fun k => [(11, I (k : Int)), (3, I 0)]) (fun k => ([] : Hp))  (L.length)
 ·go_simp <;> exact rfl
 ·go_simp
 ·intro k hk K hK
  obtain ⟨w1, w2, w3, w4, w5, w6⟩ := ixs (m := k) (by omega)
  have e := HN.out k hk
  repeat' (first | (with_reducible first | refine vseq ?_ | refine vthenN ?_ | refine vskip ?_ | refine vblock ?_ | refine vblockN ?_ | refine vrun_nil ?_ | refine vregion [] ?_) | ((with_reducible refine vcondT ?_ ?_); (focus (go_simp; done))) | ((with_reducible refine vcondF ?_ ?_); (focus (go_simp; done))) | ((with_reducible refine vrun_cons fun KK hKK => ?_); go_simp; refine hKK _ ?_; clear hKK KK))
  refine hK _ ?_
  go_simp
 ·intro K
  repeat' (first | (with_reducible first | refine vseq ?_ | refine vthenN ?_ | refine vthenE ?_ | refine vexit ?_ | refine vblock ?_ | refine vblockH ?_ | refine vrun_nil ?_ | refine vregion [] ?_) | ((with_reducible refine vcondF ?_ ?_); (focus (go_simp; done))) | ((with_reducible refine vrun_cons fun KK hKK => ?_); go_simp; (first | (refine ⟨_, v_Grow0, ?_⟩) | skip); refine hKK _ ?_; clear hKK KK))
  apply vcnt [25, 26] (fun k => [(27, I (k : Int)), (6, .lit (.slice none 0 0))]) (fun k => ([] : Hp))  (L.length)
  ·go_simp <;> exact rfl
  ·go_simp
  ·intro k hk K hK
   obtain ⟨w1, w2, w3, w4, w5, w6⟩ := ixs (m := k) (by omega)
   have e := HN.out k hk
   repeat' (with_reducible refine vseq ?_)
   refine vregion [] ?_
   repeat' (first | (with_reducible first | refine vseq ?_ | refine vthenN ?_ | refine vskip ?_ | refine vblock ?_ | refine vrun_nil ?_) | ((with_reducible refine vcondT ?_ ?_); (focus (go_simp; done))) | ((with_reducible refine vrun_cons fun KK hKK => ?_); go_simp; refine hKK _ ?_; clear hKK KK))
   refine vregion [] ?_
   repeat' (first | (with_reducible first | refine vthenN ?_ | refine vrun_nil ?_) | ((with_reducible refine vrun_cons fun KK hKK => ?_); go_simp; refine hKK _ ?_; clear hKK KK))
   refine vregionL (vl_run [] 2 ⟨rfl, rfl⟩ ?_)
   simp only [List.take, List.drop]
   repeat' (first | (with_reducible refine vrun_nil ?_) | ((with_reducible refine vrun_cons fun KK hKK => ?_); go_simp; refine hKK _ ?_; clear hKK KK))
   refine vl_nil0 (sz := 1) ⟨rfl, rfl, rfl⟩ Tryz.underlying62 hi (by go_simp) (by go_simp) ?_
   refine vl_run [] 1 ⟨rfl, rfl⟩ ?_
   simp only [List.take, List.drop]
   repeat' (first | (with_reducible refine vrun_nil ?_) | ((with_reducible refine vrun_cons fun KK hKK => ?_); go_simp; refine hKK _ ?_; clear hKK KK))
   refine vl_nil ?_
   repeat' (with_reducible first | refine vthenN ?_ | refine vblockN ?_)
   refine vregion [] ?_
   repeat' (first | (with_reducible first | refine vthenN ?_ | refine vrun_nil ?_) | ((with_reducible refine vrun_cons fun KK hKK => ?_); go_simp; refine hKK _ ?_; clear hKK KK))
   refine hK _ ?_
   go_simp
  ·intro K
   repeat' (first | (with_reducible first | refine vseq ?_ | refine vthenN ?_ | refine vthenE ?_ | refine vret ?_ | refine vexit ?_ | refine vblockH ?_ | refine vrun_nil ?_ | refine vregion [] ?_) | ((with_reducible refine vcondF ?_ ?_); (focus (go_simp; done))) | ((with_reducible refine vrun_cons fun KK hKK => ?_); go_simp; refine hKK _ ?_; clear hKK KK))
   go_simp
theorem o_Concat (L : List (List (List AV))) (h1 : ∀ x ∈ L.flatten, x.length = 1 ∧ ∀ c ∈ x, oneAV c = true) (hn : L.flatten.length ≤ 100000) (hl : L.length ≤ 1000) : VCo Tryz.prog 233 [rowsA L] 9 1 (decide (L.flatten.length = 0)) L.flatten := by
 by_cases h0 : L.flatten.length = 0
 ·rw [decide_eq_true h0, List.length_eq_zero_iff.1 h0]
  exact VCo_nil (v_Concat0 L hl h0) (by decide)
 ·rw [decide_eq_false h0]
  exact o_Concat1 L h1 hn hl (by omega)
end Go.Proofs.YtoibondihdhnoaaGreatDoor
