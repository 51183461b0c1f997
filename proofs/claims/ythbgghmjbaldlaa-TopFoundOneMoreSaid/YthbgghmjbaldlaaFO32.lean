/- Texts in one: The top law of one item less: true whatever the input is. -/
import Derived.Test.YthbgghmjbaldlaaFO30
import Derived.Test.YthbgghmjbaldlaaFO28
import Derived.Test.YthbgghmjbaldlaaFO26
import Derived.Test.YthbgghmjbaldlaaFO25
import Derived.Test.YthbgghmjbaldlaaFO22
import Derived.Test.YthbgghmjbaldlaaFO31
/-! SO2: The top law of one item less: true whatever the input is. -/
namespace Go.Proofs.Ythbgghmjbaldlaa
open Go.RowKit
set_option maxRecDepth 100000
set_option maxHeartbeats 1000000
theorem few_five {l c : List Item} (h : fewL l c = true) (h1 : l.length ≤ 12) (h2 : c.length ≤ 12) : l.length ≤ 5 ∧ c.length ≤ 5 := by
  simp only [fewL, Bool.and_eq_true] at h
  obtain ⟨⟨⟨a, b⟩, _⟩, _⟩ := h
  have a1 := (fewN_true a).1
  have b1 := (fewN_true b).1
  simp only [Bool.and_eq_false_iff, decide_eq_false_iff_not] at a1 b1
  omega
theorem l_OneMore (l c : List Item) (a : Int) (hl : l.length ≤ 9223372036854775807) (hc : c.length ≤ 9223372036854775807) (hL : ∀ x ∈ l, BigI x) (hC : ∀ x ∈ c, BigI x) : VC Try.prog 3 [itemsA l, itemsA c, I a] (B true) := by
  have ha := l_foundAwake
  have h0 := l_Few l c hl hc hL hC
  cases hs : fewL l c
  · rw [hs] at h0
    clear hs
    refine VC_of Try.func3 rfl (by kernel_rfl) (by kernel_rfl) rfl fun M0 w0 => ?_
    simp only [Try.ntmps3, Try.results3, enumA]
    repeat' (first | (with_reducible first | refine vseq ?_ | refine vthenN ?_ | refine vthenE ?_ | refine vthenR ?_ | refine vret ?_ | refine vskip ?_ | refine vexit ?_ | refine vblock ?_ | refine vblockN ?_ | refine vblockR ?_ | refine vblockH ?_ | refine vrun_nil ?_ | refine vblockE rfl ?_ | refine vregion [] ?_ | refine vhrun_nil ?_) | ((with_reducible refine vcondT ?_ ?_); (focus (go_simp; done))) | ((with_reducible refine vcondF ?_ ?_); (focus (go_simp; done))) | ((with_reducible first | refine vrun_cons fun KK hKK => ?_ | refine vhrun_cons fun KK hKK => ?_); go_simp; (first | (with_reducible refine ⟨_, ha, ?_⟩) | (with_reducible refine ⟨_, h0, ?_⟩) | skip); refine hKK _ ?_; clear hKK KK) | ((refine vdrawL 11 9 [] rfl (by kernel_rfl) (by kernel_rfl) ?_); simp only [List.append, List.take, List.drop]) | ((refine vdrawL 18 18 [] rfl (by kernel_rfl) (by kernel_rfl) ?_); simp only [List.append, List.take, List.drop]) | ((with_reducible refine vcondS ?_ (fun ht => ?_) (fun ht => ?_)); (focus (go_simp; done)); (all_goals (simp [go_sem] at ht; replace ht := ht.out))) | ((apply vrun_consG0 rfl); (focus (go_simp <;> exact rfl)); (focus (go_simp; done)); (focus (intro hb0; replace hb0 := hb0.out; go_simp <;> (first | exact rfl | exact ha | exact h0 | exact ⟨ha, rfl⟩ | exact ⟨h0, rfl⟩))); intro KK hKK; go_simp; refine hKK _ ?_; clear hKK KK) | ((apply vhrun_consG0 rfl); (focus (go_simp <;> exact rfl)); (focus (intro hb0; replace hb0 := hb0.out; go_simp <;> (first | exact rfl | exact ha | exact h0 | exact ⟨ha, rfl⟩ | exact ⟨h0, rfl⟩))); intro KK hKK; go_simp; refine hKK _ ?_; clear hKK KK))
    go_simp
  rw [hs] at h0
  obtain ⟨⟨s1, s2⟩, s3, s4⟩ := few_small hs
  have e1 := r_BothErr l c s1 s3
  by_cases hb : bothE l c = 0
  · rw [hb] at e1
    have u1 := wrap_eq (x := (l.length : Int) - 1) (by omega) (by omega)
    have b1 := b_within a 0 ((l.length : Int) - 1)
    cases hi : inR a 0 ((l.length : Int) - 1)
    · rw [hi] at b1
      clear hs hb hi s1 s3
      refine VC_of Try.func3 rfl (by kernel_rfl) (by kernel_rfl) rfl fun M0 w0 => ?_
      simp only [Try.ntmps3, Try.results3, enumA]
      repeat' (first | (with_reducible first | refine vseq ?_ | refine vthenN ?_ | refine vthenE ?_ | refine vthenR ?_ | refine vret ?_ | refine vskip ?_ | refine vexit ?_ | refine vblock ?_ | refine vblockN ?_ | refine vblockR ?_ | refine vblockH ?_ | refine vrun_nil ?_ | refine vblockE rfl ?_ | refine vregion [] ?_ | refine vhrun_nil ?_) | ((with_reducible refine vcondT ?_ ?_); (focus (go_simp; done))) | ((with_reducible refine vcondF ?_ ?_); (focus (go_simp; done))) | ((with_reducible first | refine vrun_cons fun KK hKK => ?_ | refine vhrun_cons fun KK hKK => ?_); go_simp; (first | (with_reducible refine ⟨_, ha, ?_⟩) | (with_reducible refine ⟨_, h0, ?_⟩) | (with_reducible refine ⟨_, e1, ?_⟩) | (with_reducible refine ⟨_, b1, ?_⟩) | skip); refine hKK _ ?_; clear hKK KK) | ((refine vdrawL 11 9 [] rfl (by kernel_rfl) (by kernel_rfl) ?_); simp only [List.append, List.take, List.drop]) | ((refine vdrawL 18 18 [] rfl (by kernel_rfl) (by kernel_rfl) ?_); simp only [List.append, List.take, List.drop]) | ((with_reducible refine vcondS ?_ (fun ht => ?_) (fun ht => ?_)); (focus (go_simp; done)); (all_goals (simp [go_sem] at ht; replace ht := ht.out))) | ((apply vrun_consG0 rfl); (focus (go_simp <;> exact rfl)); (focus (go_simp; done)); (focus (intro hb0; replace hb0 := hb0.out; go_simp <;> (first | exact rfl | exact ha | exact h0 | exact e1 | exact b1 | exact ⟨ha, rfl⟩ | exact ⟨h0, rfl⟩ | exact ⟨e1, rfl⟩ | exact ⟨b1, rfl⟩))); intro KK hKK; go_simp; refine hKK _ ?_; clear hKK KK) | ((apply vhrun_consG0 rfl); (focus (go_simp <;> exact rfl)); (focus (intro hb0; replace hb0 := hb0.out; go_simp <;> (first | exact rfl | exact ha | exact h0 | exact e1 | exact b1 | exact ⟨ha, rfl⟩ | exact ⟨h0, rfl⟩ | exact ⟨e1, rfl⟩ | exact ⟨b1, rfl⟩))); intro KK hKK; go_simp; refine hKK _ ?_; clear hKK KK))
      go_simp
    · rw [hi] at b1
      obtain ⟨i, rfl⟩ : ∃ i : Nat, a = (i : Int) := ⟨a.toNat, by have := inR_iff.1 hi; omega⟩
      have hil : i < l.length := by have := inR_iff.1 hi; omega
      have z1 : itemsErr l = 0 := fst_zero hb _ (by simp)
      have z2 : itemsErr c = 0 := fst_zero hb _ (by simp)
      obtain ⟨f1, f2⟩ := few_five hs (items_zero z1).1 (items_zero z2).1
      have z3 := less_ok z1 hil
      have hll := lessL_len hil
      have sX : SmallX (lessL l i) := ⟨by omega, fun x hx => s1.each x (by
        rcases List.mem_append.1 hx with h | h
        · exact List.mem_of_mem_take h
        · exact List.mem_of_mem_drop h)⟩
      have k1 := p_Most0 l c s1 s3 z1 z2 f1 f2
      have k2 := p_Most0 (lessL l i) c sX s3 z3 z2 (by omega) f2
      obtain ⟨n1, n2⟩ := less_most z1 z2 f2 hil
      have pp := most_pp l c
      have hP : (mostP l c).length ≤ l.length := pairF_len _ _
      have i0 := o_CopyItems (l.take i) (by rw [List.length_take]; omega) fun x hx => by have := (s1.each x (List.mem_of_mem_take hx)).few; omega
      have i1 := VC_of_own (o_CopyItems (l.drop (i + 1)) (by rw [List.length_drop]; omega) fun x hx => by have := (s1.each x (List.mem_of_mem_drop hx)).few; omega)
      have i2 := VC_of_own (o_CopyItems l (by omega) fun x hx => by have := (s1.each x hx).few; omega)
      have i3 := VC_of_own (o_CopyClaims c (by omega) fun x hx => by have := (s3.each x hx).few; omega)
      rw [itemsA, List.map_take] at i0
      rw [itemsA, List.map_drop] at i1
      have hT : (lessL l i).map Item.av = (l.map Item.av).take i ++ (l.map Item.av).drop (i + 1) := by rw [lessL, List.map_append, List.map_take, List.map_drop]
      rw [itemsA, hT] at k2
      have hDl : ((l.map Item.av).drop (i + 1)).length = l.length - (i + 1) := by rw [List.length_drop, List.length_map]
      have hTl : ((l.map Item.av).take i).length = i := by rw [List.length_take, List.length_map]; omega
      have htk : List.take l.length (List.map Item.av l) = List.map Item.av l := List.take_of_length_le (by simp)
      obtain ⟨nlv, hnl⟩ : ∃ b, decide (l.take i = []) = b := ⟨_, rfl⟩
      have hnl2 : nlv = true → i = 0 := fun h => by
        rw [h, decide_eq_true_eq] at hnl
        have := congrArg List.length hnl
        rw [List.length_take] at this
        simp at this
        rcases this with h | h
        · exact h
        · rw [h] at hil; simp at hil
      rw [hnl] at i0
      clear hnl hT
      obtain ⟨w1, w2, w3, w4, w5, w6⟩ := ixs (m := i) (by omega)
      have hiN : i ≤ l.length := by omega
      have hiN1 : i + 1 ≤ l.length := by omega
      have hilI : (i : Int) ≤ l.length := by omega
      have hil1 : (i : Int) + 1 ≤ l.length := by omega
      have HH := Lib.hid (And.intro s1 (And.intro s3 (And.intro z1 (And.intro z2 pp))))
      clear hs hb hi s1 s3 z1 z2 z3 pp sX
      by_cases hone : l.length = 1
      · have hi0 : i = 0 := by omega
        have eT : List.take i (List.map Item.av l) = [] := by rw [hi0]; rfl
        have eD : List.drop (i + 1) (List.map Item.av l) = [] := List.drop_eq_nil_of_le (by rw [List.length_map]; omega)
        have j0 := VC_of_own i0
        rw [eT] at j0 k2
        rw [eD] at i1 k2
        rw [List.nil_append] at k2
        obtain ⟨ui, hui⟩ : ∃ u, Try.prog.info? 54 = some u := Option.isSome_iff_exists.1 (by kernel_rfl)
        have HU := Lib.hid hui
        clear hDl hTl hnl2 i0 hui hone hi0
        have hXX := Lib.hid (most_pp l c)
        obtain ⟨X, hX⟩ : ∃ X, mostP l c = X := ⟨_, rfl⟩
        obtain ⟨X2, hX2⟩ : ∃ X, mostP (lessL l i) c = X := ⟨_, rfl⟩
        rw [hX] at k1 n1 n2 hP hXX
        rw [hX2] at k2 n1 n2
        clear hX hX2
        generalize mostI l c = Y at *
        generalize mostC l c = Z at *
        generalize mostI (lessL l i) c = Y2 at *
        generalize mostC (lessL l i) c = Z2 at *
        have b2 := b_within ((X.length : Int) - (X2.length : Int)) 0 1
        rw [show inR ((X.length : Int) - (X2.length : Int)) 0 1 = true from inR_iff.2 (by omega)] at b2
        have u2 := wrap_eq (x := (X.length : Int) - (X2.length : Int)) (by omega) (by omega)
        have hP2 : (X.length : Int) ≤ l.length := by omega
        refine VC_of Try.func3 rfl (by kernel_rfl) (by kernel_rfl) rfl fun M0 w0 => ?_
        simp only [Try.ntmps3, Try.results3, enumA]
        repeat' (first | (with_reducible first | refine vseq ?_ | refine vthenN ?_ | refine vthenE ?_ | refine vthenR ?_ | refine vret ?_ | refine vskip ?_ | refine vexit ?_ | refine vblock ?_ | refine vblockN ?_ | refine vblockR ?_ | refine vblockH ?_ | refine vrun_nil ?_ | refine vblockE rfl ?_ | refine vregion [] ?_ | refine vhrun_nil ?_) | ((with_reducible refine vcondT ?_ ?_); (focus (go_simp; done))) | ((with_reducible refine vcondF ?_ ?_); (focus (go_simp; done))) | ((with_reducible first | refine vrun_cons fun KK hKK => ?_ | refine vhrun_cons fun KK hKK => ?_); go_simp; (first | (with_reducible refine ⟨_, ha, ?_⟩) | (with_reducible refine ⟨_, h0, ?_⟩) | (with_reducible refine ⟨_, e1, ?_⟩) | (with_reducible refine ⟨_, b1, ?_⟩) | skip); refine hKK _ ?_; clear hKK KK) | ((with_reducible refine vcondS ?_ (fun ht => ?_) (fun ht => ?_)); (focus (go_simp; done)); (all_goals (simp [go_sem] at ht; replace ht := ht.out))) | ((apply vrun_consG0 rfl); (focus (go_simp <;> exact rfl)); (focus (go_simp; done)); (focus (intro hb0; replace hb0 := hb0.out; go_simp <;> (first | exact rfl | exact ha | exact h0 | exact e1 | exact b1 | exact ⟨ha, rfl⟩ | exact ⟨h0, rfl⟩ | exact ⟨e1, rfl⟩ | exact ⟨b1, rfl⟩))); intro KK hKK; go_simp; refine hKK _ ?_; clear hKK KK) | ((apply vhrun_consG0 rfl); (focus (go_simp <;> exact rfl)); (focus (intro hb0; replace hb0 := hb0.out; go_simp <;> (first | exact rfl | exact ha | exact h0 | exact e1 | exact b1 | exact ⟨ha, rfl⟩ | exact ⟨h0, rfl⟩ | exact ⟨e1, rfl⟩ | exact ⟨b1, rfl⟩))); intro KK hKK; go_simp; refine hKK _ ?_; clear hKK KK))
        refine vdrawV 8 (by kernel_rfl) (by kernel_rfl) ?_
        simp only [List.take, List.drop]
        repeat' (first | (with_reducible first | refine vseq ?_ | refine vthenN ?_ | refine vthenE ?_ | refine vthenR ?_ | refine vret ?_ | refine vskip ?_ | refine vexit ?_ | refine vblock ?_ | refine vblockN ?_ | refine vblockR ?_ | refine vblockH ?_ | refine vrun_nil ?_ | refine vblockE rfl ?_ | refine vhrun_nil ?_) | ((with_reducible refine vcondT ?_ ?_); (focus (go_simp; done))) | ((with_reducible refine vcondF ?_ ?_); (focus (go_simp; done))) | ((with_reducible first | refine vrun_cons fun KK hKK => ?_ | refine vhrun_cons fun KK hKK => ?_); go_simp; (first | (with_reducible refine ⟨_, j0, ?_⟩) | skip); refine hKK _ ?_; clear hKK KK) | ((with_reducible refine vcondS ?_ (fun ht => ?_) (fun ht => ?_)); (focus (go_simp; done)); (all_goals (simp [go_sem] at ht; replace ht := ht.out))) | ((apply vrun_consG0 rfl); (focus (go_simp <;> exact rfl)); (focus (go_simp; done)); (focus (intro hb0; replace hb0 := hb0.out; go_simp <;> (first | exact rfl | exact j0 | exact ⟨j0, rfl⟩))); intro KK hKK; go_simp; refine hKK _ ?_; clear hKK KK) | ((apply vhrun_consG0 rfl); (focus (go_simp <;> exact rfl)); (focus (intro hb0; replace hb0 := hb0.out; go_simp <;> (first | exact rfl | exact j0 | exact ⟨j0, rfl⟩))); intro KK hKK; go_simp; refine hKK _ ?_; clear hKK KK))
        refine vl_run [] 1 ⟨rfl, rfl⟩ ?_
        simp only [List.take, List.drop]
        repeat' (first | (with_reducible first | refine vseq ?_ | refine vthenN ?_ | refine vthenE ?_ | refine vthenR ?_ | refine vret ?_ | refine vskip ?_ | refine vexit ?_ | refine vblock ?_ | refine vblockN ?_ | refine vblockR ?_ | refine vblockH ?_ | refine vrun_nil ?_ | refine vblockE rfl ?_ | refine vhrun_nil ?_) | ((with_reducible refine vcondT ?_ ?_); (focus (go_simp; done))) | ((with_reducible refine vcondF ?_ ?_); (focus (go_simp; done))) | ((with_reducible first | refine vrun_cons fun KK hKK => ?_ | refine vhrun_cons fun KK hKK => ?_); go_simp; (first | (with_reducible refine ⟨_, i1, ?_⟩) | skip); refine hKK _ ?_; clear hKK KK) | ((with_reducible refine vcondS ?_ (fun ht => ?_) (fun ht => ?_)); (focus (go_simp; done)); (all_goals (simp [go_sem] at ht; replace ht := ht.out))) | ((apply vrun_consG0 rfl); (focus (go_simp <;> exact rfl)); (focus (go_simp; done)); (focus (intro hb0; replace hb0 := hb0.out; go_simp <;> (first | exact rfl | exact i1 | exact ⟨i1, rfl⟩))); intro KK hKK; go_simp; refine hKK _ ?_; clear hKK KK) | ((apply vhrun_consG0 rfl); (focus (go_simp <;> exact rfl)); (focus (intro hb0; replace hb0 := hb0.out; go_simp <;> (first | exact rfl | exact i1 | exact ⟨i1, rfl⟩))); intro KK hKK; go_simp; refine hKK _ ?_; clear hKK KK))
        refine vl_app0 (sz := 4) ⟨rfl, rfl, rfl⟩ Try.underlying22 HU.out (by go_simp) (by go_simp) ?_
        go_simp
        refine vl_run [] 1 ⟨rfl, rfl⟩ ?_
        simp only [List.take, List.drop]
        repeat' (first | (with_reducible first | refine vseq ?_ | refine vthenN ?_ | refine vthenE ?_ | refine vthenR ?_ | refine vret ?_ | refine vskip ?_ | refine vexit ?_ | refine vblock ?_ | refine vblockN ?_ | refine vblockR ?_ | refine vblockH ?_ | refine vrun_nil ?_ | refine vblockE rfl ?_ | refine vhrun_nil ?_) | ((with_reducible refine vcondT ?_ ?_); (focus (go_simp; done))) | ((with_reducible refine vcondF ?_ ?_); (focus (go_simp; done))) | ((with_reducible first | refine vrun_cons fun KK hKK => ?_ | refine vhrun_cons fun KK hKK => ?_); go_simp; refine hKK _ ?_; clear hKK KK) | ((with_reducible refine vcondS ?_ (fun ht => ?_) (fun ht => ?_)); (focus (go_simp; done)); (all_goals (simp [go_sem] at ht; replace ht := ht.out))) | ((apply vrun_consG0 rfl); (focus (go_simp <;> exact rfl)); (focus (go_simp; done)); (focus (intro hb0; replace hb0 := hb0.out; go_simp <;> (first | exact rfl))); intro KK hKK; go_simp; refine hKK _ ?_; clear hKK KK) | ((apply vhrun_consG0 rfl); (focus (go_simp <;> exact rfl)); (focus (intro hb0; replace hb0 := hb0.out; go_simp <;> (first | exact rfl))); intro KK hKK; go_simp; refine hKK _ ?_; clear hKK KK))
        refine vl_nil ?_
        repeat' (first | (with_reducible first | refine vseq ?_ | refine vthenN ?_ | refine vthenE ?_ | refine vthenR ?_ | refine vret ?_ | refine vskip ?_ | refine vexit ?_ | refine vblock ?_ | refine vblockN ?_ | refine vblockR ?_ | refine vblockH ?_ | refine vrun_nil ?_ | refine vblockE rfl ?_ | refine vregion [] ?_ | refine vhrun_nil ?_) | ((with_reducible refine vcondT ?_ ?_); (focus (go_simp; done))) | ((with_reducible refine vcondF ?_ ?_); (focus (go_simp; done))) | ((with_reducible first | refine vrun_cons fun KK hKK => ?_ | refine vhrun_cons fun KK hKK => ?_); go_simp; (first | (with_reducible refine ⟨_, i2, ?_⟩) | (with_reducible refine ⟨_, i3, ?_⟩) | (with_reducible refine ⟨_, k1, ?_⟩) | (with_reducible refine ⟨_, k2, ?_⟩) | (with_reducible refine ⟨_, b2, ?_⟩) | skip); refine hKK _ ?_; clear hKK KK) | ((with_reducible refine vcondS ?_ (fun ht => ?_) (fun ht => ?_)); (focus (go_simp; done)); (all_goals (simp [go_sem] at ht; replace ht := ht.out))) | ((apply vrun_consG0 rfl); (focus (go_simp <;> exact rfl)); (focus (go_simp; done)); (focus (intro hb0; replace hb0 := hb0.out; go_simp <;> (first | exact rfl | exact i2 | exact i3 | exact k1 | exact k2 | exact b2 | exact ⟨i2, rfl⟩ | exact ⟨i3, rfl⟩ | exact ⟨k1, rfl⟩ | exact ⟨k2, rfl⟩ | exact ⟨b2, rfl⟩))); intro KK hKK; go_simp; refine hKK _ ?_; clear hKK KK) | ((apply vhrun_consG0 rfl); (focus (go_simp <;> exact rfl)); (focus (intro hb0; replace hb0 := hb0.out; go_simp <;> (first | exact rfl | exact i2 | exact i3 | exact k1 | exact k2 | exact b2 | exact ⟨i2, rfl⟩ | exact ⟨i3, rfl⟩ | exact ⟨k1, rfl⟩ | exact ⟨k2, rfl⟩ | exact ⟨b2, rfl⟩))); intro KK hKK; go_simp; refine hKK _ ?_; clear hKK KK))
        clear k1 k2 b2 h0 e1 b1 ha i1
        apply vcnt [0, 1, 8] (fun k => [(12, I (k : Int))]) (fun k => ([some (.box [pairsA X, intsA Y, intsA Z])] : Hp))  (X.length)
        · go_simp <;> exact rfl
        · go_simp
        · intro k hk K hK
          obtain ⟨x1, x2, x3, x4, x5, x6⟩ := ixs (m := k) (by omega)
          obtain ⟨y1, y2, y3, y4, y5⟩ := hXX.out.one _ (List.getElem_mem hk)
          obtain ⟨p, q, hpq⟩ : ∃ p q : Nat, X[k] = ((p : Int), (q : Int)) := ⟨X[k].1.toNat, X[k].2.toNat, by
            rw [Int.toNat_of_nonneg y1, Int.toNat_of_nonneg y3]⟩
          rw [hpq] at y1 y2 y3 y4 y5
          simp only [Int.toNat_natCast] at y1 y2 y3 y4 y5
          have hpl : p < l.length := by omega
          have hqc : q < c.length := by omega
          have b3 := b_within (p : Int) 0 ((l.length : Int) - 1)
          rw [show inR (p : Int) 0 ((l.length : Int) - 1) = true from inR_iff.2 (by omega)] at b3
          have b4 := b_within (q : Int) 0 ((c.length : Int) - 1)
          rw [show inR (q : Int) 0 ((c.length : Int) - 1) = true from inR_iff.2 (by omega)] at b4
          have u3 := wrap_eq (x := (c.length : Int) - 1) (by omega) (by omega)
          obtain ⟨s1, s3, z1, z2, _⟩ := HH.out
          have sq := s3.each _ (List.getElem_mem hqc)
          have g1 := v_CopyClaim c[q] (by have := sq.few; omega)
          have hth : thingErr c[q] = 0 := by
            have := ((items_zero z2).2 q hqc).1
            rwa [xat_get hqc] at this
          have hcand : candE l c[q] = 0 := by unfold candE; rw [z1, hth]; rfl
          have g2 := p_Candidates0 l c[q] s1 sq hcand
          have g3 := b_Has (cands l c[q]) (p : Int) (by have : (cands l c[q]).length ≤ l.length := numF_len _ _; omega)
          rw [xat_get hqc] at y5
          rw [cands_has hpl y5] at g3
          clear s1 s3 z1 z2 sq hth hcand y1 y2 y3 y4 y5
          generalize cands l c[q] = C at *
          have hXk : X[k]? = some ((p : Int), (q : Int)) := by rw [List.getElem?_eq_getElem hk, hpq]
          repeat' (first | (with_reducible first | refine vseq ?_ | refine vthenN ?_ | refine vthenE ?_ | refine vthenR ?_ | refine vret ?_ | refine vskip ?_ | refine vexit ?_ | refine vblock ?_ | refine vblockN ?_ | refine vblockR ?_ | refine vblockH ?_ | refine vrun_nil ?_ | refine vblockE rfl ?_ | refine vregion [] ?_ | refine vhrun_nil ?_) | ((with_reducible refine vcondT ?_ ?_); (focus (go_simp; done))) | ((with_reducible refine vcondF ?_ ?_); (focus (go_simp; done))) | ((with_reducible first | refine vrun_cons fun KK hKK => ?_ | refine vhrun_cons fun KK hKK => ?_); go_simp; (first | (with_reducible refine ⟨_, i2, ?_⟩) | (with_reducible refine ⟨_, b3, ?_⟩) | (with_reducible refine ⟨_, b4, ?_⟩) | (with_reducible refine ⟨_, g1, ?_⟩) | (with_reducible refine ⟨_, g2, ?_⟩) | (with_reducible refine ⟨_, g3, ?_⟩) | skip); refine hKK _ ?_; clear hKK KK) | ((refine vdrawL 11 9 [] rfl (by kernel_rfl) (by kernel_rfl) ?_); simp only [List.append, List.take, List.drop]) | ((refine vdrawL 18 18 [] rfl (by kernel_rfl) (by kernel_rfl) ?_); simp only [List.take, List.drop]) | ((with_reducible refine vcondS ?_ (fun ht => ?_) (fun ht => ?_)); (focus (go_simp; done)); (all_goals (simp [go_sem] at ht; replace ht := ht.out))) | ((apply vrun_consG0 rfl); (focus (go_simp <;> exact rfl)); (focus (go_simp; done)); (focus (intro hb0; replace hb0 := hb0.out; go_simp <;> (first | exact rfl | exact i2 | exact b3 | exact b4 | exact g1 | exact g2 | exact g3 | exact ⟨i2, rfl⟩ | exact ⟨b3, rfl⟩ | exact ⟨b4, rfl⟩ | exact ⟨g1, rfl⟩ | exact ⟨g2, rfl⟩ | exact ⟨g3, rfl⟩))); intro KK hKK; go_simp; refine hKK _ ?_; clear hKK KK) | ((apply vhrun_consG0 rfl); (focus (go_simp <;> exact rfl)); (focus (intro hb0; replace hb0 := hb0.out; go_simp <;> (first | exact rfl | exact i2 | exact b3 | exact b4 | exact g1 | exact g2 | exact g3 | exact ⟨i2, rfl⟩ | exact ⟨b3, rfl⟩ | exact ⟨b4, rfl⟩ | exact ⟨g1, rfl⟩ | exact ⟨g2, rfl⟩ | exact ⟨g3, rfl⟩))); intro KK hKK; go_simp; refine hKK _ ?_; clear hKK KK))
          refine hK _ ?_
          go_simp
          done
        · intro K
          repeat' (first | (with_reducible first | refine vseq ?_ | refine vthenN ?_ | refine vthenE ?_ | refine vthenR ?_ | refine vret ?_ | refine vskip ?_ | refine vexit ?_ | refine vblock ?_ | refine vblockN ?_ | refine vblockR ?_ | refine vblockH ?_ | refine vrun_nil ?_ | refine vblockE rfl ?_ | refine vregion [] ?_ | refine vhrun_nil ?_) | ((with_reducible refine vcondT ?_ ?_); (focus (go_simp; done))) | ((with_reducible refine vcondF ?_ ?_); (focus (go_simp; done))) | ((with_reducible first | refine vrun_cons fun KK hKK => ?_ | refine vhrun_cons fun KK hKK => ?_); go_simp; refine hKK _ ?_; clear hKK KK) | ((refine vdrawL 11 9 [] rfl (by kernel_rfl) (by kernel_rfl) ?_); simp only [List.append, List.take, List.drop]) | ((refine vdrawL 18 18 [] rfl (by kernel_rfl) (by kernel_rfl) ?_); simp only [List.append, List.take, List.drop]) | ((with_reducible refine vcondS ?_ (fun ht => ?_) (fun ht => ?_)); (focus (go_simp; done)); (all_goals (simp [go_sem] at ht; replace ht := ht.out))) | ((apply vrun_consG0 rfl); (focus (go_simp <;> exact rfl)); (focus (go_simp; done)); (focus (intro hb0; replace hb0 := hb0.out; go_simp <;> (first | exact rfl))); intro KK hKK; go_simp; refine hKK _ ?_; clear hKK KK) | ((apply vhrun_consG0 rfl); (focus (go_simp <;> exact rfl)); (focus (intro hb0; replace hb0 := hb0.out; go_simp <;> (first | exact rfl))); intro KK hKK; go_simp; refine hKK _ ?_; clear hKK KK))
          go_simp
      · refine VC_of Try.func3 rfl (by kernel_rfl) (by kernel_rfl) rfl fun M0 w0 => ?_
        simp only [Try.ntmps3, Try.results3, enumA]
        repeat' (first | (with_reducible first | refine vseq ?_ | refine vthenN ?_ | refine vthenE ?_ | refine vthenR ?_ | refine vret ?_ | refine vskip ?_ | refine vexit ?_ | refine vblock ?_ | refine vblockN ?_ | refine vblockR ?_ | refine vblockH ?_ | refine vrun_nil ?_ | refine vblockE rfl ?_ | refine vregion [] ?_ | refine vhrun_nil ?_) | ((with_reducible refine vcondT ?_ ?_); (focus (go_simp; done))) | ((with_reducible refine vcondF ?_ ?_); (focus (go_simp; done))) | ((with_reducible first | refine vrun_cons fun KK hKK => ?_ | refine vhrun_cons fun KK hKK => ?_); go_simp; (first | (with_reducible refine ⟨_, ha, ?_⟩) | (with_reducible refine ⟨_, h0, ?_⟩) | (with_reducible refine ⟨_, e1, ?_⟩) | (with_reducible refine ⟨_, b1, ?_⟩) | skip); refine hKK _ ?_; clear hKK KK) | ((with_reducible refine vcondS ?_ (fun ht => ?_) (fun ht => ?_)); (focus (go_simp; done)); (all_goals (simp [go_sem] at ht; replace ht := ht.out))) | ((apply vrun_consG0 rfl); (focus (go_simp <;> exact rfl)); (focus (go_simp; done)); (focus (intro hb0; replace hb0 := hb0.out; go_simp <;> (first | exact rfl | exact ha | exact h0 | exact e1 | exact b1 | exact ⟨ha, rfl⟩ | exact ⟨h0, rfl⟩ | exact ⟨e1, rfl⟩ | exact ⟨b1, rfl⟩))); intro KK hKK; go_simp; refine hKK _ ?_; clear hKK KK) | ((apply vhrun_consG0 rfl); (focus (go_simp <;> exact rfl)); (focus (intro hb0; replace hb0 := hb0.out; go_simp <;> (first | exact rfl | exact ha | exact h0 | exact e1 | exact b1 | exact ⟨ha, rfl⟩ | exact ⟨h0, rfl⟩ | exact ⟨e1, rfl⟩ | exact ⟨b1, rfl⟩))); intro KK hKK; go_simp; refine hKK _ ?_; clear hKK KK))
        refine vdrawC 8 [38] (fun i => i == 3) (by kernel_rfl) (by kernel_rfl) (by kernel_rfl) (by go_simp) (by go_simp) ?_
        simp only [List.take, List.drop]
        repeat (first | (with_reducible first | refine vseq ?_ | refine vthenN ?_ | refine vthenE ?_ | refine vthenR ?_ | refine vret ?_ | refine vskip ?_ | refine vexit ?_ | refine vblock ?_ | refine vblockN ?_ | refine vblockR ?_ | refine vblockH ?_ | refine vrun_nil ?_ | refine vblockE rfl ?_ | refine vregion [] ?_ | refine vhrun_nil ?_) | ((with_reducible refine vcondT ?_ ?_); (focus (go_simp; done))) | ((with_reducible refine vcondF ?_ ?_); (focus (go_simp; done))) | ((with_reducible first | refine vrun_cons fun KK hKK => ?_ | refine vhrun_cons fun KK hKK => ?_); go_simp; refine hKK _ ?_; clear hKK KK) | ((with_reducible refine vhc_cons rfl fun KK hKK => ?_); go_simp; refine hKK _ (by go_simp) ?_; clear hKK KK) | ((with_reducible refine vhc_nil ?_); simp only [List.cons_append, List.nil_append, newCs, nextCs, if_true]))
        refine vhc_chain [some (.arr 54 4 nlv ((l.map Item.av).take i))] none (.osl 0) rfl ⟨rfl, fun _ => rfl, fun _ h => by cases h⟩ ?_ ?_
        · intro s2 hs2
          have p1 : lkp s2 37 = .sl 4 ((l.map Item.av).take i) := (hs2 37 (by simp [Op.operands, Call.operands]) (by go_simp)).trans (by go_simp)
          clear hs2
          go_simp
          cases nlv
          · exact ⟨54, 4, .inl ⟨_, i0, rfl, rfl, rfl, rfl⟩⟩
          · exact ⟨54, 4, .inr ⟨_, i0, rfl, rfl, rfl, rfl⟩⟩
        repeat (first | (with_reducible first | refine vseq ?_ | refine vthenN ?_ | refine vthenE ?_ | refine vthenR ?_ | refine vret ?_ | refine vskip ?_ | refine vexit ?_ | refine vblock ?_ | refine vblockN ?_ | refine vblockR ?_ | refine vblockH ?_ | refine vrun_nil ?_ | refine vblockE rfl ?_ | refine vregion [] ?_ | refine vhrun_nil ?_) | ((with_reducible refine vcondT ?_ ?_); (focus (go_simp; done))) | ((with_reducible refine vcondF ?_ ?_); (focus (go_simp; done))) | ((with_reducible first | refine vrun_cons fun KK hKK => ?_ | refine vhrun_cons fun KK hKK => ?_); go_simp; refine hKK _ ?_; clear hKK KK) | ((with_reducible refine vhc_cons rfl fun KK hKK => ?_); go_simp; refine hKK _ (by go_simp) ?_; clear hKK KK) | ((with_reducible refine vhc_nil ?_); simp only [List.cons_append, List.nil_append, newCs]))
        generalize List.take i (List.map Item.av l) = T at *
        generalize List.drop (i + 1) (List.map Item.av l) = D at *
        have hnl3 : nlv = true → 0 < D.length := fun h => by have := hnl2 h; omega
        have hb9 : T.length + D.length ≤ 1000000000 := by omega
        clear htk hnl2 hTl hDl
        have hXX := Lib.hid (most_pp l c)
        obtain ⟨X, hX⟩ : ∃ X, mostP l c = X := ⟨_, rfl⟩
        obtain ⟨X2, hX2⟩ : ∃ X, mostP (lessL l i) c = X := ⟨_, rfl⟩
        rw [hX] at k1 n1 n2 hP hXX
        rw [hX2] at k2 n1 n2
        clear hX hX2
        generalize mostI l c = Y at *
        generalize mostC l c = Z at *
        generalize mostI (lessL l i) c = Y2 at *
        generalize mostC (lessL l i) c = Z2 at *
        have b2 := b_within ((X.length : Int) - (X2.length : Int)) 0 1
        rw [show inR ((X.length : Int) - (X2.length : Int)) 0 1 = true from inR_iff.2 (by omega)] at b2
        have u2 := wrap_eq (x := (X.length : Int) - (X2.length : Int)) (by omega) (by omega)
        have hP2 : (X.length : Int) ≤ l.length := by omega
        repeat' (first | (with_reducible first | refine vseq ?_ | refine vthenN ?_ | refine vthenE ?_ | refine vthenR ?_ | refine vret ?_ | refine vskip ?_ | refine vexit ?_ | refine vblock ?_ | refine vblockN ?_ | refine vblockR ?_ | refine vblockH ?_ | refine vrun_nil ?_ | refine vblockE rfl ?_ | refine vregion [] ?_ | refine vhrun_nil ?_) | ((with_reducible refine vcondT ?_ ?_); (focus (go_simp; done))) | ((with_reducible refine vcondF ?_ ?_); (focus (go_simp; done))) | ((with_reducible first | refine vrun_cons fun KK hKK => ?_ | refine vhrun_cons fun KK hKK => ?_); go_simp; (first | (with_reducible refine ⟨_, i1, ?_⟩) | skip); refine hKK _ ?_; clear hKK KK) | ((with_reducible refine vcondS ?_ (fun ht => ?_) (fun ht => ?_)); (focus (go_simp; done)); (all_goals (simp [go_sem] at ht; replace ht := ht.out))) | ((apply vrun_consG0 rfl); (focus (go_simp <;> exact rfl)); (focus (go_simp; done)); (focus (intro hb0; replace hb0 := hb0.out; go_simp <;> (first | exact rfl | exact i1 | exact ⟨i1, rfl⟩))); intro KK hKK; go_simp; refine hKK _ ?_; clear hKK KK) | ((apply vhrun_consG0 rfl); (focus (go_simp <;> exact rfl)); (focus (intro hb0; replace hb0 := hb0.out; go_simp <;> (first | exact rfl | exact i1 | exact ⟨i1, rfl⟩))); intro KK hKK; go_simp; refine hKK _ ?_; clear hKK KK))
        refine vrun_cons fun KK hKK => ?_
        go_simp
        rw [if_pos hnl3]
        refine hKK _ ?_
        clear hKK KK
        repeat' (first | (with_reducible first | refine vseq ?_ | refine vthenN ?_ | refine vthenE ?_ | refine vthenR ?_ | refine vret ?_ | refine vskip ?_ | refine vexit ?_ | refine vblock ?_ | refine vblockN ?_ | refine vblockR ?_ | refine vblockH ?_ | refine vrun_nil ?_ | refine vblockE rfl ?_ | refine vhrun_nil ?_) | ((with_reducible refine vcondT ?_ ?_); (focus (go_simp; done))) | ((with_reducible refine vcondF ?_ ?_); (focus (go_simp; done))) | ((with_reducible first | refine vrun_cons fun KK hKK => ?_ | refine vhrun_cons fun KK hKK => ?_); go_simp; refine hKK _ ?_; clear hKK KK) | ((with_reducible refine vcondS ?_ (fun ht => ?_) (fun ht => ?_)); (focus (go_simp; done)); (all_goals (simp [go_sem] at ht; replace ht := ht.out))) | ((apply vrun_consG0 rfl); (focus (go_simp <;> exact rfl)); (focus (go_simp; done)); (focus (intro hb0; replace hb0 := hb0.out; go_simp <;> (first | exact rfl))); intro KK hKK; go_simp; refine hKK _ ?_; clear hKK KK) | ((apply vhrun_consG0 rfl); (focus (go_simp <;> exact rfl)); (focus (intro hb0; replace hb0 := hb0.out; go_simp <;> (first | exact rfl))); intro KK hKK; go_simp; refine hKK _ ?_; clear hKK KK))
        refine vfreeze 7 0 rfl rfl ?_
        repeat' (first | (with_reducible first | refine vseq ?_ | refine vthenN ?_ | refine vthenE ?_ | refine vthenR ?_ | refine vret ?_ | refine vskip ?_ | refine vexit ?_ | refine vblock ?_ | refine vblockN ?_ | refine vblockR ?_ | refine vblockH ?_ | refine vrun_nil ?_ | refine vblockE rfl ?_ | refine vregion [] ?_ | refine vhrun_nil ?_) | ((with_reducible refine vcondT ?_ ?_); (focus (go_simp; done))) | ((with_reducible refine vcondF ?_ ?_); (focus (go_simp; done))) | ((with_reducible first | refine vrun_cons fun KK hKK => ?_ | refine vhrun_cons fun KK hKK => ?_); go_simp; (first | (with_reducible refine ⟨_, i2, ?_⟩) | (with_reducible refine ⟨_, i3, ?_⟩) | (with_reducible refine ⟨_, k1, ?_⟩) | (with_reducible refine ⟨_, k2, ?_⟩) | (with_reducible refine ⟨_, b2, ?_⟩) | skip); refine hKK _ ?_; clear hKK KK) | ((with_reducible refine vcondS ?_ (fun ht => ?_) (fun ht => ?_)); (focus (go_simp; done)); (all_goals (simp [go_sem] at ht; replace ht := ht.out))) | ((apply vrun_consG0 rfl); (focus (go_simp <;> exact rfl)); (focus (go_simp; done)); (focus (intro hb0; replace hb0 := hb0.out; go_simp <;> (first | exact rfl | exact i2 | exact i3 | exact k1 | exact k2 | exact b2 | exact ⟨i2, rfl⟩ | exact ⟨i3, rfl⟩ | exact ⟨k1, rfl⟩ | exact ⟨k2, rfl⟩ | exact ⟨b2, rfl⟩))); intro KK hKK; go_simp; refine hKK _ ?_; clear hKK KK) | ((apply vhrun_consG0 rfl); (focus (go_simp <;> exact rfl)); (focus (intro hb0; replace hb0 := hb0.out; go_simp <;> (first | exact rfl | exact i2 | exact i3 | exact k1 | exact k2 | exact b2 | exact ⟨i2, rfl⟩ | exact ⟨i3, rfl⟩ | exact ⟨k1, rfl⟩ | exact ⟨k2, rfl⟩ | exact ⟨b2, rfl⟩))); intro KK hKK; go_simp; refine hKK _ ?_; clear hKK KK))
        clear k1 k2 b2 h0 e1 b1 ha i1
        apply vcnt [0, 1, 8] (fun k => [(12, I (k : Int))]) (fun k => ([none, some (.box [pairsA X, intsA Y, intsA Z])] : Hp))  (X.length)
        · go_simp <;> exact rfl
        · go_simp
        · intro k hk K hK
          obtain ⟨x1, x2, x3, x4, x5, x6⟩ := ixs (m := k) (by omega)
          obtain ⟨y1, y2, y3, y4, y5⟩ := hXX.out.one _ (List.getElem_mem hk)
          obtain ⟨p, q, hpq⟩ : ∃ p q : Nat, X[k] = ((p : Int), (q : Int)) := ⟨X[k].1.toNat, X[k].2.toNat, by
            rw [Int.toNat_of_nonneg y1, Int.toNat_of_nonneg y3]⟩
          rw [hpq] at y1 y2 y3 y4 y5
          simp only [Int.toNat_natCast] at y1 y2 y3 y4 y5
          have hpl : p < l.length := by omega
          have hqc : q < c.length := by omega
          have b3 := b_within (p : Int) 0 ((l.length : Int) - 1)
          rw [show inR (p : Int) 0 ((l.length : Int) - 1) = true from inR_iff.2 (by omega)] at b3
          have b4 := b_within (q : Int) 0 ((c.length : Int) - 1)
          rw [show inR (q : Int) 0 ((c.length : Int) - 1) = true from inR_iff.2 (by omega)] at b4
          have u3 := wrap_eq (x := (c.length : Int) - 1) (by omega) (by omega)
          obtain ⟨s1, s3, z1, z2, _⟩ := HH.out
          have sq := s3.each _ (List.getElem_mem hqc)
          have g1 := v_CopyClaim c[q] (by have := sq.few; omega)
          have hth : thingErr c[q] = 0 := by
            have := ((items_zero z2).2 q hqc).1
            rwa [xat_get hqc] at this
          have hcand : candE l c[q] = 0 := by unfold candE; rw [z1, hth]; rfl
          have g2 := p_Candidates0 l c[q] s1 sq hcand
          have g3 := b_Has (cands l c[q]) (p : Int) (by have : (cands l c[q]).length ≤ l.length := numF_len _ _; omega)
          rw [xat_get hqc] at y5
          rw [cands_has hpl y5] at g3
          clear s1 s3 z1 z2 sq hth hcand y1 y2 y3 y4 y5
          generalize cands l c[q] = C at *
          have hXk : X[k]? = some ((p : Int), (q : Int)) := by rw [List.getElem?_eq_getElem hk, hpq]
          repeat' (first | (with_reducible first | refine vseq ?_ | refine vthenN ?_ | refine vthenE ?_ | refine vthenR ?_ | refine vret ?_ | refine vskip ?_ | refine vexit ?_ | refine vblock ?_ | refine vblockN ?_ | refine vblockR ?_ | refine vblockH ?_ | refine vrun_nil ?_ | refine vblockE rfl ?_ | refine vregion [] ?_ | refine vhrun_nil ?_) | ((with_reducible refine vcondT ?_ ?_); (focus (go_simp; done))) | ((with_reducible refine vcondF ?_ ?_); (focus (go_simp; done))) | ((with_reducible first | refine vrun_cons fun KK hKK => ?_ | refine vhrun_cons fun KK hKK => ?_); go_simp; (first | (with_reducible refine ⟨_, i2, ?_⟩) | (with_reducible refine ⟨_, b3, ?_⟩) | (with_reducible refine ⟨_, b4, ?_⟩) | (with_reducible refine ⟨_, g1, ?_⟩) | (with_reducible refine ⟨_, g2, ?_⟩) | (with_reducible refine ⟨_, g3, ?_⟩) | skip); refine hKK _ ?_; clear hKK KK) | ((refine vdrawL 11 9 [] rfl (by kernel_rfl) (by kernel_rfl) ?_); simp only [List.append, List.take, List.drop]) | ((refine vdrawL 18 18 [] rfl (by kernel_rfl) (by kernel_rfl) ?_); simp only [List.take, List.drop]) | ((with_reducible refine vcondS ?_ (fun ht => ?_) (fun ht => ?_)); (focus (go_simp; done)); (all_goals (simp [go_sem] at ht; replace ht := ht.out))) | ((apply vrun_consG0 rfl); (focus (go_simp <;> exact rfl)); (focus (go_simp; done)); (focus (intro hb0; replace hb0 := hb0.out; go_simp <;> (first | exact rfl | exact i2 | exact b3 | exact b4 | exact g1 | exact g2 | exact g3 | exact ⟨i2, rfl⟩ | exact ⟨b3, rfl⟩ | exact ⟨b4, rfl⟩ | exact ⟨g1, rfl⟩ | exact ⟨g2, rfl⟩ | exact ⟨g3, rfl⟩))); intro KK hKK; go_simp; refine hKK _ ?_; clear hKK KK) | ((apply vhrun_consG0 rfl); (focus (go_simp <;> exact rfl)); (focus (intro hb0; replace hb0 := hb0.out; go_simp <;> (first | exact rfl | exact i2 | exact b3 | exact b4 | exact g1 | exact g2 | exact g3 | exact ⟨i2, rfl⟩ | exact ⟨b3, rfl⟩ | exact ⟨b4, rfl⟩ | exact ⟨g1, rfl⟩ | exact ⟨g2, rfl⟩ | exact ⟨g3, rfl⟩))); intro KK hKK; go_simp; refine hKK _ ?_; clear hKK KK))
          refine hK _ ?_
          go_simp
          done
        · intro K
          repeat' (first | (with_reducible first | refine vseq ?_ | refine vthenN ?_ | refine vthenE ?_ | refine vthenR ?_ | refine vret ?_ | refine vskip ?_ | refine vexit ?_ | refine vblock ?_ | refine vblockN ?_ | refine vblockR ?_ | refine vblockH ?_ | refine vrun_nil ?_ | refine vblockE rfl ?_ | refine vregion [] ?_ | refine vhrun_nil ?_) | ((with_reducible refine vcondT ?_ ?_); (focus (go_simp; done))) | ((with_reducible refine vcondF ?_ ?_); (focus (go_simp; done))) | ((with_reducible first | refine vrun_cons fun KK hKK => ?_ | refine vhrun_cons fun KK hKK => ?_); go_simp; refine hKK _ ?_; clear hKK KK) | ((refine vdrawL 11 9 [] rfl (by kernel_rfl) (by kernel_rfl) ?_); simp only [List.append, List.take, List.drop]) | ((refine vdrawL 18 18 [] rfl (by kernel_rfl) (by kernel_rfl) ?_); simp only [List.append, List.take, List.drop]) | ((with_reducible refine vcondS ?_ (fun ht => ?_) (fun ht => ?_)); (focus (go_simp; done)); (all_goals (simp [go_sem] at ht; replace ht := ht.out))) | ((apply vrun_consG0 rfl); (focus (go_simp <;> exact rfl)); (focus (go_simp; done)); (focus (intro hb0; replace hb0 := hb0.out; go_simp <;> (first | exact rfl))); intro KK hKK; go_simp; refine hKK _ ?_; clear hKK KK) | ((apply vhrun_consG0 rfl); (focus (go_simp <;> exact rfl)); (focus (intro hb0; replace hb0 := hb0.out; go_simp <;> (first | exact rfl))); intro KK hKK; go_simp; refine hKK _ ?_; clear hKK KK))
          go_simp
  · clear hs s1 s3
    generalize bothE l c = E at *
    refine VC_of Try.func3 rfl (by kernel_rfl) (by kernel_rfl) rfl fun M0 w0 => ?_
    simp only [Try.ntmps3, Try.results3, enumA]
    repeat' (first | (with_reducible first | refine vseq ?_ | refine vthenN ?_ | refine vthenE ?_ | refine vthenR ?_ | refine vret ?_ | refine vskip ?_ | refine vexit ?_ | refine vblock ?_ | refine vblockN ?_ | refine vblockR ?_ | refine vblockH ?_ | refine vrun_nil ?_ | refine vblockE rfl ?_ | refine vregion [] ?_ | refine vhrun_nil ?_) | ((with_reducible refine vcondT ?_ ?_); (focus (go_simp; done))) | ((with_reducible refine vcondF ?_ ?_); (focus (go_simp; done))) | ((with_reducible first | refine vrun_cons fun KK hKK => ?_ | refine vhrun_cons fun KK hKK => ?_); go_simp; (first | (with_reducible refine ⟨_, ha, ?_⟩) | (with_reducible refine ⟨_, h0, ?_⟩) | (with_reducible refine ⟨_, e1, ?_⟩) | skip); refine hKK _ ?_; clear hKK KK) | ((refine vdrawL 11 9 [] rfl (by kernel_rfl) (by kernel_rfl) ?_); simp only [List.append, List.take, List.drop]) | ((refine vdrawL 18 18 [] rfl (by kernel_rfl) (by kernel_rfl) ?_); simp only [List.append, List.take, List.drop]) | ((with_reducible refine vcondS ?_ (fun ht => ?_) (fun ht => ?_)); (focus (go_simp; done)); (all_goals (simp [go_sem] at ht; replace ht := ht.out))) | ((apply vrun_consG0 rfl); (focus (go_simp <;> exact rfl)); (focus (go_simp; done)); (focus (intro hb0; replace hb0 := hb0.out; go_simp <;> (first | exact rfl | exact ha | exact h0 | exact e1 | exact ⟨ha, rfl⟩ | exact ⟨h0, rfl⟩ | exact ⟨e1, rfl⟩))); intro KK hKK; go_simp; refine hKK _ ?_; clear hKK KK) | ((apply vhrun_consG0 rfl); (focus (go_simp <;> exact rfl)); (focus (intro hb0; replace hb0 := hb0.out; go_simp <;> (first | exact rfl | exact ha | exact h0 | exact e1 | exact ⟨ha, rfl⟩ | exact ⟨h0, rfl⟩ | exact ⟨e1, rfl⟩))); intro KK hKK; go_simp; refine hKK _ ?_; clear hKK KK))
    go_simp
end Go.Proofs.Ythbgghmjbaldlaa
