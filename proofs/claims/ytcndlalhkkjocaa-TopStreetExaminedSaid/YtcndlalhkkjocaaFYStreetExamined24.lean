/- Texts in one: Walks on plain values: a way of two roads told by the roads of labels, of the program; no condition. -/
import Derived.Test.YtcndlalhkkjocaaFYStreetExamined22
import Derived.Test.YtcndlalhkkjocaaFYStreetExamined23
/-! SYR: Walks on plain values: a way of two roads told by the roads of labels, of the program; no condition. -/
namespace Go.Proofs.Ytcndlalhkkjocaa
open Go.RowKit
set_option maxRecDepth 100000
set_option maxHeartbeats 1000000
def revR (a b : Int) (x : Bool) : List (List AV) := if x then [[I b], [I a]] else [[I a], [I b]]
@[go_sem] theorem revR_f (a b : Int) : revR a b false = [[I a], [I b]] := rfl
@[go_sem] theorem revR_t (a b : Int) : revR a b true = [[I b], [I a]] := rfl
@[go_sem] theorem wrapZ : IntKind.i64.wrap 0 = 0 := rfl
theorem y_Reverse (a b : Int) : VH Try.prog 46 [some (.arr 3 1 false [[I a], [I b]])] [.osl 0] [0] [some (.arr 3 1 false [[I b], [I a]])] (.tup []) := by
  refine VH_of Try.func46 rfl (by kernel_rfl) rfl (fun _ => by kernel_rfl) fun M0 w0 vs => ?_
  simp only [Try.ntmps46, Try.results46, enumA]
  repeat' (first | (with_reducible first | refine vseq ?_ | refine vthenN ?_ | refine vthenE ?_ | refine vthenR ?_ | refine vret ?_ | refine vskip ?_ | refine vexit ?_ | refine vblock ?_ | refine vblockN ?_ | refine vblockR ?_ | refine vblockH ?_ | refine vrun_nil ?_ | refine vblockE rfl ?_ | refine vregion [] ?_ | refine vhrun_nil ?_) | ((with_reducible refine vcondT ?_ ?_); (focus (go_simp; done))) | ((with_reducible refine vcondF ?_ ?_); (focus (go_simp; done))) | ((with_reducible first | refine vrun_cons fun KK hKK => ?_ | refine vhrun_cons fun KK hKK => ?_); go_simp; refine hKK _ ?_; clear hKK KK) | ((with_reducible refine vcondS ?_ (fun ht => ?_) (fun ht => ?_)); (focus (go_simp; done)); (all_goals (simp [go_sem] at ht; replace ht := ht.out))))
  apply vloopK (α := Bool) [0] (fun (x : Bool) => [(2, I (if x then 1 else 0)), (3, I (if x then 0 else 1))]) (fun (x : Bool) => ([some (.arr 3 1 false (revR a b x))] : Hp)) (fun (x : Bool) => True) (fun (x : Bool) => (if x then 0 else 1)) (false) trivial
  · (go_simp <;> exact rfl)
  · go_simp
  rintro x _ K hK
  cases x
  · simp only [revR]
    repeat' (first | (with_reducible first | refine vseq ?_ | refine vthenN ?_ | refine vthenE ?_ | refine vthenR ?_ | refine vret ?_ | refine vskip ?_ | refine vexit ?_ | refine vblock ?_ | refine vblockN ?_ | refine vblockR ?_ | refine vblockH ?_ | refine vrun_nil ?_ | refine vblockE rfl ?_ | refine vregion [] ?_ | refine vhrun_nil ?_) | ((with_reducible refine vcondT ?_ ?_); (focus (go_simp; done))) | ((with_reducible refine vcondF ?_ ?_); (focus (go_simp; done))) | ((with_reducible first | refine vrun_cons fun KK hKK => ?_ | refine vhrun_cons fun KK hKK => ?_); go_simp; refine hKK _ ?_; clear hKK KK) | ((with_reducible refine vcondS ?_ (fun ht => ?_) (fun ht => ?_)); (focus (go_simp; done)); (all_goals (simp [go_sem] at ht; replace ht := ht.out))))
    refine vdrawS2 13 [] [] (by kernel_rfl) (by kernel_rfl) (by kernel_rfl) rfl ⟨rfl, rfl⟩ rfl ?_
    simp only [List.take, List.drop]
    repeat' (first | (with_reducible first | refine vseq ?_ | refine vthenN ?_ | refine vthenE ?_ | refine vthenR ?_ | refine vret ?_ | refine vskip ?_ | refine vexit ?_ | refine vblock ?_ | refine vblockN ?_ | refine vblockR ?_ | refine vblockH ?_ | refine vrun_nil ?_ | refine vblockE rfl ?_ | refine vhrun_nil ?_) | ((with_reducible refine vcondT ?_ ?_); (focus (go_simp; done))) | ((with_reducible refine vcondF ?_ ?_); (focus (go_simp; done))) | ((with_reducible first | refine vrun_cons fun KK hKK => ?_ | refine vhrun_cons fun KK hKK => ?_); go_simp; refine hKK _ ?_; clear hKK KK) | ((with_reducible refine vcondS ?_ (fun ht => ?_) (fun ht => ?_)); (focus (go_simp; done)); (all_goals (simp [go_sem] at ht; replace ht := ht.out))))
    refine ⟨_, by go_simp; exact rfl, trivial, ?_⟩
    repeat' (first | (with_reducible first | refine vseq ?_ | refine vthenN ?_ | refine vthenE ?_ | refine vthenR ?_ | refine vret ?_ | refine vskip ?_ | refine vexit ?_ | refine vblock ?_ | refine vblockN ?_ | refine vblockR ?_ | refine vblockH ?_ | refine vrun_nil ?_ | refine vblockE rfl ?_ | refine vregion [] ?_ | refine vhrun_nil ?_) | ((with_reducible refine vcondT ?_ ?_); (focus (go_simp; done))) | ((with_reducible refine vcondF ?_ ?_); (focus (go_simp; done))) | ((with_reducible first | refine vrun_cons fun KK hKK => ?_ | refine vhrun_cons fun KK hKK => ?_); go_simp; refine hKK _ ?_; clear hKK KK) | ((with_reducible refine vcondS ?_ (fun ht => ?_) (fun ht => ?_)); (focus (go_simp; done)); (all_goals (simp [go_sem] at ht; replace ht := ht.out))))
    refine hK _ true trivial (by decide) ?_
    go_simp
  · simp only [revR]
    repeat' (first | (with_reducible first | refine vseq ?_ | refine vthenN ?_ | refine vthenE ?_ | refine vthenR ?_ | refine vret ?_ | refine vskip ?_ | refine vexit ?_ | refine vblock ?_ | refine vblockN ?_ | refine vblockR ?_ | refine vblockH ?_ | refine vrun_nil ?_ | refine vblockE rfl ?_ | refine vregion [] ?_ | refine vhrun_nil ?_) | ((with_reducible refine vcondT ?_ ?_); (focus (go_simp; done))) | ((with_reducible refine vcondF ?_ ?_); (focus (go_simp; done))) | ((with_reducible first | refine vrun_cons fun KK hKK => ?_ | refine vhrun_cons fun KK hKK => ?_); go_simp; refine hKK _ ?_; clear hKK KK) | ((with_reducible refine vcondS ?_ (fun ht => ?_) (fun ht => ?_)); (focus (go_simp; done)); (all_goals (simp [go_sem] at ht; replace ht := ht.out))))
    go_simp
/-- A way of labels W: places T and roads R, of K roads. -/
structure PathQ (rs : List Rd) (W : List Int) (R : Nat → Int) (T : Nat → Nat) (K : Nat) : Prop where
  step : ∀ x, x < K → ∃ r : Nat, r < rs.length ∧ R x = (r : Int) ∧ (rdat rs r).src = ((T (x + 1) : Nat) : Int)
  at_ : ∀ x, x ≤ K → T x < W.length ∧ iat W (T x) = R x
  stop : R K = -1
def outQ (R : Nat → Int) : Nat → List Int
  | 0 => []
  | x + 1 => outQ R x ++ [R x]
theorem outQ_len (R : Nat → Int) : ∀ x, (outQ R x).length = x
  | 0 => rfl
  | x + 1 => by rw [outQ, List.length_append, outQ_len R x]; rfl
@[go_sem] theorem outQ_0 (R : Nat → Int) : outQ R 0 = [] := rfl
theorem y_way (n : Nt) (L W : List Int) (R : Nat → Int) (T : Nat → Nat) (a b : Int) (h : PathQ n.roads W R T 2) (hw : W.length ≤ 1000) (hr : n.roads.length ≤ 1000) (ho : outQ R 2 = [a, b]) :
    VCo Try.prog 34 [snetA n, .agg [intsA L, intsA W], I ((T 0 : Nat) : Int)] 3 1 false ([b, a].map intA) := by
  have HH := Lib.hid h
  have HO := Lib.hid ho
  have h0 := h.at_ 0 (by decide)
  obtain ⟨q1, q2⟩ := h0
  clear h ho
  obtain ⟨w1, w2, w3, w4, w5, w6⟩ := ixs (m := T 0) (by omega)
  refine VCo_of Try.func34 rfl (by kernel_rfl) (by kernel_rfl) rfl Try.results34 (by decide) (ints_one _) fun M0 w0 => ?_
  simp only [Try.ntmps34, enumA]
  repeat' (first | (with_reducible first | refine vseq ?_ | refine vthenN ?_ | refine vthenE ?_ | refine vthenR ?_ | refine vret ?_ | refine vskip ?_ | refine vexit ?_ | refine vblock ?_ | refine vblockN ?_ | refine vblockR ?_ | refine vblockH ?_ | refine vrun_nil ?_ | refine vblockE rfl ?_ | refine vregion [7] ?_ | refine vhrun_nil ?_) | ((with_reducible refine vcondT ?_ ?_); (focus (go_simp; done))) | ((with_reducible refine vcondF ?_ ?_); (focus (go_simp; done))) | ((with_reducible first | refine vrun_cons fun KK hKK => ?_ | refine vhrun_cons fun KK hKK => ?_); go_simp; refine hKK _ ?_; clear hKK KK) | ((with_reducible refine vcondS ?_ (fun ht => ?_) (fun ht => ?_)); (focus (go_simp; done)); (all_goals (simp [go_sem] at ht; replace ht := ht.out))))
  apply vloopK (α := Nat) [3, 4] (fun (x : Nat) => [(7, .osl 0), (8, I (R x)), (2, I ((T x : Nat) : Int))]) (fun (x : Nat) => ([some (.arr 3 1 (decide (outQ R x = [])) ((outQ R x).map intA))] : Hp)) (fun (x : Nat) => x ≤ 2) (fun (x : Nat) => 2 - x) (0) (by decide)
  · (go_simp <;> exact rfl)
  · go_simp
  rintro x hx K hK
  by_cases hlt : x < 2
  · obtain ⟨r, hr1, hr2, hr3⟩ := HH.out.step x hlt
    obtain ⟨p1, p2⟩ := HH.out.at_ (x + 1) (by omega)
    have hl := outQ_len R x
    have hs : outQ R (x + 1) = outQ R x ++ [R x] := rfl
    have HS := Lib.hid hs
    clear hs
    obtain ⟨v1, v2, v3, v4, v5, v6⟩ := ixs (m := r) (by omega)
    obtain ⟨x1, x2, x3, x4, x5, x6⟩ := ixs (m := T (x + 1)) (by omega)
    rw [hr2] at HS
    rw [hr2]
    have hne : ¬ (r : Int) = -1 := by omega
    obtain ⟨F, hF⟩ : ∃ F, T (x + 1) = F := ⟨_, rfl⟩
    rw [hF] at p1 p2 x1 x2 x3 x4 x5 x6 hr3
    have HF := Lib.hid hF
    clear hF
    generalize T x = F0 at *
    have hb : (outQ R x).length + 1 ≤ 1000000000 := by omega
    generalize outQ R x = O at *
    obtain ⟨RR, hRR⟩ : ∃ RR, rdat n.roads r = RR := ⟨_, rfl⟩
    rw [hRR] at hr3
    repeat' (first | (with_reducible first | refine vseq ?_ | refine vthenN ?_ | refine vthenE ?_ | refine vthenR ?_ | refine vret ?_ | refine vskip ?_ | refine vexit ?_ | refine vblock ?_ | refine vblockN ?_ | refine vblockR ?_ | refine vblockH ?_ | refine vrun_nil ?_ | refine vblockE rfl ?_ | refine vregion [] ?_ | refine vhrun_nil ?_) | ((with_reducible refine vcondT ?_ ?_); (focus (go_simp; done))) | ((with_reducible refine vcondF ?_ ?_); (focus (go_simp; done))) | ((with_reducible first | refine vrun_cons fun KK hKK => ?_ | refine vhrun_cons fun KK hKK => ?_); go_simp; refine hKK _ ?_; clear hKK KK) | ((with_reducible refine vcondS ?_ (fun ht => ?_) (fun ht => ?_)); (focus (go_simp; done)); (all_goals (simp [go_sem] at ht; replace ht := ht.out))))
    refine vdrawQ 12 3 11 0 (fun i => [.osl 0, I (r : Int), .sl 1 [[I (r : Int)]], .any, .vp [.sl 1 (n.places.map txtA), .sl 5 (n.roads.map Rd.av)], .vp [.sl 5 (n.roads.map Rd.av)], .sl 5 (n.roads.map Rd.av), I (r : Int), .vp RR.av, .vp [I RR.src, I RR.dst, I RR.metres, .sl 3 (RR.pts.map Pt.av)], I (F : Int)].getD i .any) [some (.arr 3 1 false (O.map intA ++ [[I (r : Int)]]))] (by kernel_rfl) (by kernel_rfl) (by kernel_rfl) rfl rfl rfl ⟨rfl, rfl⟩ ?_ ?_ ?_
    · intro s hs
      simp [Op.operands, Call.operands, lookQ, lastPr] at hs
      obtain ⟨hs1, hs2⟩ := hs
      unfold tailOp
      simp [hs1, hs2, go_sem]
      omega
    · intro i hi hc hm o ho bb hb E hE hv
      have hcs : i = 0 ∨ i = 1 ∨ i = 2 ∨ i = 4 ∨ i = 5 ∨ i = 6 ∨ i = 7 ∨ i = 8 ∨ i = 9 ∨ i = 10 := by omega
      rcases hcs with rfl | rfl | rfl | rfl | rfl | rfl | rfl | rfl | rfl | rfl
      all_goals
        simp only [List.getElem?_cons_succ, List.getElem?_cons_zero, Option.some.injEq] at ho
        subst ho
        simp [Op.operands, lookQ, lastPr, lkp] at hE
        clear hi hc hm hv
      · cases bb
        · simp [pgQ] at hE ⊢
          exact hE
        · exact absurd (hb rfl) (by simp only [Bool.not_eq_false]; kernel_rfl)
      · cases bb
        · simp [pgQ] at hE ⊢
          exact hE
        · exact absurd (hb rfl) (by simp only [Bool.not_eq_false]; kernel_rfl)
      · cases bb
        · simp [pgQ] at hE ⊢
          simp [Gives, hE, go_sem]
        · exact absurd (hb rfl) (by simp only [Bool.not_eq_false]; kernel_rfl)
      all_goals
        clear hb
        cases bb <;> simp [pgQ, purge, noOsl] at hE ⊢ <;> simp [Gives, hE, go_sem] <;> first | exact hr3 | (rw [if_pos hr1, List.getElem?_eq_getElem hr1, ← rdat_get hr1, hRR]; rfl)
    · simp only [endQ, List.range, List.range.loop, List.getElem?_cons_succ, List.getElem?_cons_zero, List.drop]
      repeat' (first | (with_reducible first | refine vseq ?_ | refine vthenN ?_ | refine vthenE ?_ | refine vthenR ?_ | refine vret ?_ | refine vskip ?_ | refine vexit ?_ | refine vblock ?_ | refine vblockN ?_ | refine vblockR ?_ | refine vblockH ?_ | refine vrun_nil ?_ | refine vblockE rfl ?_ | refine vregion [] ?_ | refine vhrun_nil ?_) | ((with_reducible refine vcondT ?_ ?_); (focus (go_simp; done))) | ((with_reducible refine vcondF ?_ ?_); (focus (go_simp; done))) | ((with_reducible first | refine vrun_cons fun KK hKK => ?_ | refine vhrun_cons fun KK hKK => ?_); go_simp; refine hKK _ ?_; clear hKK KK) | ((with_reducible refine vcondS ?_ (fun ht => ?_) (fun ht => ?_)); (focus (go_simp; done)); (all_goals (simp [go_sem] at ht; replace ht := ht.out))))
      refine hK _ (x + 1) (by omega) (by omega) ?_
      rw [HS.out, HF.out]
      go_simp
  · obtain rfl : x = 2 := by omega
    have e := HH.out.stop
    have o := HO.out
    have g := y_Reverse a b
    rw [e, o]
    clear e o
    repeat' (first | (with_reducible first | refine vseq ?_ | refine vthenN ?_ | refine vthenE ?_ | refine vthenR ?_ | refine vret ?_ | refine vskip ?_ | refine vexit ?_ | refine vblock ?_ | refine vblockN ?_ | refine vblockR ?_ | refine vblockH ?_ | refine vrun_nil ?_ | refine vblockE rfl ?_ | refine vhrun_nil ?_) | ((with_reducible refine vcondT ?_ ?_); (focus (go_simp; done))) | ((with_reducible refine vcondF ?_ ?_); (focus (go_simp; done))) | ((with_reducible first | refine vrun_cons fun KK hKK => ?_ | refine vhrun_cons fun KK hKK => ?_); go_simp; refine hKK _ ?_; clear hKK KK) | ((with_reducible refine vcondS ?_ (fun ht => ?_) (fun ht => ?_)); (focus (go_simp; done)); (all_goals (simp [go_sem] at ht; replace ht := ht.out))))
    refine vregion [] ?_
    repeat' (first | (with_reducible first | refine vseq ?_ | refine vthenN ?_ | refine vthenE ?_ | refine vthenR ?_ | refine vret ?_ | refine vskip ?_ | refine vexit ?_ | refine vblock ?_ | refine vblockN ?_ | refine vblockR ?_ | refine vblockH ?_ | refine vrun_nil ?_ | refine vblockE rfl ?_ | refine vhrun_nil ?_) | ((with_reducible refine vcondT ?_ ?_); (focus (go_simp; done))) | ((with_reducible refine vcondF ?_ ?_); (focus (go_simp; done))) | ((with_reducible first | refine vrun_cons fun KK hKK => ?_ | refine vhrun_cons fun KK hKK => ?_); go_simp; refine hKK _ ?_; clear hKK KK) | ((with_reducible refine vcondS ?_ (fun ht => ?_) (fun ht => ?_)); (focus (go_simp; done)); (all_goals (simp [go_sem] at ht; replace ht := ht.out))))
    refine vregionL (vl_run [] 1 ⟨rfl, rfl⟩ ?_)
    simp only [List.take, List.drop]
    repeat' (first | (with_reducible first | refine vseq ?_ | refine vthenN ?_ | refine vthenE ?_ | refine vthenR ?_ | refine vret ?_ | refine vskip ?_ | refine vexit ?_ | refine vblock ?_ | refine vblockN ?_ | refine vblockR ?_ | refine vblockH ?_ | refine vrun_nil ?_ | refine vblockE rfl ?_ | refine vhrun_nil ?_) | ((with_reducible refine vcondT ?_ ?_); (focus (go_simp; done))) | ((with_reducible refine vcondF ?_ ?_); (focus (go_simp; done))) | ((with_reducible first | refine vrun_cons fun KK hKK => ?_ | refine vhrun_cons fun KK hKK => ?_); go_simp; refine hKK _ ?_; clear hKK KK) | ((with_reducible refine vcondS ?_ (fun ht => ?_) (fun ht => ?_)); (focus (go_simp; done)); (all_goals (simp [go_sem] at ht; replace ht := ht.out))))
    refine vl_call [0] [] [0] [some (.arr 3 1 false [[I b], [I a]])] (.tup []) rfl (by go_simp) ?_ ?_
    · unfold HCall
      go_simp
      refine ⟨_, _, _, g, ?_⟩
      go_simp
      kernel_rfl
    · go_simp
      refine vl_nil ?_
      repeat' (first | (with_reducible first | refine vseq ?_ | refine vthenN ?_ | refine vthenE ?_ | refine vthenR ?_ | refine vret ?_ | refine vskip ?_ | refine vexit ?_ | refine vblock ?_ | refine vblockN ?_ | refine vblockR ?_ | refine vblockH ?_ | refine vrun_nil ?_ | refine vblockE rfl ?_ | refine vregion [] ?_ | refine vhrun_nil ?_) | ((with_reducible refine vcondT ?_ ?_); (focus (go_simp; done))) | ((with_reducible refine vcondF ?_ ?_); (focus (go_simp; done))) | ((with_reducible first | refine vrun_cons fun KK hKK => ?_ | refine vhrun_cons fun KK hKK => ?_); go_simp; refine hKK _ ?_; clear hKK KK) | ((with_reducible refine vcondS ?_ (fun ht => ?_) (fun ht => ?_)); (focus (go_simp; done)); (all_goals (simp [go_sem] at ht; replace ht := ht.out))))
      exact ⟨0, rfl, rfl⟩
end Go.Proofs.Ytcndlalhkkjocaa

/-! SYS: Walks on plain values: the examples of chapter 3 are so; no condition. -/
namespace Go.Proofs.Ytcndlalhkkjocaa
open Go.RowKit
set_option maxRecDepth 100000
set_option maxHeartbeats 1000000
def exN : Nt := ⟨[⟨#[97]⟩, ⟨#[98]⟩, ⟨#[99]⟩], [⟨⟨#[120]⟩, 0, 1, 1000, [⟨0, 100, 200⟩, ⟨3600, 700, 800⟩]⟩, ⟨⟨#[121]⟩, 1, 2, 500, [⟨0, 60, 90⟩]⟩, ⟨⟨#[122]⟩, 0, 2, 2000, [⟨0, 900, 900⟩]⟩]⟩
theorem isName_size {s : ByteArray} (h : isName s = true) : s.size ≤ 12 := by
  unfold isName at h
  simp only [Bool.and_eq_true, decide_eq_true_eq] at h
  omega
theorem RightNet.smallN {n : Nt} (h : RightNet n) : SmallN n :=
  ⟨by have := h.p20; omega, by have := h.r60; omega, fun k hk => by have := isName_size (h.names k hk); omega, fun k hk => by have := isName_size (h.road k hk).name; omega, fun k hk => by have := (h.road k hk).pts.few; omega⟩
theorem ex_right : RightNet exN := netE_zero (by kernel_rfl)
theorem y_Net : VC Try.prog 16 [] (netA exN) := by
  refine VC_of Try.func16 rfl (by kernel_rfl) (by kernel_rfl) rfl fun M0 w0 => ?_
  simp only [Try.ntmps16, Try.results16, enumA]
  repeat' (first | (with_reducible first | refine vseq ?_ | refine vthenN ?_ | refine vthenE ?_ | refine vthenR ?_ | refine vret ?_ | refine vskip ?_ | refine vexit ?_ | refine vblock ?_ | refine vblockN ?_ | refine vblockR ?_ | refine vblockH ?_ | refine vrun_nil ?_ | refine vblockE rfl ?_ | refine vregion [] ?_ | refine vhrun_nil ?_) | ((with_reducible refine vcondT ?_ ?_); (focus (go_simp; done))) | ((with_reducible refine vcondF ?_ ?_); (focus (go_simp; done))) | ((with_reducible first | refine vrun_cons fun KK hKK => ?_ | refine vhrun_cons fun KK hKK => ?_); go_simp; refine hKK _ ?_; clear hKK KK) | ((with_reducible refine vcondS ?_ (fun ht => ?_) (fun ht => ?_)); (focus (go_simp; done)); (all_goals (simp [go_sem] at ht; replace ht := ht.out))))
  go_simp
  exact ⟨rfl, rfl⟩
theorem grow_two {n : Nt} {al : Rd → Int → Int} {num : Int} {M a : Nat} {s : Gs} (h3 : decide (2 ≤ growN n num M a) = true)
    (h1 : roundG n al n.roads.length ⟨lab0 n.places.length a num, List.replicate n.places.length (-1), false⟩ = ⟨s.L, s.W, true⟩) (h2 : roundG n al n.roads.length ⟨s.L, s.W, false⟩ = ⟨s.L, s.W, false⟩) : growL n al num M a = (s.L, s.W) := by
  obtain ⟨k, hk⟩ : ∃ k, growN n num M a = k + 2 := ⟨growN n num M a - 2, by have := of_decide_eq_true h3; omega⟩
  unfold growL
  rw [hk, growF, h1, if_pos rfl]
  simp only
  rw [growF, h2, if_neg (by simp)]
theorem ex_M : growL exN alM 0 100000 0 = ([0, 1000, 1500], [-1, 0, 1]) := grow_two (s := ⟨[0, 1000, 1500], [-1, 0, 1], true⟩) (by kernel_rfl) (by kernel_rfl) (by kernel_rfl)
theorem ex_lo : growL exN (alT false) 0 7200 0 = ([0, 100, 160], [-1, 0, 1]) := grow_two (s := ⟨[0, 100, 160], [-1, 0, 1], true⟩) (by kernel_rfl) (by kernel_rfl) (by kernel_rfl)
theorem ex_hi : growL exN (alT true) 0 7200 0 = ([0, 200, 290], [-1, 0, 1]) := grow_two (s := ⟨[0, 200, 290], [-1, 0, 1], true⟩) (by kernel_rfl) (by kernel_rfl) (by kernel_rfl)
theorem y_exE : VC Try.prog 11 [netA exN, tripA ⟨0, 2, 0⟩] (.tup [.agg [I 160, I 290], I 0]) := by
  have g := y_Estimate exN ⟨0, 2, 0⟩ ex_right ex_right.smallN (by kernel_rfl)
  have e : estE exN ⟨0, 2, 0⟩ = ((160, 290), 0) := by
    unfold estE loL hiL
    show (if iat (growL exN (alT false) 0 7200 0).1 2 = -1 then _ else ((iat (growL exN (alT false) 0 7200 0).1 2, iat (growL exN (alT true) 0 7200 0).1 2), 0)) = _
    rw [ex_lo, ex_hi]
    rfl
  rw [e] at g
  exact g
theorem y_exS : VC Try.prog 17 [netA exN, I 0, I 2] (.tup [intsA [0, 1], I 1500, I 0]) := by
  have hs := ex_right.smallN
  have g1 := y_open exN ex_right hs
  have g2 : VC Try.prog 31 [snetA exN, I 0] (I 0) := y_placeErr exN 0 hs.p
  have g3 : VC Try.prog 31 [snetA exN, I 2] (I 0) := y_placeErr exN 2 hs.p
  have e3 : VC Try.prog 29 [.sl 1 ([0, 0, 0].map intA)] (I 0) := p_first [0, 0, 0] (by decide)
  have g4 := y_heights exN 0 ex_right (by decide)
  rw [ex_M] at g4
  have g5 := VC_of_own (y_way exN [0, 1000, 1500] [-1, 0, 1] (fun x => [1, 0, -1].getD x 0) (fun x => [2, 1, 0].getD x 0) 1 0 ⟨fun x hx => by
    have : x = 0 ∨ x = 1 := by omega
    rcases this with rfl | rfl
    · exact ⟨1, by decide, rfl, rfl⟩
    · exact ⟨0, by decide, rfl, rfl⟩, fun x hx => by
    have : x = 0 ∨ x = 1 ∨ x = 2 := by omega
    rcases this with rfl | rfl | rfl <;> exact ⟨by decide, rfl⟩, rfl⟩ (by decide) (by decide) rfl)
  generalize exN = n at *
  clear hs
  refine VC_of Try.func17 rfl (by kernel_rfl) (by kernel_rfl) rfl fun M0 w0 => ?_
  simp only [Try.ntmps17, Try.results17, enumA]
  repeat' (first | (with_reducible first | refine vseq ?_ | refine vthenN ?_ | refine vthenE ?_ | refine vthenR ?_ | refine vret ?_ | refine vskip ?_ | refine vexit ?_ | refine vblock ?_ | refine vblockN ?_ | refine vblockR ?_ | refine vblockH ?_ | refine vrun_nil ?_ | refine vblockE rfl ?_ | refine vregion [] ?_ | refine vhrun_nil ?_) | ((with_reducible refine vcondT ?_ ?_); (focus (go_simp; done))) | ((with_reducible refine vcondF ?_ ?_); (focus (go_simp; done))) | ((with_reducible first | refine vrun_cons fun KK hKK => ?_ | refine vhrun_cons fun KK hKK => ?_); go_simp; (first | (refine ⟨_, g1, ?_⟩) | (refine ⟨_, g2, ?_⟩) | (refine ⟨_, g3, ?_⟩) | (refine ⟨_, e3, ?_⟩) | (refine ⟨_, g4, ?_⟩) | (refine ⟨_, g5, ?_⟩) | skip); refine hKK _ ?_; clear hKK KK) | ((refine vdrawL 10 9 [] rfl (by kernel_rfl) (by kernel_rfl) ?_); simp only [List.take, List.drop]) | ((refine vdrawL 12 12 [] rfl (by kernel_rfl) (by kernel_rfl) ?_); simp only [List.take, List.drop]) | ((with_reducible refine vcondS ?_ (fun ht => ?_) (fun ht => ?_)); (focus (go_simp; done)); (all_goals (simp [go_sem] at ht; replace ht := ht.out))))
  go_simp
theorem y_streeted : VC Try.prog 5 [] (B true) := by
  have g1 := y_Net
  have g2 := y_exE
  have g3 := y_exS
  generalize exN = n at *
  refine VC_of Try.func5 rfl (by kernel_rfl) (by kernel_rfl) rfl fun M0 w0 => ?_
  simp only [Try.ntmps5, Try.results5, enumA]
  repeat' (first | (with_reducible first | refine vseq ?_ | refine vthenN ?_ | refine vthenE ?_ | refine vthenR ?_ | refine vret ?_ | refine vskip ?_ | refine vexit ?_ | refine vblock ?_ | refine vblockN ?_ | refine vblockR ?_ | refine vblockH ?_ | refine vrun_nil ?_ | refine vblockE rfl ?_ | refine vregion [] ?_ | refine vhrun_nil ?_) | ((with_reducible refine vcondT ?_ ?_); (focus (go_simp; done))) | ((with_reducible refine vcondF ?_ ?_); (focus (go_simp; done))) | ((with_reducible first | refine vrun_cons fun KK hKK => ?_ | refine vhrun_cons fun KK hKK => ?_); go_simp; (first | (with_reducible refine ⟨_, g1, ?_⟩) | (refine ⟨_, g2, ?_⟩) | (refine ⟨_, g3, ?_⟩) | skip); refine hKK _ ?_; clear hKK KK) | ((with_reducible refine vcondS ?_ (fun ht => ?_) (fun ht => ?_)); (focus (go_simp; done)); (all_goals (simp [go_sem] at ht; replace ht := ht.out))) | ((apply vrun_consG0 rfl); (focus (go_simp <;> exact rfl)); (focus (go_simp; done)); (focus (intro hb0; replace hb0 := hb0.out; go_simp <;> (first | exact rfl | exact g1 | exact g2 | exact g3 | exact ⟨g1, rfl⟩ | exact ⟨g2, rfl⟩ | exact ⟨g3, rfl⟩))); intro KK hKK; go_simp; refine hKK _ ?_; clear hKK KK))
  go_simp
end Go.Proofs.Ytcndlalhkkjocaa

/-! SYW: The top law of chapter 3 on examinations: true whatever the input is. -/
namespace Go.Proofs.Ytcndlalhkkjocaa
open Go.RowKit
set_option maxRecDepth 100000
set_option maxHeartbeats 1000000
/-- The least metres of the first k roads from a place to another one, or -1. -/
def minM (n : Nt) (a b : Int) : Nat → Int
  | 0 => -1
  | k + 1 => if (rdat n.roads k).src = a ∧ (rdat n.roads k).dst = b ∧ (minM n a b k = -1 ∨ (rdat n.roads k).metres < minM n a b k) then (rdat n.roads k).metres else minM n a b k
theorem minM_spec {n : Nt} (h : RightNet n) (a b : Int) : ∀ k, k ≤ n.roads.length → minM n a b k = -1 ∨ (0 ≤ minM n a b k ∧ minM n a b k ≤ 100000 ∧ ∃ i, i < k ∧ (rdat n.roads i).src = a ∧ (rdat n.roads i).dst = b ∧ (rdat n.roads i).metres = minM n a b k)
  | 0, _ => .inl rfl
  | k + 1, hk => by
    rw [minM]
    split
    · rename_i hc
      have := (h.road k (by omega)).metres
      exact .inr ⟨this.1, this.2, k, by omega, hc.1, hc.2.1, rfl⟩
    · rcases minM_spec h a b k (by omega) with h1 | ⟨h1, h2, i, h3, h4⟩
      · exact .inl h1
      · exact .inr ⟨h1, h2, i, by omega, h4⟩
def leg (n : Nt) (xs : List Int) (j : Nat) : Int := minM n (iat xs j) (iat xs (j + 1)) n.roads.length
def legBad (n : Nt) (xs : List Int) (j : Nat) : Bool := decide (leg n xs j = -1)
def told (n : Nt) (xs : List Int) : Nat → Int
  | 0 => 0
  | k + 1 => told n xs k + leg n xs k
@[go_sem] theorem told_0 (n : Nt) (xs : List Int) : told n xs 0 = 0 := rfl
@[go_sem] theorem minM_0 (n : Nt) (a b : Int) : minM n a b 0 = -1 := rfl
def plBad (n : Nt) (xs : List Int) (j : Nat) : Bool := !isPl n (iat xs j)
def leastF (n : Nt) (xs : List Int) : Int := iat (growL n alM 0 100000 (iat xs 0).toNat).1 (iat xs (xs.length - 1)).toNat
def passF (m t l : Int) : Bool := decide (1000 * t ≤ (1000 + m) * l)
structure ExR where
  told : Int
  least : Int
  passed : Bool
  err : Int
def exR (n : Nt) (xs : List Int) (m : Int) : ExR :=
  if xs.length ≤ 1 then ⟨0, 0, false, 10⟩ else if anyP (plBad n xs) 0 xs.length = true then ⟨0, 0, false, 6⟩ else if anyP (legBad n xs) 0 (xs.length - 1) = true then ⟨0, 0, false, 23⟩ else
  ⟨told n xs (xs.length - 1), leastF n xs, passF m (told n xs (xs.length - 1)) (leastF n xs), 0⟩
theorem no_anyP {p : Nat → Bool} {m : Nat} (h : anyP p 0 m = false) : ∀ j, j < m → p j = false := fun j hj => by
  cases hc : p j
  · rfl
  · rw [anyP_hit hj hc] at h
    cases h
theorem told_rng {n : Nt} (h : RightNet n) {xs : List Int} {m : Nat} (hb : ∀ j, j < m → legBad n xs j = false) : ∀ k, k ≤ m → 0 ≤ told n xs k ∧ told n xs k ≤ 100000 * (k : Int)
  | 0, _ => by simp [told]
  | k + 1, hk => by
    have h1 := told_rng h hb k (by omega)
    have h2 : leg n xs k ≠ -1 := of_decide_eq_false (hb k (by omega))
    have h3 := (minM_spec h (iat xs k) (iat xs (k + 1)) n.roads.length (Nat.le_refl _)).resolve_left h2
    rw [told]
    unfold leg
    omega
/-- The least metres are no more than those that are told. -/
theorem told_ge {n : Nt} (h : RightNet n) {xs : List Int} (hx : ∀ j, j < xs.length → plBad n xs j = false) (hb : ∀ j, j < xs.length - 1 → legBad n xs j = false) {L : List Int} {a : Nat} (ha : iat xs 0 = (a : Int)) (hL : Labels n alM 0 100000 a L) :
    ∀ k, k ≤ xs.length - 1 → iat L (iat xs k).toNat ≠ -1 ∧ iat L (iat xs k).toNat ≤ told n xs k
  | 0, _ => by
    rw [ha, Int.toNat_natCast]
    exact hL.src
  | k + 1, hk => by
    obtain ⟨h1, h2⟩ := told_ge h hx hb ha hL k (by omega)
    have h3 : leg n xs k ≠ -1 := of_decide_eq_false (hb k (by omega))
    obtain ⟨g1, g2, i, g3, g4, g5, g6⟩ := (minM_spec h (iat xs k) (iat xs (k + 1)) n.roads.length (Nat.le_refl _)).resolve_left h3
    have f := hL.fix i g3
    rw [g4, g5] at f
    obtain ⟨f1, f2⟩ := f h1
    refine ⟨f1, ?_⟩
    unfold alM at f2
    rw [told]
    have : leg n xs k = (rdat n.roads i).metres := g6.symm
    omega
theorem exR_ok {n : Nt} (_h : RightNet n) (xs : List Int) (m : Int) : (exR n xs m).err = 0 → (∀ j, j < xs.length → plBad n xs j = false) ∧ (∀ j, j < xs.length - 1 → legBad n xs j = false) ∧ ¬ xs.length ≤ 1 ∧ (exR n xs m).told = told n xs (xs.length - 1) ∧ (exR n xs m).least = leastF n xs ∧ (exR n xs m).passed = passF m (told n xs (xs.length - 1)) (leastF n xs) := fun he => by
  unfold exR at he ⊢
  split at he; · cases he
  rename_i a1
  split at he; · cases he
  rename_i a2
  split at he; · cases he
  rename_i a3
  rw [if_neg a1, if_neg a2, if_neg a3]
  exact ⟨no_anyP (by simpa using a2), no_anyP (by simpa using a3), a1, rfl, rfl, rfl⟩
theorem pl_in {n : Nt} {xs : List Int} {j : Nat} (h : plBad n xs j = false) : 0 ≤ iat xs j ∧ iat xs j < n.places.length := by
  unfold plBad isPl at h
  have := inR_iff.1 (by simpa using h)
  omega
theorem leg_lab {n : Nt} (h : RightNet n) {xs : List Int} (hl : ¬ xs.length ≤ 1) (hx : ∀ j, j < xs.length → plBad n xs j = false) (hb : ∀ j, j < xs.length - 1 → legBad n xs j = false) : 0 ≤ leastF n xs ∧ leastF n xs ≤ 1900000 ∧ leastF n xs ≤ told n xs (xs.length - 1) := by
  have p0 := pl_in (hx 0 (by omega))
  have p1 := pl_in (hx (xs.length - 1) (by omega))
  have hL := (growL_ok (along_M h) (a := (iat xs 0).toNat) (by omega)).1
  have h1 := told_ge h hx hb (a := (iat xs 0).toNat) (by omega) hL (xs.length - 1) (Nat.le_refl _)
  have h2 := (hL.rng (iat xs (xs.length - 1)).toNat (by omega)).resolve_left h1.1
  unfold leastF
  omega
theorem pass_more {m k t l : Int} (hk : 0 ≤ k) (hl : 0 ≤ l) (h : passF m t l = true) : passF (m + k) t l = true := by
  unfold passF at h ⊢
  have h := of_decide_eq_true h
  have h2 := Int.mul_nonneg hk hl
  have e : (1000 + (m + k)) * l = (1000 + m) * l + k * l := by rw [← Int.add_mul]; congr 1; omega
  exact decide_eq_true (by omega)
abbrev examA (xs : List Int) (m : Int) : AV := .agg [intsA xs, I m]
theorem y_Examined (n : Nt) (xs : List Int) (m : Int) (h : RightNet n) (hx12 : xs.length ≤ 12) (m0 : 0 ≤ m) (m1 : m ≤ 1000) :
    VC Try.prog 14 [netA n, examA xs m] (.tup [.agg [I (exR n xs m).told, I (exR n xs m).least, B (exR n xs m).passed], I (exR n xs m).err]) := by
  have hs := h.smallN
  have g1 := y_open n h hs
  obtain ⟨R, hR⟩ : ∃ R, exR n xs m = R := ⟨_, rfl⟩
  rw [hR]
  unfold exR at hR
  have HR := Lib.hid hR
  have HH := Lib.hid h
  have hp1 := hs.p
  have hr1 := hs.r
  clear h hR hs
  have e10 : VC Try.prog 30 [B false, I 10] (I 10) := p_unless false 10
  have o10 := y_ok 10
  have o8 := y_ok 8
  have f1 : VC Try.prog 29 [.sl 1 ([0, 10, 0].map intA)] (I 10) := p_first [0, 10, 0] (by decide)
  have f0 : VC Try.prog 29 [.sl 1 ([0, 0, 0].map intA)] (I 0) := p_first [0, 0, 0] (by decide)
  have d2 : (xs.length : Int) ≤ 200 := by omega
  by_cases hl : xs.length ≤ 1
  · have e := HR.out
    rw [if_pos hl] at e
    subst e
    have d1 : ¬ (1 : Int) < (xs.length : Int) := by omega
    have d1n : ¬ 1 < xs.length := by omega
    clear hl
    refine VC_of Try.func14 rfl (by kernel_rfl) (by kernel_rfl) rfl fun M0 w0 => ?_
    simp only [Try.ntmps14, Try.results14, enumA]
    repeat' (first | (with_reducible first | refine vseq ?_ | refine vthenN ?_ | refine vthenE ?_ | refine vthenR ?_ | refine vret ?_ | refine vskip ?_ | refine vexit ?_ | refine vblock ?_ | refine vblockN ?_ | refine vblockR ?_ | refine vblockH ?_ | refine vrun_nil ?_ | refine vblockE rfl ?_ | refine vregion [] ?_ | refine vhrun_nil ?_) | ((with_reducible refine vcondT ?_ ?_); (focus (go_simp; done))) | ((with_reducible refine vcondF ?_ ?_); (focus (go_simp; done))) | ((with_reducible first | refine vrun_cons fun KK hKK => ?_ | refine vhrun_cons fun KK hKK => ?_); go_simp; (first | (with_reducible refine ⟨_, g1, ?_⟩) | (with_reducible refine ⟨_, e10, ?_⟩) | (with_reducible refine ⟨_, o8, ?_⟩) | (refine ⟨_, f1, ?_⟩) | skip); refine hKK _ ?_; clear hKK KK) | ((refine vdrawL 14 13 [] rfl (by kernel_rfl) (by kernel_rfl) ?_); simp only [List.take, List.drop]) | ((refine vdrawL 16 15 [] rfl (by kernel_rfl) (by kernel_rfl) ?_); simp only [List.append, List.take, List.drop]) | ((refine vdrawL 25 25 [] rfl (by kernel_rfl) (by kernel_rfl) ?_); simp only [List.append, List.take, List.drop]) | ((with_reducible refine vcondS ?_ (fun ht => ?_) (fun ht => ?_)); (focus (go_simp; done)); (all_goals (simp [go_sem] at ht; replace ht := ht.out))) | ((apply vrun_consG0 rfl); (focus (go_simp <;> exact rfl)); (focus (go_simp; done)); (focus (intro hb0; replace hb0 := hb0.out; go_simp <;> (first | exact rfl | exact g1 | exact e10 | exact o8 | exact f1 | exact ⟨g1, rfl⟩ | exact ⟨e10, rfl⟩ | exact ⟨o8, rfl⟩ | exact ⟨f1, rfl⟩))); intro KK hKK; go_simp; refine hKK _ ?_; clear hKK KK) | ((apply vhrun_consG0 rfl); (focus (go_simp <;> exact rfl)); (focus (intro hb0; replace hb0 := hb0.out; go_simp <;> (first | exact rfl | exact g1 | exact e10 | exact o8 | exact f1 | exact ⟨g1, rfl⟩ | exact ⟨e10, rfl⟩ | exact ⟨o8, rfl⟩ | exact ⟨f1, rfl⟩))); intro KK hKK; go_simp; refine hKK _ ?_; clear hKK KK) | ((apply vrun_consG1 rfl); (focus (go_simp <;> exact rfl)); (focus (go_simp; done)); (focus (intro hb0 hb1; replace hb0 := hb0.out; replace hb1 := hb1.out; go_simp <;> (first | exact rfl | exact g1 | exact e10 | exact o8 | exact f1 | exact ⟨g1, rfl⟩ | exact ⟨e10, rfl⟩ | exact ⟨o8, rfl⟩ | exact ⟨f1, rfl⟩))); intro KK hKK; go_simp; refine hKK _ ?_; clear hKK KK) | ((apply vhrun_consG1 rfl); (focus (go_simp <;> exact rfl)); (focus (intro hb0 hb1; replace hb0 := hb0.out; replace hb1 := hb1.out; go_simp <;> (first | exact rfl | exact g1 | exact e10 | exact o8 | exact f1 | exact ⟨g1, rfl⟩ | exact ⟨e10, rfl⟩ | exact ⟨o8, rfl⟩ | exact ⟨f1, rfl⟩))); intro KK hKK; go_simp; refine hKK _ ?_; clear hKK KK))
    go_simp
  have e := HR.out
  rw [if_neg hl] at e
  obtain ⟨q, hq⟩ : ∃ q, xs.length = q + 1 := ⟨xs.length - 1, by omega⟩
  rw [hq, Nat.add_sub_cancel] at e
  have HR := Lib.hid e
  clear e
  rw [hq] at hl hx12 d2
  have c1 : 0 < q := by omega
  have c2 : (0 : Int) < (q : Int) := by omega
  have c3 : (1 : Int) < (q : Int) + 1 := by omega
  have c4 : ¬ q = 0 := by omega
  have c5 : (q : Int) + 1 ≤ 200 := by omega
  have c6 : min q (q + 1) = q := by omega
  have g2 := p_within m 0 1000
  rw [inR_ok m0 m1] at g2
  obtain ⟨q1, q2, q3, q4, q5, q6⟩ := ixs (m := q) (by omega)
  clear hl d2
  refine VC_of Try.func14 rfl (by kernel_rfl) (by kernel_rfl) rfl fun M0 w0 => ?_
  simp only [Try.ntmps14, Try.results14, enumA]
  repeat' (first | (with_reducible first | refine vseq ?_ | refine vthenN ?_ | refine vthenE ?_ | refine vthenR ?_ | refine vret ?_ | refine vskip ?_ | refine vexit ?_ | refine vblock ?_ | refine vblockN ?_ | refine vblockR ?_ | refine vblockH ?_ | refine vrun_nil ?_ | refine vblockE rfl ?_ | refine vregion [] ?_ | refine vhrun_nil ?_) | ((with_reducible refine vcondT ?_ ?_); (focus (go_simp; done))) | ((with_reducible refine vcondF ?_ ?_); (focus (go_simp; done))) | ((with_reducible first | refine vrun_cons fun KK hKK => ?_ | refine vhrun_cons fun KK hKK => ?_); go_simp; (first | (with_reducible refine ⟨_, g1, ?_⟩) | (with_reducible refine ⟨_, o10, ?_⟩) | (with_reducible refine ⟨_, o8, ?_⟩) | (refine ⟨_, f0, ?_⟩) | skip); refine hKK _ ?_; clear hKK KK) | ((refine vdrawL 14 13 [] rfl (by kernel_rfl) (by kernel_rfl) ?_); simp only [List.take, List.drop]) | ((refine vdrawL 16 15 [] rfl (by kernel_rfl) (by kernel_rfl) ?_); simp only [List.append, List.take, List.drop]) | ((refine vdrawL 25 25 [] rfl (by kernel_rfl) (by kernel_rfl) ?_); simp only [List.append, List.take, List.drop]) | ((with_reducible refine vcondS ?_ (fun ht => ?_) (fun ht => ?_)); (focus (go_simp; done)); (all_goals (simp [go_sem] at ht; replace ht := ht.out))) | ((apply vrun_consG0 rfl); (focus (go_simp <;> exact rfl)); (focus (go_simp; done)); (focus (intro hb0; replace hb0 := hb0.out; go_simp <;> (first | exact rfl | exact g1 | exact o10 | exact o8 | exact f0 | exact ⟨g1, rfl⟩ | exact ⟨o10, rfl⟩ | exact ⟨o8, rfl⟩ | exact ⟨f0, rfl⟩))); intro KK hKK; go_simp; refine hKK _ ?_; clear hKK KK) | ((apply vhrun_consG0 rfl); (focus (go_simp <;> exact rfl)); (focus (intro hb0; replace hb0 := hb0.out; go_simp <;> (first | exact rfl | exact g1 | exact o10 | exact o8 | exact f0 | exact ⟨g1, rfl⟩ | exact ⟨o10, rfl⟩ | exact ⟨o8, rfl⟩ | exact ⟨f0, rfl⟩))); intro KK hKK; go_simp; refine hKK _ ?_; clear hKK KK) | ((apply vrun_consG1 rfl); (focus (go_simp <;> exact rfl)); (focus (go_simp; done)); (focus (intro hb0 hb1; replace hb0 := hb0.out; replace hb1 := hb1.out; go_simp <;> (first | exact rfl | exact g1 | exact o10 | exact o8 | exact f0 | exact ⟨g1, rfl⟩ | exact ⟨o10, rfl⟩ | exact ⟨o8, rfl⟩ | exact ⟨f0, rfl⟩))); intro KK hKK; go_simp; refine hKK _ ?_; clear hKK KK) | ((apply vhrun_consG1 rfl); (focus (go_simp <;> exact rfl)); (focus (intro hb0 hb1; replace hb0 := hb0.out; replace hb1 := hb1.out; go_simp <;> (first | exact rfl | exact g1 | exact o10 | exact o8 | exact f0 | exact ⟨g1, rfl⟩ | exact ⟨o10, rfl⟩ | exact ⟨o8, rfl⟩ | exact ⟨f0, rfl⟩))); intro KK hKK; go_simp; refine hKK _ ?_; clear hKK KK))
  apply vfor [2, 3, 4, 6, 41, 42] (fun k => [(43, I (k : Int))]) (fun k => ([some (.box [I 0, I 0, B false]), some (.box [.sl 1 (n.places.map txtA), .sl 5 (n.roads.map Rd.av)])] : Hp)) (plBad n xs) (q + 1)
  · go_simp <;> exact rfl
  · go_simp
  · intro k hk hb hp K hK
    obtain ⟨v1, v2, v3, v4, v5, v6⟩ := ixs (m := k) (by omega)
    have hkx : k < xs.length := by omega
    have hki : (k : Int) < (q : Int) + 1 := by omega
    have g3 := y_placeErr n (iat xs k) hp1
    have hz : isPl n (iat xs k) = true := by have := hp.out; simpa [plBad] using this
    rw [hz] at g3
    replace g3 : VC Try.prog 31 [snetA n, I (iat xs k)] (I 0) := g3
    repeat' (first | (with_reducible first | refine vseq ?_ | refine vthenN ?_ | refine vthenE ?_ | refine vthenR ?_ | refine vret ?_ | refine vskip ?_ | refine vexit ?_ | refine vblock ?_ | refine vblockN ?_ | refine vblockR ?_ | refine vblockH ?_ | refine vrun_nil ?_ | refine vblockE rfl ?_ | refine vregion [] ?_ | refine vhrun_nil ?_) | ((with_reducible refine vcondT ?_ ?_); (focus (go_simp; done))) | ((with_reducible refine vcondF ?_ ?_); (focus (go_simp; done))) | ((with_reducible first | refine vrun_cons fun KK hKK => ?_ | refine vhrun_cons fun KK hKK => ?_); go_simp; (first | (with_reducible refine ⟨_, g3, ?_⟩) | skip); refine hKK _ ?_; clear hKK KK) | ((refine vdrawL 14 13 [] rfl (by kernel_rfl) (by kernel_rfl) ?_); simp only [List.append, List.take, List.drop]) | ((refine vdrawL 16 15 [] rfl (by kernel_rfl) (by kernel_rfl) ?_); simp only [List.append, List.take, List.drop]) | ((refine vdrawL 25 25 [] rfl (by kernel_rfl) (by kernel_rfl) ?_); simp only [List.append, List.take, List.drop]) | ((with_reducible refine vcondS ?_ (fun ht => ?_) (fun ht => ?_)); (focus (go_simp; done)); (all_goals (simp [go_sem] at ht; replace ht := ht.out))) | ((apply vrun_consG0 rfl); (focus (go_simp <;> exact rfl)); (focus (go_simp; done)); (focus (intro hb0; replace hb0 := hb0.out; go_simp <;> (first | exact rfl | exact g3 | exact ⟨g3, rfl⟩))); intro KK hKK; go_simp; refine hKK _ ?_; clear hKK KK) | ((apply vhrun_consG0 rfl); (focus (go_simp <;> exact rfl)); (focus (intro hb0; replace hb0 := hb0.out; go_simp <;> (first | exact rfl | exact g3 | exact ⟨g3, rfl⟩))); intro KK hKK; go_simp; refine hKK _ ?_; clear hKK KK) | ((apply vrun_consG1 rfl); (focus (go_simp <;> exact rfl)); (focus (go_simp; done)); (focus (intro hb0 hb1; replace hb0 := hb0.out; replace hb1 := hb1.out; go_simp <;> (first | exact rfl | exact g3 | exact ⟨g3, rfl⟩))); intro KK hKK; go_simp; refine hKK _ ?_; clear hKK KK) | ((apply vhrun_consG1 rfl); (focus (go_simp <;> exact rfl)); (focus (intro hb0 hb1; replace hb0 := hb0.out; replace hb1 := hb1.out; go_simp <;> (first | exact rfl | exact g3 | exact ⟨g3, rfl⟩))); intro KK hKK; go_simp; refine hKK _ ?_; clear hKK KK))
    refine hK _ ?_
    go_simp
  · intro k hk hb hp K
    obtain ⟨v1, v2, v3, v4, v5, v6⟩ := ixs (m := k) (by omega)
    have hkx : k < xs.length := by omega
    have hki : (k : Int) < (q : Int) + 1 := by omega
    have g3 := y_placeErr n (iat xs k) hp1
    have hz : isPl n (iat xs k) = false := by have := hp.out; simpa [plBad] using this
    rw [hz] at g3
    replace g3 : VC Try.prog 31 [snetA n, I (iat xs k)] (I 6) := g3
    have e := HR.out
    rw [if_pos (anyP_hit hk hp.out)] at e
    subst e
    repeat' (first | (with_reducible first | refine vseq ?_ | refine vthenN ?_ | refine vthenE ?_ | refine vthenR ?_ | refine vret ?_ | refine vskip ?_ | refine vexit ?_ | refine vblock ?_ | refine vblockN ?_ | refine vblockR ?_ | refine vblockH ?_ | refine vrun_nil ?_ | refine vblockE rfl ?_ | refine vregion [] ?_ | refine vhrun_nil ?_) | ((with_reducible refine vcondT ?_ ?_); (focus (go_simp; done))) | ((with_reducible refine vcondF ?_ ?_); (focus (go_simp; done))) | ((with_reducible first | refine vrun_cons fun KK hKK => ?_ | refine vhrun_cons fun KK hKK => ?_); go_simp; (first | (with_reducible refine ⟨_, g3, ?_⟩) | skip); refine hKK _ ?_; clear hKK KK) | ((refine vdrawL 14 13 [] rfl (by kernel_rfl) (by kernel_rfl) ?_); simp only [List.append, List.take, List.drop]) | ((refine vdrawL 16 15 [] rfl (by kernel_rfl) (by kernel_rfl) ?_); simp only [List.append, List.take, List.drop]) | ((refine vdrawL 25 25 [] rfl (by kernel_rfl) (by kernel_rfl) ?_); simp only [List.append, List.take, List.drop]) | ((with_reducible refine vcondS ?_ (fun ht => ?_) (fun ht => ?_)); (focus (go_simp; done)); (all_goals (simp [go_sem] at ht; replace ht := ht.out))) | ((apply vrun_consG0 rfl); (focus (go_simp <;> exact rfl)); (focus (go_simp; done)); (focus (intro hb0; replace hb0 := hb0.out; go_simp <;> (first | exact rfl | exact g3 | exact ⟨g3, rfl⟩))); intro KK hKK; go_simp; refine hKK _ ?_; clear hKK KK) | ((apply vhrun_consG0 rfl); (focus (go_simp <;> exact rfl)); (focus (intro hb0; replace hb0 := hb0.out; go_simp <;> (first | exact rfl | exact g3 | exact ⟨g3, rfl⟩))); intro KK hKK; go_simp; refine hKK _ ?_; clear hKK KK) | ((apply vrun_consG1 rfl); (focus (go_simp <;> exact rfl)); (focus (go_simp; done)); (focus (intro hb0 hb1; replace hb0 := hb0.out; replace hb1 := hb1.out; go_simp <;> (first | exact rfl | exact g3 | exact ⟨g3, rfl⟩))); intro KK hKK; go_simp; refine hKK _ ?_; clear hKK KK) | ((apply vhrun_consG1 rfl); (focus (go_simp <;> exact rfl)); (focus (intro hb0 hb1; replace hb0 := hb0.out; replace hb1 := hb1.out; go_simp <;> (first | exact rfl | exact g3 | exact ⟨g3, rfl⟩))); intro KK hKK; go_simp; refine hKK _ ?_; clear hKK KK))
    go_simp
  intro hb K
  have hpb := Lib.hid hb.out
  have e := HR.out
  rw [if_neg (by rw [anyP_out hb.out]; decide)] at e
  have HR := Lib.hid e
  clear e hb
  repeat' (first | (with_reducible first | refine vseq ?_ | refine vthenN ?_ | refine vthenE ?_ | refine vthenR ?_ | refine vret ?_ | refine vskip ?_ | refine vexit ?_ | refine vblock ?_ | refine vblockN ?_ | refine vblockR ?_ | refine vblockH ?_ | refine vrun_nil ?_ | refine vblockE rfl ?_ | refine vregion [] ?_ | refine vhrun_nil ?_) | ((with_reducible refine vcondT ?_ ?_); (focus (go_simp; done))) | ((with_reducible refine vcondF ?_ ?_); (focus (go_simp; done))) | ((with_reducible first | refine vrun_cons fun KK hKK => ?_ | refine vhrun_cons fun KK hKK => ?_); go_simp; (first | (with_reducible refine ⟨_, g2, ?_⟩) | skip); refine hKK _ ?_; clear hKK KK) | ((refine vdrawL 14 13 [] rfl (by kernel_rfl) (by kernel_rfl) ?_); simp only [List.append, List.take, List.drop]) | ((refine vdrawL 16 15 [] rfl (by kernel_rfl) (by kernel_rfl) ?_); simp only [List.append, List.take, List.drop]) | ((refine vdrawL 25 25 [] rfl (by kernel_rfl) (by kernel_rfl) ?_); simp only [List.append, List.take, List.drop]) | ((with_reducible refine vcondS ?_ (fun ht => ?_) (fun ht => ?_)); (focus (go_simp; done)); (all_goals (simp [go_sem] at ht; replace ht := ht.out))) | ((apply vrun_consG0 rfl); (focus (go_simp <;> exact rfl)); (focus (go_simp; done)); (focus (intro hb0; replace hb0 := hb0.out; go_simp <;> (first | exact rfl | exact g2 | exact ⟨g2, rfl⟩))); intro KK hKK; go_simp; refine hKK _ ?_; clear hKK KK) | ((apply vhrun_consG0 rfl); (focus (go_simp <;> exact rfl)); (focus (intro hb0; replace hb0 := hb0.out; go_simp <;> (first | exact rfl | exact g2 | exact ⟨g2, rfl⟩))); intro KK hKK; go_simp; refine hKK _ ?_; clear hKK KK) | ((apply vrun_consG1 rfl); (focus (go_simp <;> exact rfl)); (focus (go_simp; done)); (focus (intro hb0 hb1; replace hb0 := hb0.out; replace hb1 := hb1.out; go_simp <;> (first | exact rfl | exact g2 | exact ⟨g2, rfl⟩))); intro KK hKK; go_simp; refine hKK _ ?_; clear hKK KK) | ((apply vhrun_consG1 rfl); (focus (go_simp <;> exact rfl)); (focus (intro hb0 hb1; replace hb0 := hb0.out; replace hb1 := hb1.out; go_simp <;> (first | exact rfl | exact g2 | exact ⟨g2, rfl⟩))); intro KK hKK; go_simp; refine hKK _ ?_; clear hKK KK))
  apply vfor [2, 3, 4, 6, 11, 12, 67, 68] (fun k => [(69, I (k : Int))]) (fun k => ([some (.box [I 0, I 0, B false]), some (.box [.sl 1 (n.places.map txtA), .sl 5 (n.roads.map Rd.av)]), some (.box [I (told n xs k), I 0, B false])] : Hp)) (legBad n xs) (q)
  · go_simp <;> exact rfl
  · go_simp
  · intro k hk hb hp K hK
    obtain ⟨v1, v2, v3, v4, v5, v6⟩ := ixs (m := k) (by omega)
    have hkx : k < xs.length := by omega
    have hkx1 : k + 1 < xs.length := by omega
    have hki : (k : Int) < (q : Int) := by omega
    have hki1 : (k : Int) + 1 < (q : Int) + 1 := by omega
    have ht := told_rng HH.out (xs := xs) hb.out k (Nat.le_refl _)
    have hlg : leg n xs k ≠ -1 := of_decide_eq_false hp.out
    have hl2 := (minM_spec HH.out (iat xs k) (iat xs (k + 1)) n.roads.length (Nat.le_refl _)).resolve_left hlg
    have hs : told n xs (k + 1) = told n xs k + leg n xs k := rfl
    have hlr : 0 ≤ leg n xs k ∧ leg n xs k ≤ 100000 := ⟨hl2.1, hl2.2.1⟩
    have HLG := Lib.hid (show minM n (iat xs k) (iat xs (k + 1)) n.roads.length = leg n xs k from rfl)
    have HS := Lib.hid hs
    clear hs hl2
    generalize leg n xs k = lg at *
    generalize told n xs k = T at *
    have u1 := wrap_eq (x := T + lg) (by omega) (by omega)
    have hlg' : ¬ lg = -1 := hlg
    clear hlr ht hlg
    obtain ⟨a, ha⟩ : ∃ a, iat xs k = a := ⟨_, rfl⟩
    obtain ⟨b, hb'⟩ : ∃ b, iat xs (k + 1) = b := ⟨_, rfl⟩
    rw [ha, hb'] at HLG
    repeat' (first | (with_reducible first | refine vseq ?_ | refine vthenN ?_ | refine vthenE ?_ | refine vthenR ?_ | refine vret ?_ | refine vskip ?_ | refine vexit ?_ | refine vblock ?_ | refine vblockN ?_ | refine vblockR ?_ | refine vblockH ?_ | refine vrun_nil ?_ | refine vblockE rfl ?_ | refine vregion [] ?_ | refine vhrun_nil ?_) | ((with_reducible refine vcondT ?_ ?_); (focus (go_simp; done))) | ((with_reducible refine vcondF ?_ ?_); (focus (go_simp; done))) | ((with_reducible first | refine vrun_cons fun KK hKK => ?_ | refine vhrun_cons fun KK hKK => ?_); go_simp; refine hKK _ ?_; clear hKK KK) | ((refine vdrawL 14 13 [] rfl (by kernel_rfl) (by kernel_rfl) ?_); simp only [List.append, List.take, List.drop]) | ((refine vdrawL 16 15 [] rfl (by kernel_rfl) (by kernel_rfl) ?_); simp only [List.append, List.take, List.drop]) | ((refine vdrawL 25 25 [] rfl (by kernel_rfl) (by kernel_rfl) ?_); simp only [List.append, List.take, List.drop]) | ((with_reducible refine vcondS ?_ (fun ht => ?_) (fun ht => ?_)); (focus (go_simp; done)); (all_goals (simp [go_sem] at ht; replace ht := ht.out))) | ((apply vrun_consG0 rfl); (focus (go_simp <;> exact rfl)); (focus (go_simp; done)); (focus (intro hb0; replace hb0 := hb0.out; go_simp <;> (first | exact rfl))); intro KK hKK; go_simp; refine hKK _ ?_; clear hKK KK) | ((apply vhrun_consG0 rfl); (focus (go_simp <;> exact rfl)); (focus (intro hb0; replace hb0 := hb0.out; go_simp <;> (first | exact rfl))); intro KK hKK; go_simp; refine hKK _ ?_; clear hKK KK) | ((apply vrun_consG1 rfl); (focus (go_simp <;> exact rfl)); (focus (go_simp; done)); (focus (intro hb0 hb1; replace hb0 := hb0.out; replace hb1 := hb1.out; go_simp <;> (first | exact rfl))); intro KK hKK; go_simp; refine hKK _ ?_; clear hKK KK) | ((apply vhrun_consG1 rfl); (focus (go_simp <;> exact rfl)); (focus (intro hb0 hb1; replace hb0 := hb0.out; replace hb1 := hb1.out; go_simp <;> (first | exact rfl))); intro KK hKK; go_simp; refine hKK _ ?_; clear hKK KK))
    apply vcnt [2, 3, 4, 6, 11, 12, 13, 14, 67, 68, 69, 75, 76] (fun k => [(15, I (minM n a b k)), (77, I (k : Int))]) (fun k => ([some (.box [I 0, I 0, B false]), some (.box [.sl 1 (n.places.map txtA), .sl 5 (n.roads.map Rd.av)]), some (.box [I T, I 0, B false])] : Hp))  (n.roads.length)
    · go_simp <;> exact rfl
    · go_simp
    · intro i hi K2 hK2
      obtain ⟨y1, y2, y3, y4, y5, y6⟩ := ixs (m := i) (by omega)
      have hs : minM n a b (i + 1) = if (rdat n.roads i).src = a ∧ (rdat n.roads i).dst = b ∧ (minM n a b i = -1 ∨ (rdat n.roads i).metres < minM n a b i) then (rdat n.roads i).metres else minM n a b i := rfl
      generalize minM n a b (i + 1) = c' at *
      generalize minM n a b i = c at *
      obtain ⟨R, hRR⟩ : ∃ R, rdat n.roads i = R := ⟨_, rfl⟩
      rw [hRR] at hs
      have HS2 := Lib.hid hs
      clear hs
      by_cases z1 : R.src = a
      · by_cases z2 : R.dst = b
        · by_cases z3 : c = -1
          · have e := HS2.out
            rw [if_pos ⟨z1, z2, .inl z3⟩] at e
            subst e
            repeat' (first | (with_reducible first | refine vseq ?_ | refine vthenN ?_ | refine vthenE ?_ | refine vthenR ?_ | refine vret ?_ | refine vskip ?_ | refine vexit ?_ | refine vblock ?_ | refine vblockN ?_ | refine vblockR ?_ | refine vblockH ?_ | refine vrun_nil ?_ | refine vblockE rfl ?_ | refine vregion [] ?_ | refine vhrun_nil ?_) | ((with_reducible refine vcondT ?_ ?_); (focus (go_simp; done))) | ((with_reducible refine vcondF ?_ ?_); (focus (go_simp; done))) | ((with_reducible first | refine vrun_cons fun KK hKK => ?_ | refine vhrun_cons fun KK hKK => ?_); go_simp; refine hKK _ ?_; clear hKK KK) | ((refine vdrawL 14 13 [] rfl (by kernel_rfl) (by kernel_rfl) ?_); simp only [List.append, List.take, List.drop]) | ((refine vdrawL 16 15 [] rfl (by kernel_rfl) (by kernel_rfl) ?_); simp only [List.append, List.take, List.drop]) | ((refine vdrawL 25 25 [] rfl (by kernel_rfl) (by kernel_rfl) ?_); simp only [List.take, List.drop]) | ((with_reducible refine vcondS ?_ (fun ht => ?_) (fun ht => ?_)); (focus (go_simp; done)); (all_goals (simp [go_sem] at ht; replace ht := ht.out))) | ((apply vrun_consG0 rfl); (focus (go_simp <;> exact rfl)); (focus (go_simp; done)); (focus (intro hb0; replace hb0 := hb0.out; go_simp <;> (first | exact rfl))); intro KK hKK; go_simp; refine hKK _ ?_; clear hKK KK) | ((apply vhrun_consG0 rfl); (focus (go_simp <;> exact rfl)); (focus (intro hb0; replace hb0 := hb0.out; go_simp <;> (first | exact rfl))); intro KK hKK; go_simp; refine hKK _ ?_; clear hKK KK) | ((apply vrun_consG1 rfl); (focus (go_simp <;> exact rfl)); (focus (go_simp; done)); (focus (intro hb0 hb1; replace hb0 := hb0.out; replace hb1 := hb1.out; go_simp <;> (first | exact rfl))); intro KK hKK; go_simp; refine hKK _ ?_; clear hKK KK) | ((apply vhrun_consG1 rfl); (focus (go_simp <;> exact rfl)); (focus (intro hb0 hb1; replace hb0 := hb0.out; replace hb1 := hb1.out; go_simp <;> (first | exact rfl))); intro KK hKK; go_simp; refine hKK _ ?_; clear hKK KK))
            refine hK2 _ ?_
            go_simp
          · by_cases z4 : R.metres < c
            · have e := HS2.out
              rw [if_pos ⟨z1, z2, .inr z4⟩] at e
              subst e
              repeat' (first | (with_reducible first | refine vseq ?_ | refine vthenN ?_ | refine vthenE ?_ | refine vthenR ?_ | refine vret ?_ | refine vskip ?_ | refine vexit ?_ | refine vblock ?_ | refine vblockN ?_ | refine vblockR ?_ | refine vblockH ?_ | refine vrun_nil ?_ | refine vblockE rfl ?_ | refine vregion [] ?_ | refine vhrun_nil ?_) | ((with_reducible refine vcondT ?_ ?_); (focus (go_simp; done))) | ((with_reducible refine vcondF ?_ ?_); (focus (go_simp; done))) | ((with_reducible first | refine vrun_cons fun KK hKK => ?_ | refine vhrun_cons fun KK hKK => ?_); go_simp; refine hKK _ ?_; clear hKK KK) | ((refine vdrawL 14 13 [] rfl (by kernel_rfl) (by kernel_rfl) ?_); simp only [List.append, List.take, List.drop]) | ((refine vdrawL 16 15 [] rfl (by kernel_rfl) (by kernel_rfl) ?_); simp only [List.append, List.take, List.drop]) | ((refine vdrawL 25 25 [] rfl (by kernel_rfl) (by kernel_rfl) ?_); simp only [List.take, List.drop]) | ((with_reducible refine vcondS ?_ (fun ht => ?_) (fun ht => ?_)); (focus (go_simp; done)); (all_goals (simp [go_sem] at ht; replace ht := ht.out))) | ((apply vrun_consG0 rfl); (focus (go_simp <;> exact rfl)); (focus (go_simp; done)); (focus (intro hb0; replace hb0 := hb0.out; go_simp <;> (first | exact rfl))); intro KK hKK; go_simp; refine hKK _ ?_; clear hKK KK) | ((apply vhrun_consG0 rfl); (focus (go_simp <;> exact rfl)); (focus (intro hb0; replace hb0 := hb0.out; go_simp <;> (first | exact rfl))); intro KK hKK; go_simp; refine hKK _ ?_; clear hKK KK) | ((apply vrun_consG1 rfl); (focus (go_simp <;> exact rfl)); (focus (go_simp; done)); (focus (intro hb0 hb1; replace hb0 := hb0.out; replace hb1 := hb1.out; go_simp <;> (first | exact rfl))); intro KK hKK; go_simp; refine hKK _ ?_; clear hKK KK) | ((apply vhrun_consG1 rfl); (focus (go_simp <;> exact rfl)); (focus (intro hb0 hb1; replace hb0 := hb0.out; replace hb1 := hb1.out; go_simp <;> (first | exact rfl))); intro KK hKK; go_simp; refine hKK _ ?_; clear hKK KK))
              refine hK2 _ ?_
              go_simp
            · have e := HS2.out
              rw [if_neg fun h => h.2.2.elim z3 z4] at e
              subst e
              repeat' (first | (with_reducible first | refine vseq ?_ | refine vthenN ?_ | refine vthenE ?_ | refine vthenR ?_ | refine vret ?_ | refine vskip ?_ | refine vexit ?_ | refine vblock ?_ | refine vblockN ?_ | refine vblockR ?_ | refine vblockH ?_ | refine vrun_nil ?_ | refine vblockE rfl ?_ | refine vregion [] ?_ | refine vhrun_nil ?_) | ((with_reducible refine vcondT ?_ ?_); (focus (go_simp; done))) | ((with_reducible refine vcondF ?_ ?_); (focus (go_simp; done))) | ((with_reducible first | refine vrun_cons fun KK hKK => ?_ | refine vhrun_cons fun KK hKK => ?_); go_simp; refine hKK _ ?_; clear hKK KK) | ((refine vdrawL 14 13 [] rfl (by kernel_rfl) (by kernel_rfl) ?_); simp only [List.append, List.take, List.drop]) | ((refine vdrawL 16 15 [] rfl (by kernel_rfl) (by kernel_rfl) ?_); simp only [List.append, List.take, List.drop]) | ((refine vdrawL 25 25 [] rfl (by kernel_rfl) (by kernel_rfl) ?_); simp only [List.take, List.drop]) | ((with_reducible refine vcondS ?_ (fun ht => ?_) (fun ht => ?_)); (focus (go_simp; done)); (all_goals (simp [go_sem] at ht; replace ht := ht.out))) | ((apply vrun_consG0 rfl); (focus (go_simp <;> exact rfl)); (focus (go_simp; done)); (focus (intro hb0; replace hb0 := hb0.out; go_simp <;> (first | exact rfl))); intro KK hKK; go_simp; refine hKK _ ?_; clear hKK KK) | ((apply vhrun_consG0 rfl); (focus (go_simp <;> exact rfl)); (focus (intro hb0; replace hb0 := hb0.out; go_simp <;> (first | exact rfl))); intro KK hKK; go_simp; refine hKK _ ?_; clear hKK KK) | ((apply vrun_consG1 rfl); (focus (go_simp <;> exact rfl)); (focus (go_simp; done)); (focus (intro hb0 hb1; replace hb0 := hb0.out; replace hb1 := hb1.out; go_simp <;> (first | exact rfl))); intro KK hKK; go_simp; refine hKK _ ?_; clear hKK KK) | ((apply vhrun_consG1 rfl); (focus (go_simp <;> exact rfl)); (focus (intro hb0 hb1; replace hb0 := hb0.out; replace hb1 := hb1.out; go_simp <;> (first | exact rfl))); intro KK hKK; go_simp; refine hKK _ ?_; clear hKK KK))
              refine hK2 _ ?_
              go_simp
        · have e := HS2.out
          rw [if_neg fun h => z2 h.2.1] at e
          subst e
          repeat' (first | (with_reducible first | refine vseq ?_ | refine vthenN ?_ | refine vthenE ?_ | refine vthenR ?_ | refine vret ?_ | refine vskip ?_ | refine vexit ?_ | refine vblock ?_ | refine vblockN ?_ | refine vblockR ?_ | refine vblockH ?_ | refine vrun_nil ?_ | refine vblockE rfl ?_ | refine vregion [] ?_ | refine vhrun_nil ?_) | ((with_reducible refine vcondT ?_ ?_); (focus (go_simp; done))) | ((with_reducible refine vcondF ?_ ?_); (focus (go_simp; done))) | ((with_reducible first | refine vrun_cons fun KK hKK => ?_ | refine vhrun_cons fun KK hKK => ?_); go_simp; refine hKK _ ?_; clear hKK KK) | ((refine vdrawL 14 13 [] rfl (by kernel_rfl) (by kernel_rfl) ?_); simp only [List.append, List.take, List.drop]) | ((refine vdrawL 16 15 [] rfl (by kernel_rfl) (by kernel_rfl) ?_); simp only [List.append, List.take, List.drop]) | ((refine vdrawL 25 25 [] rfl (by kernel_rfl) (by kernel_rfl) ?_); simp only [List.take, List.drop]) | ((with_reducible refine vcondS ?_ (fun ht => ?_) (fun ht => ?_)); (focus (go_simp; done)); (all_goals (simp [go_sem] at ht; replace ht := ht.out))) | ((apply vrun_consG0 rfl); (focus (go_simp <;> exact rfl)); (focus (go_simp; done)); (focus (intro hb0; replace hb0 := hb0.out; go_simp <;> (first | exact rfl))); intro KK hKK; go_simp; refine hKK _ ?_; clear hKK KK) | ((apply vhrun_consG0 rfl); (focus (go_simp <;> exact rfl)); (focus (intro hb0; replace hb0 := hb0.out; go_simp <;> (first | exact rfl))); intro KK hKK; go_simp; refine hKK _ ?_; clear hKK KK) | ((apply vrun_consG1 rfl); (focus (go_simp <;> exact rfl)); (focus (go_simp; done)); (focus (intro hb0 hb1; replace hb0 := hb0.out; replace hb1 := hb1.out; go_simp <;> (first | exact rfl))); intro KK hKK; go_simp; refine hKK _ ?_; clear hKK KK) | ((apply vhrun_consG1 rfl); (focus (go_simp <;> exact rfl)); (focus (intro hb0 hb1; replace hb0 := hb0.out; replace hb1 := hb1.out; go_simp <;> (first | exact rfl))); intro KK hKK; go_simp; refine hKK _ ?_; clear hKK KK))
          refine hK2 _ ?_
          go_simp
      · have e := HS2.out
        rw [if_neg fun h => z1 h.1] at e
        subst e
        repeat' (first | (with_reducible first | refine vseq ?_ | refine vthenN ?_ | refine vthenE ?_ | refine vthenR ?_ | refine vret ?_ | refine vskip ?_ | refine vexit ?_ | refine vblock ?_ | refine vblockN ?_ | refine vblockR ?_ | refine vblockH ?_ | refine vrun_nil ?_ | refine vblockE rfl ?_ | refine vregion [] ?_ | refine vhrun_nil ?_) | ((with_reducible refine vcondT ?_ ?_); (focus (go_simp; done))) | ((with_reducible refine vcondF ?_ ?_); (focus (go_simp; done))) | ((with_reducible first | refine vrun_cons fun KK hKK => ?_ | refine vhrun_cons fun KK hKK => ?_); go_simp; refine hKK _ ?_; clear hKK KK) | ((refine vdrawL 14 13 [] rfl (by kernel_rfl) (by kernel_rfl) ?_); simp only [List.append, List.take, List.drop]) | ((refine vdrawL 16 15 [] rfl (by kernel_rfl) (by kernel_rfl) ?_); simp only [List.append, List.take, List.drop]) | ((refine vdrawL 25 25 [] rfl (by kernel_rfl) (by kernel_rfl) ?_); simp only [List.take, List.drop]) | ((with_reducible refine vcondS ?_ (fun ht => ?_) (fun ht => ?_)); (focus (go_simp; done)); (all_goals (simp [go_sem] at ht; replace ht := ht.out))) | ((apply vrun_consG0 rfl); (focus (go_simp <;> exact rfl)); (focus (go_simp; done)); (focus (intro hb0; replace hb0 := hb0.out; go_simp <;> (first | exact rfl))); intro KK hKK; go_simp; refine hKK _ ?_; clear hKK KK) | ((apply vhrun_consG0 rfl); (focus (go_simp <;> exact rfl)); (focus (intro hb0; replace hb0 := hb0.out; go_simp <;> (first | exact rfl))); intro KK hKK; go_simp; refine hKK _ ?_; clear hKK KK) | ((apply vrun_consG1 rfl); (focus (go_simp <;> exact rfl)); (focus (go_simp; done)); (focus (intro hb0 hb1; replace hb0 := hb0.out; replace hb1 := hb1.out; go_simp <;> (first | exact rfl))); intro KK hKK; go_simp; refine hKK _ ?_; clear hKK KK) | ((apply vhrun_consG1 rfl); (focus (go_simp <;> exact rfl)); (focus (intro hb0 hb1; replace hb0 := hb0.out; replace hb1 := hb1.out; go_simp <;> (first | exact rfl))); intro KK hKK; go_simp; refine hKK _ ?_; clear hKK KK))
        refine hK2 _ ?_
        go_simp
    intro K2
    rw [HLG.out]
    repeat' (first | (with_reducible first | refine vseq ?_ | refine vthenN ?_ | refine vthenE ?_ | refine vthenR ?_ | refine vret ?_ | refine vskip ?_ | refine vexit ?_ | refine vblock ?_ | refine vblockN ?_ | refine vblockR ?_ | refine vblockH ?_ | refine vrun_nil ?_ | refine vblockE rfl ?_ | refine vregion [] ?_ | refine vhrun_nil ?_) | ((with_reducible refine vcondT ?_ ?_); (focus (go_simp; done))) | ((with_reducible refine vcondF ?_ ?_); (focus (go_simp; done))) | ((with_reducible first | refine vrun_cons fun KK hKK => ?_ | refine vhrun_cons fun KK hKK => ?_); go_simp; refine hKK _ ?_; clear hKK KK) | ((refine vdrawL 14 13 [] rfl (by kernel_rfl) (by kernel_rfl) ?_); simp only [List.append, List.take, List.drop]) | ((refine vdrawL 16 15 [] rfl (by kernel_rfl) (by kernel_rfl) ?_); simp only [List.append, List.take, List.drop]) | ((refine vdrawL 25 25 [] rfl (by kernel_rfl) (by kernel_rfl) ?_); simp only [List.append, List.take, List.drop]) | ((with_reducible refine vcondS ?_ (fun ht => ?_) (fun ht => ?_)); (focus (go_simp; done)); (all_goals (simp [go_sem] at ht; replace ht := ht.out))) | ((apply vrun_consG0 rfl); (focus (go_simp <;> exact rfl)); (focus (go_simp; done)); (focus (intro hb0; replace hb0 := hb0.out; go_simp <;> (first | exact rfl))); intro KK hKK; go_simp; refine hKK _ ?_; clear hKK KK) | ((apply vhrun_consG0 rfl); (focus (go_simp <;> exact rfl)); (focus (intro hb0; replace hb0 := hb0.out; go_simp <;> (first | exact rfl))); intro KK hKK; go_simp; refine hKK _ ?_; clear hKK KK) | ((apply vrun_consG1 rfl); (focus (go_simp <;> exact rfl)); (focus (go_simp; done)); (focus (intro hb0 hb1; replace hb0 := hb0.out; replace hb1 := hb1.out; go_simp <;> (first | exact rfl))); intro KK hKK; go_simp; refine hKK _ ?_; clear hKK KK) | ((apply vhrun_consG1 rfl); (focus (go_simp <;> exact rfl)); (focus (intro hb0 hb1; replace hb0 := hb0.out; replace hb1 := hb1.out; go_simp <;> (first | exact rfl))); intro KK hKK; go_simp; refine hKK _ ?_; clear hKK KK))
    refine hK _ ?_
    rw [HS.out]
    go_simp
  · intro k hk hb hp K
    obtain ⟨v1, v2, v3, v4, v5, v6⟩ := ixs (m := k) (by omega)
    have hkx : k < xs.length := by omega
    have hkx1 : k + 1 < xs.length := by omega
    have hki : (k : Int) < (q : Int) := by omega
    have hki1 : (k : Int) + 1 < (q : Int) + 1 := by omega
    have e := HR.out
    rw [if_pos (anyP_hit hk hp.out)] at e
    have HLG := Lib.hid (show minM n (iat xs k) (iat xs (k + 1)) n.roads.length = -1 from of_decide_eq_true hp.out)
    subst e
    generalize told n xs k = T at *
    obtain ⟨a, ha⟩ : ∃ a, iat xs k = a := ⟨_, rfl⟩
    obtain ⟨b, hb'⟩ : ∃ b, iat xs (k + 1) = b := ⟨_, rfl⟩
    rw [ha, hb'] at HLG
    repeat' (first | (with_reducible first | refine vseq ?_ | refine vthenN ?_ | refine vthenE ?_ | refine vthenR ?_ | refine vret ?_ | refine vskip ?_ | refine vexit ?_ | refine vblock ?_ | refine vblockN ?_ | refine vblockR ?_ | refine vblockH ?_ | refine vrun_nil ?_ | refine vblockE rfl ?_ | refine vregion [] ?_ | refine vhrun_nil ?_) | ((with_reducible refine vcondT ?_ ?_); (focus (go_simp; done))) | ((with_reducible refine vcondF ?_ ?_); (focus (go_simp; done))) | ((with_reducible first | refine vrun_cons fun KK hKK => ?_ | refine vhrun_cons fun KK hKK => ?_); go_simp; refine hKK _ ?_; clear hKK KK) | ((refine vdrawL 14 13 [] rfl (by kernel_rfl) (by kernel_rfl) ?_); simp only [List.append, List.take, List.drop]) | ((refine vdrawL 16 15 [] rfl (by kernel_rfl) (by kernel_rfl) ?_); simp only [List.append, List.take, List.drop]) | ((refine vdrawL 25 25 [] rfl (by kernel_rfl) (by kernel_rfl) ?_); simp only [List.append, List.take, List.drop]) | ((with_reducible refine vcondS ?_ (fun ht => ?_) (fun ht => ?_)); (focus (go_simp; done)); (all_goals (simp [go_sem] at ht; replace ht := ht.out))) | ((apply vrun_consG0 rfl); (focus (go_simp <;> exact rfl)); (focus (go_simp; done)); (focus (intro hb0; replace hb0 := hb0.out; go_simp <;> (first | exact rfl))); intro KK hKK; go_simp; refine hKK _ ?_; clear hKK KK) | ((apply vhrun_consG0 rfl); (focus (go_simp <;> exact rfl)); (focus (intro hb0; replace hb0 := hb0.out; go_simp <;> (first | exact rfl))); intro KK hKK; go_simp; refine hKK _ ?_; clear hKK KK) | ((apply vrun_consG1 rfl); (focus (go_simp <;> exact rfl)); (focus (go_simp; done)); (focus (intro hb0 hb1; replace hb0 := hb0.out; replace hb1 := hb1.out; go_simp <;> (first | exact rfl))); intro KK hKK; go_simp; refine hKK _ ?_; clear hKK KK) | ((apply vhrun_consG1 rfl); (focus (go_simp <;> exact rfl)); (focus (intro hb0 hb1; replace hb0 := hb0.out; replace hb1 := hb1.out; go_simp <;> (first | exact rfl))); intro KK hKK; go_simp; refine hKK _ ?_; clear hKK KK))
    apply vcnt [2, 3, 4, 6, 11, 12, 13, 14, 67, 68, 69, 75, 76] (fun k => [(15, I (minM n a b k)), (77, I (k : Int))]) (fun k => ([some (.box [I 0, I 0, B false]), some (.box [.sl 1 (n.places.map txtA), .sl 5 (n.roads.map Rd.av)]), some (.box [I T, I 0, B false])] : Hp))  (n.roads.length)
    · go_simp <;> exact rfl
    · go_simp
    · intro i hi K2 hK2
      obtain ⟨y1, y2, y3, y4, y5, y6⟩ := ixs (m := i) (by omega)
      have hs : minM n a b (i + 1) = if (rdat n.roads i).src = a ∧ (rdat n.roads i).dst = b ∧ (minM n a b i = -1 ∨ (rdat n.roads i).metres < minM n a b i) then (rdat n.roads i).metres else minM n a b i := rfl
      generalize minM n a b (i + 1) = c' at *
      generalize minM n a b i = c at *
      obtain ⟨R, hRR⟩ : ∃ R, rdat n.roads i = R := ⟨_, rfl⟩
      rw [hRR] at hs
      have HS2 := Lib.hid hs
      clear hs
      by_cases z1 : R.src = a
      · by_cases z2 : R.dst = b
        · by_cases z3 : c = -1
          · have e := HS2.out
            rw [if_pos ⟨z1, z2, .inl z3⟩] at e
            subst e
            repeat' (first | (with_reducible first | refine vseq ?_ | refine vthenN ?_ | refine vthenE ?_ | refine vthenR ?_ | refine vret ?_ | refine vskip ?_ | refine vexit ?_ | refine vblock ?_ | refine vblockN ?_ | refine vblockR ?_ | refine vblockH ?_ | refine vrun_nil ?_ | refine vblockE rfl ?_ | refine vregion [] ?_ | refine vhrun_nil ?_) | ((with_reducible refine vcondT ?_ ?_); (focus (go_simp; done))) | ((with_reducible refine vcondF ?_ ?_); (focus (go_simp; done))) | ((with_reducible first | refine vrun_cons fun KK hKK => ?_ | refine vhrun_cons fun KK hKK => ?_); go_simp; refine hKK _ ?_; clear hKK KK) | ((refine vdrawL 14 13 [] rfl (by kernel_rfl) (by kernel_rfl) ?_); simp only [List.append, List.take, List.drop]) | ((refine vdrawL 16 15 [] rfl (by kernel_rfl) (by kernel_rfl) ?_); simp only [List.append, List.take, List.drop]) | ((refine vdrawL 25 25 [] rfl (by kernel_rfl) (by kernel_rfl) ?_); simp only [List.take, List.drop]) | ((with_reducible refine vcondS ?_ (fun ht => ?_) (fun ht => ?_)); (focus (go_simp; done)); (all_goals (simp [go_sem] at ht; replace ht := ht.out))) | ((apply vrun_consG0 rfl); (focus (go_simp <;> exact rfl)); (focus (go_simp; done)); (focus (intro hb0; replace hb0 := hb0.out; go_simp <;> (first | exact rfl))); intro KK hKK; go_simp; refine hKK _ ?_; clear hKK KK) | ((apply vhrun_consG0 rfl); (focus (go_simp <;> exact rfl)); (focus (intro hb0; replace hb0 := hb0.out; go_simp <;> (first | exact rfl))); intro KK hKK; go_simp; refine hKK _ ?_; clear hKK KK) | ((apply vrun_consG1 rfl); (focus (go_simp <;> exact rfl)); (focus (go_simp; done)); (focus (intro hb0 hb1; replace hb0 := hb0.out; replace hb1 := hb1.out; go_simp <;> (first | exact rfl))); intro KK hKK; go_simp; refine hKK _ ?_; clear hKK KK) | ((apply vhrun_consG1 rfl); (focus (go_simp <;> exact rfl)); (focus (intro hb0 hb1; replace hb0 := hb0.out; replace hb1 := hb1.out; go_simp <;> (first | exact rfl))); intro KK hKK; go_simp; refine hKK _ ?_; clear hKK KK))
            refine hK2 _ ?_
            go_simp
          · by_cases z4 : R.metres < c
            · have e := HS2.out
              rw [if_pos ⟨z1, z2, .inr z4⟩] at e
              subst e
              repeat' (first | (with_reducible first | refine vseq ?_ | refine vthenN ?_ | refine vthenE ?_ | refine vthenR ?_ | refine vret ?_ | refine vskip ?_ | refine vexit ?_ | refine vblock ?_ | refine vblockN ?_ | refine vblockR ?_ | refine vblockH ?_ | refine vrun_nil ?_ | refine vblockE rfl ?_ | refine vregion [] ?_ | refine vhrun_nil ?_) | ((with_reducible refine vcondT ?_ ?_); (focus (go_simp; done))) | ((with_reducible refine vcondF ?_ ?_); (focus (go_simp; done))) | ((with_reducible first | refine vrun_cons fun KK hKK => ?_ | refine vhrun_cons fun KK hKK => ?_); go_simp; refine hKK _ ?_; clear hKK KK) | ((refine vdrawL 14 13 [] rfl (by kernel_rfl) (by kernel_rfl) ?_); simp only [List.append, List.take, List.drop]) | ((refine vdrawL 16 15 [] rfl (by kernel_rfl) (by kernel_rfl) ?_); simp only [List.append, List.take, List.drop]) | ((refine vdrawL 25 25 [] rfl (by kernel_rfl) (by kernel_rfl) ?_); simp only [List.take, List.drop]) | ((with_reducible refine vcondS ?_ (fun ht => ?_) (fun ht => ?_)); (focus (go_simp; done)); (all_goals (simp [go_sem] at ht; replace ht := ht.out))) | ((apply vrun_consG0 rfl); (focus (go_simp <;> exact rfl)); (focus (go_simp; done)); (focus (intro hb0; replace hb0 := hb0.out; go_simp <;> (first | exact rfl))); intro KK hKK; go_simp; refine hKK _ ?_; clear hKK KK) | ((apply vhrun_consG0 rfl); (focus (go_simp <;> exact rfl)); (focus (intro hb0; replace hb0 := hb0.out; go_simp <;> (first | exact rfl))); intro KK hKK; go_simp; refine hKK _ ?_; clear hKK KK) | ((apply vrun_consG1 rfl); (focus (go_simp <;> exact rfl)); (focus (go_simp; done)); (focus (intro hb0 hb1; replace hb0 := hb0.out; replace hb1 := hb1.out; go_simp <;> (first | exact rfl))); intro KK hKK; go_simp; refine hKK _ ?_; clear hKK KK) | ((apply vhrun_consG1 rfl); (focus (go_simp <;> exact rfl)); (focus (intro hb0 hb1; replace hb0 := hb0.out; replace hb1 := hb1.out; go_simp <;> (first | exact rfl))); intro KK hKK; go_simp; refine hKK _ ?_; clear hKK KK))
              refine hK2 _ ?_
              go_simp
            · have e := HS2.out
              rw [if_neg fun h => h.2.2.elim z3 z4] at e
              subst e
              repeat' (first | (with_reducible first | refine vseq ?_ | refine vthenN ?_ | refine vthenE ?_ | refine vthenR ?_ | refine vret ?_ | refine vskip ?_ | refine vexit ?_ | refine vblock ?_ | refine vblockN ?_ | refine vblockR ?_ | refine vblockH ?_ | refine vrun_nil ?_ | refine vblockE rfl ?_ | refine vregion [] ?_ | refine vhrun_nil ?_) | ((with_reducible refine vcondT ?_ ?_); (focus (go_simp; done))) | ((with_reducible refine vcondF ?_ ?_); (focus (go_simp; done))) | ((with_reducible first | refine vrun_cons fun KK hKK => ?_ | refine vhrun_cons fun KK hKK => ?_); go_simp; refine hKK _ ?_; clear hKK KK) | ((refine vdrawL 14 13 [] rfl (by kernel_rfl) (by kernel_rfl) ?_); simp only [List.append, List.take, List.drop]) | ((refine vdrawL 16 15 [] rfl (by kernel_rfl) (by kernel_rfl) ?_); simp only [List.append, List.take, List.drop]) | ((refine vdrawL 25 25 [] rfl (by kernel_rfl) (by kernel_rfl) ?_); simp only [List.take, List.drop]) | ((with_reducible refine vcondS ?_ (fun ht => ?_) (fun ht => ?_)); (focus (go_simp; done)); (all_goals (simp [go_sem] at ht; replace ht := ht.out))) | ((apply vrun_consG0 rfl); (focus (go_simp <;> exact rfl)); (focus (go_simp; done)); (focus (intro hb0; replace hb0 := hb0.out; go_simp <;> (first | exact rfl))); intro KK hKK; go_simp; refine hKK _ ?_; clear hKK KK) | ((apply vhrun_consG0 rfl); (focus (go_simp <;> exact rfl)); (focus (intro hb0; replace hb0 := hb0.out; go_simp <;> (first | exact rfl))); intro KK hKK; go_simp; refine hKK _ ?_; clear hKK KK) | ((apply vrun_consG1 rfl); (focus (go_simp <;> exact rfl)); (focus (go_simp; done)); (focus (intro hb0 hb1; replace hb0 := hb0.out; replace hb1 := hb1.out; go_simp <;> (first | exact rfl))); intro KK hKK; go_simp; refine hKK _ ?_; clear hKK KK) | ((apply vhrun_consG1 rfl); (focus (go_simp <;> exact rfl)); (focus (intro hb0 hb1; replace hb0 := hb0.out; replace hb1 := hb1.out; go_simp <;> (first | exact rfl))); intro KK hKK; go_simp; refine hKK _ ?_; clear hKK KK))
              refine hK2 _ ?_
              go_simp
        · have e := HS2.out
          rw [if_neg fun h => z2 h.2.1] at e
          subst e
          repeat' (first | (with_reducible first | refine vseq ?_ | refine vthenN ?_ | refine vthenE ?_ | refine vthenR ?_ | refine vret ?_ | refine vskip ?_ | refine vexit ?_ | refine vblock ?_ | refine vblockN ?_ | refine vblockR ?_ | refine vblockH ?_ | refine vrun_nil ?_ | refine vblockE rfl ?_ | refine vregion [] ?_ | refine vhrun_nil ?_) | ((with_reducible refine vcondT ?_ ?_); (focus (go_simp; done))) | ((with_reducible refine vcondF ?_ ?_); (focus (go_simp; done))) | ((with_reducible first | refine vrun_cons fun KK hKK => ?_ | refine vhrun_cons fun KK hKK => ?_); go_simp; refine hKK _ ?_; clear hKK KK) | ((refine vdrawL 14 13 [] rfl (by kernel_rfl) (by kernel_rfl) ?_); simp only [List.append, List.take, List.drop]) | ((refine vdrawL 16 15 [] rfl (by kernel_rfl) (by kernel_rfl) ?_); simp only [List.append, List.take, List.drop]) | ((refine vdrawL 25 25 [] rfl (by kernel_rfl) (by kernel_rfl) ?_); simp only [List.take, List.drop]) | ((with_reducible refine vcondS ?_ (fun ht => ?_) (fun ht => ?_)); (focus (go_simp; done)); (all_goals (simp [go_sem] at ht; replace ht := ht.out))) | ((apply vrun_consG0 rfl); (focus (go_simp <;> exact rfl)); (focus (go_simp; done)); (focus (intro hb0; replace hb0 := hb0.out; go_simp <;> (first | exact rfl))); intro KK hKK; go_simp; refine hKK _ ?_; clear hKK KK) | ((apply vhrun_consG0 rfl); (focus (go_simp <;> exact rfl)); (focus (intro hb0; replace hb0 := hb0.out; go_simp <;> (first | exact rfl))); intro KK hKK; go_simp; refine hKK _ ?_; clear hKK KK) | ((apply vrun_consG1 rfl); (focus (go_simp <;> exact rfl)); (focus (go_simp; done)); (focus (intro hb0 hb1; replace hb0 := hb0.out; replace hb1 := hb1.out; go_simp <;> (first | exact rfl))); intro KK hKK; go_simp; refine hKK _ ?_; clear hKK KK) | ((apply vhrun_consG1 rfl); (focus (go_simp <;> exact rfl)); (focus (intro hb0 hb1; replace hb0 := hb0.out; replace hb1 := hb1.out; go_simp <;> (first | exact rfl))); intro KK hKK; go_simp; refine hKK _ ?_; clear hKK KK))
          refine hK2 _ ?_
          go_simp
      · have e := HS2.out
        rw [if_neg fun h => z1 h.1] at e
        subst e
        repeat' (first | (with_reducible first | refine vseq ?_ | refine vthenN ?_ | refine vthenE ?_ | refine vthenR ?_ | refine vret ?_ | refine vskip ?_ | refine vexit ?_ | refine vblock ?_ | refine vblockN ?_ | refine vblockR ?_ | refine vblockH ?_ | refine vrun_nil ?_ | refine vblockE rfl ?_ | refine vregion [] ?_ | refine vhrun_nil ?_) | ((with_reducible refine vcondT ?_ ?_); (focus (go_simp; done))) | ((with_reducible refine vcondF ?_ ?_); (focus (go_simp; done))) | ((with_reducible first | refine vrun_cons fun KK hKK => ?_ | refine vhrun_cons fun KK hKK => ?_); go_simp; refine hKK _ ?_; clear hKK KK) | ((refine vdrawL 14 13 [] rfl (by kernel_rfl) (by kernel_rfl) ?_); simp only [List.append, List.take, List.drop]) | ((refine vdrawL 16 15 [] rfl (by kernel_rfl) (by kernel_rfl) ?_); simp only [List.append, List.take, List.drop]) | ((refine vdrawL 25 25 [] rfl (by kernel_rfl) (by kernel_rfl) ?_); simp only [List.take, List.drop]) | ((with_reducible refine vcondS ?_ (fun ht => ?_) (fun ht => ?_)); (focus (go_simp; done)); (all_goals (simp [go_sem] at ht; replace ht := ht.out))) | ((apply vrun_consG0 rfl); (focus (go_simp <;> exact rfl)); (focus (go_simp; done)); (focus (intro hb0; replace hb0 := hb0.out; go_simp <;> (first | exact rfl))); intro KK hKK; go_simp; refine hKK _ ?_; clear hKK KK) | ((apply vhrun_consG0 rfl); (focus (go_simp <;> exact rfl)); (focus (intro hb0; replace hb0 := hb0.out; go_simp <;> (first | exact rfl))); intro KK hKK; go_simp; refine hKK _ ?_; clear hKK KK) | ((apply vrun_consG1 rfl); (focus (go_simp <;> exact rfl)); (focus (go_simp; done)); (focus (intro hb0 hb1; replace hb0 := hb0.out; replace hb1 := hb1.out; go_simp <;> (first | exact rfl))); intro KK hKK; go_simp; refine hKK _ ?_; clear hKK KK) | ((apply vhrun_consG1 rfl); (focus (go_simp <;> exact rfl)); (focus (intro hb0 hb1; replace hb0 := hb0.out; replace hb1 := hb1.out; go_simp <;> (first | exact rfl))); intro KK hKK; go_simp; refine hKK _ ?_; clear hKK KK))
        refine hK2 _ ?_
        go_simp
    intro K2
    rw [HLG.out]
    repeat' (first | (with_reducible first | refine vseq ?_ | refine vthenN ?_ | refine vthenE ?_ | refine vthenR ?_ | refine vret ?_ | refine vskip ?_ | refine vexit ?_ | refine vblock ?_ | refine vblockN ?_ | refine vblockR ?_ | refine vblockH ?_ | refine vrun_nil ?_ | refine vblockE rfl ?_ | refine vregion [] ?_ | refine vhrun_nil ?_) | ((with_reducible refine vcondT ?_ ?_); (focus (go_simp; done))) | ((with_reducible refine vcondF ?_ ?_); (focus (go_simp; done))) | ((with_reducible first | refine vrun_cons fun KK hKK => ?_ | refine vhrun_cons fun KK hKK => ?_); go_simp; refine hKK _ ?_; clear hKK KK) | ((refine vdrawL 14 13 [] rfl (by kernel_rfl) (by kernel_rfl) ?_); simp only [List.append, List.take, List.drop]) | ((refine vdrawL 16 15 [] rfl (by kernel_rfl) (by kernel_rfl) ?_); simp only [List.append, List.take, List.drop]) | ((refine vdrawL 25 25 [] rfl (by kernel_rfl) (by kernel_rfl) ?_); simp only [List.append, List.take, List.drop]) | ((with_reducible refine vcondS ?_ (fun ht => ?_) (fun ht => ?_)); (focus (go_simp; done)); (all_goals (simp [go_sem] at ht; replace ht := ht.out))) | ((apply vrun_consG0 rfl); (focus (go_simp <;> exact rfl)); (focus (go_simp; done)); (focus (intro hb0; replace hb0 := hb0.out; go_simp <;> (first | exact rfl))); intro KK hKK; go_simp; refine hKK _ ?_; clear hKK KK) | ((apply vhrun_consG0 rfl); (focus (go_simp <;> exact rfl)); (focus (intro hb0; replace hb0 := hb0.out; go_simp <;> (first | exact rfl))); intro KK hKK; go_simp; refine hKK _ ?_; clear hKK KK) | ((apply vrun_consG1 rfl); (focus (go_simp <;> exact rfl)); (focus (go_simp; done)); (focus (intro hb0 hb1; replace hb0 := hb0.out; replace hb1 := hb1.out; go_simp <;> (first | exact rfl))); intro KK hKK; go_simp; refine hKK _ ?_; clear hKK KK) | ((apply vhrun_consG1 rfl); (focus (go_simp <;> exact rfl)); (focus (intro hb0 hb1; replace hb0 := hb0.out; replace hb1 := hb1.out; go_simp <;> (first | exact rfl))); intro KK hKK; go_simp; refine hKK _ ?_; clear hKK KK))
    go_simp
  intro hb K
  have hlb := Lib.hid hb.out
  have e := HR.out
  rw [if_neg (by rw [anyP_out hb.out]; decide)] at e
  have HR := Lib.hid e
  clear e hb
  have ht := told_rng HH.out (xs := xs) hlb.out q (Nat.le_refl _)
  have hpx : ∀ j, j < xs.length → plBad n xs j = false := fun j hj => hpb.out j (by omega)
  have hll := leg_lab HH.out (xs := xs) (by omega) hpx (by rw [hq]; exact hlb.out)
  have p0 := pl_in (hpx 0 (by omega))
  have p1 := pl_in (hpx q (by omega))
  obtain ⟨a, ha⟩ : ∃ a : Nat, iat xs 0 = (a : Int) := ⟨(iat xs 0).toNat, by omega⟩
  obtain ⟨b, hb⟩ : ∃ b : Nat, iat xs q = (b : Int) := ⟨(iat xs q).toNat, by omega⟩
  have g4 := y_heights n a HH.out (by omega)
  have hL := (growL_ok (along_M HH.out) (a := a) (by omega)).1.len
  have e := HR.out
  have hle : leastF n xs = iat (growL n alM 0 100000 a).1 b := by
    unfold leastF
    rw [hq, Nat.add_sub_cancel, ha, hb, Int.toNat_natCast, Int.toNat_natCast]
  rw [hle] at e hll
  generalize growL n alM 0 100000 a = G at *
  obtain ⟨G1, G2⟩ := G
  simp only at hL hll e g4
  have hbl : b < G1.length := by omega
  obtain ⟨w1, w2, w3, w4, w5, w6⟩ := ixs (m := b) (by omega)
  have hq0 : 0 < xs.length := by omega
  have hqx : q < xs.length := by omega
  obtain ⟨l, hl⟩ : ∃ l, iat G1 b = l := ⟨_, rfl⟩
  rw [hl] at hll e
  generalize told n xs q = T at *
  have m2 : 0 ≤ (1000 + m) * l ∧ (1000 + m) * l ≤ 2000 * 1900000 := by
    have k1 : (1000 + m) * l ≤ 2000 * l := Int.mul_le_mul_of_nonneg_right (by omega) hll.1
    have k2 := Int.mul_nonneg (show 0 ≤ 1000 + m by omega) hll.1
    omega
  have u1 := wrap_eq (x := 1000 * T) (by omega) (by omega)
  have u2 := wrap_eq (x := 1000 + m) (by omega) (by omega)
  have u3 := wrap_eq (x := (1000 + m) * l) (by omega) (by omega)
  unfold passF at e
  subst e
  clear hll ht p0 p1 hpx hL m2 hle
  repeat' (first | (with_reducible first | refine vseq ?_ | refine vthenN ?_ | refine vthenE ?_ | refine vthenR ?_ | refine vret ?_ | refine vskip ?_ | refine vexit ?_ | refine vblock ?_ | refine vblockN ?_ | refine vblockR ?_ | refine vblockH ?_ | refine vrun_nil ?_ | refine vblockE rfl ?_ | refine vregion [] ?_ | refine vhrun_nil ?_) | ((with_reducible refine vcondT ?_ ?_); (focus (go_simp; done))) | ((with_reducible refine vcondF ?_ ?_); (focus (go_simp; done))) | ((with_reducible first | refine vrun_cons fun KK hKK => ?_ | refine vhrun_cons fun KK hKK => ?_); go_simp; (first | (refine ⟨_, g4, ?_⟩) | skip); refine hKK _ ?_; clear hKK KK) | ((refine vdrawL 14 13 [] rfl (by kernel_rfl) (by kernel_rfl) ?_); simp only [List.append, List.take, List.drop]) | ((refine vdrawL 16 15 [] rfl (by kernel_rfl) (by kernel_rfl) ?_); simp only [List.take, List.drop]) | ((refine vdrawL 25 25 [] rfl (by kernel_rfl) (by kernel_rfl) ?_); simp only [List.append, List.take, List.drop]) | ((with_reducible refine vcondS ?_ (fun ht => ?_) (fun ht => ?_)); (focus (go_simp; done)); (all_goals (simp [go_sem] at ht; replace ht := ht.out))) | ((apply vrun_consG0 rfl); (focus (go_simp <;> exact rfl)); (focus (go_simp; done)); (focus (intro hb0; replace hb0 := hb0.out; go_simp <;> (first | exact rfl | exact g4 | exact ⟨g4, rfl⟩))); intro KK hKK; go_simp; refine hKK _ ?_; clear hKK KK) | ((apply vhrun_consG0 rfl); (focus (go_simp <;> exact rfl)); (focus (intro hb0; replace hb0 := hb0.out; go_simp <;> (first | exact rfl | exact g4 | exact ⟨g4, rfl⟩))); intro KK hKK; go_simp; refine hKK _ ?_; clear hKK KK) | ((apply vrun_consG1 rfl); (focus (go_simp <;> exact rfl)); (focus (go_simp; done)); (focus (intro hb0 hb1; replace hb0 := hb0.out; replace hb1 := hb1.out; go_simp <;> (first | exact rfl | exact g4 | exact ⟨g4, rfl⟩))); intro KK hKK; go_simp; refine hKK _ ?_; clear hKK KK) | ((apply vhrun_consG1 rfl); (focus (go_simp <;> exact rfl)); (focus (intro hb0 hb1; replace hb0 := hb0.out; replace hb1 := hb1.out; go_simp <;> (first | exact rfl | exact g4 | exact ⟨g4, rfl⟩))); intro KK hKK; go_simp; refine hKK _ ?_; clear hKK KK))
  go_simp
end Go.Proofs.Ytcndlalhkkjocaa

/-! SYX: The top law of chapter 3 on examinations: true whatever the input is. -/
namespace Go.Proofs.Ytcndlalhkkjocaa
open Go.RowKit
set_option maxRecDepth 100000
set_option maxHeartbeats 1000000
theorem exR_bad {n : Nt} {xs : List Int} {m : Int} (h : (exR n xs m).err ≠ 0) : (exR n xs m).told = 0 ∧ (exR n xs m).least = 0 ∧ (exR n xs m).passed = false := by
  unfold exR at h ⊢
  split
  · exact ⟨rfl, rfl, rfl⟩
  · rename_i a1
    rw [if_neg a1] at h
    split
    · exact ⟨rfl, rfl, rfl⟩
    · rename_i a2
      rw [if_neg a2] at h
      split
      · exact ⟨rfl, rfl, rfl⟩
      · rename_i a3
        rw [if_neg a3] at h
        exact absurd rfl h
theorem exR_other {n : Nt} {xs : List Int} {m : Int} (m' : Int) (h : (exR n xs m).err = 0) : exR n xs m' = ⟨told n xs (xs.length - 1), leastF n xs, passF m' (told n xs (xs.length - 1)) (leastF n xs), 0⟩ := by
  unfold exR at h ⊢
  split at h; · cases h
  rename_i a1
  split at h; · cases h
  rename_i a2
  split at h; · cases h
  rename_i a3
  rw [if_neg a1, if_neg a2, if_neg a3]
theorem l_Examined (n : Nt) (xs : List Int) (m k : Int) (hp : n.places.length ≤ 9223372036854775807) (hr : n.roads.length ≤ 9223372036854775807) (hx : xs.length ≤ 9223372036854775807) : VC Try.prog 4 [netA n, examA xs m, I k] (B true) := by
  have ha := y_streeted
  have h0 := y_Few n hp hr
  cases hs : fewN n
  · rw [hs] at h0
    clear hs
    refine VC_of Try.func4 rfl (by kernel_rfl) (by kernel_rfl) rfl fun M0 w0 => ?_
    simp only [Try.ntmps4, Try.results4, enumA]
    repeat' (first | (with_reducible first | refine vseq ?_ | refine vthenN ?_ | refine vthenE ?_ | refine vthenR ?_ | refine vret ?_ | refine vskip ?_ | refine vexit ?_ | refine vblock ?_ | refine vblockN ?_ | refine vblockR ?_ | refine vblockH ?_ | refine vrun_nil ?_ | refine vblockE rfl ?_ | refine vregion [] ?_ | refine vhrun_nil ?_) | ((with_reducible refine vcondT ?_ ?_); (focus (go_simp; done))) | ((with_reducible refine vcondF ?_ ?_); (focus (go_simp; done))) | ((with_reducible first | refine vrun_cons fun KK hKK => ?_ | refine vhrun_cons fun KK hKK => ?_); go_simp; (first | (with_reducible refine ⟨_, ha, ?_⟩) | (with_reducible refine ⟨_, h0, ?_⟩) | skip); refine hKK _ ?_; clear hKK KK) | ((refine vdrawL 15 15 [] rfl (by kernel_rfl) (by kernel_rfl) ?_); simp only [List.append, List.take, List.drop]) | ((refine vdrawL 17 17 [] rfl (by kernel_rfl) (by kernel_rfl) ?_); simp only [List.append, List.take, List.drop]) | ((with_reducible refine vcondS ?_ (fun ht => ?_) (fun ht => ?_)); (focus (go_simp; done)); (all_goals (simp [go_sem] at ht; replace ht := ht.out))) | ((apply vrun_consG0 rfl); (focus (go_simp <;> exact rfl)); (focus (go_simp; done)); (focus (intro hb0; replace hb0 := hb0.out; go_simp <;> (first | exact rfl | exact ha | exact h0 | exact ⟨ha, rfl⟩ | exact ⟨h0, rfl⟩))); intro KK hKK; go_simp; refine hKK _ ?_; clear hKK KK) | ((apply vhrun_consG0 rfl); (focus (go_simp <;> exact rfl)); (focus (intro hb0; replace hb0 := hb0.out; go_simp <;> (first | exact rfl | exact ha | exact h0 | exact ⟨ha, rfl⟩ | exact ⟨h0, rfl⟩))); intro KK hKK; go_simp; refine hKK _ ?_; clear hKK KK) | ((apply vrun_consG1 rfl); (focus (go_simp <;> exact rfl)); (focus (go_simp; done)); (focus (intro hb0 hb1; replace hb0 := hb0.out; replace hb1 := hb1.out; go_simp <;> (first | exact rfl | exact ha | exact h0 | exact ⟨ha, rfl⟩ | exact ⟨h0, rfl⟩))); intro KK hKK; go_simp; refine hKK _ ?_; clear hKK KK) | ((apply vhrun_consG1 rfl); (focus (go_simp <;> exact rfl)); (focus (intro hb0 hb1; replace hb0 := hb0.out; replace hb1 := hb1.out; go_simp <;> (first | exact rfl | exact ha | exact h0 | exact ⟨ha, rfl⟩ | exact ⟨h0, rfl⟩))); intro KK hKK; go_simp; refine hKK _ ?_; clear hKK KK))
    go_simp
  rw [hs] at h0
  have hsm := fewN_small hs
  have h1 := r_NetErr n hsm
  by_cases hn : (netE n).2 = 0
  rotate_left
  · generalize (netE n).2 = E at *
    clear hs hsm
    refine VC_of Try.func4 rfl (by kernel_rfl) (by kernel_rfl) rfl fun M0 w0 => ?_
    simp only [Try.ntmps4, Try.results4, enumA]
    repeat' (first | (with_reducible first | refine vseq ?_ | refine vthenN ?_ | refine vthenE ?_ | refine vthenR ?_ | refine vret ?_ | refine vskip ?_ | refine vexit ?_ | refine vblock ?_ | refine vblockN ?_ | refine vblockR ?_ | refine vblockH ?_ | refine vrun_nil ?_ | refine vblockE rfl ?_ | refine vregion [] ?_ | refine vhrun_nil ?_) | ((with_reducible refine vcondT ?_ ?_); (focus (go_simp; done))) | ((with_reducible refine vcondF ?_ ?_); (focus (go_simp; done))) | ((with_reducible first | refine vrun_cons fun KK hKK => ?_ | refine vhrun_cons fun KK hKK => ?_); go_simp; (first | (with_reducible refine ⟨_, ha, ?_⟩) | (with_reducible refine ⟨_, h0, ?_⟩) | (with_reducible refine ⟨_, h1, ?_⟩) | skip); refine hKK _ ?_; clear hKK KK) | ((refine vdrawL 15 15 [] rfl (by kernel_rfl) (by kernel_rfl) ?_); simp only [List.append, List.take, List.drop]) | ((refine vdrawL 17 17 [] rfl (by kernel_rfl) (by kernel_rfl) ?_); simp only [List.append, List.take, List.drop]) | ((with_reducible refine vcondS ?_ (fun ht => ?_) (fun ht => ?_)); (focus (go_simp; done)); (all_goals (simp [go_sem] at ht; replace ht := ht.out))) | ((apply vrun_consG0 rfl); (focus (go_simp <;> exact rfl)); (focus (go_simp; done)); (focus (intro hb0; replace hb0 := hb0.out; go_simp <;> (first | exact rfl | exact ha | exact h0 | exact h1 | exact ⟨ha, rfl⟩ | exact ⟨h0, rfl⟩ | exact ⟨h1, rfl⟩))); intro KK hKK; go_simp; refine hKK _ ?_; clear hKK KK) | ((apply vhrun_consG0 rfl); (focus (go_simp <;> exact rfl)); (focus (intro hb0; replace hb0 := hb0.out; go_simp <;> (first | exact rfl | exact ha | exact h0 | exact h1 | exact ⟨ha, rfl⟩ | exact ⟨h0, rfl⟩ | exact ⟨h1, rfl⟩))); intro KK hKK; go_simp; refine hKK _ ?_; clear hKK KK) | ((apply vrun_consG1 rfl); (focus (go_simp <;> exact rfl)); (focus (go_simp; done)); (focus (intro hb0 hb1; replace hb0 := hb0.out; replace hb1 := hb1.out; go_simp <;> (first | exact rfl | exact ha | exact h0 | exact h1 | exact ⟨ha, rfl⟩ | exact ⟨h0, rfl⟩ | exact ⟨h1, rfl⟩))); intro KK hKK; go_simp; refine hKK _ ?_; clear hKK KK) | ((apply vhrun_consG1 rfl); (focus (go_simp <;> exact rfl)); (focus (intro hb0 hb1; replace hb0 := hb0.out; replace hb1 := hb1.out; go_simp <;> (first | exact rfl | exact ha | exact h0 | exact h1 | exact ⟨ha, rfl⟩ | exact ⟨h0, rfl⟩ | exact ⟨h1, rfl⟩))); intro KK hKK; go_simp; refine hKK _ ?_; clear hKK KK))
    go_simp
  rw [hn] at h1
  have hR := netE_zero hn
  by_cases h12 : (12 : Int) < (xs.length : Int)
  · have h12n : 12 < xs.length := by omega
    clear hs hsm hR hn
    refine VC_of Try.func4 rfl (by kernel_rfl) (by kernel_rfl) rfl fun M0 w0 => ?_
    simp only [Try.ntmps4, Try.results4, enumA]
    repeat' (first | (with_reducible first | refine vseq ?_ | refine vthenN ?_ | refine vthenE ?_ | refine vthenR ?_ | refine vret ?_ | refine vskip ?_ | refine vexit ?_ | refine vblock ?_ | refine vblockN ?_ | refine vblockR ?_ | refine vblockH ?_ | refine vrun_nil ?_ | refine vblockE rfl ?_ | refine vregion [] ?_ | refine vhrun_nil ?_) | ((with_reducible refine vcondT ?_ ?_); (focus (go_simp; done))) | ((with_reducible refine vcondF ?_ ?_); (focus (go_simp; done))) | ((with_reducible first | refine vrun_cons fun KK hKK => ?_ | refine vhrun_cons fun KK hKK => ?_); go_simp; (first | (with_reducible refine ⟨_, ha, ?_⟩) | (with_reducible refine ⟨_, h0, ?_⟩) | (with_reducible refine ⟨_, h1, ?_⟩) | skip); refine hKK _ ?_; clear hKK KK) | ((refine vdrawL 15 15 [] rfl (by kernel_rfl) (by kernel_rfl) ?_); simp only [List.append, List.take, List.drop]) | ((refine vdrawL 17 17 [] rfl (by kernel_rfl) (by kernel_rfl) ?_); simp only [List.append, List.take, List.drop]) | ((with_reducible refine vcondS ?_ (fun ht => ?_) (fun ht => ?_)); (focus (go_simp; done)); (all_goals (simp [go_sem] at ht; replace ht := ht.out))) | ((apply vrun_consG0 rfl); (focus (go_simp <;> exact rfl)); (focus (go_simp; done)); (focus (intro hb0; replace hb0 := hb0.out; go_simp <;> (first | exact rfl | exact ha | exact h0 | exact h1 | exact ⟨ha, rfl⟩ | exact ⟨h0, rfl⟩ | exact ⟨h1, rfl⟩))); intro KK hKK; go_simp; refine hKK _ ?_; clear hKK KK) | ((apply vhrun_consG0 rfl); (focus (go_simp <;> exact rfl)); (focus (intro hb0; replace hb0 := hb0.out; go_simp <;> (first | exact rfl | exact ha | exact h0 | exact h1 | exact ⟨ha, rfl⟩ | exact ⟨h0, rfl⟩ | exact ⟨h1, rfl⟩))); intro KK hKK; go_simp; refine hKK _ ?_; clear hKK KK) | ((apply vrun_consG1 rfl); (focus (go_simp <;> exact rfl)); (focus (go_simp; done)); (focus (intro hb0 hb1; replace hb0 := hb0.out; replace hb1 := hb1.out; go_simp <;> (first | exact rfl | exact ha | exact h0 | exact h1 | exact ⟨ha, rfl⟩ | exact ⟨h0, rfl⟩ | exact ⟨h1, rfl⟩))); intro KK hKK; go_simp; refine hKK _ ?_; clear hKK KK) | ((apply vhrun_consG1 rfl); (focus (go_simp <;> exact rfl)); (focus (intro hb0 hb1; replace hb0 := hb0.out; replace hb1 := hb1.out; go_simp <;> (first | exact rfl | exact ha | exact h0 | exact h1 | exact ⟨ha, rfl⟩ | exact ⟨h0, rfl⟩ | exact ⟨h1, rfl⟩))); intro KK hKK; go_simp; refine hKK _ ?_; clear hKK KK))
    go_simp
  have h12n : ¬ 12 < xs.length := by omega
  have b1 := b_within m 0 1000
  cases hm : inR m 0 1000
  · rw [hm] at b1
    clear hs hsm hR hn hm
    refine VC_of Try.func4 rfl (by kernel_rfl) (by kernel_rfl) rfl fun M0 w0 => ?_
    simp only [Try.ntmps4, Try.results4, enumA]
    repeat' (first | (with_reducible first | refine vseq ?_ | refine vthenN ?_ | refine vthenE ?_ | refine vthenR ?_ | refine vret ?_ | refine vskip ?_ | refine vexit ?_ | refine vblock ?_ | refine vblockN ?_ | refine vblockR ?_ | refine vblockH ?_ | refine vrun_nil ?_ | refine vblockE rfl ?_ | refine vregion [] ?_ | refine vhrun_nil ?_) | ((with_reducible refine vcondT ?_ ?_); (focus (go_simp; done))) | ((with_reducible refine vcondF ?_ ?_); (focus (go_simp; done))) | ((with_reducible first | refine vrun_cons fun KK hKK => ?_ | refine vhrun_cons fun KK hKK => ?_); go_simp; (first | (with_reducible refine ⟨_, ha, ?_⟩) | (with_reducible refine ⟨_, h0, ?_⟩) | (with_reducible refine ⟨_, h1, ?_⟩) | (with_reducible refine ⟨_, b1, ?_⟩) | skip); refine hKK _ ?_; clear hKK KK) | ((refine vdrawL 15 15 [] rfl (by kernel_rfl) (by kernel_rfl) ?_); simp only [List.append, List.take, List.drop]) | ((refine vdrawL 17 17 [] rfl (by kernel_rfl) (by kernel_rfl) ?_); simp only [List.append, List.take, List.drop]) | ((with_reducible refine vcondS ?_ (fun ht => ?_) (fun ht => ?_)); (focus (go_simp; done)); (all_goals (simp [go_sem] at ht; replace ht := ht.out))) | ((apply vrun_consG0 rfl); (focus (go_simp <;> exact rfl)); (focus (go_simp; done)); (focus (intro hb0; replace hb0 := hb0.out; go_simp <;> (first | exact rfl | exact ha | exact h0 | exact h1 | exact b1 | exact ⟨ha, rfl⟩ | exact ⟨h0, rfl⟩ | exact ⟨h1, rfl⟩ | exact ⟨b1, rfl⟩))); intro KK hKK; go_simp; refine hKK _ ?_; clear hKK KK) | ((apply vhrun_consG0 rfl); (focus (go_simp <;> exact rfl)); (focus (intro hb0; replace hb0 := hb0.out; go_simp <;> (first | exact rfl | exact ha | exact h0 | exact h1 | exact b1 | exact ⟨ha, rfl⟩ | exact ⟨h0, rfl⟩ | exact ⟨h1, rfl⟩ | exact ⟨b1, rfl⟩))); intro KK hKK; go_simp; refine hKK _ ?_; clear hKK KK) | ((apply vrun_consG1 rfl); (focus (go_simp <;> exact rfl)); (focus (go_simp; done)); (focus (intro hb0 hb1; replace hb0 := hb0.out; replace hb1 := hb1.out; go_simp <;> (first | exact rfl | exact ha | exact h0 | exact h1 | exact b1 | exact ⟨ha, rfl⟩ | exact ⟨h0, rfl⟩ | exact ⟨h1, rfl⟩ | exact ⟨b1, rfl⟩))); intro KK hKK; go_simp; refine hKK _ ?_; clear hKK KK) | ((apply vhrun_consG1 rfl); (focus (go_simp <;> exact rfl)); (focus (intro hb0 hb1; replace hb0 := hb0.out; replace hb1 := hb1.out; go_simp <;> (first | exact rfl | exact ha | exact h0 | exact h1 | exact b1 | exact ⟨ha, rfl⟩ | exact ⟨h0, rfl⟩ | exact ⟨h1, rfl⟩ | exact ⟨b1, rfl⟩))); intro KK hKK; go_simp; refine hKK _ ?_; clear hKK KK))
    go_simp
  rw [hm] at b1
  obtain ⟨m0, m1⟩ := inR_iff.1 hm
  have u1 := wrap_eq (x := 1000 - m) (by omega) (by omega)
  have b2 := b_within k 0 (1000 - m)
  cases hk : inR k 0 (1000 - m)
  · rw [hk] at b2
    clear hs hsm hR hn hm hk
    refine VC_of Try.func4 rfl (by kernel_rfl) (by kernel_rfl) rfl fun M0 w0 => ?_
    simp only [Try.ntmps4, Try.results4, enumA]
    repeat' (first | (with_reducible first | refine vseq ?_ | refine vthenN ?_ | refine vthenE ?_ | refine vthenR ?_ | refine vret ?_ | refine vskip ?_ | refine vexit ?_ | refine vblock ?_ | refine vblockN ?_ | refine vblockR ?_ | refine vblockH ?_ | refine vrun_nil ?_ | refine vblockE rfl ?_ | refine vregion [] ?_ | refine vhrun_nil ?_) | ((with_reducible refine vcondT ?_ ?_); (focus (go_simp; done))) | ((with_reducible refine vcondF ?_ ?_); (focus (go_simp; done))) | ((with_reducible first | refine vrun_cons fun KK hKK => ?_ | refine vhrun_cons fun KK hKK => ?_); go_simp; (first | (with_reducible refine ⟨_, ha, ?_⟩) | (with_reducible refine ⟨_, h0, ?_⟩) | (with_reducible refine ⟨_, h1, ?_⟩) | (with_reducible refine ⟨_, b1, ?_⟩) | (with_reducible refine ⟨_, b2, ?_⟩) | skip); refine hKK _ ?_; clear hKK KK) | ((refine vdrawL 15 15 [] rfl (by kernel_rfl) (by kernel_rfl) ?_); simp only [List.append, List.take, List.drop]) | ((refine vdrawL 17 17 [] rfl (by kernel_rfl) (by kernel_rfl) ?_); simp only [List.append, List.take, List.drop]) | ((with_reducible refine vcondS ?_ (fun ht => ?_) (fun ht => ?_)); (focus (go_simp; done)); (all_goals (simp [go_sem] at ht; replace ht := ht.out))) | ((apply vrun_consG0 rfl); (focus (go_simp <;> exact rfl)); (focus (go_simp; done)); (focus (intro hb0; replace hb0 := hb0.out; go_simp <;> (first | exact rfl | exact ha | exact h0 | exact h1 | exact b1 | exact b2 | exact ⟨ha, rfl⟩ | exact ⟨h0, rfl⟩ | exact ⟨h1, rfl⟩ | exact ⟨b1, rfl⟩ | exact ⟨b2, rfl⟩))); intro KK hKK; go_simp; refine hKK _ ?_; clear hKK KK) | ((apply vhrun_consG0 rfl); (focus (go_simp <;> exact rfl)); (focus (intro hb0; replace hb0 := hb0.out; go_simp <;> (first | exact rfl | exact ha | exact h0 | exact h1 | exact b1 | exact b2 | exact ⟨ha, rfl⟩ | exact ⟨h0, rfl⟩ | exact ⟨h1, rfl⟩ | exact ⟨b1, rfl⟩ | exact ⟨b2, rfl⟩))); intro KK hKK; go_simp; refine hKK _ ?_; clear hKK KK) | ((apply vrun_consG1 rfl); (focus (go_simp <;> exact rfl)); (focus (go_simp; done)); (focus (intro hb0 hb1; replace hb0 := hb0.out; replace hb1 := hb1.out; go_simp <;> (first | exact rfl | exact ha | exact h0 | exact h1 | exact b1 | exact b2 | exact ⟨ha, rfl⟩ | exact ⟨h0, rfl⟩ | exact ⟨h1, rfl⟩ | exact ⟨b1, rfl⟩ | exact ⟨b2, rfl⟩))); intro KK hKK; go_simp; refine hKK _ ?_; clear hKK KK) | ((apply vhrun_consG1 rfl); (focus (go_simp <;> exact rfl)); (focus (intro hb0 hb1; replace hb0 := hb0.out; replace hb1 := hb1.out; go_simp <;> (first | exact rfl | exact ha | exact h0 | exact h1 | exact b1 | exact b2 | exact ⟨ha, rfl⟩ | exact ⟨h0, rfl⟩ | exact ⟨h1, rfl⟩ | exact ⟨b1, rfl⟩ | exact ⟨b2, rfl⟩))); intro KK hKK; go_simp; refine hKK _ ?_; clear hKK KK))
    go_simp
  rw [hk] at b2
  obtain ⟨k0, k1⟩ := inR_iff.1 hk
  have u2 := wrap_eq (x := m + k) (by omega) (by omega)
  have g1 := y_Copy n hsm
  have g2 := VC_of_own (y_CopyInts xs (by omega))
  have g3 := y_Examined n xs m hR (by omega) m0 m1
  have g4 := y_Examined n xs (m + k) hR (by omega) (by omega) (by omega)
  by_cases he : (exR n xs m).err = 0
  rotate_left
  · obtain ⟨z1, z2, z3⟩ := exR_bad he
    rw [z1, z2, z3] at g3
    generalize (exR n xs m).err = E at *
    clear hs hsm hR hn hm hk z1 z2 z3 g4
    refine VC_of Try.func4 rfl (by kernel_rfl) (by kernel_rfl) rfl fun M0 w0 => ?_
    simp only [Try.ntmps4, Try.results4, enumA]
    repeat' (first | (with_reducible first | refine vseq ?_ | refine vthenN ?_ | refine vthenE ?_ | refine vthenR ?_ | refine vret ?_ | refine vskip ?_ | refine vexit ?_ | refine vblock ?_ | refine vblockN ?_ | refine vblockR ?_ | refine vblockH ?_ | refine vrun_nil ?_ | refine vblockE rfl ?_ | refine vregion [] ?_ | refine vhrun_nil ?_) | ((with_reducible refine vcondT ?_ ?_); (focus (go_simp; done))) | ((with_reducible refine vcondF ?_ ?_); (focus (go_simp; done))) | ((with_reducible first | refine vrun_cons fun KK hKK => ?_ | refine vhrun_cons fun KK hKK => ?_); go_simp; (first | (with_reducible refine ⟨_, ha, ?_⟩) | (with_reducible refine ⟨_, h0, ?_⟩) | (with_reducible refine ⟨_, h1, ?_⟩) | (with_reducible refine ⟨_, b1, ?_⟩) | (with_reducible refine ⟨_, b2, ?_⟩) | skip); refine hKK _ ?_; clear hKK KK) | ((with_reducible refine vcondS ?_ (fun ht => ?_) (fun ht => ?_)); (focus (go_simp; done)); (all_goals (simp [go_sem] at ht; replace ht := ht.out))) | ((apply vrun_consG0 rfl); (focus (go_simp <;> exact rfl)); (focus (go_simp; done)); (focus (intro hb0; replace hb0 := hb0.out; go_simp <;> (first | exact rfl | exact ha | exact h0 | exact h1 | exact b1 | exact b2 | exact ⟨ha, rfl⟩ | exact ⟨h0, rfl⟩ | exact ⟨h1, rfl⟩ | exact ⟨b1, rfl⟩ | exact ⟨b2, rfl⟩))); intro KK hKK; go_simp; refine hKK _ ?_; clear hKK KK) | ((apply vhrun_consG0 rfl); (focus (go_simp <;> exact rfl)); (focus (intro hb0; replace hb0 := hb0.out; go_simp <;> (first | exact rfl | exact ha | exact h0 | exact h1 | exact b1 | exact b2 | exact ⟨ha, rfl⟩ | exact ⟨h0, rfl⟩ | exact ⟨h1, rfl⟩ | exact ⟨b1, rfl⟩ | exact ⟨b2, rfl⟩))); intro KK hKK; go_simp; refine hKK _ ?_; clear hKK KK) | ((apply vrun_consG1 rfl); (focus (go_simp <;> exact rfl)); (focus (go_simp; done)); (focus (intro hb0 hb1; replace hb0 := hb0.out; replace hb1 := hb1.out; go_simp <;> (first | exact rfl | exact ha | exact h0 | exact h1 | exact b1 | exact b2 | exact ⟨ha, rfl⟩ | exact ⟨h0, rfl⟩ | exact ⟨h1, rfl⟩ | exact ⟨b1, rfl⟩ | exact ⟨b2, rfl⟩))); intro KK hKK; go_simp; refine hKK _ ?_; clear hKK KK) | ((apply vhrun_consG1 rfl); (focus (go_simp <;> exact rfl)); (focus (intro hb0 hb1; replace hb0 := hb0.out; replace hb1 := hb1.out; go_simp <;> (first | exact rfl | exact ha | exact h0 | exact h1 | exact b1 | exact b2 | exact ⟨ha, rfl⟩ | exact ⟨h0, rfl⟩ | exact ⟨h1, rfl⟩ | exact ⟨b1, rfl⟩ | exact ⟨b2, rfl⟩))); intro KK hKK; go_simp; refine hKK _ ?_; clear hKK KK))
    refine vdrawA 14 [] [⟨12, 7, [.int .i64 0, .int .i64 0, .bool false], some 13, [I 0, I 0, B false]⟩] (by kernel_rfl) (by kernel_rfl) (by kernel_rfl) (by go_simp) (by go_simp) ?_
    simp only [List.take, List.drop]
    repeat (first | (with_reducible first | refine vseq ?_ | refine vthenN ?_ | refine vthenE ?_ | refine vthenR ?_ | refine vret ?_ | refine vskip ?_ | refine vexit ?_ | refine vblock ?_ | refine vblockN ?_ | refine vblockR ?_ | refine vblockH ?_ | refine vrun_nil ?_ | refine vblockE rfl ?_ | refine vregion [] ?_ | refine vhrun_nil ?_) | ((with_reducible refine vcondT ?_ ?_); (focus (go_simp; done))) | ((with_reducible refine vcondF ?_ ?_); (focus (go_simp; done))) | ((with_reducible first | refine vrun_cons fun KK hKK => ?_ | refine vhrun_cons fun KK hKK => ?_); go_simp; (first | (with_reducible refine ⟨_, g1, ?_⟩) | (refine ⟨_, g2, ?_⟩) | (refine ⟨_, g3, ?_⟩) | skip); refine hKK _ ?_; clear hKK KK) | (refine vha_skip rfl ?_) | ((with_reducible refine vha_cons rfl fun KK hKK => ?_); go_simp; (first | (with_reducible refine ⟨_, g1, ?_⟩) | (refine ⟨_, g2, ?_⟩) | (refine ⟨_, g3, ?_⟩) | skip); refine hKK _ (by go_simp) ?_; clear hKK KK) | (with_reducible refine vha_nil ?_))
    refine ⟨by go_simp, ?_⟩
    simp only [slotS, slotE, Slot.end_, List.cons_append, List.nil_append]
    repeat' (first | (with_reducible first | refine vseq ?_ | refine vthenN ?_ | refine vthenE ?_ | refine vthenR ?_ | refine vret ?_ | refine vskip ?_ | refine vexit ?_ | refine vblock ?_ | refine vblockN ?_ | refine vblockR ?_ | refine vblockH ?_ | refine vrun_nil ?_ | refine vblockE rfl ?_ | refine vregion [] ?_ | refine vhrun_nil ?_) | ((with_reducible refine vcondT ?_ ?_); (focus (go_simp; done))) | ((with_reducible refine vcondF ?_ ?_); (focus (go_simp; done))) | ((with_reducible first | refine vrun_cons fun KK hKK => ?_ | refine vhrun_cons fun KK hKK => ?_); go_simp; refine hKK _ ?_; clear hKK KK) | ((refine vdrawL 15 15 [] rfl (by kernel_rfl) (by kernel_rfl) ?_); simp only [List.append, List.take, List.drop]) | ((refine vdrawL 17 17 [] rfl (by kernel_rfl) (by kernel_rfl) ?_); simp only [List.append, List.take, List.drop]) | ((with_reducible refine vcondS ?_ (fun ht => ?_) (fun ht => ?_)); (focus (go_simp; done)); (all_goals (simp [go_sem] at ht; replace ht := ht.out))) | ((apply vrun_consG0 rfl); (focus (go_simp <;> exact rfl)); (focus (go_simp; done)); (focus (intro hb0; replace hb0 := hb0.out; go_simp <;> (first | exact rfl))); intro KK hKK; go_simp; refine hKK _ ?_; clear hKK KK) | ((apply vhrun_consG0 rfl); (focus (go_simp <;> exact rfl)); (focus (intro hb0; replace hb0 := hb0.out; go_simp <;> (first | exact rfl))); intro KK hKK; go_simp; refine hKK _ ?_; clear hKK KK) | ((apply vrun_consG1 rfl); (focus (go_simp <;> exact rfl)); (focus (go_simp; done)); (focus (intro hb0 hb1; replace hb0 := hb0.out; replace hb1 := hb1.out; go_simp <;> (first | exact rfl))); intro KK hKK; go_simp; refine hKK _ ?_; clear hKK KK) | ((apply vhrun_consG1 rfl); (focus (go_simp <;> exact rfl)); (focus (intro hb0 hb1; replace hb0 := hb0.out; replace hb1 := hb1.out; go_simp <;> (first | exact rfl))); intro KK hKK; go_simp; refine hKK _ ?_; clear hKK KK))
    go_simp
  obtain ⟨o1, o2, o3, _⟩ := exR_ok hR xs m he
  have hll := (leg_lab hR o3 o1 o2)
  have e1 := exR_other m he
  have e2 := exR_other (m + k) he
  rw [e1] at g3
  rw [e2] at g4
  have hpm := pass_more (m := m) (t := told n xs (xs.length - 1)) k0 hll.1
  generalize told n xs (xs.length - 1) = T at *
  generalize leastF n xs = l at *
  have hge : l ≤ T := hll.2.2
  simp only at g3 g4
  generalize passF m T l = P1 at *
  generalize passF (m + k) T l = P2 at *
  clear hs hsm hR hn hm hk he o1 o2 o3 e1 e2 hll
  have hbb : (!P1 || P2) = true := by
    cases P1
    · rfl
    · rw [hpm rfl]
      rfl
  clear hpm
  refine VC_of Try.func4 rfl (by kernel_rfl) (by kernel_rfl) rfl fun M0 w0 => ?_
  simp only [Try.ntmps4, Try.results4, enumA]
  repeat' (first | (with_reducible first | refine vseq ?_ | refine vthenN ?_ | refine vthenE ?_ | refine vthenR ?_ | refine vret ?_ | refine vskip ?_ | refine vexit ?_ | refine vblock ?_ | refine vblockN ?_ | refine vblockR ?_ | refine vblockH ?_ | refine vrun_nil ?_ | refine vblockE rfl ?_ | refine vregion [] ?_ | refine vhrun_nil ?_) | ((with_reducible refine vcondT ?_ ?_); (focus (go_simp; done))) | ((with_reducible refine vcondF ?_ ?_); (focus (go_simp; done))) | ((with_reducible first | refine vrun_cons fun KK hKK => ?_ | refine vhrun_cons fun KK hKK => ?_); go_simp; (first | (with_reducible refine ⟨_, ha, ?_⟩) | (with_reducible refine ⟨_, h0, ?_⟩) | (with_reducible refine ⟨_, h1, ?_⟩) | (with_reducible refine ⟨_, b1, ?_⟩) | (with_reducible refine ⟨_, b2, ?_⟩) | skip); refine hKK _ ?_; clear hKK KK) | ((with_reducible refine vcondS ?_ (fun ht => ?_) (fun ht => ?_)); (focus (go_simp; done)); (all_goals (simp [go_sem] at ht; replace ht := ht.out))) | ((apply vrun_consG0 rfl); (focus (go_simp <;> exact rfl)); (focus (go_simp; done)); (focus (intro hb0; replace hb0 := hb0.out; go_simp <;> (first | exact rfl | exact ha | exact h0 | exact h1 | exact b1 | exact b2 | exact ⟨ha, rfl⟩ | exact ⟨h0, rfl⟩ | exact ⟨h1, rfl⟩ | exact ⟨b1, rfl⟩ | exact ⟨b2, rfl⟩))); intro KK hKK; go_simp; refine hKK _ ?_; clear hKK KK) | ((apply vhrun_consG0 rfl); (focus (go_simp <;> exact rfl)); (focus (intro hb0; replace hb0 := hb0.out; go_simp <;> (first | exact rfl | exact ha | exact h0 | exact h1 | exact b1 | exact b2 | exact ⟨ha, rfl⟩ | exact ⟨h0, rfl⟩ | exact ⟨h1, rfl⟩ | exact ⟨b1, rfl⟩ | exact ⟨b2, rfl⟩))); intro KK hKK; go_simp; refine hKK _ ?_; clear hKK KK) | ((apply vrun_consG1 rfl); (focus (go_simp <;> exact rfl)); (focus (go_simp; done)); (focus (intro hb0 hb1; replace hb0 := hb0.out; replace hb1 := hb1.out; go_simp <;> (first | exact rfl | exact ha | exact h0 | exact h1 | exact b1 | exact b2 | exact ⟨ha, rfl⟩ | exact ⟨h0, rfl⟩ | exact ⟨h1, rfl⟩ | exact ⟨b1, rfl⟩ | exact ⟨b2, rfl⟩))); intro KK hKK; go_simp; refine hKK _ ?_; clear hKK KK) | ((apply vhrun_consG1 rfl); (focus (go_simp <;> exact rfl)); (focus (intro hb0 hb1; replace hb0 := hb0.out; replace hb1 := hb1.out; go_simp <;> (first | exact rfl | exact ha | exact h0 | exact h1 | exact b1 | exact b2 | exact ⟨ha, rfl⟩ | exact ⟨h0, rfl⟩ | exact ⟨h1, rfl⟩ | exact ⟨b1, rfl⟩ | exact ⟨b2, rfl⟩))); intro KK hKK; go_simp; refine hKK _ ?_; clear hKK KK))
  refine vdrawA 14 [] [⟨12, 7, [.int .i64 0, .int .i64 0, .bool false], some 13, [I T, I l, B P1]⟩] (by kernel_rfl) (by kernel_rfl) (by kernel_rfl) (by go_simp) (by go_simp) ?_
  simp only [List.take, List.drop]
  repeat (first | (with_reducible first | refine vseq ?_ | refine vthenN ?_ | refine vthenE ?_ | refine vthenR ?_ | refine vret ?_ | refine vskip ?_ | refine vexit ?_ | refine vblock ?_ | refine vblockN ?_ | refine vblockR ?_ | refine vblockH ?_ | refine vrun_nil ?_ | refine vblockE rfl ?_ | refine vregion [] ?_ | refine vhrun_nil ?_) | ((with_reducible refine vcondT ?_ ?_); (focus (go_simp; done))) | ((with_reducible refine vcondF ?_ ?_); (focus (go_simp; done))) | ((with_reducible first | refine vrun_cons fun KK hKK => ?_ | refine vhrun_cons fun KK hKK => ?_); go_simp; (first | (with_reducible refine ⟨_, g1, ?_⟩) | (refine ⟨_, g2, ?_⟩) | (refine ⟨_, g3, ?_⟩) | skip); refine hKK _ ?_; clear hKK KK) | (refine vha_skip rfl ?_) | ((with_reducible refine vha_cons rfl fun KK hKK => ?_); go_simp; (first | (with_reducible refine ⟨_, g1, ?_⟩) | (refine ⟨_, g2, ?_⟩) | (refine ⟨_, g3, ?_⟩) | skip); refine hKK _ (by go_simp) ?_; clear hKK KK) | (with_reducible refine vha_nil ?_))
  refine ⟨by go_simp, ?_⟩
  simp only [slotS, slotE, Slot.end_, List.cons_append, List.nil_append]
  repeat' (first | (with_reducible first | refine vseq ?_ | refine vthenN ?_ | refine vthenE ?_ | refine vthenR ?_ | refine vret ?_ | refine vskip ?_ | refine vexit ?_ | refine vblock ?_ | refine vblockN ?_ | refine vblockR ?_ | refine vblockH ?_ | refine vrun_nil ?_ | refine vblockE rfl ?_ | refine vregion [] ?_ | refine vhrun_nil ?_) | ((with_reducible refine vcondT ?_ ?_); (focus (go_simp; done))) | ((with_reducible refine vcondF ?_ ?_); (focus (go_simp; done))) | ((with_reducible first | refine vrun_cons fun KK hKK => ?_ | refine vhrun_cons fun KK hKK => ?_); go_simp; refine hKK _ ?_; clear hKK KK) | ((with_reducible refine vcondS ?_ (fun ht => ?_) (fun ht => ?_)); (focus (go_simp; done)); (all_goals (simp [go_sem] at ht; replace ht := ht.out))) | ((apply vrun_consG0 rfl); (focus (go_simp <;> exact rfl)); (focus (go_simp; done)); (focus (intro hb0; replace hb0 := hb0.out; go_simp <;> (first | exact rfl))); intro KK hKK; go_simp; refine hKK _ ?_; clear hKK KK) | ((apply vhrun_consG0 rfl); (focus (go_simp <;> exact rfl)); (focus (intro hb0; replace hb0 := hb0.out; go_simp <;> (first | exact rfl))); intro KK hKK; go_simp; refine hKK _ ?_; clear hKK KK) | ((apply vrun_consG1 rfl); (focus (go_simp <;> exact rfl)); (focus (go_simp; done)); (focus (intro hb0 hb1; replace hb0 := hb0.out; replace hb1 := hb1.out; go_simp <;> (first | exact rfl))); intro KK hKK; go_simp; refine hKK _ ?_; clear hKK KK) | ((apply vhrun_consG1 rfl); (focus (go_simp <;> exact rfl)); (focus (intro hb0 hb1; replace hb0 := hb0.out; replace hb1 := hb1.out; go_simp <;> (first | exact rfl))); intro KK hKK; go_simp; refine hKK _ ?_; clear hKK KK))
  refine vdrawA 16 [] [⟨14, 9, [.int .i64 0, .int .i64 0, .bool false], some 15, [I T, I l, B P2]⟩] (by kernel_rfl) (by kernel_rfl) (by kernel_rfl) (by go_simp) (by go_simp) ?_
  simp only [List.take, List.drop]
  repeat (first | (with_reducible first | refine vseq ?_ | refine vthenN ?_ | refine vthenE ?_ | refine vthenR ?_ | refine vret ?_ | refine vskip ?_ | refine vexit ?_ | refine vblock ?_ | refine vblockN ?_ | refine vblockR ?_ | refine vblockH ?_ | refine vrun_nil ?_ | refine vblockE rfl ?_ | refine vregion [] ?_ | refine vhrun_nil ?_) | ((with_reducible refine vcondT ?_ ?_); (focus (go_simp; done))) | ((with_reducible refine vcondF ?_ ?_); (focus (go_simp; done))) | ((with_reducible first | refine vrun_cons fun KK hKK => ?_ | refine vhrun_cons fun KK hKK => ?_); go_simp; (first | (with_reducible refine ⟨_, g1, ?_⟩) | (refine ⟨_, g2, ?_⟩) | (refine ⟨_, g4, ?_⟩) | skip); refine hKK _ ?_; clear hKK KK) | (refine vha_skip rfl ?_) | ((with_reducible refine vha_cons rfl fun KK hKK => ?_); go_simp; (first | (with_reducible refine ⟨_, g1, ?_⟩) | (refine ⟨_, g2, ?_⟩) | (refine ⟨_, g4, ?_⟩) | skip); refine hKK _ (by go_simp) ?_; clear hKK KK) | (with_reducible refine vha_nil ?_))
  refine ⟨by go_simp, ?_⟩
  simp only [slotS, slotE, Slot.end_, List.cons_append, List.nil_append]
  cases P1
  · repeat' (first | (with_reducible first | refine vseq ?_ | refine vthenN ?_ | refine vthenE ?_ | refine vthenR ?_ | refine vret ?_ | refine vskip ?_ | refine vexit ?_ | refine vblock ?_ | refine vblockN ?_ | refine vblockR ?_ | refine vblockH ?_ | refine vrun_nil ?_ | refine vblockE rfl ?_ | refine vregion [] ?_ | refine vhrun_nil ?_) | ((with_reducible refine vcondT ?_ ?_); (focus (go_simp; done))) | ((with_reducible refine vcondF ?_ ?_); (focus (go_simp; done))) | ((with_reducible first | refine vrun_cons fun KK hKK => ?_ | refine vhrun_cons fun KK hKK => ?_); go_simp; refine hKK _ ?_; clear hKK KK) | ((refine vdrawL 15 15 [] rfl (by kernel_rfl) (by kernel_rfl) ?_); simp only [List.append, List.take, List.drop]) | ((refine vdrawL 17 17 [] rfl (by kernel_rfl) (by kernel_rfl) ?_); simp only [List.append, List.take, List.drop]) | ((with_reducible refine vcondS ?_ (fun ht => ?_) (fun ht => ?_)); (focus (go_simp; done)); (all_goals (simp [go_sem] at ht; replace ht := ht.out))) | ((apply vrun_consG0 rfl); (focus (go_simp <;> exact rfl)); (focus (go_simp; done)); (focus (intro hb0; replace hb0 := hb0.out; go_simp <;> (first | exact rfl))); intro KK hKK; go_simp; refine hKK _ ?_; clear hKK KK) | ((apply vhrun_consG0 rfl); (focus (go_simp <;> exact rfl)); (focus (intro hb0; replace hb0 := hb0.out; go_simp <;> (first | exact rfl))); intro KK hKK; go_simp; refine hKK _ ?_; clear hKK KK) | ((apply vrun_consG1 rfl); (focus (go_simp <;> exact rfl)); (focus (go_simp; done)); (focus (intro hb0 hb1; replace hb0 := hb0.out; replace hb1 := hb1.out; go_simp <;> (first | exact rfl))); intro KK hKK; go_simp; refine hKK _ ?_; clear hKK KK) | ((apply vhrun_consG1 rfl); (focus (go_simp <;> exact rfl)); (focus (intro hb0 hb1; replace hb0 := hb0.out; replace hb1 := hb1.out; go_simp <;> (first | exact rfl))); intro KK hKK; go_simp; refine hKK _ ?_; clear hKK KK))
    go_simp
  · cases P2
    · cases hbb
    · repeat' (first | (with_reducible first | refine vseq ?_ | refine vthenN ?_ | refine vthenE ?_ | refine vthenR ?_ | refine vret ?_ | refine vskip ?_ | refine vexit ?_ | refine vblock ?_ | refine vblockN ?_ | refine vblockR ?_ | refine vblockH ?_ | refine vrun_nil ?_ | refine vblockE rfl ?_ | refine vregion [] ?_ | refine vhrun_nil ?_) | ((with_reducible refine vcondT ?_ ?_); (focus (go_simp; done))) | ((with_reducible refine vcondF ?_ ?_); (focus (go_simp; done))) | ((with_reducible first | refine vrun_cons fun KK hKK => ?_ | refine vhrun_cons fun KK hKK => ?_); go_simp; refine hKK _ ?_; clear hKK KK) | ((refine vdrawL 15 15 [] rfl (by kernel_rfl) (by kernel_rfl) ?_); simp only [List.append, List.take, List.drop]) | ((refine vdrawL 17 17 [] rfl (by kernel_rfl) (by kernel_rfl) ?_); simp only [List.append, List.take, List.drop]) | ((with_reducible refine vcondS ?_ (fun ht => ?_) (fun ht => ?_)); (focus (go_simp; done)); (all_goals (simp [go_sem] at ht; replace ht := ht.out))) | ((apply vrun_consG0 rfl); (focus (go_simp <;> exact rfl)); (focus (go_simp; done)); (focus (intro hb0; replace hb0 := hb0.out; go_simp <;> (first | exact rfl))); intro KK hKK; go_simp; refine hKK _ ?_; clear hKK KK) | ((apply vhrun_consG0 rfl); (focus (go_simp <;> exact rfl)); (focus (intro hb0; replace hb0 := hb0.out; go_simp <;> (first | exact rfl))); intro KK hKK; go_simp; refine hKK _ ?_; clear hKK KK) | ((apply vrun_consG1 rfl); (focus (go_simp <;> exact rfl)); (focus (go_simp; done)); (focus (intro hb0 hb1; replace hb0 := hb0.out; replace hb1 := hb1.out; go_simp <;> (first | exact rfl))); intro KK hKK; go_simp; refine hKK _ ?_; clear hKK KK) | ((apply vhrun_consG1 rfl); (focus (go_simp <;> exact rfl)); (focus (intro hb0 hb1; replace hb0 := hb0.out; replace hb1 := hb1.out; go_simp <;> (first | exact rfl))); intro KK hKK; go_simp; refine hKK _ ?_; clear hKK KK))
      go_simp
end Go.Proofs.Ytcndlalhkkjocaa
