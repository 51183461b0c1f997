/- Texts in one: Walks on plain values: a way of two roads told by the roads of labels, of the program; no condition. -/
import Derived.Test.YtcndlalhkkjocaaFYStreetTrue22
import Derived.Test.YtcndlalhkkjocaaFYStreetTrue23
/-! SYR: Walks on plain values: a way of two roads told by the roads of labels, of the program; no condition. -/
namespace Go.Proofs.Ytcndlalhkkjocaa
open Go.RowKit
set_option maxRecDepth 100000
set_option maxHeartbeats 1000000
def revR (a b : Int) (x : Bool) : List (List AV) := if x then [[I b], [I a]] else [[I a], [I b]]
@[go_sem] theorem revR_f (a b : Int) : revR a b false = [[I a], [I b]] := rfl
@[go_sem] theorem revR_t (a b : Int) : revR a b true = [[I b], [I a]] := rfl
@[go_sem] theorem wrapZ : IntKind.i64.wrap 0 = 0 := rfl
theorem y_Reverse (a b : Int) : VH Try.prog 46 [some (.arr 3 1 false [[I a], [I b]])] [.osl 0] [0] [some (.arr 3 1 false [[I b], [I a]])] (.tup []) := by
  refine VH_of Try.func46 rfl (by kernel_rfl) rfl (fun _ => by kernel_rfl) fun M0 w0 vs => ?_
  simp only [Try.ntmps46, Try.results46, enumA]
  repeat' (first | (with_reducible first | refine vseq ?_ | refine vthenN ?_ | refine vthenE ?_ | refine vthenR ?_ | refine vret ?_ | refine vskip ?_ | refine vexit ?_ | refine vblock ?_ | refine vblockN ?_ | refine vblockR ?_ | refine vblockH ?_ | refine vrun_nil ?_ | refine vblockE rfl ?_ | refine vregion [] ?_ | refine vhrun_nil ?_) | ((with_reducible refine vcondT ?_ ?_); (focus (go_simp; done))) | ((with_reducible refine vcondF ?_ ?_); (focus (go_simp; done))) | ((with_reducible first | refine vrun_cons fun KK hKK => ?_ | refine vhrun_cons fun KK hKK => ?_); go_simp; refine hKK _ ?_; clear hKK KK) | ((with_reducible refine vcondS ?_ (fun ht => ?_) (fun ht => ?_)); (focus (go_simp; done)); (all_goals (simp [go_sem] at ht; replace ht := ht.out))))
  apply vloopK (α := Bool) [0] (fun (x : Bool) => [(2, I (if x then 1 else 0)), (3, I (if x then 0 else 1))]) (fun (x : Bool) => ([some (.arr 3 1 false (revR a b x))] : Hp)) (fun (x : Bool) => True) (fun (x : Bool) => (if x then 0 else 1)) (false) trivial
  · (go_simp <;> exact rfl)
  · go_simp
  rintro x _ K hK
  cases x
  · simp only [revR]
    repeat' (first | (with_reducible first | refine vseq ?_ | refine vthenN ?_ | refine vthenE ?_ | refine vthenR ?_ | refine vret ?_ | refine vskip ?_ | refine vexit ?_ | refine vblock ?_ | refine vblockN ?_ | refine vblockR ?_ | refine vblockH ?_ | refine vrun_nil ?_ | refine vblockE rfl ?_ | refine vregion [] ?_ | refine vhrun_nil ?_) | ((with_reducible refine vcondT ?_ ?_); (focus (go_simp; done))) | ((with_reducible refine vcondF ?_ ?_); (focus (go_simp; done))) | ((with_reducible first | refine vrun_cons fun KK hKK => ?_ | refine vhrun_cons fun KK hKK => ?_); go_simp; refine hKK _ ?_; clear hKK KK) | ((with_reducible refine vcondS ?_ (fun ht => ?_) (fun ht => ?_)); (focus (go_simp; done)); (all_goals (simp [go_sem] at ht; replace ht := ht.out))))
    refine vdrawS2 13 [] [] (by kernel_rfl) (by kernel_rfl) (by kernel_rfl) rfl ⟨rfl, rfl⟩ rfl ?_
    simp only [List.take, List.drop]
    repeat' (first | (with_reducible first | refine vseq ?_ | refine vthenN ?_ | refine vthenE ?_ | refine vthenR ?_ | refine vret ?_ | refine vskip ?_ | refine vexit ?_ | refine vblock ?_ | refine vblockN ?_ | refine vblockR ?_ | refine vblockH ?_ | refine vrun_nil ?_ | refine vblockE rfl ?_ | refine vhrun_nil ?_) | ((with_reducible refine vcondT ?_ ?_); (focus (go_simp; done))) | ((with_reducible refine vcondF ?_ ?_); (focus (go_simp; done))) | ((with_reducible first | refine vrun_cons fun KK hKK => ?_ | refine vhrun_cons fun KK hKK => ?_); go_simp; refine hKK _ ?_; clear hKK KK) | ((with_reducible refine vcondS ?_ (fun ht => ?_) (fun ht => ?_)); (focus (go_simp; done)); (all_goals (simp [go_sem] at ht; replace ht := ht.out))))
    refine ⟨_, by go_simp; exact rfl, trivial, ?_⟩
    repeat' (first | (with_reducible first | refine vseq ?_ | refine vthenN ?_ | refine vthenE ?_ | refine vthenR ?_ | refine vret ?_ | refine vskip ?_ | refine vexit ?_ | refine vblock ?_ | refine vblockN ?_ | refine vblockR ?_ | refine vblockH ?_ | refine vrun_nil ?_ | refine vblockE rfl ?_ | refine vregion [] ?_ | refine vhrun_nil ?_) | ((with_reducible refine vcondT ?_ ?_); (focus (go_simp; done))) | ((with_reducible refine vcondF ?_ ?_); (focus (go_simp; done))) | ((with_reducible first | refine vrun_cons fun KK hKK => ?_ | refine vhrun_cons fun KK hKK => ?_); go_simp; refine hKK _ ?_; clear hKK KK) | ((with_reducible refine vcondS ?_ (fun ht => ?_) (fun ht => ?_)); (focus (go_simp; done)); (all_goals (simp [go_sem] at ht; replace ht := ht.out))))
    refine hK _ true trivial (by decide) ?_
    go_simp
  · simp only [revR]
    repeat' (first | (with_reducible first | refine vseq ?_ | refine vthenN ?_ | refine vthenE ?_ | refine vthenR ?_ | refine vret ?_ | refine vskip ?_ | refine vexit ?_ | refine vblock ?_ | refine vblockN ?_ | refine vblockR ?_ | refine vblockH ?_ | refine vrun_nil ?_ | refine vblockE rfl ?_ | refine vregion [] ?_ | refine vhrun_nil ?_) | ((with_reducible refine vcondT ?_ ?_); (focus (go_simp; done))) | ((with_reducible refine vcondF ?_ ?_); (focus (go_simp; done))) | ((with_reducible first | refine vrun_cons fun KK hKK => ?_ | refine vhrun_cons fun KK hKK => ?_); go_simp; refine hKK _ ?_; clear hKK KK) | ((with_reducible refine vcondS ?_ (fun ht => ?_) (fun ht => ?_)); (focus (go_simp; done)); (all_goals (simp [go_sem] at ht; replace ht := ht.out))))
    go_simp
/-- A way of labels W: places T and roads R, of K roads. -/
structure PathQ (rs : List Rd) (W : List Int) (R : Nat → Int) (T : Nat → Nat) (K : Nat) : Prop where
  step : ∀ x, x < K → ∃ r : Nat, r < rs.length ∧ R x = (r : Int) ∧ (rdat rs r).src = ((T (x + 1) : Nat) : Int)
  at_ : ∀ x, x ≤ K → T x < W.length ∧ iat W (T x) = R x
  stop : R K = -1
def outQ (R : Nat → Int) : Nat → List Int
  | 0 => []
  | x + 1 => outQ R x ++ [R x]
theorem outQ_len (R : Nat → Int) : ∀ x, (outQ R x).length = x
  | 0 => rfl
  | x + 1 => by rw [outQ, List.length_append, outQ_len R x]; rfl
@[go_sem] theorem outQ_0 (R : Nat → Int) : outQ R 0 = [] := rfl
theorem y_way (n : Nt) (L W : List Int) (R : Nat → Int) (T : Nat → Nat) (a b : Int) (h : PathQ n.roads W R T 2) (hw : W.length ≤ 1000) (hr : n.roads.length ≤ 1000) (ho : outQ R 2 = [a, b]) :
    VCo Try.prog 34 [snetA n, .agg [intsA L, intsA W], I ((T 0 : Nat) : Int)] 3 1 false ([b, a].map intA) := by
  have HH := Lib.hid h
  have HO := Lib.hid ho
  have h0 := h.at_ 0 (by decide)
  obtain ⟨q1, q2⟩ := h0
  clear h ho
  obtain ⟨w1, w2, w3, w4, w5, w6⟩ := ixs (m := T 0) (by omega)
  refine VCo_of Try.func34 rfl (by kernel_rfl) (by kernel_rfl) rfl Try.results34 (by decide) (ints_one _) fun M0 w0 => ?_
  simp only [Try.ntmps34, enumA]
  repeat' (first | (with_reducible first | refine vseq ?_ | refine vthenN ?_ | refine vthenE ?_ | refine vthenR ?_ | refine vret ?_ | refine vskip ?_ | refine vexit ?_ | refine vblock ?_ | refine vblockN ?_ | refine vblockR ?_ | refine vblockH ?_ | refine vrun_nil ?_ | refine vblockE rfl ?_ | refine vregion [7] ?_ | refine vhrun_nil ?_) | ((with_reducible refine vcondT ?_ ?_); (focus (go_simp; done))) | ((with_reducible refine vcondF ?_ ?_); (focus (go_simp; done))) | ((with_reducible first | refine vrun_cons fun KK hKK => ?_ | refine vhrun_cons fun KK hKK => ?_); go_simp; refine hKK _ ?_; clear hKK KK) | ((with_reducible refine vcondS ?_ (fun ht => ?_) (fun ht => ?_)); (focus (go_simp; done)); (all_goals (simp [go_sem] at ht; replace ht := ht.out))))
  apply vloopK (α := Nat) [3, 4] (fun (x : Nat) => [(7, .osl 0), (8, I (R x)), (2, I ((T x : Nat) : Int))]) (fun (x : Nat) => ([some (.arr 3 1 (decide (outQ R x = [])) ((outQ R x).map intA))] : Hp)) (fun (x : Nat) => x ≤ 2) (fun (x : Nat) => 2 - x) (0) (by decide)
  · (go_simp <;> exact rfl)
  · go_simp
  rintro x hx K hK
  by_cases hlt : x < 2
  · obtain ⟨r, hr1, hr2, hr3⟩ := HH.out.step x hlt
    obtain ⟨p1, p2⟩ := HH.out.at_ (x + 1) (by omega)
    have hl := outQ_len R x
    have hs : outQ R (x + 1) = outQ R x ++ [R x] := rfl
    have HS := Lib.hid hs
    clear hs
    obtain ⟨v1, v2, v3, v4, v5, v6⟩ := ixs (m := r) (by omega)
    obtain ⟨x1, x2, x3, x4, x5, x6⟩ := ixs (m := T (x + 1)) (by omega)
    rw [hr2] at HS
    rw [hr2]
    have hne : ¬ (r : Int) = -1 := by omega
    obtain ⟨F, hF⟩ : ∃ F, T (x + 1) = F := ⟨_, rfl⟩
    rw [hF] at p1 p2 x1 x2 x3 x4 x5 x6 hr3
    have HF := Lib.hid hF
    clear hF
    generalize T x = F0 at *
    have hb : (outQ R x).length + 1 ≤ 1000000000 := by omega
    generalize outQ R x = O at *
    obtain ⟨RR, hRR⟩ : ∃ RR, rdat n.roads r = RR := ⟨_, rfl⟩
    rw [hRR] at hr3
    repeat' (first | (with_reducible first | refine vseq ?_ | refine vthenN ?_ | refine vthenE ?_ | refine vthenR ?_ | refine vret ?_ | refine vskip ?_ | refine vexit ?_ | refine vblock ?_ | refine vblockN ?_ | refine vblockR ?_ | refine vblockH ?_ | refine vrun_nil ?_ | refine vblockE rfl ?_ | refine vregion [] ?_ | refine vhrun_nil ?_) | ((with_reducible refine vcondT ?_ ?_); (focus (go_simp; done))) | ((with_reducible refine vcondF ?_ ?_); (focus (go_simp; done))) | ((with_reducible first | refine vrun_cons fun KK hKK => ?_ | refine vhrun_cons fun KK hKK => ?_); go_simp; refine hKK _ ?_; clear hKK KK) | ((with_reducible refine vcondS ?_ (fun ht => ?_) (fun ht => ?_)); (focus (go_simp; done)); (all_goals (simp [go_sem] at ht; replace ht := ht.out))))
    refine vdrawQ 12 3 11 0 (fun i => [.osl 0, I (r : Int), .sl 1 [[I (r : Int)]], .any, .vp [.sl 1 (n.places.map txtA), .sl 5 (n.roads.map Rd.av)], .vp [.sl 5 (n.roads.map Rd.av)], .sl 5 (n.roads.map Rd.av), I (r : Int), .vp RR.av, .vp [I RR.src, I RR.dst, I RR.metres, .sl 3 (RR.pts.map Pt.av)], I (F : Int)].getD i .any) [some (.arr 3 1 false (O.map intA ++ [[I (r : Int)]]))] (by kernel_rfl) (by kernel_rfl) (by kernel_rfl) rfl rfl rfl ⟨rfl, rfl⟩ ?_ ?_ ?_
    · intro s hs
      simp [Op.operands, Call.operands, lookQ, lastPr] at hs
      obtain ⟨hs1, hs2⟩ := hs
      unfold tailOp
      simp [hs1, hs2, go_sem]
      omega
    · intro i hi hc hm o ho bb hb E hE hv
      have hcs : i = 0 ∨ i = 1 ∨ i = 2 ∨ i = 4 ∨ i = 5 ∨ i = 6 ∨ i = 7 ∨ i = 8 ∨ i = 9 ∨ i = 10 := by omega
      rcases hcs with rfl | rfl | rfl | rfl | rfl | rfl | rfl | rfl | rfl | rfl
      all_goals
        simp only [List.getElem?_cons_succ, List.getElem?_cons_zero, Option.some.injEq] at ho
        subst ho
        simp [Op.operands, lookQ, lastPr, lkp] at hE
        clear hi hc hm hv
      · cases bb
        · simp [pgQ] at hE ⊢
          exact hE
        · exact absurd (hb rfl) (by simp only [Bool.not_eq_false]; kernel_rfl)
      · cases bb
        · simp [pgQ] at hE ⊢
          exact hE
        · exact absurd (hb rfl) (by simp only [Bool.not_eq_false]; kernel_rfl)
      · cases bb
        · simp [pgQ] at hE ⊢
          simp [Gives, hE, go_sem]
        · exact absurd (hb rfl) (by simp only [Bool.not_eq_false]; kernel_rfl)
      all_goals
        clear hb
        cases bb <;> simp [pgQ, purge, noOsl] at hE ⊢ <;> simp [Gives, hE, go_sem] <;> first | exact hr3 | (rw [if_pos hr1, List.getElem?_eq_getElem hr1, ← rdat_get hr1, hRR]; rfl)
    · simp only [endQ, List.range, List.range.loop, List.getElem?_cons_succ, List.getElem?_cons_zero, List.drop]
      repeat' (first | (with_reducible first | refine vseq ?_ | refine vthenN ?_ | refine vthenE ?_ | refine vthenR ?_ | refine vret ?_ | refine vskip ?_ | refine vexit ?_ | refine vblock ?_ | refine vblockN ?_ | refine vblockR ?_ | refine vblockH ?_ | refine vrun_nil ?_ | refine vblockE rfl ?_ | refine vregion [] ?_ | refine vhrun_nil ?_) | ((with_reducible refine vcondT ?_ ?_); (focus (go_simp; done))) | ((with_reducible refine vcondF ?_ ?_); (focus (go_simp; done))) | ((with_reducible first | refine vrun_cons fun KK hKK => ?_ | refine vhrun_cons fun KK hKK => ?_); go_simp; refine hKK _ ?_; clear hKK KK) | ((with_reducible refine vcondS ?_ (fun ht => ?_) (fun ht => ?_)); (focus (go_simp; done)); (all_goals (simp [go_sem] at ht; replace ht := ht.out))))
      refine hK _ (x + 1) (by omega) (by omega) ?_
      rw [HS.out, HF.out]
      go_simp
  · obtain rfl : x = 2 := by omega
    have e := HH.out.stop
    have o := HO.out
    have g := y_Reverse a b
    rw [e, o]
    clear e o
    repeat' (first | (with_reducible first | refine vseq ?_ | refine vthenN ?_ | refine vthenE ?_ | refine vthenR ?_ | refine vret ?_ | refine vskip ?_ | refine vexit ?_ | refine vblock ?_ | refine vblockN ?_ | refine vblockR ?_ | refine vblockH ?_ | refine vrun_nil ?_ | refine vblockE rfl ?_ | refine vhrun_nil ?_) | ((with_reducible refine vcondT ?_ ?_); (focus (go_simp; done))) | ((with_reducible refine vcondF ?_ ?_); (focus (go_simp; done))) | ((with_reducible first | refine vrun_cons fun KK hKK => ?_ | refine vhrun_cons fun KK hKK => ?_); go_simp; refine hKK _ ?_; clear hKK KK) | ((with_reducible refine vcondS ?_ (fun ht => ?_) (fun ht => ?_)); (focus (go_simp; done)); (all_goals (simp [go_sem] at ht; replace ht := ht.out))))
    refine vregion [] ?_
    repeat' (first | (with_reducible first | refine vseq ?_ | refine vthenN ?_ | refine vthenE ?_ | refine vthenR ?_ | refine vret ?_ | refine vskip ?_ | refine vexit ?_ | refine vblock ?_ | refine vblockN ?_ | refine vblockR ?_ | refine vblockH ?_ | refine vrun_nil ?_ | refine vblockE rfl ?_ | refine vhrun_nil ?_) | ((with_reducible refine vcondT ?_ ?_); (focus (go_simp; done))) | ((with_reducible refine vcondF ?_ ?_); (focus (go_simp; done))) | ((with_reducible first | refine vrun_cons fun KK hKK => ?_ | refine vhrun_cons fun KK hKK => ?_); go_simp; refine hKK _ ?_; clear hKK KK) | ((with_reducible refine vcondS ?_ (fun ht => ?_) (fun ht => ?_)); (focus (go_simp; done)); (all_goals (simp [go_sem] at ht; replace ht := ht.out))))
    refine vregionL (vl_run [] 1 ⟨rfl, rfl⟩ ?_)
    simp only [List.take, List.drop]
    repeat' (first | (with_reducible first | refine vseq ?_ | refine vthenN ?_ | refine vthenE ?_ | refine vthenR ?_ | refine vret ?_ | refine vskip ?_ | refine vexit ?_ | refine vblock ?_ | refine vblockN ?_ | refine vblockR ?_ | refine vblockH ?_ | refine vrun_nil ?_ | refine vblockE rfl ?_ | refine vhrun_nil ?_) | ((with_reducible refine vcondT ?_ ?_); (focus (go_simp; done))) | ((with_reducible refine vcondF ?_ ?_); (focus (go_simp; done))) | ((with_reducible first | refine vrun_cons fun KK hKK => ?_ | refine vhrun_cons fun KK hKK => ?_); go_simp; refine hKK _ ?_; clear hKK KK) | ((with_reducible refine vcondS ?_ (fun ht => ?_) (fun ht => ?_)); (focus (go_simp; done)); (all_goals (simp [go_sem] at ht; replace ht := ht.out))))
    refine vl_call [0] [] [0] [some (.arr 3 1 false [[I b], [I a]])] (.tup []) rfl (by go_simp) ?_ ?_
    · unfold HCall
      go_simp
      refine ⟨_, _, _, g, ?_⟩
      go_simp
      kernel_rfl
    · go_simp
      refine vl_nil ?_
      repeat' (first | (with_reducible first | refine vseq ?_ | refine vthenN ?_ | refine vthenE ?_ | refine vthenR ?_ | refine vret ?_ | refine vskip ?_ | refine vexit ?_ | refine vblock ?_ | refine vblockN ?_ | refine vblockR ?_ | refine vblockH ?_ | refine vrun_nil ?_ | refine vblockE rfl ?_ | refine vregion [] ?_ | refine vhrun_nil ?_) | ((with_reducible refine vcondT ?_ ?_); (focus (go_simp; done))) | ((with_reducible refine vcondF ?_ ?_); (focus (go_simp; done))) | ((with_reducible first | refine vrun_cons fun KK hKK => ?_ | refine vhrun_cons fun KK hKK => ?_); go_simp; refine hKK _ ?_; clear hKK KK) | ((with_reducible refine vcondS ?_ (fun ht => ?_) (fun ht => ?_)); (focus (go_simp; done)); (all_goals (simp [go_sem] at ht; replace ht := ht.out))))
      exact ⟨0, rfl, rfl⟩
end Go.Proofs.Ytcndlalhkkjocaa

/-! SYS: Walks on plain values: the examples of chapter 3 are so; no condition. -/
namespace Go.Proofs.Ytcndlalhkkjocaa
open Go.RowKit
set_option maxRecDepth 100000
set_option maxHeartbeats 1000000
def exN : Nt := ⟨[⟨#[97]⟩, ⟨#[98]⟩, ⟨#[99]⟩], [⟨⟨#[120]⟩, 0, 1, 1000, [⟨0, 100, 200⟩, ⟨3600, 700, 800⟩]⟩, ⟨⟨#[121]⟩, 1, 2, 500, [⟨0, 60, 90⟩]⟩, ⟨⟨#[122]⟩, 0, 2, 2000, [⟨0, 900, 900⟩]⟩]⟩
theorem isName_size {s : ByteArray} (h : isName s = true) : s.size ≤ 12 := by
  unfold isName at h
  simp only [Bool.and_eq_true, decide_eq_true_eq] at h
  omega
theorem RightNet.smallN {n : Nt} (h : RightNet n) : SmallN n :=
  ⟨by have := h.p20; omega, by have := h.r60; omega, fun k hk => by have := isName_size (h.names k hk); omega, fun k hk => by have := isName_size (h.road k hk).name; omega, fun k hk => by have := (h.road k hk).pts.few; omega⟩
theorem ex_right : RightNet exN := netE_zero (by kernel_rfl)
theorem y_Net : VC Try.prog 16 [] (netA exN) := by
  refine VC_of Try.func16 rfl (by kernel_rfl) (by kernel_rfl) rfl fun M0 w0 => ?_
  simp only [Try.ntmps16, Try.results16, enumA]
  repeat' (first | (with_reducible first | refine vseq ?_ | refine vthenN ?_ | refine vthenE ?_ | refine vthenR ?_ | refine vret ?_ | refine vskip ?_ | refine vexit ?_ | refine vblock ?_ | refine vblockN ?_ | refine vblockR ?_ | refine vblockH ?_ | refine vrun_nil ?_ | refine vblockE rfl ?_ | refine vregion [] ?_ | refine vhrun_nil ?_) | ((with_reducible refine vcondT ?_ ?_); (focus (go_simp; done))) | ((with_reducible refine vcondF ?_ ?_); (focus (go_simp; done))) | ((with_reducible first | refine vrun_cons fun KK hKK => ?_ | refine vhrun_cons fun KK hKK => ?_); go_simp; refine hKK _ ?_; clear hKK KK) | ((with_reducible refine vcondS ?_ (fun ht => ?_) (fun ht => ?_)); (focus (go_simp; done)); (all_goals (simp [go_sem] at ht; replace ht := ht.out))))
  go_simp
  exact ⟨rfl, rfl⟩
theorem grow_two {n : Nt} {al : Rd → Int → Int} {num : Int} {M a : Nat} {s : Gs} (h3 : decide (2 ≤ growN n num M a) = true)
    (h1 : roundG n al n.roads.length ⟨lab0 n.places.length a num, List.replicate n.places.length (-1), false⟩ = ⟨s.L, s.W, true⟩) (h2 : roundG n al n.roads.length ⟨s.L, s.W, false⟩ = ⟨s.L, s.W, false⟩) : growL n al num M a = (s.L, s.W) := by
  obtain ⟨k, hk⟩ : ∃ k, growN n num M a = k + 2 := ⟨growN n num M a - 2, by have := of_decide_eq_true h3; omega⟩
  unfold growL
  rw [hk, growF, h1, if_pos rfl]
  simp only
  rw [growF, h2, if_neg (by simp)]
theorem ex_M : growL exN alM 0 100000 0 = ([0, 1000, 1500], [-1, 0, 1]) := grow_two (s := ⟨[0, 1000, 1500], [-1, 0, 1], true⟩) (by kernel_rfl) (by kernel_rfl) (by kernel_rfl)
theorem ex_lo : growL exN (alT false) 0 7200 0 = ([0, 100, 160], [-1, 0, 1]) := grow_two (s := ⟨[0, 100, 160], [-1, 0, 1], true⟩) (by kernel_rfl) (by kernel_rfl) (by kernel_rfl)
theorem ex_hi : growL exN (alT true) 0 7200 0 = ([0, 200, 290], [-1, 0, 1]) := grow_two (s := ⟨[0, 200, 290], [-1, 0, 1], true⟩) (by kernel_rfl) (by kernel_rfl) (by kernel_rfl)
theorem y_exE : VC Try.prog 11 [netA exN, tripA ⟨0, 2, 0⟩] (.tup [.agg [I 160, I 290], I 0]) := by
  have g := y_Estimate exN ⟨0, 2, 0⟩ ex_right ex_right.smallN (by kernel_rfl)
  have e : estE exN ⟨0, 2, 0⟩ = ((160, 290), 0) := by
    unfold estE loL hiL
    show (if iat (growL exN (alT false) 0 7200 0).1 2 = -1 then _ else ((iat (growL exN (alT false) 0 7200 0).1 2, iat (growL exN (alT true) 0 7200 0).1 2), 0)) = _
    rw [ex_lo, ex_hi]
    rfl
  rw [e] at g
  exact g
theorem y_exS : VC Try.prog 17 [netA exN, I 0, I 2] (.tup [intsA [0, 1], I 1500, I 0]) := by
  have hs := ex_right.smallN
  have g1 := y_open exN ex_right hs
  have g2 : VC Try.prog 31 [snetA exN, I 0] (I 0) := y_placeErr exN 0 hs.p
  have g3 : VC Try.prog 31 [snetA exN, I 2] (I 0) := y_placeErr exN 2 hs.p
  have e3 : VC Try.prog 29 [.sl 1 ([0, 0, 0].map intA)] (I 0) := p_first [0, 0, 0] (by decide)
  have g4 := y_heights exN 0 ex_right (by decide)
  rw [ex_M] at g4
  have g5 := VC_of_own (y_way exN [0, 1000, 1500] [-1, 0, 1] (fun x => [1, 0, -1].getD x 0) (fun x => [2, 1, 0].getD x 0) 1 0 ⟨fun x hx => by
    have : x = 0 ∨ x = 1 := by omega
    rcases this with rfl | rfl
    · exact ⟨1, by decide, rfl, rfl⟩
    · exact ⟨0, by decide, rfl, rfl⟩, fun x hx => by
    have : x = 0 ∨ x = 1 ∨ x = 2 := by omega
    rcases this with rfl | rfl | rfl <;> exact ⟨by decide, rfl⟩, rfl⟩ (by decide) (by decide) rfl)
  generalize exN = n at *
  clear hs
  refine VC_of Try.func17 rfl (by kernel_rfl) (by kernel_rfl) rfl fun M0 w0 => ?_
  simp only [Try.ntmps17, Try.results17, enumA]
  repeat' (first | (with_reducible first | refine vseq ?_ | refine vthenN ?_ | refine vthenE ?_ | refine vthenR ?_ | refine vret ?_ | refine vskip ?_ | refine vexit ?_ | refine vblock ?_ | refine vblockN ?_ | refine vblockR ?_ | refine vblockH ?_ | refine vrun_nil ?_ | refine vblockE rfl ?_ | refine vregion [] ?_ | refine vhrun_nil ?_) | ((with_reducible refine vcondT ?_ ?_); (focus (go_simp; done))) | ((with_reducible refine vcondF ?_ ?_); (focus (go_simp; done))) | ((with_reducible first | refine vrun_cons fun KK hKK => ?_ | refine vhrun_cons fun KK hKK => ?_); go_simp; (first | (refine ⟨_, g1, ?_⟩) | (refine ⟨_, g2, ?_⟩) | (refine ⟨_, g3, ?_⟩) | (refine ⟨_, e3, ?_⟩) | (refine ⟨_, g4, ?_⟩) | (refine ⟨_, g5, ?_⟩) | skip); refine hKK _ ?_; clear hKK KK) | ((refine vdrawL 10 9 [] rfl (by kernel_rfl) (by kernel_rfl) ?_); simp only [List.take, List.drop]) | ((refine vdrawL 12 12 [] rfl (by kernel_rfl) (by kernel_rfl) ?_); simp only [List.take, List.drop]) | ((with_reducible refine vcondS ?_ (fun ht => ?_) (fun ht => ?_)); (focus (go_simp; done)); (all_goals (simp [go_sem] at ht; replace ht := ht.out))))
  go_simp
theorem y_streeted : VC Try.prog 5 [] (B true) := by
  have g1 := y_Net
  have g2 := y_exE
  have g3 := y_exS
  generalize exN = n at *
  refine VC_of Try.func5 rfl (by kernel_rfl) (by kernel_rfl) rfl fun M0 w0 => ?_
  simp only [Try.ntmps5, Try.results5, enumA]
  repeat' (first | (with_reducible first | refine vseq ?_ | refine vthenN ?_ | refine vthenE ?_ | refine vthenR ?_ | refine vret ?_ | refine vskip ?_ | refine vexit ?_ | refine vblock ?_ | refine vblockN ?_ | refine vblockR ?_ | refine vblockH ?_ | refine vrun_nil ?_ | refine vblockE rfl ?_ | refine vregion [] ?_ | refine vhrun_nil ?_) | ((with_reducible refine vcondT ?_ ?_); (focus (go_simp; done))) | ((with_reducible refine vcondF ?_ ?_); (focus (go_simp; done))) | ((with_reducible first | refine vrun_cons fun KK hKK => ?_ | refine vhrun_cons fun KK hKK => ?_); go_simp; (first | (with_reducible refine ⟨_, g1, ?_⟩) | (refine ⟨_, g2, ?_⟩) | (refine ⟨_, g3, ?_⟩) | skip); refine hKK _ ?_; clear hKK KK) | ((with_reducible refine vcondS ?_ (fun ht => ?_) (fun ht => ?_)); (focus (go_simp; done)); (all_goals (simp [go_sem] at ht; replace ht := ht.out))) | ((apply vrun_consG0 rfl); (focus (go_simp <;> exact rfl)); (focus (go_simp; done)); (focus (intro hb0; replace hb0 := hb0.out; go_simp <;> (first | exact rfl | exact g1 | exact g2 | exact g3 | exact ⟨g1, rfl⟩ | exact ⟨g2, rfl⟩ | exact ⟨g3, rfl⟩))); intro KK hKK; go_simp; refine hKK _ ?_; clear hKK KK))
  go_simp
end Go.Proofs.Ytcndlalhkkjocaa

/-! SYT: Chapter 3: the true arrivals lie in the estimate; plain functions, no condition. -/
namespace Go.Proofs.Ytcndlalhkkjocaa
open Go.RowKit
/-- A net whose roads tell their numbers in place of their metres. -/
def idxN (n : Nt) : Nt := ⟨n.places, (List.range n.roads.length).map fun i => ⟨(rdat n.roads i).name, (rdat n.roads i).src, (rdat n.roads i).dst, (i : Int), (rdat n.roads i).pts⟩⟩
theorem idx_len (n : Nt) : (idxN n).roads.length = n.roads.length := by simp [idxN]
theorem idx_at (n : Nt) {i : Nat} (h : i < n.roads.length) : rdat (idxN n).roads i = ⟨(rdat n.roads i).name, (rdat n.roads i).src, (rdat n.roads i).dst, (i : Int), (rdat n.roads i).pts⟩ := by
  rw [rdat_get (by rw [idx_len]; exact h)]
  simp [idxN]
def partT (ps : List Int) (i : Nat) : Int := modF (iat ps i) 1001
theorem modF_rng (x : Int) : 0 ≤ modF x 1001 ∧ modF x 1001 ≤ 1000 := by
  have := tmod_lt x 1001 (by decide)
  unfold modF
  split <;> omega
/-- How long a road truly takes. -/
def trueT (p lo hi : Int) : Int := floorF (lo * (1000 - p) + hi * p) 1000
theorem true_btw {p lo hi : Int} (h0 : 0 ≤ p) (h1 : p ≤ 1000) (h : lo ≤ hi) : lo ≤ trueT p lo hi ∧ trueT p lo hi ≤ hi := by
  unfold trueT
  rw [floorF_eq _ _ (by decide)]
  have k1 : 0 ≤ (hi - lo) * p := Int.mul_nonneg (by omega) h0
  have k2 : (hi - lo) * p ≤ (hi - lo) * 1000 := Int.mul_le_mul_of_nonneg_left h1 (by omega)
  have e1 : lo * (1000 - p) = lo * 1000 - lo * p := Int.mul_sub _ _ _
  have e2 : (hi - lo) * p = hi * p - lo * p := Int.sub_mul _ _ _
  omega
def alV (ps : List Int) (r : Rd) (t : Int) : Int := t + trueT (partT ps r.metres.toNat) (takesF false r.pts t) (takesF true r.pts t)
theorem alV_btw (ps : List Int) (r : Rd) (h : RightPts r.pts) {t : Int} (h0 : 0 ≤ t) : alT false r t ≤ alV ps r t ∧ alV ps r t ≤ alT true r t := by
  have := true_btw (modF_rng (iat ps r.metres.toNat)).1 (modF_rng (iat ps r.metres.toNat)).2 (takes_lohi h h0)
  unfold alV alT partT
  omega
theorem along_V {n : Nt} (h : RightNet n) (ps : List Int) {num : Int} (h0 : 0 ≤ num) : Along (idxN n) (alV ps) num 7200 :=
  ⟨h0, h.p20, fun i hi => by rw [idx_len] at hi; rw [idx_at n hi]; have := (h.road i hi).src; exact ⟨this.1, by show _ < n.places.length; simp only; omega⟩,
    fun i hi => by rw [idx_len] at hi; rw [idx_at n hi]; have := (h.road i hi).dst; exact ⟨this.1, by show _ < n.places.length; simp only; omega⟩, fun i hi t h1 _ => by
    rw [idx_len] at hi
    rw [idx_at n hi]
    have hp := (h.road i hi).pts
    have a1 := alV_btw ps ⟨(rdat n.roads i).name, (rdat n.roads i).src, (rdat n.roads i).dst, (i : Int), (rdat n.roads i).pts⟩ hp (t := t) (by omega)
    have a2 := takes_rng hp false (t := t) (by omega)
    have a3 := takes_rng hp true (t := t) (by omega)
    unfold alT at a1
    simp only at a1
    omega⟩
/-- Rounds behind one another. -/
def runV (n : Nt) (al : Rd → Int → Int) : Nat → Gs → Gs
  | 0, s => s
  | k + 1, s => roundG n al n.roads.length (runV n al k s)
theorem runV_ok {n : Nt} {al : Rd → Int → Int} {num : Int} {M : Nat} {s : Gs} (A : Along n al num M) (h : GI n num M s) : ∀ k, GI n num M (runV n al k s)
  | 0 => h
  | k + 1 => (roundG_ok A (runV_ok A h k) _ (Nat.le_refl _)).1
/-! ### None is less than the estimate's beginning -/
def Low (n : Nt) (L X : List Int) : Prop := ∀ v, v < n.places.length → iat X v ≠ -1 → iat L v ≠ -1 ∧ iat L v ≤ iat X v
theorem step_low {n : Nt} (h : RightNet n) (ps : List Int) {num : Int} (h0 : 0 ≤ num) {a : Nat} {L : List Int} (hL : Labels n (alT false) num 7200 a L) {s : Gs} {i : Nat} (hi : i < n.roads.length) (hg : GI (idxN n) num 7200 s) (hl : Low n L s.L) : Low n L (stepG (idxN n) (alV ps) i s).L := by
  unfold stepG
  rw [idx_at n hi]
  simp only
  split
  · exact hl
  · rename_i h1
    split
    · intro v hv hne
      have hd := (h.road i hi).dst
      have hs := (h.road i hi).src
      have hvl : (rdat n.roads i).dst.toNat < s.L.length := by rw [hg.L]; show _ < n.places.length; omega
      have hul : (rdat n.roads i).src.toNat < n.places.length := by omega
      simp only at hne ⊢
      rw [iat_set _ _ _ _ hvl] at hne ⊢
      by_cases he : v = (rdat n.roads i).dst.toNat
      · rw [if_pos he]
        obtain ⟨g1, g2⟩ := hl _ hul h1
        obtain ⟨g3, g4⟩ := hL.fix i hi g1
        have g5 := (hL.rng _ hul).resolve_left g1
        have g6 := (mono_T h false h0).mono i hi _ _ g5.1 g2
        have g7 := (alV_btw ps ⟨(rdat n.roads i).name, (rdat n.roads i).src, (rdat n.roads i).dst, (i : Int), (rdat n.roads i).pts⟩ (h.road i hi).pts (t := iat s.L (rdat n.roads i).src.toNat) (by omega)).1
        rw [he]
        refine ⟨g3, ?_⟩
        unfold alT at g4 g6 g7
        simp only at g7
        omega
      · rw [if_neg he] at hne ⊢
        exact hl v hv hne
    · exact hl
theorem round_low {n : Nt} (h : RightNet n) (ps : List Int) {num : Int} (h0 : 0 ≤ num) {a : Nat} {L : List Int} (hL : Labels n (alT false) num 7200 a L) {s : Gs} (hg : GI (idxN n) num 7200 s) (hl : Low n L s.L) : ∀ k, k ≤ n.roads.length → Low n L (roundG (idxN n) (alV ps) k s).L
  | 0, _ => hl
  | k + 1, hk => step_low h ps h0 hL (by omega) (roundG_ok (along_V h ps h0) hg k (by rw [idx_len]; omega)).1 (round_low h ps h0 hL hg hl k (by omega))
theorem run_low {n : Nt} (h : RightNet n) (ps : List Int) {num : Int} (h0 : 0 ≤ num) {a : Nat} {L : List Int} (hL : Labels n (alT false) num 7200 a L) {s : Gs} (hg : GI (idxN n) num 7200 s) (hl : Low n L s.L) : ∀ k, Low n L (runV (idxN n) (alV ps) k s).L
  | 0 => hl
  | k + 1 => by
    rw [runV]
    exact round_low h ps h0 hL (runV_ok (along_V h ps h0) hg k) (run_low h ps h0 hL hg hl k) _ (by rw [idx_len]; exact Nat.le_refl _)
/-! ### None is more than the estimate's end -/
def Dec (n : Nt) (X Y : List Int) : Prop := ∀ v, v < n.places.length → iat X v ≠ -1 → iat Y v ≠ -1 ∧ iat Y v ≤ iat X v
theorem step_dec {n : Nt} {al : Rd → Int → Int} {num : Int} {M : Nat} {s : Gs} {i : Nat} (A : Along n al num M) (hi : i < n.roads.length) (hg : GI n num M s) : Dec n s.L (stepG n al i s).L := by
  intro v hv hne
  unfold stepG
  split
  · exact ⟨hne, Int.le_refl _⟩
  · rename_i h1
    split
    · rename_i h2
      have hd := A.dst i hi
      have hs := A.src i hi
      have hvl : (rdat n.roads i).dst.toNat < s.L.length := by rw [hg.L]; exact hd.2
      simp only
      rw [iat_set _ _ _ _ hvl]
      split
      · rename_i he
        subst he
        have g1 := h2.resolve_left hne
        have g2 := (hg.top A.p20 hs.2).resolve_left h1
        have g3 := A.up i hi _ g2.1 (by omega)
        have g4 := A.num0
        omega
      · exact ⟨hne, Int.le_refl _⟩
    · exact ⟨hne, Int.le_refl _⟩
theorem round_dec {n : Nt} {al : Rd → Int → Int} {num : Int} {M : Nat} {s : Gs} (A : Along n al num M) (hg : GI n num M s) (k : Nat) : ∀ m, k + m ≤ n.roads.length → Dec n (roundG n al k s).L (roundG n al (k + m) s).L
  | 0, _ => fun v _ hne => ⟨hne, Int.le_refl _⟩
  | m + 1, hm => fun v hv hne => by
    obtain ⟨g1, g2⟩ := round_dec A hg k m (by omega) v hv hne
    obtain ⟨g3, g4⟩ := step_dec A (i := k + m) (by omega) (roundG_ok A hg (k + m) (by omega)).1 v hv g1
    exact ⟨g3, Int.le_trans g4 g2⟩
def UpT (n : Nt) (num : Int) (a k : Nat) (X : List Int) : Prop := ∀ w v, wk n a w v → w.length ≤ k → iat X v ≠ -1 ∧ iat X v ≤ ar n (alT true) num w
theorem round_up {n : Nt} (h : RightNet n) (ps : List Int) {num : Int} (h0 : 0 ≤ num) {a k : Nat} (ha : a < n.places.length) {s : Gs} (hg : GI (idxN n) num 7200 s) (hu : UpT n num a k s.L) : UpT n num a (k + 1) (roundG (idxN n) (alV ps) (idxN n).roads.length s).L := by
  have A := along_V h ps h0
  have H := mono_T h true h0
  have hall : ∀ i, i ≤ n.roads.length → Dec n s.L (roundG (idxN n) (alV ps) i s).L := fun i hi => by
    have := round_dec A hg 0 i (by rw [idx_len]; omega)
    rw [Nat.zero_add] at this
    exact this
  have hvl : ∀ {w : List Nat} {v : Nat}, wk n a w v → v < n.places.length := fun {w v} hw => by
    cases w with
    | nil => rw [show v = a from hw]; exact ha
    | cons i w =>
      have := (h.road i hw.1).dst
      have := hw.2.1
      omega
  intro w v hw hk
  by_cases hlen : w.length ≤ k
  · obtain ⟨g1, g2⟩ := hu w v hw hlen
    obtain ⟨g3, g4⟩ := hall n.roads.length (Nat.le_refl _) v (hvl hw) g1
    rw [idx_len]
    exact ⟨g3, Int.le_trans g4 g2⟩
  · cases w with
    | nil => simp at hlen
    | cons i w =>
      obtain ⟨hi, hv, hw'⟩ := hw
      have hlen' : w.length ≤ k := by simp at hk; omega
      obtain ⟨g1, g2⟩ := hu w _ hw' hlen'
      have hu1 := hvl hw'
      obtain ⟨g3, g4⟩ := hall i (by omega) _ hu1 g1
      have hgi := (roundG_ok A hg i (by rw [idx_len]; omega)).1
      have g5 := (hgi.top A.p20 hu1).resolve_left g3
      have hd := (h.road i hi).dst
      have key : iat (stepG (idxN n) (alV ps) i (roundG (idxN n) (alV ps) i s)).L v ≠ -1 ∧ iat (stepG (idxN n) (alV ps) i (roundG (idxN n) (alV ps) i s)).L v ≤ alT true (rdat n.roads i) (iat (roundG (idxN n) (alV ps) i s).L (rdat n.roads i).src.toNat) := by
        have g6 := alV_btw ps ⟨(rdat n.roads i).name, (rdat n.roads i).src, (rdat n.roads i).dst, (i : Int), (rdat n.roads i).pts⟩ (h.road i hi).pts (t := iat (roundG (idxN n) (alV ps) i s).L (rdat n.roads i).src.toNat) (by omega)
        have g7 := (mono_T h false h0).up i hi _ g5.1
        unfold alT at g6 g7
        simp only at g6
        unfold stepG
        rw [idx_at n hi]
        simp only
        rw [if_neg g3]
        have hvl2 : (rdat n.roads i).dst.toNat < (roundG (idxN n) (alV ps) i s).L.length := by rw [hgi.L]; show _ < n.places.length; omega
        split
        · simp only
          rw [iat_set _ _ _ _ hvl2, if_pos hv.symm]
          unfold alT
          omega
        · rename_i hn
          rw [not_or] at hn
          rw [← hv]
          refine ⟨hn.1, ?_⟩
          unfold alT
          omega
      have hrest := round_dec A hg (i + 1) (n.roads.length - (i + 1)) (by rw [idx_len]; omega) v (by rw [← hv]; show _ < n.places.length; omega) key.1
      rw [show i + 1 + (n.roads.length - (i + 1)) = n.roads.length by omega] at hrest
      rw [idx_len]
      refine ⟨hrest.1, ?_⟩
      have g8 := H.mono i hi _ _ g5.1 (Int.le_trans g4 g2)
      have g9 := key.2
      have g10 := hrest.2
      rw [ar]
      have e : iat (roundG (idxN n) (alV ps) (i + 1) s).L v = iat (stepG (idxN n) (alV ps) i (roundG (idxN n) (alV ps) i s)).L v := rfl
      rw [e] at g10
      omega
theorem run_up {n : Nt} (h : RightNet n) (ps : List Int) {num : Int} (h0 : 0 ≤ num) {a : Nat} (ha : a < n.places.length) {s : Gs} (hg : GI (idxN n) num 7200 s) (hs : Src num a s.L) : ∀ k, UpT n num a k (runV (idxN n) (alV ps) k s).L
  | 0 => fun w v hw hk => by
    have : w = [] := List.eq_nil_of_length_eq_zero (by omega)
    subst this
    rw [show v = a from hw]
    exact hs
  | k + 1 => round_up h ps h0 ha (runV_ok (along_V h ps h0) hg k) (run_up h ps h0 ha hg hs k)
theorem walk_lab {n : Nt} {al : Rd → Int → Int} {num : Int} {M a : Nat} {L : List Int} (hL : Labels n al num M a L) : ∀ {w : List Nat} {v : Nat}, wk n a w v → iat L v ≠ -1
  | [], v, hw => by rw [show v = a from hw]; exact hL.src.1
  | i :: w, v, hw => by
    have := (hL.fix i hw.1 (walk_lab hL hw.2.2)).1
    rwa [hw.2.1] at this
/-- The true arrivals lie in the estimate. -/
theorem true_law {n : Nt} (h : RightNet n) (ps : List Int) {num : Int} (h0 : 0 ≤ num) {a b : Nat} (ha : a < n.places.length) (hb : b < n.places.length) {L H X : List Int}
    (hL : L = (growL n (alT false) num 7200 a).1) (hH : H = (growL n (alT true) num 7200 a).1) (hX : X = (runV (idxN n) (alV ps) n.places.length ⟨lab0 n.places.length a num, List.replicate n.places.length (-1), true⟩).L) :
    (iat X b = -1 ↔ iat L b = -1) ∧ (iat X b ≠ -1 → iat L b ≤ iat X b ∧ iat X b ≤ iat H b) := by
  have A1 := along_T h false h0
  have A2 := along_T h true h0
  have l1 := (growL_ok A1 ha).1
  have l2 := (growL_ok A2 ha).1
  have w1 := growL_wit A1 (mono_T h false h0) ha
  have w2 := growL_wit A2 (mono_T h true h0) ha
  obtain ⟨i1, i2⟩ := lab0_ok (n := idxN n) (M := 7200) h0 (a := a) ha
  have hsrc : ∀ i, i < n.roads.length → (rdat n.roads i).src.toNat < n.places.length := fun i hi => by have := (h.road i hi).src; omega
  have low0 : Low n L (lab0 n.places.length a num) := fun v hv hne => by
    rw [lab0, iat_set _ _ _ _ (by simpa using ha), iat_rep hv] at hne ⊢
    split at hne
    · rename_i he
      rw [if_pos he, he, hL]
      exact l1.src
    · exact absurd rfl hne
  have lo := run_low h ps h0 (hL ▸ l1) i1 low0 n.places.length
  have up := run_up h ps h0 ha i1 i2 n.places.length
  change Low n L (runV (idxN n) (alV ps) n.places.length ⟨lab0 n.places.length a num, List.replicate n.places.length (-1), true⟩).L at lo
  change UpT n num a n.places.length (runV (idxN n) (alV ps) n.places.length ⟨lab0 n.places.length a num, List.replicate n.places.length (-1), true⟩).L at up
  rw [← hX] at lo up
  rw [← hL] at l1 w1
  rw [← hH] at l2 w2
  have back : iat L b ≠ -1 → iat X b ≠ -1 ∧ iat X b ≤ iat H b := fun hne => by
    obtain ⟨w, g1, _⟩ := w1 b hb hne
    obtain ⟨w', g3, g4⟩ := w2 b hb (walk_lab l2 g1)
    obtain ⟨w2', g5, g6, g7⟩ := short (mono_T h true h0) hsrc hb w'.length (Nat.le_refl _) g3
    obtain ⟨g8, g9⟩ := up w2' b g5 (by omega)
    exact ⟨g8, by omega⟩
  refine ⟨⟨fun hx => Classical.byContradiction fun hn => (back hn).1 hx, fun hl => Classical.byContradiction fun hn => (lo b hb hn).1 hl⟩, fun hn => ?_⟩
  obtain ⟨g1, g2⟩ := lo b hb hn
  exact ⟨g2, (back g1).2⟩
end Go.Proofs.Ytcndlalhkkjocaa

/-! SYV: The top law of chapter 3 on true arrivals: true whatever the input is. -/
namespace Go.Proofs.Ytcndlalhkkjocaa
open Go.RowKit
set_option maxRecDepth 100000
set_option maxHeartbeats 1000000
theorem mul_to {a b : Int} (h1 : 0 ≤ a) (h2 : a ≤ 7200) (h3 : 0 ≤ b) (h4 : b ≤ 1000) : 0 ≤ a * b ∧ a * b ≤ 7200000 := by
  have k1 : a * b ≤ 7200 * b := Int.mul_le_mul_of_nonneg_right h2 h3
  have k2 := Int.mul_nonneg h1 h3
  omega
theorem y_streetTrue (n : Nt) (i : Nat) (t p : Int) (h : RightNet n) (hi : i < n.roads.length) (h0 : 0 ≤ t) (h1 : t ≤ 604800) (p0 : 0 ≤ p) (p1 : p ≤ 1000) :
    VC Try.prog 9 [netA n, I (i : Int), I t, I p] (.tup [I (trueT p (takesF false (rdat n.roads i).pts t) (takesF true (rdat n.roads i).pts t)), B true]) := by
  have hs := h.smallN
  have g1 := y_Copy n hs
  have g2 := y_Takes n i t h hs hi h0 h1
  have r1 := takes_rng (h.road i hi).pts false h0
  have r2 := takes_rng (h.road i hi).pts true h0
  have r3 := takes_lohi (h.road i hi).pts h0
  unfold trueT
  generalize takesF false (rdat n.roads i).pts t = A at *
  generalize takesF true (rdat n.roads i).pts t = Z at *
  have g3 := b_within A 0 Z
  rw [inR_ok r1.1 r3] at g3
  have q1 : ¬ (7200 : Int) < Z := by omega
  have m1 := mul_to (a := A) (b := 1000 - p) r1.1 r1.2 (by omega) (by omega)
  have m2 := mul_to (a := Z) (b := p) r2.1 r2.2 p0 p1
  have u1 := wrap_eq (x := 1000 - p) (by omega) (by omega)
  have u2 := wrap_eq (x := A * (1000 - p)) (by omega) (by omega)
  have u3 := wrap_eq (x := Z * p) (by omega) (by omega)
  have u4 := wrap_eq (x := A * (1000 - p) + Z * p) (by omega) (by omega)
  have g4 := b_Floor (A * (1000 - p) + Z * p) 1000 (by omega) (by omega) (by decide) (by decide)
  clear h hs r1 r2 r3 m1 m2
  refine VC_of Try.func9 rfl (by kernel_rfl) (by kernel_rfl) rfl fun M0 w0 => ?_
  simp only [Try.ntmps9, Try.results9, enumA]
  repeat' (first | (with_reducible first | refine vseq ?_ | refine vthenN ?_ | refine vthenE ?_ | refine vthenR ?_ | refine vret ?_ | refine vskip ?_ | refine vexit ?_ | refine vblock ?_ | refine vblockN ?_ | refine vblockR ?_ | refine vblockH ?_ | refine vrun_nil ?_ | refine vblockE rfl ?_ | refine vregion [] ?_ | refine vhrun_nil ?_) | ((with_reducible refine vcondT ?_ ?_); (focus (go_simp; done))) | ((with_reducible refine vcondF ?_ ?_); (focus (go_simp; done))) | ((with_reducible first | refine vrun_cons fun KK hKK => ?_ | refine vhrun_cons fun KK hKK => ?_); go_simp; (first | (with_reducible refine ⟨_, g1, ?_⟩) | (with_reducible refine ⟨_, g2, ?_⟩) | (with_reducible refine ⟨_, g3, ?_⟩) | (with_reducible refine ⟨_, g4, ?_⟩) | skip); refine hKK _ ?_; clear hKK KK) | ((with_reducible refine vcondS ?_ (fun ht => ?_) (fun ht => ?_)); (focus (go_simp; done)); (all_goals (simp [go_sem] at ht; replace ht := ht.out))) | ((apply vrun_consG0 rfl); (focus (go_simp <;> exact rfl)); (focus (go_simp; done)); (focus (intro hb0; replace hb0 := hb0.out; go_simp <;> (first | exact rfl | exact g1 | exact g2 | exact g3 | exact g4 | exact ⟨g1, rfl⟩ | exact ⟨g2, rfl⟩ | exact ⟨g3, rfl⟩ | exact ⟨g4, rfl⟩))); intro KK hKK; go_simp; refine hKK _ ?_; clear hKK KK))
  go_simp
theorem GI.top7 {n : Nt} {num : Int} {M : Nat} {s : Gs} (h : GI n num M s) (h7 : n.places.length ≤ 7) {v : Nat} (hv : v < n.places.length) : iat s.L v = -1 ∨ (num ≤ iat s.L v ∧ iat s.L v ≤ num + 6 * (M : Int)) := by
  rcases h.rng v hv with h1 | ⟨h1, h2⟩
  · exact .inl h1
  · refine .inr ⟨h1, Int.le_trans h2 ?_⟩
    have hc := cnt_le s.L
    rw [h.L] at hc
    have : ((cnt s.L - 1 : Nat) : Int) * (M : Int) ≤ 6 * (M : Int) := Int.mul_le_mul_of_nonneg_right (by omega) (by omega)
    omega
theorem few_seven {n : Nt} (h : fewN n = true) (h20 : n.places.length ≤ 20) : n.places.length ≤ 7 := by
  unfold fewN fewH at h
  simp only [Bool.and_eq_true, Bool.not_eq_true', Bool.or_eq_false_iff, Bool.and_eq_false_iff, decide_eq_false_iff_not] at h
  omega
@[go_sem] theorem runV_0 (n : Nt) (al : Rd → Int → Int) (s : Gs) : runV n al 0 s = s := rfl
theorem l_True (n : Nt) (t : Tr) (ps : List Int) (hp : n.places.length ≤ 9223372036854775807) (hr : n.roads.length ≤ 9223372036854775807) : VC Try.prog 3 [netA n, tripA t, intsA ps] (B true) := by
  have ha := y_streeted
  have h0 := y_Few n hp hr
  cases hs : fewN n
  · rw [hs] at h0
    clear hs
    refine VC_of Try.func3 rfl (by kernel_rfl) (by kernel_rfl) rfl fun M0 w0 => ?_
    simp only [Try.ntmps3, Try.results3, enumA]
    repeat' (first | (with_reducible first | refine vseq ?_ | refine vthenN ?_ | refine vthenE ?_ | refine vthenR ?_ | refine vret ?_ | refine vskip ?_ | refine vexit ?_ | refine vblock ?_ | refine vblockN ?_ | refine vblockR ?_ | refine vblockH ?_ | refine vrun_nil ?_ | refine vblockE rfl ?_ | refine vregion [] ?_ | refine vhrun_nil ?_) | ((with_reducible refine vcondT ?_ ?_); (focus (go_simp; done))) | ((with_reducible refine vcondF ?_ ?_); (focus (go_simp; done))) | ((with_reducible first | refine vrun_cons fun KK hKK => ?_ | refine vhrun_cons fun KK hKK => ?_); go_simp; (first | (with_reducible refine ⟨_, ha, ?_⟩) | (with_reducible refine ⟨_, h0, ?_⟩) | skip); refine hKK _ ?_; clear hKK KK) | ((refine vdrawL 10 10 [] rfl (by kernel_rfl) (by kernel_rfl) ?_); simp only [List.append, List.take, List.drop]) | ((refine vdrawL 15 15 [] rfl (by kernel_rfl) (by kernel_rfl) ?_); simp only [List.append, List.take, List.drop]) | ((refine vdrawL 18 18 [] rfl (by kernel_rfl) (by kernel_rfl) ?_); simp only [List.append, List.take, List.drop]) | ((with_reducible refine vcondS ?_ (fun ht => ?_) (fun ht => ?_)); (focus (go_simp; done)); (all_goals (simp [go_sem] at ht; replace ht := ht.out))) | ((apply vrun_consG0 rfl); (focus (go_simp <;> exact rfl)); (focus (go_simp; done)); (focus (intro hb0; replace hb0 := hb0.out; go_simp <;> (first | exact rfl | exact ha | exact h0 | exact ⟨ha, rfl⟩ | exact ⟨h0, rfl⟩))); intro KK hKK; go_simp; refine hKK _ ?_; clear hKK KK) | ((apply vhrun_consG0 rfl); (focus (go_simp <;> exact rfl)); (focus (intro hb0; replace hb0 := hb0.out; go_simp <;> (first | exact rfl | exact ha | exact h0 | exact ⟨ha, rfl⟩ | exact ⟨h0, rfl⟩))); intro KK hKK; go_simp; refine hKK _ ?_; clear hKK KK))
    go_simp
  rw [hs] at h0
  have hsm := fewN_small hs
  have h1 := r_NetErr n hsm
  by_cases hn : (netE n).2 = 0
  rotate_left
  · generalize (netE n).2 = E at *
    clear hs hsm
    refine VC_of Try.func3 rfl (by kernel_rfl) (by kernel_rfl) rfl fun M0 w0 => ?_
    simp only [Try.ntmps3, Try.results3, enumA]
    repeat' (first | (with_reducible first | refine vseq ?_ | refine vthenN ?_ | refine vthenE ?_ | refine vthenR ?_ | refine vret ?_ | refine vskip ?_ | refine vexit ?_ | refine vblock ?_ | refine vblockN ?_ | refine vblockR ?_ | refine vblockH ?_ | refine vrun_nil ?_ | refine vblockE rfl ?_ | refine vregion [] ?_ | refine vhrun_nil ?_) | ((with_reducible refine vcondT ?_ ?_); (focus (go_simp; done))) | ((with_reducible refine vcondF ?_ ?_); (focus (go_simp; done))) | ((with_reducible first | refine vrun_cons fun KK hKK => ?_ | refine vhrun_cons fun KK hKK => ?_); go_simp; (first | (with_reducible refine ⟨_, ha, ?_⟩) | (with_reducible refine ⟨_, h0, ?_⟩) | (with_reducible refine ⟨_, h1, ?_⟩) | skip); refine hKK _ ?_; clear hKK KK) | ((refine vdrawL 10 10 [] rfl (by kernel_rfl) (by kernel_rfl) ?_); simp only [List.append, List.take, List.drop]) | ((refine vdrawL 15 15 [] rfl (by kernel_rfl) (by kernel_rfl) ?_); simp only [List.append, List.take, List.drop]) | ((refine vdrawL 18 18 [] rfl (by kernel_rfl) (by kernel_rfl) ?_); simp only [List.append, List.take, List.drop]) | ((with_reducible refine vcondS ?_ (fun ht => ?_) (fun ht => ?_)); (focus (go_simp; done)); (all_goals (simp [go_sem] at ht; replace ht := ht.out))) | ((apply vrun_consG0 rfl); (focus (go_simp <;> exact rfl)); (focus (go_simp; done)); (focus (intro hb0; replace hb0 := hb0.out; go_simp <;> (first | exact rfl | exact ha | exact h0 | exact h1 | exact ⟨ha, rfl⟩ | exact ⟨h0, rfl⟩ | exact ⟨h1, rfl⟩))); intro KK hKK; go_simp; refine hKK _ ?_; clear hKK KK) | ((apply vhrun_consG0 rfl); (focus (go_simp <;> exact rfl)); (focus (intro hb0; replace hb0 := hb0.out; go_simp <;> (first | exact rfl | exact ha | exact h0 | exact h1 | exact ⟨ha, rfl⟩ | exact ⟨h0, rfl⟩ | exact ⟨h1, rfl⟩))); intro KK hKK; go_simp; refine hKK _ ?_; clear hKK KK))
    go_simp
  rw [hn] at h1
  have hR := netE_zero hn
  have h2 := r_TripErr n t hsm.p
  by_cases ht : tripE n t = 0
  rotate_left
  · generalize tripE n t = E at *
    clear hs hsm hR hn
    refine VC_of Try.func3 rfl (by kernel_rfl) (by kernel_rfl) rfl fun M0 w0 => ?_
    simp only [Try.ntmps3, Try.results3, enumA]
    repeat' (first | (with_reducible first | refine vseq ?_ | refine vthenN ?_ | refine vthenE ?_ | refine vthenR ?_ | refine vret ?_ | refine vskip ?_ | refine vexit ?_ | refine vblock ?_ | refine vblockN ?_ | refine vblockR ?_ | refine vblockH ?_ | refine vrun_nil ?_ | refine vblockE rfl ?_ | refine vregion [] ?_ | refine vhrun_nil ?_) | ((with_reducible refine vcondT ?_ ?_); (focus (go_simp; done))) | ((with_reducible refine vcondF ?_ ?_); (focus (go_simp; done))) | ((with_reducible first | refine vrun_cons fun KK hKK => ?_ | refine vhrun_cons fun KK hKK => ?_); go_simp; (first | (with_reducible refine ⟨_, ha, ?_⟩) | (with_reducible refine ⟨_, h0, ?_⟩) | (with_reducible refine ⟨_, h1, ?_⟩) | (with_reducible refine ⟨_, h2, ?_⟩) | skip); refine hKK _ ?_; clear hKK KK) | ((refine vdrawL 10 10 [] rfl (by kernel_rfl) (by kernel_rfl) ?_); simp only [List.append, List.take, List.drop]) | ((refine vdrawL 15 15 [] rfl (by kernel_rfl) (by kernel_rfl) ?_); simp only [List.append, List.take, List.drop]) | ((refine vdrawL 18 18 [] rfl (by kernel_rfl) (by kernel_rfl) ?_); simp only [List.append, List.take, List.drop]) | ((with_reducible refine vcondS ?_ (fun ht => ?_) (fun ht => ?_)); (focus (go_simp; done)); (all_goals (simp [go_sem] at ht; replace ht := ht.out))) | ((apply vrun_consG0 rfl); (focus (go_simp <;> exact rfl)); (focus (go_simp; done)); (focus (intro hb0; replace hb0 := hb0.out; go_simp <;> (first | exact rfl | exact ha | exact h0 | exact h1 | exact h2 | exact ⟨ha, rfl⟩ | exact ⟨h0, rfl⟩ | exact ⟨h1, rfl⟩ | exact ⟨h2, rfl⟩))); intro KK hKK; go_simp; refine hKK _ ?_; clear hKK KK) | ((apply vhrun_consG0 rfl); (focus (go_simp <;> exact rfl)); (focus (intro hb0; replace hb0 := hb0.out; go_simp <;> (first | exact rfl | exact ha | exact h0 | exact h1 | exact h2 | exact ⟨ha, rfl⟩ | exact ⟨h0, rfl⟩ | exact ⟨h1, rfl⟩ | exact ⟨h2, rfl⟩))); intro KK hKK; go_simp; refine hKK _ ?_; clear hKK KK))
    go_simp
  rw [ht] at h2
  by_cases h5 : (500000 : Int) < t.at_
  · clear hs hsm hR hn ht
    refine VC_of Try.func3 rfl (by kernel_rfl) (by kernel_rfl) rfl fun M0 w0 => ?_
    simp only [Try.ntmps3, Try.results3, enumA]
    repeat' (first | (with_reducible first | refine vseq ?_ | refine vthenN ?_ | refine vthenE ?_ | refine vthenR ?_ | refine vret ?_ | refine vskip ?_ | refine vexit ?_ | refine vblock ?_ | refine vblockN ?_ | refine vblockR ?_ | refine vblockH ?_ | refine vrun_nil ?_ | refine vblockE rfl ?_ | refine vregion [] ?_ | refine vhrun_nil ?_) | ((with_reducible refine vcondT ?_ ?_); (focus (go_simp; done))) | ((with_reducible refine vcondF ?_ ?_); (focus (go_simp; done))) | ((with_reducible first | refine vrun_cons fun KK hKK => ?_ | refine vhrun_cons fun KK hKK => ?_); go_simp; (first | (with_reducible refine ⟨_, ha, ?_⟩) | (with_reducible refine ⟨_, h0, ?_⟩) | (with_reducible refine ⟨_, h1, ?_⟩) | (with_reducible refine ⟨_, h2, ?_⟩) | skip); refine hKK _ ?_; clear hKK KK) | ((refine vdrawL 10 10 [] rfl (by kernel_rfl) (by kernel_rfl) ?_); simp only [List.append, List.take, List.drop]) | ((refine vdrawL 15 15 [] rfl (by kernel_rfl) (by kernel_rfl) ?_); simp only [List.append, List.take, List.drop]) | ((refine vdrawL 18 18 [] rfl (by kernel_rfl) (by kernel_rfl) ?_); simp only [List.append, List.take, List.drop]) | ((with_reducible refine vcondS ?_ (fun ht => ?_) (fun ht => ?_)); (focus (go_simp; done)); (all_goals (simp [go_sem] at ht; replace ht := ht.out))) | ((apply vrun_consG0 rfl); (focus (go_simp <;> exact rfl)); (focus (go_simp; done)); (focus (intro hb0; replace hb0 := hb0.out; go_simp <;> (first | exact rfl | exact ha | exact h0 | exact h1 | exact h2 | exact ⟨ha, rfl⟩ | exact ⟨h0, rfl⟩ | exact ⟨h1, rfl⟩ | exact ⟨h2, rfl⟩))); intro KK hKK; go_simp; refine hKK _ ?_; clear hKK KK) | ((apply vhrun_consG0 rfl); (focus (go_simp <;> exact rfl)); (focus (intro hb0; replace hb0 := hb0.out; go_simp <;> (first | exact rfl | exact ha | exact h0 | exact h1 | exact h2 | exact ⟨ha, rfl⟩ | exact ⟨h0, rfl⟩ | exact ⟨h1, rfl⟩ | exact ⟨h2, rfl⟩))); intro KK hKK; go_simp; refine hKK _ ?_; clear hKK KK))
    go_simp
  by_cases h6 : (ps.length : Int) < (n.roads.length : Int)
  · have h6n : ps.length < n.roads.length := by omega
    clear hs hsm hR hn ht
    refine VC_of Try.func3 rfl (by kernel_rfl) (by kernel_rfl) rfl fun M0 w0 => ?_
    simp only [Try.ntmps3, Try.results3, enumA]
    repeat' (first | (with_reducible first | refine vseq ?_ | refine vthenN ?_ | refine vthenE ?_ | refine vthenR ?_ | refine vret ?_ | refine vskip ?_ | refine vexit ?_ | refine vblock ?_ | refine vblockN ?_ | refine vblockR ?_ | refine vblockH ?_ | refine vrun_nil ?_ | refine vblockE rfl ?_ | refine vregion [] ?_ | refine vhrun_nil ?_) | ((with_reducible refine vcondT ?_ ?_); (focus (go_simp; done))) | ((with_reducible refine vcondF ?_ ?_); (focus (go_simp; done))) | ((with_reducible first | refine vrun_cons fun KK hKK => ?_ | refine vhrun_cons fun KK hKK => ?_); go_simp; (first | (with_reducible refine ⟨_, ha, ?_⟩) | (with_reducible refine ⟨_, h0, ?_⟩) | (with_reducible refine ⟨_, h1, ?_⟩) | (with_reducible refine ⟨_, h2, ?_⟩) | skip); refine hKK _ ?_; clear hKK KK) | ((refine vdrawL 10 10 [] rfl (by kernel_rfl) (by kernel_rfl) ?_); simp only [List.append, List.take, List.drop]) | ((refine vdrawL 15 15 [] rfl (by kernel_rfl) (by kernel_rfl) ?_); simp only [List.append, List.take, List.drop]) | ((refine vdrawL 18 18 [] rfl (by kernel_rfl) (by kernel_rfl) ?_); simp only [List.append, List.take, List.drop]) | ((with_reducible refine vcondS ?_ (fun ht => ?_) (fun ht => ?_)); (focus (go_simp; done)); (all_goals (simp [go_sem] at ht; replace ht := ht.out))) | ((apply vrun_consG0 rfl); (focus (go_simp <;> exact rfl)); (focus (go_simp; done)); (focus (intro hb0; replace hb0 := hb0.out; go_simp <;> (first | exact rfl | exact ha | exact h0 | exact h1 | exact h2 | exact ⟨ha, rfl⟩ | exact ⟨h0, rfl⟩ | exact ⟨h1, rfl⟩ | exact ⟨h2, rfl⟩))); intro KK hKK; go_simp; refine hKK _ ?_; clear hKK KK) | ((apply vhrun_consG0 rfl); (focus (go_simp <;> exact rfl)); (focus (intro hb0; replace hb0 := hb0.out; go_simp <;> (first | exact rfl | exact ha | exact h0 | exact h1 | exact h2 | exact ⟨ha, rfl⟩ | exact ⟨h0, rfl⟩ | exact ⟨h1, rfl⟩ | exact ⟨h2, rfl⟩))); intro KK hKK; go_simp; refine hKK _ ?_; clear hKK KK))
    go_simp
  have h6n : ¬ ps.length < n.roads.length := by omega
  have h6m : n.roads.length ≤ ps.length := by omega
  have h7 := few_seven hs hR.p20
  have hr60 := hR.r60
  obtain ⟨t1, t2, t3⟩ := tripE_zero ht
  have k1 := y_Copy n hsm
  have k2 := y_Estimate n t hR hsm ht
  have HR := Lib.hid hR
  clear hs hsm hn hR
  obtain ⟨src, dst, num⟩ := t
  simp only at t1 t2 t3 h5 h2 k2 ht ⊢
  obtain ⟨a, rfl⟩ : ∃ a : Nat, src = (a : Int) := ⟨src.toNat, by omega⟩
  obtain ⟨b, rfl⟩ : ∃ b : Nat, dst = (b : Int) := ⟨dst.toNat, by omega⟩
  have ha1 : a < n.places.length := by omega
  have hb1 : b < n.places.length := by omega
  have A := Lib.hid (along_V HR.out ps t3.1)
  obtain ⟨i1, _⟩ := lab0_ok (n := idxN n) (M := 7200) t3.1 (a := a) ha1
  have I1 := Lib.hid i1
  clear i1
  obtain ⟨S0, hS0⟩ : ∃ S0 : Gs, (⟨lab0 n.places.length a num, List.replicate n.places.length (-1), true⟩ : Gs) = S0 := ⟨_, rfl⟩
  have HS0 := Lib.hid hS0
  have I1 : Hid (GI (idxN n) num 7200 S0) := Lib.hid (by rw [← hS0]; exact I1.out)
  have hS0L : S0.L = lab0 n.places.length a num := by rw [← hS0]
  clear hS0
  obtain ⟨w1, w2, w3, w4, w5, w6⟩ := ixs (m := a) (by omega)
  obtain ⟨x1, x2, x3, x4, x5, x6⟩ := ixs (m := b) (by omega)
  have hpl : n.places.length ≤ 1000000000 := by omega
  have hpi : (n.places.length : Int) ≤ 1000000000 := by omega
  refine VC_of Try.func3 rfl (by kernel_rfl) (by kernel_rfl) rfl fun M0 w0 => ?_
  simp only [Try.ntmps3, Try.results3, enumA]
  repeat' (first | (with_reducible first | refine vseq ?_ | refine vthenN ?_ | refine vthenE ?_ | refine vthenR ?_ | refine vret ?_ | refine vskip ?_ | refine vexit ?_ | refine vblock ?_ | refine vblockN ?_ | refine vblockR ?_ | refine vblockH ?_ | refine vrun_nil ?_ | refine vblockE rfl ?_ | refine vregion [49] ?_ | refine vhrun_nil ?_) | ((with_reducible refine vcondT ?_ ?_); (focus (go_simp; done))) | ((with_reducible refine vcondF ?_ ?_); (focus (go_simp; done))) | ((with_reducible first | refine vrun_cons fun KK hKK => ?_ | refine vhrun_cons fun KK hKK => ?_); go_simp; (first | (with_reducible refine ⟨_, ha, ?_⟩) | (with_reducible refine ⟨_, h0, ?_⟩) | (with_reducible refine ⟨_, h1, ?_⟩) | (with_reducible refine ⟨_, h2, ?_⟩) | skip); refine hKK _ ?_; clear hKK KK) | ((with_reducible refine vcondS ?_ (fun ht => ?_) (fun ht => ?_)); (focus (go_simp; done)); (all_goals (simp [go_sem] at ht; replace ht := ht.out))) | ((apply vrun_consG0 rfl); (focus (go_simp <;> exact rfl)); (focus (go_simp; done)); (focus (intro hb0; replace hb0 := hb0.out; go_simp <;> (first | exact rfl | exact ha | exact h0 | exact h1 | exact h2 | exact ⟨ha, rfl⟩ | exact ⟨h0, rfl⟩ | exact ⟨h1, rfl⟩ | exact ⟨h2, rfl⟩))); intro KK hKK; go_simp; refine hKK _ ?_; clear hKK KK) | ((apply vhrun_consG0 rfl); (focus (go_simp <;> exact rfl)); (focus (intro hb0; replace hb0 := hb0.out; go_simp <;> (first | exact rfl | exact ha | exact h0 | exact h1 | exact h2 | exact ⟨ha, rfl⟩ | exact ⟨h0, rfl⟩ | exact ⟨h1, rfl⟩ | exact ⟨h2, rfl⟩))); intro KK hKK; go_simp; refine hKK _ ?_; clear hKK KK))
  apply vcnt [2, 3, 4, 7] (fun k => [(8, I (k : Int))]) (fun k => ([some (.arr 3 1 false ((filT n.places.length k).map intA))] : Hp))  (n.places.length)
  · go_simp <;> exact rfl
  · go_simp
  · intro k hk K hK
    obtain ⟨v1, v2, v3, v4, v5, v6⟩ := ixs (m := k) (by omega)
    have hl := filT_len (p := n.places.length) (k := k) (by omega)
    have hs := Lib.hid (filT_set (p := n.places.length) (k := k) hk)
    generalize filT n.places.length k = F at *
    repeat' (first | (with_reducible first | refine vseq ?_ | refine vthenN ?_ | refine vthenE ?_ | refine vthenR ?_ | refine vret ?_ | refine vskip ?_ | refine vexit ?_ | refine vblock ?_ | refine vblockN ?_ | refine vblockR ?_ | refine vblockH ?_ | refine vrun_nil ?_ | refine vblockE rfl ?_ | refine vregion [] ?_ | refine vhrun_nil ?_) | ((with_reducible refine vcondT ?_ ?_); (focus (go_simp; done))) | ((with_reducible refine vcondF ?_ ?_); (focus (go_simp; done))) | ((with_reducible first | refine vrun_cons fun KK hKK => ?_ | refine vhrun_cons fun KK hKK => ?_); go_simp; refine hKK _ ?_; clear hKK KK) | ((with_reducible refine vcondS ?_ (fun ht => ?_) (fun ht => ?_)); (focus (go_simp; done)); (all_goals (simp [go_sem] at ht; replace ht := ht.out))) | ((apply vrun_consG0 rfl); (focus (go_simp <;> exact rfl)); (focus (go_simp; done)); (focus (intro hb0; replace hb0 := hb0.out; go_simp <;> (first | exact rfl))); intro KK hKK; go_simp; refine hKK _ ?_; clear hKK KK) | ((apply vhrun_consG0 rfl); (focus (go_simp <;> exact rfl)); (focus (intro hb0; replace hb0 := hb0.out; go_simp <;> (first | exact rfl))); intro KK hKK; go_simp; refine hKK _ ?_; clear hKK KK))
    refine hK _ ?_
    rw [← hs.out]
    go_simp
  intro K
  repeat' (first | (with_reducible first | refine vseq ?_ | refine vthenN ?_ | refine vthenE ?_ | refine vthenR ?_ | refine vret ?_ | refine vskip ?_ | refine vexit ?_ | refine vblock ?_ | refine vblockN ?_ | refine vblockR ?_ | refine vblockH ?_ | refine vrun_nil ?_ | refine vblockE rfl ?_ | refine vregion [] ?_ | refine vhrun_nil ?_) | ((with_reducible refine vcondT ?_ ?_); (focus (go_simp; done))) | ((with_reducible refine vcondF ?_ ?_); (focus (go_simp; done))) | ((with_reducible first | refine vrun_cons fun KK hKK => ?_ | refine vhrun_cons fun KK hKK => ?_); go_simp; refine hKK _ ?_; clear hKK KK) | ((with_reducible refine vcondS ?_ (fun ht => ?_) (fun ht => ?_)); (focus (go_simp; done)); (all_goals (simp [go_sem] at ht; replace ht := ht.out))) | ((apply vrun_consG0 rfl); (focus (go_simp <;> exact rfl)); (focus (go_simp; done)); (focus (intro hb0; replace hb0 := hb0.out; go_simp <;> (first | exact rfl))); intro KK hKK; go_simp; refine hKK _ ?_; clear hKK KK) | ((apply vhrun_consG0 rfl); (focus (go_simp <;> exact rfl)); (focus (intro hb0; replace hb0 := hb0.out; go_simp <;> (first | exact rfl))); intro KK hKK; go_simp; refine hKK _ ?_; clear hKK KK))
  apply vcnt [2, 3, 4, 7] (fun k => [(9, I (k : Int))]) (fun k => ([some (.arr 3 1 false ((runV (idxN n) (alV ps) k S0).L.map intA))] : Hp))  (n.places.length)
  · go_simp <;> exact rfl
  · go_simp
  · intro k hk K hK
    obtain ⟨v1, v2, v3, v4, v5, v6⟩ := ixs (m := k) (by omega)
    have hrun : runV (idxN n) (alV ps) (k + 1) S0 = roundG (idxN n) (alV ps) (idxN n).roads.length (runV (idxN n) (alV ps) k S0) := rfl
    rw [idx_len] at hrun
    have hgk := Lib.hid (runV_ok A.out I1.out k)
    generalize runV (idxN n) (alV ps) (k + 1) S0 = S' at *
    generalize runV (idxN n) (alV ps) k S0 = S at *
    have HRUN := Lib.hid hrun
    clear hrun
    repeat' (first | (with_reducible first | refine vseq ?_ | refine vthenN ?_ | refine vthenE ?_ | refine vthenR ?_ | refine vret ?_ | refine vskip ?_ | refine vexit ?_ | refine vblock ?_ | refine vblockN ?_ | refine vblockR ?_ | refine vblockH ?_ | refine vrun_nil ?_ | refine vblockE rfl ?_ | refine vregion [] ?_ | refine vhrun_nil ?_) | ((with_reducible refine vcondT ?_ ?_); (focus (go_simp; done))) | ((with_reducible refine vcondF ?_ ?_); (focus (go_simp; done))) | ((with_reducible first | refine vrun_cons fun KK hKK => ?_ | refine vhrun_cons fun KK hKK => ?_); go_simp; refine hKK _ ?_; clear hKK KK) | ((with_reducible refine vcondS ?_ (fun ht => ?_) (fun ht => ?_)); (focus (go_simp; done)); (all_goals (simp [go_sem] at ht; replace ht := ht.out))) | ((apply vrun_consG0 rfl); (focus (go_simp <;> exact rfl)); (focus (go_simp; done)); (focus (intro hb0; replace hb0 := hb0.out; go_simp <;> (first | exact rfl))); intro KK hKK; go_simp; refine hKK _ ?_; clear hKK KK) | ((apply vhrun_consG0 rfl); (focus (go_simp <;> exact rfl)); (focus (intro hb0; replace hb0 := hb0.out; go_simp <;> (first | exact rfl))); intro KK hKK; go_simp; refine hKK _ ?_; clear hKK KK))
    apply vcnt [2, 3, 4, 7, 9] (fun k => [(10, I (k : Int))]) (fun k => ([some (.arr 3 1 false ((roundG (idxN n) (alV ps) k S).L.map intA))] : Hp))  (n.roads.length)
    · go_simp <;> exact rfl
    · go_simp
    · intro i hi K2 hK2
      obtain ⟨y1, y2, y3, y4, y5, y6⟩ := ixs (m := i) (by omega)
      have hok := (roundG_ok A.out hgk.out i (by rw [idx_len]; omega)).1
      have hs : roundG (idxN n) (alV ps) (i + 1) S = stepG (idxN n) (alV ps) i (roundG (idxN n) (alV ps) i S) := rfl
      generalize roundG (idxN n) (alV ps) (i + 1) S = s' at *
      generalize roundG (idxN n) (alV ps) i S = s at *
      have hR := HR.out.road i hi
      obtain ⟨u, hu⟩ : ∃ u : Nat, (rdat n.roads i).src = (u : Int) := ⟨(rdat n.roads i).src.toNat, by have := hR.src; omega⟩
      obtain ⟨v, hv⟩ : ∃ v : Nat, (rdat n.roads i).dst = (v : Int) := ⟨(rdat n.roads i).dst.toNat, by have := hR.dst; omega⟩
      have hu1 : u < n.places.length := by have := hR.src; omega
      have hv1 : v < n.places.length := by have := hR.dst; omega
      have c1 := hok.top7 h7 hu1
      have c2 := hok.top7 h7 hv1
      have l1 : s.L.length = n.places.length := hok.L
      unfold stepG at hs
      rw [idx_at n hi] at hs
      simp only at hs
      rw [hu, hv, Int.toNat_natCast, Int.toNat_natCast] at hs
      have hpts := hR.pts
      clear hR hok
      obtain ⟨sL, sW, sc⟩ := s
      simp only at hs c1 c2 l1
      have hu2 : u < sL.length := by omega
      have hv2 : v < sL.length := by omega
      obtain ⟨c, hc⟩ : ∃ c, iat sL u = c := ⟨_, rfl⟩
      obtain ⟨d, hd⟩ : ∃ d, iat sL v = d := ⟨_, rfl⟩
      rw [hc] at c1 hs
      rw [hd] at c2 hs
      have g1 := b_Mod (iat ps i) 1001 (by decide) (by decide)
      have hm := modF_rng (iat ps i)
      have hix : i < ps.length := by omega
      have HS := Lib.hid hs
      clear hs
      by_cases hcm : c = -1
      · have e := HS.out
        rw [if_pos hcm] at e
        subst e
        clear c1 c2
        repeat' (first | (with_reducible first | refine vseq ?_ | refine vthenN ?_ | refine vthenE ?_ | refine vthenR ?_ | refine vret ?_ | refine vskip ?_ | refine vexit ?_ | refine vblock ?_ | refine vblockN ?_ | refine vblockR ?_ | refine vblockH ?_ | refine vrun_nil ?_ | refine vblockE rfl ?_ | refine vregion [] ?_ | refine vhrun_nil ?_) | ((with_reducible refine vcondT ?_ ?_); (focus (go_simp; done))) | ((with_reducible refine vcondF ?_ ?_); (focus (go_simp; done))) | ((with_reducible first | refine vrun_cons fun KK hKK => ?_ | refine vhrun_cons fun KK hKK => ?_); go_simp; refine hKK _ ?_; clear hKK KK) | ((with_reducible refine vcondS ?_ (fun ht => ?_) (fun ht => ?_)); (focus (go_simp; done)); (all_goals (simp [go_sem] at ht; replace ht := ht.out))) | ((apply vrun_consG0 rfl); (focus (go_simp <;> exact rfl)); (focus (go_simp; done)); (focus (intro hb0; replace hb0 := hb0.out; go_simp <;> (first | exact rfl))); intro KK hKK; go_simp; refine hKK _ ?_; clear hKK KK) | ((apply vhrun_consG0 rfl); (focus (go_simp <;> exact rfl)); (focus (intro hb0; replace hb0 := hb0.out; go_simp <;> (first | exact rfl))); intro KK hKK; go_simp; refine hKK _ ?_; clear hKK KK))
        refine hK2 _ ?_
        go_simp
      have c3 := c1.resolve_left hcm
      have c4 : ¬ c < 0 := by omega
      have c5 : ¬ (604800 : Int) < c := by omega
      have g2 := y_streetTrue n i c (modF (iat ps i) 1001) HR.out hi (by omega) (by omega) hm.1 hm.2
      have r1 := takes_rng hpts false (t := c) (by omega)
      have r2 := takes_rng hpts true (t := c) (by omega)
      have r3 := true_btw hm.1 hm.2 (takes_lohi hpts (t := c) (by omega))
      have e0 := HS.out
      obtain ⟨nv, hnv⟩ : ∃ nv, alV ps ⟨(rdat n.roads i).name, (u : Int), (v : Int), (i : Int), (rdat n.roads i).pts⟩ c = nv := ⟨_, rfl⟩
      rw [hnv] at e0
      simp only [alV, partT, Int.toNat_natCast] at hnv
      obtain ⟨p, hpp⟩ : ∃ p, modF (iat ps i) 1001 = p := ⟨_, rfl⟩
      rw [hpp] at g1 g2 hm r3 hnv
      obtain ⟨T, hT⟩ : ∃ T, trueT p (takesF false (rdat n.roads i).pts c) (takesF true (rdat n.roads i).pts c) = T := ⟨_, rfl⟩
      rw [hT] at g2 r3 hnv
      subst hnv
      clear hpp hT
      have u1 := wrap_eq (x := c + T) (by omega) (by omega)
      obtain ⟨R, hRR⟩ : ∃ R, rdat n.roads i = R := ⟨_, rfl⟩
      rw [hRR] at hu hv
      have HS := Lib.hid e0
      clear e0 c1 r1 r2 r3 hm hpts
      by_cases hdm : d = -1
      · have e := HS.out
        rw [if_neg hcm, if_pos (.inl hdm)] at e
        subst e
        have d1 : d < 0 := by omega
        clear c2 c3
        repeat' (first | (with_reducible first | refine vseq ?_ | refine vthenN ?_ | refine vthenE ?_ | refine vthenR ?_ | refine vret ?_ | refine vskip ?_ | refine vexit ?_ | refine vblock ?_ | refine vblockN ?_ | refine vblockR ?_ | refine vblockH ?_ | refine vrun_nil ?_ | refine vblockE rfl ?_ | refine vregion [] ?_ | refine vhrun_nil ?_) | ((with_reducible refine vcondT ?_ ?_); (focus (go_simp; done))) | ((with_reducible refine vcondF ?_ ?_); (focus (go_simp; done))) | ((with_reducible first | refine vrun_cons fun KK hKK => ?_ | refine vhrun_cons fun KK hKK => ?_); go_simp; (first | (with_reducible refine ⟨_, g1, ?_⟩) | (with_reducible refine ⟨_, g2, ?_⟩) | skip); refine hKK _ ?_; clear hKK KK) | ((refine vdrawL 10 10 [] rfl (by kernel_rfl) (by kernel_rfl) ?_); simp only [List.append, List.take, List.drop]) | ((refine vdrawL 15 15 [] rfl (by kernel_rfl) (by kernel_rfl) ?_); simp only [List.append, List.take, List.drop]) | ((refine vdrawL 18 18 [] rfl (by kernel_rfl) (by kernel_rfl) ?_); simp only [List.take, List.drop]) | ((with_reducible refine vcondS ?_ (fun ht => ?_) (fun ht => ?_)); (focus (go_simp; done)); (all_goals (simp [go_sem] at ht; replace ht := ht.out))) | ((apply vrun_consG0 rfl); (focus (go_simp <;> exact rfl)); (focus (go_simp; done)); (focus (intro hb0; replace hb0 := hb0.out; go_simp <;> (first | exact rfl | exact g1 | exact g2 | exact ⟨g1, rfl⟩ | exact ⟨g2, rfl⟩))); intro KK hKK; go_simp; refine hKK _ ?_; clear hKK KK) | ((apply vhrun_consG0 rfl); (focus (go_simp <;> exact rfl)); (focus (intro hb0; replace hb0 := hb0.out; go_simp <;> (first | exact rfl | exact g1 | exact g2 | exact ⟨g1, rfl⟩ | exact ⟨g2, rfl⟩))); intro KK hKK; go_simp; refine hKK _ ?_; clear hKK KK))
        refine hK2 _ ?_
        go_simp
      have d1 : ¬ d < 0 := by omega
      by_cases hlt : c + T < d
      · have e := HS.out
        rw [if_neg hcm, if_pos (.inr hlt)] at e
        subst e
        clear c2 c3
        repeat' (first | (with_reducible first | refine vseq ?_ | refine vthenN ?_ | refine vthenE ?_ | refine vthenR ?_ | refine vret ?_ | refine vskip ?_ | refine vexit ?_ | refine vblock ?_ | refine vblockN ?_ | refine vblockR ?_ | refine vblockH ?_ | refine vrun_nil ?_ | refine vblockE rfl ?_ | refine vregion [] ?_ | refine vhrun_nil ?_) | ((with_reducible refine vcondT ?_ ?_); (focus (go_simp; done))) | ((with_reducible refine vcondF ?_ ?_); (focus (go_simp; done))) | ((with_reducible first | refine vrun_cons fun KK hKK => ?_ | refine vhrun_cons fun KK hKK => ?_); go_simp; (first | (with_reducible refine ⟨_, g1, ?_⟩) | (with_reducible refine ⟨_, g2, ?_⟩) | skip); refine hKK _ ?_; clear hKK KK) | ((refine vdrawL 10 10 [] rfl (by kernel_rfl) (by kernel_rfl) ?_); simp only [List.append, List.take, List.drop]) | ((refine vdrawL 15 15 [] rfl (by kernel_rfl) (by kernel_rfl) ?_); simp only [List.append, List.take, List.drop]) | ((refine vdrawL 18 18 [] rfl (by kernel_rfl) (by kernel_rfl) ?_); simp only [List.take, List.drop]) | ((with_reducible refine vcondS ?_ (fun ht => ?_) (fun ht => ?_)); (focus (go_simp; done)); (all_goals (simp [go_sem] at ht; replace ht := ht.out))) | ((apply vrun_consG0 rfl); (focus (go_simp <;> exact rfl)); (focus (go_simp; done)); (focus (intro hb0; replace hb0 := hb0.out; go_simp <;> (first | exact rfl | exact g1 | exact g2 | exact ⟨g1, rfl⟩ | exact ⟨g2, rfl⟩))); intro KK hKK; go_simp; refine hKK _ ?_; clear hKK KK) | ((apply vhrun_consG0 rfl); (focus (go_simp <;> exact rfl)); (focus (intro hb0; replace hb0 := hb0.out; go_simp <;> (first | exact rfl | exact g1 | exact g2 | exact ⟨g1, rfl⟩ | exact ⟨g2, rfl⟩))); intro KK hKK; go_simp; refine hKK _ ?_; clear hKK KK))
        refine hK2 _ ?_
        go_simp
      · have e := HS.out
        rw [if_neg hcm, if_neg (not_or.2 ⟨hdm, hlt⟩)] at e
        subst e
        clear c2 c3
        repeat' (first | (with_reducible first | refine vseq ?_ | refine vthenN ?_ | refine vthenE ?_ | refine vthenR ?_ | refine vret ?_ | refine vskip ?_ | refine vexit ?_ | refine vblock ?_ | refine vblockN ?_ | refine vblockR ?_ | refine vblockH ?_ | refine vrun_nil ?_ | refine vblockE rfl ?_ | refine vregion [] ?_ | refine vhrun_nil ?_) | ((with_reducible refine vcondT ?_ ?_); (focus (go_simp; done))) | ((with_reducible refine vcondF ?_ ?_); (focus (go_simp; done))) | ((with_reducible first | refine vrun_cons fun KK hKK => ?_ | refine vhrun_cons fun KK hKK => ?_); go_simp; (first | (with_reducible refine ⟨_, g1, ?_⟩) | (with_reducible refine ⟨_, g2, ?_⟩) | skip); refine hKK _ ?_; clear hKK KK) | ((refine vdrawL 10 10 [] rfl (by kernel_rfl) (by kernel_rfl) ?_); simp only [List.append, List.take, List.drop]) | ((refine vdrawL 15 15 [] rfl (by kernel_rfl) (by kernel_rfl) ?_); simp only [List.append, List.take, List.drop]) | ((refine vdrawL 18 18 [] rfl (by kernel_rfl) (by kernel_rfl) ?_); simp only [List.take, List.drop]) | ((with_reducible refine vcondS ?_ (fun ht => ?_) (fun ht => ?_)); (focus (go_simp; done)); (all_goals (simp [go_sem] at ht; replace ht := ht.out))) | ((apply vrun_consG0 rfl); (focus (go_simp <;> exact rfl)); (focus (go_simp; done)); (focus (intro hb0; replace hb0 := hb0.out; go_simp <;> (first | exact rfl | exact g1 | exact g2 | exact ⟨g1, rfl⟩ | exact ⟨g2, rfl⟩))); intro KK hKK; go_simp; refine hKK _ ?_; clear hKK KK) | ((apply vhrun_consG0 rfl); (focus (go_simp <;> exact rfl)); (focus (intro hb0; replace hb0 := hb0.out; go_simp <;> (first | exact rfl | exact g1 | exact g2 | exact ⟨g1, rfl⟩ | exact ⟨g2, rfl⟩))); intro KK hKK; go_simp; refine hKK _ ?_; clear hKK KK))
        refine hK2 _ ?_
        go_simp
    intro K2
    rw [← HRUN.out]
    repeat' (first | (with_reducible first | refine vseq ?_ | refine vthenN ?_ | refine vthenE ?_ | refine vthenR ?_ | refine vret ?_ | refine vskip ?_ | refine vexit ?_ | refine vblock ?_ | refine vblockN ?_ | refine vblockR ?_ | refine vblockH ?_ | refine vrun_nil ?_ | refine vblockE rfl ?_ | refine vregion [] ?_ | refine vhrun_nil ?_) | ((with_reducible refine vcondT ?_ ?_); (focus (go_simp; done))) | ((with_reducible refine vcondF ?_ ?_); (focus (go_simp; done))) | ((with_reducible first | refine vrun_cons fun KK hKK => ?_ | refine vhrun_cons fun KK hKK => ?_); go_simp; refine hKK _ ?_; clear hKK KK) | ((with_reducible refine vcondS ?_ (fun ht => ?_) (fun ht => ?_)); (focus (go_simp; done)); (all_goals (simp [go_sem] at ht; replace ht := ht.out))) | ((apply vrun_consG0 rfl); (focus (go_simp <;> exact rfl)); (focus (go_simp; done)); (focus (intro hb0; replace hb0 := hb0.out; go_simp <;> (first | exact rfl))); intro KK hKK; go_simp; refine hKK _ ?_; clear hKK KK) | ((apply vhrun_consG0 rfl); (focus (go_simp <;> exact rfl)); (focus (intro hb0; replace hb0 := hb0.out; go_simp <;> (first | exact rfl))); intro KK hKK; go_simp; refine hKK _ ?_; clear hKK KK))
    refine hK _ ?_
    go_simp
  intro K
  have law := true_law HR.out ps t3.1 ha1 hb1 rfl rfl rfl
  rw [HS0.out] at law
  have l1 : (runV (idxN n) (alV ps) n.places.length S0).L.length = n.places.length := (runV_ok A.out I1.out _).L
  have hneg := (runV_ok A.out I1.out n.places.length).top7 h7 (v := b) hb1
  unfold estE loL hiL at k2
  rw [Int.toNat_natCast, Int.toNat_natCast] at k2
  generalize runV (idxN n) (alV ps) n.places.length S0 = X at *
  obtain ⟨XL, XW, Xc⟩ := X
  simp only at l1 hneg law ⊢
  generalize (growL n (alT false) num 7200 a).1 = LL at *
  generalize (growL n (alT true) num 7200 a).1 = LH at *
  have hb2 : b < XL.length := by omega
  obtain ⟨x, hx⟩ : ∃ x, iat XL b = x := ⟨_, rfl⟩
  rw [hx] at law hneg
  by_cases hxm : x = -1
  · have e := law.1.1 hxm
    rw [if_pos e] at k2
    have x1 : x < 0 := by omega
    clear law hneg
    repeat' (first | (with_reducible first | refine vseq ?_ | refine vthenN ?_ | refine vthenE ?_ | refine vthenR ?_ | refine vret ?_ | refine vskip ?_ | refine vexit ?_ | refine vblock ?_ | refine vblockN ?_ | refine vblockR ?_ | refine vblockH ?_ | refine vrun_nil ?_ | refine vblockE rfl ?_ | refine vregion [] ?_ | refine vhrun_nil ?_) | ((with_reducible refine vcondT ?_ ?_); (focus (go_simp; done))) | ((with_reducible refine vcondF ?_ ?_); (focus (go_simp; done))) | ((with_reducible first | refine vrun_cons fun KK hKK => ?_ | refine vhrun_cons fun KK hKK => ?_); go_simp; refine hKK _ ?_; clear hKK KK) | ((with_reducible refine vcondS ?_ (fun ht => ?_) (fun ht => ?_)); (focus (go_simp; done)); (all_goals (simp [go_sem] at ht; replace ht := ht.out))) | ((apply vrun_consG0 rfl); (focus (go_simp <;> exact rfl)); (focus (go_simp; done)); (focus (intro hb0; replace hb0 := hb0.out; go_simp <;> (first | exact rfl))); intro KK hKK; go_simp; refine hKK _ ?_; clear hKK KK) | ((apply vhrun_consG0 rfl); (focus (go_simp <;> exact rfl)); (focus (intro hb0; replace hb0 := hb0.out; go_simp <;> (first | exact rfl))); intro KK hKK; go_simp; refine hKK _ ?_; clear hKK KK))
    refine vdrawA 9 [] [⟨7, 15, [.int .i64 0, .int .i64 0], some 8, [I 0, I 0]⟩] (by kernel_rfl) (by kernel_rfl) (by kernel_rfl) (by go_simp) (by go_simp) ?_
    simp only [List.take, List.drop]
    repeat (first | (with_reducible first | refine vseq ?_ | refine vthenN ?_ | refine vthenE ?_ | refine vthenR ?_ | refine vret ?_ | refine vskip ?_ | refine vexit ?_ | refine vblock ?_ | refine vblockN ?_ | refine vblockR ?_ | refine vblockH ?_ | refine vrun_nil ?_ | refine vblockE rfl ?_ | refine vregion [] ?_ | refine vhrun_nil ?_) | ((with_reducible refine vcondT ?_ ?_); (focus (go_simp; done))) | ((with_reducible refine vcondF ?_ ?_); (focus (go_simp; done))) | ((with_reducible first | refine vrun_cons fun KK hKK => ?_ | refine vhrun_cons fun KK hKK => ?_); go_simp; (first | (with_reducible refine ⟨_, k1, ?_⟩) | (refine ⟨_, k2, ?_⟩) | skip); refine hKK _ ?_; clear hKK KK) | (refine vha_skip rfl ?_) | ((with_reducible refine vha_cons rfl fun KK hKK => ?_); go_simp; (first | (with_reducible refine ⟨_, k1, ?_⟩) | (refine ⟨_, k2, ?_⟩) | skip); refine hKK _ (by go_simp) ?_; clear hKK KK) | (with_reducible refine vha_nil ?_))
    refine ⟨by go_simp, ?_⟩
    simp only [slotS, slotE, Slot.end_, List.cons_append, List.nil_append]
    repeat' (first | (with_reducible first | refine vseq ?_ | refine vthenN ?_ | refine vthenE ?_ | refine vthenR ?_ | refine vret ?_ | refine vskip ?_ | refine vexit ?_ | refine vblock ?_ | refine vblockN ?_ | refine vblockR ?_ | refine vblockH ?_ | refine vrun_nil ?_ | refine vblockE rfl ?_ | refine vregion [] ?_ | refine vhrun_nil ?_) | ((with_reducible refine vcondT ?_ ?_); (focus (go_simp; done))) | ((with_reducible refine vcondF ?_ ?_); (focus (go_simp; done))) | ((with_reducible first | refine vrun_cons fun KK hKK => ?_ | refine vhrun_cons fun KK hKK => ?_); go_simp; refine hKK _ ?_; clear hKK KK) | ((refine vdrawL 10 10 [] rfl (by kernel_rfl) (by kernel_rfl) ?_); simp only [List.append, List.take, List.drop]) | ((refine vdrawL 15 15 [] rfl (by kernel_rfl) (by kernel_rfl) ?_); simp only [List.append, List.take, List.drop]) | ((refine vdrawL 18 18 [] rfl (by kernel_rfl) (by kernel_rfl) ?_); simp only [List.append, List.take, List.drop]) | ((with_reducible refine vcondS ?_ (fun ht => ?_) (fun ht => ?_)); (focus (go_simp; done)); (all_goals (simp [go_sem] at ht; replace ht := ht.out))) | ((apply vrun_consG0 rfl); (focus (go_simp <;> exact rfl)); (focus (go_simp; done)); (focus (intro hb0; replace hb0 := hb0.out; go_simp <;> (first | exact rfl))); intro KK hKK; go_simp; refine hKK _ ?_; clear hKK KK) | ((apply vhrun_consG0 rfl); (focus (go_simp <;> exact rfl)); (focus (intro hb0; replace hb0 := hb0.out; go_simp <;> (first | exact rfl))); intro KK hKK; go_simp; refine hKK _ ?_; clear hKK KK))
    go_simp
  · have e : ¬ iat LL b = -1 := fun e => hxm (law.1.2 e)
    rw [if_neg e] at k2
    have x1 : ¬ x < 0 := by omega
    obtain ⟨y1, y2⟩ := law.2 hxm
    have g := b_within x (iat LL b) (iat LH b)
    rw [inR_ok y1 y2] at g
    clear law hneg
    repeat' (first | (with_reducible first | refine vseq ?_ | refine vthenN ?_ | refine vthenE ?_ | refine vthenR ?_ | refine vret ?_ | refine vskip ?_ | refine vexit ?_ | refine vblock ?_ | refine vblockN ?_ | refine vblockR ?_ | refine vblockH ?_ | refine vrun_nil ?_ | refine vblockE rfl ?_ | refine vregion [] ?_ | refine vhrun_nil ?_) | ((with_reducible refine vcondT ?_ ?_); (focus (go_simp; done))) | ((with_reducible refine vcondF ?_ ?_); (focus (go_simp; done))) | ((with_reducible first | refine vrun_cons fun KK hKK => ?_ | refine vhrun_cons fun KK hKK => ?_); go_simp; refine hKK _ ?_; clear hKK KK) | ((with_reducible refine vcondS ?_ (fun ht => ?_) (fun ht => ?_)); (focus (go_simp; done)); (all_goals (simp [go_sem] at ht; replace ht := ht.out))) | ((apply vrun_consG0 rfl); (focus (go_simp <;> exact rfl)); (focus (go_simp; done)); (focus (intro hb0; replace hb0 := hb0.out; go_simp <;> (first | exact rfl))); intro KK hKK; go_simp; refine hKK _ ?_; clear hKK KK) | ((apply vhrun_consG0 rfl); (focus (go_simp <;> exact rfl)); (focus (intro hb0; replace hb0 := hb0.out; go_simp <;> (first | exact rfl))); intro KK hKK; go_simp; refine hKK _ ?_; clear hKK KK))
    refine vdrawA 9 [] [⟨7, 15, [.int .i64 0, .int .i64 0], some 8, [I (iat LL b), I (iat LH b)]⟩] (by kernel_rfl) (by kernel_rfl) (by kernel_rfl) (by go_simp) (by go_simp) ?_
    simp only [List.take, List.drop]
    repeat (first | (with_reducible first | refine vseq ?_ | refine vthenN ?_ | refine vthenE ?_ | refine vthenR ?_ | refine vret ?_ | refine vskip ?_ | refine vexit ?_ | refine vblock ?_ | refine vblockN ?_ | refine vblockR ?_ | refine vblockH ?_ | refine vrun_nil ?_ | refine vblockE rfl ?_ | refine vregion [] ?_ | refine vhrun_nil ?_) | ((with_reducible refine vcondT ?_ ?_); (focus (go_simp; done))) | ((with_reducible refine vcondF ?_ ?_); (focus (go_simp; done))) | ((with_reducible first | refine vrun_cons fun KK hKK => ?_ | refine vhrun_cons fun KK hKK => ?_); go_simp; (first | (with_reducible refine ⟨_, k1, ?_⟩) | (refine ⟨_, k2, ?_⟩) | skip); refine hKK _ ?_; clear hKK KK) | (refine vha_skip rfl ?_) | ((with_reducible refine vha_cons rfl fun KK hKK => ?_); go_simp; (first | (with_reducible refine ⟨_, k1, ?_⟩) | (refine ⟨_, k2, ?_⟩) | skip); refine hKK _ (by go_simp) ?_; clear hKK KK) | (with_reducible refine vha_nil ?_))
    refine ⟨by go_simp, ?_⟩
    simp only [slotS, slotE, Slot.end_, List.cons_append, List.nil_append]
    repeat' (first | (with_reducible first | refine vseq ?_ | refine vthenN ?_ | refine vthenE ?_ | refine vthenR ?_ | refine vret ?_ | refine vskip ?_ | refine vexit ?_ | refine vblock ?_ | refine vblockN ?_ | refine vblockR ?_ | refine vblockH ?_ | refine vrun_nil ?_ | refine vblockE rfl ?_ | refine vregion [] ?_ | refine vhrun_nil ?_) | ((with_reducible refine vcondT ?_ ?_); (focus (go_simp; done))) | ((with_reducible refine vcondF ?_ ?_); (focus (go_simp; done))) | ((with_reducible first | refine vrun_cons fun KK hKK => ?_ | refine vhrun_cons fun KK hKK => ?_); go_simp; (first | (with_reducible refine ⟨_, g, ?_⟩) | skip); refine hKK _ ?_; clear hKK KK) | ((refine vdrawL 10 10 [] rfl (by kernel_rfl) (by kernel_rfl) ?_); simp only [List.append, List.take, List.drop]) | ((refine vdrawL 15 15 [] rfl (by kernel_rfl) (by kernel_rfl) ?_); simp only [List.take, List.drop]) | ((refine vdrawL 18 18 [] rfl (by kernel_rfl) (by kernel_rfl) ?_); simp only [List.append, List.take, List.drop]) | ((with_reducible refine vcondS ?_ (fun ht => ?_) (fun ht => ?_)); (focus (go_simp; done)); (all_goals (simp [go_sem] at ht; replace ht := ht.out))) | ((apply vrun_consG0 rfl); (focus (go_simp <;> exact rfl)); (focus (go_simp; done)); (focus (intro hb0; replace hb0 := hb0.out; go_simp <;> (first | exact rfl | exact g | exact ⟨g, rfl⟩))); intro KK hKK; go_simp; refine hKK _ ?_; clear hKK KK) | ((apply vhrun_consG0 rfl); (focus (go_simp <;> exact rfl)); (focus (intro hb0; replace hb0 := hb0.out; go_simp <;> (first | exact rfl | exact g | exact ⟨g, rfl⟩))); intro KK hKK; go_simp; refine hKK _ ?_; clear hKK KK))
    go_simp
end Go.Proofs.Ytcndlalhkkjocaa
