/- Texts in one: Walks on a town that changes: cars that are called up. -/
import Derived.Test.YtoibondihdhnoaaGreatDoorFRA22
import Derived.Test.YtoibondihdhnoaaGreatDoorFRA21
namespace Go.Proofs.YtoibondihdhnoaaGreatDoor
open Go.RowKit
set_option maxRecDepth 100000
set_option maxHeartbeats 2000000
theorem w_callE (r : Ru) (s : St) (mv : List Sg) (n1 n2 : Bool) (x : Ev) (k : Nat) (hx : x.rank = k) (hk : k < s.q.length) (hr : r.ranks.length = s.q.length) (hf : FeedOK r s.q.length) (h0 : ¬ callE r s k = 0) :
  VH Tryz.prog 228 (townH r s mv n1 n2) [.ref 0 0, evA x] [0] (townH r s mv n1 n2) (I (callE r s k)) := by
 have hk2 : k < r.ranks.length := by omega
 have hfk := hf k hk
 obtain ⟨kd, tm, rk, car⟩ := x
 simp only at hx
 subst hx
 unfold callE at h0 ⊢
 by_cases h1 : (rat r.ranks k).feeder = -1
 ·rw [if_pos h1]
  clear hfk hf h0
  simp only [evA]
  refine VH_of Tryz.func228 rfl (by kernel_rfl) rfl (fun _ => by kernel_rfl) fun M0 w0 vs => ?_
  simp only [Tryz.ntmps228, Tryz.results228, enumA]
  unfold townH
  repeat' (first | (with_reducible first | refine vseq ?_ | refine vthenN ?_ | refine vrun_nil ?_ | refine vregion [] ?_) | ((with_reducible refine vrun_cons fun KK hKK => ?_); go_simp; refine hKK _ ?_; clear hKK KK))
  refine vdrawA 10 [] [⟨9, 5, [.string ⟨#[]⟩, .int .i64 0, .int .i64 0, .bool false], none, []⟩] (by kernel_rfl) (by kernel_rfl) (by kernel_rfl) (by go_simp) (by go_simp) ?_
  simp only [List.take, List.drop]
  repeat (first | (refine vha_skip rfl ?_) | ((with_reducible refine vha_cons rfl fun KK hKK => ?_); go_simp; refine hKK _ (by go_simp) ?_; clear hKK KK) | (with_reducible refine vha_nil ?_))
  refine ⟨by go_simp, ?_⟩
  simp only [slotS, slotE, Slot.end_, List.cons_append, List.nil_append]
  repeat' (first | (with_reducible first | refine vseq ?_ | refine vthenN ?_ | refine vthenR ?_ | refine vret ?_ | refine vrun_nil ?_ | refine vregion [] ?_) | ((with_reducible refine vcondT ?_ ?_); (focus (go_simp; done))) | ((with_reducible refine vrun_cons fun KK hKK => ?_); go_simp; refine hKK _ ?_; clear hKK KK))
  go_simp
 ·rw [if_neg h1] at h0 ⊢
  obtain ⟨f0, fl⟩ := hfk h1
  unfold feedN at h0 ⊢
  obtain ⟨f, hfe⟩ : ∃ f : Nat, (rat r.ranks k).feeder = f := ⟨(rat r.ranks k).feeder.toNat, by omega⟩
  have g3 := p_free r s mv k hk hr
  rw [hfe] at fl h1 h0 ⊢
  simp only [Int.toNat_natCast] at fl h0 ⊢
  clear hfk hf f0
  have g1 := p_unless (rat r.ranks k).called 22
  have g2 := p_unless (decide (0 < (qat s.q f).length)) 12
  have g4 := p_unless (freeP r s k) 16
  have g5 : VC Tryz.prog 88 [.sl 1 ([unl (rat r.ranks k).called 22, unl (decide (0 < (qat s.q f).length)) 12, unl (freeP r s k) 16].map intA)] (I (fst [unl (rat r.ranks k).called 22, unl (decide (0 < (qat s.q f).length)) 12, unl (freeP r s k) 16])) := p_firstR _ rfl rfl
  generalize fst [unl (rat r.ranks k).called 22, unl (decide (0 < (qat s.q f).length)) 12, unl (freeP r s k) 16] = E at *
  generalize unl (rat r.ranks k).called 22 = A1 at *
  generalize unl (decide (0 < (qat s.q f).length)) 12 = A2 at *
  generalize unl (freeP r s k) 16 = A3 at *
  generalize freeP r s k = F at *
  simp only [evA]
  refine VH_of Tryz.func228 rfl (by kernel_rfl) rfl (fun _ => by kernel_rfl) fun M0 w0 vs => ?_
  simp only [Tryz.ntmps228, Tryz.results228, enumA]
  unfold townH
  repeat' (first | (with_reducible first | refine vseq ?_ | refine vthenN ?_ | refine vrun_nil ?_ | refine vregion [] ?_) | ((with_reducible refine vrun_cons fun KK hKK => ?_); go_simp; refine hKK _ ?_; clear hKK KK))
  refine vdrawA 10 [] [⟨9, 5, [.string ⟨#[]⟩, .int .i64 0, .int .i64 0, .bool false], none, []⟩] (by kernel_rfl) (by kernel_rfl) (by kernel_rfl) (by go_simp) (by go_simp) ?_
  simp only [List.take, List.drop]
  repeat (first | (refine vha_skip rfl ?_) | ((with_reducible refine vha_cons rfl fun KK hKK => ?_); go_simp; refine hKK _ (by go_simp) ?_; clear hKK KK) | (with_reducible refine vha_nil ?_))
  refine ⟨by go_simp, ?_⟩
  simp only [slotS, slotE, Slot.end_, List.cons_append, List.nil_append]
  repeat' (first | (with_reducible first | refine vseq ?_ | refine vthenN ?_ | refine vret ?_ | refine vskip ?_ | refine vrun_nil ?_ | refine vregion [] ?_ | refine vhrun_nil ?_) | ((with_reducible refine vcondF ?_ ?_); (focus (go_simp; done))) | ((with_reducible first | refine vrun_cons fun KK hKK => ?_ | refine vhrun_cons fun KK hKK => ?_); go_simp; (first | (with_reducible refine ⟨_, g1, ?_⟩) | (with_reducible refine ⟨_, g2, ?_⟩) | (refine ⟨_, ⟨g3, rfl⟩, ?_⟩) | (with_reducible refine ⟨_, g4, ?_⟩) | (refine ⟨_, g5, ?_⟩) | skip); refine hKK _ ?_; clear hKK KK) | ((refine vdrawL 23 23 [] rfl (by kernel_rfl) (by kernel_rfl) ?_); simp only [List.take, List.drop]))
  go_simp
theorem w_call (r : Ru) (s : St) (mv : List Sg) (n1 n2 : Bool) (x : Ev) (k f : Nat) (hx : x.rank = k) (hk : k < s.q.length) (hr : r.ranks.length = s.q.length) (hf : (rat r.ranks k).feeder = f) (hfl : f < s.q.length) (hne : f ≠ k) (hq : (qat s.q k).length + 1 ≤ 1000000000) (hm : mv.length + 2 ≤ 1000000000) (h0 : callE r s k = 0) :
  VH Tryz.prog 228 (townH r s mv n1 n2) [.ref 0 0, evA x] [0] (townH r ⟨upQ s.q k f, s.tk, s.time⟩ (mv ++ upM s.q k f) n1 false) (I 0) := by
 have hk2 : k < r.ranks.length := by omega
 obtain ⟨kd, tm, rk, car⟩ := x
 simp only at hx
 subst hx
 have h1 : ¬ (f : Int) = -1 := by omega
 unfold callE feedN at h0
 rw [hf, if_neg h1, Int.toNat_natCast] at h0
 have hp : 0 < (qat s.q f).length := by
  rw [fst_cons, fst_cons] at h0
  exact of_decide_eq_true (unl_zero (by decide) h0.2.1)
 have gu := w_up r s mv n1 n2 k f hk hr hf hfl hne hp hq hm
 have g3 := p_free r s mv k hk hr
 have g1 := p_unless (rat r.ranks k).called 22
 have g2 := p_unless (decide (0 < (qat s.q f).length)) 12
 have g4 := p_unless (freeP r s k) 16
 have g5 : VC Tryz.prog 88 [.sl 1 ([unl (rat r.ranks k).called 22, unl (decide (0 < (qat s.q f).length)) 12, unl (freeP r s k) 16].map intA)] (I (fst [unl (rat r.ranks k).called 22, unl (decide (0 < (qat s.q f).length)) 12, unl (freeP r s k) 16])) := p_firstR _ rfl rfl
 rw [h0] at g5
 have hd : decide (0 < (qat s.q f).length) = true := decide_eq_true hp
 clear h0
 generalize unl (rat r.ranks k).called 22 = A1 at *
 rw [hd] at g2 g5
 generalize unl true 12 = A2 at *
 generalize unl (freeP r s k) 16 = A3 at *
 generalize freeP r s k = F at *
 generalize upQ s.q k f = Q2 at *
 generalize mv ++ upM s.q k f = M2 at *
 clear hd hq hm
 simp only [evA]
 refine VH_of Tryz.func228 rfl (by kernel_rfl) rfl (fun _ => by kernel_rfl) fun M0 w0 vs => ?_
 simp only [Tryz.ntmps228, Tryz.results228, enumA]
 unfold townH at gu ⊢
 repeat' (first | (with_reducible first | refine vseq ?_ | refine vthenN ?_ | refine vrun_nil ?_ | refine vregion [] ?_) | ((with_reducible refine vrun_cons fun KK hKK => ?_); go_simp; refine hKK _ ?_; clear hKK KK))
 refine vdrawA 10 [] [⟨9, 5, [.string ⟨#[]⟩, .int .i64 0, .int .i64 0, .bool false], none, []⟩] (by kernel_rfl) (by kernel_rfl) (by kernel_rfl) (by go_simp) (by go_simp) ?_
 simp only [List.take, List.drop]
 repeat (first | (refine vha_skip rfl ?_) | ((with_reducible refine vha_cons rfl fun KK hKK => ?_); go_simp; refine hKK _ (by go_simp) ?_; clear hKK KK) | (with_reducible refine vha_nil ?_))
 refine ⟨by go_simp, ?_⟩
 simp only [slotS, slotE, Slot.end_, List.cons_append, List.nil_append]
 repeat' (first | (with_reducible first | refine vseq ?_ | refine vthenN ?_ | refine vrun_nil ?_) | ((with_reducible refine vrun_cons fun KK hKK => ?_); go_simp; refine hKK _ ?_; clear hKK KK))
 refine vregion [] ?_
 repeat' (first | (with_reducible first | refine vseq ?_ | refine vthenN ?_ | refine vskip ?_ | refine vrun_nil ?_) | ((with_reducible refine vcondF ?_ ?_); (focus (go_simp; done))) | ((with_reducible refine vrun_cons fun KK hKK => ?_); go_simp; refine hKK _ ?_; clear hKK KK))
 refine vdrawL 23 23 [] rfl (by kernel_rfl) (by kernel_rfl) ?_
 simp only [List.take, List.drop]
 repeat' (first | (with_reducible first | refine vseq ?_ | refine vthenN ?_ | refine vrun_nil ?_ | refine vhrun_nil ?_) | ((with_reducible refine vhrun_cons fun KK hKK => ?_); go_simp; (first | (with_reducible refine ⟨_, g1, ?_⟩) | (with_reducible refine ⟨_, g2, ?_⟩) | (refine ⟨_, ⟨g3, rfl⟩, ?_⟩) | (with_reducible refine ⟨_, g4, ?_⟩) | (refine ⟨_, g5, ?_⟩) | skip); refine hKK _ ?_; clear hKK KK))
 refine vregion [] ?_
 repeat' (first | (with_reducible first | refine vthenN ?_ | refine vrun_nil ?_) | ((with_reducible refine vcondT ?_ ?_); (focus (go_simp; done))) | ((with_reducible refine vrun_cons fun KK hKK => ?_); go_simp; refine hKK _ ?_; clear hKK KK))
 refine vregionL (vl_run [] 3 ⟨rfl, rfl⟩ ?_)
 simp only [List.take, List.drop]
 repeat' (first | (with_reducible refine vrun_nil ?_) | ((with_reducible refine vrun_cons fun KK hKK => ?_); go_simp; refine hKK _ ?_; clear hKK KK))
 refine vl_call [0, 1, 2, 3] [0] [] [some (.box [.osl 1, .osl 2, I s.time, .sl 4 (r.ranks.map Rk.av), I r.back, I r.ret, .osl 3]), some (.bag 62 1 false none (rowsC Q2)), some (.arr 148 3 n1 (s.tk.map Tk.av)), some (.arr 45 3 false (M2.map Sg.av))] (.tup []) rfl (by go_simp) ?_ ?_
 ·unfold HCall
  go_simp
  refine ⟨_, _, _, gu, ?_⟩
  go_simp
  kernel_rfl
 go_simp
 refine vl_nil ?_
 repeat' (with_reducible first | refine vseq ?_ | refine vthenN ?_)
 refine vregion [] ?_
 repeat' (first | (with_reducible first | refine vthenN ?_ | refine vret ?_ | refine vrun_nil ?_) | ((with_reducible refine vrun_cons fun KK hKK => ?_); go_simp; refine hKK _ ?_; clear hKK KK))
 go_simp
end Go.Proofs.YtoibondihdhnoaaGreatDoor
