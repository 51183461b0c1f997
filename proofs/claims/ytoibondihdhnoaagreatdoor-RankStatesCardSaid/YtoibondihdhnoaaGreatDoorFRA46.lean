/- Texts in one: Walks: lists that are the same; of every length up to a million. -/
import Derived.Test.YtoibondihdhnoaaGreatDoorFRA45
import Derived.Test.YtoibondihdhnoaaGreatDoorFRA41
namespace Go.Proofs.YtoibondihdhnoaaGreatDoor
open Go.RowKit
set_option maxRecDepth 100000
set_option maxHeartbeats 2000000
theorem s_SameWaits (l : List Wt) (hl : l.length ≤ 1000000) : VC Tryz.prog 43 [.sl 3 (l.map Wt.av), .sl 3 (l.map Wt.av)] (B true) := by
 refine VC_of Tryz.func43 rfl (by kernel_rfl) (by kernel_rfl) rfl fun M0 w0 => ?_
 simp only [Tryz.ntmps43, Tryz.results43, enumA]
 repeat' (first | (with_reducible first | refine vseq ?_ | refine vthenN ?_ | refine vskip ?_ | refine vblock ?_ | refine vrun_nil ?_ | refine vregion [] ?_) | ((with_reducible refine vcondF ?_ ?_); (focus (go_simp; done))) | ((with_reducible refine vrun_cons fun KK hKK => ?_); go_simp; refine hKK _ ?_; clear hKK KK))
 apply vfor [0, 1] (fun k => [(5, I k)]) (fun k => ([] : Hp)) (fun _ => false) (l.length)
 ·go_simp <;> exact rfl
 ·go_simp
 ·intro k hk HB HP K hK
  obtain ⟨w1, w2, w3, w4, w5, w6⟩ := ixs (m := k) (by omega)
  repeat' (first | (with_reducible first | refine vseq ?_ | refine vthenN ?_ | refine vskip ?_ | refine vblock ?_ | refine vblockN ?_ | refine vrun_nil ?_ | refine vregion [] ?_ | refine vhrun_nil ?_) | ((with_reducible refine vcondT ?_ ?_); (focus (go_simp; done))) | ((with_reducible refine vcondF ?_ ?_); (focus (go_simp; done))) | ((with_reducible first | refine vrun_cons fun KK hKK => ?_ | refine vhrun_cons fun KK hKK => ?_); go_simp; refine hKK _ ?_; clear hKK KK) | ((refine vdrawL 9 9 [] rfl (by kernel_rfl) (by kernel_rfl) ?_); simp only [List.take, List.drop]))
  refine hK _ ?_
  go_simp
 ·intro k hk HB HP K
  exact absurd HP.out (by simp)
 ·intro HB K
  repeat' (first | (with_reducible first | refine vseq ?_ | refine vthenN ?_ | refine vthenE ?_ | refine vret ?_ | refine vexit ?_ | refine vblockH ?_ | refine vrun_nil ?_ | refine vregion [] ?_) | ((with_reducible refine vcondF ?_ ?_); (focus (go_simp; done))) | ((with_reducible refine vrun_cons fun KK hKK => ?_); go_simp; refine hKK _ ?_; clear hKK KK))
  go_simp
end Go.Proofs.YtoibondihdhnoaaGreatDoor
namespace Go.Proofs.YtoibondihdhnoaaGreatDoor
open Go.RowKit
set_option maxRecDepth 100000
set_option maxHeartbeats 2000000
theorem o_CopyTexts (l : List ByteArray) (hl : l.length ≤ 1000000) : VCo Tryz.prog 116 [txtsA l] 9 1 false (l.map txtA) := by
 refine VCo_of Tryz.func116 rfl (by kernel_rfl) (by kernel_rfl) rfl Tryz.results116 (by decide) (fun k x hx => by exact TxO.map l x (List.mem_of_getElem? hx)) fun M0 w0 => ?_
 simp only [Tryz.ntmps116, enumA]
 have hl2 : l.length ≤ 1000000000 := by omega
 repeat (first | (with_reducible first | refine vseq ?_ | refine vthenN ?_ | refine vret ?_ | refine vrun_nil ?_ | refine vregion [3] ?_) | ((with_reducible refine vrun_cons fun KK hKK => ?_); go_simp; refine hKK _ ?_; clear hKK KK))
 exact ⟨0, rfl, rfl⟩
theorem v_CopyTexts (l : List ByteArray) (hl : l.length ≤ 1000000) : VC Tryz.prog 116 [txtsA l] (txtsA l) := VC_of_own (o_CopyTexts l hl)
theorem v_CopyRules (r : Ru) (hl : r.ranks.length ≤ 1000000) : VC Tryz.prog 22 [rulesA r] (rulesA r) := by
 have hl2 : r.ranks.length ≤ 1000000000 := by omega
 refine VC_of Tryz.func22 rfl (by kernel_rfl) (by kernel_rfl) rfl fun M0 w0 => ?_
 simp only [Tryz.ntmps22, Tryz.results22, enumA]
 repeat' (with_reducible refine vseq ?_)
 refine vregion [1] ?_
 repeat' (first | (with_reducible first | refine vseq ?_ | refine vthenN ?_ | refine vrun_nil ?_) | ((with_reducible refine vrun_cons fun KK hKK => ?_); go_simp; refine hKK _ ?_; clear hKK KK))
 refine vregion [3] ?_
 repeat' (first | (with_reducible first | refine vseq ?_ | refine vthenN ?_ | refine vrun_nil ?_) | ((with_reducible refine vrun_cons fun KK hKK => ?_); go_simp; refine hKK _ ?_; clear hKK KK))
 refine vfreezeIn 0 0 2 rfl rfl rfl ?_
 repeat' (first | (with_reducible first | refine vthenN ?_ | refine vret ?_ | refine vrun_nil ?_ | refine vregion [] ?_) | ((with_reducible refine vrun_cons fun KK hKK => ?_); go_simp; refine hKK _ ?_; clear hKK KK))
 go_simp
theorem b_HasText (l : List ByteArray) (s : ByteArray) (hl : l.length ≤ 1000000) : VC Tryz.prog 70 [txtsA l, S s] (B (anyP (isT l s) 0 l.length)) := by
 obtain ⟨R, hR⟩ : ∃ R, anyP (isT l s) 0 l.length = R := ⟨_, rfl⟩
 rw [hR]
 have HR := Lib.hid hR
 clear hR
 refine VC_of Tryz.func70 rfl (by kernel_rfl) (by kernel_rfl) rfl fun M0 w0 => ?_
 simp only [Tryz.ntmps70, Tryz.results70, enumA]
 repeat' (first | (with_reducible first | refine vseq ?_ | refine vthenN ?_ | refine vblock ?_ | refine vrun_nil ?_ | refine vregion [] ?_) | ((with_reducible refine vrun_cons fun KK hKK => ?_); go_simp; refine hKK _ ?_; clear hKK KK))
 apply vfor [0, 1] (fun k => [(5, I k)]) (fun k => ([] : Hp)) (isT l s) (l.length)
 ·go_simp <;> exact rfl
 ·go_simp
 ·intro k hk HB HP K hK
  obtain ⟨w1, w2, w3, w4, w5, w6⟩ := ixs (m := k) (by omega)
  have hp : ¬ l[k] = s := by
   have := HP.out
   simpa [isT, tat_get hk] using this
  repeat' (first | (with_reducible first | refine vseq ?_ | refine vthenN ?_ | refine vskip ?_ | refine vblock ?_ | refine vblockN ?_ | refine vrun_nil ?_ | refine vregion [] ?_) | ((with_reducible refine vcondT ?_ ?_); (focus (go_simp; done))) | ((with_reducible refine vcondF ?_ ?_); (focus (go_simp; done))) | ((with_reducible refine vrun_cons fun KK hKK => ?_); go_simp; refine hKK _ ?_; clear hKK KK))
  refine hK _ ?_
  go_simp
 ·intro k hk HB HP K
  have hp : l[k] = s := by
   have := HP.out
   simpa [isT, tat_get hk] using this
  have e := HR.out
  rw [anyP_hit hk HP.out] at e
  subst e
  repeat' (first | (with_reducible first | refine vseq ?_ | refine vthenN ?_ | refine vthenR ?_ | refine vret ?_ | refine vskip ?_ | refine vblock ?_ | refine vblockR ?_ | refine vrun_nil ?_ | refine vregion [] ?_) | ((with_reducible refine vcondT ?_ ?_); (focus (go_simp; done))) | ((with_reducible refine vrun_cons fun KK hKK => ?_); go_simp; refine hKK _ ?_; clear hKK KK))
  go_simp
 ·intro HB K
  have e := HR.out
  rw [anyP_out HB.out] at e
  subst e
  repeat (first | (with_reducible first | refine vseq ?_ | refine vthenN ?_ | refine vthenE ?_ | refine vret ?_ | refine vexit ?_ | refine vblockH ?_ | refine vrun_nil ?_ | refine vregion [] ?_) | ((with_reducible refine vcondF ?_ ?_); (focus (go_simp; done))) | ((with_reducible refine vrun_cons fun KK hKK => ?_); go_simp; refine hKK _ ?_; clear hKK KK))
  go_simp
end Go.Proofs.YtoibondihdhnoaaGreatDoor
namespace Go.Proofs.YtoibondihdhnoaaGreatDoor
open Go.RowKit
set_option maxRecDepth 100000
set_option maxHeartbeats 2000000
def standR : Ru := ⟨[⟨⟨#[115, 116, 97, 110, 100]⟩, 2, 1, false⟩, ⟨⟨#[102, 101, 101, 100, 101, 114]⟩, 3, -1, false⟩], 1, 60⟩
def mornL : List Ev := [⟨0, 0, 0, ⟨#[97]⟩⟩, ⟨0, 5, 0, ⟨#[98]⟩⟩, ⟨0, 9, 1, ⟨#[99]⟩⟩, ⟨1, 20, 0, ⟨#[97]⟩⟩]
def mornS : St := ⟨[[⟨#[98]⟩, ⟨#[99]⟩], []], [⟨⟨#[97]⟩, 0, 20⟩], 20⟩
theorem v_Stand : VC Tryz.prog 83 [] (rulesA standR) := by
 unfold standR
 refine VC_of Tryz.func83 rfl (by kernel_rfl) (by kernel_rfl) rfl fun M0 w0 => ?_
 simp only [Tryz.ntmps83, Tryz.results83, enumA]
 repeat' (first | (with_reducible first | refine vseq ?_ | refine vthenN ?_ | refine vret ?_ | refine vrun_nil ?_ | refine vregion [] ?_) | ((with_reducible refine vrun_cons fun KK hKK => ?_); go_simp; refine hKK _ ?_; clear hKK KK))
 go_simp
theorem v_Morning : VC Tryz.prog 84 [] (evsA mornL) := by
 unfold mornL
 refine VC_of Tryz.func84 rfl (by kernel_rfl) (by kernel_rfl) rfl fun M0 w0 => ?_
 simp only [Tryz.ntmps84, Tryz.results84, enumA]
 repeat' (first | (with_reducible first | refine vseq ?_ | refine vthenN ?_ | refine vret ?_ | refine vrun_nil ?_ | refine vregion [] ?_) | ((with_reducible refine vrun_cons fun KK hKK => ?_); go_simp; refine hKK _ ?_; clear hKK KK))
 go_simp
theorem morn_rep : repR standR mornL = (mornS, 0, 0) := by kernel_rfl
theorem morn_err : errL standR mornL = 0 := by kernel_rfl
theorem morn_wait : waitD mornL 0 mornL = [⟨⟨#[97]⟩, 0, 20⟩] := by kernel_rfl
theorem morn_sight : (sightR standR mornL).2 = 0 ∧ (sightR standR mornL).1.length = 6 := ⟨by kernel_rfl, by kernel_rfl⟩
def seenL : List Sg := [⟨0, 0, ⟨#[97]⟩⟩, ⟨0, 0, ⟨#[98]⟩⟩, ⟨1, 0, ⟨#[98]⟩⟩]
theorem seen_t : ovT seenL = .agg [I 0, I 1, I 2] := by kernel_rfl
theorem seen_e : ovE seenL = 0 := by kernel_rfl
def callT : ByteArray := ⟨#[99, 97, 108, 108, 32, 50, 48, 32, 48, 32, 45]⟩
theorem call_p : evP (pieces 32 callT) = (⟨4, 20, 0, ⟨#[]⟩⟩, 0) := by kernel_rfl
theorem morn_text : stText mornS = ⟨#[50, 48, 124, 98, 32, 99, 124, 124, 97, 58, 48, 58, 50, 48]⟩ := by kernel_rfl
theorem small_morn : SmallL standR mornL := ⟨by decide, fun k hk => by
 have h2 : k < 2 := hk
 rcases k with _ | _ | k
 ·decide
 ·decide
 ·omega, fun x hx => by
 simp only [mornL, List.mem_cons, List.not_mem_nil, or_false] at hx
 rcases hx with rfl | rfl | rfl | rfl <;> decide⟩
theorem small_mornS : SmallS mornS := by
 refine ⟨by decide, fun l hl => ?_, by decide, fun t ht => ?_, by unfold i64; decide⟩
 ·simp only [mornS, List.mem_cons, List.not_mem_nil, or_false] at hl
  rcases hl with rfl | rfl
  ·refine ⟨by decide, fun c hc => ?_⟩
   simp only [List.mem_cons, List.not_mem_nil, or_false] at hc
   rcases hc with rfl | rfl <;> decide
  ·exact ⟨by decide, fun c hc => by simp at hc⟩
 ·simp only [mornS, List.mem_cons, List.not_mem_nil, or_false] at ht
  subst ht
  unfold i64
  decide
theorem l_awake : VC Tryz.prog 18 [] (B true) := by
 have g1 := v_Stand
 have g2 := v_Morning
 have g3 := p_Replay standR mornL small_morn
 have g4 := p_Waits standR mornL small_morn
 have g5 := p_Overtaken seenL (by decide) (fun k hk => by
  have h2 : k < 3 := hk
  rcases k with _ | _ | _ | k
  ·decide
  ·decide
  ·decide
  ·omega)
 have g6 := p_ParseEvent callT (by decide)
 have g7 := p_SightingsOf standR mornL small_morn
 have g8 := p_FormatState mornS small_mornS
 have g9 := s_SameWaits [⟨⟨#[97]⟩, 0, 20⟩] (by decide)
 obtain ⟨m1, m2⟩ := morn_sight
 rw [morn_rep] at g3
 rw [morn_err, if_pos rfl, morn_wait] at g4
 rw [seen_t, seen_e] at g5
 rw [call_p] at g6
 rw [m1] at g7
 rw [morn_text] at g8
 generalize (sightR standR mornL).1 = L at *
 have m3 : (L.length : Int) = 6 := by omega
 clear m1 m2
 generalize standR = R0 at *
 generalize hM : mornL = M at *
 clear hM
 generalize hS : mornS = S0 at *
 clear hS
 unfold seenL at g5
 unfold callT at g6
 simp only [rulesA, evsA, stateA, sgsA, evA, List.map_cons, List.map_nil, Sg.av, Wt.av] at g1 g2 g3 g4 g5 g6 g7 g8 g9
 refine VC_of Tryz.func18 rfl (by kernel_rfl) (by kernel_rfl) rfl fun M0 w0 => ?_
 simp only [Tryz.ntmps18, Tryz.results18, enumA]
 repeat' (first | (with_reducible first | refine vseq ?_ | refine vthenN ?_ | refine vret ?_ | refine vrun_nil ?_ | refine vregion [] ?_) | ((with_reducible refine vrun_cons fun KK hKK => ?_); go_simp; (first | (with_reducible refine ⟨_, g1, ?_⟩) | (with_reducible refine ⟨_, g2, ?_⟩) | (with_reducible refine ⟨_, g3, ?_⟩) | (with_reducible refine ⟨_, g4, ?_⟩) | (with_reducible refine ⟨_, g5, ?_⟩) | (with_reducible refine ⟨_, g6, ?_⟩) | (with_reducible refine ⟨_, g7, ?_⟩) | (with_reducible refine ⟨_, g8, ?_⟩) | (with_reducible refine ⟨_, g9, ?_⟩) | skip); refine hKK _ ?_; clear hKK KK))
 go_simp
end Go.Proofs.YtoibondihdhnoaaGreatDoor
namespace Go.Proofs.YtoibondihdhnoaaGreatDoor
open Go.RowKit
set_option maxRecDepth 100000
set_option maxHeartbeats 2000000
theorem r_HasRank (r : Ru) (n : Int) (hn : r.ranks.length ≤ 1000000) : VC Tryz.prog 33 [rulesA r, I n] (B (inR n 0 ((r.ranks.length : Int) - 1))) := by
 have i1 := b_within n 0 ((r.ranks.length : Int) - 1)
 have hw : IntKind.i64.wrap ((r.ranks.length : Int) - 1) = (r.ranks.length : Int) - 1 := wrap_eq (by omega) (by omega)
 generalize inR n 0 ((r.ranks.length : Int) - 1) = D at *
 refine VC_of Tryz.func33 rfl (by kernel_rfl) (by kernel_rfl) rfl fun M0 w0 => ?_
 simp only [Tryz.ntmps33, Tryz.results33, enumA]
 repeat' (first | (with_reducible first | refine vseq ?_ | refine vthenN ?_ | refine vret ?_ | refine vrun_nil ?_ | refine vregion [] ?_) | ((with_reducible refine vrun_cons fun KK hKK => ?_); go_simp; (first | (with_reducible refine ⟨_, i1, ?_⟩) | skip); refine hKK _ ?_; clear hKK KK))
 go_simp
theorem r_rankErr (r : Ru) (i : Nat) (hi : i < r.ranks.length) (hn : r.ranks.length ≤ 1000000) (hnm : (rat r.ranks i).name.size ≤ 1000) : VC Tryz.prog 101 [rulesA r, I (i : Int)] (I (rkE r i)) := by
 obtain ⟨E, hE⟩ : ∃ E, rkE r i = E := ⟨_, rfl⟩
 rw [hE]
 have i1 := b_isName (rat r.ranks i).name (by omega)
 have i2 := b_within (rat r.ranks i).places 1 12
 have i3 := r_HasRank r (rat r.ranks i).feeder hn
 have HE := Lib.hid hE
 clear hE hnm
 obtain ⟨w1, w2, w3, w4, w5, w6⟩ := ixs (m := i) (by omega)
 cases hD1 : isName (rat r.ranks i).name
 ·have e : rkE r i = 4 := by simp [rkE, fst, unl, hD1]
  rw [HE.out] at e
  rw [hD1] at i1
  subst e
  refine VC_of Tryz.func101 rfl (by kernel_rfl) (by kernel_rfl) rfl fun M0 w0 => ?_
  simp only [Tryz.ntmps101, Tryz.results101, enumA]
  repeat' (first | (with_reducible first | refine vseq ?_ | refine vthenN ?_ | refine vthenR ?_ | refine vret ?_ | refine vrun_nil ?_ | refine vregion [] ?_) | ((with_reducible refine vcondT ?_ ?_); (focus (go_simp; done))) | ((with_reducible refine vrun_cons fun KK hKK => ?_); go_simp; (first | (with_reducible refine ⟨_, i1, ?_⟩) | skip); refine hKK _ ?_; clear hKK KK))
  go_simp
 rw [hD1] at i1
 refine VC_of Tryz.func101 rfl (by kernel_rfl) (by kernel_rfl) rfl fun M0 w0 => ?_
 simp only [Tryz.ntmps101, Tryz.results101, enumA]
 repeat' (first | (with_reducible first | refine vseq ?_ | refine vthenN ?_ | refine vskip ?_ | refine vblock ?_ | refine vrun_nil ?_ | refine vregion [] ?_) | ((with_reducible refine vcondF ?_ ?_); (focus (go_simp; done))) | ((with_reducible refine vrun_cons fun KK hKK => ?_); go_simp; (first | (with_reducible refine ⟨_, i1, ?_⟩) | skip); refine hKK _ ?_; clear hKK KK))
 apply vfor [1, 2, 5] (fun k => [(6, I k)]) (fun k => ([some (.box [S (rat r.ranks i).name, I (rat r.ranks i).places, I (rat r.ranks i).feeder, B (rat r.ranks i).called])] : Hp)) (fun k => decide ((rat r.ranks k).name = (rat r.ranks i).name)) (i)
 ·go_simp <;> exact rfl
 ·go_simp
 ·intro k hk HB HP K hK
  obtain ⟨x1, x2, x3, x4, x5, x6⟩ := ixs (m := k) (by omega)
  have hkn : k < r.ranks.length := by omega
  have hp : ¬ (rat r.ranks k).name = (rat r.ranks i).name := of_decide_eq_false HP.out
  repeat' (first | (with_reducible first | refine vseq ?_ | refine vthenN ?_ | refine vskip ?_ | refine vblock ?_ | refine vblockN ?_ | refine vrun_nil ?_ | refine vregion [] ?_ | refine vhrun_nil ?_) | ((with_reducible refine vcondT ?_ ?_); (focus (go_simp; done))) | ((with_reducible refine vcondF ?_ ?_); (focus (go_simp; done))) | ((with_reducible first | refine vrun_cons fun KK hKK => ?_ | refine vhrun_cons fun KK hKK => ?_); go_simp; refine hKK _ ?_; clear hKK KK) | ((refine vdrawL 9 9 [] rfl (by kernel_rfl) (by kernel_rfl) ?_); simp only [List.take, List.drop]))
  refine hK _ ?_
  go_simp
 ·intro k hk HB HP K
  obtain ⟨x1, x2, x3, x4, x5, x6⟩ := ixs (m := k) (by omega)
  have hkn : k < r.ranks.length := by omega
  have hp : (rat r.ranks k).name = (rat r.ranks i).name := of_decide_eq_true HP.out
  have hA : aheadN r i = true := anyP_hit hk HP.out
  have e : rkE r i = 5 := by simp [rkE, fst, unl, hD1, hA]
  rw [HE.out] at e
  subst e
  repeat' (first | (with_reducible first | refine vseq ?_ | refine vthenN ?_ | refine vthenR ?_ | refine vret ?_ | refine vskip ?_ | refine vblock ?_ | refine vblockR ?_ | refine vrun_nil ?_ | refine vregion [] ?_ | refine vhrun_nil ?_) | ((with_reducible refine vcondT ?_ ?_); (focus (go_simp; done))) | ((with_reducible first | refine vrun_cons fun KK hKK => ?_ | refine vhrun_cons fun KK hKK => ?_); go_simp; refine hKK _ ?_; clear hKK KK) | ((refine vdrawL 9 9 [] rfl (by kernel_rfl) (by kernel_rfl) ?_); simp only [List.take, List.drop]))
  go_simp
 ·intro HB K
  have hA : aheadN r i = false := anyP_out HB.out
  cases hD2 : inR (rat r.ranks i).places 1 12
  ·have e : rkE r i = 2 := by simp [rkE, fst, unl, hD1, hA, hD2]
   rw [HE.out] at e
   rw [hD2] at i2
   subst e
   repeat' (first | (with_reducible first | refine vseq ?_ | refine vthenN ?_ | refine vthenE ?_ | refine vthenR ?_ | refine vret ?_ | refine vexit ?_ | refine vblockH ?_ | refine vrun_nil ?_ | refine vregion [] ?_) | ((with_reducible refine vcondT ?_ ?_); (focus (go_simp; done))) | ((with_reducible refine vcondF ?_ ?_); (focus (go_simp; done))) | ((with_reducible refine vrun_cons fun KK hKK => ?_); go_simp; (first | (with_reducible refine ⟨_, i2, ?_⟩) | skip); refine hKK _ ?_; clear hKK KK))
   go_simp
  rw [hD2] at i2
  by_cases hF : (rat r.ranks i).feeder = -1
  ·have hfb : feedsB r i = false := by simp [feedsB, hF]
   cases hC : (rat r.ranks i).called
   ·have e : rkE r i = 0 := by simp [rkE, fst, unl, hD1, hA, hD2, hfb, hC]
    rw [HE.out] at e
    subst e
    repeat' (first | (with_reducible first | refine vseq ?_ | refine vthenN ?_ | refine vthenE ?_ | refine vthenR ?_ | refine vret ?_ | refine vskip ?_ | refine vexit ?_ | refine vblockH ?_ | refine vrun_nil ?_ | refine vregion [] ?_) | ((with_reducible refine vcondT ?_ ?_); (focus (go_simp; done))) | ((with_reducible refine vcondF ?_ ?_); (focus (go_simp; done))) | ((with_reducible refine vrun_cons fun KK hKK => ?_); go_simp; (first | (with_reducible refine ⟨_, i2, ?_⟩) | skip); refine hKK _ ?_; clear hKK KK))
    go_simp
   ·have e : rkE r i = 3 := by simp [rkE, fst, unl, hD1, hA, hD2, hfb, hC]
    rw [HE.out] at e
    subst e
    repeat' (first | (with_reducible first | refine vseq ?_ | refine vthenN ?_ | refine vthenE ?_ | refine vthenR ?_ | refine vret ?_ | refine vskip ?_ | refine vexit ?_ | refine vblockH ?_ | refine vrun_nil ?_ | refine vregion [] ?_) | ((with_reducible refine vcondT ?_ ?_); (focus (go_simp; done))) | ((with_reducible refine vcondF ?_ ?_); (focus (go_simp; done))) | ((with_reducible refine vrun_cons fun KK hKK => ?_); go_simp; (first | (with_reducible refine ⟨_, i2, ?_⟩) | skip); refine hKK _ ?_; clear hKK KK))
    go_simp
  have hfb : feedsB r i = true := by simp [feedsB, hF]
  cases hD3 : inR (rat r.ranks i).feeder 0 ((r.ranks.length : Int) - 1)
  ·have e : rkE r i = 6 := by simp [rkE, fst, unl, hD1, hA, hD2, hfb, hD3]
   rw [HE.out] at e
   rw [hD3] at i3
   subst e
   repeat' (first | (with_reducible first | refine vseq ?_ | refine vthenN ?_ | refine vthenE ?_ | refine vthenR ?_ | refine vret ?_ | refine vskip ?_ | refine vexit ?_ | refine vblockH ?_ | refine vrun_nil ?_ | refine vregion [] ?_) | ((with_reducible refine vcondT ?_ ?_); (focus (go_simp; done))) | ((with_reducible refine vcondF ?_ ?_); (focus (go_simp; done))) | ((with_reducible refine vrun_cons fun KK hKK => ?_); go_simp; (first | (with_reducible refine ⟨_, i2, ?_⟩) | (refine ⟨_, i3, ?_⟩) | skip); refine hKK _ ?_; clear hKK KK))
   go_simp
  rw [hD3] at i3
  by_cases hO : (i : Int) < (rat r.ranks i).feeder
  ·have hO2 : ¬ (rat r.ranks i).feeder ≤ (i : Int) := by omega
   repeat' (first | (with_reducible first | refine vseq ?_ | refine vthenN ?_ | refine vthenE ?_ | refine vskip ?_ | refine vexit ?_ | refine vblock ?_ | refine vblockH ?_ | refine vrun_nil ?_ | refine vregion [] ?_) | ((with_reducible refine vcondF ?_ ?_); (focus (go_simp; done))) | ((with_reducible refine vrun_cons fun KK hKK => ?_); go_simp; (first | (with_reducible refine ⟨_, i2, ?_⟩) | (refine ⟨_, i3, ?_⟩) | skip); refine hKK _ ?_; clear hKK KK))
   apply vfor [1, 2, 5] (fun k => [(7, I k)]) (fun k => ([some (.box [S (rat r.ranks i).name, I (rat r.ranks i).places, I (rat r.ranks i).feeder, B (rat r.ranks i).called])] : Hp)) (fun k => decide ((rat r.ranks k).feeder = (rat r.ranks i).feeder)) (i)
   ·go_simp <;> exact rfl
   ·go_simp
   ·intro k hk HB HP K hK
    obtain ⟨x1, x2, x3, x4, x5, x6⟩ := ixs (m := k) (by omega)
    have hkn : k < r.ranks.length := by omega
    have hp : ¬ (rat r.ranks k).feeder = (rat r.ranks i).feeder := of_decide_eq_false HP.out
    repeat' (first | (with_reducible first | refine vseq ?_ | refine vthenN ?_ | refine vskip ?_ | refine vblock ?_ | refine vblockN ?_ | refine vrun_nil ?_ | refine vregion [] ?_ | refine vhrun_nil ?_) | ((with_reducible refine vcondT ?_ ?_); (focus (go_simp; done))) | ((with_reducible refine vcondF ?_ ?_); (focus (go_simp; done))) | ((with_reducible first | refine vrun_cons fun KK hKK => ?_ | refine vhrun_cons fun KK hKK => ?_); go_simp; refine hKK _ ?_; clear hKK KK) | ((refine vdrawL 9 9 [] rfl (by kernel_rfl) (by kernel_rfl) ?_); simp only [List.take, List.drop]))
    refine hK _ ?_
    go_simp
   ·intro k hk HB HP K
    obtain ⟨x1, x2, x3, x4, x5, x6⟩ := ixs (m := k) (by omega)
    have hkn : k < r.ranks.length := by omega
    have hp : (rat r.ranks k).feeder = (rat r.ranks i).feeder := of_decide_eq_true HP.out
    have hB : aheadF r i = true := anyP_hit hk HP.out
    have e : rkE r i = 26 := by simp [rkE, fst, unl, hD1, hA, hD2, hfb, hD3, hO, hB]
    rw [HE.out] at e
    subst e
    repeat' (first | (with_reducible first | refine vseq ?_ | refine vthenN ?_ | refine vthenR ?_ | refine vret ?_ | refine vskip ?_ | refine vblock ?_ | refine vblockR ?_ | refine vrun_nil ?_ | refine vregion [] ?_ | refine vhrun_nil ?_) | ((with_reducible refine vcondT ?_ ?_); (focus (go_simp; done))) | ((with_reducible first | refine vrun_cons fun KK hKK => ?_ | refine vhrun_cons fun KK hKK => ?_); go_simp; refine hKK _ ?_; clear hKK KK) | ((refine vdrawL 9 9 [] rfl (by kernel_rfl) (by kernel_rfl) ?_); simp only [List.take, List.drop]))
    go_simp
   ·intro HB K
    have hB : aheadF r i = false := anyP_out HB.out
    have e : rkE r i = 0 := by simp [rkE, fst, unl, hD1, hA, hD2, hfb, hD3, hO, hB]
    rw [HE.out] at e
    subst e
    repeat' (first | (with_reducible first | refine vseq ?_ | refine vthenN ?_ | refine vthenE ?_ | refine vret ?_ | refine vexit ?_ | refine vblockH ?_ | refine vrun_nil ?_ | refine vregion [] ?_) | ((with_reducible refine vcondF ?_ ?_); (focus (go_simp; done))) | ((with_reducible refine vrun_cons fun KK hKK => ?_); go_simp; refine hKK _ ?_; clear hKK KK))
    go_simp
  ·have hO2 : (rat r.ranks i).feeder ≤ (i : Int) := by omega
   have e : rkE r i = 9 := by simp [rkE, fst, unl, hD1, hA, hD2, hfb, hD3, hO]
   rw [HE.out] at e
   subst e
   repeat' (first | (with_reducible first | refine vseq ?_ | refine vthenN ?_ | refine vthenE ?_ | refine vthenR ?_ | refine vret ?_ | refine vskip ?_ | refine vexit ?_ | refine vblockH ?_ | refine vrun_nil ?_ | refine vregion [] ?_) | ((with_reducible refine vcondT ?_ ?_); (focus (go_simp; done))) | ((with_reducible refine vcondF ?_ ?_); (focus (go_simp; done))) | ((with_reducible refine vrun_cons fun KK hKK => ?_); go_simp; (first | (with_reducible refine ⟨_, i2, ?_⟩) | (refine ⟨_, i3, ?_⟩) | skip); refine hKK _ ?_; clear hKK KK))
   go_simp
theorem r_CheckRules (r : Ru) (hn : r.ranks.length ≤ 1000000) (hnm : ∀ k, k < r.ranks.length → (rat r.ranks k).name.size ≤ 1000) : VC Tryz.prog 38 [rulesA r] (.tup [I ((checkR r).1 : Int), I (checkR r).2]) := by
 unfold checkR
 by_cases h0 : r.ranks.length = 0
 ·rw [if_pos h0]
  have h0' : (r.ranks.length : Int) = 0 := by omega
  refine VC_of Tryz.func38 rfl (by kernel_rfl) (by kernel_rfl) rfl fun M0 w0 => ?_
  simp only [Tryz.ntmps38, Tryz.results38, enumA]
  repeat' (first | (with_reducible first | refine vseq ?_ | refine vthenN ?_ | refine vthenR ?_ | refine vret ?_ | refine vrun_nil ?_ | refine vregion [] ?_) | ((with_reducible refine vcondT ?_ ?_); (focus (go_simp; done))) | ((with_reducible refine vrun_cons fun KK hKK => ?_); go_simp; refine hKK _ ?_; clear hKK KK))
  go_simp
 rw [if_neg h0]
 have h0' : ¬ r.ranks = [] := fun h => h0 (by rw [h]; rfl)
 by_cases h6 : 6 < r.ranks.length
 ·rw [if_pos h6]
  have h6' : (6 : Int) < (r.ranks.length : Int) := by omega
  refine VC_of Tryz.func38 rfl (by kernel_rfl) (by kernel_rfl) rfl fun M0 w0 => ?_
  simp only [Tryz.ntmps38, Tryz.results38, enumA]
  repeat' (first | (with_reducible first | refine vseq ?_ | refine vthenN ?_ | refine vthenR ?_ | refine vret ?_ | refine vskip ?_ | refine vrun_nil ?_ | refine vregion [] ?_) | ((with_reducible refine vcondT ?_ ?_); (focus (go_simp; done))) | ((with_reducible refine vcondF ?_ ?_); (focus (go_simp; done))) | ((with_reducible refine vrun_cons fun KK hKK => ?_); go_simp; refine hKK _ ?_; clear hKK KK))
  go_simp
 rw [if_neg h6]
 have h6' : ¬ (6 : Int) < (r.ranks.length : Int) := by omega
 obtain ⟨R, hR⟩ : ∃ R, (if (firstErr (rkE r) 0 r.ranks.length).2 ≠ 0 then firstErr (rkE r) 0 r.ranks.length else (0, endE r)) = R := ⟨_, rfl⟩
 rw [hR]
 have HR := Lib.hid hR
 have HM := Lib.hid hnm
 have i1 := b_within r.back 0 12
 have i2 := b_within r.ret 0 3600
 clear hR hnm h0 h6
 refine VC_of Tryz.func38 rfl (by kernel_rfl) (by kernel_rfl) rfl fun M0 w0 => ?_
 simp only [Tryz.ntmps38, Tryz.results38, enumA]
 repeat' (first | (with_reducible first | refine vseq ?_ | refine vthenN ?_ | refine vskip ?_ | refine vblock ?_ | refine vrun_nil ?_ | refine vregion [] ?_) | ((with_reducible refine vcondF ?_ ?_); (focus (go_simp; done))) | ((with_reducible refine vrun_cons fun KK hKK => ?_); go_simp; refine hKK _ ?_; clear hKK KK))
 apply vfor [1] (fun k => [(4, I k)]) (fun k => ([] : Hp)) (fun k => !decide (rkE r k = 0)) (r.ranks.length)
 ·go_simp <;> exact rfl
 ·go_simp
 ·intro k hk HB HP K hK
  obtain ⟨x1, x2, x3, x4, x5, x6⟩ := ixs (m := k) (by omega)
  have g := r_rankErr r k hk hn (HM.out k hk)
  have he : rkE r k = 0 := by simpa using HP.out
  rw [he] at g
  clear he
  repeat' (first | (with_reducible first | refine vseq ?_ | refine vthenN ?_ | refine vskip ?_ | refine vblock ?_ | refine vblockN ?_ | refine vrun_nil ?_ | refine vregion [] ?_) | ((with_reducible refine vcondT ?_ ?_); (focus (go_simp; done))) | ((with_reducible refine vcondF ?_ ?_); (focus (go_simp; done))) | ((with_reducible refine vrun_cons fun KK hKK => ?_); go_simp; (first | (refine ⟨_, g, ?_⟩) | skip); refine hKK _ ?_; clear hKK KK))
  refine hK _ ?_
  go_simp
 ·intro k hk HB HP K
  obtain ⟨x1, x2, x3, x4, x5, x6⟩ := ixs (m := k) (by omega)
  have g := r_rankErr r k hk hn (HM.out k hk)
  have he : ¬ rkE r k = 0 := by simpa using HP.out
  have e := HR.out
  rw [firstErr_hit hk HB.out HP.out, if_pos he] at e
  subst e
  generalize rkE r k = E at *
  repeat' (first | (with_reducible first | refine vseq ?_ | refine vthenN ?_ | refine vthenR ?_ | refine vret ?_ | refine vskip ?_ | refine vblock ?_ | refine vblockR ?_ | refine vrun_nil ?_ | refine vregion [] ?_) | ((with_reducible refine vcondT ?_ ?_); (focus (go_simp; done))) | ((with_reducible refine vrun_cons fun KK hKK => ?_); go_simp; (first | (refine ⟨_, g, ?_⟩) | skip); refine hKK _ ?_; clear hKK KK))
  go_simp
 ·intro HB K
  have e := HR.out
  rw [firstErr_out _ _ (fun j hj => HB.out j (by omega)), if_neg (by simp)] at e
  subst e
  unfold endE
  by_cases hb : r.back = -1
  ·cases hD2 : inR r.ret 0 3600
   ·rw [hD2] at i2
    have e2 : unl ((decide (r.back = -1) || inR r.back 0 12) && false) 2 = 2 := by simp [unl]
    rw [e2]
    repeat' (first | (with_reducible first | refine vseq ?_ | refine vthenN ?_ | refine vthenE ?_ | refine vthenR ?_ | refine vret ?_ | refine vexit ?_ | refine vblockH ?_ | refine vrun_nil ?_ | refine vregion [] ?_) | ((with_reducible refine vcondT ?_ ?_); (focus (go_simp; done))) | ((with_reducible refine vcondF ?_ ?_); (focus (go_simp; done))) | ((with_reducible refine vrun_cons fun KK hKK => ?_); go_simp; (first | (with_reducible refine ⟨_, i2, ?_⟩) | skip); refine hKK _ ?_; clear hKK KK))
    go_simp
   ·rw [hD2] at i2
    have e2 : unl ((decide (r.back = -1) || inR r.back 0 12) && true) 2 = 0 := by simp [unl, hb]
    rw [e2]
    repeat' (first | (with_reducible first | refine vseq ?_ | refine vthenN ?_ | refine vthenE ?_ | refine vret ?_ | refine vskip ?_ | refine vexit ?_ | refine vblockH ?_ | refine vrun_nil ?_ | refine vregion [] ?_) | ((with_reducible refine vcondF ?_ ?_); (focus (go_simp; done))) | ((with_reducible refine vrun_cons fun KK hKK => ?_); go_simp; (first | (with_reducible refine ⟨_, i2, ?_⟩) | skip); refine hKK _ ?_; clear hKK KK))
    go_simp
  ·cases hD1 : inR r.back 0 12
   ·rw [hD1] at i1
    have e2 : unl ((decide (r.back = -1) || false) && inR r.ret 0 3600) 2 = 2 := by simp [unl, hb]
    rw [e2]
    repeat' (first | (with_reducible first | refine vseq ?_ | refine vthenN ?_ | refine vthenE ?_ | refine vthenR ?_ | refine vret ?_ | refine vexit ?_ | refine vblockH ?_ | refine vrun_nil ?_ | refine vregion [] ?_) | ((with_reducible refine vcondT ?_ ?_); (focus (go_simp; done))) | ((with_reducible refine vcondF ?_ ?_); (focus (go_simp; done))) | ((with_reducible refine vrun_cons fun KK hKK => ?_); go_simp; (first | (with_reducible refine ⟨_, i1, ?_⟩) | skip); refine hKK _ ?_; clear hKK KK))
    go_simp
   ·rw [hD1] at i1
    cases hD2 : inR r.ret 0 3600
    ·rw [hD2] at i2
     have e2 : unl ((decide (r.back = -1) || true) && false) 2 = 2 := by simp [unl]
     rw [e2]
     repeat' (first | (with_reducible first | refine vseq ?_ | refine vthenN ?_ | refine vthenE ?_ | refine vthenR ?_ | refine vret ?_ | refine vexit ?_ | refine vblockH ?_ | refine vrun_nil ?_ | refine vregion [] ?_) | ((with_reducible refine vcondT ?_ ?_); (focus (go_simp; done))) | ((with_reducible refine vcondF ?_ ?_); (focus (go_simp; done))) | ((with_reducible refine vrun_cons fun KK hKK => ?_); go_simp; (first | (with_reducible refine ⟨_, i1, ?_⟩) | (with_reducible refine ⟨_, i2, ?_⟩) | skip); refine hKK _ ?_; clear hKK KK))
     go_simp
    ·rw [hD2] at i2
     have e2 : unl ((decide (r.back = -1) || true) && true) 2 = 0 := by simp [unl]
     rw [e2]
     repeat' (first | (with_reducible first | refine vseq ?_ | refine vthenN ?_ | refine vthenE ?_ | refine vret ?_ | refine vskip ?_ | refine vexit ?_ | refine vblockH ?_ | refine vrun_nil ?_ | refine vregion [] ?_) | ((with_reducible refine vcondF ?_ ?_); (focus (go_simp; done))) | ((with_reducible refine vrun_cons fun KK hKK => ?_); go_simp; (first | (with_reducible refine ⟨_, i1, ?_⟩) | (with_reducible refine ⟨_, i2, ?_⟩) | skip); refine hKK _ ?_; clear hKK KK))
     go_simp
theorem r_CheckEvent (r : Ru) (x : Ev) (hn : r.ranks.length ≤ 1000000) (hc : x.car.size ≤ 1000) : VC Tryz.prog 56 [rulesA r, evA x] (I (evE r x)) := by
 obtain ⟨kd, tm, rk, car⟩ := x
 simp only [evA] at *
 obtain ⟨E, hE⟩ : ∃ E, evE r ⟨kd, tm, rk, car⟩ = E := ⟨_, rfl⟩
 rw [hE]
 have i1 := b_within kd 0 5
 have i2 := b_within tm 0 604800
 have i3 := r_HasRank r rk hn
 have i4 := b_isName car (by omega)
 unfold evE at hE
 cases hD1 : inR kd 0 5
 ·rw [hD1] at i1 hE
  have e : E = 15 := by rw [← hE]; rfl
  subst e
  clear hE
  refine VC_of Tryz.func56 rfl (by kernel_rfl) (by kernel_rfl) rfl fun M0 w0 => ?_
  simp only [Tryz.ntmps56, Tryz.results56, enumA]
  repeat' (first | (with_reducible first | refine vseq ?_ | refine vthenN ?_ | refine vthenR ?_ | refine vret ?_ | refine vrun_nil ?_ | refine vregion [] ?_) | ((with_reducible refine vcondT ?_ ?_); (focus (go_simp; done))) | ((with_reducible refine vrun_cons fun KK hKK => ?_); go_simp; (first | (with_reducible refine ⟨_, i1, ?_⟩) | skip); refine hKK _ ?_; clear hKK KK))
  go_simp
 rw [hD1] at i1 hE
 cases hD2 : inR tm 0 604800
 ·rw [hD2] at i2 hE
  have e : E = 2 := by rw [← hE]; rfl
  subst e
  clear hE
  refine VC_of Tryz.func56 rfl (by kernel_rfl) (by kernel_rfl) rfl fun M0 w0 => ?_
  simp only [Tryz.ntmps56, Tryz.results56, enumA]
  repeat' (first | (with_reducible first | refine vseq ?_ | refine vthenN ?_ | refine vthenR ?_ | refine vret ?_ | refine vskip ?_ | refine vrun_nil ?_ | refine vregion [] ?_) | ((with_reducible refine vcondT ?_ ?_); (focus (go_simp; done))) | ((with_reducible refine vcondF ?_ ?_); (focus (go_simp; done))) | ((with_reducible refine vrun_cons fun KK hKK => ?_); go_simp; (first | (with_reducible refine ⟨_, i1, ?_⟩) | (with_reducible refine ⟨_, i2, ?_⟩) | skip); refine hKK _ ?_; clear hKK KK))
  go_simp
 rw [hD2] at i2 hE
 cases hD3 : inR rk 0 ((r.ranks.length : Int) - 1)
 ·rw [hD3] at i3 hE
  have e : E = 6 := by rw [← hE]; rfl
  subst e
  clear hE
  refine VC_of Tryz.func56 rfl (by kernel_rfl) (by kernel_rfl) rfl fun M0 w0 => ?_
  simp only [Tryz.ntmps56, Tryz.results56, enumA]
  repeat' (first | (with_reducible first | refine vseq ?_ | refine vthenN ?_ | refine vthenR ?_ | refine vret ?_ | refine vskip ?_ | refine vrun_nil ?_ | refine vregion [] ?_) | ((with_reducible refine vcondT ?_ ?_); (focus (go_simp; done))) | ((with_reducible refine vcondF ?_ ?_); (focus (go_simp; done))) | ((with_reducible refine vrun_cons fun KK hKK => ?_); go_simp; (first | (with_reducible refine ⟨_, i1, ?_⟩) | (with_reducible refine ⟨_, i2, ?_⟩) | (refine ⟨_, i3, ?_⟩) | skip); refine hKK _ ?_; clear hKK KK))
  go_simp
 rw [hD3] at i3 hE
 by_cases h4 : kd = 4
 ·rw [decide_eq_true h4] at hE
  rw [h4] at i1
  by_cases hcar : car = ByteArray.empty
  ·have e : E = 0 := by rw [← hE, decide_eq_true hcar]; rfl
   have hcar2 : car = ⟨#[]⟩ := hcar
   subst e
   clear hE hcar
   subst hcar2
   refine VC_of Tryz.func56 rfl (by kernel_rfl) (by kernel_rfl) rfl fun M0 w0 => ?_
   simp only [Tryz.ntmps56, Tryz.results56, enumA]
   repeat' (first | (with_reducible first | refine vseq ?_ | refine vthenN ?_ | refine vthenR ?_ | refine vret ?_ | refine vskip ?_ | refine vrun_nil ?_ | refine vregion [] ?_) | ((with_reducible refine vcondT ?_ ?_); (focus (go_simp; done))) | ((with_reducible refine vcondF ?_ ?_); (focus (go_simp; done))) | ((with_reducible refine vrun_cons fun KK hKK => ?_); go_simp; (first | (with_reducible refine ⟨_, i1, ?_⟩) | (with_reducible refine ⟨_, i2, ?_⟩) | (refine ⟨_, i3, ?_⟩) | skip); refine hKK _ ?_; clear hKK KK))
   go_simp
  ·have e : E = 3 := by rw [← hE, decide_eq_false hcar]; rfl
   have hcar2 : ¬ car = ⟨#[]⟩ := hcar
   subst e
   clear hE
   refine VC_of Tryz.func56 rfl (by kernel_rfl) (by kernel_rfl) rfl fun M0 w0 => ?_
   simp only [Tryz.ntmps56, Tryz.results56, enumA]
   repeat' (first | (with_reducible first | refine vseq ?_ | refine vthenN ?_ | refine vthenR ?_ | refine vret ?_ | refine vskip ?_ | refine vrun_nil ?_ | refine vregion [] ?_) | ((with_reducible refine vcondT ?_ ?_); (focus (go_simp; done))) | ((with_reducible refine vcondF ?_ ?_); (focus (go_simp; done))) | ((with_reducible refine vrun_cons fun KK hKK => ?_); go_simp; (first | (with_reducible refine ⟨_, i1, ?_⟩) | (with_reducible refine ⟨_, i2, ?_⟩) | (refine ⟨_, i3, ?_⟩) | skip); refine hKK _ ?_; clear hKK KK))
   go_simp
 ·rw [decide_eq_false h4] at hE
  cases hD4 : isName car
  ·rw [hD4] at i4 hE
   have e : E = 4 := by rw [← hE]; rfl
   subst e
   clear hE
   refine VC_of Tryz.func56 rfl (by kernel_rfl) (by kernel_rfl) rfl fun M0 w0 => ?_
   simp only [Tryz.ntmps56, Tryz.results56, enumA]
   repeat' (first | (with_reducible first | refine vseq ?_ | refine vthenN ?_ | refine vthenR ?_ | refine vret ?_ | refine vskip ?_ | refine vrun_nil ?_ | refine vregion [] ?_) | ((with_reducible refine vcondT ?_ ?_); (focus (go_simp; done))) | ((with_reducible refine vcondF ?_ ?_); (focus (go_simp; done))) | ((with_reducible refine vrun_cons fun KK hKK => ?_); go_simp; (first | (with_reducible refine ⟨_, i1, ?_⟩) | (with_reducible refine ⟨_, i2, ?_⟩) | (refine ⟨_, i3, ?_⟩) | (with_reducible refine ⟨_, i4, ?_⟩) | skip); refine hKK _ ?_; clear hKK KK))
   go_simp
  ·rw [hD4] at i4 hE
   have e : E = 0 := by rw [← hE]; rfl
   subst e
   clear hE
   refine VC_of Tryz.func56 rfl (by kernel_rfl) (by kernel_rfl) rfl fun M0 w0 => ?_
   simp only [Tryz.ntmps56, Tryz.results56, enumA]
   repeat' (first | (with_reducible first | refine vseq ?_ | refine vthenN ?_ | refine vret ?_ | refine vskip ?_ | refine vrun_nil ?_ | refine vregion [] ?_) | ((with_reducible refine vcondF ?_ ?_); (focus (go_simp; done))) | ((with_reducible refine vrun_cons fun KK hKK => ?_); go_simp; (first | (with_reducible refine ⟨_, i1, ?_⟩) | (with_reducible refine ⟨_, i2, ?_⟩) | (refine ⟨_, i3, ?_⟩) | (with_reducible refine ⟨_, i4, ?_⟩) | skip); refine hKK _ ?_; clear hKK KK))
   go_simp
end Go.Proofs.YtoibondihdhnoaaGreatDoor
namespace Go.Proofs.YtoibondihdhnoaaGreatDoor
open Go.RowKit
set_option maxRecDepth 100000
set_option maxHeartbeats 2000000
theorem r_moves (r : Ru) (s : St) (hl : r.ranks.length ≤ 1000000) (hr : r.ranks.length = s.q.length) (hf : FeedOK r s.q.length) : VC Tryz.prog 118 [rulesA r, queuesA s.q] (I (nextR r s)) := by
 obtain ⟨R, hR⟩ : ∃ R, nextR r s = R := ⟨_, rfl⟩
 rw [hR]
 unfold nextR at hR
 have HR := Lib.hid hR
 have HF := Lib.hid hf
 clear hR hf
 refine VC_of Tryz.func118 rfl (by kernel_rfl) (by kernel_rfl) rfl fun M0 w0 => ?_
 simp only [Tryz.ntmps118, Tryz.results118, enumA]
 repeat' (first | (with_reducible first | refine vseq ?_ | refine vthenN ?_ | refine vblock ?_ | refine vrun_nil ?_ | refine vregion [] ?_) | ((with_reducible refine vrun_cons fun KK hKK => ?_); go_simp; refine hKK _ ?_; clear hKK KK))
 apply vfor [1, 2] (fun k => [(5, I k)]) (fun k => ([] : Hp)) (readyP r s) (r.ranks.length)
 ·go_simp <;> exact rfl
 ·go_simp
 ·intro k hk HB HP K hK
  obtain ⟨w1, w2, w3, w4, w5, w6⟩ := ixs (m := k) (by omega)
  have hk2 : k < s.q.length := by omega
  have hp := HP.out
  unfold readyP freeP at hp
  by_cases h1 : (rat r.ranks k).feeder = -1
  ·clear hp
   repeat' (first | (with_reducible first | refine vseq ?_ | refine vthenN ?_ | refine vskip ?_ | refine vblock ?_ | refine vblockN ?_ | refine vrun_nil ?_ | refine vregion [] ?_ | refine vhrun_nil ?_) | ((with_reducible refine vcondT ?_ ?_); (focus (go_simp; done))) | ((with_reducible refine vcondF ?_ ?_); (focus (go_simp; done))) | ((with_reducible first | refine vrun_cons fun KK hKK => ?_ | refine vhrun_cons fun KK hKK => ?_); go_simp; refine hKK _ ?_; clear hKK KK) | ((refine vdrawL 27 27 [] rfl (by kernel_rfl) (by kernel_rfl) ?_); simp only [List.take, List.drop]))
   refine hK _ ?_
   go_simp
  obtain ⟨f0, fl⟩ := HF.out k hk2 h1
  obtain ⟨f, hf⟩ : ∃ f : Nat, (rat r.ranks k).feeder = f := ⟨(rat r.ranks k).feeder.toNat, by omega⟩
  rw [hf] at fl h1 hp
  simp only [Int.toNat_natCast] at fl hp
  clear f0
  cases h2 : (rat r.ranks k).called
  ·rw [decide_eq_true h1, h2] at hp
   simp only [Bool.not_false, Bool.true_and] at hp
   by_cases h3 : ((qat s.q k).length : Int) < (rat r.ranks k).places
   ·rw [decide_eq_true h3, Bool.true_and, decide_eq_false_iff_not] at hp
    have h4 : qat s.q f = [] := List.eq_nil_of_length_eq_zero (by omega)
    clear hp
    repeat' (first | (with_reducible first | refine vseq ?_ | refine vthenN ?_ | refine vskip ?_ | refine vblock ?_ | refine vblockN ?_ | refine vrun_nil ?_ | refine vregion [] ?_ | refine vhrun_nil ?_) | ((with_reducible refine vcondT ?_ ?_); (focus (go_simp; done))) | ((with_reducible refine vcondF ?_ ?_); (focus (go_simp; done))) | ((with_reducible first | refine vrun_cons fun KK hKK => ?_ | refine vhrun_cons fun KK hKK => ?_); go_simp; refine hKK _ ?_; clear hKK KK) | ((refine vdrawL 27 27 [] rfl (by kernel_rfl) (by kernel_rfl) ?_); simp only [List.take, List.drop]))
    refine hK _ ?_
    go_simp
   ·clear hp
    repeat' (first | (with_reducible first | refine vseq ?_ | refine vthenN ?_ | refine vskip ?_ | refine vblock ?_ | refine vblockN ?_ | refine vrun_nil ?_ | refine vregion [] ?_ | refine vhrun_nil ?_) | ((with_reducible refine vcondT ?_ ?_); (focus (go_simp; done))) | ((with_reducible refine vcondF ?_ ?_); (focus (go_simp; done))) | ((with_reducible first | refine vrun_cons fun KK hKK => ?_ | refine vhrun_cons fun KK hKK => ?_); go_simp; refine hKK _ ?_; clear hKK KK) | ((refine vdrawL 27 27 [] rfl (by kernel_rfl) (by kernel_rfl) ?_); simp only [List.take, List.drop]))
    refine hK _ ?_
    go_simp
  ·clear hp
   repeat' (first | (with_reducible first | refine vseq ?_ | refine vthenN ?_ | refine vskip ?_ | refine vblock ?_ | refine vblockN ?_ | refine vrun_nil ?_ | refine vregion [] ?_ | refine vhrun_nil ?_) | ((with_reducible refine vcondT ?_ ?_); (focus (go_simp; done))) | ((with_reducible refine vcondF ?_ ?_); (focus (go_simp; done))) | ((with_reducible first | refine vrun_cons fun KK hKK => ?_ | refine vhrun_cons fun KK hKK => ?_); go_simp; refine hKK _ ?_; clear hKK KK) | ((refine vdrawL 27 27 [] rfl (by kernel_rfl) (by kernel_rfl) ?_); simp only [List.take, List.drop]))
   refine hK _ ?_
   go_simp
 ·intro k hk HB HP K
  have hk2 : k < s.q.length := by omega
  have e := HR.out
  rw [ixP_hit hk HB.out HP.out] at e
  subst e
  have hp := HP.out
  unfold readyP freeP at hp
  simp only [Bool.and_eq_true, decide_eq_true_eq, Bool.not_eq_true'] at hp
  obtain ⟨⟨⟨h1, h2⟩, h3⟩, h4⟩ := hp
  obtain ⟨f0, fl⟩ := HF.out k hk2 h1
  obtain ⟨f, hf⟩ : ∃ f : Nat, (rat r.ranks k).feeder = f := ⟨(rat r.ranks k).feeder.toNat, by omega⟩
  rw [hf] at fl h1 h4
  simp only [Int.toNat_natCast] at fl h4
  have h5 : ¬ qat s.q f = [] := fun h => by rw [h] at h4; simp at h4
  clear f0
  repeat' (first | (with_reducible first | refine vseq ?_ | refine vthenN ?_ | refine vthenR ?_ | refine vret ?_ | refine vskip ?_ | refine vblock ?_ | refine vblockR ?_ | refine vrun_nil ?_ | refine vregion [] ?_ | refine vhrun_nil ?_) | ((with_reducible refine vcondT ?_ ?_); (focus (go_simp; done))) | ((with_reducible first | refine vrun_cons fun KK hKK => ?_ | refine vhrun_cons fun KK hKK => ?_); go_simp; refine hKK _ ?_; clear hKK KK) | ((refine vdrawL 27 27 [] rfl (by kernel_rfl) (by kernel_rfl) ?_); simp only [List.take, List.drop]))
  go_simp
 ·intro HB K
  have e := HR.out
  rw [ixP_out HB.out] at e
  subst e
  repeat' (first | (with_reducible first | refine vseq ?_ | refine vthenN ?_ | refine vthenE ?_ | refine vret ?_ | refine vexit ?_ | refine vblockH ?_ | refine vrun_nil ?_ | refine vregion [] ?_) | ((with_reducible refine vcondF ?_ ?_); (focus (go_simp; done))) | ((with_reducible refine vrun_cons fun KK hKK => ?_); go_simp; refine hKK _ ?_; clear hKK KK))
  go_simp
end Go.Proofs.YtoibondihdhnoaaGreatDoor
