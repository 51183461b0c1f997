/- Texts in one: Walks: lists that are the same; of every length up to a million. -/
import Derived.Test.YtoibondihdhnoaaGreatDoorFR45
import Derived.Test.YtoibondihdhnoaaGreatDoorFR41
/-! R10: Walks: lists that are the same; of every length up to a million. -/
namespace Go.Proofs.YtoibondihdhnoaaGreatDoor
open Go.RowKit
set_option maxRecDepth 100000
set_option maxHeartbeats 2000000
theorem s_SameWaits (l : List Wt) (hl : l.length ≤ 1000000) : VC Tryz.prog 43 [.sl 3 (l.map Wt.av), .sl 3 (l.map Wt.av)] (B true) := by
  refine VC_of Tryz.func43 rfl (by kernel_rfl) (by kernel_rfl) rfl fun M0 w0 => ?_
  simp only [Tryz.ntmps43, Tryz.results43, enumA]
  repeat' (first | (with_reducible first | refine vseq ?_ | refine vthenN ?_ | refine vskip ?_ | refine vblock ?_ | refine vrun_nil ?_ | refine vregion [] ?_) | ((with_reducible refine vcondF ?_ ?_); (focus (go_simp; done))) | ((with_reducible refine vrun_cons fun KK hKK => ?_); go_simp; refine hKK _ ?_; clear hKK KK))
  apply vfor [0, 1] (fun k => [(5, I k)]) (fun k => ([] : Hp)) (fun _ => false) (l.length)
  · go_simp <;> exact rfl
  · go_simp
  · intro k hk HB HP K hK
    obtain ⟨w1, w2, w3, w4, w5, w6⟩ := ixs (m := k) (by omega)
    repeat' (first | (with_reducible first | refine vseq ?_ | refine vthenN ?_ | refine vskip ?_ | refine vblock ?_ | refine vblockN ?_ | refine vrun_nil ?_ | refine vregion [] ?_ | refine vhrun_nil ?_) | ((with_reducible refine vcondT ?_ ?_); (focus (go_simp; done))) | ((with_reducible refine vcondF ?_ ?_); (focus (go_simp; done))) | ((with_reducible first | refine vrun_cons fun KK hKK => ?_ | refine vhrun_cons fun KK hKK => ?_); go_simp; refine hKK _ ?_; clear hKK KK) | ((refine vdrawL 9 9 [] rfl (by kernel_rfl) (by kernel_rfl) ?_); simp only [List.take, List.drop]))
    refine hK _ ?_
    go_simp
  · intro k hk HB HP K
    exact absurd HP.out (by simp)
  · intro HB K
    repeat' (first | (with_reducible first | refine vseq ?_ | refine vthenN ?_ | refine vthenE ?_ | refine vret ?_ | refine vexit ?_ | refine vblockH ?_ | refine vrun_nil ?_ | refine vregion [] ?_) | ((with_reducible refine vcondF ?_ ?_); (focus (go_simp; done))) | ((with_reducible refine vrun_cons fun KK hKK => ?_); go_simp; refine hKK _ ?_; clear hKK KK))
    go_simp
end Go.Proofs.YtoibondihdhnoaaGreatDoor

/-! R11: Walks: copies; of every length up to a million. -/
namespace Go.Proofs.YtoibondihdhnoaaGreatDoor
open Go.RowKit
set_option maxRecDepth 100000
set_option maxHeartbeats 2000000
theorem b_HasText (l : List ByteArray) (s : ByteArray) (hl : l.length ≤ 1000000) : VC Tryz.prog 70 [txtsA l, S s] (B (anyP (isT l s) 0 l.length)) := by
  obtain ⟨R, hR⟩ : ∃ R, anyP (isT l s) 0 l.length = R := ⟨_, rfl⟩
  rw [hR]
  have HR := Lib.hid hR
  clear hR
  refine VC_of Tryz.func70 rfl (by kernel_rfl) (by kernel_rfl) rfl fun M0 w0 => ?_
  simp only [Tryz.ntmps70, Tryz.results70, enumA]
  repeat' (first | (with_reducible first | refine vseq ?_ | refine vthenN ?_ | refine vblock ?_ | refine vrun_nil ?_ | refine vregion [] ?_) | ((with_reducible refine vrun_cons fun KK hKK => ?_); go_simp; refine hKK _ ?_; clear hKK KK))
  apply vfor [0, 1] (fun k => [(5, I k)]) (fun k => ([] : Hp)) (isT l s) (l.length)
  · go_simp <;> exact rfl
  · go_simp
  · intro k hk HB HP K hK
    obtain ⟨w1, w2, w3, w4, w5, w6⟩ := ixs (m := k) (by omega)
    have hp : ¬ l[k] = s := by
      have := HP.out
      simpa [isT, tat_get hk] using this
    repeat' (first | (with_reducible first | refine vseq ?_ | refine vthenN ?_ | refine vskip ?_ | refine vblock ?_ | refine vblockN ?_ | refine vrun_nil ?_ | refine vregion [] ?_) | ((with_reducible refine vcondT ?_ ?_); (focus (go_simp; done))) | ((with_reducible refine vcondF ?_ ?_); (focus (go_simp; done))) | ((with_reducible refine vrun_cons fun KK hKK => ?_); go_simp; refine hKK _ ?_; clear hKK KK))
    refine hK _ ?_
    go_simp
  · intro k hk HB HP K
    have hp : l[k] = s := by
      have := HP.out
      simpa [isT, tat_get hk] using this
    have e := HR.out
    rw [anyP_hit hk HP.out] at e
    subst e
    repeat' (first | (with_reducible first | refine vseq ?_ | refine vthenN ?_ | refine vthenR ?_ | refine vret ?_ | refine vskip ?_ | refine vblock ?_ | refine vblockR ?_ | refine vrun_nil ?_ | refine vregion [] ?_) | ((with_reducible refine vcondT ?_ ?_); (focus (go_simp; done))) | ((with_reducible refine vrun_cons fun KK hKK => ?_); go_simp; refine hKK _ ?_; clear hKK KK))
    go_simp
  · intro HB K
    have e := HR.out
    rw [anyP_out HB.out] at e
    subst e
    repeat (first | (with_reducible first | refine vseq ?_ | refine vthenN ?_ | refine vthenE ?_ | refine vret ?_ | refine vexit ?_ | refine vblockH ?_ | refine vrun_nil ?_ | refine vregion [] ?_) | ((with_reducible refine vcondF ?_ ?_); (focus (go_simp; done))) | ((with_reducible refine vrun_cons fun KK hKK => ?_); go_simp; refine hKK _ ?_; clear hKK KK))
    go_simp
end Go.Proofs.YtoibondihdhnoaaGreatDoor

/-! R12: Walks: the examples of the document. -/
namespace Go.Proofs.YtoibondihdhnoaaGreatDoor
open Go.RowKit
set_option maxRecDepth 100000
set_option maxHeartbeats 2000000
def standR : Ru := ⟨[⟨⟨#[115, 116, 97, 110, 100]⟩, 2, 1, false⟩, ⟨⟨#[102, 101, 101, 100, 101, 114]⟩, 3, -1, false⟩], 1, 60⟩
def mornL : List Ev := [⟨0, 0, 0, ⟨#[97]⟩⟩, ⟨0, 5, 0, ⟨#[98]⟩⟩, ⟨0, 9, 1, ⟨#[99]⟩⟩, ⟨1, 20, 0, ⟨#[97]⟩⟩]
def mornS : St := ⟨[[⟨#[98]⟩, ⟨#[99]⟩], []], [⟨⟨#[97]⟩, 0, 20⟩], 20⟩
theorem v_Stand : VC Tryz.prog 83 [] (rulesA standR) := by
  unfold standR
  refine VC_of Tryz.func83 rfl (by kernel_rfl) (by kernel_rfl) rfl fun M0 w0 => ?_
  simp only [Tryz.ntmps83, Tryz.results83, enumA]
  repeat' (first | (with_reducible first | refine vseq ?_ | refine vthenN ?_ | refine vret ?_ | refine vrun_nil ?_ | refine vregion [] ?_) | ((with_reducible refine vrun_cons fun KK hKK => ?_); go_simp; refine hKK _ ?_; clear hKK KK))
  go_simp
theorem v_Morning : VC Tryz.prog 84 [] (evsA mornL) := by
  unfold mornL
  refine VC_of Tryz.func84 rfl (by kernel_rfl) (by kernel_rfl) rfl fun M0 w0 => ?_
  simp only [Tryz.ntmps84, Tryz.results84, enumA]
  repeat' (first | (with_reducible first | refine vseq ?_ | refine vthenN ?_ | refine vret ?_ | refine vrun_nil ?_ | refine vregion [] ?_) | ((with_reducible refine vrun_cons fun KK hKK => ?_); go_simp; refine hKK _ ?_; clear hKK KK))
  go_simp
theorem morn_rep : repR standR mornL = (mornS, 0, 0) := by kernel_rfl
theorem morn_err : errL standR mornL = 0 := by kernel_rfl
theorem morn_wait : waitD mornL 0 mornL = [⟨⟨#[97]⟩, 0, 20⟩] := by kernel_rfl
theorem morn_sight : (sightR standR mornL).2 = 0 ∧ (sightR standR mornL).1.length = 6 := ⟨by kernel_rfl, by kernel_rfl⟩
def seenL : List Sg := [⟨0, 0, ⟨#[97]⟩⟩, ⟨0, 0, ⟨#[98]⟩⟩, ⟨1, 0, ⟨#[98]⟩⟩]
theorem seen_t : ovT seenL = .agg [I 0, I 1, I 2] := by kernel_rfl
theorem seen_e : ovE seenL = 0 := by kernel_rfl
def callT : ByteArray := ⟨#[99, 97, 108, 108, 32, 50, 48, 32, 48, 32, 45]⟩
theorem call_p : evP (pieces 32 callT) = (⟨4, 20, 0, ⟨#[]⟩⟩, 0) := by kernel_rfl
theorem morn_text : stText mornS = ⟨#[50, 48, 124, 98, 32, 99, 124, 124, 97, 58, 48, 58, 50, 48]⟩ := by kernel_rfl
theorem small_morn : SmallL standR mornL := ⟨by decide, fun k hk => by
  have h2 : k < 2 := hk
  rcases k with _ | _ | k
  · decide
  · decide
  · omega, fun x hx => by
  simp only [mornL, List.mem_cons, List.not_mem_nil, or_false] at hx
  rcases hx with rfl | rfl | rfl | rfl <;> decide⟩
theorem small_mornS : SmallS mornS := by
  refine ⟨by decide, fun l hl => ?_, by decide, fun t ht => ?_, by unfold i64; decide⟩
  · simp only [mornS, List.mem_cons, List.not_mem_nil, or_false] at hl
    rcases hl with rfl | rfl
    · refine ⟨by decide, fun c hc => ?_⟩
      simp only [List.mem_cons, List.not_mem_nil, or_false] at hc
      rcases hc with rfl | rfl <;> decide
    · exact ⟨by decide, fun c hc => by simp at hc⟩
  · simp only [mornS, List.mem_cons, List.not_mem_nil, or_false] at ht
    subst ht
    unfold i64
    decide
theorem l_awake : VC Tryz.prog 18 [] (B true) := by
  have g1 := v_Stand
  have g2 := v_Morning
  have g3 := p_Replay standR mornL small_morn
  have g4 := p_Waits standR mornL small_morn
  have g5 := p_Overtaken seenL (by decide) (fun k hk => by
    have h2 : k < 3 := hk
    rcases k with _ | _ | _ | k
    · decide
    · decide
    · decide
    · omega)
  have g6 := p_ParseEvent callT (by decide)
  have g7 := p_SightingsOf standR mornL small_morn
  have g8 := p_FormatState mornS small_mornS
  have g9 := s_SameWaits [⟨⟨#[97]⟩, 0, 20⟩] (by decide)
  obtain ⟨m1, m2⟩ := morn_sight
  rw [morn_rep] at g3
  rw [morn_err, if_pos rfl, morn_wait] at g4
  rw [seen_t, seen_e] at g5
  rw [call_p] at g6
  rw [m1] at g7
  rw [morn_text] at g8
  generalize (sightR standR mornL).1 = L at *
  have m3 : (L.length : Int) = 6 := by omega
  clear m1 m2
  generalize standR = R0 at *
  generalize hM : mornL = M at *
  clear hM
  generalize hS : mornS = S0 at *
  clear hS
  unfold seenL at g5
  unfold callT at g6
  simp only [rulesA, evsA, stateA, sgsA, evA, List.map_cons, List.map_nil, Sg.av, Wt.av] at g1 g2 g3 g4 g5 g6 g7 g8 g9
  refine VC_of Tryz.func18 rfl (by kernel_rfl) (by kernel_rfl) rfl fun M0 w0 => ?_
  simp only [Tryz.ntmps18, Tryz.results18, enumA]
  repeat' (first | (with_reducible first | refine vseq ?_ | refine vthenN ?_ | refine vret ?_ | refine vrun_nil ?_ | refine vregion [] ?_) | ((with_reducible refine vrun_cons fun KK hKK => ?_); go_simp; (first | (with_reducible refine ⟨_, g1, ?_⟩) | (with_reducible refine ⟨_, g2, ?_⟩) | (with_reducible refine ⟨_, g3, ?_⟩) | (with_reducible refine ⟨_, g4, ?_⟩) | (with_reducible refine ⟨_, g5, ?_⟩) | (with_reducible refine ⟨_, g6, ?_⟩) | (with_reducible refine ⟨_, g7, ?_⟩) | (with_reducible refine ⟨_, g8, ?_⟩) | (with_reducible refine ⟨_, g9, ?_⟩) | skip); refine hKK _ ?_; clear hKK KK))
  go_simp
end Go.Proofs.YtoibondihdhnoaaGreatDoor

/-! R15: Walks: rules and events, as the reference has them. -/
namespace Go.Proofs.YtoibondihdhnoaaGreatDoor
open Go.RowKit
set_option maxRecDepth 100000
set_option maxHeartbeats 2000000
end Go.Proofs.YtoibondihdhnoaaGreatDoor
