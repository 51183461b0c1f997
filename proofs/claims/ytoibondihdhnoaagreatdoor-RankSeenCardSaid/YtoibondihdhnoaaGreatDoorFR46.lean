/- Texts in one: Walks: lists that are the same; of every length up to a million. -/
import Derived.Test.YtoibondihdhnoaaGreatDoorFR45
import Derived.Test.YtoibondihdhnoaaGreatDoorFR41
/-! R10: Walks: lists that are the same; of every length up to a million. -/
namespace Go.Proofs.YtoibondihdhnoaaGreatDoor
open Go.RowKit
set_option maxRecDepth 100000
set_option maxHeartbeats 2000000
theorem s_SameWaits (l : List Wt) (hl : l.length ≤ 1000000) : VC Tryz.prog 43 [.sl 3 (l.map Wt.av), .sl 3 (l.map Wt.av)] (B true) := by
  refine VC_of Tryz.func43 rfl (by kernel_rfl) (by kernel_rfl) rfl fun M0 w0 => ?_
  simp only [Tryz.ntmps43, Tryz.results43, enumA]
  repeat' (first | (with_reducible first | refine vseq ?_ | refine vthenN ?_ | refine vskip ?_ | refine vblock ?_ | refine vrun_nil ?_ | refine vregion [] ?_) | ((with_reducible refine vcondF ?_ ?_); (focus (go_simp; done))) | ((with_reducible refine vrun_cons fun KK hKK => ?_); go_simp; refine hKK _ ?_; clear hKK KK))
  apply vfor [0, 1] (fun k => [(5, I k)]) (fun k => ([] : Hp)) (fun _ => false) (l.length)
  · go_simp <;> exact rfl
  · go_simp
  · intro k hk HB HP K hK
    obtain ⟨w1, w2, w3, w4, w5, w6⟩ := ixs (m := k) (by omega)
    repeat' (first | (with_reducible first | refine vseq ?_ | refine vthenN ?_ | refine vskip ?_ | refine vblock ?_ | refine vblockN ?_ | refine vrun_nil ?_ | refine vregion [] ?_ | refine vhrun_nil ?_) | ((with_reducible refine vcondT ?_ ?_); (focus (go_simp; done))) | ((with_reducible refine vcondF ?_ ?_); (focus (go_simp; done))) | ((with_reducible first | refine vrun_cons fun KK hKK => ?_ | refine vhrun_cons fun KK hKK => ?_); go_simp; refine hKK _ ?_; clear hKK KK) | ((refine vdrawL 9 9 [] rfl (by kernel_rfl) (by kernel_rfl) ?_); simp only [List.take, List.drop]))
    refine hK _ ?_
    go_simp
  · intro k hk HB HP K
    exact absurd HP.out (by simp)
  · intro HB K
    repeat' (first | (with_reducible first | refine vseq ?_ | refine vthenN ?_ | refine vthenE ?_ | refine vret ?_ | refine vexit ?_ | refine vblockH ?_ | refine vrun_nil ?_ | refine vregion [] ?_) | ((with_reducible refine vcondF ?_ ?_); (focus (go_simp; done))) | ((with_reducible refine vrun_cons fun KK hKK => ?_); go_simp; refine hKK _ ?_; clear hKK KK))
    go_simp
end Go.Proofs.YtoibondihdhnoaaGreatDoor

/-! R11: Walks: copies; of every length up to a million. -/
namespace Go.Proofs.YtoibondihdhnoaaGreatDoor
open Go.RowKit
set_option maxRecDepth 100000
set_option maxHeartbeats 2000000
end Go.Proofs.YtoibondihdhnoaaGreatDoor

/-! R12: Walks: the examples of the document. -/
namespace Go.Proofs.YtoibondihdhnoaaGreatDoor
open Go.RowKit
set_option maxRecDepth 100000
set_option maxHeartbeats 2000000
def standR : Ru := ⟨[⟨⟨#[115, 116, 97, 110, 100]⟩, 2, 1, false⟩, ⟨⟨#[102, 101, 101, 100, 101, 114]⟩, 3, -1, false⟩], 1, 60⟩
def mornL : List Ev := [⟨0, 0, 0, ⟨#[97]⟩⟩, ⟨0, 5, 0, ⟨#[98]⟩⟩, ⟨0, 9, 1, ⟨#[99]⟩⟩, ⟨1, 20, 0, ⟨#[97]⟩⟩]
def mornS : St := ⟨[[⟨#[98]⟩, ⟨#[99]⟩], []], [⟨⟨#[97]⟩, 0, 20⟩], 20⟩
theorem v_Stand : VC Tryz.prog 83 [] (rulesA standR) := by
  unfold standR
  refine VC_of Tryz.func83 rfl (by kernel_rfl) (by kernel_rfl) rfl fun M0 w0 => ?_
  simp only [Tryz.ntmps83, Tryz.results83, enumA]
  repeat' (first | (with_reducible first | refine vseq ?_ | refine vthenN ?_ | refine vret ?_ | refine vrun_nil ?_ | refine vregion [] ?_) | ((with_reducible refine vrun_cons fun KK hKK => ?_); go_simp; refine hKK _ ?_; clear hKK KK))
  go_simp
theorem v_Morning : VC Tryz.prog 84 [] (evsA mornL) := by
  unfold mornL
  refine VC_of Tryz.func84 rfl (by kernel_rfl) (by kernel_rfl) rfl fun M0 w0 => ?_
  simp only [Tryz.ntmps84, Tryz.results84, enumA]
  repeat' (first | (with_reducible first | refine vseq ?_ | refine vthenN ?_ | refine vret ?_ | refine vrun_nil ?_ | refine vregion [] ?_) | ((with_reducible refine vrun_cons fun KK hKK => ?_); go_simp; refine hKK _ ?_; clear hKK KK))
  go_simp
theorem morn_rep : repR standR mornL = (mornS, 0, 0) := by kernel_rfl
theorem morn_err : errL standR mornL = 0 := by kernel_rfl
theorem morn_wait : waitD mornL 0 mornL = [⟨⟨#[97]⟩, 0, 20⟩] := by kernel_rfl
theorem morn_sight : (sightR standR mornL).2 = 0 ∧ (sightR standR mornL).1.length = 6 := ⟨by kernel_rfl, by kernel_rfl⟩
def seenL : List Sg := [⟨0, 0, ⟨#[97]⟩⟩, ⟨0, 0, ⟨#[98]⟩⟩, ⟨1, 0, ⟨#[98]⟩⟩]
theorem seen_t : ovT seenL = .agg [I 0, I 1, I 2] := by kernel_rfl
theorem seen_e : ovE seenL = 0 := by kernel_rfl
def callT : ByteArray := ⟨#[99, 97, 108, 108, 32, 50, 48, 32, 48, 32, 45]⟩
theorem call_p : evP (pieces 32 callT) = (⟨4, 20, 0, ⟨#[]⟩⟩, 0) := by kernel_rfl
theorem morn_text : stText mornS = ⟨#[50, 48, 124, 98, 32, 99, 124, 124, 97, 58, 48, 58, 50, 48]⟩ := by kernel_rfl
theorem small_morn : SmallL standR mornL := ⟨by decide, fun k hk => by
  have h2 : k < 2 := hk
  rcases k with _ | _ | k
  · decide
  · decide
  · omega, fun x hx => by
  simp only [mornL, List.mem_cons, List.not_mem_nil, or_false] at hx
  rcases hx with rfl | rfl | rfl | rfl <;> decide⟩
theorem small_mornS : SmallS mornS := by
  refine ⟨by decide, fun l hl => ?_, by decide, fun t ht => ?_, by unfold i64; decide⟩
  · simp only [mornS, List.mem_cons, List.not_mem_nil, or_false] at hl
    rcases hl with rfl | rfl
    · refine ⟨by decide, fun c hc => ?_⟩
      simp only [List.mem_cons, List.not_mem_nil, or_false] at hc
      rcases hc with rfl | rfl <;> decide
    · exact ⟨by decide, fun c hc => by simp at hc⟩
  · simp only [mornS, List.mem_cons, List.not_mem_nil, or_false] at ht
    subst ht
    unfold i64
    decide
theorem l_awake : VC Tryz.prog 18 [] (B true) := by
  have g1 := v_Stand
  have g2 := v_Morning
  have g3 := p_Replay standR mornL small_morn
  have g4 := p_Waits standR mornL small_morn
  have g5 := p_Overtaken seenL (by decide) (fun k hk => by
    have h2 : k < 3 := hk
    rcases k with _ | _ | _ | k
    · decide
    · decide
    · decide
    · omega)
  have g6 := p_ParseEvent callT (by decide)
  have g7 := p_SightingsOf standR mornL small_morn
  have g8 := p_FormatState mornS small_mornS
  have g9 := s_SameWaits [⟨⟨#[97]⟩, 0, 20⟩] (by decide)
  obtain ⟨m1, m2⟩ := morn_sight
  rw [morn_rep] at g3
  rw [morn_err, if_pos rfl, morn_wait] at g4
  rw [seen_t, seen_e] at g5
  rw [call_p] at g6
  rw [m1] at g7
  rw [morn_text] at g8
  generalize (sightR standR mornL).1 = L at *
  have m3 : (L.length : Int) = 6 := by omega
  clear m1 m2
  generalize standR = R0 at *
  generalize hM : mornL = M at *
  clear hM
  generalize hS : mornS = S0 at *
  clear hS
  unfold seenL at g5
  unfold callT at g6
  simp only [rulesA, evsA, stateA, sgsA, evA, List.map_cons, List.map_nil, Sg.av, Wt.av] at g1 g2 g3 g4 g5 g6 g7 g8 g9
  refine VC_of Tryz.func18 rfl (by kernel_rfl) (by kernel_rfl) rfl fun M0 w0 => ?_
  simp only [Tryz.ntmps18, Tryz.results18, enumA]
  repeat' (first | (with_reducible first | refine vseq ?_ | refine vthenN ?_ | refine vret ?_ | refine vrun_nil ?_ | refine vregion [] ?_) | ((with_reducible refine vrun_cons fun KK hKK => ?_); go_simp; (first | (with_reducible refine ⟨_, g1, ?_⟩) | (with_reducible refine ⟨_, g2, ?_⟩) | (with_reducible refine ⟨_, g3, ?_⟩) | (with_reducible refine ⟨_, g4, ?_⟩) | (with_reducible refine ⟨_, g5, ?_⟩) | (with_reducible refine ⟨_, g6, ?_⟩) | (with_reducible refine ⟨_, g7, ?_⟩) | (with_reducible refine ⟨_, g8, ?_⟩) | (with_reducible refine ⟨_, g9, ?_⟩) | skip); refine hKK _ ?_; clear hKK KK))
  go_simp
end Go.Proofs.YtoibondihdhnoaaGreatDoor

/-! R13: Walks: overtaken, as the reference has it. -/
namespace Go.Proofs.YtoibondihdhnoaaGreatDoor
open Go.RowKit
set_option maxRecDepth 100000
set_option maxHeartbeats 2000000
theorem anyP_no {p : Nat → Bool} {n : Nat} (h : ∀ j, j < n → p j = false) : anyP p 0 n = false := anyP_out h
theorem againB_0 (l : List Sg) (i k : Nat) : againB l i k = anyP (fun d => sAtB (sgat l (i + 1 + d)) (sgat l i).rank (sgat l i).car) 0 (k - (i + 1)) := by
  unfold againB anyP
  simp only [Nat.zero_add]
theorem r_again (l : List Sg) (i m : Nat) (hi : i < m) (hm : m ≤ l.length) (hl : l.length ≤ 1000000) : VC Tryz.prog 93 [sgsA l, I (i : Int), I (m : Int)] (B (againB l i m)) := by
  obtain ⟨R, hR⟩ : ∃ R, againB l i m = R := ⟨_, rfl⟩
  rw [hR]
  rw [againB_0] at hR
  obtain ⟨w1, w2, w3, w4, w5, w6⟩ := ixs (m := i) (by omega)
  have HR := Lib.hid hR
  obtain ⟨i0, hi0⟩ : ∃ i0, i0 = i := ⟨_, rfl⟩
  have HI0 := Lib.hid hi0
  clear hR hi0
  have hil : i < l.length := by omega
  refine VC_of Tryz.func93 rfl (by kernel_rfl) (by kernel_rfl) rfl fun M0 w0 => ?_
  simp only [Tryz.ntmps93, Tryz.results93, enumA]
  repeat' (first | (with_reducible first | refine vseq ?_ | refine vthenN ?_ | refine vblock ?_ | refine vrun_nil ?_ | refine vregion [] ?_) | ((with_reducible refine vrun_cons fun KK hKK => ?_); go_simp; refine hKK _ ?_; clear hKK KK))
  apply vfor [0, 1, 2] (fun k => [(7, I ((i : Int) + 1 + (k : Int)))]) (fun k => ([] : Hp)) (fun d => sAtB (sgat l (i0 + 1 + d)) (sgat l i0).rank (sgat l i0).car) (m - (i + 1))
  · go_simp <;> exact rfl
  · go_simp
  · intro k hk HB HP K hK
    obtain ⟨n, hn⟩ : ∃ n, n = i + 1 + k := ⟨_, rfl⟩
    rw [show (i : Int) + 1 + ((k + 1 : Nat) : Int) = (n : Int) + 1 by omega] at hK
    rw [show (i : Int) + 1 + (k : Int) = (n : Int) by omega]
    have hp := HP.out
    rw [HI0.out, ← hn] at hp
    have hnl : n < l.length := by omega
    have hnm : (n : Int) < m := by omega
    obtain ⟨x1, x2, x3, x4, x5, x6⟩ := ixs (m := n) (by omega)
    clear hn
    rw [sAtB] at hp
    by_cases q1 : (sgat l n).rank = (sgat l i).rank
    · have q2 : ¬ (sgat l n).car = (sgat l i).car := by
        rw [decide_eq_true q1] at hp
        simpa using hp
      clear hp
      repeat' (first | (with_reducible first | refine vseq ?_ | refine vthenN ?_ | refine vskip ?_ | refine vblock ?_ | refine vblockN ?_ | refine vrun_nil ?_ | refine vregion [] ?_ | refine vhrun_nil ?_) | ((with_reducible refine vcondT ?_ ?_); (focus (go_simp; done))) | ((with_reducible refine vcondF ?_ ?_); (focus (go_simp; done))) | ((with_reducible first | refine vrun_cons fun KK hKK => ?_ | refine vhrun_cons fun KK hKK => ?_); go_simp; refine hKK _ ?_; clear hKK KK) | ((refine vdrawL 24 24 [] rfl (by kernel_rfl) (by kernel_rfl) ?_); simp only [List.take, List.drop]))
      refine hK _ ?_
      go_simp
    · clear hp
      repeat' (first | (with_reducible first | refine vseq ?_ | refine vthenN ?_ | refine vskip ?_ | refine vblock ?_ | refine vblockN ?_ | refine vrun_nil ?_ | refine vregion [] ?_ | refine vhrun_nil ?_) | ((with_reducible refine vcondT ?_ ?_); (focus (go_simp; done))) | ((with_reducible refine vcondF ?_ ?_); (focus (go_simp; done))) | ((with_reducible first | refine vrun_cons fun KK hKK => ?_ | refine vhrun_cons fun KK hKK => ?_); go_simp; refine hKK _ ?_; clear hKK KK) | ((refine vdrawL 24 24 [] rfl (by kernel_rfl) (by kernel_rfl) ?_); simp only [List.take, List.drop]))
      refine hK _ ?_
      go_simp
  · intro k hk HB HP K
    obtain ⟨n, hn⟩ : ∃ n, n = i + 1 + k := ⟨_, rfl⟩
    rw [show (i : Int) + 1 + (k : Int) = (n : Int) by omega]
    have e := HR.out
    rw [HI0.out] at HP
    rw [anyP_hit hk HP.out] at e
    subst e
    have hp := HP.out
    rw [← hn] at hp
    have hnl : n < l.length := by omega
    have hnm : (n : Int) < m := by omega
    obtain ⟨x1, x2, x3, x4, x5, x6⟩ := ixs (m := n) (by omega)
    obtain ⟨q1, q2⟩ := sAtB_iff.1 hp
    clear hn hp
    repeat' (first | (with_reducible first | refine vseq ?_ | refine vthenN ?_ | refine vthenR ?_ | refine vret ?_ | refine vskip ?_ | refine vblock ?_ | refine vblockR ?_ | refine vrun_nil ?_ | refine vregion [] ?_ | refine vhrun_nil ?_) | ((with_reducible refine vcondT ?_ ?_); (focus (go_simp; done))) | ((with_reducible first | refine vrun_cons fun KK hKK => ?_ | refine vhrun_cons fun KK hKK => ?_); go_simp; refine hKK _ ?_; clear hKK KK) | ((refine vdrawL 24 24 [] rfl (by kernel_rfl) (by kernel_rfl) ?_); simp only [List.take, List.drop]))
    go_simp
  · intro HB K
    rw [show (i : Int) + 1 + ((m - (i + 1) : Nat) : Int) = (m : Int) by omega]
    have e := HR.out
    have hb := HB.out
    rw [HI0.out] at hb
    rw [anyP_no hb] at e
    subst e
    repeat' (first | (with_reducible first | refine vseq ?_ | refine vthenN ?_ | refine vthenE ?_ | refine vret ?_ | refine vexit ?_ | refine vblockH ?_ | refine vrun_nil ?_ | refine vregion [] ?_) | ((with_reducible refine vcondF ?_ ?_); (focus (go_simp; done))) | ((with_reducible refine vrun_cons fun KK hKK => ?_); go_simp; refine hKK _ ?_; clear hKK KK))
    go_simp
theorem r_SightingsErr (l : List Sg) (hl : l.length ≤ 1000000) (hc : ∀ k, k < l.length → (sgat l k).car.size ≤ 1000) : VC Tryz.prog 28 [sgsA l] (I (sgsE l)) := by
  unfold sgsE
  by_cases h2 : 200 < l.length
  · rw [if_pos h2]
    have h3 : (200 : Int) < (l.length : Int) := by omega
    refine VC_of Tryz.func28 rfl (by kernel_rfl) (by kernel_rfl) rfl fun M0 w0 => ?_
    simp only [Tryz.ntmps28, Tryz.results28, enumA]
    repeat' (first | (with_reducible first | refine vseq ?_ | refine vthenN ?_ | refine vthenR ?_ | refine vret ?_ | refine vrun_nil ?_ | refine vregion [] ?_) | ((with_reducible refine vcondT ?_ ?_); (focus (go_simp; done))) | ((with_reducible refine vrun_cons fun KK hKK => ?_); go_simp; refine hKK _ ?_; clear hKK KK))
    go_simp
  rw [if_neg h2]
  have h3 : ¬ (200 : Int) < (l.length : Int) := by omega
  obtain ⟨R, hR⟩ : ∃ R, (firstErr (sgE l) 0 l.length).2 = R := ⟨_, rfl⟩
  rw [hR]
  have HR := Lib.hid hR
  have HC := Lib.hid hc
  clear hR hc
  refine VC_of Tryz.func28 rfl (by kernel_rfl) (by kernel_rfl) rfl fun M0 w0 => ?_
  simp only [Tryz.ntmps28, Tryz.results28, enumA]
  repeat' (first | (with_reducible first | refine vseq ?_ | refine vthenN ?_ | refine vskip ?_ | refine vblock ?_ | refine vrun_nil ?_ | refine vregion [] ?_) | ((with_reducible refine vcondF ?_ ?_); (focus (go_simp; done))) | ((with_reducible refine vrun_cons fun KK hKK => ?_); go_simp; refine hKK _ ?_; clear hKK KK))
  apply vfor [0] (fun k => [(3, I k)]) (fun k => ([] : Hp)) (fun k => !decide (sgE l k = 0)) (l.length)
  · go_simp <;> exact rfl
  · go_simp
  · intro k hk HB HP K hK
    obtain ⟨w1, w2, w3, w4, w5, w6⟩ := ixs (m := k) (by omega)
    have he : sgE l k = 0 := by simpa using HP.out
    unfold sgE at he
    rw [fst_cons, fst_cons, fst_cons] at he
    have i1 := b_within (sgat l k).kind 0 3
    have i2 := b_within (sgat l k).rank 0 5
    have i3 := b_isName (sgat l k).car (by have := HC.out k hk; omega)
    rw [unl_zero (by decide) he.1] at i1
    rw [unl_zero (by decide) he.2.1] at i2
    rw [unl_zero (by decide) he.2.2.1] at i3
    clear he
    repeat' (first | (with_reducible first | refine vseq ?_ | refine vthenN ?_ | refine vskip ?_ | refine vblock ?_ | refine vblockN ?_ | refine vrun_nil ?_ | refine vregion [] ?_) | ((with_reducible refine vcondT ?_ ?_); (focus (go_simp; done))) | ((with_reducible refine vcondF ?_ ?_); (focus (go_simp; done))) | ((with_reducible refine vrun_cons fun KK hKK => ?_); go_simp; (first | (with_reducible refine ⟨_, i1, ?_⟩) | (with_reducible refine ⟨_, i2, ?_⟩) | (with_reducible refine ⟨_, i3, ?_⟩) | skip); refine hKK _ ?_; clear hKK KK))
    refine hK _ ?_
    go_simp
  · intro k hk HB HP K
    have e := HR.out
    rw [firstErr_hit hk HB.out HP.out] at e
    have i1 := b_within (sgat l k).kind 0 3
    have i2 := b_within (sgat l k).rank 0 5
    have i3 := b_isName (sgat l k).car (by have := HC.out k hk; omega)
    have hne : sgE l k ≠ 0 := by simpa using HP.out
    unfold sgE at e hne
    cases hD1 : inR (sgat l k).kind 0 3
    · rw [hD1] at e i1
      subst e
      clear hne
      repeat' (first | (with_reducible first | refine vseq ?_ | refine vthenN ?_ | refine vthenR ?_ | refine vret ?_ | refine vskip ?_ | refine vblock ?_ | refine vblockR ?_ | refine vrun_nil ?_ | refine vregion [] ?_) | ((with_reducible refine vcondT ?_ ?_); (focus (go_simp; done))) | ((with_reducible refine vrun_cons fun KK hKK => ?_); go_simp; (first | (with_reducible refine ⟨_, i1, ?_⟩) | skip); refine hKK _ ?_; clear hKK KK))
      go_simp
      rfl
    cases hD2 : inR (sgat l k).rank 0 5
    · rw [hD1, hD2] at e
      rw [hD1] at i1
      rw [hD2] at i2
      subst e
      clear hne
      repeat' (first | (with_reducible first | refine vseq ?_ | refine vthenN ?_ | refine vthenR ?_ | refine vret ?_ | refine vskip ?_ | refine vblock ?_ | refine vblockR ?_ | refine vrun_nil ?_ | refine vregion [] ?_) | ((with_reducible refine vcondT ?_ ?_); (focus (go_simp; done))) | ((with_reducible refine vcondF ?_ ?_); (focus (go_simp; done))) | ((with_reducible refine vrun_cons fun KK hKK => ?_); go_simp; (first | (with_reducible refine ⟨_, i1, ?_⟩) | (with_reducible refine ⟨_, i2, ?_⟩) | skip); refine hKK _ ?_; clear hKK KK))
      go_simp
      rfl
    cases hD3 : isName (sgat l k).car
    · rw [hD1, hD2, hD3] at e
      rw [hD1] at i1
      rw [hD2] at i2
      rw [hD3] at i3
      subst e
      clear hne
      repeat' (first | (with_reducible first | refine vseq ?_ | refine vthenN ?_ | refine vthenR ?_ | refine vret ?_ | refine vskip ?_ | refine vblock ?_ | refine vblockR ?_ | refine vrun_nil ?_ | refine vregion [] ?_) | ((with_reducible refine vcondT ?_ ?_); (focus (go_simp; done))) | ((with_reducible refine vcondF ?_ ?_); (focus (go_simp; done))) | ((with_reducible refine vrun_cons fun KK hKK => ?_); go_simp; (first | (with_reducible refine ⟨_, i1, ?_⟩) | (with_reducible refine ⟨_, i2, ?_⟩) | (with_reducible refine ⟨_, i3, ?_⟩) | skip); refine hKK _ ?_; clear hKK KK))
      go_simp
      rfl
    · rw [hD1, hD2, hD3] at hne
      exact absurd rfl hne
  · intro HB K
    have e := HR.out
    rw [firstErr_out l.length 0 (fun j hj => HB.out j (by omega))] at e
    subst e
    repeat' (first | (with_reducible first | refine vseq ?_ | refine vthenN ?_ | refine vthenE ?_ | refine vret ?_ | refine vexit ?_ | refine vblockH ?_ | refine vrun_nil ?_ | refine vregion [] ?_) | ((with_reducible refine vcondF ?_ ?_); (focus (go_simp; done))) | ((with_reducible refine vrun_cons fun KK hKK => ?_); go_simp; refine hKK _ ?_; clear hKK KK))
    go_simp
end Go.Proofs.YtoibondihdhnoaaGreatDoor

/-! R14: Walks: overtaken, as the reference has it: three loops. -/
namespace Go.Proofs.YtoibondihdhnoaaGreatDoor
open Go.RowKit
set_option maxRecDepth 100000
set_option maxHeartbeats 2000000
def ovA (l : List Sg) : AV := if overK l < 0 then .agg [I 0, I 0, I 0] else .agg [I (findI l (overK l).toNat), I (jOf l (overK l).toNat), I (overK l)]
theorem r_Overtaken (l : List Sg) (hl : l.length ≤ 1000000) : VC Tryz.prog 29 [sgsA l] (.tup [ovA l, B (decide (0 ≤ overK l))]) := by
  obtain ⟨T, hT⟩ : ∃ T, ovA l = T := ⟨_, rfl⟩
  obtain ⟨O, hO⟩ : ∃ O, decide (0 ≤ overK l) = O := ⟨_, rfl⟩
  rw [hT, hO]
  unfold ovA at hT
  have HT0 := Lib.hid hT
  have HO := Lib.hid hO
  clear hT hO
  refine VC_of Tryz.func29 rfl (by kernel_rfl) (by kernel_rfl) rfl fun M0 w0 => ?_
  simp only [Tryz.ntmps29, Tryz.results29, enumA]
  repeat' (first | (with_reducible first | refine vseq ?_ | refine vthenN ?_ | refine vblock ?_ | refine vrun_nil ?_ | refine vregion [] ?_) | ((with_reducible refine vrun_cons fun KK hKK => ?_); go_simp; refine hKK _ ?_; clear hKK KK))
  apply vfor [0, 2] (fun k => [(4, I k)]) (fun k => ([some (.box [I 0, I 0, I 0])] : Hp)) (foundR l) (l.length)
  · go_simp <;> exact rfl
  · go_simp
  · intro k hk HB HP K hK
    obtain ⟨w1, w2, w3, w4, w5, w6⟩ := ixs (m := k) (by omega)
    by_cases hkd : (sgat l k).kind = 1
    · have hp : ¬ 0 ≤ ixP (okR l k) 0 k := by
        have := HP.out
        unfold foundR findR at this
        rw [if_pos hkd] at this
        exact of_decide_eq_false this
      have HPN := Lib.hid hp
      clear hp
      repeat' (first | (with_reducible first | refine vseq ?_ | refine vthenN ?_ | refine vskip ?_ | refine vblock ?_ | refine vrun_nil ?_ | refine vregion [] ?_) | ((with_reducible refine vcondT ?_ ?_); (focus (go_simp; done))) | ((with_reducible refine vcondF ?_ ?_); (focus (go_simp; done))) | ((with_reducible refine vrun_cons fun KK hKK => ?_); go_simp; refine hKK _ ?_; clear hKK KK))
      apply vfor [0, 2, 4] (fun k => [(5, I k)]) (fun k => ([some (.box [I 0, I 0, I 0])] : Hp)) (okR l k) (k)
      · go_simp <;> exact rfl
      · go_simp
      · intro i hi HB2 HP2 K2 hK2
        have hil : i < l.length := by omega
        have hik : (i : Int) < k := by omega
        obtain ⟨x1, x2, x3, x4, x5, x6⟩ := ixs (m := i) (by omega)
        have ga := r_again l i k hi (by omega) hl
        have ho := HP2.out
        by_cases q1 : (sgat l i).kind = 0
        · by_cases q2 : (sgat l i).rank = (sgat l k).rank
          · by_cases q3 : (sgat l i).car = (sgat l k).car
            · clear ho ga
              repeat' (first | (with_reducible first | refine vseq ?_ | refine vthenN ?_ | refine vthenE ?_ | refine vskip ?_ | refine vexit ?_ | refine vblock ?_ | refine vblockH ?_ | refine vrun_nil ?_ | refine vregion [] ?_ | refine vhrun_nil ?_) | ((with_reducible refine vcondT ?_ ?_); (focus (go_simp; done))) | ((with_reducible first | refine vrun_cons fun KK hKK => ?_ | refine vhrun_cons fun KK hKK => ?_); go_simp; refine hKK _ ?_; clear hKK KK) | ((refine vdrawL 38 38 [] rfl (by kernel_rfl) (by kernel_rfl) ?_); simp only [List.take, List.drop]))
              refine hK2 _ ?_
              go_simp
            · cases q4 : againB l i k
              · have hj : ¬ 0 ≤ jR l k i := by
                  unfold okR okIr at ho
                  rw [decide_eq_true q1, decide_eq_true q2, decide_eq_false q3, q4] at ho
                  simpa using ho
                rw [q4] at ga
                have HJ := Lib.hid hj
                clear ho hj q4
                repeat' (first | (with_reducible first | refine vseq ?_ | refine vthenN ?_ | refine vskip ?_ | refine vblock ?_ | refine vrun_nil ?_ | refine vregion [] ?_ | refine vhrun_nil ?_) | ((with_reducible refine vcondT ?_ ?_); (focus (go_simp; done))) | ((with_reducible refine vcondF ?_ ?_); (focus (go_simp; done))) | ((with_reducible first | refine vrun_cons fun KK hKK => ?_ | refine vhrun_cons fun KK hKK => ?_); go_simp; (first | (with_reducible refine ⟨_, ga, ?_⟩) | skip); refine hKK _ ?_; clear hKK KK) | ((refine vdrawL 38 38 [] rfl (by kernel_rfl) (by kernel_rfl) ?_); simp only [List.take, List.drop]))
                apply vfor [0, 2, 4, 5] (fun k => [(6, I ((i : Int) + 1 + (k : Int)))]) (fun k => ([some (.box [I 0, I 0, I 0])] : Hp)) (fun d => okJr l k (i + 1 + d)) (k - (i + 1))
                · go_simp <;> exact rfl
                · go_simp
                · intro d hd HB3 HP3 K3 hK3
                  obtain ⟨n, hn⟩ : ∃ n, n = i + 1 + d := ⟨_, rfl⟩
                  rw [show (i : Int) + 1 + ((d + 1 : Nat) : Int) = (n : Int) + 1 by omega] at hK3
                  rw [show (i : Int) + 1 + (d : Int) = (n : Int) by omega]
                  have ho := HP3.out
                  rw [← hn] at ho
                  have hnl : n < l.length := by omega
                  have hnk : (n : Int) < k := by omega
                  have hnk2 : n < k := by omega
                  obtain ⟨v1, v2, v3, v4, v5, v6⟩ := ixs (m := n) (by omega)
                  have gb := r_again l n k hnk2 (by omega) hl
                  clear hn hnk2
                  by_cases p1 : (sgat l n).kind = 0
                  · by_cases p2 : (sgat l n).rank = (sgat l k).rank
                    · by_cases p3 : (sgat l n).car = (sgat l k).car
                      · have p4 : againB l n k = true := by
                          unfold okJr at ho
                          rw [decide_eq_true p1, decide_eq_true p2, decide_eq_true p3] at ho
                          simpa using ho
                        rw [p4] at gb
                        clear ho p4
                        repeat' (first | (with_reducible first | refine vseq ?_ | refine vthenN ?_ | refine vskip ?_ | refine vblock ?_ | refine vblockN ?_ | refine vrun_nil ?_ | refine vregion [] ?_ | refine vhrun_nil ?_) | ((with_reducible refine vcondT ?_ ?_); (focus (go_simp; done))) | ((with_reducible refine vcondF ?_ ?_); (focus (go_simp; done))) | ((with_reducible first | refine vrun_cons fun KK hKK => ?_ | refine vhrun_cons fun KK hKK => ?_); go_simp; (first | (with_reducible refine ⟨_, gb, ?_⟩) | skip); refine hKK _ ?_; clear hKK KK) | ((refine vdrawL 39 39 [] rfl (by kernel_rfl) (by kernel_rfl) ?_); simp only [List.take, List.drop]))
                        refine hK3 _ ?_
                        go_simp
                      · clear ho gb
                        repeat' (first | (with_reducible first | refine vseq ?_ | refine vthenN ?_ | refine vskip ?_ | refine vblock ?_ | refine vblockN ?_ | refine vrun_nil ?_ | refine vregion [] ?_ | refine vhrun_nil ?_) | ((with_reducible refine vcondT ?_ ?_); (focus (go_simp; done))) | ((with_reducible refine vcondF ?_ ?_); (focus (go_simp; done))) | ((with_reducible first | refine vrun_cons fun KK hKK => ?_ | refine vhrun_cons fun KK hKK => ?_); go_simp; refine hKK _ ?_; clear hKK KK) | ((refine vdrawL 39 39 [] rfl (by kernel_rfl) (by kernel_rfl) ?_); simp only [List.take, List.drop]))
                        refine hK3 _ ?_
                        go_simp
                    · clear ho gb
                      repeat' (first | (with_reducible first | refine vseq ?_ | refine vthenN ?_ | refine vskip ?_ | refine vblock ?_ | refine vblockN ?_ | refine vrun_nil ?_ | refine vregion [] ?_ | refine vhrun_nil ?_) | ((with_reducible refine vcondT ?_ ?_); (focus (go_simp; done))) | ((with_reducible refine vcondF ?_ ?_); (focus (go_simp; done))) | ((with_reducible first | refine vrun_cons fun KK hKK => ?_ | refine vhrun_cons fun KK hKK => ?_); go_simp; refine hKK _ ?_; clear hKK KK) | ((refine vdrawL 39 39 [] rfl (by kernel_rfl) (by kernel_rfl) ?_); simp only [List.take, List.drop]))
                      refine hK3 _ ?_
                      go_simp
                  · clear ho gb
                    repeat' (first | (with_reducible first | refine vseq ?_ | refine vthenN ?_ | refine vskip ?_ | refine vblock ?_ | refine vblockN ?_ | refine vrun_nil ?_ | refine vregion [] ?_ | refine vhrun_nil ?_) | ((with_reducible refine vcondT ?_ ?_); (focus (go_simp; done))) | ((with_reducible refine vcondF ?_ ?_); (focus (go_simp; done))) | ((with_reducible first | refine vrun_cons fun KK hKK => ?_ | refine vhrun_cons fun KK hKK => ?_); go_simp; refine hKK _ ?_; clear hKK KK) | ((refine vdrawL 39 39 [] rfl (by kernel_rfl) (by kernel_rfl) ?_); simp only [List.take, List.drop]))
                    refine hK3 _ ?_
                    go_simp
                · intro d hd HB3 HP3 K3
                  have hh := ixP_hit hd HB3.out HP3.out
                  exact absurd (show 0 ≤ jR l k i by unfold jR; rw [hh]; omega) HJ.out
                · intro HB3 K3
                  rw [show (i : Int) + 1 + ((k - (i + 1) : Nat) : Int) = (k : Int) by omega]
                  repeat' (first | (with_reducible first | refine vseq ?_ | refine vthenN ?_ | refine vthenE ?_ | refine vexit ?_ | refine vblockN ?_ | refine vblockH ?_ | refine vrun_nil ?_ | refine vregion [] ?_) | ((with_reducible refine vcondF ?_ ?_); (focus (go_simp; done))) | ((with_reducible refine vrun_cons fun KK hKK => ?_); go_simp; refine hKK _ ?_; clear hKK KK))
                  refine hK2 _ ?_
                  go_simp
              · rw [q4] at ga
                clear ho q4
                repeat' (first | (with_reducible first | refine vseq ?_ | refine vthenN ?_ | refine vthenE ?_ | refine vskip ?_ | refine vexit ?_ | refine vblock ?_ | refine vblockH ?_ | refine vrun_nil ?_ | refine vregion [] ?_ | refine vhrun_nil ?_) | ((with_reducible refine vcondT ?_ ?_); (focus (go_simp; done))) | ((with_reducible first | refine vrun_cons fun KK hKK => ?_ | refine vhrun_cons fun KK hKK => ?_); go_simp; (first | (with_reducible refine ⟨_, ga, ?_⟩) | skip); refine hKK _ ?_; clear hKK KK) | ((refine vdrawL 38 38 [] rfl (by kernel_rfl) (by kernel_rfl) ?_); simp only [List.take, List.drop]))
                refine hK2 _ ?_
                go_simp
          · clear ho ga
            repeat' (first | (with_reducible first | refine vseq ?_ | refine vthenN ?_ | refine vthenE ?_ | refine vskip ?_ | refine vexit ?_ | refine vblock ?_ | refine vblockH ?_ | refine vrun_nil ?_ | refine vregion [] ?_ | refine vhrun_nil ?_) | ((with_reducible refine vcondT ?_ ?_); (focus (go_simp; done))) | ((with_reducible first | refine vrun_cons fun KK hKK => ?_ | refine vhrun_cons fun KK hKK => ?_); go_simp; refine hKK _ ?_; clear hKK KK) | ((refine vdrawL 38 38 [] rfl (by kernel_rfl) (by kernel_rfl) ?_); simp only [List.take, List.drop]))
            refine hK2 _ ?_
            go_simp
        · clear ho ga
          repeat' (first | (with_reducible first | refine vseq ?_ | refine vthenN ?_ | refine vthenE ?_ | refine vskip ?_ | refine vexit ?_ | refine vblock ?_ | refine vblockH ?_ | refine vrun_nil ?_ | refine vregion [] ?_ | refine vhrun_nil ?_) | ((with_reducible refine vcondT ?_ ?_); (focus (go_simp; done))) | ((with_reducible first | refine vrun_cons fun KK hKK => ?_ | refine vhrun_cons fun KK hKK => ?_); go_simp; refine hKK _ ?_; clear hKK KK) | ((refine vdrawL 38 38 [] rfl (by kernel_rfl) (by kernel_rfl) ?_); simp only [List.take, List.drop]))
          refine hK2 _ ?_
          go_simp
      · intro i hi HB2 HP2 K2
        have := ixP_hit hi HB2.out HP2.out
        have h5 := HPN.out
        rw [this] at h5
        exact absurd (by omega) h5
      · intro HB2 K2
        repeat' (first | (with_reducible first | refine vseq ?_ | refine vthenN ?_ | refine vthenE ?_ | refine vexit ?_ | refine vblockN ?_ | refine vblockH ?_ | refine vrun_nil ?_ | refine vregion [] ?_) | ((with_reducible refine vcondF ?_ ?_); (focus (go_simp; done))) | ((with_reducible refine vrun_cons fun KK hKK => ?_); go_simp; refine hKK _ ?_; clear hKK KK))
        refine hK _ ?_
        go_simp
    · repeat' (first | (with_reducible first | refine vseq ?_ | refine vthenN ?_ | refine vthenE ?_ | refine vskip ?_ | refine vexit ?_ | refine vblock ?_ | refine vblockH ?_ | refine vrun_nil ?_ | refine vregion [] ?_) | ((with_reducible refine vcondT ?_ ?_); (focus (go_simp; done))) | ((with_reducible refine vrun_cons fun KK hKK => ?_); go_simp; refine hKK _ ?_; clear hKK KK))
      refine hK _ ?_
      go_simp
  · intro k hk HB HP K
    obtain ⟨w1, w2, w3, w4, w5, w6⟩ := ixs (m := k) (by omega)
    have hf : 0 ≤ findR l k := of_decide_eq_true HP.out
    have hkd : (sgat l k).kind = 1 := Classical.byContradiction fun hh => by
      unfold findR at hf
      rw [if_neg hh] at hf
      omega
    have hp : 0 ≤ ixP (okR l k) 0 k := by
      unfold findR at hf
      rw [if_pos hkd] at hf
      exact hf
    have eO : overK l = (k : Int) := by rw [← over_eq]; exact ixP_hit hk HB.out HP.out
    have hT := HT0.out
    rw [eO, if_neg (by omega), Int.toNat_natCast] at hT
    have hO := HO.out
    rw [eO, decide_eq_true (by omega)] at hO
    have HT := Lib.hid hT
    have HPN := Lib.hid hp
    have HKD := Lib.hid hkd
    clear hT hp hf eO HT0 HO
    subst hO
    repeat' (first | (with_reducible first | refine vseq ?_ | refine vthenN ?_ | refine vskip ?_ | refine vblock ?_ | refine vrun_nil ?_ | refine vregion [] ?_) | ((with_reducible refine vcondT ?_ ?_); (focus (go_simp; done))) | ((with_reducible refine vcondF ?_ ?_); (focus (go_simp; done))) | ((with_reducible refine vrun_cons fun KK hKK => ?_); go_simp; refine hKK _ ?_; clear hKK KK))
    apply vfor [0, 2, 4] (fun k => [(5, I k)]) (fun k => ([some (.box [I 0, I 0, I 0])] : Hp)) (okR l k) (k)
    · go_simp <;> exact rfl
    · go_simp
    · intro i hi HB2 HP2 K2 hK2
      have hil : i < l.length := by omega
      have hik : (i : Int) < k := by omega
      obtain ⟨x1, x2, x3, x4, x5, x6⟩ := ixs (m := i) (by omega)
      have ga := r_again l i k hi (by omega) hl
      have ho := HP2.out
      by_cases q1 : (sgat l i).kind = 0
      · by_cases q2 : (sgat l i).rank = (sgat l k).rank
        · by_cases q3 : (sgat l i).car = (sgat l k).car
          · clear ho ga
            repeat' (first | (with_reducible first | refine vseq ?_ | refine vthenN ?_ | refine vthenE ?_ | refine vskip ?_ | refine vexit ?_ | refine vblock ?_ | refine vblockH ?_ | refine vrun_nil ?_ | refine vregion [] ?_ | refine vhrun_nil ?_) | ((with_reducible refine vcondT ?_ ?_); (focus (go_simp; done))) | ((with_reducible first | refine vrun_cons fun KK hKK => ?_ | refine vhrun_cons fun KK hKK => ?_); go_simp; refine hKK _ ?_; clear hKK KK) | ((refine vdrawL 38 38 [] rfl (by kernel_rfl) (by kernel_rfl) ?_); simp only [List.take, List.drop]))
            refine hK2 _ ?_
            go_simp
          · cases q4 : againB l i k
            · have hj : ¬ 0 ≤ jR l k i := by
                unfold okR okIr at ho
                rw [decide_eq_true q1, decide_eq_true q2, decide_eq_false q3, q4] at ho
                simpa using ho
              rw [q4] at ga
              have HJ := Lib.hid hj
              clear ho hj q4
              repeat' (first | (with_reducible first | refine vseq ?_ | refine vthenN ?_ | refine vskip ?_ | refine vblock ?_ | refine vrun_nil ?_ | refine vregion [] ?_ | refine vhrun_nil ?_) | ((with_reducible refine vcondT ?_ ?_); (focus (go_simp; done))) | ((with_reducible refine vcondF ?_ ?_); (focus (go_simp; done))) | ((with_reducible first | refine vrun_cons fun KK hKK => ?_ | refine vhrun_cons fun KK hKK => ?_); go_simp; (first | (with_reducible refine ⟨_, ga, ?_⟩) | skip); refine hKK _ ?_; clear hKK KK) | ((refine vdrawL 38 38 [] rfl (by kernel_rfl) (by kernel_rfl) ?_); simp only [List.take, List.drop]))
              apply vfor [0, 2, 4, 5] (fun k => [(6, I ((i : Int) + 1 + (k : Int)))]) (fun k => ([some (.box [I 0, I 0, I 0])] : Hp)) (fun d => okJr l k (i + 1 + d)) (k - (i + 1))
              · go_simp <;> exact rfl
              · go_simp
              · intro d hd HB3 HP3 K3 hK3
                obtain ⟨n, hn⟩ : ∃ n, n = i + 1 + d := ⟨_, rfl⟩
                rw [show (i : Int) + 1 + ((d + 1 : Nat) : Int) = (n : Int) + 1 by omega] at hK3
                rw [show (i : Int) + 1 + (d : Int) = (n : Int) by omega]
                have ho := HP3.out
                rw [← hn] at ho
                have hnl : n < l.length := by omega
                have hnk : (n : Int) < k := by omega
                have hnk2 : n < k := by omega
                obtain ⟨v1, v2, v3, v4, v5, v6⟩ := ixs (m := n) (by omega)
                have gb := r_again l n k hnk2 (by omega) hl
                clear hn hnk2
                by_cases p1 : (sgat l n).kind = 0
                · by_cases p2 : (sgat l n).rank = (sgat l k).rank
                  · by_cases p3 : (sgat l n).car = (sgat l k).car
                    · have p4 : againB l n k = true := by
                        unfold okJr at ho
                        rw [decide_eq_true p1, decide_eq_true p2, decide_eq_true p3] at ho
                        simpa using ho
                      rw [p4] at gb
                      clear ho p4
                      repeat' (first | (with_reducible first | refine vseq ?_ | refine vthenN ?_ | refine vskip ?_ | refine vblock ?_ | refine vblockN ?_ | refine vrun_nil ?_ | refine vregion [] ?_ | refine vhrun_nil ?_) | ((with_reducible refine vcondT ?_ ?_); (focus (go_simp; done))) | ((with_reducible refine vcondF ?_ ?_); (focus (go_simp; done))) | ((with_reducible first | refine vrun_cons fun KK hKK => ?_ | refine vhrun_cons fun KK hKK => ?_); go_simp; (first | (with_reducible refine ⟨_, gb, ?_⟩) | skip); refine hKK _ ?_; clear hKK KK) | ((refine vdrawL 39 39 [] rfl (by kernel_rfl) (by kernel_rfl) ?_); simp only [List.take, List.drop]))
                      refine hK3 _ ?_
                      go_simp
                    · clear ho gb
                      repeat' (first | (with_reducible first | refine vseq ?_ | refine vthenN ?_ | refine vskip ?_ | refine vblock ?_ | refine vblockN ?_ | refine vrun_nil ?_ | refine vregion [] ?_ | refine vhrun_nil ?_) | ((with_reducible refine vcondT ?_ ?_); (focus (go_simp; done))) | ((with_reducible refine vcondF ?_ ?_); (focus (go_simp; done))) | ((with_reducible first | refine vrun_cons fun KK hKK => ?_ | refine vhrun_cons fun KK hKK => ?_); go_simp; refine hKK _ ?_; clear hKK KK) | ((refine vdrawL 39 39 [] rfl (by kernel_rfl) (by kernel_rfl) ?_); simp only [List.take, List.drop]))
                      refine hK3 _ ?_
                      go_simp
                  · clear ho gb
                    repeat' (first | (with_reducible first | refine vseq ?_ | refine vthenN ?_ | refine vskip ?_ | refine vblock ?_ | refine vblockN ?_ | refine vrun_nil ?_ | refine vregion [] ?_ | refine vhrun_nil ?_) | ((with_reducible refine vcondT ?_ ?_); (focus (go_simp; done))) | ((with_reducible refine vcondF ?_ ?_); (focus (go_simp; done))) | ((with_reducible first | refine vrun_cons fun KK hKK => ?_ | refine vhrun_cons fun KK hKK => ?_); go_simp; refine hKK _ ?_; clear hKK KK) | ((refine vdrawL 39 39 [] rfl (by kernel_rfl) (by kernel_rfl) ?_); simp only [List.take, List.drop]))
                    refine hK3 _ ?_
                    go_simp
                · clear ho gb
                  repeat' (first | (with_reducible first | refine vseq ?_ | refine vthenN ?_ | refine vskip ?_ | refine vblock ?_ | refine vblockN ?_ | refine vrun_nil ?_ | refine vregion [] ?_ | refine vhrun_nil ?_) | ((with_reducible refine vcondT ?_ ?_); (focus (go_simp; done))) | ((with_reducible refine vcondF ?_ ?_); (focus (go_simp; done))) | ((with_reducible first | refine vrun_cons fun KK hKK => ?_ | refine vhrun_cons fun KK hKK => ?_); go_simp; refine hKK _ ?_; clear hKK KK) | ((refine vdrawL 39 39 [] rfl (by kernel_rfl) (by kernel_rfl) ?_); simp only [List.take, List.drop]))
                  refine hK3 _ ?_
                  go_simp
              · intro d hd HB3 HP3 K3
                have hh := ixP_hit hd HB3.out HP3.out
                exact absurd (show 0 ≤ jR l k i by unfold jR; rw [hh]; omega) HJ.out
              · intro HB3 K3
                rw [show (i : Int) + 1 + ((k - (i + 1) : Nat) : Int) = (k : Int) by omega]
                repeat' (first | (with_reducible first | refine vseq ?_ | refine vthenN ?_ | refine vthenE ?_ | refine vexit ?_ | refine vblockN ?_ | refine vblockH ?_ | refine vrun_nil ?_ | refine vregion [] ?_) | ((with_reducible refine vcondF ?_ ?_); (focus (go_simp; done))) | ((with_reducible refine vrun_cons fun KK hKK => ?_); go_simp; refine hKK _ ?_; clear hKK KK))
                refine hK2 _ ?_
                go_simp
            · rw [q4] at ga
              clear ho q4
              repeat' (first | (with_reducible first | refine vseq ?_ | refine vthenN ?_ | refine vthenE ?_ | refine vskip ?_ | refine vexit ?_ | refine vblock ?_ | refine vblockH ?_ | refine vrun_nil ?_ | refine vregion [] ?_ | refine vhrun_nil ?_) | ((with_reducible refine vcondT ?_ ?_); (focus (go_simp; done))) | ((with_reducible first | refine vrun_cons fun KK hKK => ?_ | refine vhrun_cons fun KK hKK => ?_); go_simp; (first | (with_reducible refine ⟨_, ga, ?_⟩) | skip); refine hKK _ ?_; clear hKK KK) | ((refine vdrawL 38 38 [] rfl (by kernel_rfl) (by kernel_rfl) ?_); simp only [List.take, List.drop]))
              refine hK2 _ ?_
              go_simp
        · clear ho ga
          repeat' (first | (with_reducible first | refine vseq ?_ | refine vthenN ?_ | refine vthenE ?_ | refine vskip ?_ | refine vexit ?_ | refine vblock ?_ | refine vblockH ?_ | refine vrun_nil ?_ | refine vregion [] ?_ | refine vhrun_nil ?_) | ((with_reducible refine vcondT ?_ ?_); (focus (go_simp; done))) | ((with_reducible first | refine vrun_cons fun KK hKK => ?_ | refine vhrun_cons fun KK hKK => ?_); go_simp; refine hKK _ ?_; clear hKK KK) | ((refine vdrawL 38 38 [] rfl (by kernel_rfl) (by kernel_rfl) ?_); simp only [List.take, List.drop]))
          refine hK2 _ ?_
          go_simp
      · clear ho ga
        repeat' (first | (with_reducible first | refine vseq ?_ | refine vthenN ?_ | refine vthenE ?_ | refine vskip ?_ | refine vexit ?_ | refine vblock ?_ | refine vblockH ?_ | refine vrun_nil ?_ | refine vregion [] ?_ | refine vhrun_nil ?_) | ((with_reducible refine vcondT ?_ ?_); (focus (go_simp; done))) | ((with_reducible first | refine vrun_cons fun KK hKK => ?_ | refine vhrun_cons fun KK hKK => ?_); go_simp; refine hKK _ ?_; clear hKK KK) | ((refine vdrawL 38 38 [] rfl (by kernel_rfl) (by kernel_rfl) ?_); simp only [List.take, List.drop]))
        refine hK2 _ ?_
        go_simp
    · intro i hi HB2 HP2 K2
      have hil : i < l.length := by omega
      have hik : (i : Int) < k := by omega
      obtain ⟨x1, x2, x3, x4, x5, x6⟩ := ixs (m := i) (by omega)
      have ga := r_again l i k hi (by omega) hl
      have ho := HP2.out
      have hfi : findI l k = (i : Int) := by rw [← find_eq]; unfold findR; rw [if_pos HKD.out]; exact ixP_hit hi HB2.out HP2.out
      unfold okR okIr at ho
      simp only [Bool.and_eq_true, decide_eq_true_eq, Bool.not_eq_true', decide_eq_false_iff_not] at ho
      obtain ⟨⟨⟨⟨q1, q2⟩, q3⟩, q4⟩, q5⟩ := ho
      have hjo : jOf l k = (i : Int) + 1 + jR l k i := by
        have hg : goodJ l k = true ∧ (i : Int) < jOf l k := Classical.byContradiction fun hh => by
          rw [jR_none hh] at q5
          omega
        obtain ⟨d, e1, e2⟩ := jR_some hg.1 hg.2
        rw [e1]
        omega
      have hT2 := HT.out
      rw [hfi, hjo] at hT2
      rw [q4] at ga
      have HJ := Lib.hid q5
      have HT2 := Lib.hid hT2
      clear hfi hjo hT2 q5 q4 HT
      repeat' (first | (with_reducible first | refine vseq ?_ | refine vthenN ?_ | refine vskip ?_ | refine vblock ?_ | refine vrun_nil ?_ | refine vregion [] ?_ | refine vhrun_nil ?_) | ((with_reducible refine vcondT ?_ ?_); (focus (go_simp; done))) | ((with_reducible refine vcondF ?_ ?_); (focus (go_simp; done))) | ((with_reducible first | refine vrun_cons fun KK hKK => ?_ | refine vhrun_cons fun KK hKK => ?_); go_simp; (first | (with_reducible refine ⟨_, ga, ?_⟩) | skip); refine hKK _ ?_; clear hKK KK) | ((refine vdrawL 38 38 [] rfl (by kernel_rfl) (by kernel_rfl) ?_); simp only [List.take, List.drop]))
      apply vfor [0, 2, 4, 5] (fun k => [(6, I ((i : Int) + 1 + (k : Int)))]) (fun k => ([some (.box [I 0, I 0, I 0])] : Hp)) (fun d => okJr l k (i + 1 + d)) (k - (i + 1))
      · go_simp <;> exact rfl
      · go_simp
      · intro d hd HB3 HP3 K3 hK3
        obtain ⟨n, hn⟩ : ∃ n, n = i + 1 + d := ⟨_, rfl⟩
        rw [show (i : Int) + 1 + ((d + 1 : Nat) : Int) = (n : Int) + 1 by omega] at hK3
        rw [show (i : Int) + 1 + (d : Int) = (n : Int) by omega]
        have ho := HP3.out
        rw [← hn] at ho
        have hnl : n < l.length := by omega
        have hnk : (n : Int) < k := by omega
        have hnk2 : n < k := by omega
        obtain ⟨v1, v2, v3, v4, v5, v6⟩ := ixs (m := n) (by omega)
        have gb := r_again l n k hnk2 (by omega) hl
        clear hn hnk2
        by_cases p1 : (sgat l n).kind = 0
        · by_cases p2 : (sgat l n).rank = (sgat l k).rank
          · by_cases p3 : (sgat l n).car = (sgat l k).car
            · have p4 : againB l n k = true := by
                unfold okJr at ho
                rw [decide_eq_true p1, decide_eq_true p2, decide_eq_true p3] at ho
                simpa using ho
              rw [p4] at gb
              clear ho p4
              repeat' (first | (with_reducible first | refine vseq ?_ | refine vthenN ?_ | refine vskip ?_ | refine vblock ?_ | refine vblockN ?_ | refine vrun_nil ?_ | refine vregion [] ?_ | refine vhrun_nil ?_) | ((with_reducible refine vcondT ?_ ?_); (focus (go_simp; done))) | ((with_reducible refine vcondF ?_ ?_); (focus (go_simp; done))) | ((with_reducible first | refine vrun_cons fun KK hKK => ?_ | refine vhrun_cons fun KK hKK => ?_); go_simp; (first | (with_reducible refine ⟨_, gb, ?_⟩) | skip); refine hKK _ ?_; clear hKK KK) | ((refine vdrawL 39 39 [] rfl (by kernel_rfl) (by kernel_rfl) ?_); simp only [List.take, List.drop]))
              refine hK3 _ ?_
              go_simp
            · clear ho gb
              repeat' (first | (with_reducible first | refine vseq ?_ | refine vthenN ?_ | refine vskip ?_ | refine vblock ?_ | refine vblockN ?_ | refine vrun_nil ?_ | refine vregion [] ?_ | refine vhrun_nil ?_) | ((with_reducible refine vcondT ?_ ?_); (focus (go_simp; done))) | ((with_reducible refine vcondF ?_ ?_); (focus (go_simp; done))) | ((with_reducible first | refine vrun_cons fun KK hKK => ?_ | refine vhrun_cons fun KK hKK => ?_); go_simp; refine hKK _ ?_; clear hKK KK) | ((refine vdrawL 39 39 [] rfl (by kernel_rfl) (by kernel_rfl) ?_); simp only [List.take, List.drop]))
              refine hK3 _ ?_
              go_simp
          · clear ho gb
            repeat' (first | (with_reducible first | refine vseq ?_ | refine vthenN ?_ | refine vskip ?_ | refine vblock ?_ | refine vblockN ?_ | refine vrun_nil ?_ | refine vregion [] ?_ | refine vhrun_nil ?_) | ((with_reducible refine vcondT ?_ ?_); (focus (go_simp; done))) | ((with_reducible refine vcondF ?_ ?_); (focus (go_simp; done))) | ((with_reducible first | refine vrun_cons fun KK hKK => ?_ | refine vhrun_cons fun KK hKK => ?_); go_simp; refine hKK _ ?_; clear hKK KK) | ((refine vdrawL 39 39 [] rfl (by kernel_rfl) (by kernel_rfl) ?_); simp only [List.take, List.drop]))
            refine hK3 _ ?_
            go_simp
        · clear ho gb
          repeat' (first | (with_reducible first | refine vseq ?_ | refine vthenN ?_ | refine vskip ?_ | refine vblock ?_ | refine vblockN ?_ | refine vrun_nil ?_ | refine vregion [] ?_ | refine vhrun_nil ?_) | ((with_reducible refine vcondT ?_ ?_); (focus (go_simp; done))) | ((with_reducible refine vcondF ?_ ?_); (focus (go_simp; done))) | ((with_reducible first | refine vrun_cons fun KK hKK => ?_ | refine vhrun_cons fun KK hKK => ?_); go_simp; refine hKK _ ?_; clear hKK KK) | ((refine vdrawL 39 39 [] rfl (by kernel_rfl) (by kernel_rfl) ?_); simp only [List.take, List.drop]))
          refine hK3 _ ?_
          go_simp
      · intro d hd HB3 HP3 K3
        have hh := ixP_hit hd HB3.out HP3.out
        obtain ⟨n, hn⟩ : ∃ n, n = i + 1 + d := ⟨_, rfl⟩
        rw [show (i : Int) + 1 + (d : Int) = (n : Int) by omega]
        have ho := HP3.out
        rw [← hn] at ho
        have hnl : n < l.length := by omega
        have hnk : (n : Int) < k := by omega
        have hnk2 : n < k := by omega
        obtain ⟨v1, v2, v3, v4, v5, v6⟩ := ixs (m := n) (by omega)
        have gb := r_again l n k hnk2 (by omega) hl
        have hT2 := HT2.out
        have hjr : jR l k i = (d : Int) := hh
        rw [hjr, show (i : Int) + 1 + (d : Int) = (n : Int) by omega] at hT2
        unfold okJr at ho
        simp only [Bool.and_eq_true, decide_eq_true_eq, Bool.not_eq_true'] at ho
        obtain ⟨⟨⟨p1, p2⟩, p3⟩, p4⟩ := ho
        rw [p4] at gb
        subst hT2
        clear hh hjr hn hnk2 p4 HT2
        repeat' (first | (with_reducible first | refine vseq ?_ | refine vthenN ?_ | refine vthenR ?_ | refine vret ?_ | refine vskip ?_ | refine vblock ?_ | refine vblockR ?_ | refine vrun_nil ?_ | refine vregion [] ?_ | refine vhrun_nil ?_) | ((with_reducible refine vcondT ?_ ?_); (focus (go_simp; done))) | ((with_reducible first | refine vrun_cons fun KK hKK => ?_ | refine vhrun_cons fun KK hKK => ?_); go_simp; (first | (with_reducible refine ⟨_, gb, ?_⟩) | skip); refine hKK _ ?_; clear hKK KK) | ((refine vdrawL 39 39 [] rfl (by kernel_rfl) (by kernel_rfl) ?_); simp only [List.take, List.drop]))
        go_simp
      · intro HB3 K3
        have hn := ixP_out HB3.out
        exact absurd HJ.out (by unfold jR; rw [hn]; decide)
    · intro HB2 K2
      have hn := ixP_out HB2.out
      have h5 := HPN.out
      rw [hn] at h5
      exact absurd h5 (by decide)
  · intro HB K
    have eO : overK l = -1 := by rw [← over_eq]; exact ixP_out HB.out
    have hT := HT0.out
    rw [eO, if_pos (by decide)] at hT
    have hO := HO.out
    rw [eO, decide_eq_false (by decide)] at hO
    clear HT0 HO
    subst hO hT
    repeat' (first | (with_reducible first | refine vseq ?_ | refine vthenN ?_ | refine vthenE ?_ | refine vret ?_ | refine vexit ?_ | refine vblockH ?_ | refine vrun_nil ?_ | refine vregion [] ?_) | ((with_reducible refine vcondF ?_ ?_); (focus (go_simp; done))) | ((with_reducible refine vrun_cons fun KK hKK => ?_); go_simp; refine hKK _ ?_; clear hKK KK))
    go_simp
end Go.Proofs.YtoibondihdhnoaaGreatDoor

/-! SR1: The law of the first car that is overtaken: true whatever the input is. -/
namespace Go.Proofs.YtoibondihdhnoaaGreatDoor
open Go.RowKit
set_option maxRecDepth 100000
set_option maxHeartbeats 2000000
def longC (l : List Sg) (k : Nat) : Bool := decide (20 < (sgat l k).car.size)
theorem l_Seen (l : List Sg) (hl : l.length ≤ 9223372036854775807) : VC Tryz.prog 4 [sgsA l] (B true) := by
  have ha := l_awake
  by_cases h1 : l.length ≤ 202
  · by_cases h2 : (20 : Int) < (l.length : Int) ∧ (l.length : Int) ≤ 200
    · obtain ⟨h3, h4⟩ := h2
      clear h1 hl
      refine VC_of Tryz.func4 rfl (by kernel_rfl) (by kernel_rfl) rfl fun M0 w0 => ?_
      simp only [Tryz.ntmps4, Tryz.results4, enumA]
      repeat' (first | (with_reducible first | refine vseq ?_ | refine vthenN ?_ | refine vthenR ?_ | refine vret ?_ | refine vskip ?_ | refine vrun_nil ?_ | refine vregion [] ?_) | ((with_reducible refine vcondT ?_ ?_); (focus (go_simp; done))) | ((with_reducible refine vcondF ?_ ?_); (focus (go_simp; done))) | ((with_reducible refine vrun_cons fun KK hKK => ?_); go_simp; (first | (with_reducible refine ⟨_, ha, ?_⟩) | skip); refine hKK _ ?_; clear hKK KK))
      go_simp
    · have h3 : ¬ (202 : Int) < (l.length : Int) := by omega
      have hb : (20 : Int) < (l.length : Int) → ¬ (l.length : Int) ≤ 200 := fun h h4 => h2 ⟨h, h4⟩
      have hll : l.length ≤ 1000000000 := by omega
      clear h2 hl
      by_cases h20 : (20 : Int) < (l.length : Int)
      all_goals (
        first
          | (have h200 := hb h20)
          | skip
        clear hb
        refine VC_of Tryz.func4 rfl (by kernel_rfl) (by kernel_rfl) rfl fun M0 w0 => ?_
        simp only [Tryz.ntmps4, Tryz.results4, enumA]
        repeat' (first | (with_reducible first | refine vseq ?_ | refine vthenN ?_ | refine vskip ?_ | refine vblock ?_ | refine vrun_nil ?_ | refine vregion [] ?_) | ((with_reducible refine vcondF ?_ ?_); (focus (go_simp; done))) | ((with_reducible refine vrun_cons fun KK hKK => ?_); go_simp; (first | (with_reducible refine ⟨_, ha, ?_⟩) | skip); refine hKK _ ?_; clear hKK KK))
        apply vfor [0] (fun k => [(3, I k)]) (fun k => ([] : Hp)) (longC l) (l.length)
        · go_simp <;> exact rfl
        · go_simp
        · intro k hk HB HP K hK
          obtain ⟨w1, w2, w3, w4, w5, w6⟩ := ixs (m := k) (by omega)
          have hp := HP.out
          rw [longC, decide_eq_false_iff_not] at hp
          have hp2 : ¬ (20 : Int) < ((sgat l k).car.size : Int) := by omega
          clear hp
          repeat' (first | (with_reducible first | refine vseq ?_ | refine vthenN ?_ | refine vskip ?_ | refine vblock ?_ | refine vblockN ?_ | refine vrun_nil ?_ | refine vregion [] ?_) | ((with_reducible refine vcondT ?_ ?_); (focus (go_simp; done))) | ((with_reducible refine vcondF ?_ ?_); (focus (go_simp; done))) | ((with_reducible refine vrun_cons fun KK hKK => ?_); go_simp; refine hKK _ ?_; clear hKK KK))
          refine hK _ ?_
          go_simp
        · intro k hk HB HP K
          have hp := HP.out
          rw [longC, decide_eq_true_eq] at hp
          have hp2 : (20 : Int) < ((sgat l k).car.size : Int) := by omega
          clear hp
          repeat' (first | (with_reducible first | refine vseq ?_ | refine vthenN ?_ | refine vthenR ?_ | refine vret ?_ | refine vskip ?_ | refine vblock ?_ | refine vblockR ?_ | refine vrun_nil ?_ | refine vregion [] ?_) | ((with_reducible refine vcondT ?_ ?_); (focus (go_simp; done))) | ((with_reducible refine vrun_cons fun KK hKK => ?_); go_simp; refine hKK _ ?_; clear hKK KK))
          go_simp
        · intro HB K
          have hc : ∀ k, k < l.length → (sgat l k).car.size ≤ 1000 := fun k hk => by
            have := HB.out k hk
            rw [longC, decide_eq_false_iff_not] at this
            omega
          have g1 := p_Overtaken l (by omega) hc
          have g2 := r_SightingsErr l (by omega) hc
          have g3 := r_Overtaken l (by omega)
          by_cases he : sgsE l = 0
          · have e1 : ovE l = if overK l < 0 then 12 else 0 := by unfold ovE; rw [if_neg (by simp [he])]
            by_cases ho : overK l < 0
            · rw [if_pos ho] at e1
              have e2 : ovT l = .agg [I 0, I 0, I 0] := by unfold ovT; rw [e1]; rfl
              rw [e1, e2] at g1
              unfold ovA at g3
              rw [if_pos ho, decide_eq_false (by omega)] at g3
              rw [he] at g2
              clear hc HB e1 e2 he ho
              repeat' (first | (with_reducible first | refine vseq ?_ | refine vthenN ?_ | refine vthenE ?_ | refine vret ?_ | refine vexit ?_ | refine vblockH ?_ | refine vrun_nil ?_ | refine vregion [39] ?_) | ((with_reducible refine vcondT ?_ ?_); (focus (go_simp; done))) | ((with_reducible refine vcondF ?_ ?_); (focus (go_simp; done))) | ((with_reducible refine vrun_cons fun KK hKK => ?_); go_simp; (first | (refine ⟨_, ⟨g1, rfl⟩, ?_⟩) | (with_reducible refine ⟨_, g2, ?_⟩) | (with_reducible refine ⟨_, g3, ?_⟩) | skip); refine hKK _ ?_; clear hKK KK))
              go_simp
            · rw [if_neg ho] at e1
              have e2 : ovT l = ovA l := by unfold ovT ovA; rw [e1, if_neg ho]; rfl
              rw [e1, e2] at g1
              unfold ovA at g1 g3
              rw [if_neg ho] at g1 g3
              rw [decide_eq_true (by omega)] at g3
              rw [he] at g2
              generalize findI l (overK l).toNat = A at *
              generalize jOf l (overK l).toNat = J at *
              generalize overK l = Kk at *
              clear hc HB e1 e2 he ho
              repeat' (first | (with_reducible first | refine vseq ?_ | refine vthenN ?_ | refine vthenE ?_ | refine vret ?_ | refine vskip ?_ | refine vexit ?_ | refine vblockH ?_ | refine vrun_nil ?_ | refine vregion [39] ?_) | ((with_reducible refine vcondT ?_ ?_); (focus (go_simp; done))) | ((with_reducible refine vcondF ?_ ?_); (focus (go_simp; done))) | ((with_reducible refine vrun_cons fun KK hKK => ?_); go_simp; (first | (refine ⟨_, ⟨g1, rfl⟩, ?_⟩) | (with_reducible refine ⟨_, g2, ?_⟩) | (with_reducible refine ⟨_, g3, ?_⟩) | skip); refine hKK _ ?_; clear hKK KK))
              go_simp
          · have e1 : ovE l = sgsE l := by unfold ovE; rw [if_pos he]
            have e2 : ovT l = .agg [I 0, I 0, I 0] := by unfold ovT; rw [e1, if_pos he]
            rw [e1, e2] at g1
            generalize sgsE l = E at *
            clear hc HB e1 e2
            repeat' (first | (with_reducible first | refine vseq ?_ | refine vthenN ?_ | refine vthenE ?_ | refine vret ?_ | refine vskip ?_ | refine vexit ?_ | refine vblockH ?_ | refine vrun_nil ?_ | refine vregion [39] ?_) | ((with_reducible refine vcondF ?_ ?_); (focus (go_simp; done))) | ((with_reducible refine vrun_cons fun KK hKK => ?_); go_simp; (first | (refine ⟨_, ⟨g1, rfl⟩, ?_⟩) | (with_reducible refine ⟨_, g2, ?_⟩) | skip); refine hKK _ ?_; clear hKK KK))
            go_simp)
  · have h3 : (202 : Int) < (l.length : Int) := by omega
    have h4 : ¬ (l.length : Int) ≤ 200 := by omega
    have h5 : (20 : Int) < (l.length : Int) := by omega
    clear h1 hl
    refine VC_of Tryz.func4 rfl (by kernel_rfl) (by kernel_rfl) rfl fun M0 w0 => ?_
    simp only [Tryz.ntmps4, Tryz.results4, enumA]
    repeat' (first | (with_reducible first | refine vseq ?_ | refine vthenN ?_ | refine vthenR ?_ | refine vret ?_ | refine vskip ?_ | refine vrun_nil ?_ | refine vregion [] ?_) | ((with_reducible refine vcondT ?_ ?_); (focus (go_simp; done))) | ((with_reducible refine vcondF ?_ ?_); (focus (go_simp; done))) | ((with_reducible refine vrun_cons fun KK hKK => ?_); go_simp; (first | (with_reducible refine ⟨_, ha, ?_⟩) | skip); refine hKK _ ?_; clear hKK KK))
    go_simp
end Go.Proofs.YtoibondihdhnoaaGreatDoor
