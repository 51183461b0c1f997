/- Texts in one: Walks: lists that are the same; of every length up to a million. -/
import Derived.Test.YtoibondihdhnoaaGreatDoorFR45
import Derived.Test.YtoibondihdhnoaaGreatDoorFR41
/-! R10: Walks: lists that are the same; of every length up to a million. -/
namespace Go.Proofs.YtoibondihdhnoaaGreatDoor
open Go.RowKit
set_option maxRecDepth 100000
set_option maxHeartbeats 2000000
theorem s_SameWaits (l : List Wt) (hl : l.length ≤ 1000000) : VC Tryz.prog 43 [.sl 3 (l.map Wt.av), .sl 3 (l.map Wt.av)] (B true) := by
  refine VC_of Tryz.func43 rfl (by kernel_rfl) (by kernel_rfl) rfl fun M0 w0 => ?_
  simp only [Tryz.ntmps43, Tryz.results43, enumA]
  repeat' (first | (with_reducible first | refine vseq ?_ | refine vthenN ?_ | refine vskip ?_ | refine vblock ?_ | refine vrun_nil ?_ | refine vregion [] ?_) | ((with_reducible refine vcondF ?_ ?_); (focus (go_simp; done))) | ((with_reducible refine vrun_cons fun KK hKK => ?_); go_simp; refine hKK _ ?_; clear hKK KK))
  apply vfor [0, 1] (fun k => [(5, I k)]) (fun k => ([] : Hp)) (fun _ => false) (l.length)
  · go_simp <;> exact rfl
  · go_simp
  · intro k hk HB HP K hK
    obtain ⟨w1, w2, w3, w4, w5, w6⟩ := ixs (m := k) (by omega)
    repeat' (first | (with_reducible first | refine vseq ?_ | refine vthenN ?_ | refine vskip ?_ | refine vblock ?_ | refine vblockN ?_ | refine vrun_nil ?_ | refine vregion [] ?_ | refine vhrun_nil ?_) | ((with_reducible refine vcondT ?_ ?_); (focus (go_simp; done))) | ((with_reducible refine vcondF ?_ ?_); (focus (go_simp; done))) | ((with_reducible first | refine vrun_cons fun KK hKK => ?_ | refine vhrun_cons fun KK hKK => ?_); go_simp; refine hKK _ ?_; clear hKK KK) | ((refine vdrawL 9 9 [] rfl (by kernel_rfl) (by kernel_rfl) ?_); simp only [List.take, List.drop]))
    refine hK _ ?_
    go_simp
  · intro k hk HB HP K
    exact absurd HP.out (by simp)
  · intro HB K
    repeat' (first | (with_reducible first | refine vseq ?_ | refine vthenN ?_ | refine vthenE ?_ | refine vret ?_ | refine vexit ?_ | refine vblockH ?_ | refine vrun_nil ?_ | refine vregion [] ?_) | ((with_reducible refine vcondF ?_ ?_); (focus (go_simp; done))) | ((with_reducible refine vrun_cons fun KK hKK => ?_); go_simp; refine hKK _ ?_; clear hKK KK))
    go_simp
end Go.Proofs.YtoibondihdhnoaaGreatDoor

/-! R11: Walks: copies; of every length up to a million. -/
namespace Go.Proofs.YtoibondihdhnoaaGreatDoor
open Go.RowKit
set_option maxRecDepth 100000
set_option maxHeartbeats 2000000
theorem v_CopyRules (r : Ru) (hl : r.ranks.length ≤ 1000000) : VC Tryz.prog 22 [rulesA r] (rulesA r) := by
  have hl2 : r.ranks.length ≤ 1000000000 := by omega
  refine VC_of Tryz.func22 rfl (by kernel_rfl) (by kernel_rfl) rfl fun M0 w0 => ?_
  simp only [Tryz.ntmps22, Tryz.results22, enumA]
  repeat' (with_reducible refine vseq ?_)
  refine vregion [1] ?_
  repeat' (first | (with_reducible first | refine vseq ?_ | refine vthenN ?_ | refine vrun_nil ?_) | ((with_reducible refine vrun_cons fun KK hKK => ?_); go_simp; refine hKK _ ?_; clear hKK KK))
  refine vregion [3] ?_
  repeat' (first | (with_reducible first | refine vseq ?_ | refine vthenN ?_ | refine vrun_nil ?_) | ((with_reducible refine vrun_cons fun KK hKK => ?_); go_simp; refine hKK _ ?_; clear hKK KK))
  refine vfreezeIn 0 0 2 rfl rfl rfl ?_
  repeat' (first | (with_reducible first | refine vthenN ?_ | refine vret ?_ | refine vrun_nil ?_ | refine vregion [] ?_) | ((with_reducible refine vrun_cons fun KK hKK => ?_); go_simp; refine hKK _ ?_; clear hKK KK))
  go_simp
theorem s_Texts (l : List ByteArray) (hl : l.length ≤ 1000000) : VC Tryz.prog 78 [txtsA l, txtsA l] (B true) := by
  refine VC_of Tryz.func78 rfl (by kernel_rfl) (by kernel_rfl) rfl fun M0 w0 => ?_
  simp only [Tryz.ntmps78, Tryz.results78, enumA]
  repeat' (first | (with_reducible first | refine vseq ?_ | refine vthenN ?_ | refine vskip ?_ | refine vblock ?_ | refine vrun_nil ?_ | refine vregion [] ?_) | ((with_reducible refine vcondF ?_ ?_); (focus (go_simp; done))) | ((with_reducible refine vrun_cons fun KK hKK => ?_); go_simp; refine hKK _ ?_; clear hKK KK))
  apply vfor [0, 1] (fun k => [(5, I k)]) (fun k => ([] : Hp)) (fun _ => false) (l.length)
  · go_simp <;> exact rfl
  · go_simp
  · intro k hk HB HP K hK
    obtain ⟨w1, w2, w3, w4, w5, w6⟩ := ixs (m := k) (by omega)
    repeat' (first | (with_reducible first | refine vseq ?_ | refine vthenN ?_ | refine vskip ?_ | refine vblock ?_ | refine vblockN ?_ | refine vrun_nil ?_ | refine vregion [] ?_ | refine vhrun_nil ?_) | ((with_reducible refine vcondT ?_ ?_); (focus (go_simp; done))) | ((with_reducible refine vcondF ?_ ?_); (focus (go_simp; done))) | ((with_reducible first | refine vrun_cons fun KK hKK => ?_ | refine vhrun_cons fun KK hKK => ?_); go_simp; refine hKK _ ?_; clear hKK KK) | ((refine vdrawL 9 9 [] rfl (by kernel_rfl) (by kernel_rfl) ?_); simp only [List.take, List.drop]))
    refine hK _ ?_
    go_simp
  · intro k hk HB HP K
    exact absurd HP.out (by simp)
  · intro HB K
    repeat' (first | (with_reducible first | refine vseq ?_ | refine vthenN ?_ | refine vthenE ?_ | refine vret ?_ | refine vexit ?_ | refine vblockH ?_ | refine vrun_nil ?_ | refine vregion [] ?_) | ((with_reducible refine vcondF ?_ ?_); (focus (go_simp; done))) | ((with_reducible refine vrun_cons fun KK hKK => ?_); go_simp; refine hKK _ ?_; clear hKK KK))
    go_simp
theorem s_Same (s : St) (h : SmallS s) : VC Tryz.prog 25 [stateA s, stateA s] (B true) := by
  have hq := h.q1
  have hnq := h.nq
  have hnt := h.nt
  have HQ := Lib.hid hq
  clear hq h
  refine VC_of Tryz.func25 rfl (by kernel_rfl) (by kernel_rfl) rfl fun M0 w0 => ?_
  simp only [Tryz.ntmps25, Tryz.results25, enumA]
  repeat' (first | (with_reducible first | refine vseq ?_ | refine vthenN ?_ | refine vskip ?_ | refine vblock ?_ | refine vrun_nil ?_ | refine vregion [] ?_) | ((with_reducible refine vcondF ?_ ?_); (focus (go_simp; done))) | ((with_reducible refine vrun_cons fun KK hKK => ?_); go_simp; refine hKK _ ?_; clear hKK KK))
  apply vfor [2, 3] (fun k => [(5, I k)]) (fun k => ([] : Hp)) (fun _ => false) (s.q.length)
  · go_simp <;> exact rfl
  · go_simp
  · intro k hk HB HP K hK
    obtain ⟨w1, w2, w3, w4, w5, w6⟩ := ixs (m := k) (by omega)
    have g := s_Texts (qat s.q k) (by rw [qat_get hk]; have := (HQ.out _ (List.getElem_mem hk)).1; omega)
    repeat' (first | (with_reducible first | refine vseq ?_ | refine vthenN ?_ | refine vskip ?_ | refine vblock ?_ | refine vblockN ?_ | refine vrun_nil ?_ | refine vregion [] ?_ | refine vhrun_nil ?_) | ((with_reducible refine vcondT ?_ ?_); (focus (go_simp; done))) | ((with_reducible refine vcondF ?_ ?_); (focus (go_simp; done))) | ((with_reducible first | refine vrun_cons fun KK hKK => ?_ | refine vhrun_cons fun KK hKK => ?_); go_simp; (first | (with_reducible refine ⟨_, g, ?_⟩) | skip); refine hKK _ ?_; clear hKK KK) | ((refine vdrawL 12 12 [] rfl (by kernel_rfl) (by kernel_rfl) ?_); simp only [List.take, List.drop]))
    refine hK _ ?_
    go_simp
  · intro k hk HB HP K
    exact absurd HP.out (by simp)
  · intro HB K
    repeat' (first | (with_reducible first | refine vseq ?_ | refine vthenN ?_ | refine vthenE ?_ | refine vexit ?_ | refine vblock ?_ | refine vblockH ?_ | refine vrun_nil ?_ | refine vregion [] ?_) | ((with_reducible refine vcondF ?_ ?_); (focus (go_simp; done))) | ((with_reducible refine vrun_cons fun KK hKK => ?_); go_simp; refine hKK _ ?_; clear hKK KK))
    apply vfor [2, 3] (fun k => [(6, I k)]) (fun k => ([] : Hp)) (fun _ => false) (s.tk.length)
    · go_simp <;> exact rfl
    · go_simp
    · intro k hk HB HP K hK
      obtain ⟨w1, w2, w3, w4, w5, w6⟩ := ixs (m := k) (by omega)
      repeat' (first | (with_reducible first | refine vseq ?_ | refine vthenN ?_ | refine vskip ?_ | refine vblock ?_ | refine vblockN ?_ | refine vrun_nil ?_ | refine vregion [] ?_ | refine vhrun_nil ?_) | ((with_reducible refine vcondT ?_ ?_); (focus (go_simp; done))) | ((with_reducible refine vcondF ?_ ?_); (focus (go_simp; done))) | ((with_reducible first | refine vrun_cons fun KK hKK => ?_ | refine vhrun_cons fun KK hKK => ?_); go_simp; refine hKK _ ?_; clear hKK KK) | ((refine vdrawL 11 11 [] rfl (by kernel_rfl) (by kernel_rfl) ?_); simp only [List.take, List.drop]))
      refine hK _ ?_
      go_simp
    · intro k hk HB HP K
      exact absurd HP.out (by simp)
    · intro HB K
      repeat' (first | (with_reducible first | refine vseq ?_ | refine vthenN ?_ | refine vthenE ?_ | refine vret ?_ | refine vexit ?_ | refine vblockH ?_ | refine vrun_nil ?_ | refine vregion [] ?_) | ((with_reducible refine vcondF ?_ ?_); (focus (go_simp; done))) | ((with_reducible refine vrun_cons fun KK hKK => ?_); go_simp; refine hKK _ ?_; clear hKK KK))
      go_simp
end Go.Proofs.YtoibondihdhnoaaGreatDoor

/-! R12: Walks: the examples of the document. -/
namespace Go.Proofs.YtoibondihdhnoaaGreatDoor
open Go.RowKit
set_option maxRecDepth 100000
set_option maxHeartbeats 2000000
def standR : Ru := ⟨[⟨⟨#[115, 116, 97, 110, 100]⟩, 2, 1, false⟩, ⟨⟨#[102, 101, 101, 100, 101, 114]⟩, 3, -1, false⟩], 1, 60⟩
def mornL : List Ev := [⟨0, 0, 0, ⟨#[97]⟩⟩, ⟨0, 5, 0, ⟨#[98]⟩⟩, ⟨0, 9, 1, ⟨#[99]⟩⟩, ⟨1, 20, 0, ⟨#[97]⟩⟩]
def mornS : St := ⟨[[⟨#[98]⟩, ⟨#[99]⟩], []], [⟨⟨#[97]⟩, 0, 20⟩], 20⟩
theorem v_Stand : VC Tryz.prog 83 [] (rulesA standR) := by
  unfold standR
  refine VC_of Tryz.func83 rfl (by kernel_rfl) (by kernel_rfl) rfl fun M0 w0 => ?_
  simp only [Tryz.ntmps83, Tryz.results83, enumA]
  repeat' (first | (with_reducible first | refine vseq ?_ | refine vthenN ?_ | refine vret ?_ | refine vrun_nil ?_ | refine vregion [] ?_) | ((with_reducible refine vrun_cons fun KK hKK => ?_); go_simp; refine hKK _ ?_; clear hKK KK))
  go_simp
theorem v_Morning : VC Tryz.prog 84 [] (evsA mornL) := by
  unfold mornL
  refine VC_of Tryz.func84 rfl (by kernel_rfl) (by kernel_rfl) rfl fun M0 w0 => ?_
  simp only [Tryz.ntmps84, Tryz.results84, enumA]
  repeat' (first | (with_reducible first | refine vseq ?_ | refine vthenN ?_ | refine vret ?_ | refine vrun_nil ?_ | refine vregion [] ?_) | ((with_reducible refine vrun_cons fun KK hKK => ?_); go_simp; refine hKK _ ?_; clear hKK KK))
  go_simp
theorem morn_rep : repR standR mornL = (mornS, 0, 0) := by kernel_rfl
theorem morn_err : errL standR mornL = 0 := by kernel_rfl
theorem morn_wait : waitD mornL 0 mornL = [⟨⟨#[97]⟩, 0, 20⟩] := by kernel_rfl
theorem morn_sight : (sightR standR mornL).2 = 0 ∧ (sightR standR mornL).1.length = 6 := ⟨by kernel_rfl, by kernel_rfl⟩
def seenL : List Sg := [⟨0, 0, ⟨#[97]⟩⟩, ⟨0, 0, ⟨#[98]⟩⟩, ⟨1, 0, ⟨#[98]⟩⟩]
theorem seen_t : ovT seenL = .agg [I 0, I 1, I 2] := by kernel_rfl
theorem seen_e : ovE seenL = 0 := by kernel_rfl
def callT : ByteArray := ⟨#[99, 97, 108, 108, 32, 50, 48, 32, 48, 32, 45]⟩
theorem call_p : evP (pieces 32 callT) = (⟨4, 20, 0, ⟨#[]⟩⟩, 0) := by kernel_rfl
theorem morn_text : stText mornS = ⟨#[50, 48, 124, 98, 32, 99, 124, 124, 97, 58, 48, 58, 50, 48]⟩ := by kernel_rfl
theorem small_morn : SmallL standR mornL := ⟨by decide, fun k hk => by
  have h2 : k < 2 := hk
  rcases k with _ | _ | k
  · decide
  · decide
  · omega, fun x hx => by
  simp only [mornL, List.mem_cons, List.not_mem_nil, or_false] at hx
  rcases hx with rfl | rfl | rfl | rfl <;> decide⟩
theorem small_mornS : SmallS mornS := by
  refine ⟨by decide, fun l hl => ?_, by decide, fun t ht => ?_, by unfold i64; decide⟩
  · simp only [mornS, List.mem_cons, List.not_mem_nil, or_false] at hl
    rcases hl with rfl | rfl
    · refine ⟨by decide, fun c hc => ?_⟩
      simp only [List.mem_cons, List.not_mem_nil, or_false] at hc
      rcases hc with rfl | rfl <;> decide
    · exact ⟨by decide, fun c hc => by simp at hc⟩
  · simp only [mornS, List.mem_cons, List.not_mem_nil, or_false] at ht
    subst ht
    unfold i64
    decide
theorem l_awake : VC Tryz.prog 18 [] (B true) := by
  have g1 := v_Stand
  have g2 := v_Morning
  have g3 := p_Replay standR mornL small_morn
  have g4 := p_Waits standR mornL small_morn
  have g5 := p_Overtaken seenL (by decide) (fun k hk => by
    have h2 : k < 3 := hk
    rcases k with _ | _ | _ | k
    · decide
    · decide
    · decide
    · omega)
  have g6 := p_ParseEvent callT (by decide)
  have g7 := p_SightingsOf standR mornL small_morn
  have g8 := p_FormatState mornS small_mornS
  have g9 := s_SameWaits [⟨⟨#[97]⟩, 0, 20⟩] (by decide)
  obtain ⟨m1, m2⟩ := morn_sight
  rw [morn_rep] at g3
  rw [morn_err, if_pos rfl, morn_wait] at g4
  rw [seen_t, seen_e] at g5
  rw [call_p] at g6
  rw [m1] at g7
  rw [morn_text] at g8
  generalize (sightR standR mornL).1 = L at *
  have m3 : (L.length : Int) = 6 := by omega
  clear m1 m2
  generalize standR = R0 at *
  generalize hM : mornL = M at *
  clear hM
  generalize hS : mornS = S0 at *
  clear hS
  unfold seenL at g5
  unfold callT at g6
  simp only [rulesA, evsA, stateA, sgsA, evA, List.map_cons, List.map_nil, Sg.av, Wt.av] at g1 g2 g3 g4 g5 g6 g7 g8 g9
  refine VC_of Tryz.func18 rfl (by kernel_rfl) (by kernel_rfl) rfl fun M0 w0 => ?_
  simp only [Tryz.ntmps18, Tryz.results18, enumA]
  repeat' (first | (with_reducible first | refine vseq ?_ | refine vthenN ?_ | refine vret ?_ | refine vrun_nil ?_ | refine vregion [] ?_) | ((with_reducible refine vrun_cons fun KK hKK => ?_); go_simp; (first | (with_reducible refine ⟨_, g1, ?_⟩) | (with_reducible refine ⟨_, g2, ?_⟩) | (with_reducible refine ⟨_, g3, ?_⟩) | (with_reducible refine ⟨_, g4, ?_⟩) | (with_reducible refine ⟨_, g5, ?_⟩) | (with_reducible refine ⟨_, g6, ?_⟩) | (with_reducible refine ⟨_, g7, ?_⟩) | (with_reducible refine ⟨_, g8, ?_⟩) | (with_reducible refine ⟨_, g9, ?_⟩) | skip); refine hKK _ ?_; clear hKK KK))
  go_simp
end Go.Proofs.YtoibondihdhnoaaGreatDoor

/-! R15: Walks: rules and events, as the reference has them. -/
namespace Go.Proofs.YtoibondihdhnoaaGreatDoor
open Go.RowKit
set_option maxRecDepth 100000
set_option maxHeartbeats 2000000
theorem r_HasRank (r : Ru) (n : Int) (hn : r.ranks.length ≤ 1000000) : VC Tryz.prog 33 [rulesA r, I n] (B (inR n 0 ((r.ranks.length : Int) - 1))) := by
  have i1 := b_within n 0 ((r.ranks.length : Int) - 1)
  have hw : IntKind.i64.wrap ((r.ranks.length : Int) - 1) = (r.ranks.length : Int) - 1 := wrap_eq (by omega) (by omega)
  generalize inR n 0 ((r.ranks.length : Int) - 1) = D at *
  refine VC_of Tryz.func33 rfl (by kernel_rfl) (by kernel_rfl) rfl fun M0 w0 => ?_
  simp only [Tryz.ntmps33, Tryz.results33, enumA]
  repeat' (first | (with_reducible first | refine vseq ?_ | refine vthenN ?_ | refine vret ?_ | refine vrun_nil ?_ | refine vregion [] ?_) | ((with_reducible refine vrun_cons fun KK hKK => ?_); go_simp; (first | (with_reducible refine ⟨_, i1, ?_⟩) | skip); refine hKK _ ?_; clear hKK KK))
  go_simp
theorem r_rankErr (r : Ru) (i : Nat) (hi : i < r.ranks.length) (hn : r.ranks.length ≤ 1000000) (hnm : (rat r.ranks i).name.size ≤ 1000) : VC Tryz.prog 101 [rulesA r, I (i : Int)] (I (rkE r i)) := by
  obtain ⟨E, hE⟩ : ∃ E, rkE r i = E := ⟨_, rfl⟩
  rw [hE]
  have i1 := b_isName (rat r.ranks i).name (by omega)
  have i2 := b_within (rat r.ranks i).places 1 12
  have i3 := r_HasRank r (rat r.ranks i).feeder hn
  have HE := Lib.hid hE
  clear hE hnm
  obtain ⟨w1, w2, w3, w4, w5, w6⟩ := ixs (m := i) (by omega)
  cases hD1 : isName (rat r.ranks i).name
  · have e : rkE r i = 4 := by simp [rkE, fst, unl, hD1]
    rw [HE.out] at e
    rw [hD1] at i1
    subst e
    refine VC_of Tryz.func101 rfl (by kernel_rfl) (by kernel_rfl) rfl fun M0 w0 => ?_
    simp only [Tryz.ntmps101, Tryz.results101, enumA]
    repeat' (first | (with_reducible first | refine vseq ?_ | refine vthenN ?_ | refine vthenR ?_ | refine vret ?_ | refine vrun_nil ?_ | refine vregion [] ?_) | ((with_reducible refine vcondT ?_ ?_); (focus (go_simp; done))) | ((with_reducible refine vrun_cons fun KK hKK => ?_); go_simp; (first | (with_reducible refine ⟨_, i1, ?_⟩) | skip); refine hKK _ ?_; clear hKK KK))
    go_simp
  rw [hD1] at i1
  refine VC_of Tryz.func101 rfl (by kernel_rfl) (by kernel_rfl) rfl fun M0 w0 => ?_
  simp only [Tryz.ntmps101, Tryz.results101, enumA]
  repeat' (first | (with_reducible first | refine vseq ?_ | refine vthenN ?_ | refine vskip ?_ | refine vblock ?_ | refine vrun_nil ?_ | refine vregion [] ?_) | ((with_reducible refine vcondF ?_ ?_); (focus (go_simp; done))) | ((with_reducible refine vrun_cons fun KK hKK => ?_); go_simp; (first | (with_reducible refine ⟨_, i1, ?_⟩) | skip); refine hKK _ ?_; clear hKK KK))
  apply vfor [1, 2, 5] (fun k => [(6, I k)]) (fun k => ([some (.box [S (rat r.ranks i).name, I (rat r.ranks i).places, I (rat r.ranks i).feeder, B (rat r.ranks i).called])] : Hp)) (fun k => decide ((rat r.ranks k).name = (rat r.ranks i).name)) (i)
  · go_simp <;> exact rfl
  · go_simp
  · intro k hk HB HP K hK
    obtain ⟨x1, x2, x3, x4, x5, x6⟩ := ixs (m := k) (by omega)
    have hkn : k < r.ranks.length := by omega
    have hp : ¬ (rat r.ranks k).name = (rat r.ranks i).name := of_decide_eq_false HP.out
    repeat' (first | (with_reducible first | refine vseq ?_ | refine vthenN ?_ | refine vskip ?_ | refine vblock ?_ | refine vblockN ?_ | refine vrun_nil ?_ | refine vregion [] ?_ | refine vhrun_nil ?_) | ((with_reducible refine vcondT ?_ ?_); (focus (go_simp; done))) | ((with_reducible refine vcondF ?_ ?_); (focus (go_simp; done))) | ((with_reducible first | refine vrun_cons fun KK hKK => ?_ | refine vhrun_cons fun KK hKK => ?_); go_simp; refine hKK _ ?_; clear hKK KK) | ((refine vdrawL 9 9 [] rfl (by kernel_rfl) (by kernel_rfl) ?_); simp only [List.take, List.drop]))
    refine hK _ ?_
    go_simp
  · intro k hk HB HP K
    obtain ⟨x1, x2, x3, x4, x5, x6⟩ := ixs (m := k) (by omega)
    have hkn : k < r.ranks.length := by omega
    have hp : (rat r.ranks k).name = (rat r.ranks i).name := of_decide_eq_true HP.out
    have hA : aheadN r i = true := anyP_hit hk HP.out
    have e : rkE r i = 5 := by simp [rkE, fst, unl, hD1, hA]
    rw [HE.out] at e
    subst e
    repeat' (first | (with_reducible first | refine vseq ?_ | refine vthenN ?_ | refine vthenR ?_ | refine vret ?_ | refine vskip ?_ | refine vblock ?_ | refine vblockR ?_ | refine vrun_nil ?_ | refine vregion [] ?_ | refine vhrun_nil ?_) | ((with_reducible refine vcondT ?_ ?_); (focus (go_simp; done))) | ((with_reducible first | refine vrun_cons fun KK hKK => ?_ | refine vhrun_cons fun KK hKK => ?_); go_simp; refine hKK _ ?_; clear hKK KK) | ((refine vdrawL 9 9 [] rfl (by kernel_rfl) (by kernel_rfl) ?_); simp only [List.take, List.drop]))
    go_simp
  · intro HB K
    have hA : aheadN r i = false := anyP_out HB.out
    cases hD2 : inR (rat r.ranks i).places 1 12
    · have e : rkE r i = 2 := by simp [rkE, fst, unl, hD1, hA, hD2]
      rw [HE.out] at e
      rw [hD2] at i2
      subst e
      repeat' (first | (with_reducible first | refine vseq ?_ | refine vthenN ?_ | refine vthenE ?_ | refine vthenR ?_ | refine vret ?_ | refine vexit ?_ | refine vblockH ?_ | refine vrun_nil ?_ | refine vregion [] ?_) | ((with_reducible refine vcondT ?_ ?_); (focus (go_simp; done))) | ((with_reducible refine vcondF ?_ ?_); (focus (go_simp; done))) | ((with_reducible refine vrun_cons fun KK hKK => ?_); go_simp; (first | (with_reducible refine ⟨_, i2, ?_⟩) | skip); refine hKK _ ?_; clear hKK KK))
      go_simp
    rw [hD2] at i2
    by_cases hF : (rat r.ranks i).feeder = -1
    · have hfb : feedsB r i = false := by simp [feedsB, hF]
      cases hC : (rat r.ranks i).called
      · have e : rkE r i = 0 := by simp [rkE, fst, unl, hD1, hA, hD2, hfb, hC]
        rw [HE.out] at e
        subst e
        repeat' (first | (with_reducible first | refine vseq ?_ | refine vthenN ?_ | refine vthenE ?_ | refine vthenR ?_ | refine vret ?_ | refine vskip ?_ | refine vexit ?_ | refine vblockH ?_ | refine vrun_nil ?_ | refine vregion [] ?_) | ((with_reducible refine vcondT ?_ ?_); (focus (go_simp; done))) | ((with_reducible refine vcondF ?_ ?_); (focus (go_simp; done))) | ((with_reducible refine vrun_cons fun KK hKK => ?_); go_simp; (first | (with_reducible refine ⟨_, i2, ?_⟩) | skip); refine hKK _ ?_; clear hKK KK))
        go_simp
      · have e : rkE r i = 3 := by simp [rkE, fst, unl, hD1, hA, hD2, hfb, hC]
        rw [HE.out] at e
        subst e
        repeat' (first | (with_reducible first | refine vseq ?_ | refine vthenN ?_ | refine vthenE ?_ | refine vthenR ?_ | refine vret ?_ | refine vskip ?_ | refine vexit ?_ | refine vblockH ?_ | refine vrun_nil ?_ | refine vregion [] ?_) | ((with_reducible refine vcondT ?_ ?_); (focus (go_simp; done))) | ((with_reducible refine vcondF ?_ ?_); (focus (go_simp; done))) | ((with_reducible refine vrun_cons fun KK hKK => ?_); go_simp; (first | (with_reducible refine ⟨_, i2, ?_⟩) | skip); refine hKK _ ?_; clear hKK KK))
        go_simp
    have hfb : feedsB r i = true := by simp [feedsB, hF]
    cases hD3 : inR (rat r.ranks i).feeder 0 ((r.ranks.length : Int) - 1)
    · have e : rkE r i = 6 := by simp [rkE, fst, unl, hD1, hA, hD2, hfb, hD3]
      rw [HE.out] at e
      rw [hD3] at i3
      subst e
      repeat' (first | (with_reducible first | refine vseq ?_ | refine vthenN ?_ | refine vthenE ?_ | refine vthenR ?_ | refine vret ?_ | refine vskip ?_ | refine vexit ?_ | refine vblockH ?_ | refine vrun_nil ?_ | refine vregion [] ?_) | ((with_reducible refine vcondT ?_ ?_); (focus (go_simp; done))) | ((with_reducible refine vcondF ?_ ?_); (focus (go_simp; done))) | ((with_reducible refine vrun_cons fun KK hKK => ?_); go_simp; (first | (with_reducible refine ⟨_, i2, ?_⟩) | (refine ⟨_, i3, ?_⟩) | skip); refine hKK _ ?_; clear hKK KK))
      go_simp
    rw [hD3] at i3
    by_cases hO : (i : Int) < (rat r.ranks i).feeder
    · have hO2 : ¬ (rat r.ranks i).feeder ≤ (i : Int) := by omega
      repeat' (first | (with_reducible first | refine vseq ?_ | refine vthenN ?_ | refine vthenE ?_ | refine vskip ?_ | refine vexit ?_ | refine vblock ?_ | refine vblockH ?_ | refine vrun_nil ?_ | refine vregion [] ?_) | ((with_reducible refine vcondF ?_ ?_); (focus (go_simp; done))) | ((with_reducible refine vrun_cons fun KK hKK => ?_); go_simp; (first | (with_reducible refine ⟨_, i2, ?_⟩) | (refine ⟨_, i3, ?_⟩) | skip); refine hKK _ ?_; clear hKK KK))
      apply vfor [1, 2, 5] (fun k => [(7, I k)]) (fun k => ([some (.box [S (rat r.ranks i).name, I (rat r.ranks i).places, I (rat r.ranks i).feeder, B (rat r.ranks i).called])] : Hp)) (fun k => decide ((rat r.ranks k).feeder = (rat r.ranks i).feeder)) (i)
      · go_simp <;> exact rfl
      · go_simp
      · intro k hk HB HP K hK
        obtain ⟨x1, x2, x3, x4, x5, x6⟩ := ixs (m := k) (by omega)
        have hkn : k < r.ranks.length := by omega
        have hp : ¬ (rat r.ranks k).feeder = (rat r.ranks i).feeder := of_decide_eq_false HP.out
        repeat' (first | (with_reducible first | refine vseq ?_ | refine vthenN ?_ | refine vskip ?_ | refine vblock ?_ | refine vblockN ?_ | refine vrun_nil ?_ | refine vregion [] ?_ | refine vhrun_nil ?_) | ((with_reducible refine vcondT ?_ ?_); (focus (go_simp; done))) | ((with_reducible refine vcondF ?_ ?_); (focus (go_simp; done))) | ((with_reducible first | refine vrun_cons fun KK hKK => ?_ | refine vhrun_cons fun KK hKK => ?_); go_simp; refine hKK _ ?_; clear hKK KK) | ((refine vdrawL 9 9 [] rfl (by kernel_rfl) (by kernel_rfl) ?_); simp only [List.take, List.drop]))
        refine hK _ ?_
        go_simp
      · intro k hk HB HP K
        obtain ⟨x1, x2, x3, x4, x5, x6⟩ := ixs (m := k) (by omega)
        have hkn : k < r.ranks.length := by omega
        have hp : (rat r.ranks k).feeder = (rat r.ranks i).feeder := of_decide_eq_true HP.out
        have hB : aheadF r i = true := anyP_hit hk HP.out
        have e : rkE r i = 26 := by simp [rkE, fst, unl, hD1, hA, hD2, hfb, hD3, hO, hB]
        rw [HE.out] at e
        subst e
        repeat' (first | (with_reducible first | refine vseq ?_ | refine vthenN ?_ | refine vthenR ?_ | refine vret ?_ | refine vskip ?_ | refine vblock ?_ | refine vblockR ?_ | refine vrun_nil ?_ | refine vregion [] ?_ | refine vhrun_nil ?_) | ((with_reducible refine vcondT ?_ ?_); (focus (go_simp; done))) | ((with_reducible first | refine vrun_cons fun KK hKK => ?_ | refine vhrun_cons fun KK hKK => ?_); go_simp; refine hKK _ ?_; clear hKK KK) | ((refine vdrawL 9 9 [] rfl (by kernel_rfl) (by kernel_rfl) ?_); simp only [List.take, List.drop]))
        go_simp
      · intro HB K
        have hB : aheadF r i = false := anyP_out HB.out
        have e : rkE r i = 0 := by simp [rkE, fst, unl, hD1, hA, hD2, hfb, hD3, hO, hB]
        rw [HE.out] at e
        subst e
        repeat' (first | (with_reducible first | refine vseq ?_ | refine vthenN ?_ | refine vthenE ?_ | refine vret ?_ | refine vexit ?_ | refine vblockH ?_ | refine vrun_nil ?_ | refine vregion [] ?_) | ((with_reducible refine vcondF ?_ ?_); (focus (go_simp; done))) | ((with_reducible refine vrun_cons fun KK hKK => ?_); go_simp; refine hKK _ ?_; clear hKK KK))
        go_simp
    · have hO2 : (rat r.ranks i).feeder ≤ (i : Int) := by omega
      have e : rkE r i = 9 := by simp [rkE, fst, unl, hD1, hA, hD2, hfb, hD3, hO]
      rw [HE.out] at e
      subst e
      repeat' (first | (with_reducible first | refine vseq ?_ | refine vthenN ?_ | refine vthenE ?_ | refine vthenR ?_ | refine vret ?_ | refine vskip ?_ | refine vexit ?_ | refine vblockH ?_ | refine vrun_nil ?_ | refine vregion [] ?_) | ((with_reducible refine vcondT ?_ ?_); (focus (go_simp; done))) | ((with_reducible refine vcondF ?_ ?_); (focus (go_simp; done))) | ((with_reducible refine vrun_cons fun KK hKK => ?_); go_simp; (first | (with_reducible refine ⟨_, i2, ?_⟩) | (refine ⟨_, i3, ?_⟩) | skip); refine hKK _ ?_; clear hKK KK))
      go_simp
theorem r_CheckRules (r : Ru) (hn : r.ranks.length ≤ 1000000) (hnm : ∀ k, k < r.ranks.length → (rat r.ranks k).name.size ≤ 1000) : VC Tryz.prog 38 [rulesA r] (.tup [I ((checkR r).1 : Int), I (checkR r).2]) := by
  unfold checkR
  by_cases h0 : r.ranks.length = 0
  · rw [if_pos h0]
    have h0' : (r.ranks.length : Int) = 0 := by omega
    refine VC_of Tryz.func38 rfl (by kernel_rfl) (by kernel_rfl) rfl fun M0 w0 => ?_
    simp only [Tryz.ntmps38, Tryz.results38, enumA]
    repeat' (first | (with_reducible first | refine vseq ?_ | refine vthenN ?_ | refine vthenR ?_ | refine vret ?_ | refine vrun_nil ?_ | refine vregion [] ?_) | ((with_reducible refine vcondT ?_ ?_); (focus (go_simp; done))) | ((with_reducible refine vrun_cons fun KK hKK => ?_); go_simp; refine hKK _ ?_; clear hKK KK))
    go_simp
  rw [if_neg h0]
  have h0' : ¬ r.ranks = [] := fun h => h0 (by rw [h]; rfl)
  by_cases h6 : 6 < r.ranks.length
  · rw [if_pos h6]
    have h6' : (6 : Int) < (r.ranks.length : Int) := by omega
    refine VC_of Tryz.func38 rfl (by kernel_rfl) (by kernel_rfl) rfl fun M0 w0 => ?_
    simp only [Tryz.ntmps38, Tryz.results38, enumA]
    repeat' (first | (with_reducible first | refine vseq ?_ | refine vthenN ?_ | refine vthenR ?_ | refine vret ?_ | refine vskip ?_ | refine vrun_nil ?_ | refine vregion [] ?_) | ((with_reducible refine vcondT ?_ ?_); (focus (go_simp; done))) | ((with_reducible refine vcondF ?_ ?_); (focus (go_simp; done))) | ((with_reducible refine vrun_cons fun KK hKK => ?_); go_simp; refine hKK _ ?_; clear hKK KK))
    go_simp
  rw [if_neg h6]
  have h6' : ¬ (6 : Int) < (r.ranks.length : Int) := by omega
  obtain ⟨R, hR⟩ : ∃ R, (if (firstErr (rkE r) 0 r.ranks.length).2 ≠ 0 then firstErr (rkE r) 0 r.ranks.length else (0, endE r)) = R := ⟨_, rfl⟩
  rw [hR]
  have HR := Lib.hid hR
  have HM := Lib.hid hnm
  have i1 := b_within r.back 0 12
  have i2 := b_within r.ret 0 3600
  clear hR hnm h0 h6
  refine VC_of Tryz.func38 rfl (by kernel_rfl) (by kernel_rfl) rfl fun M0 w0 => ?_
  simp only [Tryz.ntmps38, Tryz.results38, enumA]
  repeat' (first | (with_reducible first | refine vseq ?_ | refine vthenN ?_ | refine vskip ?_ | refine vblock ?_ | refine vrun_nil ?_ | refine vregion [] ?_) | ((with_reducible refine vcondF ?_ ?_); (focus (go_simp; done))) | ((with_reducible refine vrun_cons fun KK hKK => ?_); go_simp; refine hKK _ ?_; clear hKK KK))
  apply vfor [1] (fun k => [(4, I k)]) (fun k => ([] : Hp)) (fun k => !decide (rkE r k = 0)) (r.ranks.length)
  · go_simp <;> exact rfl
  · go_simp
  · intro k hk HB HP K hK
    obtain ⟨x1, x2, x3, x4, x5, x6⟩ := ixs (m := k) (by omega)
    have g := r_rankErr r k hk hn (HM.out k hk)
    have he : rkE r k = 0 := by simpa using HP.out
    rw [he] at g
    clear he
    repeat' (first | (with_reducible first | refine vseq ?_ | refine vthenN ?_ | refine vskip ?_ | refine vblock ?_ | refine vblockN ?_ | refine vrun_nil ?_ | refine vregion [] ?_) | ((with_reducible refine vcondT ?_ ?_); (focus (go_simp; done))) | ((with_reducible refine vcondF ?_ ?_); (focus (go_simp; done))) | ((with_reducible refine vrun_cons fun KK hKK => ?_); go_simp; (first | (refine ⟨_, g, ?_⟩) | skip); refine hKK _ ?_; clear hKK KK))
    refine hK _ ?_
    go_simp
  · intro k hk HB HP K
    obtain ⟨x1, x2, x3, x4, x5, x6⟩ := ixs (m := k) (by omega)
    have g := r_rankErr r k hk hn (HM.out k hk)
    have he : ¬ rkE r k = 0 := by simpa using HP.out
    have e := HR.out
    rw [firstErr_hit hk HB.out HP.out, if_pos he] at e
    subst e
    generalize rkE r k = E at *
    repeat' (first | (with_reducible first | refine vseq ?_ | refine vthenN ?_ | refine vthenR ?_ | refine vret ?_ | refine vskip ?_ | refine vblock ?_ | refine vblockR ?_ | refine vrun_nil ?_ | refine vregion [] ?_) | ((with_reducible refine vcondT ?_ ?_); (focus (go_simp; done))) | ((with_reducible refine vrun_cons fun KK hKK => ?_); go_simp; (first | (refine ⟨_, g, ?_⟩) | skip); refine hKK _ ?_; clear hKK KK))
    go_simp
  · intro HB K
    have e := HR.out
    rw [firstErr_out _ _ (fun j hj => HB.out j (by omega)), if_neg (by simp)] at e
    subst e
    unfold endE
    by_cases hb : r.back = -1
    · cases hD2 : inR r.ret 0 3600
      · rw [hD2] at i2
        have e2 : unl ((decide (r.back = -1) || inR r.back 0 12) && false) 2 = 2 := by simp [unl]
        rw [e2]
        repeat' (first | (with_reducible first | refine vseq ?_ | refine vthenN ?_ | refine vthenE ?_ | refine vthenR ?_ | refine vret ?_ | refine vexit ?_ | refine vblockH ?_ | refine vrun_nil ?_ | refine vregion [] ?_) | ((with_reducible refine vcondT ?_ ?_); (focus (go_simp; done))) | ((with_reducible refine vcondF ?_ ?_); (focus (go_simp; done))) | ((with_reducible refine vrun_cons fun KK hKK => ?_); go_simp; (first | (with_reducible refine ⟨_, i2, ?_⟩) | skip); refine hKK _ ?_; clear hKK KK))
        go_simp
      · rw [hD2] at i2
        have e2 : unl ((decide (r.back = -1) || inR r.back 0 12) && true) 2 = 0 := by simp [unl, hb]
        rw [e2]
        repeat' (first | (with_reducible first | refine vseq ?_ | refine vthenN ?_ | refine vthenE ?_ | refine vret ?_ | refine vskip ?_ | refine vexit ?_ | refine vblockH ?_ | refine vrun_nil ?_ | refine vregion [] ?_) | ((with_reducible refine vcondF ?_ ?_); (focus (go_simp; done))) | ((with_reducible refine vrun_cons fun KK hKK => ?_); go_simp; (first | (with_reducible refine ⟨_, i2, ?_⟩) | skip); refine hKK _ ?_; clear hKK KK))
        go_simp
    · cases hD1 : inR r.back 0 12
      · rw [hD1] at i1
        have e2 : unl ((decide (r.back = -1) || false) && inR r.ret 0 3600) 2 = 2 := by simp [unl, hb]
        rw [e2]
        repeat' (first | (with_reducible first | refine vseq ?_ | refine vthenN ?_ | refine vthenE ?_ | refine vthenR ?_ | refine vret ?_ | refine vexit ?_ | refine vblockH ?_ | refine vrun_nil ?_ | refine vregion [] ?_) | ((with_reducible refine vcondT ?_ ?_); (focus (go_simp; done))) | ((with_reducible refine vcondF ?_ ?_); (focus (go_simp; done))) | ((with_reducible refine vrun_cons fun KK hKK => ?_); go_simp; (first | (with_reducible refine ⟨_, i1, ?_⟩) | skip); refine hKK _ ?_; clear hKK KK))
        go_simp
      · rw [hD1] at i1
        cases hD2 : inR r.ret 0 3600
        · rw [hD2] at i2
          have e2 : unl ((decide (r.back = -1) || true) && false) 2 = 2 := by simp [unl]
          rw [e2]
          repeat' (first | (with_reducible first | refine vseq ?_ | refine vthenN ?_ | refine vthenE ?_ | refine vthenR ?_ | refine vret ?_ | refine vexit ?_ | refine vblockH ?_ | refine vrun_nil ?_ | refine vregion [] ?_) | ((with_reducible refine vcondT ?_ ?_); (focus (go_simp; done))) | ((with_reducible refine vcondF ?_ ?_); (focus (go_simp; done))) | ((with_reducible refine vrun_cons fun KK hKK => ?_); go_simp; (first | (with_reducible refine ⟨_, i1, ?_⟩) | (with_reducible refine ⟨_, i2, ?_⟩) | skip); refine hKK _ ?_; clear hKK KK))
          go_simp
        · rw [hD2] at i2
          have e2 : unl ((decide (r.back = -1) || true) && true) 2 = 0 := by simp [unl]
          rw [e2]
          repeat' (first | (with_reducible first | refine vseq ?_ | refine vthenN ?_ | refine vthenE ?_ | refine vret ?_ | refine vskip ?_ | refine vexit ?_ | refine vblockH ?_ | refine vrun_nil ?_ | refine vregion [] ?_) | ((with_reducible refine vcondF ?_ ?_); (focus (go_simp; done))) | ((with_reducible refine vrun_cons fun KK hKK => ?_); go_simp; (first | (with_reducible refine ⟨_, i1, ?_⟩) | (with_reducible refine ⟨_, i2, ?_⟩) | skip); refine hKK _ ?_; clear hKK KK))
          go_simp
end Go.Proofs.YtoibondihdhnoaaGreatDoor

/-! R17: Walks: the sizes of rules and of logs; the error of rules. -/
namespace Go.Proofs.YtoibondihdhnoaaGreatDoor
open Go.RowKit
set_option maxRecDepth 100000
set_option maxHeartbeats 2000000
def longN (r : Ru) (k : Nat) : Bool := decide (20 < (rat r.ranks k).name.size)
def fewB (r : Ru) : Bool := decide (r.ranks.length ≤ 8) && !anyP (longN r) 0 r.ranks.length
theorem l_Few (r : Ru) (hl : r.ranks.length ≤ 9223372036854775807) : VC Tryz.prog 19 [rulesA r] (B (fewB r)) := by
  unfold fewB
  by_cases h8 : r.ranks.length ≤ 8
  · have h8' : ¬ (8 : Int) < (r.ranks.length : Int) := by omega
    obtain ⟨R, hR⟩ : ∃ R, anyP (longN r) 0 r.ranks.length = R := ⟨_, rfl⟩
    rw [decide_eq_true h8, hR]
    have HR := Lib.hid hR
    have HL := Lib.hid h8
    clear hR h8 hl
    refine VC_of Tryz.func19 rfl (by kernel_rfl) (by kernel_rfl) rfl fun M0 w0 => ?_
    simp only [Tryz.ntmps19, Tryz.results19, enumA]
    repeat' (first | (with_reducible first | refine vseq ?_ | refine vthenN ?_ | refine vskip ?_ | refine vblock ?_ | refine vrun_nil ?_ | refine vregion [] ?_) | ((with_reducible refine vcondF ?_ ?_); (focus (go_simp; done))) | ((with_reducible refine vrun_cons fun KK hKK => ?_); go_simp; refine hKK _ ?_; clear hKK KK))
    apply vfor [1] (fun k => [(3, I k)]) (fun k => ([] : Hp)) (longN r) (r.ranks.length)
    · go_simp <;> exact rfl
    · go_simp
    · intro k hk HB HP K hK
      have := HL.out
      obtain ⟨w1, w2, w3, w4, w5, w6⟩ := ixs (m := k) (by omega)
      have hp := HP.out
      rw [longN, decide_eq_false_iff_not] at hp
      have hp2 : ¬ (20 : Int) < ((rat r.ranks k).name.size : Int) := by omega
      clear hp this
      repeat' (first | (with_reducible first | refine vseq ?_ | refine vthenN ?_ | refine vskip ?_ | refine vblock ?_ | refine vblockN ?_ | refine vrun_nil ?_ | refine vregion [] ?_) | ((with_reducible refine vcondT ?_ ?_); (focus (go_simp; done))) | ((with_reducible refine vcondF ?_ ?_); (focus (go_simp; done))) | ((with_reducible refine vrun_cons fun KK hKK => ?_); go_simp; refine hKK _ ?_; clear hKK KK))
      refine hK _ ?_
      go_simp
    · intro k hk HB HP K
      have hp := HP.out
      rw [longN, decide_eq_true_eq] at hp
      have hp2 : (20 : Int) < ((rat r.ranks k).name.size : Int) := by omega
      have e := HR.out
      rw [anyP_hit hk HP.out] at e
      subst e
      clear hp
      repeat' (first | (with_reducible first | refine vseq ?_ | refine vthenN ?_ | refine vthenR ?_ | refine vret ?_ | refine vskip ?_ | refine vblock ?_ | refine vblockR ?_ | refine vrun_nil ?_ | refine vregion [] ?_) | ((with_reducible refine vcondT ?_ ?_); (focus (go_simp; done))) | ((with_reducible refine vrun_cons fun KK hKK => ?_); go_simp; refine hKK _ ?_; clear hKK KK))
      go_simp
    · intro HB K
      have e := HR.out
      rw [anyP_out HB.out] at e
      subst e
      repeat' (first | (with_reducible first | refine vseq ?_ | refine vthenN ?_ | refine vthenE ?_ | refine vret ?_ | refine vexit ?_ | refine vblockH ?_ | refine vrun_nil ?_ | refine vregion [] ?_) | ((with_reducible refine vcondF ?_ ?_); (focus (go_simp; done))) | ((with_reducible refine vrun_cons fun KK hKK => ?_); go_simp; refine hKK _ ?_; clear hKK KK))
      go_simp
  · have h8' : (8 : Int) < (r.ranks.length : Int) := by omega
    rw [decide_eq_false h8, Bool.false_and]
    clear h8 hl
    refine VC_of Tryz.func19 rfl (by kernel_rfl) (by kernel_rfl) rfl fun M0 w0 => ?_
    simp only [Tryz.ntmps19, Tryz.results19, enumA]
    repeat' (first | (with_reducible first | refine vseq ?_ | refine vthenN ?_ | refine vthenR ?_ | refine vret ?_ | refine vrun_nil ?_ | refine vregion [] ?_) | ((with_reducible refine vcondT ?_ ?_); (focus (go_simp; done))) | ((with_reducible refine vrun_cons fun KK hKK => ?_); go_simp; refine hKK _ ?_; clear hKK KK))
    go_simp
theorem few_is {r : Ru} (h : fewB r = true) : r.ranks.length ≤ 8 ∧ ∀ k, k < r.ranks.length → (rat r.ranks k).name.size ≤ 1000 := by
  unfold fewB at h
  rw [Bool.and_eq_true, decide_eq_true_eq, Bool.not_eq_true'] at h
  refine ⟨h.1, fun k hk => ?_⟩
  by_cases hb : longN r k = true
  · have := anyP_hit hk hb
    rw [h.2] at this
    cases this
  · unfold longN at hb
    have : ¬ 20 < (rat r.ranks k).name.size := fun hh => hb (decide_eq_true hh)
    omega
end Go.Proofs.YtoibondihdhnoaaGreatDoor

/-! R18: Walks: the state at the beginning. -/
namespace Go.Proofs.YtoibondihdhnoaaGreatDoor
open Go.RowKit
set_option maxRecDepth 100000
set_option maxHeartbeats 2000000
theorem p_BeginE (r : Ru) (hn : r.ranks.length ≤ 1000000) (hnm : ∀ k, k < r.ranks.length → (rat r.ranks k).name.size ≤ 1000) (h : (checkR r).2 ≠ 0) : VC Tryz.prog 37 [rulesA r] (.tup [.agg [nil_, nil_, I 0], I (checkR r).2]) := by
  have g := p_rulesErr r hn hnm
  generalize (checkR r).2 = E at *
  refine VC_of Tryz.func37 rfl (by kernel_rfl) (by kernel_rfl) rfl fun M0 w0 => ?_
  simp only [Tryz.ntmps37, Tryz.results37, enumA]
  repeat' (first | (with_reducible first | refine vseq ?_ | refine vthenN ?_ | refine vthenR ?_ | refine vret ?_ | refine vrun_nil ?_ | refine vregion [] ?_) | ((with_reducible refine vcondT ?_ ?_); (focus (go_simp; done))) | ((with_reducible refine vrun_cons fun KK hKK => ?_); go_simp; (first | (refine ⟨_, g, ?_⟩) | skip); refine hKK _ ?_; clear hKK KK))
  go_simp
theorem p_Begin (r : Ru) (hn : r.ranks.length ≤ 1000000) (hnm : ∀ k, k < r.ranks.length → (rat r.ranks k).name.size ≤ 1000) (h : (checkR r).2 = 0) : VC Tryz.prog 37 [rulesA r] (.tup [stateA (st0 r), I 0]) := by
  have g := p_rulesErr r hn hnm
  have gw := w_empty r hn
  rw [h] at g
  unfold townE at gw
  clear h
  refine VC_of Tryz.func37 rfl (by kernel_rfl) (by kernel_rfl) rfl fun M0 w0 => ?_
  simp only [Tryz.ntmps37, Tryz.results37, enumA]
  repeat' (with_reducible refine vseq ?_)
  refine vregion [] ?_
  repeat' (first | (with_reducible first | refine vseq ?_ | refine vthenN ?_ | refine vrun_nil ?_) | ((with_reducible refine vrun_cons fun KK hKK => ?_); go_simp; refine hKK _ ?_; clear hKK KK))
  refine vregion [] ?_
  repeat' (first | (with_reducible first | refine vseq ?_ | refine vthenN ?_ | refine vrun_nil ?_) | ((with_reducible refine vrun_cons fun KK hKK => ?_); go_simp; (first | (refine ⟨_, g, ?_⟩) | skip); refine hKK _ ?_; clear hKK KK))
  refine vregion [] ?_
  repeat' (first | (with_reducible first | refine vseq ?_ | refine vthenN ?_ | refine vskip ?_ | refine vrun_nil ?_) | ((with_reducible refine vcondF ?_ ?_); (focus (go_simp; done))) | ((with_reducible refine vrun_cons fun KK hKK => ?_); go_simp; refine hKK _ ?_; clear hKK KK))
  refine vregionL (vl_run [] 1 ⟨rfl, rfl⟩ ?_)
  simp only [List.take, List.drop]
  repeat' (first | (with_reducible refine vrun_nil ?_) | ((with_reducible refine vrun_cons fun KK hKK => ?_); go_simp; refine hKK _ ?_; clear hKK KK))
  refine vl_call [] [] [] [some (.bag 62 1 false none (rowsC (st0 r).q)), some (.box [.osl 0, .osl 2, I (st0 r).time, .sl 4 (r.ranks.map Rk.av), I r.back, I r.ret, .osl 3]), some (.arr 148 3 true ((st0 r).tk.map Tk.av)), some (.arr 45 3 true [])] (.ref 1 0) rfl (by go_simp) ?_ ?_
  · unfold HCall
    go_simp
    refine ⟨_, _, ⟨_, gw⟩, ?_⟩
    go_simp
    kernel_rfl
  go_simp
  refine vl_run [] 5 ⟨rfl, rfl⟩ ?_
  simp only [List.take, List.drop]
  repeat' (first | (with_reducible refine vrun_nil ?_) | ((with_reducible refine vrun_cons fun KK hKK => ?_); go_simp; refine hKK _ ?_; clear hKK KK))
  refine vl_nil ?_
  refine vthenN ?_
  refine vconv (fun p a w R => R.bagArr (id := 1) rfl (by kernel_rfl)) ?_
  go_simp
  refine vfreezeIn 0 0 1 rfl rfl rfl ?_
  refine vfreezeIn 0 1 3 rfl rfl rfl ?_
  repeat' (with_reducible refine vret ?_)
  go_simp
theorem V0.nilTk {w : World} {M : Nat → Nat → Prop} {v : Value} {q : AV} {t : Int} (hv : V0 w M (.agg [q, nil_, I t]) v) : V0 w M (.agg [q, .sl 3 [], I t]) v := by
  cases hv with
  | agg _ us hl h1 h2 =>
    refine .agg _ us hl (fun c hc => ?_) fun j c u hc hu => ?_
    · simp only [List.mem_cons, List.not_mem_nil, or_false] at hc
      rcases hc with rfl | rfl | rfl
      · exact h1 _ (by simp)
      · rfl
      · rfl
    · rcases j with _ | _ | _ | j
      · exact h2 0 c u hc hu
      · simp only [List.getElem?_cons_zero, List.getElem?_cons_succ, Option.some.injEq] at hc
        subst hc
        exact (h2 1 _ u rfl hu).nilSl 3
      · exact h2 2 c u hc hu
      · simp at hc
theorem r_Begin (r : Ru) (hn : r.ranks.length ≤ 1000000) : VC Tryz.prog 39 [rulesA r] (stateA (st0 r)) := by
  refine (?_ : VC Tryz.prog 39 [rulesA r] (.agg [queuesA (st0 r).q, nil_, I 0])).weak fun w M v hv => hv.nilTk
  unfold st0
  simp only [queuesA, rowsC_rep]
  have hl2 : r.ranks.length ≤ 1000000000 := by omega
  have hl3 : (r.ranks.length : Int) ≤ 1000000000 := by omega
  refine VC_of Tryz.func39 rfl (by kernel_rfl) (by kernel_rfl) rfl fun M0 w0 => ?_
  simp only [Tryz.ntmps39, Tryz.results39, enumA]
  repeat' (with_reducible refine vseq ?_)
  refine vregion [] ?_
  repeat' (first | (with_reducible first | refine vseq ?_ | refine vthenN ?_ | refine vrun_nil ?_) | ((with_reducible refine vrun_cons fun KK hKK => ?_); go_simp; refine hKK _ ?_; clear hKK KK))
  refine vregion [6] ?_
  repeat ((with_reducible refine vrun_cons fun KK hKK => ?_); go_simp; refine hKK _ ?_; clear hKK KK)
  refine vrun_nil ?_
  refine vthenN ?_
  refine vconv (fun p a w R => ⟨_, R.toBag (id := 1) (sz := 1) rfl (by decide) (by kernel_rfl)⟩) ?_
  go_simp
  refine vconv (fun p a w R => R.bagArr (id := 1) rfl (by kernel_rfl)) ?_
  go_simp
  refine vfreezeIn 0 0 1 rfl rfl rfl ?_
  repeat' (with_reducible refine vret ?_)
  go_simp
theorem s_SameN : VC Tryz.prog 25 [.agg [nil_, nil_, I 0], .agg [nil_, nil_, I 0]] (B true) := by
  refine VC_of Tryz.func25 rfl (by kernel_rfl) (by kernel_rfl) rfl fun M0 w0 => ?_
  simp only [Tryz.ntmps25, Tryz.results25, enumA]
  repeat' (first | (with_reducible first | refine vseq ?_ | refine vthenN ?_ | refine vskip ?_ | refine vblock ?_ | refine vrun_nil ?_ | refine vregion [] ?_) | ((with_reducible refine vcondF ?_ ?_); (focus (go_simp; done))) | ((with_reducible refine vrun_cons fun KK hKK => ?_); go_simp; refine hKK _ ?_; clear hKK KK))
  apply vfor [2, 3] (fun k => [(5, I k)]) (fun k => ([] : Hp)) (fun _ => false) (0)
  · go_simp <;> exact rfl
  · go_simp
  · intro k hk
    omega
  · intro k hk
    omega
  · intro HB K
    repeat' (first | (with_reducible first | refine vseq ?_ | refine vthenN ?_ | refine vthenE ?_ | refine vexit ?_ | refine vblock ?_ | refine vblockH ?_ | refine vrun_nil ?_ | refine vregion [] ?_) | ((with_reducible refine vcondF ?_ ?_); (focus (go_simp; done))) | ((with_reducible refine vrun_cons fun KK hKK => ?_); go_simp; refine hKK _ ?_; clear hKK KK))
    apply vfor [2, 3] (fun k => [(6, I k)]) (fun k => ([] : Hp)) (fun _ => false) (0)
    · go_simp <;> exact rfl
    · go_simp
    · intro k hk
      omega
    · intro k hk
      omega
    · intro HB K
      repeat' (first | (with_reducible first | refine vseq ?_ | refine vthenN ?_ | refine vthenE ?_ | refine vret ?_ | refine vexit ?_ | refine vblockH ?_ | refine vrun_nil ?_ | refine vregion [] ?_) | ((with_reducible refine vcondF ?_ ?_); (focus (go_simp; done))) | ((with_reducible refine vrun_cons fun KK hKK => ?_); go_simp; refine hKK _ ?_; clear hKK KK))
      go_simp
end Go.Proofs.YtoibondihdhnoaaGreatDoor

/-! SR2: The law of right rules: true whatever the input is. -/
namespace Go.Proofs.YtoibondihdhnoaaGreatDoor
open Go.RowKit
set_option maxRecDepth 100000
set_option maxHeartbeats 2000000
theorem small_st0 (r : Ru) (h : r.ranks.length ≤ 300) : SmallS (st0 r) := by
  refine ⟨by simp [st0]; omega, fun l hl => ?_, by simp [st0], fun t ht => by simp [st0] at ht, by show i64 0; unfold i64; decide⟩
  have := List.eq_of_mem_replicate hl
  subst this
  exact ⟨by simp, fun c hc => by simp at hc⟩
theorem l_RulesRight (r : Ru) (hl : r.ranks.length ≤ 9223372036854775807) : VC Tryz.prog 7 [rulesA r] (B true) := by
  have ha := l_awake
  have gF := l_Few r hl
  clear hl
  cases hF : fewB r
  · rw [hF] at gF
    clear hF
    refine VC_of Tryz.func7 rfl (by kernel_rfl) (by kernel_rfl) rfl fun M0 w0 => ?_
    simp only [Tryz.ntmps7, Tryz.results7, enumA]
    repeat' (first | (with_reducible first | refine vseq ?_ | refine vthenN ?_ | refine vthenR ?_ | refine vret ?_ | refine vskip ?_ | refine vrun_nil ?_ | refine vregion [] ?_) | ((with_reducible refine vcondT ?_ ?_); (focus (go_simp; done))) | ((with_reducible refine vcondF ?_ ?_); (focus (go_simp; done))) | ((with_reducible refine vrun_cons fun KK hKK => ?_); go_simp; (first | (with_reducible refine ⟨_, ha, ?_⟩) | (refine ⟨_, gF, ?_⟩) | skip); refine hKK _ ?_; clear hKK KK))
    go_simp
  rw [hF] at gF
  obtain ⟨h8, hnm⟩ := few_is hF
  have g1 := v_CopyRules r (by omega)
  have g2 := p_CheckRules r (by omega) hnm
  have g4 := r_CheckRules r (by omega) hnm
  by_cases h : (checkR r).2 = 0
  · have g3 := p_Begin r (by omega) hnm h
    have g5 := r_Begin r (by omega)
    have g6 := s_Same (st0 r) (small_st0 r (by omega))
    rw [h] at g2 g4
    clear hF h8 hnm h
    generalize ((checkR r).1 : Int) = K0 at *
    refine VC_of Tryz.func7 rfl (by kernel_rfl) (by kernel_rfl) rfl fun M0 w0 => ?_
    simp only [Tryz.ntmps7, Tryz.results7, enumA]
    repeat' (first | (with_reducible first | refine vseq ?_ | refine vthenN ?_ | refine vret ?_ | refine vskip ?_ | refine vrun_nil ?_ | refine vregion [] ?_ | refine vhrun_nil ?_) | ((with_reducible refine vcondF ?_ ?_); (focus (go_simp; done))) | ((with_reducible first | refine vrun_cons fun KK hKK => ?_ | refine vhrun_cons fun KK hKK => ?_); go_simp; (first | (with_reducible refine ⟨_, ha, ?_⟩) | (refine ⟨_, gF, ?_⟩) | (refine ⟨_, g1, ?_⟩) | (refine ⟨_, g2, ?_⟩) | (refine ⟨_, g3, ?_⟩) | (refine ⟨_, g4, ?_⟩) | (refine ⟨_, g5, ?_⟩) | (refine ⟨_, g6, ?_⟩) | skip); refine hKK _ ?_; clear hKK KK) | ((refine vdrawL 9 9 [] rfl (by kernel_rfl) (by kernel_rfl) ?_); simp only [List.take, List.drop]))
    go_simp
  · have g3 := p_BeginE r (by omega) hnm h
    have g6 := s_SameN
    clear hF h8 hnm
    generalize ((checkR r).1 : Int) = K0 at *
    generalize (checkR r).2 = E at *
    refine VC_of Tryz.func7 rfl (by kernel_rfl) (by kernel_rfl) rfl fun M0 w0 => ?_
    simp only [Tryz.ntmps7, Tryz.results7, enumA]
    repeat' (first | (with_reducible first | refine vseq ?_ | refine vthenN ?_ | refine vthenR ?_ | refine vret ?_ | refine vskip ?_ | refine vrun_nil ?_ | refine vregion [] ?_) | ((with_reducible refine vcondT ?_ ?_); (focus (go_simp; done))) | ((with_reducible refine vcondF ?_ ?_); (focus (go_simp; done))) | ((with_reducible refine vrun_cons fun KK hKK => ?_); go_simp; (first | (with_reducible refine ⟨_, ha, ?_⟩) | (refine ⟨_, gF, ?_⟩) | (refine ⟨_, g1, ?_⟩) | (refine ⟨_, g2, ?_⟩) | (refine ⟨_, g3, ?_⟩) | (refine ⟨_, g4, ?_⟩) | (refine ⟨_, g6, ?_⟩) | skip); refine hKK _ ?_; clear hKK KK))
    go_simp
end Go.Proofs.YtoibondihdhnoaaGreatDoor
