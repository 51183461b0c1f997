/- Texts in one: Walks on plain values: a chain on a day, rewards; texts of at most 1000 bytes. -/
import Derived.Test.YthbgghmjbaldlaaGreatDoorFU6
/-! QI: Walks on plain values: a chain on a day, rewards; texts of at most 1000 bytes. -/
namespace Go.Proofs.YthbgghmjbaldlaaGreatDoor
open Go.RowKit
set_option maxRecDepth 100000
set_option maxHeartbeats 1000000
theorem p_at (x : Item) (l : List Event) (day : Int) (hl : l.length ≤ 1000000) (hx : SmallI x) (hs : SmallL l) : VC Tryz.prog 95 [itemA x, eventsA l, I day] (.tup [chainA x (untilL l day), I (atErr x l day)]) := by
  have h1 := p_CheckChain x l hl hx hs
  have h2 := p_until x l day hl
  unfold atErr
  generalize checkChain x l = E at *
  generalize untilL l day = U at *
  clear hx hs
  refine VC_of Tryz.func95 rfl (by kernel_rfl) (by kernel_rfl) rfl fun M0 w0 => ?_
  simp only [Tryz.ntmps95, Tryz.results95, enumA]
  repeat' (first | (with_reducible first | refine vseq ?_ | refine vthenN ?_ | refine vthenE ?_ | refine vthenR ?_ | refine vret ?_ | refine vskip ?_ | refine vexit ?_ | refine vblock ?_ | refine vblockN ?_ | refine vblockR ?_ | refine vblockH ?_ | refine vrun_nil ?_ | refine vblockE rfl ?_ | refine vregion [] ?_ | refine vhrun_nil ?_) | ((with_reducible refine vcondT ?_ ?_); (focus (go_simp; done))) | ((with_reducible refine vcondF ?_ ?_); (focus (go_simp; done))) | ((with_reducible first | refine vrun_cons fun KK hKK => ?_ | refine vhrun_cons fun KK hKK => ?_); go_simp; (first | (with_reducible refine ⟨_, h1, ?_⟩) | skip); refine hKK _ ?_; clear hKK KK) | ((with_reducible refine vcondS ?_ (fun ht => ?_) (fun ht => ?_)); (focus (go_simp; done)); (all_goals (simp [go_sem] at ht; replace ht := ht.out))))
  refine vdraw 14 [] (by kernel_rfl) (by kernel_rfl) ?_
  simp only [List.take, List.drop]
  repeat' (first | (with_reducible first | refine vseq ?_ | refine vthenN ?_ | refine vthenE ?_ | refine vthenR ?_ | refine vret ?_ | refine vskip ?_ | refine vexit ?_ | refine vblock ?_ | refine vblockN ?_ | refine vblockR ?_ | refine vblockH ?_ | refine vrun_nil ?_ | refine vblockE rfl ?_ | refine vregion [] ?_ | refine vhrun_nil ?_) | ((with_reducible refine vcondT ?_ ?_); (focus (go_simp; done))) | ((with_reducible refine vcondF ?_ ?_); (focus (go_simp; done))) | ((with_reducible first | refine vrun_cons fun KK hKK => ?_ | refine vhrun_cons fun KK hKK => ?_); go_simp; (first | (with_reducible refine ⟨_, h2, ?_⟩) | (with_reducible refine ⟨_, p_within _ _ _, ?_⟩) | (with_reducible refine ⟨_, p_unless _ _, ?_⟩) | (refine ⟨_, p_firstA _ rfl rfl, ?_⟩) | skip); refine hKK _ ?_; clear hKK KK) | ((refine vdrawL 16 14 [] rfl (by kernel_rfl) (by kernel_rfl) ?_); simp only [List.append, List.take, List.drop]) | ((with_reducible refine vcondS ?_ (fun ht => ?_) (fun ht => ?_)); (focus (go_simp; done)); (all_goals (simp [go_sem] at ht; replace ht := ht.out))))
  go_simp
/-- Who has the item on a day, or the error. -/
theorem p_HolderAt (x : Item) (l : List Event) (day : Int) (hl : l.length ≤ 1000000) (hx : SmallI x) (hs : SmallL l) : VC Tryz.prog 43 [itemA x, eventsA l, I day] (.tup [S (if atErr x l day = 0 then holder x (untilL l day) else ⟨#[]⟩), I (atErr x l day)]) := by
  have h1 := p_at x l day hl hx hs
  have h2 := p_holder x (untilL l day) (by simp only [untilL, List.length_take]; omega)
  generalize atErr x l day = E at *
  generalize untilL l day = U at *
  clear hx hs
  refine VC_of Tryz.func43 rfl (by kernel_rfl) (by kernel_rfl) rfl fun M0 w0 => ?_
  simp only [Tryz.ntmps43, Tryz.results43, enumA]
  repeat' (first | (with_reducible first | refine vseq ?_ | refine vthenN ?_ | refine vthenE ?_ | refine vthenR ?_ | refine vret ?_ | refine vskip ?_ | refine vexit ?_ | refine vblock ?_ | refine vblockN ?_ | refine vblockR ?_ | refine vblockH ?_ | refine vrun_nil ?_ | refine vblockE rfl ?_ | refine vregion [] ?_ | refine vhrun_nil ?_) | ((with_reducible refine vcondT ?_ ?_); (focus (go_simp; done))) | ((with_reducible refine vcondF ?_ ?_); (focus (go_simp; done))) | ((with_reducible first | refine vrun_cons fun KK hKK => ?_ | refine vhrun_cons fun KK hKK => ?_); go_simp; (first | (with_reducible refine ⟨_, h1, ?_⟩) | (with_reducible refine ⟨_, h2, ?_⟩) | skip); refine hKK _ ?_; clear hKK KK) | ((with_reducible refine vcondS ?_ (fun ht => ?_) (fun ht => ?_)); (focus (go_simp; done)); (all_goals (simp [go_sem] at ht; replace ht := ht.out))))
  all_goals (go_simp; first | done | (simp_all []; done) | (simp only []; (try intros); (repeat' split) <;> (first | rfl | omega | (simp_all; done) | (simp_all; omega))) | ((try intros); (repeat' split) <;> (first | rfl | omega | (simp_all; done) | (simp_all; omega))))
theorem p_StateAt (x : Item) (l : List Event) (day : Int) (hl : l.length ≤ 1000000) (hx : SmallI x) (hs : SmallL l) : VC Tryz.prog 45 [itemA x, eventsA l, I day] (.tup [I (if atErr x l day = 0 then state (untilL l day) else 0), I (atErr x l day)]) := by
  have h1 := p_at x l day hl hx hs
  have h2 := p_state x (untilL l day) (by simp only [untilL, List.length_take]; omega)
  generalize atErr x l day = E at *
  generalize untilL l day = U at *
  clear hx hs
  refine VC_of Tryz.func45 rfl (by kernel_rfl) (by kernel_rfl) rfl fun M0 w0 => ?_
  simp only [Tryz.ntmps45, Tryz.results45, enumA]
  repeat' (first | (with_reducible first | refine vseq ?_ | refine vthenN ?_ | refine vthenE ?_ | refine vthenR ?_ | refine vret ?_ | refine vskip ?_ | refine vexit ?_ | refine vblock ?_ | refine vblockN ?_ | refine vblockR ?_ | refine vblockH ?_ | refine vrun_nil ?_ | refine vblockE rfl ?_ | refine vregion [] ?_ | refine vhrun_nil ?_) | ((with_reducible refine vcondT ?_ ?_); (focus (go_simp; done))) | ((with_reducible refine vcondF ?_ ?_); (focus (go_simp; done))) | ((with_reducible first | refine vrun_cons fun KK hKK => ?_ | refine vhrun_cons fun KK hKK => ?_); go_simp; (first | (with_reducible refine ⟨_, h1, ?_⟩) | (with_reducible refine ⟨_, h2, ?_⟩) | skip); refine hKK _ ?_; clear hKK KK) | ((with_reducible refine vcondS ?_ (fun ht => ?_) (fun ht => ?_)); (focus (go_simp; done)); (all_goals (simp [go_sem] at ht; replace ht := ht.out))))
  all_goals (go_simp; first | done | (simp_all []; done) | (simp only []; (try intros); (repeat' split) <;> (first | rfl | omega | (simp_all; done) | (simp_all; omega))) | ((try intros); (repeat' split) <;> (first | rfl | omega | (simp_all; done) | (simp_all; omega))))
theorem p_RightAt (x : Item) (l : List Event) (day : Int) (hl : l.length ≤ 1000000) (hx : SmallI x) (hs : SmallL l) : VC Tryz.prog 46 [itemA x, eventsA l, I day] (.tup [I (if atErr x l day = 0 then right (untilL l day) day else 0), I (atErr x l day)]) := by
  have h1 := p_at x l day hl hx hs
  have h2 := p_right x (untilL l day) day (by simp only [untilL, List.length_take]; omega)
  generalize atErr x l day = E at *
  generalize untilL l day = U at *
  clear hx hs
  refine VC_of Tryz.func46 rfl (by kernel_rfl) (by kernel_rfl) rfl fun M0 w0 => ?_
  simp only [Tryz.ntmps46, Tryz.results46, enumA]
  repeat' (first | (with_reducible first | refine vseq ?_ | refine vthenN ?_ | refine vthenE ?_ | refine vthenR ?_ | refine vret ?_ | refine vskip ?_ | refine vexit ?_ | refine vblock ?_ | refine vblockN ?_ | refine vblockR ?_ | refine vblockH ?_ | refine vrun_nil ?_ | refine vblockE rfl ?_ | refine vregion [] ?_ | refine vhrun_nil ?_) | ((with_reducible refine vcondT ?_ ?_); (focus (go_simp; done))) | ((with_reducible refine vcondF ?_ ?_); (focus (go_simp; done))) | ((with_reducible first | refine vrun_cons fun KK hKK => ?_ | refine vhrun_cons fun KK hKK => ?_); go_simp; (first | (with_reducible refine ⟨_, h1, ?_⟩) | (with_reducible refine ⟨_, h2, ?_⟩) | skip); refine hKK _ ?_; clear hKK KK) | ((with_reducible refine vcondS ?_ (fun ht => ?_) (fun ht => ?_)); (focus (go_simp; done)); (all_goals (simp [go_sem] at ht; replace ht := ht.out))))
  all_goals (go_simp; first | done | (simp_all []; done) | (simp only []; (try intros); (repeat' split) <;> (first | rfl | omega | (simp_all; done) | (simp_all; omega))) | ((try intros); (repeat' split) <;> (first | rfl | omega | (simp_all; done) | (simp_all; omega))))
theorem r_ChainErr (x : Item) (l : List Event) (day : Int) (hl : l.length ≤ 1000000) (hx : SmallI x) (hs : SmallL l) : VC Tryz.prog 42 [itemA x, eventsA l, I day] (I (atErr x l day)) := by
  have h1 := r_CheckChain x l hl hx hs
  unfold atErr
  generalize checkChain x l = E at *
  clear hx hs
  refine VC_of Tryz.func42 rfl (by kernel_rfl) (by kernel_rfl) rfl fun M0 w0 => ?_
  simp only [Tryz.ntmps42, Tryz.results42, enumA]
  repeat' (first | (with_reducible first | refine vseq ?_ | refine vthenN ?_ | refine vthenE ?_ | refine vthenR ?_ | refine vret ?_ | refine vskip ?_ | refine vexit ?_ | refine vblock ?_ | refine vblockN ?_ | refine vblockR ?_ | refine vblockH ?_ | refine vrun_nil ?_ | refine vblockE rfl ?_ | refine vregion [] ?_ | refine vhrun_nil ?_) | ((with_reducible refine vcondT ?_ ?_); (focus (go_simp; done))) | ((with_reducible refine vcondF ?_ ?_); (focus (go_simp; done))) | ((with_reducible first | refine vrun_cons fun KK hKK => ?_ | refine vhrun_cons fun KK hKK => ?_); go_simp; (first | (with_reducible refine ⟨_, h1, ?_⟩) | (with_reducible refine ⟨_, b_within _ _ _, ?_⟩) | skip); refine hKK _ ?_; clear hKK KK) | ((with_reducible refine vcondS ?_ (fun ht => ?_) (fun ht => ?_)); (focus (go_simp; done)); (all_goals (simp [go_sem] at ht; replace ht := ht.out))))
  all_goals (go_simp; (cases hA0 : inR day x.day 100000) <;> simp_all [fst, unl])
/-! ### Rewards -/
def reward (v : Int) : Int := if inR v 0 1000000000 = false then 0 else if v ≤ 50000 then v * 5 / 100 else (250000 + 3 * (v - 50000)) / 100
def rewardE (v : Int) : Int := if inR v 0 1000000000 = false then 2 else 0
theorem p_RewardOf (v : Int) : VC Tryz.prog 51 [I v] (.tup [I (reward v), I (rewardE v)]) := by
  unfold reward rewardE
  refine VC_of Tryz.func51 rfl (by kernel_rfl) (by kernel_rfl) rfl fun M0 w0 => ?_
  simp only [Tryz.ntmps51, Tryz.results51, enumA]
  cases hr : inR v 0 1000000000
  · have h1 := p_within v 0 1000000000
    rw [hr] at h1
    repeat' (first | (with_reducible first | refine vseq ?_ | refine vthenN ?_ | refine vthenE ?_ | refine vthenR ?_ | refine vret ?_ | refine vskip ?_ | refine vexit ?_ | refine vblock ?_ | refine vblockN ?_ | refine vblockR ?_ | refine vblockH ?_ | refine vrun_nil ?_ | refine vblockE rfl ?_ | refine vregion [] ?_ | refine vhrun_nil ?_) | ((with_reducible refine vcondT ?_ ?_); (focus (go_simp; done))) | ((with_reducible refine vcondF ?_ ?_); (focus (go_simp; done))) | ((with_reducible first | refine vrun_cons fun KK hKK => ?_ | refine vhrun_cons fun KK hKK => ?_); go_simp; (first | (with_reducible refine ⟨_, h1, ?_⟩) | skip); refine hKK _ ?_; clear hKK KK) | ((with_reducible refine vcondS ?_ (fun ht => ?_) (fun ht => ?_)); (focus (go_simp; done)); (all_goals (simp [go_sem] at ht; replace ht := ht.out))))
    go_simp
  · have h1 := p_within v 0 1000000000
    rw [hr] at h1
    obtain ⟨b1, b2⟩ := inR_iff.1 hr
    clear hr
    by_cases h5 : v ≤ 50000
    · have e1 : (if v < 50000 then v else 50000) = v := by split <;> omega
      have e2 : (if v ≤ 50000 then v else 50000) = v := if_pos h5
      have e3 : min v 50000 = v := by omega
      have w1 := wrap_eq (x := 5 * v) (by omega) (by omega)
      have hq : (5 * v).tdiv 100 = v * 5 / 100 := by rw [Int.tdiv_eq_ediv_of_nonneg (by omega)]; omega
      have w2 := wrap_eq (x := v * 5 / 100) (by omega) (by omega)
      have wz : IntKind.i64.wrap 0 = 0 := rfl
      have hn : ¬ 50000 < v := by omega
      repeat' (first | (with_reducible first | refine vseq ?_ | refine vthenN ?_ | refine vthenE ?_ | refine vthenR ?_ | refine vret ?_ | refine vskip ?_ | refine vexit ?_ | refine vblock ?_ | refine vblockN ?_ | refine vblockR ?_ | refine vblockH ?_ | refine vrun_nil ?_ | refine vblockE rfl ?_ | refine vregion [] ?_ | refine vhrun_nil ?_) | ((with_reducible refine vcondT ?_ ?_); (focus (go_simp; done))) | ((with_reducible refine vcondF ?_ ?_); (focus (go_simp; done))) | ((with_reducible first | refine vrun_cons fun KK hKK => ?_ | refine vhrun_cons fun KK hKK => ?_); go_simp; (first | (with_reducible refine ⟨_, h1, ?_⟩) | skip); refine hKK _ ?_; clear hKK KK) | ((with_reducible refine vcondS ?_ (fun ht => ?_) (fun ht => ?_)); (focus (go_simp; done)); (all_goals (simp [go_sem] at ht; replace ht := ht.out))))
      go_simp
    · have e1 : (if v < 50000 then v else 50000) = 50000 := by split <;> omega
      have e3 : min v 50000 = 50000 := by omega
      have w0 := wrap_eq (x := v - 50000) (by omega) (by omega)
      have w1 := wrap_eq (x := 3 * (v - 50000)) (by omega) (by omega)
      have w3 : IntKind.i64.wrap 250000 = 250000 := rfl
      have hp : 50000 < v := by omega
      have w2 := wrap_eq (x := 250000 + 3 * (v - 50000)) (by omega) (by omega)
      have hq : (250000 + 3 * (v - 50000)).tdiv 100 = (250000 + 3 * (v - 50000)) / 100 := Int.tdiv_eq_ediv_of_nonneg (by omega)
      have w4 := wrap_eq (x := (250000 + 3 * (v - 50000)) / 100) (by omega) (by omega)
      repeat' (first | (with_reducible first | refine vseq ?_ | refine vthenN ?_ | refine vthenE ?_ | refine vthenR ?_ | refine vret ?_ | refine vskip ?_ | refine vexit ?_ | refine vblock ?_ | refine vblockN ?_ | refine vblockR ?_ | refine vblockH ?_ | refine vrun_nil ?_ | refine vblockE rfl ?_ | refine vregion [] ?_ | refine vhrun_nil ?_) | ((with_reducible refine vcondT ?_ ?_); (focus (go_simp; done))) | ((with_reducible refine vcondF ?_ ?_); (focus (go_simp; done))) | ((with_reducible first | refine vrun_cons fun KK hKK => ?_ | refine vhrun_cons fun KK hKK => ?_); go_simp; (first | (with_reducible refine ⟨_, h1, ?_⟩) | skip); refine hKK _ ?_; clear hKK KK) | ((with_reducible refine vcondS ?_ (fun ht => ?_) (fun ht => ?_)); (focus (go_simp; done)); (all_goals (simp [go_sem] at ht; replace ht := ht.out))))
      go_simp
end Go.Proofs.YthbgghmjbaldlaaGreatDoor

/-! QJ: Walks on plain values: how large items and chains are; no condition but that they can be read. -/
namespace Go.Proofs.YthbgghmjbaldlaaGreatDoor
open Go.RowKit
set_option maxRecDepth 100000
set_option maxHeartbeats 1000000
def longM (l : List Mark) (k : Nat) : Bool := decide ((20 : Int) < (mat l k).key.size) || decide ((20 : Int) < (mat l k).value.size)
def shortM (l : List Mark) : Bool := !decide ((10 : Int) < l.length) && !anyP (longM l) 0 l.length
theorem l_short (l : List Mark) (hl : l.length ≤ 9223372036854775807) (hd : ∀ m ∈ l, m.key.size ≤ 9223372036854775807 ∧ m.value.size ≤ 9223372036854775807) : VC Tryz.prog 89 [marksA l] (B (shortM l)) := by
  obtain ⟨R, hR⟩ : ∃ R, shortM l = R := ⟨_, rfl⟩
  rw [hR]
  unfold shortM at hR
  have HR := Lib.hid hR
  have HD := Lib.hid hd
  clear hR hd
  refine VC_of Tryz.func89 rfl (by kernel_rfl) (by kernel_rfl) rfl fun M0 w0 => ?_
  simp only [Tryz.ntmps89, Tryz.results89, enumA]
  by_cases h10 : (10 : Int) < l.length
  · have e := HR.out
    rw [decide_eq_true h10] at e
    subst e
    repeat' (first | (with_reducible first | refine vseq ?_ | refine vthenN ?_ | refine vthenE ?_ | refine vthenR ?_ | refine vret ?_ | refine vskip ?_ | refine vexit ?_ | refine vblock ?_ | refine vblockN ?_ | refine vblockR ?_ | refine vblockH ?_ | refine vrun_nil ?_ | refine vblockE rfl ?_ | refine vregion [] ?_ | refine vhrun_nil ?_) | ((with_reducible refine vcondT ?_ ?_); (focus (go_simp; done))) | ((with_reducible refine vcondF ?_ ?_); (focus (go_simp; done))) | ((with_reducible first | refine vrun_cons fun KK hKK => ?_ | refine vhrun_cons fun KK hKK => ?_); go_simp; refine hKK _ ?_; clear hKK KK) | ((with_reducible refine vcondS ?_ (fun ht => ?_) (fun ht => ?_)); (focus (go_simp; done)); (all_goals (simp [go_sem] at ht; replace ht := ht.out))) | ((apply vrun_consG0 rfl); (focus (go_simp <;> exact rfl)); (focus (go_simp; done)); (focus (intro hb0; replace hb0 := hb0.out; go_simp <;> (first | exact rfl))); intro KK hKK; go_simp; refine hKK _ ?_; clear hKK KK))
    go_simp
  · repeat' (first | (with_reducible first | refine vseq ?_ | refine vthenN ?_ | refine vthenE ?_ | refine vthenR ?_ | refine vret ?_ | refine vskip ?_ | refine vexit ?_ | refine vblock ?_ | refine vblockN ?_ | refine vblockR ?_ | refine vblockH ?_ | refine vrun_nil ?_ | refine vblockE rfl ?_ | refine vregion [] ?_ | refine vhrun_nil ?_) | ((with_reducible refine vcondT ?_ ?_); (focus (go_simp; done))) | ((with_reducible refine vcondF ?_ ?_); (focus (go_simp; done))) | ((with_reducible first | refine vrun_cons fun KK hKK => ?_ | refine vhrun_cons fun KK hKK => ?_); go_simp; refine hKK _ ?_; clear hKK KK) | ((with_reducible refine vcondS ?_ (fun ht => ?_) (fun ht => ?_)); (focus (go_simp; done)); (all_goals (simp [go_sem] at ht; replace ht := ht.out))) | ((apply vrun_consG0 rfl); (focus (go_simp <;> exact rfl)); (focus (go_simp; done)); (focus (intro hb0; replace hb0 := hb0.out; go_simp <;> (first | exact rfl))); intro KK hKK; go_simp; refine hKK _ ?_; clear hKK KK))
    apply vfor [0] (fun k => [(3, I k)]) (fun k => ([] : Hp)) (longM l) (l.length)
    · go_simp <;> exact rfl
    · go_simp
    · intro k hk HB HP K hK
      obtain ⟨w1, w2, w3, w4, w5, w6⟩ := ixs (m := k) (by omega)
      obtain ⟨s1, s2⟩ := HD.out l[k] (List.getElem_mem hk)
      have hp := HP.out
      unfold longM at hp
      rw [mat_get hk, Bool.or_eq_false_iff, decide_eq_false_iff_not, decide_eq_false_iff_not] at hp
      obtain ⟨p1, p2⟩ := hp
      repeat' (first | (with_reducible first | refine vseq ?_ | refine vthenN ?_ | refine vthenE ?_ | refine vthenR ?_ | refine vret ?_ | refine vskip ?_ | refine vexit ?_ | refine vblock ?_ | refine vblockN ?_ | refine vblockR ?_ | refine vblockH ?_ | refine vrun_nil ?_ | refine vblockE rfl ?_ | refine vregion [] ?_ | refine vhrun_nil ?_) | ((with_reducible refine vcondT ?_ ?_); (focus (go_simp; done))) | ((with_reducible refine vcondF ?_ ?_); (focus (go_simp; done))) | ((with_reducible first | refine vrun_cons fun KK hKK => ?_ | refine vhrun_cons fun KK hKK => ?_); go_simp; refine hKK _ ?_; clear hKK KK) | ((with_reducible refine vcondS ?_ (fun ht => ?_) (fun ht => ?_)); (focus (go_simp; done)); (all_goals (simp [go_sem] at ht; replace ht := ht.out))) | ((apply vrun_consG0 rfl); (focus (go_simp <;> exact rfl)); (focus (go_simp; done)); (focus (intro hb0; replace hb0 := hb0.out; go_simp <;> (first | exact rfl))); intro KK hKK; go_simp; refine hKK _ ?_; clear hKK KK))
      refine hK _ ?_
      go_simp
    · intro k hk HB HP K
      obtain ⟨s1, s2⟩ := HD.out l[k] (List.getElem_mem hk)
      have hp := HP.out
      unfold longM at hp
      rw [mat_get hk] at hp
      have e := HR.out
      rw [anyP_hit hk HP.out, Bool.not_true, Bool.and_false] at e
      subst e
      repeat' (first | (with_reducible first | refine vseq ?_ | refine vthenN ?_ | refine vthenE ?_ | refine vthenR ?_ | refine vret ?_ | refine vskip ?_ | refine vexit ?_ | refine vblock ?_ | refine vblockN ?_ | refine vblockR ?_ | refine vblockH ?_ | refine vrun_nil ?_ | refine vblockE rfl ?_ | refine vregion [] ?_ | refine vhrun_nil ?_) | ((with_reducible refine vcondT ?_ ?_); (focus (go_simp; done))) | ((with_reducible refine vcondF ?_ ?_); (focus (go_simp; done))) | ((with_reducible first | refine vrun_cons fun KK hKK => ?_ | refine vhrun_cons fun KK hKK => ?_); go_simp; refine hKK _ ?_; clear hKK KK) | ((with_reducible refine vcondS ?_ (fun ht => ?_) (fun ht => ?_)); (focus (go_simp; done)); (all_goals (simp [go_sem] at ht; replace ht := ht.out))) | ((apply vrun_consG0 rfl); (focus (go_simp <;> exact rfl)); (focus (go_simp; done)); (focus (intro hb0; replace hb0 := hb0.out; go_simp <;> (first | exact rfl))); intro KK hKK; go_simp; refine hKK _ ?_; clear hKK KK))
      go_simp
    · intro HB K
      have e := HR.out
      rw [anyP_out HB.out, decide_eq_false h10] at e
      subst e
      repeat (first | (with_reducible first | refine vseq ?_ | refine vthenN ?_ | refine vthenE ?_ | refine vthenR ?_ | refine vret ?_ | refine vskip ?_ | refine vexit ?_ | refine vblock ?_ | refine vblockN ?_ | refine vblockR ?_ | refine vblockH ?_ | refine vrun_nil ?_ | refine vblockE rfl ?_ | refine vregion [] ?_ | refine vhrun_nil ?_) | ((with_reducible refine vcondT ?_ ?_); (focus (go_simp; done))) | ((with_reducible refine vcondF ?_ ?_); (focus (go_simp; done))) | ((with_reducible first | refine vrun_cons fun KK hKK => ?_ | refine vhrun_cons fun KK hKK => ?_); go_simp; refine hKK _ ?_; clear hKK KK))
      go_simp
def shortI (x : Item) : Bool := decide ((x.name.size : Int) ≤ 20) && decide ((x.who.size : Int) ≤ 20) && shortM x.marks
theorem l_item (x : Item) (h : BigI x) : VC Tryz.prog 32 [itemA x] (B (shortI x)) := by
  have h1 := l_short x.marks h.few h.marks
  have h2 := h.name
  have h3 := h.who
  unfold shortI
  clear h
  generalize shortM x.marks = E at *
  refine VC_of Tryz.func32 rfl (by kernel_rfl) (by kernel_rfl) rfl fun M0 w0 => ?_
  simp only [Tryz.ntmps32, Tryz.results32, enumA]
  repeat' (first | (with_reducible first | refine vseq ?_ | refine vthenN ?_ | refine vthenE ?_ | refine vthenR ?_ | refine vret ?_ | refine vskip ?_ | refine vexit ?_ | refine vblock ?_ | refine vblockN ?_ | refine vblockR ?_ | refine vblockH ?_ | refine vrun_nil ?_ | refine vblockE rfl ?_ | refine vregion [] ?_ | refine vhrun_nil ?_) | ((with_reducible refine vcondT ?_ ?_); (focus (go_simp; done))) | ((with_reducible refine vcondF ?_ ?_); (focus (go_simp; done))) | ((with_reducible first | refine vrun_cons fun KK hKK => ?_ | refine vhrun_cons fun KK hKK => ?_); go_simp; (first | (with_reducible refine ⟨_, h1, ?_⟩) | skip); refine hKK _ ?_; clear hKK KK) | ((with_reducible refine vcondS ?_ (fun ht => ?_) (fun ht => ?_)); (focus (go_simp; done)); (all_goals (simp [go_sem] at ht; replace ht := ht.out))) | ((apply vrun_consG0 rfl); (focus (go_simp <;> exact rfl)); (focus (go_simp; done)); (focus (intro hb0; replace hb0 := hb0.out; go_simp <;> (first | exact rfl | exact h1 | exact ⟨h1, rfl⟩))); intro KK hKK; go_simp; refine hKK _ ?_; clear hKK KK))
  go_simp
theorem l_claim (x : Item) (h : BigI x) : VC Tryz.prog 52 [itemA x] (B (shortI x)) := by
  have h1 := l_short x.marks h.few h.marks
  have h2 := h.name
  have h3 := h.who
  unfold shortI
  clear h
  generalize shortM x.marks = E at *
  refine VC_of Tryz.func52 rfl (by kernel_rfl) (by kernel_rfl) rfl fun M0 w0 => ?_
  simp only [Tryz.ntmps52, Tryz.results52, enumA]
  repeat' (first | (with_reducible first | refine vseq ?_ | refine vthenN ?_ | refine vthenE ?_ | refine vthenR ?_ | refine vret ?_ | refine vskip ?_ | refine vexit ?_ | refine vblock ?_ | refine vblockN ?_ | refine vblockR ?_ | refine vblockH ?_ | refine vrun_nil ?_ | refine vblockE rfl ?_ | refine vregion [] ?_ | refine vhrun_nil ?_) | ((with_reducible refine vcondT ?_ ?_); (focus (go_simp; done))) | ((with_reducible refine vcondF ?_ ?_); (focus (go_simp; done))) | ((with_reducible first | refine vrun_cons fun KK hKK => ?_ | refine vhrun_cons fun KK hKK => ?_); go_simp; (first | (with_reducible refine ⟨_, h1, ?_⟩) | skip); refine hKK _ ?_; clear hKK KK) | ((with_reducible refine vcondS ?_ (fun ht => ?_) (fun ht => ?_)); (focus (go_simp; done)); (all_goals (simp [go_sem] at ht; replace ht := ht.out))) | ((apply vrun_consG0 rfl); (focus (go_simp <;> exact rfl)); (focus (go_simp; done)); (focus (intro hb0; replace hb0 := hb0.out; go_simp <;> (first | exact rfl | exact h1 | exact ⟨h1, rfl⟩))); intro KK hKK; go_simp; refine hKK _ ?_; clear hKK KK))
  go_simp
theorem shortM_small {l : List Mark} (h : shortM l = true) : SmallM l ∧ l.length ≤ 10 := by
  simp only [shortM, Bool.and_eq_true, Bool.not_eq_true', decide_eq_false_iff_not] at h
  refine ⟨fun m hm => ?_, by omega⟩
  obtain ⟨k, hk, rfl⟩ := List.getElem_of_mem hm
  have h2 : longM l k = false := by
    cases hc : longM l k
    · rfl
    · rw [anyP_hit hk hc] at h; cases h.2
  unfold longM at h2
  rw [mat_get hk, Bool.or_eq_false_iff, decide_eq_false_iff_not, decide_eq_false_iff_not] at h2
  omega
theorem shortI_small {x : Item} (h : shortI x = true) : SmallI x ∧ x.marks.length ≤ 10 := by
  simp only [shortI, Bool.and_eq_true, decide_eq_true_eq] at h
  obtain ⟨⟨h1, h2⟩, h3⟩ := h
  obtain ⟨h4, h5⟩ := shortM_small h3
  exact ⟨⟨by omega, by omega, by omega, h4⟩, h5⟩
def longE (l : List Event) (k : Nat) : Bool := decide ((20 : Int) < (eat l k).item.size) || decide ((20 : Int) < (eat l k).frm.size) || decide ((20 : Int) < (eat l k).dst.size)
def shortC (x : Item) (l : List Event) : Bool := shortI x && !(decide ((10 : Int) < l.length) && decide ((l.length : Int) ≤ 30)) && !decide ((32 : Int) < l.length) && !anyP (longE l) 0 l.length
theorem l_Short (x : Item) (l : List Event) (h : BigI x) (hl : l.length ≤ 9223372036854775807) (hd : ∀ v ∈ l, BigE v) : VC Tryz.prog 41 [itemA x, eventsA l] (B (shortC x l)) := by
  obtain ⟨R, hR⟩ : ∃ R, shortC x l = R := ⟨_, rfl⟩
  rw [hR]
  unfold shortC at hR
  have HR := Lib.hid hR
  have HD := Lib.hid hd
  have h1 := l_item x h
  clear hR hd h
  generalize shortI x = E at *
  cases hE : (E && !(decide ((10 : Int) < l.length) && decide ((l.length : Int) ≤ 30)) && !decide ((32 : Int) < l.length))
  · have e := HR.out
    rw [hE, Bool.false_and] at e
    subst e
    refine VC_of Tryz.func41 rfl (by kernel_rfl) (by kernel_rfl) rfl fun M0 w0 => ?_
    simp only [Tryz.ntmps41, Tryz.results41, enumA]
    cases E
    · repeat' (first | (with_reducible first | refine vseq ?_ | refine vthenN ?_ | refine vthenE ?_ | refine vthenR ?_ | refine vret ?_ | refine vskip ?_ | refine vexit ?_ | refine vblock ?_ | refine vblockN ?_ | refine vblockR ?_ | refine vblockH ?_ | refine vrun_nil ?_ | refine vblockE rfl ?_ | refine vregion [] ?_ | refine vhrun_nil ?_) | ((with_reducible refine vcondT ?_ ?_); (focus (go_simp; done))) | ((with_reducible refine vcondF ?_ ?_); (focus (go_simp; done))) | ((with_reducible first | refine vrun_cons fun KK hKK => ?_ | refine vhrun_cons fun KK hKK => ?_); go_simp; (first | (with_reducible refine ⟨_, h1, ?_⟩) | skip); refine hKK _ ?_; clear hKK KK) | ((with_reducible refine vcondS ?_ (fun ht => ?_) (fun ht => ?_)); (focus (go_simp; done)); (all_goals (simp [go_sem] at ht; replace ht := ht.out))) | ((apply vrun_consG0 rfl); (focus (go_simp <;> exact rfl)); (focus (go_simp; done)); (focus (intro hb0; replace hb0 := hb0.out; go_simp <;> (first | exact rfl | exact h1 | exact ⟨h1, rfl⟩))); intro KK hKK; go_simp; refine hKK _ ?_; clear hKK KK) | ((apply vrun_consG1 rfl); (focus (go_simp <;> exact rfl)); (focus (go_simp; done)); (focus (intro hb0 hb1; replace hb0 := hb0.out; replace hb1 := hb1.out; go_simp <;> (first | exact rfl | exact h1 | exact ⟨h1, rfl⟩))); intro KK hKK; go_simp; refine hKK _ ?_; clear hKK KK))
      go_simp
    · by_cases a1 : (10 : Int) < l.length
      · by_cases a2 : (l.length : Int) ≤ 30
        · repeat' (first | (with_reducible first | refine vseq ?_ | refine vthenN ?_ | refine vthenE ?_ | refine vthenR ?_ | refine vret ?_ | refine vskip ?_ | refine vexit ?_ | refine vblock ?_ | refine vblockN ?_ | refine vblockR ?_ | refine vblockH ?_ | refine vrun_nil ?_ | refine vblockE rfl ?_ | refine vregion [] ?_ | refine vhrun_nil ?_) | ((with_reducible refine vcondT ?_ ?_); (focus (go_simp; done))) | ((with_reducible refine vcondF ?_ ?_); (focus (go_simp; done))) | ((with_reducible first | refine vrun_cons fun KK hKK => ?_ | refine vhrun_cons fun KK hKK => ?_); go_simp; (first | (with_reducible refine ⟨_, h1, ?_⟩) | skip); refine hKK _ ?_; clear hKK KK) | ((with_reducible refine vcondS ?_ (fun ht => ?_) (fun ht => ?_)); (focus (go_simp; done)); (all_goals (simp [go_sem] at ht; replace ht := ht.out))) | ((apply vrun_consG0 rfl); (focus (go_simp <;> exact rfl)); (focus (go_simp; done)); (focus (intro hb0; replace hb0 := hb0.out; go_simp <;> (first | exact rfl | exact h1 | exact ⟨h1, rfl⟩))); intro KK hKK; go_simp; refine hKK _ ?_; clear hKK KK) | ((apply vrun_consG1 rfl); (focus (go_simp <;> exact rfl)); (focus (go_simp; done)); (focus (intro hb0 hb1; replace hb0 := hb0.out; replace hb1 := hb1.out; go_simp <;> (first | exact rfl | exact h1 | exact ⟨h1, rfl⟩))); intro KK hKK; go_simp; refine hKK _ ?_; clear hKK KK))
          go_simp
        · have a3 : (32 : Int) < l.length := by
            simp [a1, a2] at hE
            omega
          repeat' (first | (with_reducible first | refine vseq ?_ | refine vthenN ?_ | refine vthenE ?_ | refine vthenR ?_ | refine vret ?_ | refine vskip ?_ | refine vexit ?_ | refine vblock ?_ | refine vblockN ?_ | refine vblockR ?_ | refine vblockH ?_ | refine vrun_nil ?_ | refine vblockE rfl ?_ | refine vregion [] ?_ | refine vhrun_nil ?_) | ((with_reducible refine vcondT ?_ ?_); (focus (go_simp; done))) | ((with_reducible refine vcondF ?_ ?_); (focus (go_simp; done))) | ((with_reducible first | refine vrun_cons fun KK hKK => ?_ | refine vhrun_cons fun KK hKK => ?_); go_simp; (first | (with_reducible refine ⟨_, h1, ?_⟩) | skip); refine hKK _ ?_; clear hKK KK) | ((with_reducible refine vcondS ?_ (fun ht => ?_) (fun ht => ?_)); (focus (go_simp; done)); (all_goals (simp [go_sem] at ht; replace ht := ht.out))) | ((apply vrun_consG0 rfl); (focus (go_simp <;> exact rfl)); (focus (go_simp; done)); (focus (intro hb0; replace hb0 := hb0.out; go_simp <;> (first | exact rfl | exact h1 | exact ⟨h1, rfl⟩))); intro KK hKK; go_simp; refine hKK _ ?_; clear hKK KK) | ((apply vrun_consG1 rfl); (focus (go_simp <;> exact rfl)); (focus (go_simp; done)); (focus (intro hb0 hb1; replace hb0 := hb0.out; replace hb1 := hb1.out; go_simp <;> (first | exact rfl | exact h1 | exact ⟨h1, rfl⟩))); intro KK hKK; go_simp; refine hKK _ ?_; clear hKK KK))
          go_simp
      · simp [a1] at hE
        omega
  · simp only [Bool.and_eq_true, Bool.not_eq_true', decide_eq_false_iff_not] at hE
    obtain ⟨⟨rfl, a1⟩, a3⟩ := hE
    have hb : (decide ((10 : Int) < l.length) && decide ((l.length : Int) ≤ 30)) = false := a1
    have hlen : l.length ≤ 32 := by omega
    refine VC_of Tryz.func41 rfl (by kernel_rfl) (by kernel_rfl) rfl fun M0 w0 => ?_
    simp only [Tryz.ntmps41, Tryz.results41, enumA]
    repeat' (first | (with_reducible first | refine vseq ?_ | refine vthenN ?_ | refine vthenE ?_ | refine vthenR ?_ | refine vret ?_ | refine vskip ?_ | refine vexit ?_ | refine vblock ?_ | refine vblockN ?_ | refine vblockR ?_ | refine vblockH ?_ | refine vrun_nil ?_ | refine vblockE rfl ?_ | refine vregion [] ?_ | refine vhrun_nil ?_) | ((with_reducible refine vcondT ?_ ?_); (focus (go_simp; done))) | ((with_reducible refine vcondF ?_ ?_); (focus (go_simp; done))) | ((with_reducible first | refine vrun_cons fun KK hKK => ?_ | refine vhrun_cons fun KK hKK => ?_); go_simp; (first | (with_reducible refine ⟨_, h1, ?_⟩) | skip); refine hKK _ ?_; clear hKK KK) | ((with_reducible refine vcondS ?_ (fun ht => ?_) (fun ht => ?_)); (focus (go_simp; done)); (all_goals (simp [go_sem] at ht; replace ht := ht.out))) | ((apply vrun_consG0 rfl); (focus (go_simp <;> exact rfl)); (focus (go_simp; done)); (focus (intro hb0; replace hb0 := hb0.out; go_simp <;> (first | exact rfl | exact h1 | exact ⟨h1, rfl⟩))); intro KK hKK; go_simp; refine hKK _ ?_; clear hKK KK) | ((apply vrun_consG1 rfl); (focus (go_simp <;> exact rfl)); (focus (go_simp; done)); (focus (intro hb0 hb1; replace hb0 := hb0.out; replace hb1 := hb1.out; go_simp <;> (first | exact rfl | exact h1 | exact ⟨h1, rfl⟩))); intro KK hKK; go_simp; refine hKK _ ?_; clear hKK KK))
    apply vfor [1] (fun k => [(5, I k)]) (fun k => ([] : Hp)) (longE l) (l.length)
    · go_simp <;> exact rfl
    · go_simp
    · intro k hk HB HP K hK
      obtain ⟨w1, w2, w3, w4, w5, w6⟩ := ixs (m := k) (by omega)
      obtain ⟨s1, s2, s3⟩ := HD.out l[k] (List.getElem_mem hk)
      have hp := HP.out
      unfold longE at hp
      rw [eat_get hk, Bool.or_eq_false_iff, Bool.or_eq_false_iff, decide_eq_false_iff_not, decide_eq_false_iff_not, decide_eq_false_iff_not] at hp
      obtain ⟨⟨p1, p2⟩, p3⟩ := hp
      repeat' (first | (with_reducible first | refine vseq ?_ | refine vthenN ?_ | refine vthenE ?_ | refine vthenR ?_ | refine vret ?_ | refine vskip ?_ | refine vexit ?_ | refine vblock ?_ | refine vblockN ?_ | refine vblockR ?_ | refine vblockH ?_ | refine vrun_nil ?_ | refine vblockE rfl ?_ | refine vregion [] ?_ | refine vhrun_nil ?_) | ((with_reducible refine vcondT ?_ ?_); (focus (go_simp; done))) | ((with_reducible refine vcondF ?_ ?_); (focus (go_simp; done))) | ((with_reducible first | refine vrun_cons fun KK hKK => ?_ | refine vhrun_cons fun KK hKK => ?_); go_simp; refine hKK _ ?_; clear hKK KK) | ((with_reducible refine vcondS ?_ (fun ht => ?_) (fun ht => ?_)); (focus (go_simp; done)); (all_goals (simp [go_sem] at ht; replace ht := ht.out))) | ((apply vrun_consG0 rfl); (focus (go_simp <;> exact rfl)); (focus (go_simp; done)); (focus (intro hb0; replace hb0 := hb0.out; go_simp <;> (first | exact rfl))); intro KK hKK; go_simp; refine hKK _ ?_; clear hKK KK) | ((apply vrun_consG1 rfl); (focus (go_simp <;> exact rfl)); (focus (go_simp; done)); (focus (intro hb0 hb1; replace hb0 := hb0.out; replace hb1 := hb1.out; go_simp <;> (first | exact rfl))); intro KK hKK; go_simp; refine hKK _ ?_; clear hKK KK))
      refine hK _ ?_
      go_simp
    · intro k hk HB HP K
      obtain ⟨s1, s2, s3⟩ := HD.out l[k] (List.getElem_mem hk)
      have hp := HP.out
      unfold longE at hp
      rw [eat_get hk] at hp
      have e := HR.out
      rw [anyP_hit hk HP.out, Bool.not_true, Bool.and_false] at e
      subst e
      repeat' (first | (with_reducible first | refine vseq ?_ | refine vthenN ?_ | refine vthenE ?_ | refine vthenR ?_ | refine vret ?_ | refine vskip ?_ | refine vexit ?_ | refine vblock ?_ | refine vblockN ?_ | refine vblockR ?_ | refine vblockH ?_ | refine vrun_nil ?_ | refine vblockE rfl ?_ | refine vregion [] ?_ | refine vhrun_nil ?_) | ((with_reducible refine vcondT ?_ ?_); (focus (go_simp; done))) | ((with_reducible refine vcondF ?_ ?_); (focus (go_simp; done))) | ((with_reducible first | refine vrun_cons fun KK hKK => ?_ | refine vhrun_cons fun KK hKK => ?_); go_simp; refine hKK _ ?_; clear hKK KK) | ((with_reducible refine vcondS ?_ (fun ht => ?_) (fun ht => ?_)); (focus (go_simp; done)); (all_goals (simp [go_sem] at ht; replace ht := ht.out))) | ((apply vrun_consG0 rfl); (focus (go_simp <;> exact rfl)); (focus (go_simp; done)); (focus (intro hb0; replace hb0 := hb0.out; go_simp <;> (first | exact rfl))); intro KK hKK; go_simp; refine hKK _ ?_; clear hKK KK) | ((apply vrun_consG1 rfl); (focus (go_simp <;> exact rfl)); (focus (go_simp; done)); (focus (intro hb0 hb1; replace hb0 := hb0.out; replace hb1 := hb1.out; go_simp <;> (first | exact rfl))); intro KK hKK; go_simp; refine hKK _ ?_; clear hKK KK))
      go_simp
    · intro HB K
      have e := HR.out
      rw [anyP_out HB.out, a1, decide_eq_false a3] at e
      subst e
      repeat (first | (with_reducible first | refine vseq ?_ | refine vthenN ?_ | refine vthenE ?_ | refine vthenR ?_ | refine vret ?_ | refine vskip ?_ | refine vexit ?_ | refine vblock ?_ | refine vblockN ?_ | refine vblockR ?_ | refine vblockH ?_ | refine vrun_nil ?_ | refine vblockE rfl ?_ | refine vregion [] ?_ | refine vhrun_nil ?_) | ((with_reducible refine vcondT ?_ ?_); (focus (go_simp; done))) | ((with_reducible refine vcondF ?_ ?_); (focus (go_simp; done))) | ((with_reducible first | refine vrun_cons fun KK hKK => ?_ | refine vhrun_cons fun KK hKK => ?_); go_simp; refine hKK _ ?_; clear hKK KK))
      go_simp
theorem shortC_small {x : Item} {l : List Event} (h : shortC x l = true) : SmallI x ∧ x.marks.length ≤ 10 ∧ SmallL l ∧ l.length ≤ 32 := by
  simp only [shortC, Bool.and_eq_true, Bool.not_eq_true', decide_eq_false_iff_not] at h
  obtain ⟨⟨⟨h1, _⟩, h3⟩, h4⟩ := h
  obtain ⟨g1, g2⟩ := shortI_small h1
  refine ⟨g1, g2, fun v hv => ?_, by omega⟩
  obtain ⟨k, hk, rfl⟩ := List.getElem_of_mem hv
  have h2 : longE l k = false := by
    cases hc : longE l k
    · rfl
    · rw [anyP_hit hk hc] at h4; cases h4
  unfold longE at h2
  rw [eat_get hk, Bool.or_eq_false_iff, Bool.or_eq_false_iff, decide_eq_false_iff_not, decide_eq_false_iff_not, decide_eq_false_iff_not] at h2
  exact ⟨by omega, by omega, by omega⟩
end Go.Proofs.YthbgghmjbaldlaaGreatDoor
