/- Texts in one: The law that done is done: true whatever the input is. -/
import Derived.Test.YthbgghmjbaldlaaDoorFR13
import Derived.Test.YthbgghmjbaldlaaDoorFR19
/-! SD9: The law that done is done: true whatever the input is. -/
namespace Go.Proofs.YthbgghmjbaldlaaDoor
open Go.RowKit
set_option maxRecDepth 100000
set_option maxHeartbeats 1000000
abbrev elseT : ByteArray := ⟨#[101, 108, 115, 101]⟩
structure DoneFacts (x : Item) (l : List Event) (m : Nat) (day : Int) : Prop where
  at_ : atErr x l day = 0
  all : untilL l day = l
  done : isDone l = true
  st : state l = (eat l m).kind
  rt : right l day = 0
  over : overE [⟨x, l⟩] day = 0
  none : overL [⟨x, l⟩] day = []
  more : checkChain x (l ++ [⟨x.name, day, 1, (eat l m).dst, elseT⟩]) = (l.length, 22)
  isn : isName (eat l m).dst = true
theorem nextE_dst {x : Item} {l : List Event} {v : Event} (h : nextE x l v = 0) : isName v.dst = true := by
  have := unl_zero (fst_zero h (unl (isName v.frm && isName v.dst) 4) (by simp)) (by decide)
  rw [Bool.and_eq_true] at this
  exact this.2
theorem chainE_app {x : Item} {l r : List Event} {j : Nat} (h : j < l.length) : chainE x (l ++ r) j = chainE x l j := by
  unfold chainE eat
  rw [List.take_append_of_le_length (by omega), List.getD_eq_getElem?_getD, List.getD_eq_getElem?_getD, List.getElem?_append_left h]
theorem done_facts {x : Item} {l : List Event} {m : Nat} {day : Int} (h : Chain x l) (hm : l.length = m + 1) (hk : 2 ≤ (eat l m).kind) (hd : (eat l m).day ≤ day) (hd2 : day ≤ 100000) (h29 : m ≤ 28) : DoneFacts x l m day := by
  have hml : m < l.length := by omega
  have hkin := h.kind hml
  have hdy := h.day hml
  have hxd := h.start (by omega)
  have hasc : ∀ j, j < l.length → (eat l j).day ≤ (eat l m).day := fun j hj => by
    have := h.asc (m - j) j (by omega)
    rwa [show j + (m - j) = m by omega] at this
  have h0 := hasc 0 (by omega)
  have hday0 : 0 ≤ day := by omega
  have hu : untilL l day = l := until_all fun j hj => by have := hasc j hj; omega
  have hKO : KindOK l := by have := h.kindOK (Nat.le_refl l.length); rwa [List.take_length] at this
  have hdn : isDone l = true := by
    rw [isDone_eq hKO]
    unfold endR
    rw [if_neg (by omega), hm, Nat.add_sub_cancel, decide_eq_true_eq]
    exact hk
  have hst : state l = (eat l m).kind := by
    unfold state
    rw [if_neg (by omega), hm, Nat.add_sub_cancel]
    by_cases a : (eat l m).kind = 2
    · rw [if_pos a, a]
    · rw [if_neg a]
      by_cases b : (eat l m).kind = 3
      · rw [if_pos b, b]
      · rw [if_neg b, if_pos (by omega)]
        omega
  have hrt : right l day = 0 := by unfold right; rw [hdn]; rfl
  have hat : atErr x l day = 0 := by
    rw [h.at_, inR_iff.2 ⟨by omega, hd2⟩]
    rfl
  have hkE : keptE [⟨x, l⟩] 0 = 0 := by
    unfold keptE
    simp only [kat, List.getD_cons_zero, anyP, Bool.not_false, h.item, h.ok]
    rfl
  have hov : overE [⟨x, l⟩] day = 0 := by
    unfold overE
    rw [if_neg (by simp)]
    have : (firstErr (keptE [⟨x, l⟩]) 0 [(⟨x, l⟩ : Kept)].length).2 = 0 := by simp [firstErr, hkE]
    rw [this]
    simp only [ne_eq, not_true_eq_false, if_false]
    unfold isDate
    rw [inR_iff.2 ⟨hday0, hd2⟩]
    rfl
  have hvk : nextE x l ⟨x.name, day, 1, (eat l m).dst, elseT⟩ = 22 := by
    have hdst := nextE_dst (h.each m hml)
    have he : isName elseT = true := by kernel_rfl
    have hld : lastDay x l = (eat l m).day := by unfold lastDay; rw [if_neg (by omega), hm, Nat.add_sub_cancel]
    unfold nextE
    simp only [hdst, he, hdn, hld, isDate, inR_iff.2 (show 0 ≤ day ∧ day ≤ 100000 from ⟨hday0, hd2⟩), decide_eq_true hd]
    simp [fst, unl, inR]
  refine ⟨hat, hu, hdn, hst, hrt, hov, ?_, ?_, nextE_dst (h.each m hml)⟩
  · unfold overL
    rw [if_pos hov]
    have hdp : dueP [⟨x, l⟩] day 0 = false := by
      unfold dueP
      simp only [kat, List.getD_cons_zero, hu, hrt]
      simp
    simp [numF, hdp]
  · unfold checkChain
    rw [if_neg (by simp [h.item])]
    unfold checkL
    rw [if_neg (by simp; omega)]
    have hv : chainE x (l ++ [⟨x.name, day, 1, (eat l m).dst, elseT⟩]) l.length = 22 := by
      have e1 : eat (l ++ [⟨x.name, day, 1, (eat l m).dst, elseT⟩]) l.length = ⟨x.name, day, 1, (eat l m).dst, elseT⟩ := by simp [eat]
      unfold chainE
      rw [e1, List.take_left']
      · exact hvk
      · rfl
    have := firstErr_hit (E := chainE x (l ++ [⟨x.name, day, 1, (eat l m).dst, elseT⟩])) (n := (l ++ [(⟨x.name, day, 1, (eat l m).dst, elseT⟩ : Event)]).length) (k := l.length) (by simp) (fun j hj => by
      unfold bad
      rw [chainE_app hj, h.each j hj]
      rfl) (by unfold bad; rw [hv]; rfl)
    rw [this, hv]
theorem l_Done (x : Item) (l : List Event) (n : Int) (h : BigI x) (hl : l.length ≤ 9223372036854775807) (hd : ∀ v ∈ l, BigE v) : VC Tryd.prog 11 [itemA x, eventsA l, I n] (B true) := by
  have ha := l_awake
  have h0 := l_Short x l h hl hd
  cases hs : shortC x l
  · rw [hs] at h0
    clear hs
    refine VC_of Tryd.func11 rfl (by kernel_rfl) (by kernel_rfl) rfl fun M0 w0 => ?_
    simp only [Tryd.ntmps11, Tryd.results11, enumA]
    repeat' (first | (with_reducible first | refine vseq ?_ | refine vthenN ?_ | refine vthenE ?_ | refine vthenR ?_ | refine vret ?_ | refine vskip ?_ | refine vexit ?_ | refine vblock ?_ | refine vblockN ?_ | refine vblockR ?_ | refine vblockH ?_ | refine vrun_nil ?_ | refine vblockE rfl ?_ | refine vregion [] ?_ | refine vhrun_nil ?_) | ((with_reducible refine vcondT ?_ ?_); (focus (go_simp; done))) | ((with_reducible refine vcondF ?_ ?_); (focus (go_simp; done))) | ((with_reducible first | refine vrun_cons fun KK hKK => ?_ | refine vhrun_cons fun KK hKK => ?_); go_simp; (first | (with_reducible refine ⟨_, ha, ?_⟩) | (with_reducible refine ⟨_, h0, ?_⟩) | skip); refine hKK _ ?_; clear hKK KK) | ((refine vdrawL 18 18 [] rfl (by kernel_rfl) (by kernel_rfl) ?_); simp only [List.append, List.take, List.drop]) | ((with_reducible refine vcondS ?_ (fun ht => ?_) (fun ht => ?_)); (focus (go_simp; done)); (all_goals (simp [go_sem] at ht; replace ht := ht.out))) | ((apply vrun_consG0 rfl); (focus (go_simp <;> exact rfl)); (focus (go_simp; done)); (focus (intro hb0; replace hb0 := hb0.out; go_simp <;> (first | exact rfl | exact ha | exact h0 | exact ⟨ha, rfl⟩ | exact ⟨h0, rfl⟩))); intro KK hKK; go_simp; refine hKK _ ?_; clear hKK KK) | ((apply vhrun_consG0 rfl); (focus (go_simp <;> exact rfl)); (focus (intro hb0; replace hb0 := hb0.out; go_simp <;> (first | exact rfl | exact ha | exact h0 | exact ⟨ha, rfl⟩ | exact ⟨h0, rfl⟩))); intro KK hKK; go_simp; refine hKK _ ?_; clear hKK KK))
    go_simp
  · rw [hs] at h0
    have h10 : l.length ≤ 10 ∨ 30 < l.length := by
      simp only [shortC, Bool.and_eq_true, Bool.not_eq_true'] at hs
      have := hs.1.1.2
      simp only [Bool.and_eq_false_iff, decide_eq_false_iff_not] at this
      omega
    obtain ⟨s1, s2, s3, s4⟩ := shortC_small hs
    clear hs
    rcases hn : l.length with _ | m
    · clear h10 s3
      refine VC_of Tryd.func11 rfl (by kernel_rfl) (by kernel_rfl) rfl fun M0 w0 => ?_
      simp only [Tryd.ntmps11, Tryd.results11, enumA]
      repeat' (first | (with_reducible first | refine vseq ?_ | refine vthenN ?_ | refine vthenE ?_ | refine vthenR ?_ | refine vret ?_ | refine vskip ?_ | refine vexit ?_ | refine vblock ?_ | refine vblockN ?_ | refine vblockR ?_ | refine vblockH ?_ | refine vrun_nil ?_ | refine vblockE rfl ?_ | refine vregion [] ?_ | refine vhrun_nil ?_) | ((with_reducible refine vcondT ?_ ?_); (focus (go_simp; done))) | ((with_reducible refine vcondF ?_ ?_); (focus (go_simp; done))) | ((with_reducible first | refine vrun_cons fun KK hKK => ?_ | refine vhrun_cons fun KK hKK => ?_); go_simp; (first | (with_reducible refine ⟨_, ha, ?_⟩) | (with_reducible refine ⟨_, h0, ?_⟩) | skip); refine hKK _ ?_; clear hKK KK) | ((refine vdrawL 18 18 [] rfl (by kernel_rfl) (by kernel_rfl) ?_); simp only [List.append, List.take, List.drop]) | ((with_reducible refine vcondS ?_ (fun ht => ?_) (fun ht => ?_)); (focus (go_simp; done)); (all_goals (simp [go_sem] at ht; replace ht := ht.out))) | ((apply vrun_consG0 rfl); (focus (go_simp <;> exact rfl)); (focus (go_simp; done)); (focus (intro hb0; replace hb0 := hb0.out; go_simp <;> (first | exact rfl | exact ha | exact h0 | exact ⟨ha, rfl⟩ | exact ⟨h0, rfl⟩))); intro KK hKK; go_simp; refine hKK _ ?_; clear hKK KK) | ((apply vhrun_consG0 rfl); (focus (go_simp <;> exact rfl)); (focus (intro hb0; replace hb0 := hb0.out; go_simp <;> (first | exact rfl | exact ha | exact h0 | exact ⟨ha, rfl⟩ | exact ⟨h0, rfl⟩))); intro KK hKK; go_simp; refine hKK _ ?_; clear hKK KK))
      go_simp
    · obtain ⟨w1, w2, w3, w4, w5, w6⟩ := ixs (m := m) (by omega)
      have hne : ¬ (m : Int) + 1 = 0 := by omega
      have hm : m < l.length := by omega
      have hem := eat_get hm
      have hw := b_within n 0 1000
      by_cases hk : l[m].kind < 2
      · clear h10 s3 hem
        refine VC_of Tryd.func11 rfl (by kernel_rfl) (by kernel_rfl) rfl fun M0 w0 => ?_
        simp only [Tryd.ntmps11, Tryd.results11, enumA]
        repeat' (first | (with_reducible first | refine vseq ?_ | refine vthenN ?_ | refine vthenE ?_ | refine vthenR ?_ | refine vret ?_ | refine vskip ?_ | refine vexit ?_ | refine vblock ?_ | refine vblockN ?_ | refine vblockR ?_ | refine vblockH ?_ | refine vrun_nil ?_ | refine vblockE rfl ?_ | refine vregion [] ?_ | refine vhrun_nil ?_) | ((with_reducible refine vcondT ?_ ?_); (focus (go_simp; done))) | ((with_reducible refine vcondF ?_ ?_); (focus (go_simp; done))) | ((with_reducible first | refine vrun_cons fun KK hKK => ?_ | refine vhrun_cons fun KK hKK => ?_); go_simp; (first | (with_reducible refine ⟨_, ha, ?_⟩) | (with_reducible refine ⟨_, h0, ?_⟩) | skip); refine hKK _ ?_; clear hKK KK) | ((refine vdrawL 18 18 [] rfl (by kernel_rfl) (by kernel_rfl) ?_); simp only [List.append, List.take, List.drop]) | ((with_reducible refine vcondS ?_ (fun ht => ?_) (fun ht => ?_)); (focus (go_simp; done)); (all_goals (simp [go_sem] at ht; replace ht := ht.out))) | ((apply vrun_consG0 rfl); (focus (go_simp <;> exact rfl)); (focus (go_simp; done)); (focus (intro hb0; replace hb0 := hb0.out; go_simp <;> (first | exact rfl | exact ha | exact h0 | exact ⟨ha, rfl⟩ | exact ⟨h0, rfl⟩))); intro KK hKK; go_simp; refine hKK _ ?_; clear hKK KK) | ((apply vhrun_consG0 rfl); (focus (go_simp <;> exact rfl)); (focus (intro hb0; replace hb0 := hb0.out; go_simp <;> (first | exact rfl | exact ha | exact h0 | exact ⟨ha, rfl⟩ | exact ⟨h0, rfl⟩))); intro KK hKK; go_simp; refine hKK _ ?_; clear hKK KK))
        go_simp
      · cases hwn : inR n 0 1000
        · rw [hwn] at hw
          clear h10 s3 hem
          refine VC_of Tryd.func11 rfl (by kernel_rfl) (by kernel_rfl) rfl fun M0 w0 => ?_
          simp only [Tryd.ntmps11, Tryd.results11, enumA]
          repeat' (first | (with_reducible first | refine vseq ?_ | refine vthenN ?_ | refine vthenE ?_ | refine vthenR ?_ | refine vret ?_ | refine vskip ?_ | refine vexit ?_ | refine vblock ?_ | refine vblockN ?_ | refine vblockR ?_ | refine vblockH ?_ | refine vrun_nil ?_ | refine vblockE rfl ?_ | refine vregion [] ?_ | refine vhrun_nil ?_) | ((with_reducible refine vcondT ?_ ?_); (focus (go_simp; done))) | ((with_reducible refine vcondF ?_ ?_); (focus (go_simp; done))) | ((with_reducible first | refine vrun_cons fun KK hKK => ?_ | refine vhrun_cons fun KK hKK => ?_); go_simp; (first | (with_reducible refine ⟨_, ha, ?_⟩) | (with_reducible refine ⟨_, h0, ?_⟩) | (with_reducible refine ⟨_, hw, ?_⟩) | skip); refine hKK _ ?_; clear hKK KK) | ((refine vdrawL 18 18 [] rfl (by kernel_rfl) (by kernel_rfl) ?_); simp only [List.append, List.take, List.drop]) | ((with_reducible refine vcondS ?_ (fun ht => ?_) (fun ht => ?_)); (focus (go_simp; done)); (all_goals (simp [go_sem] at ht; replace ht := ht.out))) | ((apply vrun_consG0 rfl); (focus (go_simp <;> exact rfl)); (focus (go_simp; done)); (focus (intro hb0; replace hb0 := hb0.out; go_simp <;> (first | exact rfl | exact ha | exact h0 | exact hw | exact ⟨ha, rfl⟩ | exact ⟨h0, rfl⟩ | exact ⟨hw, rfl⟩))); intro KK hKK; go_simp; refine hKK _ ?_; clear hKK KK) | ((apply vhrun_consG0 rfl); (focus (go_simp <;> exact rfl)); (focus (intro hb0; replace hb0 := hb0.out; go_simp <;> (first | exact rfl | exact ha | exact h0 | exact hw | exact ⟨ha, rfl⟩ | exact ⟨h0, rfl⟩ | exact ⟨hw, rfl⟩))); intro KK hKK; go_simp; refine hKK _ ?_; clear hKK KK))
          go_simp
        · rw [hwn] at hw
          have h1 := v_CopyItem x (by have := s1.few; omega)
          have h2 := VC_of_own (o_CopyEvents l (by omega))
          have h3 := p_CheckChain x l (by omega) s1 s3
          by_cases hE : (checkChain x l).2 = 0
          · have hC := chain_of hE
            have hfew := hC.few
            obtain ⟨n1, n2⟩ := inR_iff.1 hwn
            have hdd := hC.day hm
            rw [hem] at hdd
            have u1 := wrap_eq (x := l[m].day + n) (by omega) (by omega)
            have hw2 := b_within (l[m].day + n) 0 100000
            rw [hC.ok] at h3
            cases hin : inR (l[m].day + n) 0 100000
            · rw [hin] at hw2
              clear h10 s3 hem hE hC hin hwn
              refine VC_of Tryd.func11 rfl (by kernel_rfl) (by kernel_rfl) rfl fun M0 w0 => ?_
              simp only [Tryd.ntmps11, Tryd.results11, enumA]
              repeat' (first | (with_reducible first | refine vseq ?_ | refine vthenN ?_ | refine vthenE ?_ | refine vthenR ?_ | refine vret ?_ | refine vskip ?_ | refine vexit ?_ | refine vblock ?_ | refine vblockN ?_ | refine vblockR ?_ | refine vblockH ?_ | refine vrun_nil ?_ | refine vblockE rfl ?_ | refine vregion [] ?_ | refine vhrun_nil ?_) | ((with_reducible refine vcondT ?_ ?_); (focus (go_simp; done))) | ((with_reducible refine vcondF ?_ ?_); (focus (go_simp; done))) | ((with_reducible first | refine vrun_cons fun KK hKK => ?_ | refine vhrun_cons fun KK hKK => ?_); go_simp; (first | (with_reducible refine ⟨_, ha, ?_⟩) | (with_reducible refine ⟨_, h0, ?_⟩) | (with_reducible refine ⟨_, hw, ?_⟩) | (with_reducible refine ⟨_, h1, ?_⟩) | (with_reducible refine ⟨_, h2, ?_⟩) | (with_reducible refine ⟨_, h3, ?_⟩) | (with_reducible refine ⟨_, hw2, ?_⟩) | skip); refine hKK _ ?_; clear hKK KK) | ((refine vdrawL 18 18 [] rfl (by kernel_rfl) (by kernel_rfl) ?_); simp only [List.append, List.take, List.drop]) | ((with_reducible refine vcondS ?_ (fun ht => ?_) (fun ht => ?_)); (focus (go_simp; done)); (all_goals (simp [go_sem] at ht; replace ht := ht.out))) | ((apply vrun_consG0 rfl); (focus (go_simp <;> exact rfl)); (focus (go_simp; done)); (focus (intro hb0; replace hb0 := hb0.out; go_simp <;> (first | exact rfl | exact ha | exact h0 | exact hw | exact h1 | exact h2 | exact h3 | exact hw2 | exact ⟨ha, rfl⟩ | exact ⟨h0, rfl⟩ | exact ⟨hw, rfl⟩ | exact ⟨h1, rfl⟩ | exact ⟨h2, rfl⟩ | exact ⟨h3, rfl⟩ | exact ⟨hw2, rfl⟩))); intro KK hKK; go_simp; refine hKK _ ?_; clear hKK KK) | ((apply vhrun_consG0 rfl); (focus (go_simp <;> exact rfl)); (focus (intro hb0; replace hb0 := hb0.out; go_simp <;> (first | exact rfl | exact ha | exact h0 | exact hw | exact h1 | exact h2 | exact h3 | exact hw2 | exact ⟨ha, rfl⟩ | exact ⟨h0, rfl⟩ | exact ⟨hw, rfl⟩ | exact ⟨h1, rfl⟩ | exact ⟨h2, rfl⟩ | exact ⟨h3, rfl⟩ | exact ⟨hw2, rfl⟩))); intro KK hKK; go_simp; refine hKK _ ?_; clear hKK KK))
              go_simp
            · rw [hin] at hw2
              obtain ⟨i1, i2⟩ := inR_iff.1 hin
              have F := done_facts (day := l[m].day + n) hC hn (by rw [hem]; omega) (by rw [hem]; omega) i2 (by omega)
              have q1 := p_HolderAt x l (l[m].day + n) (by omega) s1 s3
              have q2 := p_StateAt x l (l[m].day + n) (by omega) s1 s3
              have q3 := p_RightAt x l (l[m].day + n) (by omega) s1 s3
              have hho : holder x l = l[m].dst := by unfold holder; rw [if_neg (by omega), hn, Nat.add_sub_cancel, hem]
              rw [F.at_, F.all, if_pos rfl] at q1 q2 q3
              rw [hho] at q1
              rw [F.st, hem] at q2
              rw [F.rt] at q3
              have hSK : SmallK [⟨x, l⟩] := ⟨by simp, fun y hy => by simp at hy; subst hy; exact s1, fun y hy => by simp at hy; subst hy; exact ⟨s3, by show l.length ≤ 1000000; omega⟩⟩
              have q4 := p_OverdueS [⟨x, l⟩] (l[m].day + n) hSK
              rw [F.over, F.none] at q4
              have hSv : SmallL (l ++ [⟨x.name, l[m].day + n, 1, l[m].dst, elseT⟩]) := fun v hv => by
                rcases List.mem_append.1 hv with hv | hv
                · exact s3 v hv
                · simp only [List.mem_singleton] at hv
                  subst hv
                  exact ⟨s1.name, (s3 _ (List.getElem_mem hm)).dst, Nat.le_of_ble_eq_true (by kernel_rfl)⟩
              have q5 := p_CheckChain x (l ++ [⟨x.name, l[m].day + n, 1, l[m].dst, elseT⟩]) (by simp; omega) s1 hSv
              have hmore := F.more
              rw [hem] at hmore
              rw [hmore, eventsA, List.map_append, List.map_cons, List.map_nil] at q5
              have k5 := o_CopyEvents l (by omega)
              have hb : l.length + 1 ≤ 1000000000 := by omega
              have Q5 := Lib.hid q5
              clear h10 s3 hem hE hC hin hwn F hho hSK hSv hmore q5 hfew hdd
              refine VC_of Tryd.func11 rfl (by kernel_rfl) (by kernel_rfl) rfl fun M0 w0 => ?_
              simp only [Tryd.ntmps11, Tryd.results11, enumA]
              repeat' (first | (with_reducible first | refine vseq ?_ | refine vthenN ?_ | refine vthenE ?_ | refine vthenR ?_ | refine vret ?_ | refine vskip ?_ | refine vexit ?_ | refine vblock ?_ | refine vblockN ?_ | refine vblockR ?_ | refine vblockH ?_ | refine vrun_nil ?_ | refine vblockE rfl ?_ | refine vregion [] ?_ | refine vhrun_nil ?_) | ((with_reducible refine vcondT ?_ ?_); (focus (go_simp; done))) | ((with_reducible refine vcondF ?_ ?_); (focus (go_simp; done))) | ((with_reducible first | refine vrun_cons fun KK hKK => ?_ | refine vhrun_cons fun KK hKK => ?_); go_simp; (first | (with_reducible refine ⟨_, ha, ?_⟩) | (with_reducible refine ⟨_, h0, ?_⟩) | (with_reducible refine ⟨_, hw, ?_⟩) | (with_reducible refine ⟨_, h1, ?_⟩) | (with_reducible refine ⟨_, h2, ?_⟩) | (with_reducible refine ⟨_, h3, ?_⟩) | (with_reducible refine ⟨_, hw2, ?_⟩) | (with_reducible refine ⟨_, q1, ?_⟩) | (with_reducible refine ⟨_, q2, ?_⟩) | (with_reducible refine ⟨_, q3, ?_⟩) | (refine ⟨_, q4, ?_⟩) | skip); refine hKK _ ?_; clear hKK KK) | ((with_reducible refine vcondS ?_ (fun ht => ?_) (fun ht => ?_)); (focus (go_simp; done)); (all_goals (simp [go_sem] at ht; replace ht := ht.out))) | ((apply vrun_consG0 rfl); (focus (go_simp <;> exact rfl)); (focus (go_simp; done)); (focus (intro hb0; replace hb0 := hb0.out; go_simp <;> (first | exact rfl | exact ha | exact h0 | exact hw | exact h1 | exact h2 | exact h3 | exact hw2 | exact q1 | exact q2 | exact q3 | exact q4 | exact ⟨ha, rfl⟩ | exact ⟨h0, rfl⟩ | exact ⟨hw, rfl⟩ | exact ⟨h1, rfl⟩ | exact ⟨h2, rfl⟩ | exact ⟨h3, rfl⟩ | exact ⟨hw2, rfl⟩ | exact ⟨q1, rfl⟩ | exact ⟨q2, rfl⟩ | exact ⟨q3, rfl⟩ | exact ⟨q4, rfl⟩))); intro KK hKK; go_simp; refine hKK _ ?_; clear hKK KK) | ((apply vhrun_consG0 rfl); (focus (go_simp <;> exact rfl)); (focus (intro hb0; replace hb0 := hb0.out; go_simp <;> (first | exact rfl | exact ha | exact h0 | exact hw | exact h1 | exact h2 | exact h3 | exact hw2 | exact q1 | exact q2 | exact q3 | exact q4 | exact ⟨ha, rfl⟩ | exact ⟨h0, rfl⟩ | exact ⟨hw, rfl⟩ | exact ⟨h1, rfl⟩ | exact ⟨h2, rfl⟩ | exact ⟨h3, rfl⟩ | exact ⟨hw2, rfl⟩ | exact ⟨q1, rfl⟩ | exact ⟨q2, rfl⟩ | exact ⟨q3, rfl⟩ | exact ⟨q4, rfl⟩))); intro KK hKK; go_simp; refine hKK _ ?_; clear hKK KK))
              refine vdrawC 17 [112] (fun i => i == 3 || i == 11) (by kernel_rfl) (by kernel_rfl) (by kernel_rfl) (by go_simp) (by go_simp) ?_
              simp only [List.take, List.drop]
              repeat (first | (with_reducible first | refine vseq ?_ | refine vthenN ?_ | refine vthenE ?_ | refine vthenR ?_ | refine vret ?_ | refine vskip ?_ | refine vexit ?_ | refine vblock ?_ | refine vblockN ?_ | refine vblockR ?_ | refine vblockH ?_ | refine vrun_nil ?_ | refine vblockE rfl ?_ | refine vregion [] ?_ | refine vhrun_nil ?_) | ((with_reducible refine vcondT ?_ ?_); (focus (go_simp; done))) | ((with_reducible refine vcondF ?_ ?_); (focus (go_simp; done))) | ((with_reducible first | refine vrun_cons fun KK hKK => ?_ | refine vhrun_cons fun KK hKK => ?_); go_simp; (first | (with_reducible refine ⟨_, h1, ?_⟩) | skip); refine hKK _ ?_; clear hKK KK) | ((with_reducible refine vhc_cons rfl fun KK hKK => ?_); go_simp; (first | (with_reducible refine ⟨_, h1, ?_⟩) | skip); refine hKK _ (by go_simp) ?_; clear hKK KK) | ((with_reducible refine vhc_nil ?_); simp only [List.cons_append, List.nil_append, newCs, nextCs, if_true]))
              refine vhc_chain [some (.arr 48 5 false (l.map Event.av))] none (.osl 1) rfl ⟨rfl, fun _ => rfl, fun _ h => by cases h⟩ ?_ ?_
              · intro s2 hs2
                have p1 : lkp s2 111 = eventsA l := (hs2 111 (by simp [Op.operands, Call.operands]) (by go_simp)).trans (by go_simp)
                clear hs2
                go_simp
                refine ⟨48, 5, l.map Event.av, ?_⟩
                go_simp
              repeat (first | (with_reducible first | refine vseq ?_ | refine vthenN ?_ | refine vthenE ?_ | refine vthenR ?_ | refine vret ?_ | refine vskip ?_ | refine vexit ?_ | refine vblock ?_ | refine vblockN ?_ | refine vblockR ?_ | refine vblockH ?_ | refine vrun_nil ?_ | refine vblockE rfl ?_ | refine vregion [] ?_ | refine vhrun_nil ?_) | ((with_reducible refine vcondT ?_ ?_); (focus (go_simp; done))) | ((with_reducible refine vcondF ?_ ?_); (focus (go_simp; done))) | ((with_reducible first | refine vrun_cons fun KK hKK => ?_ | refine vhrun_cons fun KK hKK => ?_); go_simp; refine hKK _ ?_; clear hKK KK) | ((with_reducible refine vhc_cons rfl fun KK hKK => ?_); go_simp; refine hKK _ (by go_simp) ?_; clear hKK KK) | ((with_reducible refine vhc_nil ?_); simp only [List.cons_append, List.nil_append, newCs, nextCs, if_true]))
              refine vhc_chainP [none] (some 1) (.sl 5 (l.map Event.av ++ [[S x.name, I (l[m].day + n), I 1, S l[m].dst, S elseT]])) rfl ⟨rfl, (fun h => by cases h), fun _ h => by cases h; exact Nat.le_refl _⟩ rfl ?_ ?_
              · intro s2 hs2
                have p1 : lkp s2 112 = .osl 1 := (hs2 112 (by simp [Op.operands, Call.operands]) (by go_simp)).trans (by go_simp)
                have p2 : lkp s2 119 = .sl 5 [[S x.name, I (l[m].day + n), I 1, S l[m].dst, S elseT]] := (hs2 119 (by simp [Op.operands, Call.operands]) (by go_simp)).trans (by go_simp)
                clear hs2
                have hb3 : m ≤ 999999998 := by omega
                go_simp
                exact sub_freeze (id := 1) rfl rfl
              repeat (first | (with_reducible first | refine vseq ?_ | refine vthenN ?_ | refine vthenE ?_ | refine vthenR ?_ | refine vret ?_ | refine vskip ?_ | refine vexit ?_ | refine vblock ?_ | refine vblockN ?_ | refine vblockR ?_ | refine vblockH ?_ | refine vrun_nil ?_ | refine vblockE rfl ?_ | refine vregion [] ?_ | refine vhrun_nil ?_) | ((with_reducible refine vcondT ?_ ?_); (focus (go_simp; done))) | ((with_reducible refine vcondF ?_ ?_); (focus (go_simp; done))) | ((with_reducible first | refine vrun_cons fun KK hKK => ?_ | refine vhrun_cons fun KK hKK => ?_); go_simp; (first | (refine ⟨_, Q5.out, ?_⟩) | skip); refine hKK _ ?_; clear hKK KK) | ((with_reducible refine vhc_cons rfl fun KK hKK => ?_); go_simp; (first | (refine ⟨_, Q5.out, ?_⟩) | skip); refine hKK _ (by go_simp) ?_; clear hKK KK) | ((with_reducible refine vhc_nil ?_); simp only [List.cons_append, List.nil_append, newCs, nextCs, if_true]))
              repeat' (first | (with_reducible first | refine vseq ?_ | refine vthenN ?_ | refine vthenE ?_ | refine vthenR ?_ | refine vret ?_ | refine vskip ?_ | refine vexit ?_ | refine vblock ?_ | refine vblockN ?_ | refine vblockR ?_ | refine vblockH ?_ | refine vrun_nil ?_ | refine vblockE rfl ?_ | refine vregion [] ?_ | refine vhrun_nil ?_) | ((with_reducible refine vcondT ?_ ?_); (focus (go_simp; done))) | ((with_reducible refine vcondF ?_ ?_); (focus (go_simp; done))) | ((with_reducible first | refine vrun_cons fun KK hKK => ?_ | refine vhrun_cons fun KK hKK => ?_); go_simp; refine hKK _ ?_; clear hKK KK) | ((refine vdrawL 18 18 [] rfl (by kernel_rfl) (by kernel_rfl) ?_); simp only [List.append, List.take, List.drop]) | ((with_reducible refine vcondS ?_ (fun ht => ?_) (fun ht => ?_)); (focus (go_simp; done)); (all_goals (simp [go_sem] at ht; replace ht := ht.out))) | ((apply vrun_consG0 rfl); (focus (go_simp <;> exact rfl)); (focus (go_simp; done)); (focus (intro hb0; replace hb0 := hb0.out; go_simp <;> (first | exact rfl))); intro KK hKK; go_simp; refine hKK _ ?_; clear hKK KK) | ((apply vhrun_consG0 rfl); (focus (go_simp <;> exact rfl)); (focus (intro hb0; replace hb0 := hb0.out; go_simp <;> (first | exact rfl))); intro KK hKK; go_simp; refine hKK _ ?_; clear hKK KK))
              go_simp
          · clear h10 s3 hem
            generalize checkChain x l = R at *
            obtain ⟨R1, R2⟩ := R
            refine VC_of Tryd.func11 rfl (by kernel_rfl) (by kernel_rfl) rfl fun M0 w0 => ?_
            simp only [Tryd.ntmps11, Tryd.results11, enumA]
            repeat' (first | (with_reducible first | refine vseq ?_ | refine vthenN ?_ | refine vthenE ?_ | refine vthenR ?_ | refine vret ?_ | refine vskip ?_ | refine vexit ?_ | refine vblock ?_ | refine vblockN ?_ | refine vblockR ?_ | refine vblockH ?_ | refine vrun_nil ?_ | refine vblockE rfl ?_ | refine vregion [] ?_ | refine vhrun_nil ?_) | ((with_reducible refine vcondT ?_ ?_); (focus (go_simp; done))) | ((with_reducible refine vcondF ?_ ?_); (focus (go_simp; done))) | ((with_reducible first | refine vrun_cons fun KK hKK => ?_ | refine vhrun_cons fun KK hKK => ?_); go_simp; (first | (with_reducible refine ⟨_, ha, ?_⟩) | (with_reducible refine ⟨_, h0, ?_⟩) | (with_reducible refine ⟨_, hw, ?_⟩) | (with_reducible refine ⟨_, h1, ?_⟩) | (with_reducible refine ⟨_, h2, ?_⟩) | (with_reducible refine ⟨_, h3, ?_⟩) | skip); refine hKK _ ?_; clear hKK KK) | ((refine vdrawL 18 18 [] rfl (by kernel_rfl) (by kernel_rfl) ?_); simp only [List.append, List.take, List.drop]) | ((with_reducible refine vcondS ?_ (fun ht => ?_) (fun ht => ?_)); (focus (go_simp; done)); (all_goals (simp [go_sem] at ht; replace ht := ht.out))) | ((apply vrun_consG0 rfl); (focus (go_simp <;> exact rfl)); (focus (go_simp; done)); (focus (intro hb0; replace hb0 := hb0.out; go_simp <;> (first | exact rfl | exact ha | exact h0 | exact hw | exact h1 | exact h2 | exact h3 | exact ⟨ha, rfl⟩ | exact ⟨h0, rfl⟩ | exact ⟨hw, rfl⟩ | exact ⟨h1, rfl⟩ | exact ⟨h2, rfl⟩ | exact ⟨h3, rfl⟩))); intro KK hKK; go_simp; refine hKK _ ?_; clear hKK KK) | ((apply vhrun_consG0 rfl); (focus (go_simp <;> exact rfl)); (focus (intro hb0; replace hb0 := hb0.out; go_simp <;> (first | exact rfl | exact ha | exact h0 | exact hw | exact h1 | exact h2 | exact h3 | exact ⟨ha, rfl⟩ | exact ⟨h0, rfl⟩ | exact ⟨hw, rfl⟩ | exact ⟨h1, rfl⟩ | exact ⟨h2, rfl⟩ | exact ⟨h3, rfl⟩))); intro KK hKK; go_simp; refine hKK _ ?_; clear hKK KK))
            go_simp
end Go.Proofs.YthbgghmjbaldlaaDoor
