/- Texts in one: Walks on plain values: items to which the office has the right; texts of at most 1000 bytes. -/
import Derived.Test.YthbgghmjbaldlaaDoorFR18
import Derived.Test.YthbgghmjbaldlaaDoorFR16
import Derived.Test.YthbgghmjbaldlaaDoorFR14
/-! QW: Walks on plain values: items to which the office has the right; texts of at most 1000 bytes. -/
namespace Go.Proofs.YthbgghmjbaldlaaDoor
open Go.RowKit
set_option maxRecDepth 100000
set_option maxHeartbeats 1000000
def itemsOf (l : List Kept) : List Item := l.map (·.item)
theorem itemsOf_len (l : List Kept) : (itemsOf l).length = l.length := by simp [itemsOf]
theorem xat_of {l : List Kept} {k : Nat} (h : k < l.length) : xat (itemsOf l) k = (kat l k).item := by simp [xat, kat, itemsOf, h]
theorem get_of {l : List Kept} {k : Nat} (h : k < (itemsOf l).length) : (itemsOf l)[k] = (l[k]'(by simpa [itemsOf] using h)).item := by simp [itemsOf]
def sameK (l : List Kept) (x : Item) (j : Nat) : Bool := decide ((kat l j).item.name = x.name)
theorem kat_take {l : List Kept} {k j : Nat} (h : j < k) : kat (l.take k) j = kat l j := by simp [kat, List.getD, h]
theorem sameK_take {l : List Kept} {x : Item} {k : Nat} (hk : k ≤ l.length) : anyP (sameK (l.take k) x) 0 (l.take k).length = anyP (sameK l x) 0 k := by
  rw [take_len hk]
  exact anyP_congr fun j hj => by simp only [sameK, kat_take hj]
theorem sameK_of {l : List Kept} {x : Item} {k : Nat} (hk : k ≤ l.length) : anyP (sameN (itemsOf l) x) 0 k = anyP (sameK l x) 0 k := anyP_congr fun j hj => by simp only [sameN, sameK, xat_of (show j < l.length by omega)]
def keptE (l : List Kept) (k : Nat) : Int := fst [thingErr (kat l k).item, unl (!anyP (sameK l (kat l k).item) 0 k) 5, (checkChain (kat l k).item (kat l k).events).2]
def overE (l : List Kept) (day : Int) : Int := if (l.length : Int) > 40 then 8 else if (firstErr (keptE l) 0 l.length).2 ≠ 0 then (firstErr (keptE l) 0 l.length).2 else unl (isDate day) 2
def dueP (l : List Kept) (day : Int) (k : Nat) : Bool := decide ((kat l k).item.day ≤ day) && decide (right (untilL (kat l k).events day) day = 3)
def overL (l : List Kept) (day : Int) : List Int := if overE l day = 0 then numF (dueP l day) l.length else []
structure SmallK (l : List Kept) : Prop where
  few : l.length ≤ 1000
  item : ∀ x ∈ l, SmallI x.item
  evs : ∀ x ∈ l, SmallL x.events ∧ x.events.length ≤ 1000000
theorem c_keptSame (x y : Kept) : VC Tryd.prog 94 [.agg (Kept.av y), .vp (Kept.av x)] (B (decide (y.item.name = x.item.name))) := by
  refine VC_of Tryd.func94 rfl (by kernel_rfl) (by kernel_rfl) rfl fun M0 w0 => ?_
  simp only [Tryd.ntmps94, Tryd.results94, enumA]
  repeat' (first | (with_reducible first | refine vseq ?_ | refine vthenN ?_ | refine vthenE ?_ | refine vthenR ?_ | refine vret ?_ | refine vskip ?_ | refine vexit ?_ | refine vblock ?_ | refine vblockN ?_ | refine vblockR ?_ | refine vblockH ?_ | refine vrun_nil ?_ | refine vblockE rfl ?_ | refine vregion [] ?_ | refine vhrun_nil ?_) | ((with_reducible refine vcondT ?_ ?_); (focus (go_simp; done))) | ((with_reducible refine vcondF ?_ ?_); (focus (go_simp; done))) | ((with_reducible first | refine vrun_cons fun KK hKK => ?_ | refine vhrun_cons fun KK hKK => ?_); go_simp; refine hKK _ ?_; clear hKK KK) | ((with_reducible refine vcondS ?_ (fun ht => ?_) (fun ht => ?_)); (focus (go_simp; done)); (all_goals (simp [go_sem] at ht; replace ht := ht.out))))
  go_simp
theorem p_keptIndex (l : List Kept) (x : Kept) (hl : l.length ≤ 1000000) : VC Tryd.prog 113 [keptsA l, .fn (.func 94) [] [.vp (Kept.av x)]] (I (ixP (sameK l x.item) 0 l.length)) := by
  obtain ⟨R, hR⟩ : ∃ R, ixP (sameK l x.item) 0 l.length = R := ⟨_, rfl⟩
  rw [hR]
  have HR := Lib.hid hR
  clear hR
  refine VC_of Tryd.func113 rfl (by kernel_rfl) (by kernel_rfl) rfl fun M0 w0 => ?_
  simp only [Tryd.ntmps113, Tryd.results113, enumA]
  repeat' (first | (with_reducible first | refine vseq ?_ | refine vthenN ?_ | refine vthenE ?_ | refine vthenR ?_ | refine vret ?_ | refine vskip ?_ | refine vexit ?_ | refine vblock ?_ | refine vblockN ?_ | refine vblockR ?_ | refine vblockH ?_ | refine vrun_nil ?_ | refine vblockE rfl ?_ | refine vregion [] ?_ | refine vhrun_nil ?_) | ((with_reducible refine vcondT ?_ ?_); (focus (go_simp; done))) | ((with_reducible refine vcondF ?_ ?_); (focus (go_simp; done))) | ((with_reducible first | refine vrun_cons fun KK hKK => ?_ | refine vhrun_cons fun KK hKK => ?_); go_simp; refine hKK _ ?_; clear hKK KK) | ((with_reducible refine vcondS ?_ (fun ht => ?_) (fun ht => ?_)); (focus (go_simp; done)); (all_goals (simp [go_sem] at ht; replace ht := ht.out))))
  apply vfor [0, 1, 7] (fun k => [(8, I k)]) (fun k => ([] : Hp)) (sameK l x.item) (l.length)
  · go_simp <;> exact rfl
  · go_simp
  · intro k hk HB HP K hK
    obtain ⟨w1, w2, w3, w4, w5, w6⟩ := ixs (m := k) (by omega)
    have g := c_keptSame x l[k]
    have hp : decide (l[k].item.name = x.item.name) = false := by
      have := HP.out
      rwa [sameK, kat_get hk] at this
    rw [hp] at g
    clear hp
    repeat' (first | (with_reducible first | refine vseq ?_ | refine vthenN ?_ | refine vthenE ?_ | refine vthenR ?_ | refine vret ?_ | refine vskip ?_ | refine vexit ?_ | refine vblock ?_ | refine vblockN ?_ | refine vblockR ?_ | refine vblockH ?_ | refine vrun_nil ?_ | refine vblockE rfl ?_ | refine vregion [] ?_ | refine vhrun_nil ?_) | ((with_reducible refine vcondT ?_ ?_); (focus (go_simp; done))) | ((with_reducible refine vcondF ?_ ?_); (focus (go_simp; done))) | ((with_reducible first | refine vrun_cons fun KK hKK => ?_ | refine vhrun_cons fun KK hKK => ?_); go_simp; (first | (refine ⟨_, g, ?_⟩) | skip); refine hKK _ ?_; clear hKK KK) | ((with_reducible refine vcondS ?_ (fun ht => ?_) (fun ht => ?_)); (focus (go_simp; done)); (all_goals (simp [go_sem] at ht; replace ht := ht.out))))
    refine hK _ ?_
    go_simp
  · intro k hk HB HP K
    have g := c_keptSame x l[k]
    have hp : decide (l[k].item.name = x.item.name) = true := by
      have := HP.out
      rwa [sameK, kat_get hk] at this
    rw [hp] at g
    clear hp
    have e := HR.out
    rw [ixP_hit hk HB.out HP.out] at e
    subst e
    repeat' (first | (with_reducible first | refine vseq ?_ | refine vthenN ?_ | refine vthenE ?_ | refine vthenR ?_ | refine vret ?_ | refine vskip ?_ | refine vexit ?_ | refine vblock ?_ | refine vblockN ?_ | refine vblockR ?_ | refine vblockH ?_ | refine vrun_nil ?_ | refine vblockE rfl ?_ | refine vregion [] ?_ | refine vhrun_nil ?_) | ((with_reducible refine vcondT ?_ ?_); (focus (go_simp; done))) | ((with_reducible refine vcondF ?_ ?_); (focus (go_simp; done))) | ((with_reducible first | refine vrun_cons fun KK hKK => ?_ | refine vhrun_cons fun KK hKK => ?_); go_simp; (first | (refine ⟨_, g, ?_⟩) | skip); refine hKK _ ?_; clear hKK KK) | ((with_reducible refine vcondS ?_ (fun ht => ?_) (fun ht => ?_)); (focus (go_simp; done)); (all_goals (simp [go_sem] at ht; replace ht := ht.out))))
    go_simp
  · intro HB K
    have e := HR.out
    rw [ixP_out HB.out] at e
    subst e
    repeat (first | (with_reducible first | refine vseq ?_ | refine vthenN ?_ | refine vthenE ?_ | refine vthenR ?_ | refine vret ?_ | refine vskip ?_ | refine vexit ?_ | refine vblock ?_ | refine vblockN ?_ | refine vblockR ?_ | refine vblockH ?_ | refine vrun_nil ?_ | refine vblockE rfl ?_ | refine vregion [] ?_ | refine vhrun_nil ?_) | ((with_reducible refine vcondT ?_ ?_); (focus (go_simp; done))) | ((with_reducible refine vcondF ?_ ?_); (focus (go_simp; done))) | ((with_reducible first | refine vrun_cons fun KK hKK => ?_ | refine vhrun_cons fun KK hKK => ?_); go_simp; refine hKK _ ?_; clear hKK KK))
    go_simp
theorem p_keptContains (l : List Kept) (x : Kept) (hl : l.length ≤ 1000000) : VC Tryd.prog 93 [keptsA l, .fn (.func 94) [] [.vp (Kept.av x)]] (B (anyP (sameK l x.item) 0 l.length)) := by
  have h1 := p_keptIndex l x hl
  have h2 := ixP_any (p := sameK l x.item) l.length 0
  generalize ixP (sameK l x.item) 0 l.length = E at *
  generalize anyP (sameK l x.item) 0 l.length = F at *
  refine VC_of Tryd.func93 rfl (by kernel_rfl) (by kernel_rfl) rfl fun M0 w0 => ?_
  simp only [Tryd.ntmps93, Tryd.results93, enumA]
  repeat' (first | (with_reducible first | refine vseq ?_ | refine vthenN ?_ | refine vthenE ?_ | refine vthenR ?_ | refine vret ?_ | refine vskip ?_ | refine vexit ?_ | refine vblock ?_ | refine vblockN ?_ | refine vblockR ?_ | refine vblockH ?_ | refine vrun_nil ?_ | refine vblockE rfl ?_ | refine vregion [] ?_ | refine vhrun_nil ?_) | ((with_reducible refine vcondT ?_ ?_); (focus (go_simp; done))) | ((with_reducible refine vcondF ?_ ?_); (focus (go_simp; done))) | ((with_reducible first | refine vrun_cons fun KK hKK => ?_ | refine vhrun_cons fun KK hKK => ?_); go_simp; (first | (refine ⟨_, h1, ?_⟩) | skip); refine hKK _ ?_; clear hKK KK) | ((with_reducible refine vcondS ?_ (fun ht => ?_) (fun ht => ?_)); (focus (go_simp; done)); (all_goals (simp [go_sem] at ht; replace ht := ht.out))))
  go_simp
theorem keptE_at {l : List Kept} {k : Nat} (hk : k < l.length) : keptE l k = fst [thingErr l[k].item, unl (!anyP (sameK l l[k].item) 0 k) 5, (checkChain l[k].item l[k].events).2] := by
  unfold keptE
  rw [kat_get hk]
theorem keptE_zero {l : List Kept} {k : Nat} (hk : k < l.length) (h : keptE l k = 0) : thingErr l[k].item = 0 ∧ anyP (sameK l l[k].item) 0 k = false ∧ Chain l[k].item l[k].events := by
  rw [keptE_at hk] at h
  have h1 := fst_zero h (thingErr l[k].item) (by simp)
  have h2 := unl_zero (fst_zero h (unl (!anyP (sameK l l[k].item) 0 k) 5) (by simp)) (by decide)
  have h3 := fst_zero h (checkChain l[k].item l[k].events).2 (by simp)
  exact ⟨h1, by simpa using h2, chain_of h3⟩
theorem dueP_at {l : List Kept} {day : Int} {k : Nat} (hk : k < l.length) : dueP l day k = (decide (l[k].item.day ≤ day) && decide (right (untilL l[k].events day) day = 3)) := by
  unfold dueP
  rw [kat_get hk]
theorem p_Overdue (l : List Kept) (day : Int) (h : SmallK l) : VC Tryd.prog 52 [keptsA l, I day] (.tup [if overE l day = 0 then .sl 1 ((overL l day).map intA) else nil_, I (overE l day)]) := by
  have hfew := h.few
  have H := Lib.hid h
  clear h
  by_cases h40 : (40 : Int) < l.length
  · have e : overE l day = 8 := if_pos h40
    rw [e]
    refine VC_of Tryd.func52 rfl (by kernel_rfl) (by kernel_rfl) rfl fun M0 w0 => ?_
    simp only [Tryd.ntmps52, Tryd.results52, enumA]
    repeat' (first | (with_reducible first | refine vseq ?_ | refine vthenN ?_ | refine vthenE ?_ | refine vthenR ?_ | refine vret ?_ | refine vskip ?_ | refine vexit ?_ | refine vblock ?_ | refine vblockN ?_ | refine vblockR ?_ | refine vblockH ?_ | refine vrun_nil ?_ | refine vblockE rfl ?_ | refine vregion [] ?_ | refine vhrun_nil ?_) | ((with_reducible refine vcondT ?_ ?_); (focus (go_simp; done))) | ((with_reducible refine vcondF ?_ ?_); (focus (go_simp; done))) | ((with_reducible first | refine vrun_cons fun KK hKK => ?_ | refine vhrun_cons fun KK hKK => ?_); go_simp; refine hKK _ ?_; clear hKK KK) | ((with_reducible refine vcondS ?_ (fun ht => ?_) (fun ht => ?_)); (focus (go_simp; done)); (all_goals (simp [go_sem] at ht; replace ht := ht.out))) | ((apply vrun_consG0 rfl); (focus (go_simp <;> exact rfl)); (focus (go_simp; done)); (focus (intro hb0; replace hb0 := hb0.out; go_simp <;> (first | exact rfl))); intro KK hKK; go_simp; refine hKK _ ?_; clear hKK KK))
    go_simp
  · obtain ⟨R, hR⟩ : ∃ R, (firstErr (keptE l) 0 l.length).2 = R := ⟨_, rfl⟩
    have hE : overE l day = if R ≠ 0 then R else unl (isDate day) 2 := by unfold overE; rw [if_neg h40, hR]
    have HR := Lib.hid hR
    have HE := Lib.hid hE
    clear hR hE
    refine VC_of Tryd.func52 rfl (by kernel_rfl) (by kernel_rfl) rfl fun M0 w0 => ?_
    simp only [Tryd.ntmps52, Tryd.results52, enumA]
    repeat' (first | (with_reducible first | refine vseq ?_ | refine vthenN ?_ | refine vthenE ?_ | refine vthenR ?_ | refine vret ?_ | refine vskip ?_ | refine vexit ?_ | refine vblock ?_ | refine vblockN ?_ | refine vblockR ?_ | refine vblockH ?_ | refine vrun_nil ?_ | refine vblockE rfl ?_ | refine vregion [6] ?_ | refine vhrun_nil ?_) | ((with_reducible refine vcondT ?_ ?_); (focus (go_simp; done))) | ((with_reducible refine vcondF ?_ ?_); (focus (go_simp; done))) | ((with_reducible first | refine vrun_cons fun KK hKK => ?_ | refine vhrun_cons fun KK hKK => ?_); go_simp; refine hKK _ ?_; clear hKK KK) | ((with_reducible refine vcondS ?_ (fun ht => ?_) (fun ht => ?_)); (focus (go_simp; done)); (all_goals (simp [go_sem] at ht; replace ht := ht.out))) | ((apply vrun_consG0 rfl); (focus (go_simp <;> exact rfl)); (focus (go_simp; done)); (focus (intro hb0; replace hb0 := hb0.out; go_simp <;> (first | exact rfl))); intro KK hKK; go_simp; refine hKK _ ?_; clear hKK KK))
    apply vfor [0, 1, 16, 17] (fun k => [(18, I k), (6, .osl 0)]) (fun k => ([some (.arr 3 1 (decide (numF (dueP l day) k = [])) ((numF (dueP l day) k).map intA))] : Hp)) (bad (keptE l)) (l.length)
    · go_simp <;> exact rfl
    · go_simp
    · intro k hk HB HP K hK
      obtain ⟨w1, w2, w3, w4, w5, w6⟩ := ixs (m := k) (by omega)
      have hkl : k ≤ l.length := by omega
      have hi := H.out.item _ (List.getElem_mem hk)
      obtain ⟨he, hel⟩ := H.out.evs _ (List.getElem_mem hk)
      obtain ⟨z1, z2, z3⟩ := keptE_zero hk (bad_no HP.out)
      have g1 := p_CheckChain l[k].item l[k].events hel hi he
      rw [z3.ok] at g1
      have g2 := p_keptContains (l.take k) l[k] (by rw [take_len hkl]; omega)
      rw [sameK_take hkl, keptsA, List.map_take, z2] at g2
      have g3 := p_CheckItem l[k].item hi
      rw [z1] at g3
      have g4 := p_until l[k].item l[k].events day hel
      have g5 := p_right l[k].item (untilL l[k].events day) day (by simp only [untilL, List.length_take]; omega)
      have hd := dueP_at (day := day) hk
      have hlen := numF_len (dueP l day) k
      have hs := numF_succ (dueP l day) k
      rw [hd] at hs
      have hb : (numF (dueP l day) k).length + 1 ≤ 1000000000 := by omega
      generalize right (untilL l[k].events day) day = Rt at *
      generalize untilL l[k].events day = U at *
      clear z1 z2 z3 hi he hel hd hlen
      by_cases d1 : l[k].item.day ≤ day
      · by_cases d2 : Rt = 3
        · rw [if_pos (by simp [d1, d2])] at hs
          have HS := Lib.hid hs
          clear hs
          repeat' (first | (with_reducible first | refine vseq ?_ | refine vthenN ?_ | refine vthenE ?_ | refine vthenR ?_ | refine vret ?_ | refine vskip ?_ | refine vexit ?_ | refine vblock ?_ | refine vblockN ?_ | refine vblockR ?_ | refine vblockH ?_ | refine vrun_nil ?_ | refine vblockE rfl ?_ | refine vregion [] ?_ | refine vhrun_nil ?_) | ((with_reducible refine vcondT ?_ ?_); (focus (go_simp; done))) | ((with_reducible refine vcondF ?_ ?_); (focus (go_simp; done))) | ((with_reducible first | refine vrun_cons fun KK hKK => ?_ | refine vhrun_cons fun KK hKK => ?_); go_simp; (first | (with_reducible refine ⟨_, g1, ?_⟩) | (refine ⟨_, ⟨g2, rfl⟩, ?_⟩) | (with_reducible refine ⟨_, g3, ?_⟩) | (with_reducible refine ⟨_, p_unless _ _, ?_⟩) | (refine ⟨_, p_firstA _ rfl rfl, ?_⟩) | (with_reducible refine ⟨_, g4, ?_⟩) | (with_reducible refine ⟨_, g5, ?_⟩) | skip); refine hKK _ ?_; clear hKK KK) | ((with_reducible refine vcondS ?_ (fun ht => ?_) (fun ht => ?_)); (focus (go_simp; done)); (all_goals (simp [go_sem] at ht; replace ht := ht.out))) | ((apply vrun_consG0 rfl); (focus (go_simp <;> exact rfl)); (focus (go_simp; done)); (focus (intro hb0; replace hb0 := hb0.out; go_simp <;> (first | exact rfl | exact g1 | exact g2 | exact g3 | exact p_unless _ _ | exact p_firstA _ rfl rfl | exact g4 | exact g5 | exact ⟨g1, rfl⟩ | exact ⟨g2, rfl⟩ | exact ⟨g3, rfl⟩ | exact ⟨p_unless _ _, rfl⟩ | exact ⟨p_firstA _ rfl rfl, rfl⟩ | exact ⟨g4, rfl⟩ | exact ⟨g5, rfl⟩))); intro KK hKK; go_simp; refine hKK _ ?_; clear hKK KK))
          refine hK _ ?_
          rw [HS.out]
          go_simp
        · rw [if_neg (by simp [d1, d2])] at hs
          have HS := Lib.hid hs
          clear hs
          repeat' (first | (with_reducible first | refine vseq ?_ | refine vthenN ?_ | refine vthenE ?_ | refine vthenR ?_ | refine vret ?_ | refine vskip ?_ | refine vexit ?_ | refine vblock ?_ | refine vblockN ?_ | refine vblockR ?_ | refine vblockH ?_ | refine vrun_nil ?_ | refine vblockE rfl ?_ | refine vregion [] ?_ | refine vhrun_nil ?_) | ((with_reducible refine vcondT ?_ ?_); (focus (go_simp; done))) | ((with_reducible refine vcondF ?_ ?_); (focus (go_simp; done))) | ((with_reducible first | refine vrun_cons fun KK hKK => ?_ | refine vhrun_cons fun KK hKK => ?_); go_simp; (first | (with_reducible refine ⟨_, g1, ?_⟩) | (refine ⟨_, ⟨g2, rfl⟩, ?_⟩) | (with_reducible refine ⟨_, g3, ?_⟩) | (with_reducible refine ⟨_, p_unless _ _, ?_⟩) | (refine ⟨_, p_firstA _ rfl rfl, ?_⟩) | (with_reducible refine ⟨_, g4, ?_⟩) | (with_reducible refine ⟨_, g5, ?_⟩) | skip); refine hKK _ ?_; clear hKK KK) | ((with_reducible refine vcondS ?_ (fun ht => ?_) (fun ht => ?_)); (focus (go_simp; done)); (all_goals (simp [go_sem] at ht; replace ht := ht.out))) | ((apply vrun_consG0 rfl); (focus (go_simp <;> exact rfl)); (focus (go_simp; done)); (focus (intro hb0; replace hb0 := hb0.out; go_simp <;> (first | exact rfl | exact g1 | exact g2 | exact g3 | exact p_unless _ _ | exact p_firstA _ rfl rfl | exact g4 | exact g5 | exact ⟨g1, rfl⟩ | exact ⟨g2, rfl⟩ | exact ⟨g3, rfl⟩ | exact ⟨p_unless _ _, rfl⟩ | exact ⟨p_firstA _ rfl rfl, rfl⟩ | exact ⟨g4, rfl⟩ | exact ⟨g5, rfl⟩))); intro KK hKK; go_simp; refine hKK _ ?_; clear hKK KK))
          refine hK _ ?_
          rw [HS.out]
          go_simp
      · rw [if_neg (by simp [d1])] at hs
        have HS := Lib.hid hs
        clear hs
        repeat' (first | (with_reducible first | refine vseq ?_ | refine vthenN ?_ | refine vthenE ?_ | refine vthenR ?_ | refine vret ?_ | refine vskip ?_ | refine vexit ?_ | refine vblock ?_ | refine vblockN ?_ | refine vblockR ?_ | refine vblockH ?_ | refine vrun_nil ?_ | refine vblockE rfl ?_ | refine vregion [] ?_ | refine vhrun_nil ?_) | ((with_reducible refine vcondT ?_ ?_); (focus (go_simp; done))) | ((with_reducible refine vcondF ?_ ?_); (focus (go_simp; done))) | ((with_reducible first | refine vrun_cons fun KK hKK => ?_ | refine vhrun_cons fun KK hKK => ?_); go_simp; (first | (with_reducible refine ⟨_, g1, ?_⟩) | (refine ⟨_, ⟨g2, rfl⟩, ?_⟩) | (with_reducible refine ⟨_, g3, ?_⟩) | (with_reducible refine ⟨_, p_unless _ _, ?_⟩) | (refine ⟨_, p_firstA _ rfl rfl, ?_⟩) | (with_reducible refine ⟨_, g4, ?_⟩) | skip); refine hKK _ ?_; clear hKK KK) | ((with_reducible refine vcondS ?_ (fun ht => ?_) (fun ht => ?_)); (focus (go_simp; done)); (all_goals (simp [go_sem] at ht; replace ht := ht.out))) | ((apply vrun_consG0 rfl); (focus (go_simp <;> exact rfl)); (focus (go_simp; done)); (focus (intro hb0; replace hb0 := hb0.out; go_simp <;> (first | exact rfl | exact g1 | exact g2 | exact g3 | exact p_unless _ _ | exact p_firstA _ rfl rfl | exact g4 | exact ⟨g1, rfl⟩ | exact ⟨g2, rfl⟩ | exact ⟨g3, rfl⟩ | exact ⟨p_unless _ _, rfl⟩ | exact ⟨p_firstA _ rfl rfl, rfl⟩ | exact ⟨g4, rfl⟩))); intro KK hKK; go_simp; refine hKK _ ?_; clear hKK KK))
        refine hK _ ?_
        rw [HS.out]
        go_simp
    · intro k hk HB HP K
      have hkl : k ≤ l.length := by omega
      have hi := H.out.item _ (List.getElem_mem hk)
      obtain ⟨he, hel⟩ := H.out.evs _ (List.getElem_mem hk)
      have g1 := p_CheckChain l[k].item l[k].events hel hi he
      have g2 := p_keptContains (l.take k) l[k] (by rw [take_len hkl]; omega)
      rw [sameK_take hkl, keptsA, List.map_take] at g2
      have g3 := p_CheckItem l[k].item hi
      have e := HR.out
      rw [firstErr_hit hk HB.out HP.out] at e
      simp only at e
      have hne := bad_yes HP.out
      rw [e] at hne
      rw [keptE_at hk] at e
      have hE := HE.out
      rw [if_pos hne] at hE
      rw [hE]
      have g6 := p_first [thingErr l[k].item, unl (!anyP (sameK l l[k].item) 0 k) 5, (checkChain l[k].item l[k].events).2] (by simp)
      rw [e] at g6
      generalize checkChain l[k].item l[k].events = C at *
      generalize thingErr l[k].item = T at *
      generalize anyP (sameK l l[k].item) 0 k = A at *
      clear hi he hel e hE
      repeat' (first | (with_reducible first | refine vseq ?_ | refine vthenN ?_ | refine vthenE ?_ | refine vthenR ?_ | refine vret ?_ | refine vskip ?_ | refine vexit ?_ | refine vblock ?_ | refine vblockN ?_ | refine vblockR ?_ | refine vblockH ?_ | refine vrun_nil ?_ | refine vblockE rfl ?_ | refine vregion [] ?_ | refine vhrun_nil ?_) | ((with_reducible refine vcondT ?_ ?_); (focus (go_simp; done))) | ((with_reducible refine vcondF ?_ ?_); (focus (go_simp; done))) | ((with_reducible first | refine vrun_cons fun KK hKK => ?_ | refine vhrun_cons fun KK hKK => ?_); go_simp; (first | (with_reducible refine ⟨_, g1, ?_⟩) | (refine ⟨_, ⟨g2, rfl⟩, ?_⟩) | (with_reducible refine ⟨_, g3, ?_⟩) | (with_reducible refine ⟨_, p_unless _ _, ?_⟩) | (refine ⟨_, g6, ?_⟩) | skip); refine hKK _ ?_; clear hKK KK) | ((with_reducible refine vcondS ?_ (fun ht => ?_) (fun ht => ?_)); (focus (go_simp; done)); (all_goals (simp [go_sem] at ht; replace ht := ht.out))) | ((apply vrun_consG0 rfl); (focus (go_simp <;> exact rfl)); (focus (go_simp; done)); (focus (intro hb0; replace hb0 := hb0.out; go_simp <;> (first | exact rfl | exact g1 | exact g2 | exact g3 | exact p_unless _ _ | exact g6 | exact ⟨g1, rfl⟩ | exact ⟨g2, rfl⟩ | exact ⟨g3, rfl⟩ | exact ⟨p_unless _ _, rfl⟩ | exact ⟨g6, rfl⟩))); intro KK hKK; go_simp; refine hKK _ ?_; clear hKK KK))
      go_simp
    · intro HB K
      have e := HR.out
      rw [firstErr_out HB.out] at e
      have hE := HE.out
      simp only at e
      rw [if_neg (by simpa using e.symm)] at hE
      have hL : overL l day = if unl (isDate day) 2 = 0 then numF (dueP l day) l.length else [] := by unfold overL; rw [hE]
      rw [hL, hE]
      clear hE hL e HB HR HE
      cases hdt : isDate day
      · have g := p_isDate day
        rw [hdt] at g
        clear hdt
        repeat' (first | (with_reducible first | refine vseq ?_ | refine vthenN ?_ | refine vthenE ?_ | refine vthenR ?_ | refine vret ?_ | refine vskip ?_ | refine vexit ?_ | refine vblock ?_ | refine vblockN ?_ | refine vblockR ?_ | refine vblockH ?_ | refine vrun_nil ?_ | refine vblockE rfl ?_ | refine vregion [] ?_ | refine vhrun_nil ?_) | ((with_reducible refine vcondT ?_ ?_); (focus (go_simp; done))) | ((with_reducible refine vcondF ?_ ?_); (focus (go_simp; done))) | ((with_reducible first | refine vrun_cons fun KK hKK => ?_ | refine vhrun_cons fun KK hKK => ?_); go_simp; (first | (with_reducible refine ⟨_, g, ?_⟩) | skip); refine hKK _ ?_; clear hKK KK) | ((with_reducible refine vcondS ?_ (fun ht => ?_) (fun ht => ?_)); (focus (go_simp; done)); (all_goals (simp [go_sem] at ht; replace ht := ht.out))) | ((apply vrun_consG0 rfl); (focus (go_simp <;> exact rfl)); (focus (go_simp; done)); (focus (intro hb0; replace hb0 := hb0.out; go_simp <;> (first | exact rfl | exact g | exact ⟨g, rfl⟩))); intro KK hKK; go_simp; refine hKK _ ?_; clear hKK KK))
        go_simp
      · have g := p_isDate day
        rw [hdt] at g
        clear hdt
        repeat' (first | (with_reducible first | refine vseq ?_ | refine vthenN ?_ | refine vthenE ?_ | refine vthenR ?_ | refine vret ?_ | refine vskip ?_ | refine vexit ?_ | refine vblock ?_ | refine vblockN ?_ | refine vblockR ?_ | refine vblockH ?_ | refine vrun_nil ?_ | refine vblockE rfl ?_ | refine vregion [] ?_ | refine vhrun_nil ?_) | ((with_reducible refine vcondT ?_ ?_); (focus (go_simp; done))) | ((with_reducible refine vcondF ?_ ?_); (focus (go_simp; done))) | ((with_reducible first | refine vrun_cons fun KK hKK => ?_ | refine vhrun_cons fun KK hKK => ?_); go_simp; (first | (with_reducible refine ⟨_, g, ?_⟩) | skip); refine hKK _ ?_; clear hKK KK) | ((with_reducible refine vcondS ?_ (fun ht => ?_) (fun ht => ?_)); (focus (go_simp; done)); (all_goals (simp [go_sem] at ht; replace ht := ht.out))) | ((apply vrun_consG0 rfl); (focus (go_simp <;> exact rfl)); (focus (go_simp; done)); (focus (intro hb0; replace hb0 := hb0.out; go_simp <;> (first | exact rfl | exact g | exact ⟨g, rfl⟩))); intro KK hKK; go_simp; refine hKK _ ?_; clear hKK KK))
        go_simp
theorem p_OverdueS (l : List Kept) (day : Int) (h : SmallK l) : VC Tryd.prog 52 [keptsA l, I day] (.tup [.sl 1 ((overL l day).map intA), I (overE l day)]) := by
  refine (p_Overdue l day h).weak fun w M v hv => ?_
  by_cases h0 : overE l day = 0
  · rwa [if_pos h0] at hv
  · rw [if_neg h0] at hv
    have hL : overL l day = [] := if_neg h0
    rw [hL]
    cases hv with
    | tup cs us hl hh =>
      refine .tup _ us hl fun i c u hc hu => ?_
      rcases i with _ | i
      · simp only [List.getElem?_cons_zero, Option.some.injEq] at hc
        subst hc
        exact (hh 0 nil_ u rfl hu).nilSl 1
      · exact hh (i + 1) c u hc hu
end Go.Proofs.YthbgghmjbaldlaaDoor

/-! QX: Walks on plain values: items to which the office has the right, of the reference; copies of kept items; texts of at most 1000 bytes. -/
namespace Go.Proofs.YthbgghmjbaldlaaDoor
open Go.RowKit
set_option maxRecDepth 100000
set_option maxHeartbeats 1000000
def upK (l : List Kept) (k : Nat) : List Kept := l.take k
theorem upK_succ {l : List Kept} {k : Nat} (h : k < l.length) : upK l (k + 1) = upK l k ++ [l[k]] := by unfold upK; rw [List.take_add_one, List.getElem?_eq_getElem h]; rfl
theorem upK_len {l : List Kept} {k : Nat} (h : k ≤ l.length) : (upK l k).length = k := take_len h
@[go_sem] theorem upK_0 (l : List Kept) : upK l 0 = [] := rfl
theorem upK_all (l : List Kept) : upK l l.length = l := List.take_length
theorem kept_one (l : List Kept) : ∀ (k : Nat) (x : List AV), (l.map Kept.av)[k]? = some x → x.length = 5 ∧ ∀ c ∈ x, oneAV c = true := fun k x hx => by
  obtain ⟨y, hy, rfl⟩ := map_at hx
  exact ⟨rfl, by simp [Kept.av, oneAV, Value.oneCell']⟩
theorem o_CopyKept (l : List Kept) (h : SmallK l) : VCo Tryd.prog 53 [keptsA l] 87 5 (decide (l = [])) (l.map Kept.av) := by
  have H := Lib.hid h
  have hfew := h.few
  clear h
  refine VCo_of Tryd.func53 rfl (by kernel_rfl) (by kernel_rfl) rfl Tryd.results53 (by decide) (kept_one l) fun M0 w0 => ?_
  simp only [Tryd.ntmps53, enumA]
  repeat' (first | (with_reducible first | refine vseq ?_ | refine vthenN ?_ | refine vthenE ?_ | refine vthenR ?_ | refine vret ?_ | refine vskip ?_ | refine vexit ?_ | refine vblock ?_ | refine vblockN ?_ | refine vblockR ?_ | refine vblockH ?_ | refine vrun_nil ?_ | refine vblockE rfl ?_ | refine vregion [3] ?_ | refine vhrun_nil ?_) | ((with_reducible refine vcondT ?_ ?_); (focus (go_simp; done))) | ((with_reducible refine vcondF ?_ ?_); (focus (go_simp; done))) | ((with_reducible first | refine vrun_cons fun KK hKK => ?_ | refine vhrun_cons fun KK hKK => ?_); go_simp; refine hKK _ ?_; clear hKK KK) | ((refine vdrawL 17 15 [3] rfl (by kernel_rfl) (by kernel_rfl) ?_); simp only [List.append, List.take, List.drop]) | ((with_reducible refine vcondS ?_ (fun ht => ?_) (fun ht => ?_)); (focus (go_simp; done)); (all_goals (simp [go_sem] at ht; replace ht := ht.out))))
  apply vcnt [0] (fun k => [(4, I (k : Int)), (3, .osl 0)]) (fun k => ([some (.arr 87 5 (decide (upK l k = [])) ((upK l k).map Kept.av))] : Hp))  (l.length)
  · go_simp <;> exact rfl
  · go_simp
  · intro k hk K hK
    obtain ⟨w1, w2, w3, w4, w5, w6⟩ := ixs (m := k) (by omega)
    have hs := upK_succ hk
    have hnl := upK_len (l := l) (k := k) (by omega)
    have hb : (upK l k).length + 1 ≤ 1000000000 := by omega
    have g1 := v_CopyItem l[k].item (by have := (H.out.item _ (List.getElem_mem hk)).few; omega)
    have g2 := VC_of_own (o_CopyEvents l[k].events (H.out.evs _ (List.getElem_mem hk)).2)
    clear hnl
    have HS := Lib.hid hs
    clear hs
    repeat' (first | (with_reducible first | refine vseq ?_ | refine vthenN ?_ | refine vthenE ?_ | refine vthenR ?_ | refine vret ?_ | refine vskip ?_ | refine vexit ?_ | refine vblock ?_ | refine vblockN ?_ | refine vblockR ?_ | refine vblockH ?_ | refine vrun_nil ?_ | refine vblockE rfl ?_ | refine vregion [] ?_ | refine vhrun_nil ?_) | ((with_reducible refine vcondT ?_ ?_); (focus (go_simp; done))) | ((with_reducible refine vcondF ?_ ?_); (focus (go_simp; done))) | ((with_reducible first | refine vrun_cons fun KK hKK => ?_ | refine vhrun_cons fun KK hKK => ?_); go_simp; (first | (with_reducible refine ⟨_, g1, ?_⟩) | (with_reducible refine ⟨_, g2, ?_⟩) | skip); refine hKK _ ?_; clear hKK KK) | ((refine vdrawL 17 15 [] rfl (by kernel_rfl) (by kernel_rfl) ?_); simp only [List.take, List.drop]) | ((with_reducible refine vcondS ?_ (fun ht => ?_) (fun ht => ?_)); (focus (go_simp; done)); (all_goals (simp [go_sem] at ht; replace ht := ht.out))))
    refine hK _ ?_
    rw [HS.out]
    go_simp
  · intro K
    rw [upK_all]
    repeat' (first | (with_reducible first | refine vseq ?_ | refine vthenN ?_ | refine vthenE ?_ | refine vthenR ?_ | refine vret ?_ | refine vskip ?_ | refine vexit ?_ | refine vblock ?_ | refine vblockN ?_ | refine vblockR ?_ | refine vblockH ?_ | refine vrun_nil ?_ | refine vblockE rfl ?_ | refine vregion [] ?_ | refine vhrun_nil ?_) | ((with_reducible refine vcondT ?_ ?_); (focus (go_simp; done))) | ((with_reducible refine vcondF ?_ ?_); (focus (go_simp; done))) | ((with_reducible first | refine vrun_cons fun KK hKK => ?_ | refine vhrun_cons fun KK hKK => ?_); go_simp; refine hKK _ ?_; clear hKK KK) | ((refine vdrawL 17 15 [] rfl (by kernel_rfl) (by kernel_rfl) ?_); simp only [List.append, List.take, List.drop]) | ((with_reducible refine vcondS ?_ (fun ht => ?_) (fun ht => ?_)); (focus (go_simp; done)); (all_goals (simp [go_sem] at ht; replace ht := ht.out))))
    exact ⟨0, rfl, rfl⟩
theorem rightR_of {x : Item} {l : List Event} {d : Int} (h : Chain x l) : rightR (untilL l d) d = right (untilL l d) d := by
  rw [untilL_eq]
  exact rightR_eq fun h0 => (h.kindOK (upL_le l d) h0).2
theorem r_Overdue (l : List Kept) (day : Int) (h : SmallK l) : VC Tryd.prog 54 [keptsA l, I day] (.tup [if overE l day = 0 then .sl 1 ((overL l day).map intA) else nil_, I (overE l day)]) := by
  have hfew := h.few
  have H := Lib.hid h
  clear h
  by_cases h40 : (40 : Int) < l.length
  · have e : overE l day = 8 := if_pos h40
    rw [e]
    refine VC_of Tryd.func54 rfl (by kernel_rfl) (by kernel_rfl) rfl fun M0 w0 => ?_
    simp only [Tryd.ntmps54, Tryd.results54, enumA]
    repeat' (first | (with_reducible first | refine vseq ?_ | refine vthenN ?_ | refine vthenE ?_ | refine vthenR ?_ | refine vret ?_ | refine vskip ?_ | refine vexit ?_ | refine vblock ?_ | refine vblockN ?_ | refine vblockR ?_ | refine vblockH ?_ | refine vrun_nil ?_ | refine vblockE rfl ?_ | refine vregion [] ?_ | refine vhrun_nil ?_) | ((with_reducible refine vcondT ?_ ?_); (focus (go_simp; done))) | ((with_reducible refine vcondF ?_ ?_); (focus (go_simp; done))) | ((with_reducible first | refine vrun_cons fun KK hKK => ?_ | refine vhrun_cons fun KK hKK => ?_); go_simp; refine hKK _ ?_; clear hKK KK) | ((refine vdrawL 16 16 [] rfl (by kernel_rfl) (by kernel_rfl) ?_); simp only [List.append, List.take, List.drop]) | ((with_reducible refine vcondS ?_ (fun ht => ?_) (fun ht => ?_)); (focus (go_simp; done)); (all_goals (simp [go_sem] at ht; replace ht := ht.out))) | ((apply vrun_consG0 rfl); (focus (go_simp <;> exact rfl)); (focus (go_simp; done)); (focus (intro hb0; replace hb0 := hb0.out; go_simp <;> (first | exact rfl))); intro KK hKK; go_simp; refine hKK _ ?_; clear hKK KK) | ((apply vhrun_consG0 rfl); (focus (go_simp <;> exact rfl)); (focus (intro hb0; replace hb0 := hb0.out; go_simp <;> (first | exact rfl))); intro KK hKK; go_simp; refine hKK _ ?_; clear hKK KK))
    go_simp
  · obtain ⟨R, hR⟩ : ∃ R, (firstErr (keptE l) 0 l.length).2 = R := ⟨_, rfl⟩
    have hE : overE l day = if R ≠ 0 then R else unl (isDate day) 2 := by unfold overE; rw [if_neg h40, hR]
    have HR := Lib.hid hR
    have HE := Lib.hid hE
    clear hR hE
    refine VC_of Tryd.func54 rfl (by kernel_rfl) (by kernel_rfl) rfl fun M0 w0 => ?_
    simp only [Tryd.ntmps54, Tryd.results54, enumA]
    repeat' (first | (with_reducible first | refine vseq ?_ | refine vthenN ?_ | refine vthenE ?_ | refine vthenR ?_ | refine vret ?_ | refine vskip ?_ | refine vexit ?_ | refine vblock ?_ | refine vblockN ?_ | refine vblockR ?_ | refine vblockH ?_ | refine vrun_nil ?_ | refine vblockE rfl ?_ | refine vregion [6] ?_ | refine vhrun_nil ?_) | ((with_reducible refine vcondT ?_ ?_); (focus (go_simp; done))) | ((with_reducible refine vcondF ?_ ?_); (focus (go_simp; done))) | ((with_reducible first | refine vrun_cons fun KK hKK => ?_ | refine vhrun_cons fun KK hKK => ?_); go_simp; refine hKK _ ?_; clear hKK KK) | ((refine vdrawL 16 16 [6] rfl (by kernel_rfl) (by kernel_rfl) ?_); simp only [List.append, List.take, List.drop]) | ((with_reducible refine vcondS ?_ (fun ht => ?_) (fun ht => ?_)); (focus (go_simp; done)); (all_goals (simp [go_sem] at ht; replace ht := ht.out))) | ((apply vrun_consG0 rfl); (focus (go_simp <;> exact rfl)); (focus (go_simp; done)); (focus (intro hb0; replace hb0 := hb0.out; go_simp <;> (first | exact rfl))); intro KK hKK; go_simp; refine hKK _ ?_; clear hKK KK) | ((apply vhrun_consG0 rfl); (focus (go_simp <;> exact rfl)); (focus (intro hb0; replace hb0 := hb0.out; go_simp <;> (first | exact rfl))); intro KK hKK; go_simp; refine hKK _ ?_; clear hKK KK))
    apply vfor [0, 1] (fun k => [(7, I k), (6, .osl 0)]) (fun k => ([some (.arr 9 1 (decide (namesTo (itemsOf l) k = [])) ((namesTo (itemsOf l) k).map txtA))] : Hp)) (bad (keptE l)) (l.length)
    · go_simp <;> exact rfl
    · go_simp
    · intro k hk HB HP K hK
      obtain ⟨w1, w2, w3, w4, w5, w6⟩ := ixs (m := k) (by omega)
      have hki : k ≤ (itemsOf l).length := by rw [itemsOf_len]; omega
      have hi := H.out.item _ (List.getElem_mem hk)
      obtain ⟨he, hel⟩ := H.out.evs _ (List.getElem_mem hk)
      obtain ⟨z1, z2, z3⟩ := keptE_zero hk (bad_no HP.out)
      have g1 := r_CheckChain l[k].item l[k].events hel hi he
      rw [z3.ok] at g1
      have hnl := namesTo_len hki
      have g2 := b_HasText (namesTo (itemsOf l) k) l[k].item.name (by omega)
      rw [names_any hki, sameK_of (by omega), z2] at g2
      have g3 := r_CheckItem l[k].item hi
      rw [z1] at g3
      have hs := namesTo_succ (l := itemsOf l) (k := k) (by rw [itemsOf_len]; omega)
      rw [get_of] at hs
      have hb : (namesTo (itemsOf l) k).length + 1 ≤ 1000000000 := by omega
      have HS := Lib.hid hs
      clear hs hnl z1 z2 z3 hi he hel
      repeat' (first | (with_reducible first | refine vseq ?_ | refine vthenN ?_ | refine vthenE ?_ | refine vthenR ?_ | refine vret ?_ | refine vskip ?_ | refine vexit ?_ | refine vblock ?_ | refine vblockN ?_ | refine vblockR ?_ | refine vblockH ?_ | refine vrun_nil ?_ | refine vblockE rfl ?_ | refine vregion [] ?_ | refine vhrun_nil ?_) | ((with_reducible refine vcondT ?_ ?_); (focus (go_simp; done))) | ((with_reducible refine vcondF ?_ ?_); (focus (go_simp; done))) | ((with_reducible first | refine vrun_cons fun KK hKK => ?_ | refine vhrun_cons fun KK hKK => ?_); go_simp; (first | (with_reducible refine ⟨_, g3, ?_⟩) | (refine ⟨_, ⟨g2, rfl⟩, ?_⟩) | (with_reducible refine ⟨_, g1, ?_⟩) | skip); refine hKK _ ?_; clear hKK KK) | ((refine vdrawL 16 16 [] rfl (by kernel_rfl) (by kernel_rfl) ?_); simp only [List.take, List.drop]) | ((with_reducible refine vcondS ?_ (fun ht => ?_) (fun ht => ?_)); (focus (go_simp; done)); (all_goals (simp [go_sem] at ht; replace ht := ht.out))) | ((apply vrun_consG0 rfl); (focus (go_simp <;> exact rfl)); (focus (go_simp; done)); (focus (intro hb0; replace hb0 := hb0.out; go_simp <;> (first | exact rfl | exact g3 | exact g2 | exact g1 | exact ⟨g3, rfl⟩ | exact ⟨g2, rfl⟩ | exact ⟨g1, rfl⟩))); intro KK hKK; go_simp; refine hKK _ ?_; clear hKK KK) | ((apply vhrun_consG0 rfl); (focus (go_simp <;> exact rfl)); (focus (intro hb0; replace hb0 := hb0.out; go_simp <;> (first | exact rfl | exact g3 | exact g2 | exact g1 | exact ⟨g3, rfl⟩ | exact ⟨g2, rfl⟩ | exact ⟨g1, rfl⟩))); intro KK hKK; go_simp; refine hKK _ ?_; clear hKK KK))
      refine hK _ ?_
      rw [HS.out]
      go_simp
    · intro k hk HB HP K
      have hki : k ≤ (itemsOf l).length := by rw [itemsOf_len]; omega
      have hi := H.out.item _ (List.getElem_mem hk)
      obtain ⟨he, hel⟩ := H.out.evs _ (List.getElem_mem hk)
      have g1 := r_CheckChain l[k].item l[k].events hel hi he
      have hnl := namesTo_len hki
      have g2 := b_HasText (namesTo (itemsOf l) k) l[k].item.name (by omega)
      rw [names_any hki, sameK_of (by omega)] at g2
      have g3 := r_CheckItem l[k].item hi
      have hs := namesTo_succ (l := itemsOf l) (k := k) (by rw [itemsOf_len]; omega)
      have hb : (namesTo (itemsOf l) k).length + 1 ≤ 1000000000 := by omega
      have e := HR.out
      rw [firstErr_hit hk HB.out HP.out] at e
      simp only at e
      have hne := bad_yes HP.out
      rw [e] at hne
      rw [keptE_at hk] at e
      have hE := HE.out
      rw [if_pos hne] at hE
      rw [hE]
      clear hi he hel hE hs hnl
      generalize checkChain l[k].item l[k].events = C at *
      generalize thingErr l[k].item = T at *
      generalize anyP (sameK l l[k].item) 0 k = A at *
      by_cases hT : T = 0
      · subst hT
        cases A
        · have e5 : R = C.2 := by rw [← e]; simp [fst, unl]; exact fun h => h.symm
          subst e5
          clear e
          repeat' (first | (with_reducible first | refine vseq ?_ | refine vthenN ?_ | refine vthenE ?_ | refine vthenR ?_ | refine vret ?_ | refine vskip ?_ | refine vexit ?_ | refine vblock ?_ | refine vblockN ?_ | refine vblockR ?_ | refine vblockH ?_ | refine vrun_nil ?_ | refine vblockE rfl ?_ | refine vregion [] ?_ | refine vhrun_nil ?_) | ((with_reducible refine vcondT ?_ ?_); (focus (go_simp; done))) | ((with_reducible refine vcondF ?_ ?_); (focus (go_simp; done))) | ((with_reducible first | refine vrun_cons fun KK hKK => ?_ | refine vhrun_cons fun KK hKK => ?_); go_simp; (first | (with_reducible refine ⟨_, g3, ?_⟩) | (refine ⟨_, ⟨g2, rfl⟩, ?_⟩) | (with_reducible refine ⟨_, g1, ?_⟩) | skip); refine hKK _ ?_; clear hKK KK) | ((refine vdrawL 16 16 [] rfl (by kernel_rfl) (by kernel_rfl) ?_); simp only [List.take, List.drop]) | ((with_reducible refine vcondS ?_ (fun ht => ?_) (fun ht => ?_)); (focus (go_simp; done)); (all_goals (simp [go_sem] at ht; replace ht := ht.out))) | ((apply vrun_consG0 rfl); (focus (go_simp <;> exact rfl)); (focus (go_simp; done)); (focus (intro hb0; replace hb0 := hb0.out; go_simp <;> (first | exact rfl | exact g3 | exact g2 | exact g1 | exact ⟨g3, rfl⟩ | exact ⟨g2, rfl⟩ | exact ⟨g1, rfl⟩))); intro KK hKK; go_simp; refine hKK _ ?_; clear hKK KK) | ((apply vhrun_consG0 rfl); (focus (go_simp <;> exact rfl)); (focus (intro hb0; replace hb0 := hb0.out; go_simp <;> (first | exact rfl | exact g3 | exact g2 | exact g1 | exact ⟨g3, rfl⟩ | exact ⟨g2, rfl⟩ | exact ⟨g1, rfl⟩))); intro KK hKK; go_simp; refine hKK _ ?_; clear hKK KK))
          go_simp
        · have e5 : R = 5 := by rw [← e]; simp [fst, unl]
          subst e5
          clear e
          repeat' (first | (with_reducible first | refine vseq ?_ | refine vthenN ?_ | refine vthenE ?_ | refine vthenR ?_ | refine vret ?_ | refine vskip ?_ | refine vexit ?_ | refine vblock ?_ | refine vblockN ?_ | refine vblockR ?_ | refine vblockH ?_ | refine vrun_nil ?_ | refine vblockE rfl ?_ | refine vregion [] ?_ | refine vhrun_nil ?_) | ((with_reducible refine vcondT ?_ ?_); (focus (go_simp; done))) | ((with_reducible refine vcondF ?_ ?_); (focus (go_simp; done))) | ((with_reducible first | refine vrun_cons fun KK hKK => ?_ | refine vhrun_cons fun KK hKK => ?_); go_simp; (first | (with_reducible refine ⟨_, g3, ?_⟩) | (refine ⟨_, ⟨g2, rfl⟩, ?_⟩) | skip); refine hKK _ ?_; clear hKK KK) | ((refine vdrawL 16 16 [] rfl (by kernel_rfl) (by kernel_rfl) ?_); simp only [List.append, List.take, List.drop]) | ((with_reducible refine vcondS ?_ (fun ht => ?_) (fun ht => ?_)); (focus (go_simp; done)); (all_goals (simp [go_sem] at ht; replace ht := ht.out))) | ((apply vrun_consG0 rfl); (focus (go_simp <;> exact rfl)); (focus (go_simp; done)); (focus (intro hb0; replace hb0 := hb0.out; go_simp <;> (first | exact rfl | exact g3 | exact g2 | exact ⟨g3, rfl⟩ | exact ⟨g2, rfl⟩))); intro KK hKK; go_simp; refine hKK _ ?_; clear hKK KK) | ((apply vhrun_consG0 rfl); (focus (go_simp <;> exact rfl)); (focus (intro hb0; replace hb0 := hb0.out; go_simp <;> (first | exact rfl | exact g3 | exact g2 | exact ⟨g3, rfl⟩ | exact ⟨g2, rfl⟩))); intro KK hKK; go_simp; refine hKK _ ?_; clear hKK KK))
          go_simp
      · have e5 : R = T := by rw [← e]; simp [fst, hT]
        subst e5
        clear e
        repeat' (first | (with_reducible first | refine vseq ?_ | refine vthenN ?_ | refine vthenE ?_ | refine vthenR ?_ | refine vret ?_ | refine vskip ?_ | refine vexit ?_ | refine vblock ?_ | refine vblockN ?_ | refine vblockR ?_ | refine vblockH ?_ | refine vrun_nil ?_ | refine vblockE rfl ?_ | refine vregion [] ?_ | refine vhrun_nil ?_) | ((with_reducible refine vcondT ?_ ?_); (focus (go_simp; done))) | ((with_reducible refine vcondF ?_ ?_); (focus (go_simp; done))) | ((with_reducible first | refine vrun_cons fun KK hKK => ?_ | refine vhrun_cons fun KK hKK => ?_); go_simp; (first | (with_reducible refine ⟨_, g3, ?_⟩) | skip); refine hKK _ ?_; clear hKK KK) | ((refine vdrawL 16 16 [] rfl (by kernel_rfl) (by kernel_rfl) ?_); simp only [List.append, List.take, List.drop]) | ((with_reducible refine vcondS ?_ (fun ht => ?_) (fun ht => ?_)); (focus (go_simp; done)); (all_goals (simp [go_sem] at ht; replace ht := ht.out))) | ((apply vrun_consG0 rfl); (focus (go_simp <;> exact rfl)); (focus (go_simp; done)); (focus (intro hb0; replace hb0 := hb0.out; go_simp <;> (first | exact rfl | exact g3 | exact ⟨g3, rfl⟩))); intro KK hKK; go_simp; refine hKK _ ?_; clear hKK KK) | ((apply vhrun_consG0 rfl); (focus (go_simp <;> exact rfl)); (focus (intro hb0; replace hb0 := hb0.out; go_simp <;> (first | exact rfl | exact g3 | exact ⟨g3, rfl⟩))); intro KK hKK; go_simp; refine hKK _ ?_; clear hKK KK))
        go_simp
    · intro HB K
      have e := HR.out
      rw [firstErr_out HB.out] at e
      have hE := HE.out
      simp only at e
      rw [if_neg (by simpa using e.symm)] at hE
      have hL : overL l day = if unl (isDate day) 2 = 0 then numF (dueP l day) l.length else [] := by unfold overL; rw [hE]
      rw [hL, hE]
      have hch : ∀ k, (hk : k < l.length) → Chain l[k].item l[k].events := fun k hk => (keptE_zero hk (bad_no (HB.out k hk))).2.2
      have HC := Lib.hid hch
      have g := b_within day 0 100000
      clear hE hL e HB HR HE hch
      unfold isDate
      cases hdt : inR day 0 100000
      · rw [hdt] at g
        clear hdt
        repeat' (first | (with_reducible first | refine vseq ?_ | refine vthenN ?_ | refine vthenE ?_ | refine vthenR ?_ | refine vret ?_ | refine vskip ?_ | refine vexit ?_ | refine vblock ?_ | refine vblockN ?_ | refine vblockR ?_ | refine vblockH ?_ | refine vrun_nil ?_ | refine vblockE rfl ?_ | refine vregion [] ?_ | refine vhrun_nil ?_) | ((with_reducible refine vcondT ?_ ?_); (focus (go_simp; done))) | ((with_reducible refine vcondF ?_ ?_); (focus (go_simp; done))) | ((with_reducible first | refine vrun_cons fun KK hKK => ?_ | refine vhrun_cons fun KK hKK => ?_); go_simp; (first | (with_reducible refine ⟨_, g, ?_⟩) | skip); refine hKK _ ?_; clear hKK KK) | ((refine vdrawL 16 16 [] rfl (by kernel_rfl) (by kernel_rfl) ?_); simp only [List.append, List.take, List.drop]) | ((with_reducible refine vcondS ?_ (fun ht => ?_) (fun ht => ?_)); (focus (go_simp; done)); (all_goals (simp [go_sem] at ht; replace ht := ht.out))) | ((apply vrun_consG0 rfl); (focus (go_simp <;> exact rfl)); (focus (go_simp; done)); (focus (intro hb0; replace hb0 := hb0.out; go_simp <;> (first | exact rfl | exact g | exact ⟨g, rfl⟩))); intro KK hKK; go_simp; refine hKK _ ?_; clear hKK KK) | ((apply vhrun_consG0 rfl); (focus (go_simp <;> exact rfl)); (focus (intro hb0; replace hb0 := hb0.out; go_simp <;> (first | exact rfl | exact g | exact ⟨g, rfl⟩))); intro KK hKK; go_simp; refine hKK _ ?_; clear hKK KK))
        go_simp
      · rw [hdt] at g
        clear hdt
        repeat' (first | (with_reducible first | refine vseq ?_ | refine vthenN ?_ | refine vthenE ?_ | refine vthenR ?_ | refine vret ?_ | refine vskip ?_ | refine vexit ?_ | refine vblock ?_ | refine vblockN ?_ | refine vblockR ?_ | refine vblockH ?_ | refine vrun_nil ?_ | refine vblockE rfl ?_ | refine vregion [11] ?_ | refine vhrun_nil ?_) | ((with_reducible refine vcondT ?_ ?_); (focus (go_simp; done))) | ((with_reducible refine vcondF ?_ ?_); (focus (go_simp; done))) | ((with_reducible first | refine vrun_cons fun KK hKK => ?_ | refine vhrun_cons fun KK hKK => ?_); go_simp; (first | (with_reducible refine ⟨_, g, ?_⟩) | skip); refine hKK _ ?_; clear hKK KK) | ((refine vdrawL 16 16 [11] rfl (by kernel_rfl) (by kernel_rfl) ?_); simp only [List.append, List.take, List.drop]) | ((with_reducible refine vcondS ?_ (fun ht => ?_) (fun ht => ?_)); (focus (go_simp; done)); (all_goals (simp [go_sem] at ht; replace ht := ht.out))) | ((apply vrun_consG0 rfl); (focus (go_simp <;> exact rfl)); (focus (go_simp; done)); (focus (intro hb0; replace hb0 := hb0.out; go_simp <;> (first | exact rfl | exact g | exact ⟨g, rfl⟩))); intro KK hKK; go_simp; refine hKK _ ?_; clear hKK KK) | ((apply vhrun_consG0 rfl); (focus (go_simp <;> exact rfl)); (focus (intro hb0; replace hb0 := hb0.out; go_simp <;> (first | exact rfl | exact g | exact ⟨g, rfl⟩))); intro KK hKK; go_simp; refine hKK _ ?_; clear hKK KK))
        apply vcnt [0, 1] (fun k => [(12, I (k : Int)), (11, .osl 1)]) (fun k => ([none, some (.arr 3 1 (decide (numF (dueP l day) k = [])) ((numF (dueP l day) k).map intA))] : Hp))  (l.length)
        · go_simp <;> exact rfl
        · go_simp
        · intro k hk K hK
          obtain ⟨w1, w2, w3, w4, w5, w6⟩ := ixs (m := k) (by omega)
          have hel := (H.out.evs _ (List.getElem_mem hk)).2
          have g5 := r_RightAt l[k].events day hel
          rw [rightR_of (HC.out k hk)] at g5
          have hd := dueP_at (day := day) hk
          have hlen := numF_len (dueP l day) k
          have hs := numF_succ (dueP l day) k
          rw [hd] at hs
          have hb : (numF (dueP l day) k).length + 1 ≤ 1000000000 := by omega
          generalize right (untilL l[k].events day) day = Rt at *
          clear hel hd hlen
          by_cases d1 : l[k].item.day ≤ day
          · by_cases d2 : Rt = 3
            · rw [if_pos (by simp [d1, d2])] at hs
              have HS := Lib.hid hs
              clear hs
              repeat' (first | (with_reducible first | refine vseq ?_ | refine vthenN ?_ | refine vthenE ?_ | refine vthenR ?_ | refine vret ?_ | refine vskip ?_ | refine vexit ?_ | refine vblock ?_ | refine vblockN ?_ | refine vblockR ?_ | refine vblockH ?_ | refine vrun_nil ?_ | refine vblockE rfl ?_ | refine vregion [] ?_ | refine vhrun_nil ?_) | ((with_reducible refine vcondT ?_ ?_); (focus (go_simp; done))) | ((with_reducible refine vcondF ?_ ?_); (focus (go_simp; done))) | ((with_reducible first | refine vrun_cons fun KK hKK => ?_ | refine vhrun_cons fun KK hKK => ?_); go_simp; (first | (with_reducible refine ⟨_, g5, ?_⟩) | skip); refine hKK _ ?_; clear hKK KK) | ((refine vdrawL 16 16 [] rfl (by kernel_rfl) (by kernel_rfl) ?_); simp only [List.append, List.take, List.drop]) | ((with_reducible refine vcondS ?_ (fun ht => ?_) (fun ht => ?_)); (focus (go_simp; done)); (all_goals (simp [go_sem] at ht; replace ht := ht.out))) | ((apply vrun_consG0 rfl); (focus (go_simp <;> exact rfl)); (focus (go_simp; done)); (focus (intro hb0; replace hb0 := hb0.out; go_simp <;> (first | exact rfl | exact g5 | exact ⟨g5, rfl⟩))); intro KK hKK; go_simp; refine hKK _ ?_; clear hKK KK) | ((apply vhrun_consG0 rfl); (focus (go_simp <;> exact rfl)); (focus (intro hb0; replace hb0 := hb0.out; go_simp <;> (first | exact rfl | exact g5 | exact ⟨g5, rfl⟩))); intro KK hKK; go_simp; refine hKK _ ?_; clear hKK KK))
              refine hK _ ?_
              rw [HS.out]
              go_simp
            · rw [if_neg (by simp [d1, d2])] at hs
              have HS := Lib.hid hs
              clear hs
              repeat' (first | (with_reducible first | refine vseq ?_ | refine vthenN ?_ | refine vthenE ?_ | refine vthenR ?_ | refine vret ?_ | refine vskip ?_ | refine vexit ?_ | refine vblock ?_ | refine vblockN ?_ | refine vblockR ?_ | refine vblockH ?_ | refine vrun_nil ?_ | refine vblockE rfl ?_ | refine vregion [] ?_ | refine vhrun_nil ?_) | ((with_reducible refine vcondT ?_ ?_); (focus (go_simp; done))) | ((with_reducible refine vcondF ?_ ?_); (focus (go_simp; done))) | ((with_reducible first | refine vrun_cons fun KK hKK => ?_ | refine vhrun_cons fun KK hKK => ?_); go_simp; (first | (with_reducible refine ⟨_, g5, ?_⟩) | skip); refine hKK _ ?_; clear hKK KK) | ((refine vdrawL 16 16 [] rfl (by kernel_rfl) (by kernel_rfl) ?_); simp only [List.append, List.take, List.drop]) | ((with_reducible refine vcondS ?_ (fun ht => ?_) (fun ht => ?_)); (focus (go_simp; done)); (all_goals (simp [go_sem] at ht; replace ht := ht.out))) | ((apply vrun_consG0 rfl); (focus (go_simp <;> exact rfl)); (focus (go_simp; done)); (focus (intro hb0; replace hb0 := hb0.out; go_simp <;> (first | exact rfl | exact g5 | exact ⟨g5, rfl⟩))); intro KK hKK; go_simp; refine hKK _ ?_; clear hKK KK) | ((apply vhrun_consG0 rfl); (focus (go_simp <;> exact rfl)); (focus (intro hb0; replace hb0 := hb0.out; go_simp <;> (first | exact rfl | exact g5 | exact ⟨g5, rfl⟩))); intro KK hKK; go_simp; refine hKK _ ?_; clear hKK KK))
              refine hK _ ?_
              rw [HS.out]
              go_simp
          · rw [if_neg (by simp [d1])] at hs
            have HS := Lib.hid hs
            clear hs
            repeat' (first | (with_reducible first | refine vseq ?_ | refine vthenN ?_ | refine vthenE ?_ | refine vthenR ?_ | refine vret ?_ | refine vskip ?_ | refine vexit ?_ | refine vblock ?_ | refine vblockN ?_ | refine vblockR ?_ | refine vblockH ?_ | refine vrun_nil ?_ | refine vblockE rfl ?_ | refine vregion [] ?_ | refine vhrun_nil ?_) | ((with_reducible refine vcondT ?_ ?_); (focus (go_simp; done))) | ((with_reducible refine vcondF ?_ ?_); (focus (go_simp; done))) | ((with_reducible first | refine vrun_cons fun KK hKK => ?_ | refine vhrun_cons fun KK hKK => ?_); go_simp; refine hKK _ ?_; clear hKK KK) | ((refine vdrawL 16 16 [] rfl (by kernel_rfl) (by kernel_rfl) ?_); simp only [List.append, List.take, List.drop]) | ((with_reducible refine vcondS ?_ (fun ht => ?_) (fun ht => ?_)); (focus (go_simp; done)); (all_goals (simp [go_sem] at ht; replace ht := ht.out))) | ((apply vrun_consG0 rfl); (focus (go_simp <;> exact rfl)); (focus (go_simp; done)); (focus (intro hb0; replace hb0 := hb0.out; go_simp <;> (first | exact rfl))); intro KK hKK; go_simp; refine hKK _ ?_; clear hKK KK) | ((apply vhrun_consG0 rfl); (focus (go_simp <;> exact rfl)); (focus (intro hb0; replace hb0 := hb0.out; go_simp <;> (first | exact rfl))); intro KK hKK; go_simp; refine hKK _ ?_; clear hKK KK))
            refine hK _ ?_
            rw [HS.out]
            go_simp
        · intro K
          repeat' (first | (with_reducible first | refine vseq ?_ | refine vthenN ?_ | refine vthenE ?_ | refine vthenR ?_ | refine vret ?_ | refine vskip ?_ | refine vexit ?_ | refine vblock ?_ | refine vblockN ?_ | refine vblockR ?_ | refine vblockH ?_ | refine vrun_nil ?_ | refine vblockE rfl ?_ | refine vregion [] ?_ | refine vhrun_nil ?_) | ((with_reducible refine vcondT ?_ ?_); (focus (go_simp; done))) | ((with_reducible refine vcondF ?_ ?_); (focus (go_simp; done))) | ((with_reducible first | refine vrun_cons fun KK hKK => ?_ | refine vhrun_cons fun KK hKK => ?_); go_simp; refine hKK _ ?_; clear hKK KK) | ((refine vdrawL 16 16 [] rfl (by kernel_rfl) (by kernel_rfl) ?_); simp only [List.append, List.take, List.drop]) | ((with_reducible refine vcondS ?_ (fun ht => ?_) (fun ht => ?_)); (focus (go_simp; done)); (all_goals (simp [go_sem] at ht; replace ht := ht.out))) | ((apply vrun_consG0 rfl); (focus (go_simp <;> exact rfl)); (focus (go_simp; done)); (focus (intro hb0; replace hb0 := hb0.out; go_simp <;> (first | exact rfl))); intro KK hKK; go_simp; refine hKK _ ?_; clear hKK KK) | ((apply vhrun_consG0 rfl); (focus (go_simp <;> exact rfl)); (focus (intro hb0; replace hb0 := hb0.out; go_simp <;> (first | exact rfl))); intro KK hKK; go_simp; refine hKK _ ?_; clear hKK KK))
          go_simp
theorem r_OverdueS (l : List Kept) (day : Int) (h : SmallK l) : VC Tryd.prog 54 [keptsA l, I day] (.tup [.sl 1 ((overL l day).map intA), I (overE l day)]) := by
  refine (r_Overdue l day h).weak fun w M v hv => ?_
  by_cases h0 : overE l day = 0
  · rwa [if_pos h0] at hv
  · rw [if_neg h0] at hv
    have hL : overL l day = [] := if_neg h0
    rw [hL]
    cases hv with
    | tup cs us hl hh =>
      refine .tup _ us hl fun i c u hc hu => ?_
      rcases i with _ | i
      · simp only [List.getElem?_cons_zero, Option.some.injEq] at hc
        subst hc
        exact (hh 0 nil_ u rfl hu).nilSl 1
      · exact hh (i + 1) c u hc hu
end Go.Proofs.YthbgghmjbaldlaaDoor
