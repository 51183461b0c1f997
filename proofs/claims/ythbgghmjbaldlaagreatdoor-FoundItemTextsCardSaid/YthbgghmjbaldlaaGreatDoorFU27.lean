/- Texts in one: The law of items' texts: true whatever the input is. -/
import Derived.Test.YthbgghmjbaldlaaGreatDoorFU17
import Derived.Test.YthbgghmjbaldlaaGreatDoorFU26
/-! SU1: The law of items' texts: true whatever the input is. -/
namespace Go.Proofs.YthbgghmjbaldlaaGreatDoor
open Go.RowKit
set_option maxRecDepth 100000
set_option maxHeartbeats 1000000
theorem l_ItemTexts (x : Item) (s : ByteArray) (hx : BigI x) (hs : s.size ≤ 9223372036854775807) (hd : -9223372036854775808 ≤ x.day ∧ x.day ≤ 9223372036854775807) : VC Tryz.prog 7 [itemA x, S s] (B true) := by
  have ha := l_awake
  have i1 := l_item x hx
  cases s1 : shortI x
  · rw [s1] at i1
    clear s1 hx hd
    refine VC_of Tryz.func7 rfl (by kernel_rfl) (by kernel_rfl) rfl fun M0 w0 => ?_
    simp only [Tryz.ntmps7, Tryz.results7, enumA]
    repeat' (first | (with_reducible first | refine vseq ?_ | refine vthenN ?_ | refine vthenE ?_ | refine vthenR ?_ | refine vret ?_ | refine vskip ?_ | refine vexit ?_ | refine vblock ?_ | refine vblockN ?_ | refine vblockR ?_ | refine vblockH ?_ | refine vrun_nil ?_ | refine vblockE rfl ?_ | refine vregion [] ?_ | refine vhrun_nil ?_) | ((with_reducible refine vcondT ?_ ?_); (focus (go_simp; done))) | ((with_reducible refine vcondF ?_ ?_); (focus (go_simp; done))) | ((with_reducible first | refine vrun_cons fun KK hKK => ?_ | refine vhrun_cons fun KK hKK => ?_); go_simp; (first | (with_reducible refine ⟨_, ha, ?_⟩) | (with_reducible refine ⟨_, i1, ?_⟩) | skip); refine hKK _ ?_; clear hKK KK) | ((with_reducible refine vcondS ?_ (fun ht => ?_) (fun ht => ?_)); (focus (go_simp; done)); (all_goals (simp [go_sem] at ht; replace ht := ht.out))) | ((apply vrun_consG0 rfl); (focus (go_simp <;> exact rfl)); (focus (go_simp; done)); (focus (intro hb0; replace hb0 := hb0.out; go_simp <;> (first | exact rfl | exact ha | exact i1 | exact ⟨ha, rfl⟩ | exact ⟨i1, rfl⟩))); intro KK hKK; go_simp; refine hKK _ ?_; clear hKK KK) | ((apply vrun_consG1 rfl); (focus (go_simp <;> exact rfl)); (focus (go_simp; done)); (focus (intro hb0 hb1; replace hb0 := hb0.out; replace hb1 := hb1.out; go_simp <;> (first | exact rfl | exact ha | exact i1 | exact ⟨ha, rfl⟩ | exact ⟨i1, rfl⟩))); intro KK hKK; go_simp; refine hKK _ ?_; clear hKK KK))
    go_simp
  rw [s1] at i1
  by_cases h4 : (300 : Int) < s.size
  · clear s1 hx hd
    refine VC_of Tryz.func7 rfl (by kernel_rfl) (by kernel_rfl) rfl fun M0 w0 => ?_
    simp only [Tryz.ntmps7, Tryz.results7, enumA]
    repeat' (first | (with_reducible first | refine vseq ?_ | refine vthenN ?_ | refine vthenE ?_ | refine vthenR ?_ | refine vret ?_ | refine vskip ?_ | refine vexit ?_ | refine vblock ?_ | refine vblockN ?_ | refine vblockR ?_ | refine vblockH ?_ | refine vrun_nil ?_ | refine vblockE rfl ?_ | refine vregion [] ?_ | refine vhrun_nil ?_) | ((with_reducible refine vcondT ?_ ?_); (focus (go_simp; done))) | ((with_reducible refine vcondF ?_ ?_); (focus (go_simp; done))) | ((with_reducible first | refine vrun_cons fun KK hKK => ?_ | refine vhrun_cons fun KK hKK => ?_); go_simp; (first | (with_reducible refine ⟨_, ha, ?_⟩) | (with_reducible refine ⟨_, i1, ?_⟩) | skip); refine hKK _ ?_; clear hKK KK) | ((with_reducible refine vcondS ?_ (fun ht => ?_) (fun ht => ?_)); (focus (go_simp; done)); (all_goals (simp [go_sem] at ht; replace ht := ht.out))) | ((apply vrun_consG0 rfl); (focus (go_simp <;> exact rfl)); (focus (go_simp; done)); (focus (intro hb0; replace hb0 := hb0.out; go_simp <;> (first | exact rfl | exact ha | exact i1 | exact ⟨ha, rfl⟩ | exact ⟨i1, rfl⟩))); intro KK hKK; go_simp; refine hKK _ ?_; clear hKK KK) | ((apply vrun_consG1 rfl); (focus (go_simp <;> exact rfl)); (focus (go_simp; done)); (focus (intro hb0 hb1; replace hb0 := hb0.out; replace hb1 := hb1.out; go_simp <;> (first | exact rfl | exact ha | exact i1 | exact ⟨ha, rfl⟩ | exact ⟨i1, rfl⟩))); intro KK hKK; go_simp; refine hKK _ ?_; clear hKK KK))
    go_simp
  obtain ⟨x1, x2⟩ := shortI_small s1
  have hsz := itTo_size2 s1 hd x.marks.length (Nat.le_refl _)
  have g1 := v_CopyItem x (by omega)
  have g2 := p_FormatItem2 x x1 hd
  have g3 := rd_weak (p_ParseItem s (by omega))
  have g4 := rd_weak (r_ParseItem s (by omega))
  have g5 := r_FormatItem x x1 hd
  have l1 := rd_len s
  have l2 := rd_len (itTo x x.marks.length)
  have g7 := rd_weak (p_ParseItem (itTo x x.marks.length) (by omega))
  have g8 := r_CheckItem x x1
  have g6 := r_SameItem (rdI (readIt (pieces 32 s))) (rdI (readIt (pieces 32 s))) (by omega) (by omega)
  rw [sameItem_self] at g6
  have g9 := r_SameItem (rdI (readIt (pieces 32 (itTo x x.marks.length)))) x (by omega) (by omega)
  have hb := @it_back x
  clear l1 l2 hsz x1 x2 s1 hx hd
  generalize rdI (readIt (pieces 32 s)) = y at *
  generalize (readIt (pieces 32 s)).2 = e at *
  by_cases k1 : thingErr x = 0
  · rw [hb k1] at g7 g9
    have e1 : rdI (x, 0) = x := rfl
    rw [e1] at g7 g9
    rw [sameItem_self] at g9
    rw [k1] at g8
    generalize itTo x x.marks.length = t at *
    clear hb k1
    refine VC_of Tryz.func7 rfl (by kernel_rfl) (by kernel_rfl) rfl fun M0 w0 => ?_
    simp only [Tryz.ntmps7, Tryz.results7, enumA]
    repeat' (first | (with_reducible first | refine vseq ?_ | refine vthenN ?_ | refine vthenE ?_ | refine vthenR ?_ | refine vret ?_ | refine vskip ?_ | refine vexit ?_ | refine vblock ?_ | refine vblockN ?_ | refine vblockR ?_ | refine vblockH ?_ | refine vrun_nil ?_ | refine vblockE rfl ?_ | refine vregion [] ?_ | refine vhrun_nil ?_) | ((with_reducible refine vcondT ?_ ?_); (focus (go_simp; done))) | ((with_reducible refine vcondF ?_ ?_); (focus (go_simp; done))) | ((with_reducible first | refine vrun_cons fun KK hKK => ?_ | refine vhrun_cons fun KK hKK => ?_); go_simp; (first | (with_reducible refine ⟨_, ha, ?_⟩) | (with_reducible refine ⟨_, i1, ?_⟩) | (with_reducible refine ⟨_, g1, ?_⟩) | (with_reducible refine ⟨_, g2, ?_⟩) | (refine ⟨_, g3, ?_⟩) | (refine ⟨_, g4, ?_⟩) | (with_reducible refine ⟨_, g5, ?_⟩) | (refine ⟨_, g6, ?_⟩) | (refine ⟨_, g7, ?_⟩) | (with_reducible refine ⟨_, g8, ?_⟩) | (refine ⟨_, g9, ?_⟩) | skip); refine hKK _ ?_; clear hKK KK) | ((with_reducible refine vcondS ?_ (fun ht => ?_) (fun ht => ?_)); (focus (go_simp; done)); (all_goals (simp [go_sem] at ht; replace ht := ht.out))) | ((apply vrun_consG0 rfl); (focus (go_simp <;> exact rfl)); (focus (go_simp; done)); (focus (intro hb0; replace hb0 := hb0.out; go_simp <;> (first | exact rfl | exact ha | exact i1 | exact g1 | exact g2 | exact g3 | exact g4 | exact g5 | exact g6 | exact g7 | exact g8 | exact g9 | exact ⟨ha, rfl⟩ | exact ⟨i1, rfl⟩ | exact ⟨g1, rfl⟩ | exact ⟨g2, rfl⟩ | exact ⟨g3, rfl⟩ | exact ⟨g4, rfl⟩ | exact ⟨g5, rfl⟩ | exact ⟨g6, rfl⟩ | exact ⟨g7, rfl⟩ | exact ⟨g8, rfl⟩ | exact ⟨g9, rfl⟩))); intro KK hKK; go_simp; refine hKK _ ?_; clear hKK KK) | ((apply vrun_consG1 rfl); (focus (go_simp <;> exact rfl)); (focus (go_simp; done)); (focus (intro hb0 hb1; replace hb0 := hb0.out; replace hb1 := hb1.out; go_simp <;> (first | exact rfl | exact ha | exact i1 | exact g1 | exact g2 | exact g3 | exact g4 | exact g5 | exact g6 | exact g7 | exact g8 | exact g9 | exact ⟨ha, rfl⟩ | exact ⟨i1, rfl⟩ | exact ⟨g1, rfl⟩ | exact ⟨g2, rfl⟩ | exact ⟨g3, rfl⟩ | exact ⟨g4, rfl⟩ | exact ⟨g5, rfl⟩ | exact ⟨g6, rfl⟩ | exact ⟨g7, rfl⟩ | exact ⟨g8, rfl⟩ | exact ⟨g9, rfl⟩))); intro KK hKK; go_simp; refine hKK _ ?_; clear hKK KK))
    go_simp
  · generalize rdI (readIt (pieces 32 (itTo x x.marks.length))) = z at *
    generalize (readIt (pieces 32 (itTo x x.marks.length))).2 = f at *
    generalize itTo x x.marks.length = t at *
    generalize thingErr x = E at *
    generalize sameItem z x = Q at *
    clear hb
    refine VC_of Tryz.func7 rfl (by kernel_rfl) (by kernel_rfl) rfl fun M0 w0 => ?_
    simp only [Tryz.ntmps7, Tryz.results7, enumA]
    repeat' (first | (with_reducible first | refine vseq ?_ | refine vthenN ?_ | refine vthenE ?_ | refine vthenR ?_ | refine vret ?_ | refine vskip ?_ | refine vexit ?_ | refine vblock ?_ | refine vblockN ?_ | refine vblockR ?_ | refine vblockH ?_ | refine vrun_nil ?_ | refine vblockE rfl ?_ | refine vregion [] ?_ | refine vhrun_nil ?_) | ((with_reducible refine vcondT ?_ ?_); (focus (go_simp; done))) | ((with_reducible refine vcondF ?_ ?_); (focus (go_simp; done))) | ((with_reducible first | refine vrun_cons fun KK hKK => ?_ | refine vhrun_cons fun KK hKK => ?_); go_simp; (first | (with_reducible refine ⟨_, ha, ?_⟩) | (with_reducible refine ⟨_, i1, ?_⟩) | (with_reducible refine ⟨_, g1, ?_⟩) | (with_reducible refine ⟨_, g2, ?_⟩) | (refine ⟨_, g3, ?_⟩) | (refine ⟨_, g4, ?_⟩) | (with_reducible refine ⟨_, g5, ?_⟩) | (refine ⟨_, g6, ?_⟩) | (refine ⟨_, g7, ?_⟩) | (with_reducible refine ⟨_, g8, ?_⟩) | (refine ⟨_, g9, ?_⟩) | skip); refine hKK _ ?_; clear hKK KK) | ((with_reducible refine vcondS ?_ (fun ht => ?_) (fun ht => ?_)); (focus (go_simp; done)); (all_goals (simp [go_sem] at ht; replace ht := ht.out))) | ((apply vrun_consG0 rfl); (focus (go_simp <;> exact rfl)); (focus (go_simp; done)); (focus (intro hb0; replace hb0 := hb0.out; go_simp <;> (first | exact rfl | exact ha | exact i1 | exact g1 | exact g2 | exact g3 | exact g4 | exact g5 | exact g6 | exact g7 | exact g8 | exact g9 | exact ⟨ha, rfl⟩ | exact ⟨i1, rfl⟩ | exact ⟨g1, rfl⟩ | exact ⟨g2, rfl⟩ | exact ⟨g3, rfl⟩ | exact ⟨g4, rfl⟩ | exact ⟨g5, rfl⟩ | exact ⟨g6, rfl⟩ | exact ⟨g7, rfl⟩ | exact ⟨g8, rfl⟩ | exact ⟨g9, rfl⟩))); intro KK hKK; go_simp; refine hKK _ ?_; clear hKK KK) | ((apply vrun_consG1 rfl); (focus (go_simp <;> exact rfl)); (focus (go_simp; done)); (focus (intro hb0 hb1; replace hb0 := hb0.out; replace hb1 := hb1.out; go_simp <;> (first | exact rfl | exact ha | exact i1 | exact g1 | exact g2 | exact g3 | exact g4 | exact g5 | exact g6 | exact g7 | exact g8 | exact g9 | exact ⟨ha, rfl⟩ | exact ⟨i1, rfl⟩ | exact ⟨g1, rfl⟩ | exact ⟨g2, rfl⟩ | exact ⟨g3, rfl⟩ | exact ⟨g4, rfl⟩ | exact ⟨g5, rfl⟩ | exact ⟨g6, rfl⟩ | exact ⟨g7, rfl⟩ | exact ⟨g8, rfl⟩ | exact ⟨g9, rfl⟩))); intro KK hKK; go_simp; refine hKK _ ?_; clear hKK KK))
    go_simp
end Go.Proofs.YthbgghmjbaldlaaGreatDoor
