/- Texts in one: The top law of chapter 9: told and read; true whatever the input is. -/
import Derived.Test.YthbgghmjbaldlaaGreatDoorFT18
import Derived.Test.YthbgghmjbaldlaaGreatDoorFT28
import Derived.Test.YthbgghmjbaldlaaGreatDoorFT29
import Derived.Test.YthbgghmjbaldlaaGreatDoorFT27
import Derived.Test.YthbgghmjbaldlaaGreatDoorFT12
/-! ST5: The top law of chapter 9: told and read; true whatever the input is. -/
namespace Go.Proofs.YthbgghmjbaldlaaGreatDoor
open Go.RowKit
set_option maxRecDepth 100000
set_option maxHeartbeats 1000000
theorem Chain.ev {x : Item} {l : List Event} (h : Chain x l) {k : Nat} (hk : k < l.length) : evE (eat l k) = 0 ∧ word (eat l k).kind ≠ ⟨#[]⟩ := by
  have hz := h.each k hk
  unfold chainE at hz
  have h1 := of_decide_eq_true (unl_zero (fst_zero hz (unl (decide ((eat l k).item = x.name)) 6) (by simp)) (by decide))
  have h2 := unl_zero (fst_zero hz (unl (isName (eat l k).frm && isName (eat l k).dst) 4) (by simp)) (by decide)
  have h3 := unl_zero (fst_zero hz (unl (isDate (eat l k).day) 2) (by simp)) (by decide)
  have hn := (day_of h.item).1
  rw [Bool.and_eq_true] at h2
  refine ⟨?_, word_ne (h.kind hk)⟩
  unfold evE
  rw [h1, hn, h2.1, h2.2]
  have h4 : inR (eat l k).day 0 100000 = true := h3
  rw [h4]
  rfl
def toldTo (l : List Event) (k : Nat) : List Event := l.take k
@[go_sem] theorem toldTo_0 (l : List Event) : toldTo l 0 = [] := rfl
theorem toldTo_s {l : List Event} {k : Nat} (h : k < l.length) : toldTo l (k + 1) = toldTo l k ++ [l[k]] := by
  unfold toldTo
  rw [List.take_add_one, List.getElem?_eq_getElem h]
  rfl
theorem toldTo_len {l : List Event} {k : Nat} (h : k ≤ l.length) : (toldTo l k).length = k := by
  unfold toldTo
  rw [List.length_take]
  omega
theorem toldTo_all {l : List Event} : toldTo l l.length = l := List.take_length
theorem evText_size {x : Event} (h1 : x.item.size ≤ 100) (h2 : x.frm.size ≤ 100) (h3 : x.dst.size ≤ 100) (hd : -9223372036854775808 ≤ x.day ∧ x.day ≤ 9223372036854775807) : (evText x).size ≤ 1000 := by
  have s1 := decT_size x.day hd
  have s2 := word_size x.kind
  unfold evText
  split
  · decide
  · have e : (⟨#[32]⟩ : ByteArray).size = 1 := rfl
    simp only [app_size, e]
    omega
theorem l_Told (x : Item) (l : List Event) (d : Int) (h : BigI x) (hl : l.length ≤ 9223372036854775807) (hd : ∀ v ∈ l, BigE v) : VC Tryz.prog 8 [itemA x, eventsA l, I d] (B true) := by
  have ha := l_foundAwake
  have h0 := l_Short x l h hl hd
  cases hs : shortC x l
  · rw [hs] at h0
    clear hs
    refine VC_of Tryz.func8 rfl (by kernel_rfl) (by kernel_rfl) rfl fun M0 w0 => ?_
    simp only [Tryz.ntmps8, Tryz.results8, enumA]
    repeat' (first | (with_reducible first | refine vseq ?_ | refine vthenN ?_ | refine vthenE ?_ | refine vthenR ?_ | refine vret ?_ | refine vskip ?_ | refine vexit ?_ | refine vblock ?_ | refine vblockN ?_ | refine vblockR ?_ | refine vblockH ?_ | refine vrun_nil ?_ | refine vblockE rfl ?_ | refine vregion [] ?_ | refine vhrun_nil ?_) | ((with_reducible refine vcondT ?_ ?_); (focus (go_simp; done))) | ((with_reducible refine vcondF ?_ ?_); (focus (go_simp; done))) | ((with_reducible first | refine vrun_cons fun KK hKK => ?_ | refine vhrun_cons fun KK hKK => ?_); go_simp; (first | (with_reducible refine ⟨_, ha, ?_⟩) | (with_reducible refine ⟨_, h0, ?_⟩) | skip); refine hKK _ ?_; clear hKK KK) | ((with_reducible refine vcondS ?_ (fun ht => ?_) (fun ht => ?_)); (focus (go_simp; done)); (all_goals (simp [go_sem] at ht; replace ht := ht.out))) | ((apply vrun_consG0 rfl); (focus (go_simp <;> exact rfl)); (focus (go_simp; done)); (focus (intro hb0; replace hb0 := hb0.out; go_simp <;> (first | exact rfl | exact ha | exact h0 | exact ⟨ha, rfl⟩ | exact ⟨h0, rfl⟩))); intro KK hKK; go_simp; refine hKK _ ?_; clear hKK KK))
    go_simp
  rw [hs] at h0
  obtain ⟨s1, s2, s3, s4⟩ := shortC_small hs
  have r0 := r_ChainErr x l d (by omega) s1 s3
  by_cases hE : atErr x l d = 0
  · have hC := (at_zero hE).1
    have hdy := (day_of hC.item).2.2.1
    have hsI : shortI x = true := by
      simp only [shortC, Bool.and_eq_true] at hs
      first | exact hs.1.1 | exact hs.1 | exact hs.1.1.1
    have hsz := itTo_size2 hsI ⟨by omega, by omega⟩ x.marks.length (Nat.le_refl _)
    have h1 := v_CopyItem x (by have := s1.few; omega)
    have h2 := VC_of_own (o_CopyEvents l (by omega))
    have p1 := p_HolderAt x l d (by omega) s1 s3
    have p2 := p_StateAt x l d (by omega) s1 s3
    have p3 := p_RightAt x l d (by omega) s1 s3
    have f1 := p_FormatItem2 x s1 ⟨by omega, by omega⟩
    have hmk := (marks_names (day_of hC.item).2.2.2).1
    have f2 := rd_weak (p_ParseItem (itTo x x.marks.length) (by omega))
    rw [it_back hC.item] at f2
    have e1 : rdI (x, 0) = x := rfl
    rw [e1] at f2
    have f3 := r_SameItem x x (by omega) (by omega)
    rw [sameItem_self] at f3
    have hev : ∀ k (hk : k < l.length), VC Tryz.prog 26 [.agg l[k].av] (S (evText l[k])) ∧ VC Tryz.prog 27 [S (evText l[k])] (.tup [.agg l[k].av, I 0]) := fun k hk => by
      have hm := List.getElem_mem hk
      have hce := hC.ev hk
      have hcd := hC.day hk
      have hcl := h.name
      rw [eat_get hk] at hce hcd
      have hn : isName l[k].item = true ∧ isName l[k].frm = true ∧ isName l[k].dst = true := by
        have he := hce.1
        unfold evE at he
        split at he
        · rename_i hb
          simp only [Bool.and_eq_true] at hb
          exact ⟨hb.1.1, hb.1.2, hb.2⟩
        · cases he
      have t1 := name_le hn.1
      have t2 := name_le hn.2.1
      have t3 := name_le hn.2.2
      have g := p_ParseEvent (evText l[k]) (evText_size (by omega) (by omega) (by omega) ⟨by omega, by omega⟩)
      rw [ev_back hce.1 hce.2] at g
      exact ⟨p_FormatEvent l[k] (s3 _ hm) ⟨by omega, by omega⟩, g⟩
    have HV := Lib.hid hev
    have hfew := hC.few
    rw [hE, if_pos rfl] at p1 p2 p3
    rw [hE] at r0
    clear s1 s2 s3 s4 hs hsI hsz hmk h hl hd hdy hev hC
    generalize holder x (untilL l d) = Hd at *
    generalize state (untilL l d) = S1 at *
    generalize right (untilL l d) d = R at *
    generalize itTo x x.marks.length = t at *
    have H1 := Lib.hid h1
    have H2 := Lib.hid h2
    have P1 := Lib.hid p1
    have P2 := Lib.hid p2
    have P3 := Lib.hid p3
    clear hE
    refine VC_of Tryz.func8 rfl (by kernel_rfl) (by kernel_rfl) rfl fun M0 w0 => ?_
    simp only [Tryz.ntmps8, Tryz.results8, enumA]
    repeat' (first | (with_reducible first | refine vseq ?_ | refine vthenN ?_ | refine vthenE ?_ | refine vthenR ?_ | refine vret ?_ | refine vskip ?_ | refine vexit ?_ | refine vblock ?_ | refine vblockN ?_ | refine vblockR ?_ | refine vblockH ?_ | refine vrun_nil ?_ | refine vblockE rfl ?_ | refine vregion [9] ?_ | refine vhrun_nil ?_) | ((with_reducible refine vcondT ?_ ?_); (focus (go_simp; done))) | ((with_reducible refine vcondF ?_ ?_); (focus (go_simp; done))) | ((with_reducible first | refine vrun_cons fun KK hKK => ?_ | refine vhrun_cons fun KK hKK => ?_); go_simp; (first | (with_reducible refine ⟨_, ha, ?_⟩) | (with_reducible refine ⟨_, h0, ?_⟩) | (with_reducible refine ⟨_, r0, ?_⟩) | (with_reducible refine ⟨_, h1, ?_⟩) | (with_reducible refine ⟨_, f1, ?_⟩) | (refine ⟨_, f2, ?_⟩) | (refine ⟨_, f3, ?_⟩) | skip); refine hKK _ ?_; clear hKK KK) | ((with_reducible refine vcondS ?_ (fun ht => ?_) (fun ht => ?_)); (focus (go_simp; done)); (all_goals (simp [go_sem] at ht; replace ht := ht.out))) | ((apply vrun_consG0 rfl); (focus (go_simp <;> exact rfl)); (focus (go_simp; done)); (focus (intro hb0; replace hb0 := hb0.out; go_simp <;> (first | exact rfl | exact ha | exact h0 | exact r0 | exact h1 | exact f1 | exact f2 | exact f3 | exact ⟨ha, rfl⟩ | exact ⟨h0, rfl⟩ | exact ⟨r0, rfl⟩ | exact ⟨h1, rfl⟩ | exact ⟨f1, rfl⟩ | exact ⟨f2, rfl⟩ | exact ⟨f3, rfl⟩))); intro KK hKK; go_simp; refine hKK _ ?_; clear hKK KK))
    apply vcnt [1, 2, 3, 7] (fun k => [(10, I (k : Int)), (9, .osl 1)]) (fun k => ([some (.box [S x.name, I x.day, S x.who, .sl 2 (x.marks.map Mark.av)]), some (.arr 54 5 (decide (toldTo l k = [])) ((toldTo l k).map Event.av))] : Hp))  (l.length)
    · go_simp <;> exact rfl
    · go_simp
    · intro k hk K hK
      obtain ⟨w1, w2, w3, w4, w5, w6⟩ := ixs (m := k) (by omega)
      have hm := toldTo_s hk
      have hml := toldTo_len (l := l) (k := k) (by omega)
      obtain ⟨q1, q2⟩ := HV.out k hk
      generalize evText l[k] = u at *
      generalize toldTo l k = ms at *
      have HM := Lib.hid hm
      have hb : ms.length + 1 ≤ 1000000000 := by omega
      clear hm hml
      repeat' (first | (with_reducible first | refine vseq ?_ | refine vthenN ?_ | refine vthenE ?_ | refine vthenR ?_ | refine vret ?_ | refine vskip ?_ | refine vexit ?_ | refine vblock ?_ | refine vblockN ?_ | refine vblockR ?_ | refine vblockH ?_ | refine vrun_nil ?_ | refine vblockE rfl ?_ | refine vregion [] ?_ | refine vhrun_nil ?_) | ((with_reducible refine vcondT ?_ ?_); (focus (go_simp; done))) | ((with_reducible refine vcondF ?_ ?_); (focus (go_simp; done))) | ((with_reducible first | refine vrun_cons fun KK hKK => ?_ | refine vhrun_cons fun KK hKK => ?_); go_simp; (first | (refine ⟨_, q1, ?_⟩) | (refine ⟨_, q2, ?_⟩) | skip); refine hKK _ ?_; clear hKK KK) | ((with_reducible refine vcondS ?_ (fun ht => ?_) (fun ht => ?_)); (focus (go_simp; done)); (all_goals (simp [go_sem] at ht; replace ht := ht.out))) | ((apply vrun_consG0 rfl); (focus (go_simp <;> exact rfl)); (focus (go_simp; done)); (focus (intro hb0; replace hb0 := hb0.out; go_simp <;> (first | exact rfl | exact q1 | exact q2 | exact ⟨q1, rfl⟩ | exact ⟨q2, rfl⟩))); intro KK hKK; go_simp; refine hKK _ ?_; clear hKK KK))
      refine hK _ ?_
      rw [HM.out]
      go_simp
    · intro K
      rw [toldTo_all]
      have h1 := H1.out
      have h2 := H2.out
      have p1 := P1.out
      have p2 := P2.out
      have p3 := P3.out
      clear H1 H2 P1 P2 P3 HV
      refine vfreeze 9 1 (by go_simp) rfl ?_
      repeat' (first | (with_reducible first | refine vseq ?_ | refine vthenN ?_ | refine vthenE ?_ | refine vthenR ?_ | refine vret ?_ | refine vskip ?_ | refine vexit ?_ | refine vblock ?_ | refine vblockN ?_ | refine vblockR ?_ | refine vblockH ?_ | refine vrun_nil ?_ | refine vblockE rfl ?_ | refine vregion [] ?_ | refine vhrun_nil ?_) | ((with_reducible refine vcondT ?_ ?_); (focus (go_simp; done))) | ((with_reducible refine vcondF ?_ ?_); (focus (go_simp; done))) | ((with_reducible first | refine vrun_cons fun KK hKK => ?_ | refine vhrun_cons fun KK hKK => ?_); go_simp; (first | (with_reducible refine ⟨_, h1, ?_⟩) | (with_reducible refine ⟨_, h2, ?_⟩) | (with_reducible refine ⟨_, p1, ?_⟩) | (with_reducible refine ⟨_, p2, ?_⟩) | (with_reducible refine ⟨_, p3, ?_⟩) | skip); refine hKK _ ?_; clear hKK KK) | ((with_reducible refine vcondS ?_ (fun ht => ?_) (fun ht => ?_)); (focus (go_simp; done)); (all_goals (simp [go_sem] at ht; replace ht := ht.out))) | ((apply vrun_consG0 rfl); (focus (go_simp <;> exact rfl)); (focus (go_simp; done)); (focus (intro hb0; replace hb0 := hb0.out; go_simp <;> (first | exact rfl | exact h1 | exact h2 | exact p1 | exact p2 | exact p3 | exact ⟨h1, rfl⟩ | exact ⟨h2, rfl⟩ | exact ⟨p1, rfl⟩ | exact ⟨p2, rfl⟩ | exact ⟨p3, rfl⟩))); intro KK hKK; go_simp; refine hKK _ ?_; clear hKK KK))
      go_simp
  · have hE2 : ¬ atErr x l d = 0 := hE
    generalize atErr x l d = E at *
    clear s1 s2 s3 s4 hs h hl hd hE
    refine VC_of Tryz.func8 rfl (by kernel_rfl) (by kernel_rfl) rfl fun M0 w0 => ?_
    simp only [Tryz.ntmps8, Tryz.results8, enumA]
    repeat' (first | (with_reducible first | refine vseq ?_ | refine vthenN ?_ | refine vthenE ?_ | refine vthenR ?_ | refine vret ?_ | refine vskip ?_ | refine vexit ?_ | refine vblock ?_ | refine vblockN ?_ | refine vblockR ?_ | refine vblockH ?_ | refine vrun_nil ?_ | refine vblockE rfl ?_ | refine vregion [] ?_ | refine vhrun_nil ?_) | ((with_reducible refine vcondT ?_ ?_); (focus (go_simp; done))) | ((with_reducible refine vcondF ?_ ?_); (focus (go_simp; done))) | ((with_reducible first | refine vrun_cons fun KK hKK => ?_ | refine vhrun_cons fun KK hKK => ?_); go_simp; (first | (with_reducible refine ⟨_, ha, ?_⟩) | (with_reducible refine ⟨_, h0, ?_⟩) | (with_reducible refine ⟨_, r0, ?_⟩) | skip); refine hKK _ ?_; clear hKK KK) | ((with_reducible refine vcondS ?_ (fun ht => ?_) (fun ht => ?_)); (focus (go_simp; done)); (all_goals (simp [go_sem] at ht; replace ht := ht.out))) | ((apply vrun_consG0 rfl); (focus (go_simp <;> exact rfl)); (focus (go_simp; done)); (focus (intro hb0; replace hb0 := hb0.out; go_simp <;> (first | exact rfl | exact ha | exact h0 | exact r0 | exact ⟨ha, rfl⟩ | exact ⟨h0, rfl⟩ | exact ⟨r0, rfl⟩))); intro KK hKK; go_simp; refine hKK _ ?_; clear hKK KK))
    go_simp
end Go.Proofs.YthbgghmjbaldlaaGreatDoor
