/- Texts in one: Texts and numerals by the library's functions: cut at a byte, counted, read and written; the world's facts are those of the package variables that the walks read. -/
import Derived.Test.YthbgghmjbaldlaaGreatDoorFT19
import Derived.Test.YthbgghmjbaldlaaGreatDoorFT25
import Derived.Test.YthbgghmjbaldlaaGreatDoorFT17
/-! QP2: Texts and numerals by the library's functions: cut at a byte, counted, read and written; the world's facts are those of the package variables that the walks read. -/
namespace Go.Proofs.YthbgghmjbaldlaaGreatDoor
open Go.RowKit Go.Shelf
set_option maxRecDepth 100000
set_option maxHeartbeats 1000000
theorem below_draws {w : World} (n : Nat) : Below w.heap.size w (w.drewN n) := ⟨rfl, rfl, rfl, Nat.le_refl _, fun _ _ => rfl⟩
theorem below_grown (w : World) (k : Nat) (os : Array Obj) : Below w.heap.size w (Sort.grow (w.drewN k) os) :=
  ⟨rfl, rfl, rfl, by show w.heap.size ≤ (w.heap ++ os).size; rw [Array.size_append]; omega, fun j hj => by show (w.heap ++ os)[j]? = _; rw [Array.getElem?_append_left hj]⟩
theorem VC_mk1M {f : FuncId} {a r : AV} (hg : goesB Tryz.prog f = true) (h : ∀ w M v1, MOK w M → V0 w M a v1 → Calls Tryz.prog f #[v1] w fun e w' => ∃ v, e = .returned v ∧ Below w.heap.size w w' ∧ V0 w' M r v) : VC Tryz.prog f [a] r :=
  ⟨hg, fun w M vs hM hl hv => by
    obtain ⟨v1, rfl⟩ := List.length_eq_one_iff.1 hl
    exact h w M v1 hM (hv 0 a v1 rfl rfl)⟩
theorem VC_mk2M {f : FuncId} {a b r : AV} (hg : goesB Tryz.prog f = true) (h : ∀ w M v1 v2, MOK w M → V0 w M a v1 → V0 w M b v2 → Calls Tryz.prog f #[v1, v2] w fun e w' => ∃ v, e = .returned v ∧ Below w.heap.size w w' ∧ V0 w' M r v) : VC Tryz.prog f [a, b] r :=
  ⟨hg, fun w M vs hM hl hv => by
    match vs, hl with
    | [v1, v2], _ => exact h w M v1 v2 hM (hv 0 a v1 rfl rfl) (hv 1 b v2 rfl rfl)⟩
theorem gf {w : World} {M : Nat → Prop} (h : MOK w M) : gfact w := h.2.2.2
/-! ### Cutting -/
theorem pieces_count (c : UInt8) (s : ByteArray) : (pieces c s).length = Lib.countB s ⟨#[c]⟩ + 1 := by
  have h := Lib.splitB_all ⟨#[c]⟩ (Nat.le_refl _) 0 _ s rfl
  rw [split_cut c _ s rfl] at h
  exact h
theorem v_Split (s : ByteArray) (c : UInt8) (hs : s.size ≤ 1000000) : VC Tryz.prog 78 [S s, S ⟨#[c]⟩] (txtsA (pieces c s)) :=
  VC_mk2M (by kernel_rfl) fun w M v1 v2 hM h1 h2 => by
    obtain rfl := V0.lit_inv h1
    obtain rfl := V0.lit_inv h2
    obtain ⟨m, hm⟩ := (gf hM).1
    refine (Any.strings_Split laysSplit (by kernel_rfl) s ⟨#[c]⟩ m w (by omega) hm (Nat.le_refl _)).mono fun e w' ⟨he, hw⟩ => ⟨_, he, ?_, ?_⟩
    · rw [hw]
      exact (Below.refl _ w).alloc (Nat.le_refl _) _
    · have hl := pieces_count c s
      have hp : Lib.splitB ⟨#[c]⟩ 0 (Lib.countB s ⟨#[c]⟩) s = pieces c s := split_cut c _ s rfl
      have hlm : ((pieces c s).map txtA).length = Lib.countB s ⟨#[c]⟩ + 1 := by rw [List.length_map, hl]
      rw [hw, hp, ← hlm]
      refine .sl 1 _ _ _ 0 (fun k _ => .string (tat (pieces c s) k)) (fun hn => ?_) (by simp) (fun hmm => absurd (hM.1 _ hmm) (Nat.lt_irrefl _)) (Nat.le_refl _) (fun k x hx => ?_) (fun k x j d hx hd => ?_) (fun k j hk hj => ?_) (fun k x j d hx hd => ?_)
      · rw [hn] at hlm
        simp at hlm
      · obtain ⟨y, _, rfl⟩ := map_at hx
        rfl
      · obtain ⟨y, _, rfl⟩ := map_at hx
        rw [show txtA y = [S y] from rfl, List.getElem?_singleton] at hd
        split at hd
        · injection hd with hd
          subst hd
          rfl
        · cases hd
      · rw [List.length_map] at hk
        have hj0 : j = 0 := by omega
        subst hj0
        rw [show 0 + k * 1 + 0 = k by omega]
        refine (cell_push w _ _ k).trans ?_
        simp [hk, tat]
      · obtain ⟨y, hy, rfl⟩ := map_at hx
        rw [show txtA y = [S y] from rfl, List.getElem?_singleton] at hd
        split at hd
        · injection hd with hd
          subst hd
          simp only [tat, List.getD, hy, Option.getD_some]
          exact .lit _
        · cases hd
def cutA (c : UInt8) (s : ByteArray) : ByteArray := mkB (Lib.cut s.data.toList [c]).1
def cutB (c : UInt8) (s : ByteArray) : ByteArray := mkB (Lib.cut s.data.toList [c]).2.1
def cutQ (c : UInt8) (s : ByteArray) : Bool := (Lib.cut s.data.toList [c]).2.2
theorem v_Cut (s : ByteArray) (c : UInt8) (hs : s.size ≤ 1000000) : VC Tryz.prog 125 [S s, S ⟨#[c]⟩] (.tup [S (cutA c s), S (cutB c s), B (cutQ c s)]) :=
  VC_mk2M (by kernel_rfl) fun w M v1 v2 hM h1 h2 => by
    obtain rfl := V0.lit_inv h1
    obtain rfl := V0.lit_inv h2
    obtain ⟨m, hm⟩ := (gf hM).1
    refine (Any.strings_Cut laysCut s ⟨#[c]⟩ m w (by omega) hm).mono fun e w' ⟨he, n, hw⟩ => ⟨_, he, ?_, ?_⟩
    · rw [hw]
      exact below_draws n
    · refine .tup _ [_, _, _] rfl fun i a u ha hu => ?_
      match i with
      | 0 => cases ha; cases hu; exact .lit _
      | 1 => cases ha; cases hu; exact .lit _
      | 2 => cases ha; cases hu; exact .lit _
      | n + 3 => cases ha
theorem v_Count (s : ByteArray) (c : UInt8) : VC Tryz.prog 126 [S s, S ⟨#[c]⟩] (I ((pieces c s).length - 1 : Int)) :=
  VC_mk2M (by kernel_rfl) fun w M v1 v2 hM h1 h2 => by
    obtain rfl := V0.lit_inv h1
    obtain rfl := V0.lit_inv h2
    refine (Any.strings_Count_one laysCount s c w).mono fun e w' ⟨he, hw⟩ => ⟨_, he, hw ▸ Below.refl _ _, ?_⟩
    have : (((pieces c s).length : Int) - 1) = (Lib.countByte s.data.toList c : Nat) := by
      rw [pieces_count]
      have : Lib.countB s ⟨#[c]⟩ = Lib.countByte s.data.toList c := by
        show Lib.count s.data.toList [c] = _
        rw [Lib.count_one]
        rfl
      omega
    rw [this]
    exact .lit _
theorem v_TrimPrefix (s q : ByteArray) : VC Tryz.prog 123 [S s, S q] (S (mkB (Lib.trimPrefix s.data.toList q.data.toList))) :=
  VC_mk2M (by kernel_rfl) fun w M v1 v2 hM h1 h2 => by
    obtain rfl := V0.lit_inv h1
    obtain rfl := V0.lit_inv h2
    exact (Any.strings_TrimPrefix laysTrimP s q w).mono fun e w' ⟨he, hw⟩ => ⟨_, he, hw ▸ Below.refl _ _, .lit _⟩
/-! ### Numerals -/
theorem v_ItoaM (n : Int) (h : -9223372036854775808 ≤ n ∧ n ≤ 9223372036854775807) : VC Tryz.prog 77 [I n] (S (decT n)) :=
  VC_mk1M (by kernel_rfl) fun w M v1 hM h1 => by
    obtain rfl := V0.lit_inv h1
    refine (Any.strconv_Itoa laysItoaM n h.1 h.2 w (gf hM).2.1).mono fun e w' ⟨he, k, os, hw⟩ => ⟨_, he, ?_, .lit _⟩
    rw [hw]
    exact below_grown w k os
theorem v_AtoiOk (s : ByteArray) (hs : s.size ≤ 1000000) (v : Int) (h : Lib.atoiAll s.data.toList = .ok v) : VC Tryz.prog 122 [S s] (.tup [I v, .lit .nilIface]) :=
  VC_mk1M (by kernel_rfl) fun w M v1 hM h1 => by
    obtain rfl := V0.lit_inv h1
    refine (Any.strconv_Atoi_ok laysAtoi s (by omega) v h w).mono fun e w' ⟨he, hw⟩ => ⟨_, he, ?_, ?_⟩
    · rcases hw with rfl | ⟨t, rfl⟩
      · exact Below.refl _ _
      · exact Lib.bytesWorld_below _ _ _
    · refine .tup _ [_, _] rfl fun i a u ha hu => ?_
      match i with
      | 0 => cases ha; cases hu; exact .lit _
      | 1 => cases ha; cases hu; exact .lit _
      | n + 2 => cases ha
theorem v_AtoiSyn (s : ByteArray) (hs : s.size ≤ 1000000) (h1 : ∀ v, Lib.atoiAll s.data.toList ≠ .ok v) (h2 : Lib.atoiAll s.data.toList ≠ .range) : VC Tryz.prog 122 [S s] (.tup [I 0, .iface (laysAtoi_ren.t 168) .any]) :=
  VC_mk1M (by kernel_rfl) fun w M v1 hM h0 => by
    obtain rfl := V0.lit_inv h0
    obtain ⟨t, q, hc⟩ := (gf hM).2.2.1
    have hsy : Calls Tryz.prog 122 #[.string s] w fun e w' => ∃ n, e = .returned (.tuple #[.int .i64 0, .iface (laysAtoi_ren.t 168) (.pointer (some ⟨n, 0, none⟩))]) ∧ Below w.heap.size w w' := by
      cases hx : Lib.atoiAll s.data.toList with
      | ok v => exact absurd hx (h1 v)
      | range => exact absurd hx h2
      | _ => exact (Any.strconv_Atoi_syntax laysAtoi s (by omega) hx _ w hc (.inr ⟨_, _, rfl⟩)).mono fun e w' ⟨N, he, _, _, hw⟩ => ⟨N, he, hw⟩
    refine hsy.mono fun e w' ⟨N, he, hw⟩ => ⟨_, he, hw, ?_⟩
    refine .tup _ [_, _] rfl fun i a u ha hu => ?_
    match i with
    | 0 => cases ha; cases hu; exact .lit _
    | 1 => cases ha; cases hu; exact .iface _ _ _ (.any _)
    | n + 2 => cases ha
theorem v_AtoiRan (s : ByteArray) (hs : s.size ≤ 1000000) (h : Lib.atoiAll s.data.toList = .range) : VC Tryz.prog 122 [S s] (.tup [I (Lib.atoiSat s.data.toList), .iface (laysAtoi_ren.t 168) .any]) :=
  VC_mk1M (by kernel_rfl) fun w M v1 hM h1 => by
    obtain rfl := V0.lit_inv h1
    obtain ⟨t, q, hc⟩ := (gf hM).2.2.2
    refine (Any.strconv_Atoi_range laysAtoi s (by omega) h _ w hc (.inr ⟨_, _, rfl⟩)).mono fun e w' ⟨N, he, _, _, hw⟩ => ⟨_, he, hw, ?_⟩
    refine .tup _ [_, _] rfl fun i a u ha hu => ?_
    match i with
    | 0 => cases ha; cases hu; exact .lit _
    | 1 => cases ha; cases hu; exact .iface _ _ _ (.any _)
    | n + 2 => cases ha
end Go.Proofs.YthbgghmjbaldlaaGreatDoor

/-! QP3: Texts of the program: a text in a list, numbers and marks that are read; texts of at most 1000 bytes. -/
namespace Go.Proofs.YthbgghmjbaldlaaGreatDoor
open Go.RowKit Go.Shelf
set_option maxRecDepth 100000
set_option maxHeartbeats 1000000
theorem v_IndexTxt (l : List ByteArray) (x : ByteArray) (hl : l.length ≤ 1000000) : VC Tryz.prog 81 [txtsA l, S x] (I (ixP (isT l x) 0 l.length)) := by
  obtain ⟨R, hR⟩ : ∃ R, ixP (isT l x) 0 l.length = R := ⟨_, rfl⟩
  rw [hR]
  have HR := Lib.hid hR
  clear hR
  refine VC_of Tryz.func81 rfl (by kernel_rfl) (by kernel_rfl) rfl fun M0 w0 => ?_
  simp only [Tryz.ntmps81, Tryz.results81, enumA]
  repeat (first | (with_reducible first | refine vseq ?_ | refine vthenN ?_ | refine vthenE ?_ | refine vthenR ?_ | refine vret ?_ | refine vskip ?_ | refine vexit ?_ | refine vblock ?_ | refine vblockN ?_ | refine vblockR ?_ | refine vblockH ?_ | refine vrun_nil ?_ | refine vblockE rfl ?_ | refine vregion [] ?_ | refine vhrun_nil ?_) | ((with_reducible refine vcondT ?_ ?_); (focus (go_simp; done))) | ((with_reducible refine vcondF ?_ ?_); (focus (go_simp; done))) | ((with_reducible first | refine vrun_cons fun KK hKK => ?_ | refine vhrun_cons fun KK hKK => ?_); go_simp; refine hKK _ ?_; clear hKK KK))
  apply vfor [0, 1, 7] (fun k => [(8, I k)]) (fun k => ([] : Hp)) (isT l x) (l.length)
  · go_simp <;> exact rfl
  · go_simp
  · intro k hk HB HP K hK
    obtain ⟨w1, w2, w3, w4, w5, w6⟩ := ixs (m := k) (by omega)
    have hp : ¬ x = l[k] := by
      have := HP.out
      rw [isT, tat_get hk, decide_eq_false_iff_not] at this
      exact fun e => this e.symm
    repeat' (first | (with_reducible first | refine vseq ?_ | refine vthenN ?_ | refine vthenE ?_ | refine vthenR ?_ | refine vret ?_ | refine vskip ?_ | refine vexit ?_ | refine vblock ?_ | refine vblockN ?_ | refine vblockR ?_ | refine vblockH ?_ | refine vrun_nil ?_ | refine vblockE rfl ?_ | refine vregion [] ?_ | refine vhrun_nil ?_) | ((with_reducible refine vcondT ?_ ?_); (focus (go_simp; done))) | ((with_reducible refine vcondF ?_ ?_); (focus (go_simp; done))) | ((with_reducible first | refine vrun_cons fun KK hKK => ?_ | refine vhrun_cons fun KK hKK => ?_); go_simp; refine hKK _ ?_; clear hKK KK) | ((with_reducible refine vcondS ?_ (fun ht => ?_) (fun ht => ?_)); (focus (go_simp; done)); (all_goals (simp [go_sem] at ht; replace ht := ht.out))))
    refine hK _ ?_
    go_simp
  · intro k hk HB HP K
    have hp : x = l[k] := by
      have := HP.out
      rw [isT, tat_get hk, decide_eq_true_eq] at this
      exact this.symm
    have e := HR.out
    rw [ixP_hit hk HB.out HP.out] at e
    subst e
    clear HR HB HP
    subst hp
    repeat' (first | (with_reducible first | refine vseq ?_ | refine vthenN ?_ | refine vthenE ?_ | refine vthenR ?_ | refine vret ?_ | refine vskip ?_ | refine vexit ?_ | refine vblock ?_ | refine vblockN ?_ | refine vblockR ?_ | refine vblockH ?_ | refine vrun_nil ?_ | refine vblockE rfl ?_ | refine vregion [] ?_ | refine vhrun_nil ?_) | ((with_reducible refine vcondT ?_ ?_); (focus (go_simp; done))) | ((with_reducible refine vcondF ?_ ?_); (focus (go_simp; done))) | ((with_reducible first | refine vrun_cons fun KK hKK => ?_ | refine vhrun_cons fun KK hKK => ?_); go_simp; refine hKK _ ?_; clear hKK KK) | ((with_reducible refine vcondS ?_ (fun ht => ?_) (fun ht => ?_)); (focus (go_simp; done)); (all_goals (simp [go_sem] at ht; replace ht := ht.out))))
    go_simp
  · intro HB K
    have e := HR.out
    rw [ixP_out HB.out] at e
    subst e
    repeat (first | (with_reducible first | refine vseq ?_ | refine vthenN ?_ | refine vthenE ?_ | refine vthenR ?_ | refine vret ?_ | refine vskip ?_ | refine vexit ?_ | refine vblock ?_ | refine vblockN ?_ | refine vblockR ?_ | refine vblockH ?_ | refine vrun_nil ?_ | refine vblockE rfl ?_ | refine vregion [] ?_ | refine vhrun_nil ?_) | ((with_reducible refine vcondT ?_ ?_); (focus (go_simp; done))) | ((with_reducible refine vcondF ?_ ?_); (focus (go_simp; done))) | ((with_reducible first | refine vrun_cons fun KK hKK => ?_ | refine vhrun_cons fun KK hKK => ?_); go_simp; refine hKK _ ?_; clear hKK KK))
    go_simp
theorem v_ContainsTxt (l : List ByteArray) (x : ByteArray) (hl : l.length ≤ 1000000) : VC Tryz.prog 79 [txtsA l, S x] (B (anyP (isT l x) 0 l.length)) := by
  have h1 := v_IndexTxt l x hl
  have h2 := ixP_any (p := isT l x) l.length 0
  generalize ixP (isT l x) 0 l.length = E at *
  generalize anyP (isT l x) 0 l.length = F at *
  refine VC_of Tryz.func79 rfl (by kernel_rfl) (by kernel_rfl) rfl fun M0 w0 => ?_
  simp only [Tryz.ntmps79, Tryz.results79, enumA]
  repeat' (first | (with_reducible first | refine vseq ?_ | refine vthenN ?_ | refine vthenE ?_ | refine vthenR ?_ | refine vret ?_ | refine vskip ?_ | refine vexit ?_ | refine vblock ?_ | refine vblockN ?_ | refine vblockR ?_ | refine vblockH ?_ | refine vrun_nil ?_ | refine vblockE rfl ?_ | refine vregion [] ?_ | refine vhrun_nil ?_) | ((with_reducible refine vcondT ?_ ?_); (focus (go_simp; done))) | ((with_reducible refine vcondF ?_ ?_); (focus (go_simp; done))) | ((with_reducible first | refine vrun_cons fun KK hKK => ?_ | refine vhrun_cons fun KK hKK => ?_); go_simp; (first | (with_reducible refine ⟨_, h1, ?_⟩) | skip); refine hKK _ ?_; clear hKK KK) | ((with_reducible refine vcondS ?_ (fun ht => ?_) (fun ht => ?_)); (focus (go_simp; done)); (all_goals (simp [go_sem] at ht; replace ht := ht.out))))
  go_simp
/-! ### Numbers -/
def progN (l : List UInt8) : Int := match Lib.atoiAll l with | .ok v => v | .range => Lib.atoiSat l | _ => 0
theorem p_number (s : ByteArray) (hs : s.size ≤ 1000000) : VC Tryz.prog 80 [S s] (.tup [I (progN s.data.toList), B (progOK s.data.toList)]) := by
  unfold progN progOK
  have hn1 := v_AtoiSyn s hs
  have hn2 := v_AtoiRan s hs
  have hn3 := v_AtoiOk s hs
  have hb := @Lib.atoiAll_bounds s.data.toList
  have g3 := v_TrimPrefix s ⟨#[45]⟩
  have e45 : (⟨#[45]⟩ : ByteArray).data.toList = [45] := rfl
  rw [e45] at g3
  have hsz := mkB_size (Lib.trimPrefix s.data.toList [45])
  have hd : ∀ v, (decT v = s) ↔ (Lib.itoa v = s.data.toList) := fun v => by
    unfold decT
    constructor
    · intro h
      rw [← h]
      rfl
    · intro h
      rw [h]
      rfl
  generalize Lib.trimPrefix s.data.toList [45] = X at *
  generalize Lib.atoiSat s.data.toList = sat at *
  cases hx : Lib.atoiAll s.data.toList with
  | ok v =>
    have g1 := hn3 v hx
    have g2 := v_ItoaM v (hb hx)
    have hdv := hd v
    clear hn1 hn2 hn3 hb hd hx
    simp only
    generalize Lib.itoa v = Y at *
    generalize decT v = D at *
    generalize mkB X = T at *
    by_cases h1 : D = s
    · have h1' := hdv.1 h1
      rw [decide_eq_true h1', Bool.true_and]
      by_cases h2 : X.length ≤ 9
      · have h3 : ((T.size : Nat) : Int) ≤ 9 := by omega
        rw [decide_eq_true h2]
        clear hdv h1' h2 hsz
        subst h1
        refine VC_of Tryz.func80 rfl (by kernel_rfl) (by kernel_rfl) rfl fun M0 w0 => ?_
        simp only [Tryz.ntmps80, Tryz.results80, enumA]
        repeat' (first | (with_reducible first | refine vseq ?_ | refine vthenN ?_ | refine vthenE ?_ | refine vthenR ?_ | refine vret ?_ | refine vskip ?_ | refine vexit ?_ | refine vblock ?_ | refine vblockN ?_ | refine vblockR ?_ | refine vblockH ?_ | refine vrun_nil ?_ | refine vblockE rfl ?_ | refine vregion [] ?_ | refine vhrun_nil ?_) | ((with_reducible refine vcondT ?_ ?_); (focus (go_simp; done))) | ((with_reducible refine vcondF ?_ ?_); (focus (go_simp; done))) | ((with_reducible first | refine vrun_cons fun KK hKK => ?_ | refine vhrun_cons fun KK hKK => ?_); go_simp; (first | (with_reducible refine ⟨_, g1, ?_⟩) | (with_reducible refine ⟨_, g2, ?_⟩) | (with_reducible refine ⟨_, g3, ?_⟩) | skip); refine hKK _ ?_; clear hKK KK) | ((with_reducible refine vcondS ?_ (fun ht => ?_) (fun ht => ?_)); (focus (go_simp; done)); (all_goals (simp [go_sem] at ht; replace ht := ht.out))) | ((apply vrun_consG0 rfl); (focus (go_simp <;> exact rfl)); (focus (go_simp; done)); (focus (intro hb0; replace hb0 := hb0.out; go_simp <;> (first | exact rfl | exact g1 | exact g2 | exact g3 | exact ⟨g1, rfl⟩ | exact ⟨g2, rfl⟩ | exact ⟨g3, rfl⟩))); intro KK hKK; go_simp; refine hKK _ ?_; clear hKK KK))
        go_simp
      · have h3 : ¬ ((T.size : Nat) : Int) ≤ 9 := by omega
        rw [decide_eq_false h2]
        clear hdv h1' h2 hsz
        subst h1
        refine VC_of Tryz.func80 rfl (by kernel_rfl) (by kernel_rfl) rfl fun M0 w0 => ?_
        simp only [Tryz.ntmps80, Tryz.results80, enumA]
        repeat' (first | (with_reducible first | refine vseq ?_ | refine vthenN ?_ | refine vthenE ?_ | refine vthenR ?_ | refine vret ?_ | refine vskip ?_ | refine vexit ?_ | refine vblock ?_ | refine vblockN ?_ | refine vblockR ?_ | refine vblockH ?_ | refine vrun_nil ?_ | refine vblockE rfl ?_ | refine vregion [] ?_ | refine vhrun_nil ?_) | ((with_reducible refine vcondT ?_ ?_); (focus (go_simp; done))) | ((with_reducible refine vcondF ?_ ?_); (focus (go_simp; done))) | ((with_reducible first | refine vrun_cons fun KK hKK => ?_ | refine vhrun_cons fun KK hKK => ?_); go_simp; (first | (with_reducible refine ⟨_, g1, ?_⟩) | (with_reducible refine ⟨_, g2, ?_⟩) | (with_reducible refine ⟨_, g3, ?_⟩) | skip); refine hKK _ ?_; clear hKK KK) | ((with_reducible refine vcondS ?_ (fun ht => ?_) (fun ht => ?_)); (focus (go_simp; done)); (all_goals (simp [go_sem] at ht; replace ht := ht.out))) | ((apply vrun_consG0 rfl); (focus (go_simp <;> exact rfl)); (focus (go_simp; done)); (focus (intro hb0; replace hb0 := hb0.out; go_simp <;> (first | exact rfl | exact g1 | exact g2 | exact g3 | exact ⟨g1, rfl⟩ | exact ⟨g2, rfl⟩ | exact ⟨g3, rfl⟩))); intro KK hKK; go_simp; refine hKK _ ?_; clear hKK KK))
        go_simp
    · have h1' : ¬ Y = s.data.toList := fun e => h1 (hdv.2 e)
      rw [decide_eq_false h1', Bool.false_and]
      clear hdv h1'
      refine VC_of Tryz.func80 rfl (by kernel_rfl) (by kernel_rfl) rfl fun M0 w0 => ?_
      simp only [Tryz.ntmps80, Tryz.results80, enumA]
      repeat' (first | (with_reducible first | refine vseq ?_ | refine vthenN ?_ | refine vthenE ?_ | refine vthenR ?_ | refine vret ?_ | refine vskip ?_ | refine vexit ?_ | refine vblock ?_ | refine vblockN ?_ | refine vblockR ?_ | refine vblockH ?_ | refine vrun_nil ?_ | refine vblockE rfl ?_ | refine vregion [] ?_ | refine vhrun_nil ?_) | ((with_reducible refine vcondT ?_ ?_); (focus (go_simp; done))) | ((with_reducible refine vcondF ?_ ?_); (focus (go_simp; done))) | ((with_reducible first | refine vrun_cons fun KK hKK => ?_ | refine vhrun_cons fun KK hKK => ?_); go_simp; (first | (with_reducible refine ⟨_, g1, ?_⟩) | (with_reducible refine ⟨_, g2, ?_⟩) | skip); refine hKK _ ?_; clear hKK KK) | ((with_reducible refine vcondS ?_ (fun ht => ?_) (fun ht => ?_)); (focus (go_simp; done)); (all_goals (simp [go_sem] at ht; replace ht := ht.out))) | ((apply vrun_consG0 rfl); (focus (go_simp <;> exact rfl)); (focus (go_simp; done)); (focus (intro hb0; replace hb0 := hb0.out; go_simp <;> (first | exact rfl | exact g1 | exact g2 | exact ⟨g1, rfl⟩ | exact ⟨g2, rfl⟩))); intro KK hKK; go_simp; refine hKK _ ?_; clear hKK KK))
      go_simp
  | range =>
    have g1 := hn2 hx
    clear hn1 hn2 hn3 hb hd hx g3 hsz
    simp only
    refine VC_of Tryz.func80 rfl (by kernel_rfl) (by kernel_rfl) rfl fun M0 w0 => ?_
    simp only [Tryz.ntmps80, Tryz.results80, enumA]
    repeat' (first | (with_reducible first | refine vseq ?_ | refine vthenN ?_ | refine vthenE ?_ | refine vthenR ?_ | refine vret ?_ | refine vskip ?_ | refine vexit ?_ | refine vblock ?_ | refine vblockN ?_ | refine vblockR ?_ | refine vblockH ?_ | refine vrun_nil ?_ | refine vblockE rfl ?_ | refine vregion [] ?_ | refine vhrun_nil ?_) | ((with_reducible refine vcondT ?_ ?_); (focus (go_simp; done))) | ((with_reducible refine vcondF ?_ ?_); (focus (go_simp; done))) | ((with_reducible first | refine vrun_cons fun KK hKK => ?_ | refine vhrun_cons fun KK hKK => ?_); go_simp; (first | (with_reducible refine ⟨_, g1, ?_⟩) | skip); refine hKK _ ?_; clear hKK KK) | ((with_reducible refine vcondS ?_ (fun ht => ?_) (fun ht => ?_)); (focus (go_simp; done)); (all_goals (simp [go_sem] at ht; replace ht := ht.out))) | ((apply vrun_consG0 rfl); (focus (go_simp <;> exact rfl)); (focus (go_simp; done)); (focus (intro hb0; replace hb0 := hb0.out; go_simp <;> (first | exact rfl | exact g1 | exact ⟨g1, rfl⟩))); intro KK hKK; go_simp; refine hKK _ ?_; clear hKK KK))
    go_simp
  | _ =>
    have g1 := hn1 (fun v => by rw [hx]; intro h; cases h) (by rw [hx]; intro h; cases h)
    clear hn1 hn2 hn3 hb hd hx g3 hsz
    simp only
    refine VC_of Tryz.func80 rfl (by kernel_rfl) (by kernel_rfl) rfl fun M0 w0 => ?_
    simp only [Tryz.ntmps80, Tryz.results80, enumA]
    repeat' (first | (with_reducible first | refine vseq ?_ | refine vthenN ?_ | refine vthenE ?_ | refine vthenR ?_ | refine vret ?_ | refine vskip ?_ | refine vexit ?_ | refine vblock ?_ | refine vblockN ?_ | refine vblockR ?_ | refine vblockH ?_ | refine vrun_nil ?_ | refine vblockE rfl ?_ | refine vregion [] ?_ | refine vhrun_nil ?_) | ((with_reducible refine vcondT ?_ ?_); (focus (go_simp; done))) | ((with_reducible refine vcondF ?_ ?_); (focus (go_simp; done))) | ((with_reducible first | refine vrun_cons fun KK hKK => ?_ | refine vhrun_cons fun KK hKK => ?_); go_simp; (first | (with_reducible refine ⟨_, g1, ?_⟩) | skip); refine hKK _ ?_; clear hKK KK) | ((with_reducible refine vcondS ?_ (fun ht => ?_) (fun ht => ?_)); (focus (go_simp; done)); (all_goals (simp [go_sem] at ht; replace ht := ht.out))) | ((apply vrun_consG0 rfl); (focus (go_simp <;> exact rfl)); (focus (go_simp; done)); (focus (intro hb0; replace hb0 := hb0.out; go_simp <;> (first | exact rfl | exact g1 | exact ⟨g1, rfl⟩))); intro KK hKK; go_simp; refine hKK _ ?_; clear hKK KK))
    go_simp
/-! ### Marks -/
theorem cutL_count (c : UInt8) : ∀ l, (cutL c l).length = l.count c + 1
  | [] => rfl
  | x :: r => by
    rw [cutL]
    split
    · rename_i h
      subst h
      rw [List.length_cons, cutL_count x r, List.count_cons_self]
    · rename_i h
      have ih := cutL_count c r
      cases hc : cutL c r with
      | nil => rw [hc] at ih; simp at ih
      | cons a t =>
        rw [hc] at ih
        rw [List.count_cons_of_ne (by simpa using h)]
        simpa [att] using ih
theorem cut_two {c : UInt8} {s : ByteArray} (h : (pieces c s).length = 2) : pieces c s = [cutA c s, cutB c s] := by
  have hl : (cutL c s.data.toList).length = 2 := by simpa [pieces] using h
  have hc := cutL_count c s.data.toList
  unfold pieces cutA cutB
  generalize s.data.toList = l at *
  by_cases hi : Lib.index l [c] = -1
  · have := index_one_no hi
    rw [List.count_eq_zero.2 this] at hc
    omega
  · have hge := Lib.index_ge l [c]
    obtain ⟨i, hi2⟩ : ∃ i : Nat, Lib.index l [c] = i := ⟨(Lib.index l [c]).toNat, by omega⟩
    obtain ⟨b, h3, h4, h5⟩ := index_one_at hi2
    have hcut : Lib.cut l [c] = (l.take i, l.drop (i + 1), true) := by
      unfold Lib.cut
      rw [hi2, if_pos (by omega)]
      simp
    rw [hcut]
    have hcl : cutL c l = l.take i :: cutL c b := by
      conv => lhs; rw [h3]
      exact cutL_at h4
    rw [hcl] at hl ⊢
    have hb : (cutL c b).length = 1 := by simpa using hl
    have hcb := cutL_count c b
    have : c ∉ b := List.count_eq_zero.1 (by omega)
    rw [cutL_no this, h5]
    rfl
theorem p_markOf (s : ByteArray) (hs : s.size ≤ 1000000) : VC Tryz.prog 91 [S s] (.tup [.agg [S (cutA 61 s), S (cutB 61 s)], B (okMk s)]) := by
  have g1 := v_Cut s 61 hs
  have g2 := v_Count s 61
  have h2 := @cut_two 61 s
  unfold okMk
  generalize cutA 61 s = a at *
  generalize cutB 61 s = b at *
  generalize cutQ 61 s = q at *
  generalize pieces 61 s = w at *
  by_cases hw : w.length = 2
  · rw [h2 hw] at g2 ⊢
    simp only [List.length_cons, List.length_nil, tat, List.getD_cons_zero, List.getD_cons_succ] at g2 ⊢
    clear h2 hw
    have e1 : (((0 + 1 + 1 : Nat) : Int) - 1) = 1 := by omega
    rw [e1] at g2
    by_cases ha : a = ⟨#[]⟩
    · have ha2 : a = ByteArray.empty := ha
      rw [decide_eq_true ha]
      refine VC_of Tryz.func91 rfl (by kernel_rfl) (by kernel_rfl) rfl fun M0 w0 => ?_
      simp only [Tryz.ntmps91, Tryz.results91, enumA]
      repeat' (first | (with_reducible first | refine vseq ?_ | refine vthenN ?_ | refine vthenE ?_ | refine vthenR ?_ | refine vret ?_ | refine vskip ?_ | refine vexit ?_ | refine vblock ?_ | refine vblockN ?_ | refine vblockR ?_ | refine vblockH ?_ | refine vrun_nil ?_ | refine vblockE rfl ?_ | refine vregion [] ?_ | refine vhrun_nil ?_) | ((with_reducible refine vcondT ?_ ?_); (focus (go_simp; done))) | ((with_reducible refine vcondF ?_ ?_); (focus (go_simp; done))) | ((with_reducible first | refine vrun_cons fun KK hKK => ?_ | refine vhrun_cons fun KK hKK => ?_); go_simp; (first | (with_reducible refine ⟨_, g1, ?_⟩) | (with_reducible refine ⟨_, g2, ?_⟩) | skip); refine hKK _ ?_; clear hKK KK) | ((with_reducible refine vcondS ?_ (fun ht => ?_) (fun ht => ?_)); (focus (go_simp; done)); (all_goals (simp [go_sem] at ht; replace ht := ht.out))) | ((apply vrun_consG0 rfl); (focus (go_simp <;> exact rfl)); (focus (go_simp; done)); (focus (intro hb0; replace hb0 := hb0.out; go_simp <;> (first | exact rfl | exact g1 | exact g2 | exact ⟨g1, rfl⟩ | exact ⟨g2, rfl⟩))); intro KK hKK; go_simp; refine hKK _ ?_; clear hKK KK))
      go_simp
    · have ha2 : ¬ a = ByteArray.empty := ha
      rw [decide_eq_false ha]
      by_cases hb : b = ⟨#[]⟩
      · have hb2 : b = ByteArray.empty := hb
        rw [decide_eq_true hb]
        refine VC_of Tryz.func91 rfl (by kernel_rfl) (by kernel_rfl) rfl fun M0 w0 => ?_
        simp only [Tryz.ntmps91, Tryz.results91, enumA]
        repeat' (first | (with_reducible first | refine vseq ?_ | refine vthenN ?_ | refine vthenE ?_ | refine vthenR ?_ | refine vret ?_ | refine vskip ?_ | refine vexit ?_ | refine vblock ?_ | refine vblockN ?_ | refine vblockR ?_ | refine vblockH ?_ | refine vrun_nil ?_ | refine vblockE rfl ?_ | refine vregion [] ?_ | refine vhrun_nil ?_) | ((with_reducible refine vcondT ?_ ?_); (focus (go_simp; done))) | ((with_reducible refine vcondF ?_ ?_); (focus (go_simp; done))) | ((with_reducible first | refine vrun_cons fun KK hKK => ?_ | refine vhrun_cons fun KK hKK => ?_); go_simp; (first | (with_reducible refine ⟨_, g1, ?_⟩) | (with_reducible refine ⟨_, g2, ?_⟩) | skip); refine hKK _ ?_; clear hKK KK) | ((with_reducible refine vcondS ?_ (fun ht => ?_) (fun ht => ?_)); (focus (go_simp; done)); (all_goals (simp [go_sem] at ht; replace ht := ht.out))) | ((apply vrun_consG0 rfl); (focus (go_simp <;> exact rfl)); (focus (go_simp; done)); (focus (intro hb0; replace hb0 := hb0.out; go_simp <;> (first | exact rfl | exact g1 | exact g2 | exact ⟨g1, rfl⟩ | exact ⟨g2, rfl⟩))); intro KK hKK; go_simp; refine hKK _ ?_; clear hKK KK))
        go_simp
      · have hb2 : ¬ b = ByteArray.empty := hb
        rw [decide_eq_false hb]
        refine VC_of Tryz.func91 rfl (by kernel_rfl) (by kernel_rfl) rfl fun M0 w0 => ?_
        simp only [Tryz.ntmps91, Tryz.results91, enumA]
        repeat' (first | (with_reducible first | refine vseq ?_ | refine vthenN ?_ | refine vthenE ?_ | refine vthenR ?_ | refine vret ?_ | refine vskip ?_ | refine vexit ?_ | refine vblock ?_ | refine vblockN ?_ | refine vblockR ?_ | refine vblockH ?_ | refine vrun_nil ?_ | refine vblockE rfl ?_ | refine vregion [] ?_ | refine vhrun_nil ?_) | ((with_reducible refine vcondT ?_ ?_); (focus (go_simp; done))) | ((with_reducible refine vcondF ?_ ?_); (focus (go_simp; done))) | ((with_reducible first | refine vrun_cons fun KK hKK => ?_ | refine vhrun_cons fun KK hKK => ?_); go_simp; (first | (with_reducible refine ⟨_, g1, ?_⟩) | (with_reducible refine ⟨_, g2, ?_⟩) | skip); refine hKK _ ?_; clear hKK KK) | ((with_reducible refine vcondS ?_ (fun ht => ?_) (fun ht => ?_)); (focus (go_simp; done)); (all_goals (simp [go_sem] at ht; replace ht := ht.out))) | ((apply vrun_consG0 rfl); (focus (go_simp <;> exact rfl)); (focus (go_simp; done)); (focus (intro hb0; replace hb0 := hb0.out; go_simp <;> (first | exact rfl | exact g1 | exact g2 | exact ⟨g1, rfl⟩ | exact ⟨g2, rfl⟩))); intro KK hKK; go_simp; refine hKK _ ?_; clear hKK KK))
        go_simp
  · rw [decide_eq_true (show w.length ≠ 2 from hw)]
    obtain ⟨C, hC⟩ : ∃ C : Int, (w.length : Int) - 1 = C := ⟨_, rfl⟩
    have hC1 : ¬ C = 1 := by omega
    rw [hC] at g2
    clear h2 hw hC
    refine VC_of Tryz.func91 rfl (by kernel_rfl) (by kernel_rfl) rfl fun M0 w0 => ?_
    simp only [Tryz.ntmps91, Tryz.results91, enumA]
    repeat' (first | (with_reducible first | refine vseq ?_ | refine vthenN ?_ | refine vthenE ?_ | refine vthenR ?_ | refine vret ?_ | refine vskip ?_ | refine vexit ?_ | refine vblock ?_ | refine vblockN ?_ | refine vblockR ?_ | refine vblockH ?_ | refine vrun_nil ?_ | refine vblockE rfl ?_ | refine vregion [] ?_ | refine vhrun_nil ?_) | ((with_reducible refine vcondT ?_ ?_); (focus (go_simp; done))) | ((with_reducible refine vcondF ?_ ?_); (focus (go_simp; done))) | ((with_reducible first | refine vrun_cons fun KK hKK => ?_ | refine vhrun_cons fun KK hKK => ?_); go_simp; (first | (with_reducible refine ⟨_, g1, ?_⟩) | (with_reducible refine ⟨_, g2, ?_⟩) | skip); refine hKK _ ?_; clear hKK KK) | ((with_reducible refine vcondS ?_ (fun ht => ?_) (fun ht => ?_)); (focus (go_simp; done)); (all_goals (simp [go_sem] at ht; replace ht := ht.out))) | ((apply vrun_consG0 rfl); (focus (go_simp <;> exact rfl)); (focus (go_simp; done)); (focus (intro hb0; replace hb0 := hb0.out; go_simp <;> (first | exact rfl | exact g1 | exact g2 | exact ⟨g1, rfl⟩ | exact ⟨g2, rfl⟩))); intro KK hKK; go_simp; refine hKK _ ?_; clear hKK KK))
    go_simp
end Go.Proofs.YthbgghmjbaldlaaGreatDoor
