/- Texts in one: Texts and numerals by the library's functions: cut at a byte, read and written; the world's facts are those of the package variables that the walks read. -/
import Derived.Test.YtmfmpagfjgpodaaGreatDoorFW17
import Derived.Test.YtmfmpagfjgpodaaGreatDoorFW19
/-! SWN3: Texts and numerals by the library's functions: cut at a byte, read and written; the world's facts are those of the package variables that the walks read. -/
namespace Go.Proofs.YtmfmpagfjgpodaaGreatDoor
open Go.RowKit Go.Shelf
set_option maxRecDepth 100000
set_option maxHeartbeats 1000000
def pieces (c : UInt8) (s : ByteArray) : List ByteArray := (cutL c s.data.toList).map mkB
theorem pieces_len (c : UInt8) (s : ByteArray) : (pieces c s).length ≤ s.size + 1 := by
  have := cutL_len c s.data.toList
  rw [size_L] at this
  simpa [pieces] using this
theorem pieces_size {c : UInt8} {s p : ByteArray} (h : p ∈ pieces c s) : p.size ≤ s.size := by
  obtain ⟨l, hl, rfl⟩ := List.mem_map.1 h
  have := cutL_part c _ l hl
  rw [mkB_size, ← size_L]
  exact this
theorem b_CutP (s : ByteArray) (c : UInt8) (hs : s.size ≤ 1000000) : VC Tryz.prog 35 [S s, .lit (.int .u8 c.toNat)] (txtsA (pieces c s)) := by
  have := b_Cut s c hs
  have e : (pieces c s).map txtA = (cutL c s.data.toList).map txL := by
    unfold pieces
    rw [List.map_map]
    rfl
  rw [txtsA, e]
  exact this
theorem b_Cut32 (s : ByteArray) (hs : s.size ≤ 1000000) : VC Tryz.prog 35 [S s, .lit (.int .u8 32)] (txtsA (pieces 32 s)) := b_CutP s 32 hs
def tat (l : List ByteArray) (k : Nat) : ByteArray := l.getD k ByteArray.empty
theorem tat_get {l : List ByteArray} {k : Nat} (h : k < l.length) : tat l k = l[k] := by simp [tat, h]
def isT (l : List ByteArray) (s : ByteArray) (k : Nat) : Bool := decide (tat l k = s)
theorem below_draws {w : World} (n : Nat) : Below w.heap.size w (w.drewN n) := ⟨rfl, rfl, rfl, Nat.le_refl _, fun _ _ => rfl⟩
theorem below_grown (w : World) (k : Nat) (os : Array Obj) : Below w.heap.size w (Sort.grow (w.drewN k) os) :=
  ⟨rfl, rfl, rfl, by show w.heap.size ≤ (w.heap ++ os).size; rw [Array.size_append]; omega, fun j hj => by show (w.heap ++ os)[j]? = _; rw [Array.getElem?_append_left hj]⟩
theorem VC_mk1M {f : FuncId} {a r : AV} (hg : goesB Tryz.prog f = true) (h : ∀ w M v1, MOK w M → V0 w M a v1 → Calls Tryz.prog f #[v1] w fun e w' => ∃ v, e = .returned v ∧ Below w.heap.size w w' ∧ V0 w' M r v) : VC Tryz.prog f [a] r :=
  ⟨hg, fun w M vs hM hl hv => by
    obtain ⟨v1, rfl⟩ := List.length_eq_one_iff.1 hl
    exact h w M v1 hM (hv 0 a v1 rfl rfl)⟩
theorem VC_mk2M {f : FuncId} {a b r : AV} (hg : goesB Tryz.prog f = true) (h : ∀ w M v1 v2, MOK w M → V0 w M a v1 → V0 w M b v2 → Calls Tryz.prog f #[v1, v2] w fun e w' => ∃ v, e = .returned v ∧ Below w.heap.size w w' ∧ V0 w' M r v) : VC Tryz.prog f [a, b] r :=
  ⟨hg, fun w M vs hM hl hv => by
    match vs, hl with
    | [v1, v2], _ => exact h w M v1 v2 hM (hv 0 a v1 rfl rfl) (hv 1 b v2 rfl rfl)⟩
theorem gf {w : World} {M : Nat → Prop} (h : MOK w M) : gfact w := h.2.2.2
/-! ### Cutting -/
theorem pieces_count (c : UInt8) (s : ByteArray) : (pieces c s).length = Lib.countB s ⟨#[c]⟩ + 1 := by
  have h := Lib.splitB_all ⟨#[c]⟩ (Nat.le_refl _) 0 _ s rfl
  rw [split_cut c _ s rfl] at h
  exact h
theorem v_Split (s : ByteArray) (c : UInt8) (hs : s.size ≤ 1000000) : VC Tryz.prog 30 [S s, S ⟨#[c]⟩] (txtsA (pieces c s)) :=
  VC_mk2M (by kernel_rfl) fun w M v1 v2 hM h1 h2 => by
    obtain rfl := V0.lit_inv h1
    obtain rfl := V0.lit_inv h2
    obtain ⟨m, hm⟩ := (gf hM).1
    refine (Any.strings_Split laysSplit (by kernel_rfl) s ⟨#[c]⟩ m w (by omega) hm (Nat.le_refl _)).mono fun e w' ⟨he, hw⟩ => ⟨_, he, ?_, ?_⟩
    · rw [hw]
      exact (Below.refl _ w).alloc (Nat.le_refl _) _
    · have hl := pieces_count c s
      have hp : Lib.splitB ⟨#[c]⟩ 0 (Lib.countB s ⟨#[c]⟩) s = pieces c s := split_cut c _ s rfl
      have hlm : ((pieces c s).map txtA).length = Lib.countB s ⟨#[c]⟩ + 1 := by rw [List.length_map, hl]
      rw [hw, hp, ← hlm]
      refine .sl 1 _ _ _ 0 (fun k _ => .string (tat (pieces c s) k)) (fun hn => ?_) (by simp) (fun hmm => absurd (hM.1 _ hmm) (Nat.lt_irrefl _)) (Nat.le_refl _) (fun k x hx => ?_) (fun k x j d hx hd => ?_) (fun k j hk hj => ?_) (fun k x j d hx hd => ?_)
      · rw [hn] at hlm
        simp at hlm
      · obtain ⟨y, _, rfl⟩ := map_at hx
        rfl
      · obtain ⟨y, _, rfl⟩ := map_at hx
        rw [show txtA y = [S y] from rfl, List.getElem?_singleton] at hd
        split at hd
        · injection hd with hd
          subst hd
          rfl
        · cases hd
      · rw [List.length_map] at hk
        have hj0 : j = 0 := by omega
        subst hj0
        rw [show 0 + k * 1 + 0 = k by omega]
        refine (cell_push w _ _ k).trans ?_
        simp [hk, tat]
      · obtain ⟨y, hy, rfl⟩ := map_at hx
        rw [show txtA y = [S y] from rfl, List.getElem?_singleton] at hd
        split at hd
        · injection hd with hd
          subst hd
          simp only [tat, List.getD, hy, Option.getD_some]
          exact .lit _
        · cases hd
theorem v_TrimPrefix (s q : ByteArray) : VC Tryz.prog 34 [S s, S q] (S (mkB (Lib.trimPrefix s.data.toList q.data.toList))) :=
  VC_mk2M (by kernel_rfl) fun w M v1 v2 hM h1 h2 => by
    obtain rfl := V0.lit_inv h1
    obtain rfl := V0.lit_inv h2
    exact (Any.strings_TrimPrefix laysTrimP s q w).mono fun e w' ⟨he, hw⟩ => ⟨_, he, hw ▸ Below.refl _ _, .lit _⟩
/-! ### Numerals -/
theorem v_ItoaM (n : Int) (h : -9223372036854775808 ≤ n ∧ n ≤ 9223372036854775807) : VC Tryz.prog 33 [I n] (S (decT n)) :=
  VC_mk1M (by kernel_rfl) fun w M v1 hM h1 => by
    obtain rfl := V0.lit_inv h1
    refine (Any.strconv_Itoa laysItoaM n h.1 h.2 w (gf hM).2.1).mono fun e w' ⟨he, k, os, hw⟩ => ⟨_, he, ?_, .lit _⟩
    rw [hw]
    exact below_grown w k os
theorem v_AtoiOk (s : ByteArray) (hs : s.size ≤ 1000000) (v : Int) (h : Lib.atoiAll s.data.toList = .ok v) : VC Tryz.prog 32 [S s] (.tup [I v, .lit .nilIface]) :=
  VC_mk1M (by kernel_rfl) fun w M v1 hM h1 => by
    obtain rfl := V0.lit_inv h1
    refine (Any.strconv_Atoi_ok laysAtoi s (by omega) v h w).mono fun e w' ⟨he, hw⟩ => ⟨_, he, ?_, ?_⟩
    · rcases hw with rfl | ⟨t, rfl⟩
      · exact Below.refl _ _
      · exact Lib.bytesWorld_below _ _ _
    · refine .tup _ [_, _] rfl fun i a u ha hu => ?_
      match i with
      | 0 => cases ha; cases hu; exact .lit _
      | 1 => cases ha; cases hu; exact .lit _
      | n + 2 => cases ha
theorem v_AtoiSyn (s : ByteArray) (hs : s.size ≤ 1000000) (h1 : ∀ v, Lib.atoiAll s.data.toList ≠ .ok v) (h2 : Lib.atoiAll s.data.toList ≠ .range) : VC Tryz.prog 32 [S s] (.tup [I 0, .iface (laysAtoi_ren.t 168) .any]) :=
  VC_mk1M (by kernel_rfl) fun w M v1 hM h0 => by
    obtain rfl := V0.lit_inv h0
    obtain ⟨t, q, hc⟩ := (gf hM).2.2.1
    have hsy : Calls Tryz.prog 32 #[.string s] w fun e w' => ∃ n, e = .returned (.tuple #[.int .i64 0, .iface (laysAtoi_ren.t 168) (.pointer (some ⟨n, 0, none⟩))]) ∧ Below w.heap.size w w' := by
      cases hx : Lib.atoiAll s.data.toList with
      | ok v => exact absurd hx (h1 v)
      | range => exact absurd hx h2
      | _ => exact (Any.strconv_Atoi_syntax laysAtoi s (by omega) hx _ w hc (.inr ⟨_, _, rfl⟩)).mono fun e w' ⟨N, he, _, _, hw⟩ => ⟨N, he, hw⟩
    refine hsy.mono fun e w' ⟨N, he, hw⟩ => ⟨_, he, hw, ?_⟩
    refine .tup _ [_, _] rfl fun i a u ha hu => ?_
    match i with
    | 0 => cases ha; cases hu; exact .lit _
    | 1 => cases ha; cases hu; exact .iface _ _ _ (.any _)
    | n + 2 => cases ha
theorem v_AtoiRan (s : ByteArray) (hs : s.size ≤ 1000000) (h : Lib.atoiAll s.data.toList = .range) : VC Tryz.prog 32 [S s] (.tup [I (Lib.atoiSat s.data.toList), .iface (laysAtoi_ren.t 168) .any]) :=
  VC_mk1M (by kernel_rfl) fun w M v1 hM h1 => by
    obtain rfl := V0.lit_inv h1
    obtain ⟨t, q, hc⟩ := (gf hM).2.2.2
    refine (Any.strconv_Atoi_range laysAtoi s (by omega) h _ w hc (.inr ⟨_, _, rfl⟩)).mono fun e w' ⟨N, he, _, _, hw⟩ => ⟨_, he, hw, ?_⟩
    refine .tup _ [_, _] rfl fun i a u ha hu => ?_
    match i with
    | 0 => cases ha; cases hu; exact .lit _
    | 1 => cases ha; cases hu; exact .iface _ _ _ (.any _)
    | n + 2 => cases ha
theorem ixP_dec {p : Nat → Bool} (n : Nat) : decide (0 ≤ ixP p 0 n) = anyP p 0 n := by
  rcases ixP_spec p n with ⟨h1, h2⟩ | ⟨k, h1, h2, h3, _⟩
  · rw [h1, anyP_out h2]
    rfl
  · rw [h2, anyP_hit h1 h3, decide_eq_true (by omega)]
theorem v_IndexTxt (l : List ByteArray) (x : ByteArray) (hl : l.length ≤ 1000000) : VC Tryz.prog 51 [txtsA l, S x] (I (ixP (isT l x) 0 l.length)) := by
  obtain ⟨R, hR⟩ : ∃ R, ixP (isT l x) 0 l.length = R := ⟨_, rfl⟩
  rw [hR]
  have HR := Lib.hid hR
  clear hR
  refine VC_of Tryz.func51 rfl (by kernel_rfl) (by kernel_rfl) rfl fun M0 w0 => ?_
  simp only [Tryz.ntmps51, Tryz.results51, enumA]
  repeat (first | (with_reducible first | refine vseq ?_ | refine vthenN ?_ | refine vthenE ?_ | refine vthenR ?_ | refine vret ?_ | refine vskip ?_ | refine vexit ?_ | refine vblock ?_ | refine vblockN ?_ | refine vblockR ?_ | refine vblockH ?_ | refine vrun_nil ?_ | refine vblockE rfl ?_ | refine vregion [] ?_ | refine vhrun_nil ?_) | ((with_reducible refine vcondT ?_ ?_); (focus (go_simp; done))) | ((with_reducible refine vcondF ?_ ?_); (focus (go_simp; done))) | ((with_reducible first | refine vrun_cons fun KK hKK => ?_ | refine vhrun_cons fun KK hKK => ?_); go_simp; refine hKK _ ?_; clear hKK KK))
  apply vfor [0, 1, 7] (fun k => [(8, I k)]) (fun k => ([] : Hp)) (isT l x) (l.length)
  · go_simp <;> exact rfl
  · go_simp
  · intro k hk HB HP K hK
    obtain ⟨w1, w2, w3, w4, w5, w6⟩ := ixs (m := k) (by omega)
    have hp : ¬ x = l[k] := by
      have := HP.out
      rw [isT, tat_get hk, decide_eq_false_iff_not] at this
      exact fun e => this e.symm
    repeat' (first | (with_reducible first | refine vseq ?_ | refine vthenN ?_ | refine vthenE ?_ | refine vthenR ?_ | refine vret ?_ | refine vskip ?_ | refine vexit ?_ | refine vblock ?_ | refine vblockN ?_ | refine vblockR ?_ | refine vblockH ?_ | refine vrun_nil ?_ | refine vblockE rfl ?_ | refine vregion [] ?_ | refine vhrun_nil ?_) | ((with_reducible refine vcondT ?_ ?_); (focus (go_simp; done))) | ((with_reducible refine vcondF ?_ ?_); (focus (go_simp; done))) | ((with_reducible first | refine vrun_cons fun KK hKK => ?_ | refine vhrun_cons fun KK hKK => ?_); go_simp; refine hKK _ ?_; clear hKK KK) | ((with_reducible refine vcondS ?_ (fun ht => ?_) (fun ht => ?_)); (focus (go_simp; done)); (all_goals (simp [go_sem] at ht; replace ht := ht.out))))
    refine hK _ ?_
    go_simp
  · intro k hk HB HP K
    have hp : x = l[k] := by
      have := HP.out
      rw [isT, tat_get hk, decide_eq_true_eq] at this
      exact this.symm
    have e := HR.out
    rw [ixP_hit hk HB.out HP.out] at e
    subst e
    clear HR HB HP
    subst hp
    repeat' (first | (with_reducible first | refine vseq ?_ | refine vthenN ?_ | refine vthenE ?_ | refine vthenR ?_ | refine vret ?_ | refine vskip ?_ | refine vexit ?_ | refine vblock ?_ | refine vblockN ?_ | refine vblockR ?_ | refine vblockH ?_ | refine vrun_nil ?_ | refine vblockE rfl ?_ | refine vregion [] ?_ | refine vhrun_nil ?_) | ((with_reducible refine vcondT ?_ ?_); (focus (go_simp; done))) | ((with_reducible refine vcondF ?_ ?_); (focus (go_simp; done))) | ((with_reducible first | refine vrun_cons fun KK hKK => ?_ | refine vhrun_cons fun KK hKK => ?_); go_simp; refine hKK _ ?_; clear hKK KK) | ((with_reducible refine vcondS ?_ (fun ht => ?_) (fun ht => ?_)); (focus (go_simp; done)); (all_goals (simp [go_sem] at ht; replace ht := ht.out))))
    go_simp
  · intro HB K
    have e := HR.out
    rw [ixP_out HB.out] at e
    subst e
    repeat (first | (with_reducible first | refine vseq ?_ | refine vthenN ?_ | refine vthenE ?_ | refine vthenR ?_ | refine vret ?_ | refine vskip ?_ | refine vexit ?_ | refine vblock ?_ | refine vblockN ?_ | refine vblockR ?_ | refine vblockH ?_ | refine vrun_nil ?_ | refine vblockE rfl ?_ | refine vregion [] ?_ | refine vhrun_nil ?_) | ((with_reducible refine vcondT ?_ ?_); (focus (go_simp; done))) | ((with_reducible refine vcondF ?_ ?_); (focus (go_simp; done))) | ((with_reducible first | refine vrun_cons fun KK hKK => ?_ | refine vhrun_cons fun KK hKK => ?_); go_simp; refine hKK _ ?_; clear hKK KK))
    go_simp
theorem v_ContainsTxt (l : List ByteArray) (x : ByteArray) (hl : l.length ≤ 1000000) : VC Tryz.prog 31 [txtsA l, S x] (B (anyP (isT l x) 0 l.length)) := by
  have h1 := v_IndexTxt l x hl
  have h2 := ixP_dec (p := isT l x) l.length
  generalize ixP (isT l x) 0 l.length = E at *
  generalize anyP (isT l x) 0 l.length = F at *
  refine VC_of Tryz.func31 rfl (by kernel_rfl) (by kernel_rfl) rfl fun M0 w0 => ?_
  simp only [Tryz.ntmps31, Tryz.results31, enumA]
  repeat' (first | (with_reducible first | refine vseq ?_ | refine vthenN ?_ | refine vthenE ?_ | refine vthenR ?_ | refine vret ?_ | refine vskip ?_ | refine vexit ?_ | refine vblock ?_ | refine vblockN ?_ | refine vblockR ?_ | refine vblockH ?_ | refine vrun_nil ?_ | refine vblockE rfl ?_ | refine vregion [] ?_ | refine vhrun_nil ?_) | ((with_reducible refine vcondT ?_ ?_); (focus (go_simp; done))) | ((with_reducible refine vcondF ?_ ?_); (focus (go_simp; done))) | ((with_reducible first | refine vrun_cons fun KK hKK => ?_ | refine vhrun_cons fun KK hKK => ?_); go_simp; (first | (with_reducible refine ⟨_, h1, ?_⟩) | skip); refine hKK _ ?_; clear hKK KK) | ((with_reducible refine vcondS ?_ (fun ht => ?_) (fun ht => ?_)); (focus (go_simp; done)); (all_goals (simp [go_sem] at ht; replace ht := ht.out))))
  go_simp
end Go.Proofs.YtmfmpagfjgpodaaGreatDoor

/-! SWP1: Chapter 7: records that are read and written, by the reference; texts of at most 1000 bytes. -/
namespace Go.Proofs.YtmfmpagfjgpodaaGreatDoor
open Go.RowKit
set_option maxRecDepth 100000
set_option maxHeartbeats 1000000
@[go_sem] def zeroRc : Rc := ⟨⟨#[]⟩, 0, 0⟩
/-- The record that words tell, or the error. -/
def readRc (w : List ByteArray) : Rc × Int :=
  if w.length ≠ 3 ∨ tat w 0 = ⟨#[]⟩ then (zeroRc, 7) else
  if (numR (numT (tat w 1).data.toList)).2 = false ∨ (numR (numT (tat w 2).data.toList)).2 = false then (zeroRc, 7) else
  if recE ⟨tat w 0, (numR (numT (tat w 1).data.toList)).1, (numR (numT (tat w 2).data.toList)).1⟩ ≠ 0 then (zeroRc, recE ⟨tat w 0, (numR (numT (tat w 1).data.toList)).1, (numR (numT (tat w 2).data.toList)).1⟩) else
  (⟨tat w 0, (numR (numT (tat w 1).data.toList)).1, (numR (numT (tat w 2).data.toList)).1⟩, 0)
theorem v_ParseRecord (s : ByteArray) (hs : s.size ≤ 1000) : VC Tryz.prog 12 [S s] (.tup [recA (readRc (pieces 32 s)).1, I (readRc (pieces 32 s)).2]) := by
  have g1 := b_CutP s 32 (by omega)
  have e32 : (((32 : UInt8).toNat : Nat) : Int) = 32 := rfl
  rw [e32] at g1
  have hl := pieces_len 32 s
  have hz : ∀ p ∈ pieces 32 s, p.size ≤ 1000 := fun p hp => by have := pieces_size hp; omega
  generalize pieces 32 s = w at *
  unfold readRc
  by_cases h5 : w.length = 3
  · obtain ⟨a, b, c, rfl⟩ : ∃ a b c, w = [a, b, c] := by
      match w, h5 with
      | [a, b, c], _ => exact ⟨a, b, c, rfl⟩
    simp only [tat, List.getD_cons_zero, List.getD_cons_succ]
    by_cases ha : a = ⟨#[]⟩
    · rw [if_pos (.inr ha)]
      have ha2 : a = ByteArray.empty := ha
      clear hz hl h5
      refine VC_of Tryz.func12 rfl (by kernel_rfl) (by kernel_rfl) rfl fun M0 w0 => ?_
      simp only [Tryz.ntmps12, Tryz.results12, enumA]
      repeat' (first | (with_reducible first | refine vseq ?_ | refine vthenN ?_ | refine vthenE ?_ | refine vthenR ?_ | refine vret ?_ | refine vskip ?_ | refine vexit ?_ | refine vblock ?_ | refine vblockN ?_ | refine vblockR ?_ | refine vblockH ?_ | refine vrun_nil ?_ | refine vblockE rfl ?_ | refine vregion [] ?_ | refine vhrun_nil ?_) | ((with_reducible refine vcondT ?_ ?_); (focus (go_simp; done))) | ((with_reducible refine vcondF ?_ ?_); (focus (go_simp; done))) | ((with_reducible first | refine vrun_cons fun KK hKK => ?_ | refine vhrun_cons fun KK hKK => ?_); go_simp; (first | (with_reducible refine ⟨_, g1, ?_⟩) | skip); refine hKK _ ?_; clear hKK KK) | ((with_reducible refine vcondS ?_ (fun ht => ?_) (fun ht => ?_)); (focus (go_simp; done)); (all_goals (simp [go_sem] at ht; replace ht := ht.out))) | ((apply vrun_consG0 rfl); (focus (go_simp <;> exact rfl)); (focus (go_simp; done)); (focus (intro hb0; replace hb0 := hb0.out; go_simp <;> (first | exact rfl | exact g1 | exact ⟨g1, rfl⟩))); intro KK hKK; go_simp; refine hKK _ ?_; clear hKK KK))
      go_simp
    · rw [if_neg (by simp [ha])]
      have ha2 : ¬ a = ByteArray.empty := ha
      have g2 := b_Number b (hz b (by simp))
      have g3 := b_Number c (hz c (by simp))
      have g4 := fun m n => v_recordErr ⟨a, m, n⟩ (hz a (by simp))
      clear hz h5 hl
      generalize numR (numT b.data.toList) = M at *
      generalize numR (numT c.data.toList) = N at *
      obtain ⟨m, mo⟩ := M
      obtain ⟨n, no⟩ := N
      simp only at g2 g3 ⊢
      have g4 := g4 m n
      simp only [recA] at g4
      generalize recE ⟨a, m, n⟩ = E at *
      cases mo
      · rw [if_pos (.inl rfl)]
        refine VC_of Tryz.func12 rfl (by kernel_rfl) (by kernel_rfl) rfl fun M0 w0 => ?_
        simp only [Tryz.ntmps12, Tryz.results12, enumA]
        repeat' (first | (with_reducible first | refine vseq ?_ | refine vthenN ?_ | refine vthenE ?_ | refine vthenR ?_ | refine vret ?_ | refine vskip ?_ | refine vexit ?_ | refine vblock ?_ | refine vblockN ?_ | refine vblockR ?_ | refine vblockH ?_ | refine vrun_nil ?_ | refine vblockE rfl ?_ | refine vregion [] ?_ | refine vhrun_nil ?_) | ((with_reducible refine vcondT ?_ ?_); (focus (go_simp; done))) | ((with_reducible refine vcondF ?_ ?_); (focus (go_simp; done))) | ((with_reducible first | refine vrun_cons fun KK hKK => ?_ | refine vhrun_cons fun KK hKK => ?_); go_simp; (first | (with_reducible refine ⟨_, g1, ?_⟩) | (refine ⟨_, g2, ?_⟩) | (refine ⟨_, g3, ?_⟩) | skip); refine hKK _ ?_; clear hKK KK) | ((with_reducible refine vcondS ?_ (fun ht => ?_) (fun ht => ?_)); (focus (go_simp; done)); (all_goals (simp [go_sem] at ht; replace ht := ht.out))) | ((apply vrun_consG0 rfl); (focus (go_simp <;> exact rfl)); (focus (go_simp; done)); (focus (intro hb0; replace hb0 := hb0.out; go_simp <;> (first | exact rfl | exact g1 | exact g2 | exact g3 | exact ⟨g1, rfl⟩ | exact ⟨g2, rfl⟩ | exact ⟨g3, rfl⟩))); intro KK hKK; go_simp; refine hKK _ ?_; clear hKK KK))
        go_simp
      · cases no
        · rw [if_pos (.inr rfl)]
          refine VC_of Tryz.func12 rfl (by kernel_rfl) (by kernel_rfl) rfl fun M0 w0 => ?_
          simp only [Tryz.ntmps12, Tryz.results12, enumA]
          repeat' (first | (with_reducible first | refine vseq ?_ | refine vthenN ?_ | refine vthenE ?_ | refine vthenR ?_ | refine vret ?_ | refine vskip ?_ | refine vexit ?_ | refine vblock ?_ | refine vblockN ?_ | refine vblockR ?_ | refine vblockH ?_ | refine vrun_nil ?_ | refine vblockE rfl ?_ | refine vregion [] ?_ | refine vhrun_nil ?_) | ((with_reducible refine vcondT ?_ ?_); (focus (go_simp; done))) | ((with_reducible refine vcondF ?_ ?_); (focus (go_simp; done))) | ((with_reducible first | refine vrun_cons fun KK hKK => ?_ | refine vhrun_cons fun KK hKK => ?_); go_simp; (first | (with_reducible refine ⟨_, g1, ?_⟩) | (refine ⟨_, g2, ?_⟩) | (refine ⟨_, g3, ?_⟩) | skip); refine hKK _ ?_; clear hKK KK) | ((with_reducible refine vcondS ?_ (fun ht => ?_) (fun ht => ?_)); (focus (go_simp; done)); (all_goals (simp [go_sem] at ht; replace ht := ht.out))) | ((apply vrun_consG0 rfl); (focus (go_simp <;> exact rfl)); (focus (go_simp; done)); (focus (intro hb0; replace hb0 := hb0.out; go_simp <;> (first | exact rfl | exact g1 | exact g2 | exact g3 | exact ⟨g1, rfl⟩ | exact ⟨g2, rfl⟩ | exact ⟨g3, rfl⟩))); intro KK hKK; go_simp; refine hKK _ ?_; clear hKK KK))
          go_simp
        · rw [if_neg (by simp)]
          by_cases hE0 : E = 0
          · rw [if_neg (by simpa using hE0)]
            refine VC_of Tryz.func12 rfl (by kernel_rfl) (by kernel_rfl) rfl fun M0 w0 => ?_
            simp only [Tryz.ntmps12, Tryz.results12, enumA]
            repeat' (first | (with_reducible first | refine vseq ?_ | refine vthenN ?_ | refine vthenE ?_ | refine vthenR ?_ | refine vret ?_ | refine vskip ?_ | refine vexit ?_ | refine vblock ?_ | refine vblockN ?_ | refine vblockR ?_ | refine vblockH ?_ | refine vrun_nil ?_ | refine vblockE rfl ?_ | refine vregion [] ?_ | refine vhrun_nil ?_) | ((with_reducible refine vcondT ?_ ?_); (focus (go_simp; done))) | ((with_reducible refine vcondF ?_ ?_); (focus (go_simp; done))) | ((with_reducible first | refine vrun_cons fun KK hKK => ?_ | refine vhrun_cons fun KK hKK => ?_); go_simp; (first | (with_reducible refine ⟨_, g1, ?_⟩) | (refine ⟨_, g2, ?_⟩) | (refine ⟨_, g3, ?_⟩) | (refine ⟨_, g4, ?_⟩) | skip); refine hKK _ ?_; clear hKK KK) | ((with_reducible refine vcondS ?_ (fun ht => ?_) (fun ht => ?_)); (focus (go_simp; done)); (all_goals (simp [go_sem] at ht; replace ht := ht.out))) | ((apply vrun_consG0 rfl); (focus (go_simp <;> exact rfl)); (focus (go_simp; done)); (focus (intro hb0; replace hb0 := hb0.out; go_simp <;> (first | exact rfl | exact g1 | exact g2 | exact g3 | exact g4 | exact ⟨g1, rfl⟩ | exact ⟨g2, rfl⟩ | exact ⟨g3, rfl⟩ | exact ⟨g4, rfl⟩))); intro KK hKK; go_simp; refine hKK _ ?_; clear hKK KK))
            go_simp
          · rw [if_pos hE0]
            refine VC_of Tryz.func12 rfl (by kernel_rfl) (by kernel_rfl) rfl fun M0 w0 => ?_
            simp only [Tryz.ntmps12, Tryz.results12, enumA]
            repeat' (first | (with_reducible first | refine vseq ?_ | refine vthenN ?_ | refine vthenE ?_ | refine vthenR ?_ | refine vret ?_ | refine vskip ?_ | refine vexit ?_ | refine vblock ?_ | refine vblockN ?_ | refine vblockR ?_ | refine vblockH ?_ | refine vrun_nil ?_ | refine vblockE rfl ?_ | refine vregion [] ?_ | refine vhrun_nil ?_) | ((with_reducible refine vcondT ?_ ?_); (focus (go_simp; done))) | ((with_reducible refine vcondF ?_ ?_); (focus (go_simp; done))) | ((with_reducible first | refine vrun_cons fun KK hKK => ?_ | refine vhrun_cons fun KK hKK => ?_); go_simp; (first | (with_reducible refine ⟨_, g1, ?_⟩) | (refine ⟨_, g2, ?_⟩) | (refine ⟨_, g3, ?_⟩) | (refine ⟨_, g4, ?_⟩) | skip); refine hKK _ ?_; clear hKK KK) | ((with_reducible refine vcondS ?_ (fun ht => ?_) (fun ht => ?_)); (focus (go_simp; done)); (all_goals (simp [go_sem] at ht; replace ht := ht.out))) | ((apply vrun_consG0 rfl); (focus (go_simp <;> exact rfl)); (focus (go_simp; done)); (focus (intro hb0; replace hb0 := hb0.out; go_simp <;> (first | exact rfl | exact g1 | exact g2 | exact g3 | exact g4 | exact ⟨g1, rfl⟩ | exact ⟨g2, rfl⟩ | exact ⟨g3, rfl⟩ | exact ⟨g4, rfl⟩))); intro KK hKK; go_simp; refine hKK _ ?_; clear hKK KK))
            go_simp
  · rw [if_pos (.inl h5)]
    have h5i : ¬ (w.length : Int) = 3 := by omega
    clear hz
    refine VC_of Tryz.func12 rfl (by kernel_rfl) (by kernel_rfl) rfl fun M0 w0 => ?_
    simp only [Tryz.ntmps12, Tryz.results12, enumA]
    repeat' (first | (with_reducible first | refine vseq ?_ | refine vthenN ?_ | refine vthenE ?_ | refine vthenR ?_ | refine vret ?_ | refine vskip ?_ | refine vexit ?_ | refine vblock ?_ | refine vblockN ?_ | refine vblockR ?_ | refine vblockH ?_ | refine vrun_nil ?_ | refine vblockE rfl ?_ | refine vregion [] ?_ | refine vhrun_nil ?_) | ((with_reducible refine vcondT ?_ ?_); (focus (go_simp; done))) | ((with_reducible refine vcondF ?_ ?_); (focus (go_simp; done))) | ((with_reducible first | refine vrun_cons fun KK hKK => ?_ | refine vhrun_cons fun KK hKK => ?_); go_simp; (first | (with_reducible refine ⟨_, g1, ?_⟩) | skip); refine hKK _ ?_; clear hKK KK) | ((with_reducible refine vcondS ?_ (fun ht => ?_) (fun ht => ?_)); (focus (go_simp; done)); (all_goals (simp [go_sem] at ht; replace ht := ht.out))) | ((apply vrun_consG0 rfl); (focus (go_simp <;> exact rfl)); (focus (go_simp; done)); (focus (intro hb0; replace hb0 := hb0.out; go_simp <;> (first | exact rfl | exact g1 | exact ⟨g1, rfl⟩))); intro KK hKK; go_simp; refine hKK _ ?_; clear hKK KK))
    go_simp
end Go.Proofs.YtmfmpagfjgpodaaGreatDoor
