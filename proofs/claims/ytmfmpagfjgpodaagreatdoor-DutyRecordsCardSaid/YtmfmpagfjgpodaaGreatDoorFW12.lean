/- Texts in one: Chapter 7: which rules and records are right: plain functions, and the walks of the program and the reference; lists of at most 1000 records. -/
import Derived.Test.YtmfmpagfjgpodaaGreatDoorFW9
import Derived.Test.YtmfmpagfjgpodaaGreatDoorFW11
import Derived.Test.YtmfmpagfjgpodaaGreatDoorFW10
import Derived.WalkKit
/-! SWA: Chapter 7: which rules and records are right: plain functions, and the walks of the program and the reference; lists of at most 1000 records. -/
namespace Go.Proofs.YtmfmpagfjgpodaaGreatDoor
open Go.RowKit
set_option maxRecDepth 100000
set_option maxHeartbeats 1000000
/-- A record. -/
structure Rc where
  driver : ByteArray
  lo : Int
  hi : Int
instance : Inhabited Rc := ⟨⟨ByteArray.empty, 0, 0⟩⟩
@[go_sem] def Rc.av (x : Rc) : List AV := [S x.driver, I x.lo, I x.hi]
abbrev recA (x : Rc) : AV := .agg [S x.driver, I x.lo, I x.hi]
abbrev recsA (l : List Rc) : AV := .sl 3 (l.map Rc.av)
def rcat (l : List Rc) (k : Nat) : Rc := l.getD k default
theorem rcat_get {l : List Rc} {k : Nat} (h : k < l.length) : rcat l k = l[k] := by simp [rcat, h]
theorem rc_at {l : List Rc} {k : Nat} (h : k < l.length) : l[k] = rcat l k := (rcat_get h).symm
attribute [go_sem] rc_at
structure Rul where
  brk : Int
  rest : Int
  stint : Int
  shift : Int
  week : Int
abbrev rulA (r : Rul) : AV := .agg [I r.brk, I r.rest, I r.stint, I r.shift, I r.week]
theorem firstErr_hitF {E : Nat → Int} {k : Nat} (h : E k ≠ 0) : ∀ (n a : Nat), a ≤ k → k < a + n → (∀ j, a ≤ j → j < k → E j = 0) → firstErr E a n = (k, E k)
  | 0, a, h1, h2, _ => by omega
  | n + 1, a, h1, h2, hb => by
    rw [firstErr]
    by_cases he : a = k
    · subst he
      rw [if_pos h]
    · rw [if_neg (by rw [hb a (Nat.le_refl _) (by omega)]; decide)]
      exact firstErr_hitF h n (a + 1) (by omega) (by omega) fun j h1 h2 => hb j (by omega) h2
def bad (E : Nat → Int) (k : Nat) : Bool := decide (E k ≠ 0)
theorem bad_no {E : Nat → Int} {k : Nat} (h : bad E k = false) : E k = 0 := by simpa [bad] using h
theorem bad_yes {E : Nat → Int} {k : Nat} (h : bad E k = true) : E k ≠ 0 := by simpa [bad] using h
theorem firstErr_hit {E : Nat → Int} {k n : Nat} (hk : k < n) (hb : ∀ j, j < k → bad E j = false) (h : bad E k = true) : firstErr E 0 n = (k, E k) := firstErr_hitF (bad_yes h) n 0 (Nat.zero_le _) (by omega) fun j _ hj => bad_no (hb j hj)
theorem firstErr_outF {E : Nat → Int} : ∀ (n a : Nat), (∀ j, a ≤ j → j < a + n → E j = 0) → firstErr E a n = (0, 0)
  | 0, _, _ => rfl
  | n + 1, a, h => by
    rw [firstErr, if_neg (by rw [h a (Nat.le_refl _) (by omega)]; decide)]
    exact firstErr_outF n (a + 1) fun j h1 h2 => h j (by omega) (by omega)
theorem firstErr_out {E : Nat → Int} {n : Nat} (h : ∀ j, j < n → bad E j = false) : firstErr E 0 n = (0, 0) := firstErr_outF n 0 fun j _ hj => bad_no (h j (by omega))
theorem ixm {m : Nat} (h0 : 0 < m) (h : m ≤ 1000000000) : IntKind.i64.wrap ((m : Int) - 1) = ((m - 1 : Nat) : Int) := by
  rw [wrap_eq (by omega) (by omega)]
  omega
def isTm (n : Int) : Bool := inR n 0 8640000000
def spnE (lo hi : Int) : Int := if (isTm lo && isTm hi) = false then 2 else if lo < hi then 0 else 9
def recE (x : Rc) : Int := if isName x.driver = false then 4 else spnE x.lo x.hi
/-- The error of record number k. -/
def chkE (l : List Rc) (k : Nat) : Int :=
  if recE (rcat l k) ≠ 0 then recE (rcat l k) else if k = 0 then 0 else if (rcat l k).driver ≠ (rcat l (k - 1)).driver then 13 else if (rcat l k).lo < (rcat l (k - 1)).hi then 26 else 0
def recsE (l : List Rc) : Nat × Int := if 40 < l.length then (0, 8) else firstErr (chkE l) 0 l.length
theorem recsE_def (l : List Rc) : recsE l = if 40 < l.length then (0, 8) else firstErr (chkE l) 0 l.length := rfl
def SmallR (l : List Rc) : Prop := ∀ k, k < l.length → (rcat l k).driver.size ≤ 1000
/-! ### The program -/
theorem w_isTime (n : Int) : VC Tryz.prog 60 [I n] (B (isTm n)) := by
  refine VC_of Tryz.func60 rfl (by kernel_rfl) (by kernel_rfl) rfl fun M0 w0 => ?_
  simp only [Tryz.ntmps60, Tryz.results60, enumA]
  repeat' (first | (with_reducible first | refine vseq ?_ | refine vthenN ?_ | refine vthenE ?_ | refine vthenR ?_ | refine vret ?_ | refine vskip ?_ | refine vexit ?_ | refine vblock ?_ | refine vblockN ?_ | refine vblockR ?_ | refine vblockH ?_ | refine vrun_nil ?_ | refine vblockE rfl ?_ | refine vregion [] ?_ | refine vhrun_nil ?_) | ((with_reducible refine vcondT ?_ ?_); (focus (go_simp; done))) | ((with_reducible refine vcondF ?_ ?_); (focus (go_simp; done))) | ((with_reducible first | refine vrun_cons fun KK hKK => ?_ | refine vhrun_cons fun KK hKK => ?_); go_simp; (first | (with_reducible refine ⟨_, p_within _ _ _, ?_⟩) | skip); refine hKK _ ?_; clear hKK KK) | ((with_reducible refine vcondS ?_ (fun ht => ?_) (fun ht => ?_)); (focus (go_simp; done)); (all_goals (simp [go_sem] at ht; replace ht := ht.out))))
  all_goals (first | (go_simp; done) | (go_simp; first | (simp [isTm, *]; done) | (simp [isTm, *]; omega) | (simp [isTm, ] at *; omega) | (rfl)))
theorem w_timeErr (n : Int) : VC Tryz.prog 46 [I n] (I (unl (isTm n) 2)) := by
  refine VC_of Tryz.func46 rfl (by kernel_rfl) (by kernel_rfl) rfl fun M0 w0 => ?_
  simp only [Tryz.ntmps46, Tryz.results46, enumA]
  repeat' (first | (with_reducible first | refine vseq ?_ | refine vthenN ?_ | refine vthenE ?_ | refine vthenR ?_ | refine vret ?_ | refine vskip ?_ | refine vexit ?_ | refine vblock ?_ | refine vblockN ?_ | refine vblockR ?_ | refine vblockH ?_ | refine vrun_nil ?_ | refine vblockE rfl ?_ | refine vregion [] ?_ | refine vhrun_nil ?_) | ((with_reducible refine vcondT ?_ ?_); (focus (go_simp; done))) | ((with_reducible refine vcondF ?_ ?_); (focus (go_simp; done))) | ((with_reducible first | refine vrun_cons fun KK hKK => ?_ | refine vhrun_cons fun KK hKK => ?_); go_simp; (first | (with_reducible refine ⟨_, w_isTime _, ?_⟩) | (with_reducible refine ⟨_, p_unless _ _, ?_⟩) | skip); refine hKK _ ?_; clear hKK KK) | ((with_reducible refine vcondS ?_ (fun ht => ?_) (fun ht => ?_)); (focus (go_simp; done)); (all_goals (simp [go_sem] at ht; replace ht := ht.out))))
  go_simp
theorem w_nameErr (s : ByteArray) (h : s.size ≤ 1000) : VC Tryz.prog 48 [S s] (I (unl (isName s) 4)) := by
  have g := p_isName s h
  refine VC_of Tryz.func48 rfl (by kernel_rfl) (by kernel_rfl) rfl fun M0 w0 => ?_
  simp only [Tryz.ntmps48, Tryz.results48, enumA]
  repeat' (first | (with_reducible first | refine vseq ?_ | refine vthenN ?_ | refine vthenE ?_ | refine vthenR ?_ | refine vret ?_ | refine vskip ?_ | refine vexit ?_ | refine vblock ?_ | refine vblockN ?_ | refine vblockR ?_ | refine vblockH ?_ | refine vrun_nil ?_ | refine vblockE rfl ?_ | refine vregion [] ?_ | refine vhrun_nil ?_) | ((with_reducible refine vcondT ?_ ?_); (focus (go_simp; done))) | ((with_reducible refine vcondF ?_ ?_); (focus (go_simp; done))) | ((with_reducible first | refine vrun_cons fun KK hKK => ?_ | refine vhrun_cons fun KK hKK => ?_); go_simp; (first | (with_reducible refine ⟨_, g, ?_⟩) | (with_reducible refine ⟨_, p_unless _ _, ?_⟩) | skip); refine hKK _ ?_; clear hKK KK) | ((with_reducible refine vcondS ?_ (fun ht => ?_) (fun ht => ?_)); (focus (go_simp; done)); (all_goals (simp [go_sem] at ht; replace ht := ht.out))))
  go_simp
theorem w_spanErr (a b : Int) : VC Tryz.prog 49 [I a, I b] (I (spnE a b)) := by
  have g1 := w_timeErr a
  have g2 := w_timeErr b
  have g3 := p_unless (decide (a < b)) 9
  have e : spnE a b = fst [unl (isTm a) 2, unl (isTm b) 2, unl (decide (a < b)) 9] := by
    unfold spnE unl
    cases isTm a <;> cases isTm b <;> by_cases h : a < b <;> simp [fst, h]
  have g4 : VC Tryz.prog 27 [.sl 1 ([unl (isTm a) 2, unl (isTm b) 2, unl (decide (a < b)) 9].map intA)] (I (spnE a b)) := by
    rw [e]
    exact p_first _ (by simp)
  generalize unl (isTm a) 2 = A at *
  generalize unl (isTm b) 2 = Z at *
  generalize unl (decide (a < b)) 9 = C at *
  generalize spnE a b = E at *
  clear e
  refine VC_of Tryz.func49 rfl (by kernel_rfl) (by kernel_rfl) rfl fun M0 w0 => ?_
  simp only [Tryz.ntmps49, Tryz.results49, enumA]
  repeat' (first | (with_reducible first | refine vseq ?_ | refine vthenN ?_ | refine vthenE ?_ | refine vthenR ?_ | refine vret ?_ | refine vskip ?_ | refine vexit ?_ | refine vblock ?_ | refine vblockN ?_ | refine vblockR ?_ | refine vblockH ?_ | refine vrun_nil ?_ | refine vblockE rfl ?_ | refine vregion [] ?_ | refine vhrun_nil ?_) | ((with_reducible refine vcondT ?_ ?_); (focus (go_simp; done))) | ((with_reducible refine vcondF ?_ ?_); (focus (go_simp; done))) | ((with_reducible first | refine vrun_cons fun KK hKK => ?_ | refine vhrun_cons fun KK hKK => ?_); go_simp; (first | (with_reducible refine ⟨_, g1, ?_⟩) | (with_reducible refine ⟨_, g2, ?_⟩) | (with_reducible refine ⟨_, g3, ?_⟩) | (refine ⟨_, g4, ?_⟩) | skip); refine hKK _ ?_; clear hKK KK) | ((with_reducible refine vcondS ?_ (fun ht => ?_) (fun ht => ?_)); (focus (go_simp; done)); (all_goals (simp [go_sem] at ht; replace ht := ht.out))))
  go_simp
theorem w_recordErr (x : Rc) (h : x.driver.size ≤ 1000) : VC Tryz.prog 26 [recA x] (I (recE x)) := by
  have g1 := w_nameErr x.driver h
  have g2 := w_spanErr x.lo x.hi
  have e : recE x = fst [unl (isName x.driver) 4, spnE x.lo x.hi] := by
    unfold recE unl
    cases isName x.driver <;> by_cases h : spnE x.lo x.hi = 0 <;> simp [fst, h]
  have g4 : VC Tryz.prog 27 [.sl 1 ([unl (isName x.driver) 4, spnE x.lo x.hi].map intA)] (I (recE x)) := by
    rw [e]
    exact p_first _ (by simp)
  generalize unl (isName x.driver) 4 = A at *
  generalize spnE x.lo x.hi = Z at *
  generalize recE x = E at *
  clear e
  refine VC_of Tryz.func26 rfl (by kernel_rfl) (by kernel_rfl) rfl fun M0 w0 => ?_
  simp only [Tryz.ntmps26, Tryz.results26, enumA]
  repeat' (first | (with_reducible first | refine vseq ?_ | refine vthenN ?_ | refine vthenE ?_ | refine vthenR ?_ | refine vret ?_ | refine vskip ?_ | refine vexit ?_ | refine vblock ?_ | refine vblockN ?_ | refine vblockR ?_ | refine vblockH ?_ | refine vrun_nil ?_ | refine vblockE rfl ?_ | refine vregion [] ?_ | refine vhrun_nil ?_) | ((with_reducible refine vcondT ?_ ?_); (focus (go_simp; done))) | ((with_reducible refine vcondF ?_ ?_); (focus (go_simp; done))) | ((with_reducible first | refine vrun_cons fun KK hKK => ?_ | refine vhrun_cons fun KK hKK => ?_); go_simp; (first | (with_reducible refine ⟨_, g1, ?_⟩) | (with_reducible refine ⟨_, g2, ?_⟩) | (refine ⟨_, g4, ?_⟩) | skip); refine hKK _ ?_; clear hKK KK) | ((refine vdrawL 11 11 [] rfl (by kernel_rfl) (by kernel_rfl) ?_); simp only [List.take, List.drop]) | ((with_reducible refine vcondS ?_ (fun ht => ?_) (fun ht => ?_)); (focus (go_simp; done)); (all_goals (simp [go_sem] at ht; replace ht := ht.out))))
  go_simp
theorem w_chk (l : List Rc) (k : Nat) (hk : k < l.length) (hl : l.length ≤ 1000) (hs : SmallR l) : VC Tryz.prog 25 [I (k : Int), recA (rcat l k), .vp [recsA l]] (I (chkE l k)) := by
  have g1 := w_recordErr (rcat l k) (hs k hk)
  obtain ⟨R, hR⟩ : ∃ R, chkE l k = R := ⟨_, rfl⟩
  rw [hR]
  unfold chkE at hR
  obtain ⟨x, hx⟩ : ∃ x, rcat l k = x := ⟨_, rfl⟩
  rw [hx] at g1 hR ⊢
  obtain ⟨w1, w2, w3, w4, w5, w6⟩ := ixs (m := k) (by omega)
  clear hs
  by_cases h0 : k = 0
  · subst h0
    rw [if_pos rfl] at hR
    have e : R = recE x := by
      by_cases hz : recE x = 0
      · rw [← hR, if_neg (by simpa using hz), hz]
      · rw [← hR, if_pos hz]
    subst e
    generalize recE x = E at *
    clear hR
    refine VC_of Tryz.func25 rfl (by kernel_rfl) (by kernel_rfl) rfl fun M0 w0 => ?_
    simp only [Tryz.ntmps25, Tryz.results25, enumA]
    repeat' (first | (with_reducible first | refine vseq ?_ | refine vthenN ?_ | refine vthenE ?_ | refine vthenR ?_ | refine vret ?_ | refine vskip ?_ | refine vexit ?_ | refine vblock ?_ | refine vblockN ?_ | refine vblockR ?_ | refine vblockH ?_ | refine vrun_nil ?_ | refine vblockE rfl ?_ | refine vregion [] ?_ | refine vhrun_nil ?_) | ((with_reducible refine vcondT ?_ ?_); (focus (go_simp; done))) | ((with_reducible refine vcondF ?_ ?_); (focus (go_simp; done))) | ((with_reducible first | refine vrun_cons fun KK hKK => ?_ | refine vhrun_cons fun KK hKK => ?_); go_simp; (first | (with_reducible refine ⟨_, g1, ?_⟩) | skip); refine hKK _ ?_; clear hKK KK) | ((refine vdrawL 24 23 [] rfl (by kernel_rfl) (by kernel_rfl) ?_); simp only [List.append, List.take, List.drop]) | ((with_reducible refine vcondS ?_ (fun ht => ?_) (fun ht => ?_)); (focus (go_simp; done)); (all_goals (simp [go_sem] at ht; replace ht := ht.out))))
    go_simp
  · have hk0 : 0 < k := by omega
    have hk1 := ixm hk0 (by omega)
    have hk2 : k - 1 < l.length := by omega
    have hki : (0 : Int) < (k : Int) := by omega
    rw [if_neg h0] at hR
    obtain ⟨y, hy⟩ : ∃ y, rcat l (k - 1) = y := ⟨_, rfl⟩
    rw [hy] at hR
    have g2 := p_unless (decide (x.driver = y.driver)) 13
    have g3 := p_unless (decide (y.hi ≤ x.lo)) 26
    have e : R = fst [recE x, unl (decide (x.driver = y.driver)) 13, unl (decide (y.hi ≤ x.lo)) 26] := by
      rw [← hR]
      unfold unl
      by_cases z1 : recE x = 0 <;> by_cases z2 : x.driver = y.driver <;> by_cases z3 : y.hi ≤ x.lo <;> simp [fst, z1, z2, z3] <;> omega
    have g4 : VC Tryz.prog 27 [.sl 1 ([recE x, unl (decide (x.driver = y.driver)) 13, unl (decide (y.hi ≤ x.lo)) 26].map intA)] (I R) := by
      rw [e]
      exact p_first _ (by simp)
    generalize recE x = E at *
    generalize unl (decide (x.driver = y.driver)) 13 = A at *
    generalize unl (decide (y.hi ≤ x.lo)) 26 = Z at *
    clear e hR
    refine VC_of Tryz.func25 rfl (by kernel_rfl) (by kernel_rfl) rfl fun M0 w0 => ?_
    simp only [Tryz.ntmps25, Tryz.results25, enumA]
    repeat' (first | (with_reducible first | refine vseq ?_ | refine vthenN ?_ | refine vthenE ?_ | refine vthenR ?_ | refine vret ?_ | refine vskip ?_ | refine vexit ?_ | refine vblock ?_ | refine vblockN ?_ | refine vblockR ?_ | refine vblockH ?_ | refine vrun_nil ?_ | refine vblockE rfl ?_ | refine vregion [] ?_ | refine vhrun_nil ?_) | ((with_reducible refine vcondT ?_ ?_); (focus (go_simp; done))) | ((with_reducible refine vcondF ?_ ?_); (focus (go_simp; done))) | ((with_reducible first | refine vrun_cons fun KK hKK => ?_ | refine vhrun_cons fun KK hKK => ?_); go_simp; (first | (with_reducible refine ⟨_, g1, ?_⟩) | (with_reducible refine ⟨_, g2, ?_⟩) | (with_reducible refine ⟨_, g3, ?_⟩) | (refine ⟨_, g4, ?_⟩) | skip); refine hKK _ ?_; clear hKK KK) | ((refine vdrawL 24 23 [] rfl (by kernel_rfl) (by kernel_rfl) ?_); simp only [List.take, List.drop]) | ((with_reducible refine vcondS ?_ (fun ht => ?_) (fun ht => ?_)); (focus (go_simp; done)); (all_goals (simp [go_sem] at ht; replace ht := ht.out))))
    go_simp
theorem w_check (l : List Rc) (hl : l.length ≤ 1000) (hs : SmallR l) : VC Tryz.prog 24 [recsA l, I 40, .fn (.func 25) [] [.vp [recsA l]]] (.tup [I ((recsE l).1 : Nat), I (recsE l).2]) := by
  obtain ⟨E, hE⟩ : ∃ E, recsE l = E := ⟨_, rfl⟩
  rw [hE]
  rw [recsE_def] at hE
  have HE := Lib.hid hE
  have HS := Lib.hid hs
  clear hE hs
  refine VC_of Tryz.func24 rfl (by kernel_rfl) (by kernel_rfl) rfl fun M0 w0 => ?_
  simp only [Tryz.ntmps24, Tryz.results24, enumA]
  by_cases h40 : 40 < l.length
  · have h40i : (40 : Int) < (l.length : Int) := by omega
    have e := HE.out
    rw [if_pos h40] at e
    subst e
    repeat' (first | (with_reducible first | refine vseq ?_ | refine vthenN ?_ | refine vthenE ?_ | refine vthenR ?_ | refine vret ?_ | refine vskip ?_ | refine vexit ?_ | refine vblock ?_ | refine vblockN ?_ | refine vblockR ?_ | refine vblockH ?_ | refine vrun_nil ?_ | refine vblockE rfl ?_ | refine vregion [] ?_ | refine vhrun_nil ?_) | ((with_reducible refine vcondT ?_ ?_); (focus (go_simp; done))) | ((with_reducible refine vcondF ?_ ?_); (focus (go_simp; done))) | ((with_reducible first | refine vrun_cons fun KK hKK => ?_ | refine vhrun_cons fun KK hKK => ?_); go_simp; refine hKK _ ?_; clear hKK KK) | ((with_reducible refine vcondS ?_ (fun ht => ?_) (fun ht => ?_)); (focus (go_simp; done)); (all_goals (simp [go_sem] at ht; replace ht := ht.out))))
    go_simp
  have h40i : ¬ (40 : Int) < (l.length : Int) := by omega
  have e := HE.out
  rw [if_neg h40] at e
  have HE := Lib.hid e
  clear e
  repeat' (first | (with_reducible first | refine vseq ?_ | refine vthenN ?_ | refine vthenE ?_ | refine vthenR ?_ | refine vret ?_ | refine vskip ?_ | refine vexit ?_ | refine vblock ?_ | refine vblockN ?_ | refine vblockR ?_ | refine vblockH ?_ | refine vrun_nil ?_ | refine vblockE rfl ?_ | refine vregion [] ?_ | refine vhrun_nil ?_) | ((with_reducible refine vcondT ?_ ?_); (focus (go_simp; done))) | ((with_reducible refine vcondF ?_ ?_); (focus (go_simp; done))) | ((with_reducible first | refine vrun_cons fun KK hKK => ?_ | refine vhrun_cons fun KK hKK => ?_); go_simp; refine hKK _ ?_; clear hKK KK) | ((with_reducible refine vcondS ?_ (fun ht => ?_) (fun ht => ?_)); (focus (go_simp; done)); (all_goals (simp [go_sem] at ht; replace ht := ht.out))))
  apply vfor [2, 15, 16] (fun k => [(17, I (k : Int))]) (fun k => ([] : Hp)) (bad (chkE l)) (l.length)
  · go_simp <;> exact rfl
  · go_simp
  · intro k hk hb hp K hK
    obtain ⟨w1, w2, w3, w4, w5, w6⟩ := ixs (m := k) (by omega)
    have g := w_chk l k hk hl HS.out
    rw [bad_no hp.out] at g
    repeat' (first | (with_reducible first | refine vseq ?_ | refine vthenN ?_ | refine vthenE ?_ | refine vthenR ?_ | refine vret ?_ | refine vskip ?_ | refine vexit ?_ | refine vblock ?_ | refine vblockN ?_ | refine vblockR ?_ | refine vblockH ?_ | refine vrun_nil ?_ | refine vblockE rfl ?_ | refine vregion [] ?_ | refine vhrun_nil ?_) | ((with_reducible refine vcondT ?_ ?_); (focus (go_simp; done))) | ((with_reducible refine vcondF ?_ ?_); (focus (go_simp; done))) | ((with_reducible first | refine vrun_cons fun KK hKK => ?_ | refine vhrun_cons fun KK hKK => ?_); go_simp; (first | (refine ⟨_, g, ?_⟩) | skip); refine hKK _ ?_; clear hKK KK) | ((with_reducible refine vcondS ?_ (fun ht => ?_) (fun ht => ?_)); (focus (go_simp; done)); (all_goals (simp [go_sem] at ht; replace ht := ht.out))))
    refine hK _ ?_
    go_simp
  · intro k hk hb hp K
    have g := w_chk l k hk hl HS.out
    have e := HE.out
    rw [firstErr_hit hk hb.out hp.out] at e
    subst e
    have hz := bad_yes hp.out
    generalize chkE l k = c at *
    repeat' (first | (with_reducible first | refine vseq ?_ | refine vthenN ?_ | refine vthenE ?_ | refine vthenR ?_ | refine vret ?_ | refine vskip ?_ | refine vexit ?_ | refine vblock ?_ | refine vblockN ?_ | refine vblockR ?_ | refine vblockH ?_ | refine vrun_nil ?_ | refine vblockE rfl ?_ | refine vregion [] ?_ | refine vhrun_nil ?_) | ((with_reducible refine vcondT ?_ ?_); (focus (go_simp; done))) | ((with_reducible refine vcondF ?_ ?_); (focus (go_simp; done))) | ((with_reducible first | refine vrun_cons fun KK hKK => ?_ | refine vhrun_cons fun KK hKK => ?_); go_simp; (first | (refine ⟨_, g, ?_⟩) | skip); refine hKK _ ?_; clear hKK KK) | ((with_reducible refine vcondS ?_ (fun ht => ?_) (fun ht => ?_)); (focus (go_simp; done)); (all_goals (simp [go_sem] at ht; replace ht := ht.out))))
    go_simp
  intro hb K
  have e := HE.out
  rw [firstErr_out hb.out] at e
  subst e
  repeat' (first | (with_reducible first | refine vseq ?_ | refine vthenN ?_ | refine vthenE ?_ | refine vthenR ?_ | refine vret ?_ | refine vskip ?_ | refine vexit ?_ | refine vblock ?_ | refine vblockN ?_ | refine vblockR ?_ | refine vblockH ?_ | refine vrun_nil ?_ | refine vblockE rfl ?_ | refine vregion [] ?_ | refine vhrun_nil ?_) | ((with_reducible refine vcondT ?_ ?_); (focus (go_simp; done))) | ((with_reducible refine vcondF ?_ ?_); (focus (go_simp; done))) | ((with_reducible first | refine vrun_cons fun KK hKK => ?_ | refine vhrun_cons fun KK hKK => ?_); go_simp; refine hKK _ ?_; clear hKK KK) | ((with_reducible refine vcondS ?_ (fun ht => ?_) (fun ht => ?_)); (focus (go_simp; done)); (all_goals (simp [go_sem] at ht; replace ht := ht.out))))
  go_simp
theorem w_CheckRecords (l : List Rc) (hl : l.length ≤ 1000) (hs : SmallR l) : VC Tryz.prog 7 [recsA l] (.tup [I ((recsE l).1 : Nat), I (recsE l).2]) := by
  have g := w_check l hl hs
  generalize recsE l = E at *
  clear hs
  refine VC_of Tryz.func7 rfl (by kernel_rfl) (by kernel_rfl) rfl fun M0 w0 => ?_
  simp only [Tryz.ntmps7, Tryz.results7, enumA]
  repeat' (first | (with_reducible first | refine vseq ?_ | refine vthenN ?_ | refine vthenE ?_ | refine vthenR ?_ | refine vret ?_ | refine vskip ?_ | refine vexit ?_ | refine vblock ?_ | refine vblockN ?_ | refine vblockR ?_ | refine vblockH ?_ | refine vrun_nil ?_ | refine vblockE rfl ?_ | refine vregion [] ?_ | refine vhrun_nil ?_) | ((with_reducible refine vcondT ?_ ?_); (focus (go_simp; done))) | ((with_reducible refine vcondF ?_ ?_); (focus (go_simp; done))) | ((with_reducible first | refine vrun_cons fun KK hKK => ?_ | refine vhrun_cons fun KK hKK => ?_); go_simp; (first | (refine ⟨_, g, ?_⟩) | skip); refine hKK _ ?_; clear hKK KK) | ((with_reducible refine vcondS ?_ (fun ht => ?_) (fun ht => ?_)); (focus (go_simp; done)); (all_goals (simp [go_sem] at ht; replace ht := ht.out))))
  go_simp
theorem w_recordsErr (l : List Rc) (hl : l.length ≤ 1000) (hs : SmallR l) : VC Tryz.prog 45 [recsA l] (I (recsE l).2) := by
  have g := w_CheckRecords l hl hs
  generalize recsE l = E at *
  clear hs
  refine VC_of Tryz.func45 rfl (by kernel_rfl) (by kernel_rfl) rfl fun M0 w0 => ?_
  simp only [Tryz.ntmps45, Tryz.results45, enumA]
  repeat' (first | (with_reducible first | refine vseq ?_ | refine vthenN ?_ | refine vthenE ?_ | refine vthenR ?_ | refine vret ?_ | refine vskip ?_ | refine vexit ?_ | refine vblock ?_ | refine vblockN ?_ | refine vblockR ?_ | refine vblockH ?_ | refine vrun_nil ?_ | refine vblockE rfl ?_ | refine vregion [] ?_ | refine vhrun_nil ?_) | ((with_reducible refine vcondT ?_ ?_); (focus (go_simp; done))) | ((with_reducible refine vcondF ?_ ?_); (focus (go_simp; done))) | ((with_reducible first | refine vrun_cons fun KK hKK => ?_ | refine vhrun_cons fun KK hKK => ?_); go_simp; (first | (with_reducible refine ⟨_, g, ?_⟩) | skip); refine hKK _ ?_; clear hKK KK) | ((with_reducible refine vcondS ?_ (fun ht => ?_) (fun ht => ?_)); (focus (go_simp; done)); (all_goals (simp [go_sem] at ht; replace ht := ht.out))))
  go_simp
def rulOK (r : Rul) : Bool := inR r.brk 1 2000000 && inR r.rest 1 2000000 && inR r.stint 1 2000000 && inR r.shift 1 2000000 && inR r.week 1 2000000
def rulE (r : Rul) : Int := if rulOK r = false then 2 else if r.brk ≤ r.rest then 0 else 9
/-! ### The reference -/
theorem v_IsTime (n : Int) : VC Tryz.prog 76 [I n] (B (isTm n)) := by
  refine VC_of Tryz.func76 rfl (by kernel_rfl) (by kernel_rfl) rfl fun M0 w0 => ?_
  simp only [Tryz.ntmps76, Tryz.results76, enumA]
  repeat' (first | (with_reducible first | refine vseq ?_ | refine vthenN ?_ | refine vthenE ?_ | refine vthenR ?_ | refine vret ?_ | refine vskip ?_ | refine vexit ?_ | refine vblock ?_ | refine vblockN ?_ | refine vblockR ?_ | refine vblockH ?_ | refine vrun_nil ?_ | refine vblockE rfl ?_ | refine vregion [] ?_ | refine vhrun_nil ?_) | ((with_reducible refine vcondT ?_ ?_); (focus (go_simp; done))) | ((with_reducible refine vcondF ?_ ?_); (focus (go_simp; done))) | ((with_reducible first | refine vrun_cons fun KK hKK => ?_ | refine vhrun_cons fun KK hKK => ?_); go_simp; (first | (with_reducible refine ⟨_, b_within _ _ _, ?_⟩) | skip); refine hKK _ ?_; clear hKK KK) | ((with_reducible refine vcondS ?_ (fun ht => ?_) (fun ht => ?_)); (focus (go_simp; done)); (all_goals (simp [go_sem] at ht; replace ht := ht.out))))
  all_goals (first | (go_simp; done) | (go_simp; first | (simp [isTm, *]; done) | (simp [isTm, *]; omega) | (simp [isTm, ] at *; omega) | (rfl)))
theorem v_spanErr (a b : Int) : VC Tryz.prog 57 [I a, I b] (I (spnE a b)) := by
  have g1 := v_IsTime a
  have g2 := v_IsTime b
  unfold spnE
  generalize isTm a = A at *
  generalize isTm b = Z at *
  by_cases h : a < b
  · have h2 : ¬ b ≤ a := by omega
    cases A <;> cases Z <;>
    · refine VC_of Tryz.func57 rfl (by kernel_rfl) (by kernel_rfl) rfl fun M0 w0 => ?_
      simp only [Tryz.ntmps57, Tryz.results57, enumA]
      repeat' (first | (with_reducible first | refine vseq ?_ | refine vthenN ?_ | refine vthenE ?_ | refine vthenR ?_ | refine vret ?_ | refine vskip ?_ | refine vexit ?_ | refine vblock ?_ | refine vblockN ?_ | refine vblockR ?_ | refine vblockH ?_ | refine vrun_nil ?_ | refine vblockE rfl ?_ | refine vregion [] ?_ | refine vhrun_nil ?_) | ((with_reducible refine vcondT ?_ ?_); (focus (go_simp; done))) | ((with_reducible refine vcondF ?_ ?_); (focus (go_simp; done))) | ((with_reducible first | refine vrun_cons fun KK hKK => ?_ | refine vhrun_cons fun KK hKK => ?_); go_simp; (first | (with_reducible refine ⟨_, g1, ?_⟩) | (with_reducible refine ⟨_, g2, ?_⟩) | skip); refine hKK _ ?_; clear hKK KK) | ((with_reducible refine vcondS ?_ (fun ht => ?_) (fun ht => ?_)); (focus (go_simp; done)); (all_goals (simp [go_sem] at ht; replace ht := ht.out))) | ((apply vrun_consG0 rfl); (focus (go_simp <;> exact rfl)); (focus (go_simp; done)); (focus (intro hb0; replace hb0 := hb0.out; go_simp <;> (first | exact rfl | exact g1 | exact g2 | exact ⟨g1, rfl⟩ | exact ⟨g2, rfl⟩))); intro KK hKK; go_simp; refine hKK _ ?_; clear hKK KK))
      go_simp
  · have h2 : b ≤ a := by omega
    cases A <;> cases Z <;>
    · refine VC_of Tryz.func57 rfl (by kernel_rfl) (by kernel_rfl) rfl fun M0 w0 => ?_
      simp only [Tryz.ntmps57, Tryz.results57, enumA]
      repeat' (first | (with_reducible first | refine vseq ?_ | refine vthenN ?_ | refine vthenE ?_ | refine vthenR ?_ | refine vret ?_ | refine vskip ?_ | refine vexit ?_ | refine vblock ?_ | refine vblockN ?_ | refine vblockR ?_ | refine vblockH ?_ | refine vrun_nil ?_ | refine vblockE rfl ?_ | refine vregion [] ?_ | refine vhrun_nil ?_) | ((with_reducible refine vcondT ?_ ?_); (focus (go_simp; done))) | ((with_reducible refine vcondF ?_ ?_); (focus (go_simp; done))) | ((with_reducible first | refine vrun_cons fun KK hKK => ?_ | refine vhrun_cons fun KK hKK => ?_); go_simp; (first | (with_reducible refine ⟨_, g1, ?_⟩) | (with_reducible refine ⟨_, g2, ?_⟩) | skip); refine hKK _ ?_; clear hKK KK) | ((with_reducible refine vcondS ?_ (fun ht => ?_) (fun ht => ?_)); (focus (go_simp; done)); (all_goals (simp [go_sem] at ht; replace ht := ht.out))) | ((apply vrun_consG0 rfl); (focus (go_simp <;> exact rfl)); (focus (go_simp; done)); (focus (intro hb0; replace hb0 := hb0.out; go_simp <;> (first | exact rfl | exact g1 | exact g2 | exact ⟨g1, rfl⟩ | exact ⟨g2, rfl⟩))); intro KK hKK; go_simp; refine hKK _ ?_; clear hKK KK))
      go_simp
theorem v_recordErr (x : Rc) (h : x.driver.size ≤ 1000) : VC Tryz.prog 37 [recA x] (I (recE x)) := by
  have g1 := b_isName x.driver (by omega)
  have g2 := v_spanErr x.lo x.hi
  unfold recE
  generalize isName x.driver = A at *
  generalize spnE x.lo x.hi = Z at *
  cases A
  · refine VC_of Tryz.func37 rfl (by kernel_rfl) (by kernel_rfl) rfl fun M0 w0 => ?_
    simp only [Tryz.ntmps37, Tryz.results37, enumA]
    repeat' (first | (with_reducible first | refine vseq ?_ | refine vthenN ?_ | refine vthenE ?_ | refine vthenR ?_ | refine vret ?_ | refine vskip ?_ | refine vexit ?_ | refine vblock ?_ | refine vblockN ?_ | refine vblockR ?_ | refine vblockH ?_ | refine vrun_nil ?_ | refine vblockE rfl ?_ | refine vregion [] ?_ | refine vhrun_nil ?_) | ((with_reducible refine vcondT ?_ ?_); (focus (go_simp; done))) | ((with_reducible refine vcondF ?_ ?_); (focus (go_simp; done))) | ((with_reducible first | refine vrun_cons fun KK hKK => ?_ | refine vhrun_cons fun KK hKK => ?_); go_simp; (first | (with_reducible refine ⟨_, g1, ?_⟩) | (with_reducible refine ⟨_, g2, ?_⟩) | skip); refine hKK _ ?_; clear hKK KK) | ((with_reducible refine vcondS ?_ (fun ht => ?_) (fun ht => ?_)); (focus (go_simp; done)); (all_goals (simp [go_sem] at ht; replace ht := ht.out))))
    go_simp
  · refine VC_of Tryz.func37 rfl (by kernel_rfl) (by kernel_rfl) rfl fun M0 w0 => ?_
    simp only [Tryz.ntmps37, Tryz.results37, enumA]
    repeat' (first | (with_reducible first | refine vseq ?_ | refine vthenN ?_ | refine vthenE ?_ | refine vthenR ?_ | refine vret ?_ | refine vskip ?_ | refine vexit ?_ | refine vblock ?_ | refine vblockN ?_ | refine vblockR ?_ | refine vblockH ?_ | refine vrun_nil ?_ | refine vblockE rfl ?_ | refine vregion [] ?_ | refine vhrun_nil ?_) | ((with_reducible refine vcondT ?_ ?_); (focus (go_simp; done))) | ((with_reducible refine vcondF ?_ ?_); (focus (go_simp; done))) | ((with_reducible first | refine vrun_cons fun KK hKK => ?_ | refine vhrun_cons fun KK hKK => ?_); go_simp; (first | (with_reducible refine ⟨_, g1, ?_⟩) | (with_reducible refine ⟨_, g2, ?_⟩) | skip); refine hKK _ ?_; clear hKK KK) | ((with_reducible refine vcondS ?_ (fun ht => ?_) (fun ht => ?_)); (focus (go_simp; done)); (all_goals (simp [go_sem] at ht; replace ht := ht.out))))
    go_simp
theorem v_RecordErr (x : Rc) (h : x.driver.size ≤ 1000) : VC Tryz.prog 15 [recA x] (I (recE x)) := by
  have g1 := v_recordErr x h
  refine VC_of Tryz.func15 rfl (by kernel_rfl) (by kernel_rfl) rfl fun M0 w0 => ?_
  simp only [Tryz.ntmps15, Tryz.results15, enumA]
  repeat' (first | (with_reducible first | refine vseq ?_ | refine vthenN ?_ | refine vthenE ?_ | refine vthenR ?_ | refine vret ?_ | refine vskip ?_ | refine vexit ?_ | refine vblock ?_ | refine vblockN ?_ | refine vblockR ?_ | refine vblockH ?_ | refine vrun_nil ?_ | refine vblockE rfl ?_ | refine vregion [] ?_ | refine vhrun_nil ?_) | ((with_reducible refine vcondT ?_ ?_); (focus (go_simp; done))) | ((with_reducible refine vcondF ?_ ?_); (focus (go_simp; done))) | ((with_reducible first | refine vrun_cons fun KK hKK => ?_ | refine vhrun_cons fun KK hKK => ?_); go_simp; (first | (with_reducible refine ⟨_, g1, ?_⟩) | skip); refine hKK _ ?_; clear hKK KK) | ((with_reducible refine vcondS ?_ (fun ht => ?_) (fun ht => ?_)); (focus (go_simp; done)); (all_goals (simp [go_sem] at ht; replace ht := ht.out))))
  go_simp
theorem v_checked (l : List Rc) (hl : l.length ≤ 1000) (hs : SmallR l) : VC Tryz.prog 28 [recsA l, B true] (.tup [I ((recsE l).1 : Nat), I (recsE l).2]) := by
  obtain ⟨E, hE⟩ : ∃ E, recsE l = E := ⟨_, rfl⟩
  rw [hE]
  rw [recsE_def] at hE
  have HE := Lib.hid hE
  have HS := Lib.hid hs
  clear hE hs
  refine VC_of Tryz.func28 rfl (by kernel_rfl) (by kernel_rfl) rfl fun M0 w0 => ?_
  simp only [Tryz.ntmps28, Tryz.results28, enumA]
  by_cases h40 : 40 < l.length
  · have h40i : (40 : Int) < (l.length : Int) := by omega
    have e := HE.out
    rw [if_pos h40] at e
    subst e
    repeat' (first | (with_reducible first | refine vseq ?_ | refine vthenN ?_ | refine vthenE ?_ | refine vthenR ?_ | refine vret ?_ | refine vskip ?_ | refine vexit ?_ | refine vblock ?_ | refine vblockN ?_ | refine vblockR ?_ | refine vblockH ?_ | refine vrun_nil ?_ | refine vblockE rfl ?_ | refine vregion [] ?_ | refine vhrun_nil ?_) | ((with_reducible refine vcondT ?_ ?_); (focus (go_simp; done))) | ((with_reducible refine vcondF ?_ ?_); (focus (go_simp; done))) | ((with_reducible first | refine vrun_cons fun KK hKK => ?_ | refine vhrun_cons fun KK hKK => ?_); go_simp; refine hKK _ ?_; clear hKK KK) | ((refine vdrawL 16 16 [] rfl (by kernel_rfl) (by kernel_rfl) ?_); simp only [List.append, List.take, List.drop]) | ((refine vdrawL 19 19 [] rfl (by kernel_rfl) (by kernel_rfl) ?_); simp only [List.append, List.take, List.drop]) | ((with_reducible refine vcondS ?_ (fun ht => ?_) (fun ht => ?_)); (focus (go_simp; done)); (all_goals (simp [go_sem] at ht; replace ht := ht.out))) | ((apply vrun_consG0 rfl); (focus (go_simp <;> exact rfl)); (focus (go_simp; done)); (focus (intro hb0; replace hb0 := hb0.out; go_simp <;> (first | exact rfl))); intro KK hKK; go_simp; refine hKK _ ?_; clear hKK KK) | ((apply vhrun_consG0 rfl); (focus (go_simp <;> exact rfl)); (focus (intro hb0; replace hb0 := hb0.out; go_simp <;> (first | exact rfl))); intro KK hKK; go_simp; refine hKK _ ?_; clear hKK KK))
    go_simp
  have h40i : ¬ (40 : Int) < (l.length : Int) := by omega
  have e := HE.out
  rw [if_neg h40] at e
  have HE := Lib.hid e
  clear e
  repeat' (first | (with_reducible first | refine vseq ?_ | refine vthenN ?_ | refine vthenE ?_ | refine vthenR ?_ | refine vret ?_ | refine vskip ?_ | refine vexit ?_ | refine vblock ?_ | refine vblockN ?_ | refine vblockR ?_ | refine vblockH ?_ | refine vrun_nil ?_ | refine vblockE rfl ?_ | refine vregion [] ?_ | refine vhrun_nil ?_) | ((with_reducible refine vcondT ?_ ?_); (focus (go_simp; done))) | ((with_reducible refine vcondF ?_ ?_); (focus (go_simp; done))) | ((with_reducible first | refine vrun_cons fun KK hKK => ?_ | refine vhrun_cons fun KK hKK => ?_); go_simp; refine hKK _ ?_; clear hKK KK) | ((refine vdrawL 16 16 [] rfl (by kernel_rfl) (by kernel_rfl) ?_); simp only [List.append, List.take, List.drop]) | ((refine vdrawL 19 19 [] rfl (by kernel_rfl) (by kernel_rfl) ?_); simp only [List.append, List.take, List.drop]) | ((with_reducible refine vcondS ?_ (fun ht => ?_) (fun ht => ?_)); (focus (go_simp; done)); (all_goals (simp [go_sem] at ht; replace ht := ht.out))) | ((apply vrun_consG0 rfl); (focus (go_simp <;> exact rfl)); (focus (go_simp; done)); (focus (intro hb0; replace hb0 := hb0.out; go_simp <;> (first | exact rfl))); intro KK hKK; go_simp; refine hKK _ ?_; clear hKK KK) | ((apply vhrun_consG0 rfl); (focus (go_simp <;> exact rfl)); (focus (intro hb0; replace hb0 := hb0.out; go_simp <;> (first | exact rfl))); intro KK hKK; go_simp; refine hKK _ ?_; clear hKK KK))
  apply vfor [0, 1] (fun k => [(6, I (k : Int))]) (fun k => ([] : Hp)) (bad (chkE l)) (l.length)
  · go_simp <;> exact rfl
  · go_simp
  · intro k hk hb hp K hK
    obtain ⟨w1, w2, w3, w4, w5, w6⟩ := ixs (m := k) (by omega)
    have g := v_recordErr (rcat l k) (HS.out k hk)
    have hz := bad_no hp.out
    unfold chkE at hz
    have z0 : recE (rcat l k) = 0 := Classical.byContradiction fun hc => by rw [if_pos hc] at hz; exact hc hz
    rw [if_neg (by simp [z0])] at hz
    rw [z0] at g
    by_cases h0 : k = 0
    · subst h0
      clear hz z0
      repeat' (first | (with_reducible first | refine vseq ?_ | refine vthenN ?_ | refine vthenE ?_ | refine vthenR ?_ | refine vret ?_ | refine vskip ?_ | refine vexit ?_ | refine vblock ?_ | refine vblockN ?_ | refine vblockR ?_ | refine vblockH ?_ | refine vrun_nil ?_ | refine vblockE rfl ?_ | refine vregion [] ?_ | refine vhrun_nil ?_) | ((with_reducible refine vcondT ?_ ?_); (focus (go_simp; done))) | ((with_reducible refine vcondF ?_ ?_); (focus (go_simp; done))) | ((with_reducible first | refine vrun_cons fun KK hKK => ?_ | refine vhrun_cons fun KK hKK => ?_); go_simp; (first | (with_reducible refine ⟨_, g, ?_⟩) | skip); refine hKK _ ?_; clear hKK KK) | ((refine vdrawL 16 16 [] rfl (by kernel_rfl) (by kernel_rfl) ?_); simp only [List.take, List.drop]) | ((refine vdrawL 19 19 [] rfl (by kernel_rfl) (by kernel_rfl) ?_); simp only [List.take, List.drop]) | ((with_reducible refine vcondS ?_ (fun ht => ?_) (fun ht => ?_)); (focus (go_simp; done)); (all_goals (simp [go_sem] at ht; replace ht := ht.out))) | ((apply vrun_consG0 rfl); (focus (go_simp <;> exact rfl)); (focus (go_simp; done)); (focus (intro hb0; replace hb0 := hb0.out; go_simp <;> (first | exact rfl | exact g | exact ⟨g, rfl⟩))); intro KK hKK; go_simp; refine hKK _ ?_; clear hKK KK) | ((apply vhrun_consG0 rfl); (focus (go_simp <;> exact rfl)); (focus (intro hb0; replace hb0 := hb0.out; go_simp <;> (first | exact rfl | exact g | exact ⟨g, rfl⟩))); intro KK hKK; go_simp; refine hKK _ ?_; clear hKK KK))
      refine hK _ ?_
      go_simp
    · have hk0 : 0 < k := by omega
      have hk1 := ixm hk0 (by omega)
      have hk2 : k - 1 < l.length := by omega
      have hki : (0 : Int) < (k : Int) := by omega
      rw [if_neg h0] at hz
      obtain ⟨x, hx⟩ : ∃ x, rcat l k = x := ⟨_, rfl⟩
      obtain ⟨y, hy⟩ : ∃ y, rcat l (k - 1) = y := ⟨_, rfl⟩
      rw [hx, hy] at hz
      rw [hx] at g
      have z1 : x.driver = y.driver := Classical.byContradiction fun hc => by rw [if_pos hc] at hz; cases hz
      rw [if_neg (by simpa using z1)] at hz
      have z2 : ¬ x.lo < y.hi := fun hc => by rw [if_pos hc] at hz; cases hz
      clear hz z0
      simp only [recA, z1] at g
      repeat' (first | (with_reducible first | refine vseq ?_ | refine vthenN ?_ | refine vthenE ?_ | refine vthenR ?_ | refine vret ?_ | refine vskip ?_ | refine vexit ?_ | refine vblock ?_ | refine vblockN ?_ | refine vblockR ?_ | refine vblockH ?_ | refine vrun_nil ?_ | refine vblockE rfl ?_ | refine vregion [] ?_ | refine vhrun_nil ?_) | ((with_reducible refine vcondT ?_ ?_); (focus (go_simp; done))) | ((with_reducible refine vcondF ?_ ?_); (focus (go_simp; done))) | ((with_reducible first | refine vrun_cons fun KK hKK => ?_ | refine vhrun_cons fun KK hKK => ?_); go_simp; (first | (with_reducible refine ⟨_, g, ?_⟩) | skip); refine hKK _ ?_; clear hKK KK) | ((refine vdrawL 16 16 [] rfl (by kernel_rfl) (by kernel_rfl) ?_); simp only [List.take, List.drop]) | ((refine vdrawL 19 19 [] rfl (by kernel_rfl) (by kernel_rfl) ?_); simp only [List.take, List.drop]) | ((with_reducible refine vcondS ?_ (fun ht => ?_) (fun ht => ?_)); (focus (go_simp; done)); (all_goals (simp [go_sem] at ht; replace ht := ht.out))) | ((apply vrun_consG0 rfl); (focus (go_simp <;> exact rfl)); (focus (go_simp; done)); (focus (intro hb0; replace hb0 := hb0.out; go_simp <;> (first | exact rfl | exact g | exact ⟨g, rfl⟩))); intro KK hKK; go_simp; refine hKK _ ?_; clear hKK KK) | ((apply vhrun_consG0 rfl); (focus (go_simp <;> exact rfl)); (focus (intro hb0; replace hb0 := hb0.out; go_simp <;> (first | exact rfl | exact g | exact ⟨g, rfl⟩))); intro KK hKK; go_simp; refine hKK _ ?_; clear hKK KK))
      refine hK _ ?_
      go_simp
  · intro k hk hb hp K
    obtain ⟨w1, w2, w3, w4, w5, w6⟩ := ixs (m := k) (by omega)
    have g := v_recordErr (rcat l k) (HS.out k hk)
    have e := HE.out
    rw [firstErr_hit hk hb.out hp.out] at e
    subst e
    have hz := bad_yes hp.out
    unfold chkE at hz ⊢
    by_cases z0 : recE (rcat l k) = 0
    rotate_left
    · rw [if_pos z0]
      generalize recE (rcat l k) = c at *
      clear hz
      repeat' (first | (with_reducible first | refine vseq ?_ | refine vthenN ?_ | refine vthenE ?_ | refine vthenR ?_ | refine vret ?_ | refine vskip ?_ | refine vexit ?_ | refine vblock ?_ | refine vblockN ?_ | refine vblockR ?_ | refine vblockH ?_ | refine vrun_nil ?_ | refine vblockE rfl ?_ | refine vregion [] ?_ | refine vhrun_nil ?_) | ((with_reducible refine vcondT ?_ ?_); (focus (go_simp; done))) | ((with_reducible refine vcondF ?_ ?_); (focus (go_simp; done))) | ((with_reducible first | refine vrun_cons fun KK hKK => ?_ | refine vhrun_cons fun KK hKK => ?_); go_simp; (first | (with_reducible refine ⟨_, g, ?_⟩) | skip); refine hKK _ ?_; clear hKK KK) | ((refine vdrawL 16 16 [] rfl (by kernel_rfl) (by kernel_rfl) ?_); simp only [List.append, List.take, List.drop]) | ((refine vdrawL 19 19 [] rfl (by kernel_rfl) (by kernel_rfl) ?_); simp only [List.append, List.take, List.drop]) | ((with_reducible refine vcondS ?_ (fun ht => ?_) (fun ht => ?_)); (focus (go_simp; done)); (all_goals (simp [go_sem] at ht; replace ht := ht.out))) | ((apply vrun_consG0 rfl); (focus (go_simp <;> exact rfl)); (focus (go_simp; done)); (focus (intro hb0; replace hb0 := hb0.out; go_simp <;> (first | exact rfl | exact g | exact ⟨g, rfl⟩))); intro KK hKK; go_simp; refine hKK _ ?_; clear hKK KK) | ((apply vhrun_consG0 rfl); (focus (go_simp <;> exact rfl)); (focus (intro hb0; replace hb0 := hb0.out; go_simp <;> (first | exact rfl | exact g | exact ⟨g, rfl⟩))); intro KK hKK; go_simp; refine hKK _ ?_; clear hKK KK))
      go_simp
    rw [if_neg (by simp [z0])] at hz ⊢
    rw [z0] at g
    by_cases h0 : k = 0
    · rw [if_pos h0] at hz
      exact absurd rfl hz
    have hk0 : 0 < k := by omega
    have hk1 := ixm hk0 (by omega)
    have hk2 : k - 1 < l.length := by omega
    have hki : (0 : Int) < (k : Int) := by omega
    rw [if_neg h0] at hz ⊢
    obtain ⟨x, hx⟩ : ∃ x, rcat l k = x := ⟨_, rfl⟩
    obtain ⟨y, hy⟩ : ∃ y, rcat l (k - 1) = y := ⟨_, rfl⟩
    rw [hx, hy] at hz ⊢
    rw [hx] at g
    clear z0
    by_cases z1 : x.driver = y.driver
    rotate_left
    · rw [if_pos z1]
      clear hz
      repeat' (first | (with_reducible first | refine vseq ?_ | refine vthenN ?_ | refine vthenE ?_ | refine vthenR ?_ | refine vret ?_ | refine vskip ?_ | refine vexit ?_ | refine vblock ?_ | refine vblockN ?_ | refine vblockR ?_ | refine vblockH ?_ | refine vrun_nil ?_ | refine vblockE rfl ?_ | refine vregion [] ?_ | refine vhrun_nil ?_) | ((with_reducible refine vcondT ?_ ?_); (focus (go_simp; done))) | ((with_reducible refine vcondF ?_ ?_); (focus (go_simp; done))) | ((with_reducible first | refine vrun_cons fun KK hKK => ?_ | refine vhrun_cons fun KK hKK => ?_); go_simp; (first | (with_reducible refine ⟨_, g, ?_⟩) | skip); refine hKK _ ?_; clear hKK KK) | ((refine vdrawL 16 16 [] rfl (by kernel_rfl) (by kernel_rfl) ?_); simp only [List.append, List.take, List.drop]) | ((refine vdrawL 19 19 [] rfl (by kernel_rfl) (by kernel_rfl) ?_); simp only [List.take, List.drop]) | ((with_reducible refine vcondS ?_ (fun ht => ?_) (fun ht => ?_)); (focus (go_simp; done)); (all_goals (simp [go_sem] at ht; replace ht := ht.out))) | ((apply vrun_consG0 rfl); (focus (go_simp <;> exact rfl)); (focus (go_simp; done)); (focus (intro hb0; replace hb0 := hb0.out; go_simp <;> (first | exact rfl | exact g | exact ⟨g, rfl⟩))); intro KK hKK; go_simp; refine hKK _ ?_; clear hKK KK) | ((apply vhrun_consG0 rfl); (focus (go_simp <;> exact rfl)); (focus (intro hb0; replace hb0 := hb0.out; go_simp <;> (first | exact rfl | exact g | exact ⟨g, rfl⟩))); intro KK hKK; go_simp; refine hKK _ ?_; clear hKK KK))
      go_simp
    rw [if_neg (by simpa using z1)] at hz ⊢
    by_cases z2 : x.lo < y.hi
    · rw [if_pos z2]
      clear hz
      simp only [recA, z1] at g
      repeat' (first | (with_reducible first | refine vseq ?_ | refine vthenN ?_ | refine vthenE ?_ | refine vthenR ?_ | refine vret ?_ | refine vskip ?_ | refine vexit ?_ | refine vblock ?_ | refine vblockN ?_ | refine vblockR ?_ | refine vblockH ?_ | refine vrun_nil ?_ | refine vblockE rfl ?_ | refine vregion [] ?_ | refine vhrun_nil ?_) | ((with_reducible refine vcondT ?_ ?_); (focus (go_simp; done))) | ((with_reducible refine vcondF ?_ ?_); (focus (go_simp; done))) | ((with_reducible first | refine vrun_cons fun KK hKK => ?_ | refine vhrun_cons fun KK hKK => ?_); go_simp; (first | (with_reducible refine ⟨_, g, ?_⟩) | skip); refine hKK _ ?_; clear hKK KK) | ((refine vdrawL 16 16 [] rfl (by kernel_rfl) (by kernel_rfl) ?_); simp only [List.take, List.drop]) | ((refine vdrawL 19 19 [] rfl (by kernel_rfl) (by kernel_rfl) ?_); simp only [List.take, List.drop]) | ((with_reducible refine vcondS ?_ (fun ht => ?_) (fun ht => ?_)); (focus (go_simp; done)); (all_goals (simp [go_sem] at ht; replace ht := ht.out))) | ((apply vrun_consG0 rfl); (focus (go_simp <;> exact rfl)); (focus (go_simp; done)); (focus (intro hb0; replace hb0 := hb0.out; go_simp <;> (first | exact rfl | exact g | exact ⟨g, rfl⟩))); intro KK hKK; go_simp; refine hKK _ ?_; clear hKK KK) | ((apply vhrun_consG0 rfl); (focus (go_simp <;> exact rfl)); (focus (intro hb0; replace hb0 := hb0.out; go_simp <;> (first | exact rfl | exact g | exact ⟨g, rfl⟩))); intro KK hKK; go_simp; refine hKK _ ?_; clear hKK KK))
      go_simp
    · rw [if_neg z2] at hz
      exact absurd rfl hz
  intro hb K
  have e := HE.out
  rw [firstErr_out hb.out] at e
  subst e
  repeat' (first | (with_reducible first | refine vseq ?_ | refine vthenN ?_ | refine vthenE ?_ | refine vthenR ?_ | refine vret ?_ | refine vskip ?_ | refine vexit ?_ | refine vblock ?_ | refine vblockN ?_ | refine vblockR ?_ | refine vblockH ?_ | refine vrun_nil ?_ | refine vblockE rfl ?_ | refine vregion [] ?_ | refine vhrun_nil ?_) | ((with_reducible refine vcondT ?_ ?_); (focus (go_simp; done))) | ((with_reducible refine vcondF ?_ ?_); (focus (go_simp; done))) | ((with_reducible first | refine vrun_cons fun KK hKK => ?_ | refine vhrun_cons fun KK hKK => ?_); go_simp; refine hKK _ ?_; clear hKK KK) | ((refine vdrawL 16 16 [] rfl (by kernel_rfl) (by kernel_rfl) ?_); simp only [List.append, List.take, List.drop]) | ((refine vdrawL 19 19 [] rfl (by kernel_rfl) (by kernel_rfl) ?_); simp only [List.append, List.take, List.drop]) | ((with_reducible refine vcondS ?_ (fun ht => ?_) (fun ht => ?_)); (focus (go_simp; done)); (all_goals (simp [go_sem] at ht; replace ht := ht.out))) | ((apply vrun_consG0 rfl); (focus (go_simp <;> exact rfl)); (focus (go_simp; done)); (focus (intro hb0; replace hb0 := hb0.out; go_simp <;> (first | exact rfl))); intro KK hKK; go_simp; refine hKK _ ?_; clear hKK KK) | ((apply vhrun_consG0 rfl); (focus (go_simp <;> exact rfl)); (focus (intro hb0; replace hb0 := hb0.out; go_simp <;> (first | exact rfl))); intro KK hKK; go_simp; refine hKK _ ?_; clear hKK KK))
  go_simp
theorem v_CheckRecords (l : List Rc) (hl : l.length ≤ 1000) (hs : SmallR l) : VC Tryz.prog 9 [recsA l] (.tup [I ((recsE l).1 : Nat), I (recsE l).2]) := by
  have g := v_checked l hl hs
  generalize recsE l = E at *
  clear hs
  refine VC_of Tryz.func9 rfl (by kernel_rfl) (by kernel_rfl) rfl fun M0 w0 => ?_
  simp only [Tryz.ntmps9, Tryz.results9, enumA]
  repeat' (first | (with_reducible first | refine vseq ?_ | refine vthenN ?_ | refine vthenE ?_ | refine vthenR ?_ | refine vret ?_ | refine vskip ?_ | refine vexit ?_ | refine vblock ?_ | refine vblockN ?_ | refine vblockR ?_ | refine vblockH ?_ | refine vrun_nil ?_ | refine vblockE rfl ?_ | refine vregion [] ?_ | refine vhrun_nil ?_) | ((with_reducible refine vcondT ?_ ?_); (focus (go_simp; done))) | ((with_reducible refine vcondF ?_ ?_); (focus (go_simp; done))) | ((with_reducible first | refine vrun_cons fun KK hKK => ?_ | refine vhrun_cons fun KK hKK => ?_); go_simp; (first | (with_reducible refine ⟨_, g, ?_⟩) | skip); refine hKK _ ?_; clear hKK KK) | ((with_reducible refine vcondS ?_ (fun ht => ?_) (fun ht => ?_)); (focus (go_simp; done)); (all_goals (simp [go_sem] at ht; replace ht := ht.out))))
  go_simp
end Go.Proofs.YtmfmpagfjgpodaaGreatDoor

/-! SWB: Chapter 7: rules, lists of few records, copies; the walks of the program and the reference. -/
namespace Go.Proofs.YtmfmpagfjgpodaaGreatDoor
open Go.RowKit
set_option maxRecDepth 100000
set_option maxHeartbeats 1000000
theorem wr2 : IntKind.i64.wrap 2 = 2 := rfl
theorem wr3 : IntKind.i64.wrap 3 = 3 := rfl
theorem wr4 : IntKind.i64.wrap 4 = 4 := rfl
theorem wr5 : IntKind.i64.wrap 5 = 5 := rfl
attribute [go_sem] wr2 wr3 wr4 wr5
def rulL (r : Rul) : List Int := [r.brk, r.rest, r.stint, r.shift, r.week]
def rulBad (r : Rul) (k : Nat) : Bool := !inR ((rulL r).getD k 0) 1 2000000
theorem five {k : Nat} (h : k < 5) : k = 0 ∨ k = 1 ∨ k = 2 ∨ k = 3 ∨ k = 4 := by omega
theorem rul_bad {r : Rul} {k : Nat} (h5 : k < 5) (h : rulBad r k = true) : rulOK r = false := by
  unfold rulBad at h
  unfold rulOK
  rcases five h5 with rfl | rfl | rfl | rfl | rfl <;> simp [rulL] at h <;> simp [h]
theorem rul_ok {r : Rul} (h : ∀ k, k < 5 → rulBad r k = false) : rulOK r = true := by
  have h0 := h 0 (by decide)
  have h1 := h 1 (by decide)
  have h2 := h 2 (by decide)
  have h3 := h 3 (by decide)
  have h4 := h 4 (by decide)
  simp [rulBad, rulL] at h0 h1 h2 h3 h4
  simp [rulOK, h0, h1, h2, h3, h4]
theorem w_CheckRules (r : Rul) : VC Tryz.prog 6 [rulA r] (I (rulE r)) := by
  obtain ⟨E, hE⟩ : ∃ E, rulE r = E := ⟨_, rfl⟩
  rw [hE]
  have HE := Lib.hid hE
  clear hE
  refine VC_of Tryz.func6 rfl (by kernel_rfl) (by kernel_rfl) rfl fun M0 w0 => ?_
  simp only [Tryz.ntmps6, Tryz.results6, enumA]
  repeat' (first | (with_reducible first | refine vseq ?_ | refine vthenN ?_ | refine vthenE ?_ | refine vthenR ?_ | refine vret ?_ | refine vskip ?_ | refine vexit ?_ | refine vblock ?_ | refine vblockN ?_ | refine vblockR ?_ | refine vblockH ?_ | refine vrun_nil ?_ | refine vblockE rfl ?_ | refine vregion [] ?_ | refine vhrun_nil ?_) | ((with_reducible refine vcondT ?_ ?_); (focus (go_simp; done))) | ((with_reducible refine vcondF ?_ ?_); (focus (go_simp; done))) | ((with_reducible first | refine vrun_cons fun KK hKK => ?_ | refine vhrun_cons fun KK hKK => ?_); go_simp; refine hKK _ ?_; clear hKK KK) | ((with_reducible refine vcondS ?_ (fun ht => ?_) (fun ht => ?_)); (focus (go_simp; done)); (all_goals (simp [go_sem] at ht; replace ht := ht.out))))
  apply vfor [1, 15] (fun k => [(16, I (k : Int))]) (fun k => ([] : Hp)) (rulBad r) (5)
  · go_simp <;> exact rfl
  · go_simp
  · intro k hk hb hp K hK
    have g := p_within ((rulL r).getD k 0) 1 2000000
    have hz : inR ((rulL r).getD k 0) 1 2000000 = true := by have := hp.out; simpa [rulBad] using this
    rw [hz] at g
    rcases five hk with rfl | rfl | rfl | rfl | rfl <;> simp [rulL] at g <;>
    · repeat' (first | (with_reducible first | refine vseq ?_ | refine vthenN ?_ | refine vthenE ?_ | refine vthenR ?_ | refine vret ?_ | refine vskip ?_ | refine vexit ?_ | refine vblock ?_ | refine vblockN ?_ | refine vblockR ?_ | refine vblockH ?_ | refine vrun_nil ?_ | refine vblockE rfl ?_ | refine vregion [] ?_ | refine vhrun_nil ?_) | ((with_reducible refine vcondT ?_ ?_); (focus (go_simp; done))) | ((with_reducible refine vcondF ?_ ?_); (focus (go_simp; done))) | ((with_reducible first | refine vrun_cons fun KK hKK => ?_ | refine vhrun_cons fun KK hKK => ?_); go_simp; (first | (with_reducible refine ⟨_, g, ?_⟩) | skip); refine hKK _ ?_; clear hKK KK) | ((with_reducible refine vcondS ?_ (fun ht => ?_) (fun ht => ?_)); (focus (go_simp; done)); (all_goals (simp [go_sem] at ht; replace ht := ht.out))))
      refine hK _ ?_
      go_simp
  · intro k hk hb hp K
    have g := p_within ((rulL r).getD k 0) 1 2000000
    have hz : inR ((rulL r).getD k 0) 1 2000000 = false := by have := hp.out; simpa [rulBad] using this
    rw [hz] at g
    have e := HE.out
    unfold rulE at e
    rw [if_pos (rul_bad hk hp.out)] at e
    subst e
    rcases five hk with rfl | rfl | rfl | rfl | rfl <;> simp [rulL] at g <;>
    · repeat' (first | (with_reducible first | refine vseq ?_ | refine vthenN ?_ | refine vthenE ?_ | refine vthenR ?_ | refine vret ?_ | refine vskip ?_ | refine vexit ?_ | refine vblock ?_ | refine vblockN ?_ | refine vblockR ?_ | refine vblockH ?_ | refine vrun_nil ?_ | refine vblockE rfl ?_ | refine vregion [] ?_ | refine vhrun_nil ?_) | ((with_reducible refine vcondT ?_ ?_); (focus (go_simp; done))) | ((with_reducible refine vcondF ?_ ?_); (focus (go_simp; done))) | ((with_reducible first | refine vrun_cons fun KK hKK => ?_ | refine vhrun_cons fun KK hKK => ?_); go_simp; (first | (with_reducible refine ⟨_, g, ?_⟩) | skip); refine hKK _ ?_; clear hKK KK) | ((with_reducible refine vcondS ?_ (fun ht => ?_) (fun ht => ?_)); (focus (go_simp; done)); (all_goals (simp [go_sem] at ht; replace ht := ht.out))))
      go_simp
  intro hb K
  have e := HE.out
  unfold rulE at e
  rw [if_neg (by rw [rul_ok hb.out]; decide)] at e
  have g := p_unless (decide (r.brk ≤ r.rest)) 9
  have e2 : unl (decide (r.brk ≤ r.rest)) 9 = E := by
    rw [← e]
    unfold unl
    by_cases h : r.brk ≤ r.rest <;> simp [h]
  rw [e2] at g
  clear e e2
  repeat' (first | (with_reducible first | refine vseq ?_ | refine vthenN ?_ | refine vthenE ?_ | refine vthenR ?_ | refine vret ?_ | refine vskip ?_ | refine vexit ?_ | refine vblock ?_ | refine vblockN ?_ | refine vblockR ?_ | refine vblockH ?_ | refine vrun_nil ?_ | refine vblockE rfl ?_ | refine vregion [] ?_ | refine vhrun_nil ?_) | ((with_reducible refine vcondT ?_ ?_); (focus (go_simp; done))) | ((with_reducible refine vcondF ?_ ?_); (focus (go_simp; done))) | ((with_reducible first | refine vrun_cons fun KK hKK => ?_ | refine vhrun_cons fun KK hKK => ?_); go_simp; (first | (with_reducible refine ⟨_, g, ?_⟩) | skip); refine hKK _ ?_; clear hKK KK) | ((with_reducible refine vcondS ?_ (fun ht => ?_) (fun ht => ?_)); (focus (go_simp; done)); (all_goals (simp [go_sem] at ht; replace ht := ht.out))))
  go_simp
theorem v_CheckRules (r : Rul) : VC Tryz.prog 10 [rulA r] (I (rulE r)) := by
  obtain ⟨E, hE⟩ : ∃ E, rulE r = E := ⟨_, rfl⟩
  rw [hE]
  have HE := Lib.hid hE
  clear hE
  refine VC_of Tryz.func10 rfl (by kernel_rfl) (by kernel_rfl) rfl fun M0 w0 => ?_
  simp only [Tryz.ntmps10, Tryz.results10, enumA]
  repeat' (first | (with_reducible first | refine vseq ?_ | refine vthenN ?_ | refine vthenE ?_ | refine vthenR ?_ | refine vret ?_ | refine vskip ?_ | refine vexit ?_ | refine vblock ?_ | refine vblockN ?_ | refine vblockR ?_ | refine vblockH ?_ | refine vrun_nil ?_ | refine vblockE rfl ?_ | refine vregion [] ?_ | refine vhrun_nil ?_) | ((with_reducible refine vcondT ?_ ?_); (focus (go_simp; done))) | ((with_reducible refine vcondF ?_ ?_); (focus (go_simp; done))) | ((with_reducible first | refine vrun_cons fun KK hKK => ?_ | refine vhrun_cons fun KK hKK => ?_); go_simp; refine hKK _ ?_; clear hKK KK) | ((with_reducible refine vcondS ?_ (fun ht => ?_) (fun ht => ?_)); (focus (go_simp; done)); (all_goals (simp [go_sem] at ht; replace ht := ht.out))))
  apply vfor [1, 3] (fun k => [(4, I (k : Int))]) (fun k => ([] : Hp)) (rulBad r) (5)
  · go_simp <;> exact rfl
  · go_simp
  · intro k hk hb hp K hK
    have g := b_within ((rulL r).getD k 0) 1 2000000
    have hz : inR ((rulL r).getD k 0) 1 2000000 = true := by have := hp.out; simpa [rulBad] using this
    rw [hz] at g
    rcases five hk with rfl | rfl | rfl | rfl | rfl <;> simp [rulL] at g <;>
    · repeat' (first | (with_reducible first | refine vseq ?_ | refine vthenN ?_ | refine vthenE ?_ | refine vthenR ?_ | refine vret ?_ | refine vskip ?_ | refine vexit ?_ | refine vblock ?_ | refine vblockN ?_ | refine vblockR ?_ | refine vblockH ?_ | refine vrun_nil ?_ | refine vblockE rfl ?_ | refine vregion [] ?_ | refine vhrun_nil ?_) | ((with_reducible refine vcondT ?_ ?_); (focus (go_simp; done))) | ((with_reducible refine vcondF ?_ ?_); (focus (go_simp; done))) | ((with_reducible first | refine vrun_cons fun KK hKK => ?_ | refine vhrun_cons fun KK hKK => ?_); go_simp; (first | (with_reducible refine ⟨_, g, ?_⟩) | skip); refine hKK _ ?_; clear hKK KK) | ((with_reducible refine vcondS ?_ (fun ht => ?_) (fun ht => ?_)); (focus (go_simp; done)); (all_goals (simp [go_sem] at ht; replace ht := ht.out))))
      refine hK _ ?_
      go_simp
  · intro k hk hb hp K
    have g := b_within ((rulL r).getD k 0) 1 2000000
    have hz : inR ((rulL r).getD k 0) 1 2000000 = false := by have := hp.out; simpa [rulBad] using this
    rw [hz] at g
    have e := HE.out
    unfold rulE at e
    rw [if_pos (rul_bad hk hp.out)] at e
    subst e
    rcases five hk with rfl | rfl | rfl | rfl | rfl <;> simp [rulL] at g <;>
    · repeat' (first | (with_reducible first | refine vseq ?_ | refine vthenN ?_ | refine vthenE ?_ | refine vthenR ?_ | refine vret ?_ | refine vskip ?_ | refine vexit ?_ | refine vblock ?_ | refine vblockN ?_ | refine vblockR ?_ | refine vblockH ?_ | refine vrun_nil ?_ | refine vblockE rfl ?_ | refine vregion [] ?_ | refine vhrun_nil ?_) | ((with_reducible refine vcondT ?_ ?_); (focus (go_simp; done))) | ((with_reducible refine vcondF ?_ ?_); (focus (go_simp; done))) | ((with_reducible first | refine vrun_cons fun KK hKK => ?_ | refine vhrun_cons fun KK hKK => ?_); go_simp; (first | (with_reducible refine ⟨_, g, ?_⟩) | skip); refine hKK _ ?_; clear hKK KK) | ((with_reducible refine vcondS ?_ (fun ht => ?_) (fun ht => ?_)); (focus (go_simp; done)); (all_goals (simp [go_sem] at ht; replace ht := ht.out))))
      go_simp
  intro hb K
  have e := HE.out
  unfold rulE at e
  rw [if_neg (by rw [rul_ok hb.out]; decide)] at e
  by_cases h : r.brk ≤ r.rest
  · have h2 : ¬ r.rest < r.brk := by omega
    rw [if_pos h] at e
    subst e
    repeat' (first | (with_reducible first | refine vseq ?_ | refine vthenN ?_ | refine vthenE ?_ | refine vthenR ?_ | refine vret ?_ | refine vskip ?_ | refine vexit ?_ | refine vblock ?_ | refine vblockN ?_ | refine vblockR ?_ | refine vblockH ?_ | refine vrun_nil ?_ | refine vblockE rfl ?_ | refine vregion [] ?_ | refine vhrun_nil ?_) | ((with_reducible refine vcondT ?_ ?_); (focus (go_simp; done))) | ((with_reducible refine vcondF ?_ ?_); (focus (go_simp; done))) | ((with_reducible first | refine vrun_cons fun KK hKK => ?_ | refine vhrun_cons fun KK hKK => ?_); go_simp; refine hKK _ ?_; clear hKK KK) | ((with_reducible refine vcondS ?_ (fun ht => ?_) (fun ht => ?_)); (focus (go_simp; done)); (all_goals (simp [go_sem] at ht; replace ht := ht.out))))
    go_simp
  · have h2 : r.rest < r.brk := by omega
    rw [if_neg h] at e
    subst e
    repeat' (first | (with_reducible first | refine vseq ?_ | refine vthenN ?_ | refine vthenE ?_ | refine vthenR ?_ | refine vret ?_ | refine vskip ?_ | refine vexit ?_ | refine vblock ?_ | refine vblockN ?_ | refine vblockR ?_ | refine vblockH ?_ | refine vrun_nil ?_ | refine vblockE rfl ?_ | refine vregion [] ?_ | refine vhrun_nil ?_) | ((with_reducible refine vcondT ?_ ?_); (focus (go_simp; done))) | ((with_reducible refine vcondF ?_ ?_); (focus (go_simp; done))) | ((with_reducible first | refine vrun_cons fun KK hKK => ?_ | refine vhrun_cons fun KK hKK => ?_); go_simp; refine hKK _ ?_; clear hKK KK) | ((with_reducible refine vcondS ?_ (fun ht => ?_) (fun ht => ?_)); (focus (go_simp; done)); (all_goals (simp [go_sem] at ht; replace ht := ht.out))))
    go_simp
/-! ### Few records -/
def fewB (l : List Rc) (k : Nat) : Bool := decide (20 < (rcat l k).driver.size)
def fewW (l : List Rc) : Bool := !((decide (12 < l.length) && decide (l.length < 40)) || decide (42 < l.length)) && !anyP (fewB l) 0 l.length
theorem fewW_small {l : List Rc} (h : fewW l = true) : l.length ≤ 42 ∧ ∀ k, k < l.length → (rcat l k).driver.size ≤ 20 := by
  unfold fewW at h
  simp only [Bool.and_eq_true, Bool.not_eq_true', Bool.or_eq_false_iff, decide_eq_false_iff_not] at h
  refine ⟨by omega, fun k hk => ?_⟩
  have : fewB l k = false := by
    cases hc : fewB l k
    · rfl
    · have h2 := h.2
      rw [anyP_hit hk hc] at h2
      cases h2
  simp [fewB] at this
  omega
theorem l_few7 (l : List Rc) (hl : l.length ≤ 9223372036854775807) : VC Tryz.prog 5 [recsA l] (B (fewW l)) := by
  obtain ⟨R, hR⟩ : ∃ R, fewW l = R := ⟨_, rfl⟩
  rw [hR]
  unfold fewW at hR
  have HR := Lib.hid hR
  clear hR
  refine VC_of Tryz.func5 rfl (by kernel_rfl) (by kernel_rfl) rfl fun M0 w0 => ?_
  simp only [Tryz.ntmps5, Tryz.results5, enumA]
  by_cases h1 : (12 < l.length ∧ l.length < 40) ∨ 42 < l.length
  · have e := HR.out
    rw [show ((decide (12 < l.length) && decide (l.length < 40)) || decide (42 < l.length)) = true by simpa using h1] at e
    simp at e
    subst e
    have hb : ((decide (12 < (l.length : Int)) && decide ((l.length : Int) < 40)) || decide (42 < (l.length : Int))) = true := by
      simp
      omega
    have HB := Lib.hid hb
    clear hb h1
    repeat' (first | (with_reducible first | refine vseq ?_ | refine vthenN ?_ | refine vthenE ?_ | refine vthenR ?_ | refine vret ?_ | refine vskip ?_ | refine vexit ?_ | refine vblock ?_ | refine vblockN ?_ | refine vblockR ?_ | refine vblockH ?_ | refine vrun_nil ?_ | refine vblockE rfl ?_ | refine vregion [] ?_ | refine vhrun_nil ?_) | ((with_reducible refine vcondT ?_ ?_); (focus (go_simp; done))) | ((with_reducible refine vcondF ?_ ?_); (focus (go_simp; done))) | ((with_reducible first | refine vrun_cons fun KK hKK => ?_ | refine vhrun_cons fun KK hKK => ?_); go_simp; refine hKK _ ?_; clear hKK KK) | ((with_reducible refine vcondS ?_ (fun ht => ?_) (fun ht => ?_)); (focus (go_simp; done)); (all_goals (simp [go_sem] at ht; replace ht := ht.out))) | ((apply vrun_consG0 rfl); (focus (go_simp <;> exact rfl)); (focus (go_simp; done)); (focus (intro hb0; replace hb0 := hb0.out; go_simp <;> (first | exact rfl))); intro KK hKK; go_simp; refine hKK _ ?_; clear hKK KK))
    · go_simp
    · rw [HB.out] at ht
      cases ht
  · have e := HR.out
    rw [show ((decide (12 < l.length) && decide (l.length < 40)) || decide (42 < l.length)) = false by simpa using h1] at e
    simp at e
    have HR := Lib.hid e
    have hb : ((decide (12 < (l.length : Int)) && decide ((l.length : Int) < 40)) || decide (42 < (l.length : Int))) = false := by
      simp
      omega
    have HB := Lib.hid hb
    have hl2 : l.length ≤ 1000 := by omega
    clear hb h1 e hl
    repeat' (first | (with_reducible first | refine vseq ?_ | refine vthenN ?_ | refine vthenE ?_ | refine vthenR ?_ | refine vret ?_ | refine vskip ?_ | refine vexit ?_ | refine vblock ?_ | refine vblockN ?_ | refine vblockR ?_ | refine vblockH ?_ | refine vrun_nil ?_ | refine vblockE rfl ?_ | refine vregion [] ?_ | refine vhrun_nil ?_) | ((with_reducible refine vcondT ?_ ?_); (focus (go_simp; done))) | ((with_reducible refine vcondF ?_ ?_); (focus (go_simp; done))) | ((with_reducible first | refine vrun_cons fun KK hKK => ?_ | refine vhrun_cons fun KK hKK => ?_); go_simp; refine hKK _ ?_; clear hKK KK) | ((with_reducible refine vcondS ?_ (fun ht => ?_) (fun ht => ?_)); (focus (go_simp; done)); (all_goals (simp [go_sem] at ht; replace ht := ht.out))) | ((apply vrun_consG0 rfl); (focus (go_simp <;> exact rfl)); (focus (go_simp; done)); (focus (intro hb0; replace hb0 := hb0.out; go_simp <;> (first | exact rfl))); intro KK hKK; go_simp; refine hKK _ ?_; clear hKK KK))
    · rw [HB.out] at ht
      cases ht
    clear ht HB
    apply vfor [0] (fun k => [(3, I (k : Int))]) (fun k => ([] : Hp)) (fewB l) (l.length)
    · go_simp <;> exact rfl
    · go_simp
    · intro k hk hb hp K hK
      obtain ⟨v1, v2, v3, v4, v5, v6⟩ := ixs (m := k) (by omega)
      have h' : ¬ (20 : Int) < ((rcat l k).driver.size : Int) := by
        have := hp.out
        simp [fewB] at this
        omega
      repeat' (first | (with_reducible first | refine vseq ?_ | refine vthenN ?_ | refine vthenE ?_ | refine vthenR ?_ | refine vret ?_ | refine vskip ?_ | refine vexit ?_ | refine vblock ?_ | refine vblockN ?_ | refine vblockR ?_ | refine vblockH ?_ | refine vrun_nil ?_ | refine vblockE rfl ?_ | refine vregion [] ?_ | refine vhrun_nil ?_) | ((with_reducible refine vcondT ?_ ?_); (focus (go_simp; done))) | ((with_reducible refine vcondF ?_ ?_); (focus (go_simp; done))) | ((with_reducible first | refine vrun_cons fun KK hKK => ?_ | refine vhrun_cons fun KK hKK => ?_); go_simp; refine hKK _ ?_; clear hKK KK) | ((with_reducible refine vcondS ?_ (fun ht => ?_) (fun ht => ?_)); (focus (go_simp; done)); (all_goals (simp [go_sem] at ht; replace ht := ht.out))) | ((apply vrun_consG0 rfl); (focus (go_simp <;> exact rfl)); (focus (go_simp; done)); (focus (intro hb0; replace hb0 := hb0.out; go_simp <;> (first | exact rfl))); intro KK hKK; go_simp; refine hKK _ ?_; clear hKK KK))
      refine hK _ ?_
      go_simp
    · intro k hk hb hp K
      have h' : (20 : Int) < ((rcat l k).driver.size : Int) := by
        have := hp.out
        simp [fewB] at this
        omega
      have e := HR.out
      rw [anyP_hit hk hp.out] at e
      simp at e
      subst e
      repeat' (first | (with_reducible first | refine vseq ?_ | refine vthenN ?_ | refine vthenE ?_ | refine vthenR ?_ | refine vret ?_ | refine vskip ?_ | refine vexit ?_ | refine vblock ?_ | refine vblockN ?_ | refine vblockR ?_ | refine vblockH ?_ | refine vrun_nil ?_ | refine vblockE rfl ?_ | refine vregion [] ?_ | refine vhrun_nil ?_) | ((with_reducible refine vcondT ?_ ?_); (focus (go_simp; done))) | ((with_reducible refine vcondF ?_ ?_); (focus (go_simp; done))) | ((with_reducible first | refine vrun_cons fun KK hKK => ?_ | refine vhrun_cons fun KK hKK => ?_); go_simp; refine hKK _ ?_; clear hKK KK) | ((with_reducible refine vcondS ?_ (fun ht => ?_) (fun ht => ?_)); (focus (go_simp; done)); (all_goals (simp [go_sem] at ht; replace ht := ht.out))) | ((apply vrun_consG0 rfl); (focus (go_simp <;> exact rfl)); (focus (go_simp; done)); (focus (intro hb0; replace hb0 := hb0.out; go_simp <;> (first | exact rfl))); intro KK hKK; go_simp; refine hKK _ ?_; clear hKK KK))
      go_simp
    intro hb K
    have e := HR.out
    rw [anyP_out hb.out] at e
    simp at e
    subst e
    repeat' (first | (with_reducible first | refine vseq ?_ | refine vthenN ?_ | refine vthenE ?_ | refine vthenR ?_ | refine vret ?_ | refine vskip ?_ | refine vexit ?_ | refine vblock ?_ | refine vblockN ?_ | refine vblockR ?_ | refine vblockH ?_ | refine vrun_nil ?_ | refine vblockE rfl ?_ | refine vregion [] ?_ | refine vhrun_nil ?_) | ((with_reducible refine vcondT ?_ ?_); (focus (go_simp; done))) | ((with_reducible refine vcondF ?_ ?_); (focus (go_simp; done))) | ((with_reducible first | refine vrun_cons fun KK hKK => ?_ | refine vhrun_cons fun KK hKK => ?_); go_simp; refine hKK _ ?_; clear hKK KK) | ((with_reducible refine vcondS ?_ (fun ht => ?_) (fun ht => ?_)); (focus (go_simp; done)); (all_goals (simp [go_sem] at ht; replace ht := ht.out))) | ((apply vrun_consG0 rfl); (focus (go_simp <;> exact rfl)); (focus (go_simp; done)); (focus (intro hb0; replace hb0 := hb0.out; go_simp <;> (first | exact rfl))); intro KK hKK; go_simp; refine hKK _ ?_; clear hKK KK))
    go_simp
theorem rec_one (l : List Rc) : ∀ (k : Nat) (x : List AV), (l.map Rc.av)[k]? = some x → x.length = 3 ∧ ∀ c ∈ x, oneAV c = true := fun k x hx => by
  obtain ⟨y, hy, rfl⟩ := map_at hx
  exact ⟨rfl, by simp [Rc.av, oneAV, Value.oneCell']⟩
theorem v_CopyRecords (l : List Rc) (hl : l.length ≤ 1000000) : VCo Tryz.prog 8 [recsA l] 36 3 false (l.map Rc.av) := by
  refine VCo_of Tryz.func8 rfl (by kernel_rfl) (by kernel_rfl) rfl Tryz.results8 (by decide) (rec_one l) fun M0 w0 => ?_
  simp only [Tryz.ntmps8, enumA]
  have hl2 : l.length ≤ 1000000000 := by omega
  repeat (first | (with_reducible first | refine vseq ?_ | refine vthenN ?_ | refine vthenE ?_ | refine vthenR ?_ | refine vret ?_ | refine vskip ?_ | refine vexit ?_ | refine vblock ?_ | refine vblockN ?_ | refine vblockR ?_ | refine vblockH ?_ | refine vrun_nil ?_ | refine vblockE rfl ?_ | refine vregion [3] ?_ | refine vhrun_nil ?_) | ((with_reducible refine vcondT ?_ ?_); (focus (go_simp; done))) | ((with_reducible refine vcondF ?_ ?_); (focus (go_simp; done))) | ((with_reducible first | refine vrun_cons fun KK hKK => ?_ | refine vhrun_cons fun KK hKK => ?_); go_simp; refine hKK _ ?_; clear hKK KK))
  exact ⟨0, rfl, rfl⟩
end Go.Proofs.YtmfmpagfjgpodaaGreatDoor

/-! SWS: sort.Search: a binary search, whatever the predicate is. -/
namespace Go.Proofs.YtmfmpagfjgpodaaGreatDoor
open Go.RowKit
/-- Binary search between two numbers. -/
def searchP (p : Nat → Bool) : Nat → Nat → Nat → Nat
  | 0, i, _ => i
  | f + 1, i, j => if i < j then if p ((i + j) / 2) then searchP p f i ((i + j) / 2) else searchP p f ((i + j) / 2 + 1) j else i
theorem searchP_fuel (p : Nat → Bool) : ∀ (f f' i j : Nat), j - i ≤ f → j - i ≤ f' → searchP p f i j = searchP p f' i j
  | 0, 0, _, _, _, _ => rfl
  | 0, f' + 1, i, j, h, _ => by rw [searchP, searchP, if_neg (by omega)]
  | f + 1, 0, i, j, _, h => by rw [searchP, searchP, if_neg (by omega)]
  | f + 1, f' + 1, i, j, h, h' => by
    rw [searchP, searchP]
    split
    · rw [searchP_fuel p f f' i _ (by omega) (by omega), searchP_fuel p f f' _ j (by omega) (by omega)]
    · rfl
set_option maxRecDepth 100000 in
set_option maxHeartbeats 4000000 in
theorem c_Search (p : Nat → Bool) (g : Nat) (fr : Array Value) (N : Nat) (w : World) (hN : N ≤ 10000000)
    (hrun : ∀ (a : Array Value) (W : World), (callFunc g a).run Tryz.prog W = .ok (.enter g a) W)
    (hf : ∀ m, m < N → ∀ w', Below w.heap.size w w' → Calls Tryz.prog g (#[.int .i64 (m : Nat)] ++ fr) w' fun e w'' => e = .returned (.bool (p m)) ∧ Below w'.heap.size w' w'') :
    Calls Tryz.prog 42 #[.int .i64 N, .func (.func g) #[] fr] w fun e w' => e = .returned (.int .i64 (searchP p N 0 N)) ∧ Below w.heap.size w w' := by
  have HF := Lib.hid hf
  clear hf
  generalize hR : searchP p N 0 N = R
  go_enter Tryz.func42, Tryz.ntmps42
  go_wp2
  go_loopw [5, 6] (fun x y w1 => ∃ i j : Nat, x = .int .i64 i ∧ y = .int .i64 j ∧ i ≤ j ∧ j ≤ N ∧ searchP p (j - i) i j = R ∧ Below w.heap.size w w1) (fun x y _ => (intOf y).toNat - (intOf x).toNat)
  case atStart => exact ⟨0, N, rfl, rfl, by omega, by omega, hR, Below.refl _ _⟩
  case round =>
    obtain ⟨i, j, rfl, rfl, hij, hjN, hs, hb⟩ := hrel
    by_cases hlt : i < j
    · have hm : ((i : Int) + (j : Int)) / 2 = (((i + j) / 2 : Nat) : Int) := by omega
      have hmj : (i + j) / 2 < j := by omega
      have him : i ≤ (i + j) / 2 := by omega
      obtain ⟨f, hf⟩ : ∃ f, j - i = f + 1 := ⟨j - i - 1, by omega⟩
      rw [hf, searchP, if_pos hlt] at hs
      have e1 := HF.out ((i + j) / 2) (by omega)
      generalize hM : (i + j) / 2 = m at *
      go_wp2_with fail
      refine (e1 _ hb).mono ?_
      rintro e w1 ⟨rfl, hb1⟩
      have HB := Lib.hid (And.intro (below_step hb hb1) hs)
      clear hb hb1 hs hM hm
      cases hp : p m
      · have h2 := HB.out.2
        rw [hp] at h2
        go_wp2_with fail
        go_roundw
        case rel => exact ⟨m + 1, j, by go_num, rfl, by omega, by omega, by rw [← h2]; exact searchP_fuel p _ _ _ _ (by omega) (by omega), HB.out.1⟩
        case measure => simp [intOf]; omega
      · have h2 := HB.out.2
        rw [hp] at h2
        go_wp2_with fail
        go_roundw
        case rel => exact ⟨i, m, rfl, rfl, by omega, by omega, by rw [← h2]; exact searchP_fuel p _ _ _ _ (by omega) (by omega), HB.out.1⟩
        case measure => simp [intOf]; omega
    · have : i = j := by omega
      subst this
      rw [Nat.sub_self, searchP] at hs
      subst hs
      go_wp2
      go_ret
      exact ⟨rfl, hb⟩
theorem w_Search (p : Nat → Bool) (g : Nat) (caps : List AV) (N : Nat) (hN : N ≤ 10000000)
    (hrun : ∀ (a : Array Value) (W : World), (callFunc g a).run Tryz.prog W = .ok (.enter g a) W)
    (hf : ∀ m : Nat, m < N → VC Tryz.prog g (I (m : Int) :: caps) (B (p m))) : VC Tryz.prog 42 [I (N : Int), .fn (.func g) [] caps] (I (searchP p N 0 N : Nat)) :=
  ⟨by kernel_rfl, fun w M vs hM hl hv => by
    match vs, hl with
    | [v1, v2], _ =>
      obtain rfl := V0.lit_inv (hv 0 _ v1 rfl rfl)
      have h2 := hv 1 _ v2 rfl rfl
      cases h2 with
      | fn _ _ _ us fr hu hfr _ hcap =>
        obtain rfl : us = [] := List.eq_nil_of_length_eq_zero (by simpa using hu)
        refine (c_Search p g fr.toArray N w hN hrun fun m hm w' hb => ?_).mono fun e w' ⟨he, hb⟩ => ⟨_, he, hb, .lit _⟩
        have hM' : MOK w' M := ⟨fun b hb' => Nat.lt_of_lt_of_le (hM.1 b hb') hb.size, hM.2.keep (.of_below hb) fun _ _ h => h⟩
        have h3 := (hf m hm).2 w' M (.int .i64 (m : Int) :: fr) hM' (by simp [hfr]) fun i a v ha hv' => by
          cases i with
          | zero =>
            simp only [List.getElem?_cons_zero, Option.some.injEq] at ha hv'
            subst ha
            subst hv'
            exact .lit _
          | succ i =>
            simp only [List.getElem?_cons_succ] at ha hv'
            exact (hcap i a v ha hv').later hb
        refine Calls.mono (by simpa using h3) ?_
        rintro e w2 ⟨v, he, hb2, hr⟩
        obtain rfl := V0.lit_inv hr
        exact ⟨he, hb2⟩⟩
end Go.Proofs.YtmfmpagfjgpodaaGreatDoor
