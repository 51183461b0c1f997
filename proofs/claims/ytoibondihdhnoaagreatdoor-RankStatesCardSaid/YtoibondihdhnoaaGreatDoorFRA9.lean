/- Texts in one: Chapter 4: what its functions compute, as plain functions; no condition. -/
import Derived.Test.YtoibondihdhnoaaGreatDoorFRA7
import Derived.Test.YtoibondihdhnoaaGreatDoorFRA8
namespace Go.Proofs.YtoibondihdhnoaaGreatDoor
open Go.RowKit
structure Rk where
 name : ByteArray
 places : Int
 feeder : Int
 called : Bool
instance : Inhabited Rk := ⟨⟨ByteArray.empty, 0, 0, false⟩⟩
@[go_sem] def Rk.av (x : Rk) : List AV := [S x.name, I x.places, I x.feeder, B x.called]
def rat (l : List Rk) (k : Nat) : Rk := l.getD k default
theorem rat_get {l : List Rk} {k : Nat} (h : k < l.length) : rat l k = l[k] := by simp [rat, h]
structure Ru where
 ranks : List Rk
 back : Int
 ret : Int
abbrev rulesA (r : Ru) : AV := .agg [.sl 4 (r.ranks.map Rk.av), I r.back, I r.ret]
structure Tk where
 car : ByteArray
 rank : Int
 time : Int
instance : Inhabited Tk := ⟨⟨ByteArray.empty, 0, 0⟩⟩
@[go_sem] def Tk.av (x : Tk) : List AV := [S x.car, I x.rank, I x.time]
def tkat (l : List Tk) (k : Nat) : Tk := l.getD k default
theorem tkat_get {l : List Tk} {k : Nat} (h : k < l.length) : tkat l k = l[k] := by simp [tkat, h]
structure Ev where
 kind : Int
 time : Int
 rank : Int
 car : ByteArray
instance : Inhabited Ev := ⟨⟨0, 0, 0, ByteArray.empty⟩⟩
@[go_sem] def Ev.av (x : Ev) : List AV := [I x.kind, I x.time, I x.rank, S x.car]
abbrev evA (x : Ev) : AV := .agg [I x.kind, I x.time, I x.rank, S x.car]
abbrev evsA (l : List Ev) : AV := .sl 4 (l.map Ev.av)
def evat (l : List Ev) (k : Nat) : Ev := l.getD k default
theorem evat_get {l : List Ev} {k : Nat} (h : k < l.length) : evat l k = l[k] := by simp [evat, h]
structure Sg where
 kind : Int
 rank : Int
 car : ByteArray
instance : Inhabited Sg := ⟨⟨0, 0, ByteArray.empty⟩⟩
@[go_sem] def Sg.av (x : Sg) : List AV := [I x.kind, I x.rank, S x.car]
abbrev sgsA (l : List Sg) : AV := .sl 3 (l.map Sg.av)
def sgat (l : List Sg) (k : Nat) : Sg := l.getD k default
theorem sgat_get {l : List Sg} {k : Nat} (h : k < l.length) : sgat l k = l[k] := by simp [sgat, h]
abbrev txtsA (l : List ByteArray) : AV := .sl 1 (l.map txtA)
abbrev nil_ : AV := .lit (.slice none 0 0)
def rowsC (q : List (List ByteArray)) : List (List (List AV)) := q.map fun l => l.map txtA
abbrev queuesA (q : List (List ByteArray)) : AV := .sl 1 ((rowsC q).map fun l => [.sl 1 l])
theorem rowsC_len (q : List (List ByteArray)) : (rowsC q).length = q.length := by simp [rowsC]
def qat (q : List (List ByteArray)) (k : Nat) : List ByteArray := q.getD k []
theorem qat_get {q : List (List ByteArray)} {k : Nat} (h : k < q.length) : qat q k = q[k] := by simp [qat, h]
theorem rowsC_get {q : List (List ByteArray)} {k : Nat} : (rowsC q).getD k [] = (qat q k).map txtA := by
 unfold rowsC qat
 rw [List.getD_eq_getElem?_getD, List.getElem?_map, List.getD_eq_getElem?_getD]
 cases q[k]? <;> rfl
theorem rowsC_set {q : List (List ByteArray)} {k : Nat} {l : List ByteArray} : (rowsC q).set k (l.map txtA) = rowsC (q.set k l) := by
 unfold rowsC
 rw [List.map_set]
theorem rowsC_at {q : List (List ByteArray)} {k : Nat} (h : k < (rowsC q).length) : (rowsC q)[k] = (qat q k).map txtA := by
 have hq : k < q.length := by rw [← rowsC_len]; exact h
 rw [qat_get hq]
 simp [rowsC]
theorem rk_at {l : List Rk} {k : Nat} (h : k < l.length) : l[k] = rat l k := (rat_get h).symm
theorem tk_at {l : List Tk} {k : Nat} (h : k < l.length) : l[k] = tkat l k := (tkat_get h).symm
theorem ev_at {l : List Ev} {k : Nat} (h : k < l.length) : l[k] = evat l k := (evat_get h).symm
theorem sg_at {l : List Sg} {k : Nat} (h : k < l.length) : l[k] = sgat l k := (sgat_get h).symm
attribute [go_sem] rowsC_len rowsC_get rowsC_at rk_at tk_at ev_at sg_at
structure St where
 q : List (List ByteArray)
 tk : List Tk
 time : Int
abbrev stateA (s : St) : AV := .agg [queuesA s.q, .sl 3 (s.tk.map Tk.av), I s.time]
abbrev townA (r : Ru) (s : St) (mv : List Sg) : AV := .vp [queuesA s.q, .sl 3 (s.tk.map Tk.av), I s.time, .sl 4 (r.ranks.map Rk.av), I r.back, I r.ret, .sl 3 (mv.map Sg.av)]
theorem ixs {m : Nat} (h : m ≤ 1000000000) : IntKind.i64.wrap (m : Int) = m ∧ IntKind.i64.wrap ((m : Int) + 1) = m + 1 ∧ ((m : Int) + 1).toNat = m + 1 ∧ (0 : Int) ≤ (m : Int) + 1 ∧ (0 : Int) < (m : Int) + 1 ∧ IntKind.i64.wrap ((m : Int) + 1 + 1) = m + 1 + 1 :=
 ⟨wrap_eq (by omega) (by omega), wrap_eq (by omega) (by omega), by omega, by omega, by omega, wrap_eq (by omega) (by omega)⟩
theorem wrap1 : IntKind.i64.wrap 1 = 1 := rfl
attribute [go_sem] wrap1
def anyP (p : Nat → Bool) (k n : Nat) : Bool := (List.range n).any fun j => p (k + j)
theorem anyP_hit {p : Nat → Bool} {k n : Nat} (hk : k < n) (h : p k = true) : anyP p 0 n = true := by
 unfold anyP
 rw [List.any_eq_true]
 exact ⟨k, List.mem_range.2 hk, by simpa using h⟩
theorem anyP_out {p : Nat → Bool} {n : Nat} (h : ∀ j, j < n → p j = false) : anyP p 0 n = false := by
 unfold anyP
 rw [List.any_eq_false]
 intro j hj
 simp [h j (List.mem_range.1 hj)]
def ixP (p : Nat → Bool) (k : Nat) : Nat → Int
 | 0 => -1
 | n + 1 => if p k then k else ixP p (k + 1) n
theorem ixP_from {p : Nat → Bool} : ∀ (n k i : Nat), k ≤ i → i < k + n → (∀ j, k ≤ j → j < i → p j = false) → p i = true → ixP p k n = i
 | 0, k, i, h1, h2, _, _ => by omega
 | n + 1, k, i, h1, h2, hb, hp => by
  rw [ixP]
  by_cases he : k = i
  ·subst he
   rw [if_pos hp]
  ·rw [if_neg (by simp [hb k (Nat.le_refl k) (by omega)])]
   exact ixP_from n (k + 1) i (by omega) (by omega) (fun j h3 h4 => hb j (by omega) h4) hp
theorem ixP_hit {p : Nat → Bool} {k n : Nat} (hk : k < n) (hb : ∀ j, j < k → p j = false) (hp : p k = true) : ixP p 0 n = k := ixP_from n 0 k (Nat.zero_le k) (by omega) (fun j _ h => hb j h) hp
theorem ixP_none {p : Nat → Bool} : ∀ (n k : Nat), (∀ j, k ≤ j → j < k + n → p j = false) → ixP p k n = -1
 | 0, _, _ => rfl
 | n + 1, k, h => by
  rw [ixP, if_neg (by simp [h k (Nat.le_refl k) (by omega)])]
  exact ixP_none n (k + 1) fun j h1 h2 => h j (by omega) (by omega)
theorem ixP_out {p : Nat → Bool} {n : Nat} (h : ∀ j, j < n → p j = false) : ixP p 0 n = -1 := ixP_none n 0 fun j _ h2 => h j (by omega)
theorem ixP_spec (p : Nat → Bool) (n : Nat) : (ixP p 0 n = -1 ∧ ∀ j, j < n → p j = false) ∨ ∃ k, k < n ∧ ixP p 0 n = k ∧ p k = true ∧ ∀ j, j < k → p j = false := by
 by_cases h : ∀ j, j < n → p j = false
 ·exact .inl ⟨ixP_out h, h⟩
 ·right
  have hex : ∃ j, j < n ∧ p j = true := by
   apply Classical.byContradiction
   intro hn
   refine h fun j hj => ?_
   cases hp : p j
   ·rfl
   ·exact absurd ⟨j, hj, hp⟩ hn
  obtain ⟨k, hk, hmin⟩ : ∃ k, (k < n ∧ p k = true) ∧ ∀ j, j < k → ¬ (j < n ∧ p j = true) := by
   obtain ⟨j, hj⟩ := hex
   induction j using Nat.strongRecOn with
   | ind j ih =>
    by_cases h2 : ∃ i, i < j ∧ (i < n ∧ p i = true)
    ·obtain ⟨i, hi, hi2⟩ := h2
     exact ih i hi hi2
    ·exact ⟨j, hj, fun i hi hi2 => h2 ⟨i, hi, hi2⟩⟩
  have hb : ∀ j, j < k → p j = false := fun j hj => by
   cases hp : p j
   ·rfl
   ·exact absurd ⟨by omega, hp⟩ (hmin j hj)
  exact ⟨k, hk.1, ixP_hit hk.1 hb hk.2, hk.2, hb⟩
end Go.Proofs.YtoibondihdhnoaaGreatDoor
namespace Go.Proofs.YtoibondihdhnoaaGreatDoor
open Go.RowKit
set_option maxRecDepth 100000
set_option maxHeartbeats 1000000
def tat (l : List ByteArray) (k : Nat) : ByteArray := l.getD k ByteArray.empty
theorem tat_get {l : List ByteArray} {k : Nat} (h : k < l.length) : tat l k = l[k] := by simp [tat, h]
def isT (l : List ByteArray) (s : ByteArray) (j : Nat) : Bool := decide (tat l j = s)
theorem p_index (l : List ByteArray) (s : ByteArray) (hl : l.length ≤ 1000000) : VC Tryz.prog 149 [txtsA l, S s] (I (ixP (isT l s) 0 l.length)) := by
 obtain ⟨R, hR⟩ : ∃ R, ixP (isT l s) 0 l.length = R := ⟨_, rfl⟩
 rw [hR]
 have HR := Lib.hid hR
 clear hR
 refine VC_of Tryz.func149 rfl (by kernel_rfl) (by kernel_rfl) rfl fun M0 w0 => ?_
 simp only [Tryz.ntmps149, Tryz.results149, enumA]
 repeat' (first | (with_reducible first | refine vseq ?_ | refine vthenN ?_ | refine vblock ?_ | refine vrun_nil ?_ | refine vregion [] ?_) | ((with_reducible refine vrun_cons fun KK hKK => ?_); go_simp; refine hKK _ ?_; clear hKK KK))
 apply vfor [0, 1, 7] (fun k => [(8, I k)]) (fun k => ([] : Hp)) (isT l s) (l.length)
 ·go_simp <;> exact rfl
 ·go_simp
 ·intro k hk HB HP K hK
  obtain ⟨w1, w2, w3, w4, w5, w6⟩ := ixs (m := k) (by omega)
  have hp : ¬ s = l[k] := fun h => by
   have := HP.out
   rw [isT, tat_get hk, h] at this
   simp at this
  repeat' (first | (with_reducible first | refine vseq ?_ | refine vthenN ?_ | refine vskip ?_ | refine vblock ?_ | refine vblockN ?_ | refine vrun_nil ?_ | refine vregion [] ?_) | ((with_reducible refine vcondT ?_ ?_); (focus (go_simp; done))) | ((with_reducible refine vcondF ?_ ?_); (focus (go_simp; done))) | ((with_reducible refine vrun_cons fun KK hKK => ?_); go_simp; refine hKK _ ?_; clear hKK KK))
  refine hK _ ?_
  go_simp
 ·intro k hk HB HP K
  have hp : s = l[k] := by
   have := HP.out
   rw [isT, tat_get hk] at this
   simpa using (of_decide_eq_true this).symm
  have e := HR.out
  rw [ixP_hit hk HB.out HP.out] at e
  subst e
  repeat' (first | (with_reducible first | refine vseq ?_ | refine vthenN ?_ | refine vthenR ?_ | refine vret ?_ | refine vskip ?_ | refine vblock ?_ | refine vblockR ?_ | refine vrun_nil ?_ | refine vregion [] ?_) | ((with_reducible refine vcondT ?_ ?_); (focus (go_simp; done))) | ((with_reducible refine vrun_cons fun KK hKK => ?_); go_simp; refine hKK _ ?_; clear hKK KK))
  go_simp
 ·intro HB K
  have e := HR.out
  rw [ixP_out HB.out] at e
  subst e
  repeat (first | (with_reducible first | refine vseq ?_ | refine vthenN ?_ | refine vthenE ?_ | refine vret ?_ | refine vexit ?_ | refine vblockH ?_ | refine vrun_nil ?_ | refine vregion [] ?_) | ((with_reducible refine vcondF ?_ ?_); (focus (go_simp; done))) | ((with_reducible refine vrun_cons fun KK hKK => ?_); go_simp; refine hKK _ ?_; clear hKK KK))
  go_simp
def freeP (r : Ru) (s : St) (k : Nat) : Bool := decide (((qat s.q k).length : Int) < (rat r.ranks k).places)
def readyP (r : Ru) (s : St) (k : Nat) : Bool := decide ((rat r.ranks k).feeder ≠ -1) && !(rat r.ranks k).called && freeP r s k && decide (0 < (qat s.q (rat r.ranks k).feeder.toNat).length)
def FeedOK (r : Ru) (n : Nat) : Prop := ∀ k, k < n → (rat r.ranks k).feeder ≠ -1 → 0 ≤ (rat r.ranks k).feeder ∧ (rat r.ranks k).feeder.toNat < n
theorem p_free (r : Ru) (s : St) (mv : List Sg) (k : Nat) (hk : k < s.q.length) (hr : r.ranks.length = s.q.length) : VC Tryz.prog 168 [townA r s mv, I (k : Int)] (B (freeP r s k)) := by
 have hk2 : k < r.ranks.length := by omega
 unfold freeP
 refine VC_of Tryz.func168 rfl (by kernel_rfl) (by kernel_rfl) rfl fun M0 w0 => ?_
 simp only [Tryz.ntmps168, Tryz.results168, enumA]
 repeat' (first | (with_reducible first | refine vseq ?_ | refine vthenN ?_ | refine vret ?_ | refine vrun_nil ?_ | refine vregion [] ?_ | refine vhrun_nil ?_) | ((with_reducible first | refine vrun_cons fun KK hKK => ?_ | refine vhrun_cons fun KK hKK => ?_); go_simp; refine hKK _ ?_; clear hKK KK) | ((refine vdrawL 20 20 [] rfl (by kernel_rfl) (by kernel_rfl) ?_); simp only [List.take, List.drop]))
 go_simp
theorem p_ready (r : Ru) (s : St) (mv : List Sg) (k : Nat) (hk : k < s.q.length) (hr : r.ranks.length = s.q.length) (hf : FeedOK r s.q.length) : VC Tryz.prog 153 [townA r s mv, I (k : Int)] (B (readyP r s k)) := by
 have hk2 : k < r.ranks.length := by omega
 have g := p_free r s mv k hk hr
 have hfk := hf k hk
 unfold readyP
 generalize freeP r s k = F at *
 clear hf
 by_cases h1 : (rat r.ranks k).feeder = -1
 ·clear hfk
  refine VC_of Tryz.func153 rfl (by kernel_rfl) (by kernel_rfl) rfl fun M0 w0 => ?_
  simp only [Tryz.ntmps153, Tryz.results153, enumA]
  repeat' (first | (with_reducible first | refine vseq ?_ | refine vthenN ?_ | refine vret ?_ | refine vrun_nil ?_ | refine vregion [] ?_ | refine vhrun_nil ?_) | ((with_reducible first | refine vrun_cons fun KK hKK => ?_ | refine vhrun_cons fun KK hKK => ?_); go_simp; refine hKK _ ?_; clear hKK KK) | ((refine vdrawL 27 27 [] rfl (by kernel_rfl) (by kernel_rfl) ?_); simp only [List.take, List.drop]))
  go_simp
 ·obtain ⟨f0, fl⟩ := hfk h1
  clear hfk
  obtain ⟨f, hf⟩ : ∃ f : Nat, (rat r.ranks k).feeder = f := ⟨(rat r.ranks k).feeder.toNat, by omega⟩
  rw [hf] at fl h1
  simp only [Int.toNat_natCast] at fl
  clear f0
  cases h2 : (rat r.ranks k).called
  ·cases F
   ·refine VC_of Tryz.func153 rfl (by kernel_rfl) (by kernel_rfl) rfl fun M0 w0 => ?_
    simp only [Tryz.ntmps153, Tryz.results153, enumA]
    repeat' (first | (with_reducible first | refine vseq ?_ | refine vthenN ?_ | refine vret ?_ | refine vrun_nil ?_ | refine vregion [] ?_ | refine vhrun_nil ?_) | ((with_reducible first | refine vrun_cons fun KK hKK => ?_ | refine vhrun_cons fun KK hKK => ?_); go_simp; (first | (with_reducible refine ⟨_, g, ?_⟩) | skip); refine hKK _ ?_; clear hKK KK) | ((refine vdrawL 27 27 [] rfl (by kernel_rfl) (by kernel_rfl) ?_); simp only [List.take, List.drop]))
    go_simp
   ·refine VC_of Tryz.func153 rfl (by kernel_rfl) (by kernel_rfl) rfl fun M0 w0 => ?_
    simp only [Tryz.ntmps153, Tryz.results153, enumA]
    repeat' (first | (with_reducible first | refine vseq ?_ | refine vthenN ?_ | refine vret ?_ | refine vrun_nil ?_ | refine vregion [] ?_ | refine vhrun_nil ?_) | ((with_reducible first | refine vrun_cons fun KK hKK => ?_ | refine vhrun_cons fun KK hKK => ?_); go_simp; (first | (with_reducible refine ⟨_, g, ?_⟩) | skip); refine hKK _ ?_; clear hKK KK) | ((refine vdrawL 27 27 [] rfl (by kernel_rfl) (by kernel_rfl) ?_); simp only [List.take, List.drop]))
    go_simp
  ·refine VC_of Tryz.func153 rfl (by kernel_rfl) (by kernel_rfl) rfl fun M0 w0 => ?_
   simp only [Tryz.ntmps153, Tryz.results153, enumA]
   repeat' (first | (with_reducible first | refine vseq ?_ | refine vthenN ?_ | refine vret ?_ | refine vrun_nil ?_ | refine vregion [] ?_ | refine vhrun_nil ?_) | ((with_reducible first | refine vrun_cons fun KK hKK => ?_ | refine vhrun_cons fun KK hKK => ?_); go_simp; refine hKK _ ?_; clear hKK KK) | ((refine vdrawL 27 27 [] rfl (by kernel_rfl) (by kernel_rfl) ?_); simp only [List.take, List.drop]))
   go_simp
def nextR (r : Ru) (s : St) : Int := ixP (readyP r s) 0 r.ranks.length
theorem p_next (r : Ru) (s : St) (mv : List Sg) (hl : r.ranks.length ≤ 1000000) (hr : r.ranks.length = s.q.length) (hf : FeedOK r s.q.length) : VC Tryz.prog 115 [townA r s mv] (I (nextR r s)) := by
 obtain ⟨R, hR⟩ : ∃ R, nextR r s = R := ⟨_, rfl⟩
 rw [hR]
 unfold nextR at hR
 have HR := Lib.hid hR
 have HF := Lib.hid hf
 clear hR hf
 refine VC_of Tryz.func115 rfl (by kernel_rfl) (by kernel_rfl) rfl fun M0 w0 => ?_
 simp only [Tryz.ntmps115, Tryz.results115, enumA]
 repeat' (first | (with_reducible first | refine vseq ?_ | refine vthenN ?_ | refine vblock ?_ | refine vrun_nil ?_ | refine vregion [] ?_) | ((with_reducible refine vrun_cons fun KK hKK => ?_); go_simp; refine hKK _ ?_; clear hKK KK))
 apply vfor [0, 9] (fun k => [(10, I k)]) (fun k => ([] : Hp)) (readyP r s) (r.ranks.length)
 ·go_simp <;> exact rfl
 ·go_simp
 ·intro k hk HB HP K hK
  obtain ⟨w1, w2, w3, w4, w5, w6⟩ := ixs (m := k) (by omega)
  have hk2 : k < s.q.length := by omega
  have g := p_ready r s mv k hk2 hr HF.out
  rw [HP.out] at g
  repeat' (first | (with_reducible first | refine vseq ?_ | refine vthenN ?_ | refine vskip ?_ | refine vblock ?_ | refine vblockN ?_ | refine vrun_nil ?_ | refine vregion [] ?_) | ((with_reducible refine vcondT ?_ ?_); (focus (go_simp; done))) | ((with_reducible refine vcondF ?_ ?_); (focus (go_simp; done))) | ((with_reducible refine vrun_cons fun KK hKK => ?_); go_simp; (first | (with_reducible refine ⟨_, g, ?_⟩) | skip); refine hKK _ ?_; clear hKK KK))
  refine hK _ ?_
  go_simp
 ·intro k hk HB HP K
  have hk2 : k < s.q.length := by omega
  have g := p_ready r s mv k hk2 hr HF.out
  rw [HP.out] at g
  have e := HR.out
  rw [ixP_hit hk HB.out HP.out] at e
  subst e
  repeat' (first | (with_reducible first | refine vseq ?_ | refine vthenN ?_ | refine vthenR ?_ | refine vret ?_ | refine vskip ?_ | refine vblock ?_ | refine vblockR ?_ | refine vrun_nil ?_ | refine vregion [] ?_) | ((with_reducible refine vcondT ?_ ?_); (focus (go_simp; done))) | ((with_reducible refine vrun_cons fun KK hKK => ?_); go_simp; (first | (with_reducible refine ⟨_, g, ?_⟩) | skip); refine hKK _ ?_; clear hKK KK))
  go_simp
 ·intro HB K
  have e := HR.out
  rw [ixP_out HB.out] at e
  subst e
  repeat (first | (with_reducible first | refine vseq ?_ | refine vthenN ?_ | refine vthenE ?_ | refine vret ?_ | refine vexit ?_ | refine vblockH ?_ | refine vrun_nil ?_ | refine vregion [] ?_) | ((with_reducible refine vcondF ?_ ?_); (focus (go_simp; done))) | ((with_reducible refine vrun_cons fun KK hKK => ?_); go_simp; refine hKK _ ?_; clear hKK KK))
  go_simp
def idxT (l : List ByteArray) (s : ByteArray) : Int := ixP (isT l s) 0 l.length
def inQ (q : List (List ByteArray)) (s : ByteArray) (k : Nat) : Bool := decide (0 ≤ idxT (qat q k) s)
def spotK (q : List (List ByteArray)) (s : ByteArray) : Int := ixP (inQ q s) 0 q.length
def spotA (q : List (List ByteArray)) (s : ByteArray) : AV := if 0 ≤ spotK q s then .tup [.agg [I (spotK q s), I (idxT (qat q (spotK q s).toNat) s)], B true] else .tup [.agg [I 0, I 0], B false]
theorem p_spot (r : Ru) (s : St) (mv : List Sg) (car : ByteArray) (hl : s.q.length ≤ 1000000) (hq : ∀ k, k < s.q.length → (qat s.q k).length ≤ 1000000) : VC Tryz.prog 158 [townA r s mv, S car] (spotA s.q car) := by
 obtain ⟨R, hR⟩ : ∃ R, spotA s.q car = R := ⟨_, rfl⟩
 rw [hR]
 have HR := Lib.hid hR
 have HQ := Lib.hid hq
 clear hR hq
 refine VC_of Tryz.func158 rfl (by kernel_rfl) (by kernel_rfl) rfl fun M0 w0 => ?_
 simp only [Tryz.ntmps158, Tryz.results158, enumA]
 repeat' (first | (with_reducible first | refine vseq ?_ | refine vthenN ?_ | refine vblock ?_ | refine vrun_nil ?_ | refine vregion [] ?_) | ((with_reducible refine vrun_cons fun KK hKK => ?_); go_simp; refine hKK _ ?_; clear hKK KK))
 apply vfor [1, 4, 13, 14] (fun k => [(15, I k)]) (fun k => ([some (.box [I 0, I 0])] : Hp)) (inQ s.q car) (s.q.length)
 ·go_simp <;> exact rfl
 ·go_simp
 ·intro k hk HB HP K hK
  obtain ⟨w1, w2, w3, w4, w5, w6⟩ := ixs (m := k) (by omega)
  have g := p_index (qat s.q k) car (HQ.out k hk)
  have hp : ¬ 0 ≤ ixP (isT (qat s.q k) car) 0 (qat s.q k).length := of_decide_eq_false HP.out
  generalize ixP (isT (qat s.q k) car) 0 (qat s.q k).length = E at *
  repeat' (first | (with_reducible first | refine vseq ?_ | refine vthenN ?_ | refine vskip ?_ | refine vblock ?_ | refine vblockN ?_ | refine vrun_nil ?_ | refine vregion [] ?_) | ((with_reducible refine vcondT ?_ ?_); (focus (go_simp; done))) | ((with_reducible refine vcondF ?_ ?_); (focus (go_simp; done))) | ((with_reducible refine vrun_cons fun KK hKK => ?_); go_simp; (first | (with_reducible refine ⟨_, g, ?_⟩) | skip); refine hKK _ ?_; clear hKK KK))
  refine hK _ ?_
  go_simp
 ·intro k hk HB HP K
  have g := p_index (qat s.q k) car (HQ.out k hk)
  have hp : 0 ≤ ixP (isT (qat s.q k) car) 0 (qat s.q k).length := of_decide_eq_true HP.out
  have e := HR.out
  have e1 : spotK s.q car = k := ixP_hit hk HB.out HP.out
  unfold spotA at e
  rw [e1, if_pos (by omega), Int.toNat_natCast, idxT] at e
  generalize ixP (isT (qat s.q k) car) 0 (qat s.q k).length = E at *
  subst e
  repeat' (first | (with_reducible first | refine vseq ?_ | refine vthenN ?_ | refine vthenR ?_ | refine vret ?_ | refine vskip ?_ | refine vblock ?_ | refine vblockR ?_ | refine vrun_nil ?_ | refine vregion [] ?_) | ((with_reducible refine vcondT ?_ ?_); (focus (go_simp; done))) | ((with_reducible refine vrun_cons fun KK hKK => ?_); go_simp; (first | (with_reducible refine ⟨_, g, ?_⟩) | skip); refine hKK _ ?_; clear hKK KK))
  go_simp
 ·intro HB K
  have e := HR.out
  have e1 : spotK s.q car = -1 := ixP_out HB.out
  unfold spotA at e
  rw [e1, if_neg (by decide)] at e
  subst e
  repeat (first | (with_reducible first | refine vseq ?_ | refine vthenN ?_ | refine vthenE ?_ | refine vret ?_ | refine vexit ?_ | refine vblockH ?_ | refine vrun_nil ?_ | refine vregion [] ?_) | ((with_reducible refine vcondF ?_ ?_); (focus (go_simp; done))) | ((with_reducible refine vrun_cons fun KK hKK => ?_); go_simp; refine hKK _ ?_; clear hKK KK))
  go_simp
def isTk (l : List Tk) (s : ByteArray) (j : Nat) : Bool := decide ((tkat l j).car = s)
def tkIx (l : List Tk) (s : ByteArray) : Int := ixP (isTk l s) 0 l.length
theorem c_taken (x : Tk) (s : ByteArray) : VC Tryz.prog 235 [.agg [S x.car, I x.rank, I x.time], .vp [S s]] (B (decide (x.car = s))) := by
 refine VC_of Tryz.func235 rfl (by kernel_rfl) (by kernel_rfl) rfl fun M0 w0 => ?_
 simp only [Tryz.ntmps235, Tryz.results235, enumA]
 repeat' (first | (with_reducible first | refine vseq ?_ | refine vthenN ?_ | refine vret ?_ | refine vrun_nil ?_ | refine vregion [] ?_) | ((with_reducible refine vrun_cons fun KK hKK => ?_); go_simp; refine hKK _ ?_; clear hKK KK))
 go_simp
theorem p_takenIx (l : List Tk) (s : ByteArray) (hl : l.length ≤ 1000000) : VC Tryz.prog 234 [.sl 3 (l.map Tk.av), .fn (.func 235) [] [.vp [S s]]] (I (tkIx l s)) := by
 obtain ⟨R, hR⟩ : ∃ R, tkIx l s = R := ⟨_, rfl⟩
 rw [hR]
 unfold tkIx at hR
 have HR := Lib.hid hR
 clear hR
 refine VC_of Tryz.func234 rfl (by kernel_rfl) (by kernel_rfl) rfl fun M0 w0 => ?_
 simp only [Tryz.ntmps234, Tryz.results234, enumA]
 repeat' (first | (with_reducible first | refine vseq ?_ | refine vthenN ?_ | refine vblock ?_ | refine vrun_nil ?_ | refine vregion [] ?_) | ((with_reducible refine vrun_cons fun KK hKK => ?_); go_simp; refine hKK _ ?_; clear hKK KK))
 apply vfor [0, 1, 7] (fun k => [(8, I k)]) (fun k => ([] : Hp)) (isTk l s) (l.length)
 ·go_simp <;> exact rfl
 ·go_simp
 ·intro k hk HB HP K hK
  obtain ⟨w1, w2, w3, w4, w5, w6⟩ := ixs (m := k) (by omega)
  have g := c_taken (tkat l k) s
  have hp := HP.out
  unfold isTk at hp
  rw [hp] at g
  clear hp
  repeat' (first | (with_reducible first | refine vseq ?_ | refine vthenN ?_ | refine vskip ?_ | refine vblock ?_ | refine vblockN ?_ | refine vrun_nil ?_ | refine vregion [] ?_) | ((with_reducible refine vcondT ?_ ?_); (focus (go_simp; done))) | ((with_reducible refine vcondF ?_ ?_); (focus (go_simp; done))) | ((with_reducible refine vrun_cons fun KK hKK => ?_); go_simp; (first | (refine ⟨_, g, ?_⟩) | skip); refine hKK _ ?_; clear hKK KK))
  refine hK _ ?_
  go_simp
 ·intro k hk HB HP K
  have g := c_taken (tkat l k) s
  have hp := HP.out
  unfold isTk at hp
  rw [hp] at g
  clear hp
  have e := HR.out
  rw [ixP_hit hk HB.out HP.out] at e
  subst e
  repeat' (first | (with_reducible first | refine vseq ?_ | refine vthenN ?_ | refine vthenR ?_ | refine vret ?_ | refine vskip ?_ | refine vblock ?_ | refine vblockR ?_ | refine vrun_nil ?_ | refine vregion [] ?_) | ((with_reducible refine vcondT ?_ ?_); (focus (go_simp; done))) | ((with_reducible refine vrun_cons fun KK hKK => ?_); go_simp; (first | (refine ⟨_, g, ?_⟩) | skip); refine hKK _ ?_; clear hKK KK))
  go_simp
 ·intro HB K
  have e := HR.out
  rw [ixP_out HB.out] at e
  subst e
  repeat (first | (with_reducible first | refine vseq ?_ | refine vthenN ?_ | refine vthenE ?_ | refine vret ?_ | refine vexit ?_ | refine vblockH ?_ | refine vrun_nil ?_ | refine vregion [] ?_) | ((with_reducible refine vcondF ?_ ?_); (focus (go_simp; done))) | ((with_reducible refine vrun_cons fun KK hKK => ?_); go_simp; refine hKK _ ?_; clear hKK KK))
  go_simp
theorem p_taken (r : Ru) (s : St) (mv : List Sg) (car : ByteArray) (hl : s.tk.length ≤ 1000000) : VC Tryz.prog 230 [townA r s mv, S car] (I (tkIx s.tk car)) := by
 have g := p_takenIx s.tk car hl
 generalize tkIx s.tk car = E at *
 refine VC_of Tryz.func230 rfl (by kernel_rfl) (by kernel_rfl) rfl fun M0 w0 => ?_
 simp only [Tryz.ntmps230, Tryz.results230, enumA]
 repeat' (first | (with_reducible first | refine vseq ?_ | refine vthenN ?_ | refine vret ?_ | refine vrun_nil ?_ | refine vregion [] ?_) | ((with_reducible refine vrun_cons fun KK hKK => ?_); go_simp; (first | (refine ⟨_, g, ?_⟩) | skip); refine hKK _ ?_; clear hKK KK))
 go_simp
def headE (q : List ByteArray) (car : ByteArray) : Int := if q.length = 0 then 12 else unl (decide (tat q 0 = car)) 13
theorem p_headErr (r : Ru) (s : St) (mv : List Sg) (x : Ev) (k : Nat) (hx : x.rank = k) (hk : k < s.q.length) : VC Tryz.prog 232 [townA r s mv, evA x] (I (headE (qat s.q k) x.car)) := by
 unfold headE
 by_cases h0 : (qat s.q k).length = 0
 ·rw [if_pos h0]
  refine VC_of Tryz.func232 rfl (by kernel_rfl) (by kernel_rfl) rfl fun M0 w0 => ?_
  simp only [Tryz.ntmps232, Tryz.results232, enumA]
  repeat' (first | (with_reducible first | refine vseq ?_ | refine vthenN ?_ | refine vthenR ?_ | refine vret ?_ | refine vrun_nil ?_ | refine vregion [] ?_ | refine vhrun_nil ?_) | ((with_reducible refine vcondT ?_ ?_); (focus (go_simp; done))) | ((with_reducible first | refine vrun_cons fun KK hKK => ?_ | refine vhrun_cons fun KK hKK => ?_); go_simp; refine hKK _ ?_; clear hKK KK) | ((refine vdrawL 10 10 [] rfl (by kernel_rfl) (by kernel_rfl) ?_); simp only [List.take, List.drop]))
  go_simp
 ·rw [if_neg h0]
  have hp : 0 < (qat s.q k).length := by omega
  have g := p_unless (decide (tat (qat s.q k) 0 = x.car)) 13
  have ht := tat_get hp
  generalize unl (decide (tat (qat s.q k) 0 = x.car)) 13 = E at *
  rw [ht] at g
  refine VC_of Tryz.func232 rfl (by kernel_rfl) (by kernel_rfl) rfl fun M0 w0 => ?_
  simp only [Tryz.ntmps232, Tryz.results232, enumA]
  repeat' (first | (with_reducible first | refine vseq ?_ | refine vthenN ?_ | refine vret ?_ | refine vskip ?_ | refine vrun_nil ?_ | refine vregion [] ?_ | refine vhrun_nil ?_) | ((with_reducible refine vcondF ?_ ?_); (focus (go_simp; done))) | ((with_reducible first | refine vrun_cons fun KK hKK => ?_ | refine vhrun_cons fun KK hKK => ?_); go_simp; (first | (with_reducible refine ⟨_, g, ?_⟩) | skip); refine hKK _ ?_; clear hKK KK) | ((refine vdrawL 8 8 [] rfl (by kernel_rfl) (by kernel_rfl) ?_); simp only [List.take, List.drop]) | ((refine vdrawL 10 10 [] rfl (by kernel_rfl) (by kernel_rfl) ?_); simp only [List.take, List.drop]))
  go_simp
end Go.Proofs.YtoibondihdhnoaaGreatDoor
