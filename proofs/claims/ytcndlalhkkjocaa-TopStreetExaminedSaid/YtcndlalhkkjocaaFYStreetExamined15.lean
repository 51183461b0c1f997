/- Texts in one: Chapter 3: what its functions compute, as plain functions; no condition. -/
import Derived.Test.YtcndlalhkkjocaaFYStreetExamined7
import Derived.Test.YtcndlalhkkjocaaFYStreetExamined8
import Derived.Test.YtcndlalhkkjocaaFYStreetExamined14
import Derived.Test.YtcndlalhkkjocaaFYStreetExamined13
import Derived.Test.YtcndlalhkkjocaaFYStreetExamined11
import Derived.Test.YtcndlalhkkjocaaFYStreetExamined12
/-! SYA: Chapter 3: what its functions compute, as plain functions; no condition. -/
namespace Go.Proofs.Ytcndlalhkkjocaa
open Go.RowKit
/-- A point of a road. -/
structure Pt where
  time : Int
  lo : Int
  hi : Int
instance : Inhabited Pt := ⟨⟨0, 0, 0⟩⟩
@[go_sem] def Pt.av (x : Pt) : List AV := [I x.time, I x.lo, I x.hi]
abbrev pointA (x : Pt) : AV := .agg [I x.time, I x.lo, I x.hi]
def ptat (l : List Pt) (k : Nat) : Pt := l.getD k default
theorem ptat_get {l : List Pt} {k : Nat} (h : k < l.length) : ptat l k = l[k] := by simp [ptat, h]
theorem pt_at {l : List Pt} {k : Nat} (h : k < l.length) : l[k] = ptat l k := (ptat_get h).symm
abbrev ptsA (l : List Pt) : AV := .sl 3 (l.map Pt.av)
/-- A road. -/
structure Rd where
  name : ByteArray
  src : Int
  dst : Int
  metres : Int
  pts : List Pt
instance : Inhabited Rd := ⟨⟨ByteArray.empty, 0, 0, 0, []⟩⟩
@[go_sem] def Rd.av (x : Rd) : List AV := [S x.name, I x.src, I x.dst, I x.metres, .sl 3 (x.pts.map Pt.av)]
abbrev roadA (x : Rd) : AV := .agg [S x.name, I x.src, I x.dst, I x.metres, .sl 3 (x.pts.map Pt.av)]
def rdat (l : List Rd) (k : Nat) : Rd := l.getD k default
theorem rdat_get {l : List Rd} {k : Nat} (h : k < l.length) : rdat l k = l[k] := by simp [rdat, h]
theorem rd_at {l : List Rd} {k : Nat} (h : k < l.length) : l[k] = rdat l k := (rdat_get h).symm
def tat (l : List ByteArray) (k : Nat) : ByteArray := l.getD k ByteArray.empty
theorem tat_get {l : List ByteArray} {k : Nat} (h : k < l.length) : tat l k = l[k] := by simp [tat, h]
theorem t_at {l : List ByteArray} {k : Nat} (h : k < l.length) : l[k] = tat l k := (tat_get h).symm
def iat (l : List Int) (k : Nat) : Int := l.getD k 0
theorem iat_get {l : List Int} {k : Nat} (h : k < l.length) : iat l k = l[k] := by simp [iat, h]
theorem i_at {l : List Int} {k : Nat} (h : k < l.length) : l[k] = iat l k := (iat_get h).symm
attribute [go_sem] pt_at rd_at t_at i_at
abbrev intsA (l : List Int) : AV := .sl 1 (l.map intA)
/-- A net. -/
structure Nt where
  places : List ByteArray
  roads : List Rd
abbrev netA (n : Nt) : AV := .agg [.sl 1 (n.places.map txtA), .sl 5 (n.roads.map Rd.av)]
def isT (l : List ByteArray) (s : ByteArray) (j : Nat) : Bool := decide (tat l j = s)
def isN (l : List Rd) (s : ByteArray) (j : Nat) : Bool := decide ((rdat l j).name = s)
theorem firstErr_hitF {E : Nat → Int} {k : Nat} (h : E k ≠ 0) : ∀ (n a : Nat), a ≤ k → k < a + n → (∀ j, a ≤ j → j < k → E j = 0) → firstErr E a n = (k, E k)
  | 0, a, h1, h2, _ => by omega
  | n + 1, a, h1, h2, hb => by
    rw [firstErr]
    by_cases he : a = k
    · subst he
      rw [if_pos h]
    · rw [if_neg (by rw [hb a (Nat.le_refl _) (by omega)]; decide)]
      exact firstErr_hitF h n (a + 1) (by omega) (by omega) fun j h1 h2 => hb j (by omega) h2
/-- Whether number k is wrong. -/
def bad (E : Nat → Int) (k : Nat) : Bool := decide (E k ≠ 0)
theorem bad_no {E : Nat → Int} {k : Nat} (h : bad E k = false) : E k = 0 := by simpa [bad] using h
theorem bad_yes {E : Nat → Int} {k : Nat} (h : bad E k = true) : E k ≠ 0 := by simpa [bad] using h
theorem firstErr_hit {E : Nat → Int} {k n : Nat} (hk : k < n) (hb : ∀ j, j < k → bad E j = false) (h : bad E k = true) : firstErr E 0 n = (k, E k) := firstErr_hitF (bad_yes h) n 0 (Nat.zero_le _) (by omega) fun j _ hj => bad_no (hb j hj)
theorem firstErr_outF {E : Nat → Int} : ∀ (n a : Nat), (∀ j, a ≤ j → j < a + n → E j = 0) → firstErr E a n = (0, 0)
  | 0, _, _ => rfl
  | n + 1, a, h => by
    rw [firstErr, if_neg (by rw [h a (Nat.le_refl _) (by omega)]; decide)]
    exact firstErr_outF n (a + 1) fun j h1 h2 => h j (by omega) (by omega)
theorem firstErr_out {E : Nat → Int} {n : Nat} (h : ∀ j, j < n → bad E j = false) : firstErr E 0 n = (0, 0) := firstErr_outF n 0 fun j _ hj => bad_no (h j (by omega))
theorem firstErr_zero {E : Nat → Int} : ∀ (n a : Nat), (firstErr E a n).2 = 0 → ∀ j, a ≤ j → j < a + n → E j = 0
  | 0, a, _, j, h1, h2 => by omega
  | n + 1, a, h, j, h1, h2 => by
    rw [firstErr] at h
    split at h
    · rename_i hne
      exact absurd h hne
    · rename_i he
      by_cases hj : j = a
      · subst hj
        exact Classical.not_not.1 he
      · exact firstErr_zero n (a + 1) h j (by omega) (by omega)
/-! ### Which nets are right -/
def behD (l : List Pt) (k : Nat) : Int := if (ptat l ((k + 1) % l.length)).time - (ptat l k).time ≤ 0 then (ptat l ((k + 1) % l.length)).time - (ptat l k).time + 86400 else (ptat l ((k + 1) % l.length)).time - (ptat l k).time
def modF (n m : Int) : Int := if n.tmod m < 0 then n.tmod m + m else n.tmod m
def refD (l : List Pt) (k : Nat) : Int := modF ((ptat l ((k + 1) % l.length)).time - (ptat l k).time) 86400
def ptE (l : List Pt) (k : Nat) : Int :=
  if (inR (ptat l k).time 0 86399 && inR (ptat l k).lo 0 7200 && inR (ptat l k).hi 0 7200) = false then 2 else
  if (ptat l k).hi < (ptat l k).lo ∨ (0 < k ∧ (ptat l k).time ≤ (ptat l (k - 1)).time) then 9 else 0
def opE (l : List Pt) (k : Nat) : Int :=
  if (ptat l ((k + 1) % l.length)).lo < (ptat l k).lo - refD l k ∨ (ptat l ((k + 1) % l.length)).hi < (ptat l k).hi - refD l k then 23 else 0
def isPl (n : Nt) (k : Int) : Bool := inR k 0 ((n.places.length : Int) - 1)
def rdH (n : Nt) (i : Nat) : Int :=
  if isName (rdat n.roads i).name = false then 4 else
  if anyP (isN n.roads (rdat n.roads i).name) 0 i = true then 5 else
  if isPl n (rdat n.roads i).src = false ∨ isPl n (rdat n.roads i).dst = false then 6 else
  if (rdat n.roads i).src = (rdat n.roads i).dst then 26 else
  if inR (rdat n.roads i).metres 0 100000 = false then 2 else
  if (rdat n.roads i).pts.length = 0 then 10 else
  if 8 < (rdat n.roads i).pts.length then 8 else 0
def rdE (n : Nt) (i : Nat) : Nat × Int :=
  if rdH n i ≠ 0 then (0, rdH n i) else
  if (firstErr (ptE (rdat n.roads i).pts) 0 (rdat n.roads i).pts.length).2 ≠ 0 then firstErr (ptE (rdat n.roads i).pts) 0 (rdat n.roads i).pts.length else
  firstErr (opE (rdat n.roads i).pts) 0 (rdat n.roads i).pts.length
def plE (l : List ByteArray) (k : Nat) : Int := if isName (tat l k) = false then 4 else if anyP (isT l (tat l k)) 0 k = true then 5 else 0
def netE (n : Nt) : (Nat × Nat) × Int :=
  if n.places.length = 0 then ((0, 0), 10) else if 20 < n.places.length then ((0, 0), 8) else
  if (firstErr (plE n.places) 0 n.places.length).2 ≠ 0 then (((firstErr (plE n.places) 0 n.places.length).1, 0), (firstErr (plE n.places) 0 n.places.length).2) else
  if 60 < n.roads.length then ((0, 0), 8) else
  if (firstErr (fun i => (rdE n i).2) 0 n.roads.length).2 ≠ 0 then (((firstErr (fun i => (rdE n i).2) 0 n.roads.length).1, (rdE n (firstErr (fun i => (rdE n i).2) 0 n.roads.length).1).1), (firstErr (fun i => (rdE n i).2) 0 n.roads.length).2) else ((0, 0), 0)
structure RightPts (l : List Pt) : Prop where
  pos : 0 < l.length
  few : l.length ≤ 8
  rng : ∀ k, k < l.length → 0 ≤ (ptat l k).time ∧ (ptat l k).time ≤ 86399 ∧ 0 ≤ (ptat l k).lo ∧ (ptat l k).lo ≤ 7200 ∧ 0 ≤ (ptat l k).hi ∧ (ptat l k).hi ≤ 7200 ∧ (ptat l k).lo ≤ (ptat l k).hi
  asc : ∀ k, 0 < k → k < l.length → (ptat l (k - 1)).time < (ptat l k).time
  ord : ∀ k, k < l.length → (ptat l k).lo - refD l k ≤ (ptat l ((k + 1) % l.length)).lo ∧ (ptat l k).hi - refD l k ≤ (ptat l ((k + 1) % l.length)).hi
structure RightRoad (n : Nt) (i : Nat) : Prop where
  name : isName (rdat n.roads i).name = true
  dist : anyP (isN n.roads (rdat n.roads i).name) 0 i = false
  src : 0 ≤ (rdat n.roads i).src ∧ (rdat n.roads i).src < n.places.length
  dst : 0 ≤ (rdat n.roads i).dst ∧ (rdat n.roads i).dst < n.places.length
  ne : (rdat n.roads i).src ≠ (rdat n.roads i).dst
  metres : 0 ≤ (rdat n.roads i).metres ∧ (rdat n.roads i).metres ≤ 100000
  pts : RightPts (rdat n.roads i).pts
structure RightNet (n : Nt) : Prop where
  p0 : 0 < n.places.length
  p20 : n.places.length ≤ 20
  names : ∀ k, k < n.places.length → isName (tat n.places k) = true
  dist : ∀ k, k < n.places.length → anyP (isT n.places (tat n.places k)) 0 k = false
  r60 : n.roads.length ≤ 60
  road : ∀ i, i < n.roads.length → RightRoad n i
theorem ptE_zero {l : List Pt} {k : Nat} (h : ptE l k = 0) : (0 ≤ (ptat l k).time ∧ (ptat l k).time ≤ 86399 ∧ 0 ≤ (ptat l k).lo ∧ (ptat l k).lo ≤ 7200 ∧ 0 ≤ (ptat l k).hi ∧ (ptat l k).hi ≤ 7200 ∧ (ptat l k).lo ≤ (ptat l k).hi) ∧ (0 < k → (ptat l (k - 1)).time < (ptat l k).time) := by
  unfold ptE at h
  split at h
  · cases h
  · rename_i h1
    rw [Bool.not_eq_false, Bool.and_eq_true, Bool.and_eq_true, inR_iff, inR_iff, inR_iff] at h1
    split at h
    · cases h
    · omega
theorem opE_zero {l : List Pt} {k : Nat} (h : opE l k = 0) : (ptat l k).lo - refD l k ≤ (ptat l ((k + 1) % l.length)).lo ∧ (ptat l k).hi - refD l k ≤ (ptat l ((k + 1) % l.length)).hi := by
  unfold opE at h
  split at h
  · cases h
  · omega
theorem rdE_zero {n : Nt} {i : Nat} (h : (rdE n i).2 = 0) : RightRoad n i := by
  unfold rdE at h
  split at h
  · rename_i hh
    exact absurd h hh
  · rename_i hh
    split at h
    · rename_i h2
      exact absurd h h2
    · rename_i h2
      have z1 := firstErr_zero _ 0 (Classical.not_not.1 h2)
      have z2 := firstErr_zero _ 0 h
      have hh := Classical.not_not.1 hh
      unfold rdH at hh
      split at hh; · cases hh
      rename_i a1
      split at hh; · cases hh
      rename_i a2
      split at hh; · cases hh
      rename_i a3
      split at hh; · cases hh
      rename_i a4
      split at hh; · cases hh
      rename_i a5
      split at hh; · cases hh
      rename_i a6
      split at hh; · cases hh
      rename_i a7
      rw [not_or, Bool.not_eq_false, Bool.not_eq_false] at a3
      have b1 := inR_iff.1 a3.1
      have b2 := inR_iff.1 a3.2
      rw [Bool.not_eq_false] at a5
      have b3 := inR_iff.1 a5
      exact ⟨by simpa using a1, by simpa using a2, by omega, by omega, a4, b3, ⟨by omega, by omega, fun k hk => (ptE_zero (z1 k (Nat.zero_le _) (by omega))).1, fun k h0 hk => (ptE_zero (z1 k (Nat.zero_le _) (by omega))).2 h0, fun k hk => opE_zero (z2 k (Nat.zero_le _) (by omega))⟩⟩
theorem netE_zero {n : Nt} (h : (netE n).2 = 0) : RightNet n := by
  unfold netE at h
  split at h; · cases h
  rename_i a1
  split at h; · cases h
  rename_i a2
  split at h
  · rename_i hh
    exact absurd h hh
  rename_i a3
  split at h; · cases h
  rename_i a4
  split at h
  · rename_i hh
    exact absurd h hh
  rename_i a5
  have z1 := firstErr_zero _ 0 (Classical.not_not.1 a3)
  have z2 := firstErr_zero _ 0 (Classical.not_not.1 a5)
  have z3 : ∀ k, k < n.places.length → isName (tat n.places k) = true ∧ anyP (isT n.places (tat n.places k)) 0 k = false := fun k hk => by
    have := z1 k (Nat.zero_le _) (by omega)
    unfold plE at this
    split at this; · cases this
    rename_i b1
    split at this; · cases this
    rename_i b2
    exact ⟨by simpa using b1, by simpa using b2⟩
  exact ⟨by omega, by omega, fun k hk => (z3 k hk).1, fun k hk => (z3 k hk).2, by omega, fun i hi => rdE_zero (z2 i (Nat.zero_le _) (by omega))⟩
end Go.Proofs.Ytcndlalhkkjocaa

/-! SYB: Walks on plain values: points of a road, how long a road takes. -/
namespace Go.Proofs.Ytcndlalhkkjocaa
open Go.RowKit
set_option maxRecDepth 100000
set_option maxHeartbeats 1000000
def ceilF (n d : Int) : Int := if 0 < n.tmod d then n.tdiv d + 1 else n.tdiv d
theorem tdiv_le (n d : Int) : -(n.natAbs : Int) ≤ n.tdiv d ∧ n.tdiv d ≤ n.natAbs := by
  have h : (n.tdiv d).natAbs ≤ n.natAbs := by rw [Int.natAbs_tdiv]; exact Nat.div_le_self _ _
  omega
theorem tmod_lt (n d : Int) (hd : 0 < d) : -d < n.tmod d ∧ n.tmod d < d := by
  have h : (n.tmod d).natAbs < d.natAbs := by rw [Int.natAbs_tmod]; exact Nat.mod_lt _ (by omega)
  omega
theorem p_ceil (n d : Int) (h1 : -1000000000000 ≤ n) (h2 : n ≤ 1000000000000) (hd : 0 < d) (hd2 : d ≤ 1000000000) : VC Try.prog 48 [I n, I d] (I (ceilF n d)) := by
  unfold ceilF
  have hd0 : ¬ d = 0 := by omega
  have ht := tdiv_le n d
  obtain ⟨q, hq⟩ : ∃ q, n.tdiv d = q := ⟨_, rfl⟩
  rw [hq] at ht ⊢
  have u1 := wrap_eq (x := q) (by omega) (by omega)
  have u2 := wrap_eq (x := q + 1) (by omega) (by omega)
  clear ht
  by_cases hm : 0 < n.tmod d
  · rw [if_pos hm]
    refine VC_of Try.func48 rfl (by kernel_rfl) (by kernel_rfl) rfl fun M0 w0 => ?_
    simp only [Try.ntmps48, Try.results48, enumA]
    repeat' (first | (with_reducible first | refine vseq ?_ | refine vthenN ?_ | refine vthenE ?_ | refine vthenR ?_ | refine vret ?_ | refine vskip ?_ | refine vexit ?_ | refine vblock ?_ | refine vblockN ?_ | refine vblockR ?_ | refine vblockH ?_ | refine vrun_nil ?_ | refine vblockE rfl ?_ | refine vregion [] ?_ | refine vhrun_nil ?_) | ((with_reducible refine vcondT ?_ ?_); (focus (go_simp; done))) | ((with_reducible refine vcondF ?_ ?_); (focus (go_simp; done))) | ((with_reducible first | refine vrun_cons fun KK hKK => ?_ | refine vhrun_cons fun KK hKK => ?_); go_simp; refine hKK _ ?_; clear hKK KK) | ((with_reducible refine vcondS ?_ (fun ht => ?_) (fun ht => ?_)); (focus (go_simp; done)); (all_goals (simp [go_sem] at ht; replace ht := ht.out))))
    go_simp
  · rw [if_neg hm]
    refine VC_of Try.func48 rfl (by kernel_rfl) (by kernel_rfl) rfl fun M0 w0 => ?_
    simp only [Try.ntmps48, Try.results48, enumA]
    repeat' (first | (with_reducible first | refine vseq ?_ | refine vthenN ?_ | refine vthenE ?_ | refine vthenR ?_ | refine vret ?_ | refine vskip ?_ | refine vexit ?_ | refine vblock ?_ | refine vblockN ?_ | refine vblockR ?_ | refine vblockH ?_ | refine vrun_nil ?_ | refine vblockE rfl ?_ | refine vregion [] ?_ | refine vhrun_nil ?_) | ((with_reducible refine vcondT ?_ ?_); (focus (go_simp; done))) | ((with_reducible refine vcondF ?_ ?_); (focus (go_simp; done))) | ((with_reducible first | refine vrun_cons fun KK hKK => ?_ | refine vhrun_cons fun KK hKK => ?_); go_simp; refine hKK _ ?_; clear hKK KK) | ((with_reducible refine vcondS ?_ (fun ht => ?_) (fun ht => ?_)); (focus (go_simp; done)); (all_goals (simp [go_sem] at ht; replace ht := ht.out))))
    go_simp
theorem b_Mod (n d : Int) (hd : 0 < d) (hd2 : d ≤ 1000000000) : VC Try.prog 10 [I n, I d] (I (modF n d)) := by
  unfold modF
  have hd0 : ¬ d = 0 := by omega
  have ht := tmod_lt n d hd
  obtain ⟨q, hq⟩ : ∃ q, n.tmod d = q := ⟨_, rfl⟩
  rw [hq] at ht ⊢
  have u1 := wrap_eq (x := q) (by omega) (by omega)
  have u2 := wrap_eq (x := q + d) (by omega) (by omega)
  clear ht
  by_cases hm : q < 0
  · rw [if_pos hm]
    refine VC_of Try.func10 rfl (by kernel_rfl) (by kernel_rfl) rfl fun M0 w0 => ?_
    simp only [Try.ntmps10, Try.results10, enumA]
    repeat' (first | (with_reducible first | refine vseq ?_ | refine vthenN ?_ | refine vthenE ?_ | refine vthenR ?_ | refine vret ?_ | refine vskip ?_ | refine vexit ?_ | refine vblock ?_ | refine vblockN ?_ | refine vblockR ?_ | refine vblockH ?_ | refine vrun_nil ?_ | refine vblockE rfl ?_ | refine vregion [] ?_ | refine vhrun_nil ?_) | ((with_reducible refine vcondT ?_ ?_); (focus (go_simp; done))) | ((with_reducible refine vcondF ?_ ?_); (focus (go_simp; done))) | ((with_reducible first | refine vrun_cons fun KK hKK => ?_ | refine vhrun_cons fun KK hKK => ?_); go_simp; refine hKK _ ?_; clear hKK KK) | ((with_reducible refine vcondS ?_ (fun ht => ?_) (fun ht => ?_)); (focus (go_simp; done)); (all_goals (simp [go_sem] at ht; replace ht := ht.out))))
    go_simp
  · rw [if_neg hm]
    refine VC_of Try.func10 rfl (by kernel_rfl) (by kernel_rfl) rfl fun M0 w0 => ?_
    simp only [Try.ntmps10, Try.results10, enumA]
    repeat' (first | (with_reducible first | refine vseq ?_ | refine vthenN ?_ | refine vthenE ?_ | refine vthenR ?_ | refine vret ?_ | refine vskip ?_ | refine vexit ?_ | refine vblock ?_ | refine vblockN ?_ | refine vblockR ?_ | refine vblockH ?_ | refine vrun_nil ?_ | refine vblockE rfl ?_ | refine vregion [] ?_ | refine vhrun_nil ?_) | ((with_reducible refine vcondT ?_ ?_); (focus (go_simp; done))) | ((with_reducible refine vcondF ?_ ?_); (focus (go_simp; done))) | ((with_reducible first | refine vrun_cons fun KK hKK => ?_ | refine vhrun_cons fun KK hKK => ?_); go_simp; refine hKK _ ?_; clear hKK KK) | ((with_reducible refine vcondS ?_ (fun ht => ?_) (fun ht => ?_)); (focus (go_simp; done)); (all_goals (simp [go_sem] at ht; replace ht := ht.out))))
    go_simp
theorem p_soon (x y : Int) : VC Try.prog 25 [.agg [I x, I y]] (I x) := by
  refine VC_of Try.func25 rfl (by kernel_rfl) (by kernel_rfl) rfl fun M0 w0 => ?_
  simp only [Try.ntmps25, Try.results25, enumA]
  repeat' (first | (with_reducible first | refine vseq ?_ | refine vthenN ?_ | refine vthenE ?_ | refine vthenR ?_ | refine vret ?_ | refine vskip ?_ | refine vexit ?_ | refine vblock ?_ | refine vblockN ?_ | refine vblockR ?_ | refine vblockH ?_ | refine vrun_nil ?_ | refine vblockE rfl ?_ | refine vregion [] ?_ | refine vhrun_nil ?_) | ((with_reducible refine vcondT ?_ ?_); (focus (go_simp; done))) | ((with_reducible refine vcondF ?_ ?_); (focus (go_simp; done))) | ((with_reducible first | refine vrun_cons fun KK hKK => ?_ | refine vhrun_cons fun KK hKK => ?_); go_simp; refine hKK _ ?_; clear hKK KK) | ((with_reducible refine vcondS ?_ (fun ht => ?_) (fun ht => ?_)); (focus (go_simp; done)); (all_goals (simp [go_sem] at ht; replace ht := ht.out))))
  go_simp
theorem p_late (x y : Int) : VC Try.prog 26 [.agg [I x, I y]] (I y) := by
  refine VC_of Try.func26 rfl (by kernel_rfl) (by kernel_rfl) rfl fun M0 w0 => ?_
  simp only [Try.ntmps26, Try.results26, enumA]
  repeat' (first | (with_reducible first | refine vseq ?_ | refine vthenN ?_ | refine vthenE ?_ | refine vthenR ?_ | refine vret ?_ | refine vskip ?_ | refine vexit ?_ | refine vblock ?_ | refine vblockN ?_ | refine vblockR ?_ | refine vblockH ?_ | refine vrun_nil ?_ | refine vblockE rfl ?_ | refine vregion [] ?_ | refine vhrun_nil ?_) | ((with_reducible refine vcondT ?_ ?_); (focus (go_simp; done))) | ((with_reducible refine vcondF ?_ ?_); (focus (go_simp; done))) | ((with_reducible first | refine vrun_cons fun KK hKK => ?_ | refine vhrun_cons fun KK hKK => ?_); go_simp; refine hKK _ ?_; clear hKK KK) | ((with_reducible refine vcondS ?_ (fun ht => ?_) (fun ht => ?_)); (focus (go_simp; done)); (all_goals (simp [go_sem] at ht; replace ht := ht.out))))
  go_simp
/-- An end of a range: as fast as may be, as slow as may be. -/
def eF : Bool → FuncId
  | false => 25
  | true => 26
def eV : Bool → Pt → Int
  | false, p => p.lo
  | true, p => p.hi
abbrev endA (e : Bool) : AV := .lit (.func (.func (eF e)) #[] #[])
theorem p_end (e : Bool) (p : Pt) : VC Try.prog (eF e) [.agg [I p.lo, I p.hi]] (I (eV e p)) := by
  cases e
  · exact p_soon _ _
  · exact p_late _ _
/-- Points that are right enough to be looked at. -/
structure SmallP (l : List Pt) : Prop where
  pos : 0 < l.length
  few : l.length ≤ 100
  rng : ∀ k, k < l.length → 0 ≤ (ptat l k).time ∧ (ptat l k).time ≤ 86399 ∧ 0 ≤ (ptat l k).lo ∧ (ptat l k).lo ≤ 7200 ∧ 0 ≤ (ptat l k).hi ∧ (ptat l k).hi ≤ 7200
theorem RightPts.small {l : List Pt} (h : RightPts l) : SmallP l := ⟨h.pos, by have := h.few; omega, fun k hk => by have := h.rng k hk; omega⟩
theorem nx_lt {l : List Pt} (h : SmallP l) (k : Nat) : (k + 1) % l.length < l.length := Nat.mod_lt _ h.pos
theorem p_behind (l : List Pt) (k : Nat) (h : SmallP l) (hk : k < l.length) : VC Try.prog 47 [ptsA l, I (k : Int)] (.tup [pointA (ptat l ((k + 1) % l.length)), I (behD l k)]) := by
  have hn := nx_lt h k
  have r1 := h.rng k hk
  have r2 := h.rng _ hn
  have h0 := h.pos
  have hf := h.few
  obtain ⟨w1, w2, w3, w4, w5, w6⟩ := ixs (m := k) (by omega)
  have hm : ((k : Int) + 1).tmod (l.length : Int) = ((k + 1) % l.length : Nat) := rfl
  have hl0 : ¬ (l.length : Int) = 0 := by omega
  have hl1 : ¬ l.length = 0 := by omega
  have hl2 : ¬ l = [] := fun e => by rw [e] at hl1; exact hl1 rfl
  have HH := Lib.hid h
  clear h
  unfold behD
  generalize (k + 1) % l.length = m at *
  obtain ⟨x, hx⟩ : ∃ x, (ptat l k).time = x := ⟨_, rfl⟩
  obtain ⟨p, hp⟩ : ∃ p, ptat l m = p := ⟨_, rfl⟩
  rw [hx] at r1
  rw [hp] at r2
  have u1 := wrap_eq (x := p.time - x) (by omega) (by omega)
  have u2 := wrap_eq (x := p.time - x + 86400) (by omega) (by omega)
  clear r1 r2
  rw [hx, hp]
  by_cases hd : p.time - x ≤ 0
  · rw [if_pos hd]
    refine VC_of Try.func47 rfl (by kernel_rfl) (by kernel_rfl) rfl fun M0 w0 => ?_
    simp only [Try.ntmps47, Try.results47, enumA]
    repeat' (first | (with_reducible first | refine vseq ?_ | refine vthenN ?_ | refine vthenE ?_ | refine vthenR ?_ | refine vret ?_ | refine vskip ?_ | refine vexit ?_ | refine vblock ?_ | refine vblockN ?_ | refine vblockR ?_ | refine vblockH ?_ | refine vrun_nil ?_ | refine vblockE rfl ?_ | refine vregion [] ?_ | refine vhrun_nil ?_) | ((with_reducible refine vcondT ?_ ?_); (focus (go_simp; done))) | ((with_reducible refine vcondF ?_ ?_); (focus (go_simp; done))) | ((with_reducible first | refine vrun_cons fun KK hKK => ?_ | refine vhrun_cons fun KK hKK => ?_); go_simp; refine hKK _ ?_; clear hKK KK) | ((refine vdrawL 9 9 [] rfl (by kernel_rfl) (by kernel_rfl) ?_); simp only [List.take, List.drop]) | ((with_reducible refine vcondS ?_ (fun ht => ?_) (fun ht => ?_)); (focus (go_simp; done)); (all_goals (simp [go_sem] at ht; replace ht := ht.out))))
    go_simp
  · rw [if_neg hd]
    refine VC_of Try.func47 rfl (by kernel_rfl) (by kernel_rfl) rfl fun M0 w0 => ?_
    simp only [Try.ntmps47, Try.results47, enumA]
    repeat' (first | (with_reducible first | refine vseq ?_ | refine vthenN ?_ | refine vthenE ?_ | refine vthenR ?_ | refine vret ?_ | refine vskip ?_ | refine vexit ?_ | refine vblock ?_ | refine vblockN ?_ | refine vblockR ?_ | refine vblockH ?_ | refine vrun_nil ?_ | refine vblockE rfl ?_ | refine vregion [] ?_ | refine vhrun_nil ?_) | ((with_reducible refine vcondT ?_ ?_); (focus (go_simp; done))) | ((with_reducible refine vcondF ?_ ?_); (focus (go_simp; done))) | ((with_reducible first | refine vrun_cons fun KK hKK => ?_ | refine vhrun_cons fun KK hKK => ?_); go_simp; refine hKK _ ?_; clear hKK KK) | ((refine vdrawL 9 9 [] rfl (by kernel_rfl) (by kernel_rfl) ?_); simp only [List.take, List.drop]) | ((with_reducible refine vcondS ?_ (fun ht => ?_) (fun ht => ?_)); (focus (go_simp; done)); (all_goals (simp [go_sem] at ht; replace ht := ht.out))))
    go_simp
/-- The last number below n that has p, or d. -/
def lastP (p : Nat → Bool) (d : Nat) : Nat → Nat
  | 0 => d
  | n + 1 => if p n then n else lastP p d n
theorem lastP_lt {p : Nat → Bool} {d m : Nat} (hd : d < m) : ∀ {n : Nat}, n ≤ m → lastP p d n < m
  | 0, _ => hd
  | n + 1, h => by
    rw [lastP]
    split
    · omega
    · exact lastP_lt hd (by omega)
def isLe (l : List Pt) (x : Int) (k : Nat) : Bool := decide ((ptat l k).time ≤ x)
/-- The point that counts at a time of the day, and how long it is gone. -/
def pnt (l : List Pt) (x : Int) : Nat := lastP (isLe l x) (l.length - 1) l.length
def goneF (l : List Pt) (x : Int) (i : Nat) : Int := if x - (ptat l i).time < 0 then x - (ptat l i).time + 86400 else x - (ptat l i).time
def takesAt (e : Bool) (l : List Pt) (i : Nat) (g : Int) : Int := eV e (ptat l i) + ceilF ((eV e (ptat l ((i + 1) % l.length)) - eV e (ptat l i)) * g) (behD l i)
def takesF (e : Bool) (l : List Pt) (t : Int) : Int := takesAt e l (pnt l (t.tmod 86400)) (goneF l (t.tmod 86400) (pnt l (t.tmod 86400)))
theorem eV_rng {l : List Pt} (h : SmallP l) (e : Bool) {k : Nat} (hk : k < l.length) : 0 ≤ eV e (ptat l k) ∧ eV e (ptat l k) ≤ 7200 := by
  have := h.rng k hk
  cases e <;> simp only [eV] <;> omega
theorem mul_rng {a b : Int} (h1 : -7200 ≤ a) (h2 : a ≤ 7200) (h3 : 0 ≤ b) (h4 : b ≤ 200000) : -1440000000 ≤ a * b ∧ a * b ≤ 1440000000 := by
  have k1 : a * b ≤ 7200 * b := Int.mul_le_mul_of_nonneg_right h2 h3
  have k2 : (-7200) * b ≤ a * b := Int.mul_le_mul_of_nonneg_right h1 h3
  omega
theorem behD_rng {l : List Pt} (h : SmallP l) {k : Nat} (hk : k < l.length) : 0 < behD l k ∧ behD l k ≤ 172800 := by
  have r1 := h.rng k hk
  have r2 := h.rng _ (nx_lt h k)
  unfold behD
  split <;> omega
theorem goneF_rng {l : List Pt} (h : SmallP l) {k : Nat} (hk : k < l.length) {x : Int} (h0 : 0 ≤ x) (h1 : x < 86400) : 0 ≤ goneF l x k ∧ goneF l x k ≤ 86400 := by
  have r1 := h.rng k hk
  unfold goneF
  split <;> omega
theorem ceilF_rng {n d : Int} : -(n.natAbs : Int) ≤ ceilF n d ∧ ceilF n d ≤ n.natAbs + 1 := by
  have := tdiv_le n d
  unfold ceilF
  split <;> omega
theorem p_takes (r : Rd) (t : Int) (e : Bool) (h : SmallP r.pts) (t0 : 0 ≤ t) (_t1 : t ≤ 1000000000) : VC Try.prog 40 [roadA r, I t, endA e] (I (takesF e r.pts t)) := by
  have h0 := h.pos
  have hf := h.few
  obtain ⟨R, hR⟩ : ∃ R, takesF e r.pts t = R := ⟨_, rfl⟩
  rw [hR]
  have HR := Lib.hid hR
  clear hR
  have hx0 : 0 ≤ t.tmod 86400 ∧ t.tmod 86400 < 86400 := by
    have := tmod_lt t 86400 (by decide)
    have : t.tmod 86400 = t % 86400 := Int.tmod_eq_emod_of_nonneg t0
    omega
  obtain ⟨x, hx⟩ : ∃ x, t.tmod 86400 = x := ⟨_, rfl⟩
  rw [hx] at hx0
  have HX := Lib.hid hx0
  clear hx0
  have hw := wrap_eq (x := (r.pts.length : Int) - 1) (by omega) (by omega)
  have hl1 : ((r.pts.length : Int) - 1) = ((r.pts.length - 1 : Nat) : Int) := by omega
  rw [hl1] at hw
  have HH := Lib.hid h
  clear h
  refine VC_of Try.func40 rfl (by kernel_rfl) (by kernel_rfl) rfl fun M0 w0 => ?_
  simp only [Try.ntmps40, Try.results40, enumA]
  repeat' (first | (with_reducible first | refine vseq ?_ | refine vthenN ?_ | refine vthenE ?_ | refine vthenR ?_ | refine vret ?_ | refine vskip ?_ | refine vexit ?_ | refine vblock ?_ | refine vblockN ?_ | refine vblockR ?_ | refine vblockH ?_ | refine vrun_nil ?_ | refine vblockE rfl ?_ | refine vregion [] ?_ | refine vhrun_nil ?_) | ((with_reducible refine vcondT ?_ ?_); (focus (go_simp; done))) | ((with_reducible refine vcondF ?_ ?_); (focus (go_simp; done))) | ((with_reducible first | refine vrun_cons fun KK hKK => ?_ | refine vhrun_cons fun KK hKK => ?_); go_simp; refine hKK _ ?_; clear hKK KK) | ((with_reducible refine vcondS ?_ (fun ht => ?_) (fun ht => ?_)); (focus (go_simp; done)); (all_goals (simp [go_sem] at ht; replace ht := ht.out))))
  have hz : lastP (isLe r.pts x) (r.pts.length - 1) 0 = r.pts.length - 1 := rfl
  apply vcnt [2, 3, 7, 22, 23] (fun k => [(24, I (k : Int)), (8, I (lastP (isLe r.pts x) (r.pts.length - 1) k : Nat))]) (fun k => ([] : Hp))  (r.pts.length)
  · go_simp <;> exact rfl
  · go_simp
  clear hz
  · intro k hk K hK
    obtain ⟨w1, w2, w3, w4, w5, w6⟩ := ixs (m := k) (by omega)
    have hs : lastP (isLe r.pts x) (r.pts.length - 1) (k + 1) = if isLe r.pts x k then k else lastP (isLe r.pts x) (r.pts.length - 1) k := rfl
    have HS := Lib.hid hs
    clear hs
    generalize lastP (isLe r.pts x) (r.pts.length - 1) k = q at *
    by_cases hp : (ptat r.pts k).time ≤ x
    · repeat' (first | (with_reducible first | refine vseq ?_ | refine vthenN ?_ | refine vthenE ?_ | refine vthenR ?_ | refine vret ?_ | refine vskip ?_ | refine vexit ?_ | refine vblock ?_ | refine vblockN ?_ | refine vblockR ?_ | refine vblockH ?_ | refine vrun_nil ?_ | refine vblockE rfl ?_ | refine vregion [] ?_ | refine vhrun_nil ?_) | ((with_reducible refine vcondT ?_ ?_); (focus (go_simp; done))) | ((with_reducible refine vcondF ?_ ?_); (focus (go_simp; done))) | ((with_reducible first | refine vrun_cons fun KK hKK => ?_ | refine vhrun_cons fun KK hKK => ?_); go_simp; refine hKK _ ?_; clear hKK KK) | ((with_reducible refine vcondS ?_ (fun ht => ?_) (fun ht => ?_)); (focus (go_simp; done)); (all_goals (simp [go_sem] at ht; replace ht := ht.out))))
      refine hK _ ?_
      rw [HS.out, if_pos (by simpa [isLe] using hp)]
      go_simp
    · repeat' (first | (with_reducible first | refine vseq ?_ | refine vthenN ?_ | refine vthenE ?_ | refine vthenR ?_ | refine vret ?_ | refine vskip ?_ | refine vexit ?_ | refine vblock ?_ | refine vblockN ?_ | refine vblockR ?_ | refine vblockH ?_ | refine vrun_nil ?_ | refine vblockE rfl ?_ | refine vregion [] ?_ | refine vhrun_nil ?_) | ((with_reducible refine vcondT ?_ ?_); (focus (go_simp; done))) | ((with_reducible refine vcondF ?_ ?_); (focus (go_simp; done))) | ((with_reducible first | refine vrun_cons fun KK hKK => ?_ | refine vhrun_cons fun KK hKK => ?_); go_simp; refine hKK _ ?_; clear hKK KK) | ((with_reducible refine vcondS ?_ (fun ht => ?_) (fun ht => ?_)); (focus (go_simp; done)); (all_goals (simp [go_sem] at ht; replace ht := ht.out))))
      refine hK _ ?_
      rw [HS.out, if_neg (by simpa [isLe] using hp)]
      go_simp
  · intro K
    have hi : pnt r.pts x < r.pts.length := lastP_lt (by omega) (Nat.le_refl _)
    have e1 := HR.out
    unfold takesF at e1
    rw [hx] at e1
    change VWp _ _ _ _ _ _ ⟨_ :: (_, I (pnt r.pts x : Nat)) :: _, _⟩
    generalize pnt r.pts x = i at *
    have g1 := p_behind r.pts i HH.out hi
    have g2 := p_end e (ptat r.pts i)
    have g3 := p_end e (ptat r.pts ((i + 1) % r.pts.length))
    have r1 := eV_rng HH.out e hi
    have r2 := eV_rng HH.out e (nx_lt HH.out i)
    have r3 := behD_rng HH.out hi
    have r4 := goneF_rng HH.out hi HX.out.1 HX.out.2
    unfold takesAt goneF at e1
    unfold goneF at r4
    have r5 := HH.out.rng i hi
    have r6 := HX.out
    generalize (i + 1) % r.pts.length = m at *
    obtain ⟨P, hP⟩ : ∃ P, ptat r.pts i = P := ⟨_, rfl⟩
    rw [hP] at e1 g2 r1 r4 r5
    generalize ptat r.pts m = Q at *
    generalize behD r.pts i = D at *
    generalize eV e P = a at *
    generalize eV e Q = b at *
    have u1 := wrap_eq (x := x - P.time) (by omega) (by omega)
    have u2 := wrap_eq (x := x - P.time + 86400) (by omega) (by omega)
    have u3 := wrap_eq (x := b - a) (by omega) (by omega)
    by_cases hg : x - P.time < 0
    · rw [if_pos hg] at e1 r4
      have m1 := mul_rng (a := b - a) (b := x - P.time + 86400) (by omega) (by omega) r4.1 (by omega)
      have u4 := wrap_eq (x := (b - a) * (x - P.time + 86400)) (by omega) (by omega)
      have g4 := p_ceil ((b - a) * (x - P.time + 86400)) D (by omega) (by omega) r3.1 (by omega)
      have r7 := ceilF_rng (n := (b - a) * (x - P.time + 86400)) (d := D)
      generalize ceilF ((b - a) * (x - P.time + 86400)) D = C at *
      have u5 := wrap_eq (x := a + C) (by omega) (by omega)
      subst e1
      clear r1 r2 r3 r4 r5 r6 r7 m1
      repeat' (first | (with_reducible first | refine vseq ?_ | refine vthenN ?_ | refine vthenE ?_ | refine vthenR ?_ | refine vret ?_ | refine vskip ?_ | refine vexit ?_ | refine vblock ?_ | refine vblockN ?_ | refine vblockR ?_ | refine vblockH ?_ | refine vrun_nil ?_ | refine vblockE rfl ?_ | refine vregion [] ?_ | refine vhrun_nil ?_) | ((with_reducible refine vcondT ?_ ?_); (focus (go_simp; done))) | ((with_reducible refine vcondF ?_ ?_); (focus (go_simp; done))) | ((with_reducible first | refine vrun_cons fun KK hKK => ?_ | refine vhrun_cons fun KK hKK => ?_); go_simp; (first | (with_reducible refine ⟨_, g1, ?_⟩) | (with_reducible refine ⟨_, g2, ?_⟩) | (with_reducible refine ⟨_, g3, ?_⟩) | (with_reducible refine ⟨_, g4, ?_⟩) | skip); refine hKK _ ?_; clear hKK KK) | ((with_reducible refine vcondS ?_ (fun ht => ?_) (fun ht => ?_)); (focus (go_simp; done)); (all_goals (simp [go_sem] at ht; replace ht := ht.out))))
      go_simp
    · rw [if_neg hg] at e1 r4
      have m1 := mul_rng (a := b - a) (b := x - P.time) (by omega) (by omega) r4.1 (by omega)
      have u4 := wrap_eq (x := (b - a) * (x - P.time)) (by omega) (by omega)
      have g4 := p_ceil ((b - a) * (x - P.time)) D (by omega) (by omega) r3.1 (by omega)
      have r7 := ceilF_rng (n := (b - a) * (x - P.time)) (d := D)
      generalize ceilF ((b - a) * (x - P.time)) D = C at *
      have u5 := wrap_eq (x := a + C) (by omega) (by omega)
      subst e1
      clear r1 r2 r3 r4 r5 r6 r7 m1
      repeat' (first | (with_reducible first | refine vseq ?_ | refine vthenN ?_ | refine vthenE ?_ | refine vthenR ?_ | refine vret ?_ | refine vskip ?_ | refine vexit ?_ | refine vblock ?_ | refine vblockN ?_ | refine vblockR ?_ | refine vblockH ?_ | refine vrun_nil ?_ | refine vblockE rfl ?_ | refine vregion [] ?_ | refine vhrun_nil ?_) | ((with_reducible refine vcondT ?_ ?_); (focus (go_simp; done))) | ((with_reducible refine vcondF ?_ ?_); (focus (go_simp; done))) | ((with_reducible first | refine vrun_cons fun KK hKK => ?_ | refine vhrun_cons fun KK hKK => ?_); go_simp; (first | (with_reducible refine ⟨_, g1, ?_⟩) | (with_reducible refine ⟨_, g2, ?_⟩) | (with_reducible refine ⟨_, g3, ?_⟩) | (with_reducible refine ⟨_, g4, ?_⟩) | skip); refine hKK _ ?_; clear hKK KK) | ((with_reducible refine vcondS ?_ (fun ht => ?_) (fun ht => ?_)); (focus (go_simp; done)); (all_goals (simp [go_sem] at ht; replace ht := ht.out))))
      go_simp
end Go.Proofs.Ytcndlalhkkjocaa

/-! SYC: Walks on plain values: which roads and trips the reference calls right; nets of at most 1000 places and roads. -/
namespace Go.Proofs.Ytcndlalhkkjocaa
open Go.RowKit
set_option maxRecDepth 100000
set_option maxHeartbeats 1000000
abbrev zero3 : List Value := [.int .i64 0, .int .i64 0, .int .i64 0]
structure SmallN (n : Nt) : Prop where
  p : n.places.length ≤ 1000
  r : n.roads.length ≤ 1000
  pn : ∀ k, k < n.places.length → (tat n.places k).size ≤ 1000
  rn : ∀ k, k < n.roads.length → (rdat n.roads k).name.size ≤ 1000
  pt : ∀ k, k < n.roads.length → (rdat n.roads k).pts.length ≤ 100
@[go_sem] theorem RdAvE (x : Rd) : x.av = [S x.name, I x.src, I x.dst, I x.metres, .sl 3 (x.pts.map Pt.av)] := rfl
theorem ixm {m : Nat} (h0 : 0 < m) (h : m ≤ 1000000000) : IntKind.i64.wrap ((m : Int) - 1) = ((m - 1 : Nat) : Int) := by
  rw [wrap_eq (by omega) (by omega)]
  omega
theorem b_HasText (l : List ByteArray) (s : ByteArray) (hl : l.length ≤ 1000) : VC Try.prog 36 [.sl 1 (l.map txtA), S s] (B (anyP (isT l s) 0 l.length)) := by
  obtain ⟨R, hR⟩ : ∃ R, anyP (isT l s) 0 l.length = R := ⟨_, rfl⟩
  rw [hR]
  have HR := Lib.hid hR
  clear hR
  refine VC_of Try.func36 rfl (by kernel_rfl) (by kernel_rfl) rfl fun M0 w0 => ?_
  simp only [Try.ntmps36, Try.results36, enumA]
  repeat' (first | (with_reducible first | refine vseq ?_ | refine vthenN ?_ | refine vthenE ?_ | refine vthenR ?_ | refine vret ?_ | refine vskip ?_ | refine vexit ?_ | refine vblock ?_ | refine vblockN ?_ | refine vblockR ?_ | refine vblockH ?_ | refine vrun_nil ?_ | refine vblockE rfl ?_ | refine vregion [] ?_ | refine vhrun_nil ?_) | ((with_reducible refine vcondT ?_ ?_); (focus (go_simp; done))) | ((with_reducible refine vcondF ?_ ?_); (focus (go_simp; done))) | ((with_reducible first | refine vrun_cons fun KK hKK => ?_ | refine vhrun_cons fun KK hKK => ?_); go_simp; refine hKK _ ?_; clear hKK KK) | ((with_reducible refine vcondS ?_ (fun ht => ?_) (fun ht => ?_)); (focus (go_simp; done)); (all_goals (simp [go_sem] at ht; replace ht := ht.out))))
  apply vfor [0, 1] (fun k => [(5, I (k : Int))]) (fun k => ([] : Hp)) (isT l s) (l.length)
  · go_simp <;> exact rfl
  · go_simp
  · intro k hk hb hp K hK
    obtain ⟨w1, w2, w3, w4, w5, w6⟩ := ixs (m := k) (by omega)
    have h' : ¬ tat l k = s := by simpa [isT] using hp.out
    repeat' (first | (with_reducible first | refine vseq ?_ | refine vthenN ?_ | refine vthenE ?_ | refine vthenR ?_ | refine vret ?_ | refine vskip ?_ | refine vexit ?_ | refine vblock ?_ | refine vblockN ?_ | refine vblockR ?_ | refine vblockH ?_ | refine vrun_nil ?_ | refine vblockE rfl ?_ | refine vregion [] ?_ | refine vhrun_nil ?_) | ((with_reducible refine vcondT ?_ ?_); (focus (go_simp; done))) | ((with_reducible refine vcondF ?_ ?_); (focus (go_simp; done))) | ((with_reducible first | refine vrun_cons fun KK hKK => ?_ | refine vhrun_cons fun KK hKK => ?_); go_simp; refine hKK _ ?_; clear hKK KK) | ((with_reducible refine vcondS ?_ (fun ht => ?_) (fun ht => ?_)); (focus (go_simp; done)); (all_goals (simp [go_sem] at ht; replace ht := ht.out))))
    refine hK _ ?_
    go_simp
  · intro k hk hb hp K
    have h' : tat l k = s := by simpa [isT] using hp.out
    have e := HR.out
    rw [anyP_hit hk hp.out] at e
    subst e
    repeat' (first | (with_reducible first | refine vseq ?_ | refine vthenN ?_ | refine vthenE ?_ | refine vthenR ?_ | refine vret ?_ | refine vskip ?_ | refine vexit ?_ | refine vblock ?_ | refine vblockN ?_ | refine vblockR ?_ | refine vblockH ?_ | refine vrun_nil ?_ | refine vblockE rfl ?_ | refine vregion [] ?_ | refine vhrun_nil ?_) | ((with_reducible refine vcondT ?_ ?_); (focus (go_simp; done))) | ((with_reducible refine vcondF ?_ ?_); (focus (go_simp; done))) | ((with_reducible first | refine vrun_cons fun KK hKK => ?_ | refine vhrun_cons fun KK hKK => ?_); go_simp; refine hKK _ ?_; clear hKK KK) | ((with_reducible refine vcondS ?_ (fun ht => ?_) (fun ht => ?_)); (focus (go_simp; done)); (all_goals (simp [go_sem] at ht; replace ht := ht.out))))
    go_simp
  · intro hb K
    have e := HR.out
    rw [anyP_out hb.out] at e
    subst e
    repeat' (first | (with_reducible first | refine vseq ?_ | refine vthenN ?_ | refine vthenE ?_ | refine vthenR ?_ | refine vret ?_ | refine vskip ?_ | refine vexit ?_ | refine vblock ?_ | refine vblockN ?_ | refine vblockR ?_ | refine vblockH ?_ | refine vrun_nil ?_ | refine vblockE rfl ?_ | refine vregion [] ?_ | refine vhrun_nil ?_) | ((with_reducible refine vcondT ?_ ?_); (focus (go_simp; done))) | ((with_reducible refine vcondF ?_ ?_); (focus (go_simp; done))) | ((with_reducible first | refine vrun_cons fun KK hKK => ?_ | refine vhrun_cons fun KK hKK => ?_); go_simp; refine hKK _ ?_; clear hKK KK) | ((with_reducible refine vcondS ?_ (fun ht => ?_) (fun ht => ?_)); (focus (go_simp; done)); (all_goals (simp [go_sem] at ht; replace ht := ht.out))))
    go_simp
theorem r_IsPlace (n : Nt) (k : Int) (h : n.places.length ≤ 1000) : VC Try.prog 19 [netA n, I k] (B (isPl n k)) := by
  have hw := wrap_eq (x := (n.places.length : Int) - 1) (by omega) (by omega)
  refine VC_of Try.func19 rfl (by kernel_rfl) (by kernel_rfl) rfl fun M0 w0 => ?_
  simp only [Try.ntmps19, Try.results19, enumA]
  repeat' (first | (with_reducible first | refine vseq ?_ | refine vthenN ?_ | refine vthenE ?_ | refine vthenR ?_ | refine vret ?_ | refine vskip ?_ | refine vexit ?_ | refine vblock ?_ | refine vblockN ?_ | refine vblockR ?_ | refine vblockH ?_ | refine vrun_nil ?_ | refine vblockE rfl ?_ | refine vregion [] ?_ | refine vhrun_nil ?_) | ((with_reducible refine vcondT ?_ ?_); (focus (go_simp; done))) | ((with_reducible refine vcondF ?_ ?_); (focus (go_simp; done))) | ((with_reducible first | refine vrun_cons fun KK hKK => ?_ | refine vhrun_cons fun KK hKK => ?_); go_simp; (first | (with_reducible refine ⟨_, b_within _ _ _, ?_⟩) | skip); refine hKK _ ?_; clear hKK KK) | ((with_reducible refine vcondS ?_ (fun ht => ?_) (fun ht => ?_)); (focus (go_simp; done)); (all_goals (simp [go_sem] at ht; replace ht := ht.out))))
  all_goals (first | (go_simp; done) | (go_simp; first | (simp [isPl, *]; done) | (simp [isPl, *]; omega) | (simp [isPl, ] at *; omega) | (rfl)))
/-- A trip. -/
structure Tr where
  src : Int
  dst : Int
  at_ : Int
abbrev tripA (t : Tr) : AV := .agg [I t.src, I t.dst, I t.at_]
def tripE (n : Nt) (t : Tr) : Int := if isPl n t.src = false ∨ isPl n t.dst = false then 6 else if inR t.at_ 0 604800 = true then 0 else 2
theorem r_roadErr (n : Nt) (i : Nat) (h : SmallN n) (hi : i < n.roads.length) : VC Try.prog 37 [netA n, I (i : Int)] (.tup [I ((rdE n i).1 : Nat), I (rdE n i).2]) := by
  have hr := h.r
  have hp1 := h.p
  have g1 := b_isName (rdat n.roads i).name (by have := h.rn i hi; omega)
  have g2 := r_IsPlace n (rdat n.roads i).src hp1
  have g3 := r_IsPlace n (rdat n.roads i).dst hp1
  have g4 := b_within (rdat n.roads i).metres 0 100000
  have hpt := h.pt i hi
  clear h hp1
  obtain ⟨w1, w2, w3, w4, w5, w6⟩ := ixs (m := i) (by omega)
  obtain ⟨E, hE⟩ : ∃ E, rdE n i = E := ⟨_, rfl⟩
  rw [hE]
  unfold rdE rdH at hE
  obtain ⟨R, hR⟩ : ∃ R, rdat n.roads i = R := ⟨_, rfl⟩
  rw [hR] at hE g1 g2 g3 g4 hpt
  generalize isName R.name = b1 at *
  generalize isPl n R.src = b2 at *
  generalize isPl n R.dst = b3 at *
  generalize inR R.metres 0 100000 = b4 at *
  have HE := Lib.hid hE
  clear hE
  refine VC_of Try.func37 rfl (by kernel_rfl) (by kernel_rfl) rfl fun M0 w0 => ?_
  simp only [Try.ntmps37, Try.results37, enumA]
  cases b1
  · have e := HE.out
    simp at e
    subst e
    repeat' (first | (with_reducible first | refine vseq ?_ | refine vthenN ?_ | refine vthenE ?_ | refine vthenR ?_ | refine vret ?_ | refine vskip ?_ | refine vexit ?_ | refine vblock ?_ | refine vblockN ?_ | refine vblockR ?_ | refine vblockH ?_ | refine vrun_nil ?_ | refine vblockE rfl ?_ | refine vregion [] ?_ | refine vhrun_nil ?_) | ((with_reducible refine vcondT ?_ ?_); (focus (go_simp; done))) | ((with_reducible refine vcondF ?_ ?_); (focus (go_simp; done))) | ((with_reducible first | refine vrun_cons fun KK hKK => ?_ | refine vhrun_cons fun KK hKK => ?_); go_simp; (first | (with_reducible refine ⟨_, g1, ?_⟩) | skip); refine hKK _ ?_; clear hKK KK) | ((refine vdrawL 9 9 [] rfl (by kernel_rfl) (by kernel_rfl) ?_); simp only [List.append, List.take, List.drop]) | ((refine vdrawL 19 19 [] rfl (by kernel_rfl) (by kernel_rfl) ?_); simp only [List.append, List.take, List.drop]) | ((refine vdrawL 23 23 [] rfl (by kernel_rfl) (by kernel_rfl) ?_); simp only [List.append, List.take, List.drop]) | ((with_reducible refine vcondS ?_ (fun ht => ?_) (fun ht => ?_)); (focus (go_simp; done)); (all_goals (simp [go_sem] at ht; replace ht := ht.out))) | ((apply vrun_consG0 rfl); (focus (go_simp <;> exact rfl)); (focus (go_simp; done)); (focus (intro hb0; replace hb0 := hb0.out; go_simp <;> (first | exact rfl | exact g1 | exact ⟨g1, rfl⟩))); intro KK hKK; go_simp; refine hKK _ ?_; clear hKK KK) | ((apply vhrun_consG0 rfl); (focus (go_simp <;> exact rfl)); (focus (intro hb0; replace hb0 := hb0.out; go_simp <;> (first | exact rfl | exact g1 | exact ⟨g1, rfl⟩))); intro KK hKK; go_simp; refine hKK _ ?_; clear hKK KK) | ((apply vrun_consG1 rfl); (focus (go_simp <;> exact rfl)); (focus (go_simp; done)); (focus (intro hb0 hb1; replace hb0 := hb0.out; replace hb1 := hb1.out; go_simp <;> (first | exact rfl | exact g1 | exact ⟨g1, rfl⟩))); intro KK hKK; go_simp; refine hKK _ ?_; clear hKK KK) | ((apply vhrun_consG1 rfl); (focus (go_simp <;> exact rfl)); (focus (intro hb0 hb1; replace hb0 := hb0.out; replace hb1 := hb1.out; go_simp <;> (first | exact rfl | exact g1 | exact ⟨g1, rfl⟩))); intro KK hKK; go_simp; refine hKK _ ?_; clear hKK KK))
    go_simp
  repeat' (first | (with_reducible first | refine vseq ?_ | refine vthenN ?_ | refine vthenE ?_ | refine vthenR ?_ | refine vret ?_ | refine vskip ?_ | refine vexit ?_ | refine vblock ?_ | refine vblockN ?_ | refine vblockR ?_ | refine vblockH ?_ | refine vrun_nil ?_ | refine vblockE rfl ?_ | refine vregion [] ?_ | refine vhrun_nil ?_) | ((with_reducible refine vcondT ?_ ?_); (focus (go_simp; done))) | ((with_reducible refine vcondF ?_ ?_); (focus (go_simp; done))) | ((with_reducible first | refine vrun_cons fun KK hKK => ?_ | refine vhrun_cons fun KK hKK => ?_); go_simp; (first | (with_reducible refine ⟨_, g1, ?_⟩) | skip); refine hKK _ ?_; clear hKK KK) | ((refine vdrawL 9 9 [] rfl (by kernel_rfl) (by kernel_rfl) ?_); simp only [List.append, List.take, List.drop]) | ((refine vdrawL 19 19 [] rfl (by kernel_rfl) (by kernel_rfl) ?_); simp only [List.append, List.take, List.drop]) | ((refine vdrawL 23 23 [] rfl (by kernel_rfl) (by kernel_rfl) ?_); simp only [List.append, List.take, List.drop]) | ((with_reducible refine vcondS ?_ (fun ht => ?_) (fun ht => ?_)); (focus (go_simp; done)); (all_goals (simp [go_sem] at ht; replace ht := ht.out))) | ((apply vrun_consG0 rfl); (focus (go_simp <;> exact rfl)); (focus (go_simp; done)); (focus (intro hb0; replace hb0 := hb0.out; go_simp <;> (first | exact rfl | exact g1 | exact ⟨g1, rfl⟩))); intro KK hKK; go_simp; refine hKK _ ?_; clear hKK KK) | ((apply vhrun_consG0 rfl); (focus (go_simp <;> exact rfl)); (focus (intro hb0; replace hb0 := hb0.out; go_simp <;> (first | exact rfl | exact g1 | exact ⟨g1, rfl⟩))); intro KK hKK; go_simp; refine hKK _ ?_; clear hKK KK) | ((apply vrun_consG1 rfl); (focus (go_simp <;> exact rfl)); (focus (go_simp; done)); (focus (intro hb0 hb1; replace hb0 := hb0.out; replace hb1 := hb1.out; go_simp <;> (first | exact rfl | exact g1 | exact ⟨g1, rfl⟩))); intro KK hKK; go_simp; refine hKK _ ?_; clear hKK KK) | ((apply vhrun_consG1 rfl); (focus (go_simp <;> exact rfl)); (focus (intro hb0 hb1; replace hb0 := hb0.out; replace hb1 := hb1.out; go_simp <;> (first | exact rfl | exact g1 | exact ⟨g1, rfl⟩))); intro KK hKK; go_simp; refine hKK _ ?_; clear hKK KK))
  apply vfor [1, 2, 6] (fun k => [(7, I (k : Int))]) (fun k => ([some (.box R.av)] : Hp)) (isN n.roads R.name) (i)
  · go_simp <;> exact rfl
  · go_simp
  · intro k hk hb hp K hK
    obtain ⟨v1, v2, v3, v4, v5, v6⟩ := ixs (m := k) (by omega)
    have hkr : k < n.roads.length := by omega
    have h' : ¬ (rdat n.roads k).name = R.name := by simpa [isN] using hp.out
    repeat' (first | (with_reducible first | refine vseq ?_ | refine vthenN ?_ | refine vthenE ?_ | refine vthenR ?_ | refine vret ?_ | refine vskip ?_ | refine vexit ?_ | refine vblock ?_ | refine vblockN ?_ | refine vblockR ?_ | refine vblockH ?_ | refine vrun_nil ?_ | refine vblockE rfl ?_ | refine vregion [] ?_ | refine vhrun_nil ?_) | ((with_reducible refine vcondT ?_ ?_); (focus (go_simp; done))) | ((with_reducible refine vcondF ?_ ?_); (focus (go_simp; done))) | ((with_reducible first | refine vrun_cons fun KK hKK => ?_ | refine vhrun_cons fun KK hKK => ?_); go_simp; refine hKK _ ?_; clear hKK KK) | ((refine vdrawL 9 9 [] rfl (by kernel_rfl) (by kernel_rfl) ?_); simp only [List.take, List.drop]) | ((refine vdrawL 19 19 [] rfl (by kernel_rfl) (by kernel_rfl) ?_); simp only [List.append, List.take, List.drop]) | ((refine vdrawL 23 23 [] rfl (by kernel_rfl) (by kernel_rfl) ?_); simp only [List.append, List.take, List.drop]) | ((with_reducible refine vcondS ?_ (fun ht => ?_) (fun ht => ?_)); (focus (go_simp; done)); (all_goals (simp [go_sem] at ht; replace ht := ht.out))) | ((apply vrun_consG0 rfl); (focus (go_simp <;> exact rfl)); (focus (go_simp; done)); (focus (intro hb0; replace hb0 := hb0.out; go_simp <;> (first | exact rfl))); intro KK hKK; go_simp; refine hKK _ ?_; clear hKK KK) | ((apply vhrun_consG0 rfl); (focus (go_simp <;> exact rfl)); (focus (intro hb0; replace hb0 := hb0.out; go_simp <;> (first | exact rfl))); intro KK hKK; go_simp; refine hKK _ ?_; clear hKK KK) | ((apply vrun_consG1 rfl); (focus (go_simp <;> exact rfl)); (focus (go_simp; done)); (focus (intro hb0 hb1; replace hb0 := hb0.out; replace hb1 := hb1.out; go_simp <;> (first | exact rfl))); intro KK hKK; go_simp; refine hKK _ ?_; clear hKK KK) | ((apply vhrun_consG1 rfl); (focus (go_simp <;> exact rfl)); (focus (intro hb0 hb1; replace hb0 := hb0.out; replace hb1 := hb1.out; go_simp <;> (first | exact rfl))); intro KK hKK; go_simp; refine hKK _ ?_; clear hKK KK))
    refine hK _ ?_
    go_simp
  · intro k hk hb hp K
    have hkr : k < n.roads.length := by omega
    have h' : (rdat n.roads k).name = R.name := by simpa [isN] using hp.out
    have e := HE.out
    rw [anyP_hit hk hp.out] at e
    simp at e
    subst e
    repeat' (first | (with_reducible first | refine vseq ?_ | refine vthenN ?_ | refine vthenE ?_ | refine vthenR ?_ | refine vret ?_ | refine vskip ?_ | refine vexit ?_ | refine vblock ?_ | refine vblockN ?_ | refine vblockR ?_ | refine vblockH ?_ | refine vrun_nil ?_ | refine vblockE rfl ?_ | refine vregion [] ?_ | refine vhrun_nil ?_) | ((with_reducible refine vcondT ?_ ?_); (focus (go_simp; done))) | ((with_reducible refine vcondF ?_ ?_); (focus (go_simp; done))) | ((with_reducible first | refine vrun_cons fun KK hKK => ?_ | refine vhrun_cons fun KK hKK => ?_); go_simp; refine hKK _ ?_; clear hKK KK) | ((refine vdrawL 9 9 [] rfl (by kernel_rfl) (by kernel_rfl) ?_); simp only [List.take, List.drop]) | ((refine vdrawL 19 19 [] rfl (by kernel_rfl) (by kernel_rfl) ?_); simp only [List.append, List.take, List.drop]) | ((refine vdrawL 23 23 [] rfl (by kernel_rfl) (by kernel_rfl) ?_); simp only [List.append, List.take, List.drop]) | ((with_reducible refine vcondS ?_ (fun ht => ?_) (fun ht => ?_)); (focus (go_simp; done)); (all_goals (simp [go_sem] at ht; replace ht := ht.out))) | ((apply vrun_consG0 rfl); (focus (go_simp <;> exact rfl)); (focus (go_simp; done)); (focus (intro hb0; replace hb0 := hb0.out; go_simp <;> (first | exact rfl))); intro KK hKK; go_simp; refine hKK _ ?_; clear hKK KK) | ((apply vhrun_consG0 rfl); (focus (go_simp <;> exact rfl)); (focus (intro hb0; replace hb0 := hb0.out; go_simp <;> (first | exact rfl))); intro KK hKK; go_simp; refine hKK _ ?_; clear hKK KK) | ((apply vrun_consG1 rfl); (focus (go_simp <;> exact rfl)); (focus (go_simp; done)); (focus (intro hb0 hb1; replace hb0 := hb0.out; replace hb1 := hb1.out; go_simp <;> (first | exact rfl))); intro KK hKK; go_simp; refine hKK _ ?_; clear hKK KK) | ((apply vhrun_consG1 rfl); (focus (go_simp <;> exact rfl)); (focus (intro hb0 hb1; replace hb0 := hb0.out; replace hb1 := hb1.out; go_simp <;> (first | exact rfl))); intro KK hKK; go_simp; refine hKK _ ?_; clear hKK KK))
    go_simp
  intro hb K
  have e := HE.out
  rw [anyP_out hb.out] at e
  clear hb
  have HE := Lib.hid e
  clear e
  cases b2
  · have e := HE.out
    simp at e
    subst e
    repeat' (first | (with_reducible first | refine vseq ?_ | refine vthenN ?_ | refine vthenE ?_ | refine vthenR ?_ | refine vret ?_ | refine vskip ?_ | refine vexit ?_ | refine vblock ?_ | refine vblockN ?_ | refine vblockR ?_ | refine vblockH ?_ | refine vrun_nil ?_ | refine vblockE rfl ?_ | refine vregion [] ?_ | refine vhrun_nil ?_) | ((with_reducible refine vcondT ?_ ?_); (focus (go_simp; done))) | ((with_reducible refine vcondF ?_ ?_); (focus (go_simp; done))) | ((with_reducible first | refine vrun_cons fun KK hKK => ?_ | refine vhrun_cons fun KK hKK => ?_); go_simp; (first | (with_reducible refine ⟨_, g1, ?_⟩) | (with_reducible refine ⟨_, g2, ?_⟩) | (with_reducible refine ⟨_, g3, ?_⟩) | skip); refine hKK _ ?_; clear hKK KK) | ((refine vdrawL 9 9 [] rfl (by kernel_rfl) (by kernel_rfl) ?_); simp only [List.append, List.take, List.drop]) | ((refine vdrawL 19 19 [] rfl (by kernel_rfl) (by kernel_rfl) ?_); simp only [List.append, List.take, List.drop]) | ((refine vdrawL 23 23 [] rfl (by kernel_rfl) (by kernel_rfl) ?_); simp only [List.append, List.take, List.drop]) | ((with_reducible refine vcondS ?_ (fun ht => ?_) (fun ht => ?_)); (focus (go_simp; done)); (all_goals (simp [go_sem] at ht; replace ht := ht.out))) | ((apply vrun_consG0 rfl); (focus (go_simp <;> exact rfl)); (focus (go_simp; done)); (focus (intro hb0; replace hb0 := hb0.out; go_simp <;> (first | exact rfl | exact g1 | exact g2 | exact g3 | exact ⟨g1, rfl⟩ | exact ⟨g2, rfl⟩ | exact ⟨g3, rfl⟩))); intro KK hKK; go_simp; refine hKK _ ?_; clear hKK KK) | ((apply vhrun_consG0 rfl); (focus (go_simp <;> exact rfl)); (focus (intro hb0; replace hb0 := hb0.out; go_simp <;> (first | exact rfl | exact g1 | exact g2 | exact g3 | exact ⟨g1, rfl⟩ | exact ⟨g2, rfl⟩ | exact ⟨g3, rfl⟩))); intro KK hKK; go_simp; refine hKK _ ?_; clear hKK KK) | ((apply vrun_consG1 rfl); (focus (go_simp <;> exact rfl)); (focus (go_simp; done)); (focus (intro hb0 hb1; replace hb0 := hb0.out; replace hb1 := hb1.out; go_simp <;> (first | exact rfl | exact g1 | exact g2 | exact g3 | exact ⟨g1, rfl⟩ | exact ⟨g2, rfl⟩ | exact ⟨g3, rfl⟩))); intro KK hKK; go_simp; refine hKK _ ?_; clear hKK KK) | ((apply vhrun_consG1 rfl); (focus (go_simp <;> exact rfl)); (focus (intro hb0 hb1; replace hb0 := hb0.out; replace hb1 := hb1.out; go_simp <;> (first | exact rfl | exact g1 | exact g2 | exact g3 | exact ⟨g1, rfl⟩ | exact ⟨g2, rfl⟩ | exact ⟨g3, rfl⟩))); intro KK hKK; go_simp; refine hKK _ ?_; clear hKK KK))
    go_simp
  cases b3
  · have e := HE.out
    simp at e
    subst e
    repeat' (first | (with_reducible first | refine vseq ?_ | refine vthenN ?_ | refine vthenE ?_ | refine vthenR ?_ | refine vret ?_ | refine vskip ?_ | refine vexit ?_ | refine vblock ?_ | refine vblockN ?_ | refine vblockR ?_ | refine vblockH ?_ | refine vrun_nil ?_ | refine vblockE rfl ?_ | refine vregion [] ?_ | refine vhrun_nil ?_) | ((with_reducible refine vcondT ?_ ?_); (focus (go_simp; done))) | ((with_reducible refine vcondF ?_ ?_); (focus (go_simp; done))) | ((with_reducible first | refine vrun_cons fun KK hKK => ?_ | refine vhrun_cons fun KK hKK => ?_); go_simp; (first | (with_reducible refine ⟨_, g1, ?_⟩) | (with_reducible refine ⟨_, g2, ?_⟩) | (with_reducible refine ⟨_, g3, ?_⟩) | skip); refine hKK _ ?_; clear hKK KK) | ((refine vdrawL 9 9 [] rfl (by kernel_rfl) (by kernel_rfl) ?_); simp only [List.append, List.take, List.drop]) | ((refine vdrawL 19 19 [] rfl (by kernel_rfl) (by kernel_rfl) ?_); simp only [List.append, List.take, List.drop]) | ((refine vdrawL 23 23 [] rfl (by kernel_rfl) (by kernel_rfl) ?_); simp only [List.append, List.take, List.drop]) | ((with_reducible refine vcondS ?_ (fun ht => ?_) (fun ht => ?_)); (focus (go_simp; done)); (all_goals (simp [go_sem] at ht; replace ht := ht.out))) | ((apply vrun_consG0 rfl); (focus (go_simp <;> exact rfl)); (focus (go_simp; done)); (focus (intro hb0; replace hb0 := hb0.out; go_simp <;> (first | exact rfl | exact g1 | exact g2 | exact g3 | exact ⟨g1, rfl⟩ | exact ⟨g2, rfl⟩ | exact ⟨g3, rfl⟩))); intro KK hKK; go_simp; refine hKK _ ?_; clear hKK KK) | ((apply vhrun_consG0 rfl); (focus (go_simp <;> exact rfl)); (focus (intro hb0; replace hb0 := hb0.out; go_simp <;> (first | exact rfl | exact g1 | exact g2 | exact g3 | exact ⟨g1, rfl⟩ | exact ⟨g2, rfl⟩ | exact ⟨g3, rfl⟩))); intro KK hKK; go_simp; refine hKK _ ?_; clear hKK KK) | ((apply vrun_consG1 rfl); (focus (go_simp <;> exact rfl)); (focus (go_simp; done)); (focus (intro hb0 hb1; replace hb0 := hb0.out; replace hb1 := hb1.out; go_simp <;> (first | exact rfl | exact g1 | exact g2 | exact g3 | exact ⟨g1, rfl⟩ | exact ⟨g2, rfl⟩ | exact ⟨g3, rfl⟩))); intro KK hKK; go_simp; refine hKK _ ?_; clear hKK KK) | ((apply vhrun_consG1 rfl); (focus (go_simp <;> exact rfl)); (focus (intro hb0 hb1; replace hb0 := hb0.out; replace hb1 := hb1.out; go_simp <;> (first | exact rfl | exact g1 | exact g2 | exact g3 | exact ⟨g1, rfl⟩ | exact ⟨g2, rfl⟩ | exact ⟨g3, rfl⟩))); intro KK hKK; go_simp; refine hKK _ ?_; clear hKK KK))
    go_simp
  by_cases hsd : R.src = R.dst
  · have e := HE.out
    simp [hsd] at e
    subst e
    repeat' (first | (with_reducible first | refine vseq ?_ | refine vthenN ?_ | refine vthenE ?_ | refine vthenR ?_ | refine vret ?_ | refine vskip ?_ | refine vexit ?_ | refine vblock ?_ | refine vblockN ?_ | refine vblockR ?_ | refine vblockH ?_ | refine vrun_nil ?_ | refine vblockE rfl ?_ | refine vregion [] ?_ | refine vhrun_nil ?_) | ((with_reducible refine vcondT ?_ ?_); (focus (go_simp; done))) | ((with_reducible refine vcondF ?_ ?_); (focus (go_simp; done))) | ((with_reducible first | refine vrun_cons fun KK hKK => ?_ | refine vhrun_cons fun KK hKK => ?_); go_simp; (first | (with_reducible refine ⟨_, g1, ?_⟩) | (with_reducible refine ⟨_, g2, ?_⟩) | (with_reducible refine ⟨_, g3, ?_⟩) | skip); refine hKK _ ?_; clear hKK KK) | ((refine vdrawL 9 9 [] rfl (by kernel_rfl) (by kernel_rfl) ?_); simp only [List.append, List.take, List.drop]) | ((refine vdrawL 19 19 [] rfl (by kernel_rfl) (by kernel_rfl) ?_); simp only [List.append, List.take, List.drop]) | ((refine vdrawL 23 23 [] rfl (by kernel_rfl) (by kernel_rfl) ?_); simp only [List.append, List.take, List.drop]) | ((with_reducible refine vcondS ?_ (fun ht => ?_) (fun ht => ?_)); (focus (go_simp; done)); (all_goals (simp [go_sem] at ht; replace ht := ht.out))) | ((apply vrun_consG0 rfl); (focus (go_simp <;> exact rfl)); (focus (go_simp; done)); (focus (intro hb0; replace hb0 := hb0.out; go_simp <;> (first | exact rfl | exact g1 | exact g2 | exact g3 | exact ⟨g1, rfl⟩ | exact ⟨g2, rfl⟩ | exact ⟨g3, rfl⟩))); intro KK hKK; go_simp; refine hKK _ ?_; clear hKK KK) | ((apply vhrun_consG0 rfl); (focus (go_simp <;> exact rfl)); (focus (intro hb0; replace hb0 := hb0.out; go_simp <;> (first | exact rfl | exact g1 | exact g2 | exact g3 | exact ⟨g1, rfl⟩ | exact ⟨g2, rfl⟩ | exact ⟨g3, rfl⟩))); intro KK hKK; go_simp; refine hKK _ ?_; clear hKK KK) | ((apply vrun_consG1 rfl); (focus (go_simp <;> exact rfl)); (focus (go_simp; done)); (focus (intro hb0 hb1; replace hb0 := hb0.out; replace hb1 := hb1.out; go_simp <;> (first | exact rfl | exact g1 | exact g2 | exact g3 | exact ⟨g1, rfl⟩ | exact ⟨g2, rfl⟩ | exact ⟨g3, rfl⟩))); intro KK hKK; go_simp; refine hKK _ ?_; clear hKK KK) | ((apply vhrun_consG1 rfl); (focus (go_simp <;> exact rfl)); (focus (intro hb0 hb1; replace hb0 := hb0.out; replace hb1 := hb1.out; go_simp <;> (first | exact rfl | exact g1 | exact g2 | exact g3 | exact ⟨g1, rfl⟩ | exact ⟨g2, rfl⟩ | exact ⟨g3, rfl⟩))); intro KK hKK; go_simp; refine hKK _ ?_; clear hKK KK))
    go_simp
  cases b4
  · have e := HE.out
    simp [hsd] at e
    subst e
    repeat' (first | (with_reducible first | refine vseq ?_ | refine vthenN ?_ | refine vthenE ?_ | refine vthenR ?_ | refine vret ?_ | refine vskip ?_ | refine vexit ?_ | refine vblock ?_ | refine vblockN ?_ | refine vblockR ?_ | refine vblockH ?_ | refine vrun_nil ?_ | refine vblockE rfl ?_ | refine vregion [] ?_ | refine vhrun_nil ?_) | ((with_reducible refine vcondT ?_ ?_); (focus (go_simp; done))) | ((with_reducible refine vcondF ?_ ?_); (focus (go_simp; done))) | ((with_reducible first | refine vrun_cons fun KK hKK => ?_ | refine vhrun_cons fun KK hKK => ?_); go_simp; (first | (with_reducible refine ⟨_, g1, ?_⟩) | (with_reducible refine ⟨_, g2, ?_⟩) | (with_reducible refine ⟨_, g3, ?_⟩) | (with_reducible refine ⟨_, g4, ?_⟩) | skip); refine hKK _ ?_; clear hKK KK) | ((refine vdrawL 9 9 [] rfl (by kernel_rfl) (by kernel_rfl) ?_); simp only [List.append, List.take, List.drop]) | ((refine vdrawL 19 19 [] rfl (by kernel_rfl) (by kernel_rfl) ?_); simp only [List.append, List.take, List.drop]) | ((refine vdrawL 23 23 [] rfl (by kernel_rfl) (by kernel_rfl) ?_); simp only [List.append, List.take, List.drop]) | ((with_reducible refine vcondS ?_ (fun ht => ?_) (fun ht => ?_)); (focus (go_simp; done)); (all_goals (simp [go_sem] at ht; replace ht := ht.out))) | ((apply vrun_consG0 rfl); (focus (go_simp <;> exact rfl)); (focus (go_simp; done)); (focus (intro hb0; replace hb0 := hb0.out; go_simp <;> (first | exact rfl | exact g1 | exact g2 | exact g3 | exact g4 | exact ⟨g1, rfl⟩ | exact ⟨g2, rfl⟩ | exact ⟨g3, rfl⟩ | exact ⟨g4, rfl⟩))); intro KK hKK; go_simp; refine hKK _ ?_; clear hKK KK) | ((apply vhrun_consG0 rfl); (focus (go_simp <;> exact rfl)); (focus (intro hb0; replace hb0 := hb0.out; go_simp <;> (first | exact rfl | exact g1 | exact g2 | exact g3 | exact g4 | exact ⟨g1, rfl⟩ | exact ⟨g2, rfl⟩ | exact ⟨g3, rfl⟩ | exact ⟨g4, rfl⟩))); intro KK hKK; go_simp; refine hKK _ ?_; clear hKK KK) | ((apply vrun_consG1 rfl); (focus (go_simp <;> exact rfl)); (focus (go_simp; done)); (focus (intro hb0 hb1; replace hb0 := hb0.out; replace hb1 := hb1.out; go_simp <;> (first | exact rfl | exact g1 | exact g2 | exact g3 | exact g4 | exact ⟨g1, rfl⟩ | exact ⟨g2, rfl⟩ | exact ⟨g3, rfl⟩ | exact ⟨g4, rfl⟩))); intro KK hKK; go_simp; refine hKK _ ?_; clear hKK KK) | ((apply vhrun_consG1 rfl); (focus (go_simp <;> exact rfl)); (focus (intro hb0 hb1; replace hb0 := hb0.out; replace hb1 := hb1.out; go_simp <;> (first | exact rfl | exact g1 | exact g2 | exact g3 | exact g4 | exact ⟨g1, rfl⟩ | exact ⟨g2, rfl⟩ | exact ⟨g3, rfl⟩ | exact ⟨g4, rfl⟩))); intro KK hKK; go_simp; refine hKK _ ?_; clear hKK KK))
    go_simp
  by_cases h0 : R.pts = []
  · have e := HE.out
    simp [hsd, h0] at e
    subst e
    repeat' (first | (with_reducible first | refine vseq ?_ | refine vthenN ?_ | refine vthenE ?_ | refine vthenR ?_ | refine vret ?_ | refine vskip ?_ | refine vexit ?_ | refine vblock ?_ | refine vblockN ?_ | refine vblockR ?_ | refine vblockH ?_ | refine vrun_nil ?_ | refine vblockE rfl ?_ | refine vregion [] ?_ | refine vhrun_nil ?_) | ((with_reducible refine vcondT ?_ ?_); (focus (go_simp; done))) | ((with_reducible refine vcondF ?_ ?_); (focus (go_simp; done))) | ((with_reducible first | refine vrun_cons fun KK hKK => ?_ | refine vhrun_cons fun KK hKK => ?_); go_simp; (first | (with_reducible refine ⟨_, g1, ?_⟩) | (with_reducible refine ⟨_, g2, ?_⟩) | (with_reducible refine ⟨_, g3, ?_⟩) | (with_reducible refine ⟨_, g4, ?_⟩) | skip); refine hKK _ ?_; clear hKK KK) | ((refine vdrawL 9 9 [] rfl (by kernel_rfl) (by kernel_rfl) ?_); simp only [List.append, List.take, List.drop]) | ((refine vdrawL 19 19 [] rfl (by kernel_rfl) (by kernel_rfl) ?_); simp only [List.append, List.take, List.drop]) | ((refine vdrawL 23 23 [] rfl (by kernel_rfl) (by kernel_rfl) ?_); simp only [List.append, List.take, List.drop]) | ((with_reducible refine vcondS ?_ (fun ht => ?_) (fun ht => ?_)); (focus (go_simp; done)); (all_goals (simp [go_sem] at ht; replace ht := ht.out))) | ((apply vrun_consG0 rfl); (focus (go_simp <;> exact rfl)); (focus (go_simp; done)); (focus (intro hb0; replace hb0 := hb0.out; go_simp <;> (first | exact rfl | exact g1 | exact g2 | exact g3 | exact g4 | exact ⟨g1, rfl⟩ | exact ⟨g2, rfl⟩ | exact ⟨g3, rfl⟩ | exact ⟨g4, rfl⟩))); intro KK hKK; go_simp; refine hKK _ ?_; clear hKK KK) | ((apply vhrun_consG0 rfl); (focus (go_simp <;> exact rfl)); (focus (intro hb0; replace hb0 := hb0.out; go_simp <;> (first | exact rfl | exact g1 | exact g2 | exact g3 | exact g4 | exact ⟨g1, rfl⟩ | exact ⟨g2, rfl⟩ | exact ⟨g3, rfl⟩ | exact ⟨g4, rfl⟩))); intro KK hKK; go_simp; refine hKK _ ?_; clear hKK KK) | ((apply vrun_consG1 rfl); (focus (go_simp <;> exact rfl)); (focus (go_simp; done)); (focus (intro hb0 hb1; replace hb0 := hb0.out; replace hb1 := hb1.out; go_simp <;> (first | exact rfl | exact g1 | exact g2 | exact g3 | exact g4 | exact ⟨g1, rfl⟩ | exact ⟨g2, rfl⟩ | exact ⟨g3, rfl⟩ | exact ⟨g4, rfl⟩))); intro KK hKK; go_simp; refine hKK _ ?_; clear hKK KK) | ((apply vhrun_consG1 rfl); (focus (go_simp <;> exact rfl)); (focus (intro hb0 hb1; replace hb0 := hb0.out; replace hb1 := hb1.out; go_simp <;> (first | exact rfl | exact g1 | exact g2 | exact g3 | exact g4 | exact ⟨g1, rfl⟩ | exact ⟨g2, rfl⟩ | exact ⟨g3, rfl⟩ | exact ⟨g4, rfl⟩))); intro KK hKK; go_simp; refine hKK _ ?_; clear hKK KK))
    go_simp
  have h0l : ¬ R.pts.length = 0 := fun hc => h0 (List.eq_nil_of_length_eq_zero hc)
  have h0i : ¬ (R.pts.length : Int) = 0 := by omega
  by_cases h8 : 8 < R.pts.length
  · have h8i : (8 : Int) < (R.pts.length : Int) := by omega
    have e := HE.out
    simp [hsd, h0, h8] at e
    subst e
    repeat' (first | (with_reducible first | refine vseq ?_ | refine vthenN ?_ | refine vthenE ?_ | refine vthenR ?_ | refine vret ?_ | refine vskip ?_ | refine vexit ?_ | refine vblock ?_ | refine vblockN ?_ | refine vblockR ?_ | refine vblockH ?_ | refine vrun_nil ?_ | refine vblockE rfl ?_ | refine vregion [] ?_ | refine vhrun_nil ?_) | ((with_reducible refine vcondT ?_ ?_); (focus (go_simp; done))) | ((with_reducible refine vcondF ?_ ?_); (focus (go_simp; done))) | ((with_reducible first | refine vrun_cons fun KK hKK => ?_ | refine vhrun_cons fun KK hKK => ?_); go_simp; (first | (with_reducible refine ⟨_, g1, ?_⟩) | (with_reducible refine ⟨_, g2, ?_⟩) | (with_reducible refine ⟨_, g3, ?_⟩) | (with_reducible refine ⟨_, g4, ?_⟩) | skip); refine hKK _ ?_; clear hKK KK) | ((refine vdrawL 9 9 [] rfl (by kernel_rfl) (by kernel_rfl) ?_); simp only [List.append, List.take, List.drop]) | ((refine vdrawL 19 19 [] rfl (by kernel_rfl) (by kernel_rfl) ?_); simp only [List.append, List.take, List.drop]) | ((refine vdrawL 23 23 [] rfl (by kernel_rfl) (by kernel_rfl) ?_); simp only [List.append, List.take, List.drop]) | ((with_reducible refine vcondS ?_ (fun ht => ?_) (fun ht => ?_)); (focus (go_simp; done)); (all_goals (simp [go_sem] at ht; replace ht := ht.out))) | ((apply vrun_consG0 rfl); (focus (go_simp <;> exact rfl)); (focus (go_simp; done)); (focus (intro hb0; replace hb0 := hb0.out; go_simp <;> (first | exact rfl | exact g1 | exact g2 | exact g3 | exact g4 | exact ⟨g1, rfl⟩ | exact ⟨g2, rfl⟩ | exact ⟨g3, rfl⟩ | exact ⟨g4, rfl⟩))); intro KK hKK; go_simp; refine hKK _ ?_; clear hKK KK) | ((apply vhrun_consG0 rfl); (focus (go_simp <;> exact rfl)); (focus (intro hb0; replace hb0 := hb0.out; go_simp <;> (first | exact rfl | exact g1 | exact g2 | exact g3 | exact g4 | exact ⟨g1, rfl⟩ | exact ⟨g2, rfl⟩ | exact ⟨g3, rfl⟩ | exact ⟨g4, rfl⟩))); intro KK hKK; go_simp; refine hKK _ ?_; clear hKK KK) | ((apply vrun_consG1 rfl); (focus (go_simp <;> exact rfl)); (focus (go_simp; done)); (focus (intro hb0 hb1; replace hb0 := hb0.out; replace hb1 := hb1.out; go_simp <;> (first | exact rfl | exact g1 | exact g2 | exact g3 | exact g4 | exact ⟨g1, rfl⟩ | exact ⟨g2, rfl⟩ | exact ⟨g3, rfl⟩ | exact ⟨g4, rfl⟩))); intro KK hKK; go_simp; refine hKK _ ?_; clear hKK KK) | ((apply vhrun_consG1 rfl); (focus (go_simp <;> exact rfl)); (focus (intro hb0 hb1; replace hb0 := hb0.out; replace hb1 := hb1.out; go_simp <;> (first | exact rfl | exact g1 | exact g2 | exact g3 | exact g4 | exact ⟨g1, rfl⟩ | exact ⟨g2, rfl⟩ | exact ⟨g3, rfl⟩ | exact ⟨g4, rfl⟩))); intro KK hKK; go_simp; refine hKK _ ?_; clear hKK KK))
    go_simp
  have h8i : ¬ (8 : Int) < (R.pts.length : Int) := by omega
  have h8j : (R.pts.length : Int) ≤ 8 := by omega
  have e := HE.out
  simp [hsd, h0, h8] at e
  have HE := Lib.hid e
  clear e
  obtain ⟨X, hX⟩ : ∃ X, firstErr (ptE R.pts) 0 R.pts.length = X := ⟨_, rfl⟩
  obtain ⟨Y, hY⟩ : ∃ Y, firstErr (opE R.pts) 0 R.pts.length = Y := ⟨_, rfl⟩
  rw [hX, hY] at HE
  have HX := Lib.hid hX
  have HY := Lib.hid hY
  clear hX hY
  repeat' (first | (with_reducible first | refine vseq ?_ | refine vthenN ?_ | refine vthenE ?_ | refine vthenR ?_ | refine vret ?_ | refine vskip ?_ | refine vexit ?_ | refine vblock ?_ | refine vblockN ?_ | refine vblockR ?_ | refine vblockH ?_ | refine vrun_nil ?_ | refine vblockE rfl ?_ | refine vregion [] ?_ | refine vhrun_nil ?_) | ((with_reducible refine vcondT ?_ ?_); (focus (go_simp; done))) | ((with_reducible refine vcondF ?_ ?_); (focus (go_simp; done))) | ((with_reducible first | refine vrun_cons fun KK hKK => ?_ | refine vhrun_cons fun KK hKK => ?_); go_simp; (first | (with_reducible refine ⟨_, g1, ?_⟩) | (with_reducible refine ⟨_, g2, ?_⟩) | (with_reducible refine ⟨_, g3, ?_⟩) | (with_reducible refine ⟨_, g4, ?_⟩) | skip); refine hKK _ ?_; clear hKK KK) | ((refine vdrawL 9 9 [] rfl (by kernel_rfl) (by kernel_rfl) ?_); simp only [List.append, List.take, List.drop]) | ((refine vdrawL 19 19 [] rfl (by kernel_rfl) (by kernel_rfl) ?_); simp only [List.append, List.take, List.drop]) | ((refine vdrawL 23 23 [] rfl (by kernel_rfl) (by kernel_rfl) ?_); simp only [List.append, List.take, List.drop]) | ((with_reducible refine vcondS ?_ (fun ht => ?_) (fun ht => ?_)); (focus (go_simp; done)); (all_goals (simp [go_sem] at ht; replace ht := ht.out))) | ((apply vrun_consG0 rfl); (focus (go_simp <;> exact rfl)); (focus (go_simp; done)); (focus (intro hb0; replace hb0 := hb0.out; go_simp <;> (first | exact rfl | exact g1 | exact g2 | exact g3 | exact g4 | exact ⟨g1, rfl⟩ | exact ⟨g2, rfl⟩ | exact ⟨g3, rfl⟩ | exact ⟨g4, rfl⟩))); intro KK hKK; go_simp; refine hKK _ ?_; clear hKK KK) | ((apply vhrun_consG0 rfl); (focus (go_simp <;> exact rfl)); (focus (intro hb0; replace hb0 := hb0.out; go_simp <;> (first | exact rfl | exact g1 | exact g2 | exact g3 | exact g4 | exact ⟨g1, rfl⟩ | exact ⟨g2, rfl⟩ | exact ⟨g3, rfl⟩ | exact ⟨g4, rfl⟩))); intro KK hKK; go_simp; refine hKK _ ?_; clear hKK KK) | ((apply vrun_consG1 rfl); (focus (go_simp <;> exact rfl)); (focus (go_simp; done)); (focus (intro hb0 hb1; replace hb0 := hb0.out; replace hb1 := hb1.out; go_simp <;> (first | exact rfl | exact g1 | exact g2 | exact g3 | exact g4 | exact ⟨g1, rfl⟩ | exact ⟨g2, rfl⟩ | exact ⟨g3, rfl⟩ | exact ⟨g4, rfl⟩))); intro KK hKK; go_simp; refine hKK _ ?_; clear hKK KK) | ((apply vhrun_consG1 rfl); (focus (go_simp <;> exact rfl)); (focus (intro hb0 hb1; replace hb0 := hb0.out; replace hb1 := hb1.out; go_simp <;> (first | exact rfl | exact g1 | exact g2 | exact g3 | exact g4 | exact ⟨g1, rfl⟩ | exact ⟨g2, rfl⟩ | exact ⟨g3, rfl⟩ | exact ⟨g4, rfl⟩))); intro KK hKK; go_simp; refine hKK _ ?_; clear hKK KK))
  apply vfor [6] (fun k => [(8, I (k : Int))]) (fun k => ([some (.box R.av)] : Hp)) (bad (ptE R.pts)) (R.pts.length)
  · go_simp <;> exact rfl
  · go_simp
  · intro k hk hb hp K hK
    obtain ⟨v1, v2, v3, v4, v5, v6⟩ := ixs (m := k) (by omega)
    have hz := bad_no hp.out
    unfold ptE at hz
    obtain ⟨P, hP⟩ : ∃ P, ptat R.pts k = P := ⟨_, rfl⟩
    rw [hP] at hz
    have f1 := b_within P.time 0 86399
    have f2 := b_within P.lo 0 7200
    have f3 := b_within P.hi 0 7200
    generalize inR P.time 0 86399 = c1 at *
    generalize inR P.lo 0 7200 = c2 at *
    generalize inR P.hi 0 7200 = c3 at *
    cases c1 <;> cases c2 <;> cases c3 <;> simp at hz
    have q1 : P.lo ≤ P.hi := by omega
    have q2 : ¬ P.hi < P.lo := by omega
    by_cases hk0 : 0 < k
    · have hq := hz.2 hk0
      have hk1 := ixm hk0 (by omega)
      have hk2 : k - 1 < R.pts.length := by omega
      have hki : (0 : Int) < (k : Int) := by omega
      have hq2 : ¬ P.time ≤ (ptat R.pts (k - 1)).time := by omega
      clear hz hq
      repeat' (first | (with_reducible first | refine vseq ?_ | refine vthenN ?_ | refine vthenE ?_ | refine vthenR ?_ | refine vret ?_ | refine vskip ?_ | refine vexit ?_ | refine vblock ?_ | refine vblockN ?_ | refine vblockR ?_ | refine vblockH ?_ | refine vrun_nil ?_ | refine vblockE rfl ?_ | refine vregion [] ?_ | refine vhrun_nil ?_) | ((with_reducible refine vcondT ?_ ?_); (focus (go_simp; done))) | ((with_reducible refine vcondF ?_ ?_); (focus (go_simp; done))) | ((with_reducible first | refine vrun_cons fun KK hKK => ?_ | refine vhrun_cons fun KK hKK => ?_); go_simp; (first | (with_reducible refine ⟨_, f1, ?_⟩) | (with_reducible refine ⟨_, f2, ?_⟩) | (with_reducible refine ⟨_, f3, ?_⟩) | skip); refine hKK _ ?_; clear hKK KK) | ((refine vdrawL 9 9 [] rfl (by kernel_rfl) (by kernel_rfl) ?_); simp only [List.append, List.take, List.drop]) | ((refine vdrawL 19 19 [] rfl (by kernel_rfl) (by kernel_rfl) ?_); simp only [List.append, List.take, List.drop]) | ((refine vdrawL 23 23 [] rfl (by kernel_rfl) (by kernel_rfl) ?_); simp only [List.take, List.drop]) | ((with_reducible refine vcondS ?_ (fun ht => ?_) (fun ht => ?_)); (focus (go_simp; done)); (all_goals (simp [go_sem] at ht; replace ht := ht.out))) | ((apply vrun_consG0 rfl); (focus (go_simp <;> exact rfl)); (focus (go_simp; done)); (focus (intro hb0; replace hb0 := hb0.out; go_simp <;> (first | exact rfl | exact f1 | exact f2 | exact f3 | exact ⟨f1, rfl⟩ | exact ⟨f2, rfl⟩ | exact ⟨f3, rfl⟩))); intro KK hKK; go_simp; refine hKK _ ?_; clear hKK KK) | ((apply vhrun_consG0 rfl); (focus (go_simp <;> exact rfl)); (focus (intro hb0; replace hb0 := hb0.out; go_simp <;> (first | exact rfl | exact f1 | exact f2 | exact f3 | exact ⟨f1, rfl⟩ | exact ⟨f2, rfl⟩ | exact ⟨f3, rfl⟩))); intro KK hKK; go_simp; refine hKK _ ?_; clear hKK KK) | ((apply vrun_consG1 rfl); (focus (go_simp <;> exact rfl)); (focus (go_simp; done)); (focus (intro hb0 hb1; replace hb0 := hb0.out; replace hb1 := hb1.out; go_simp <;> (first | exact rfl | exact f1 | exact f2 | exact f3 | exact ⟨f1, rfl⟩ | exact ⟨f2, rfl⟩ | exact ⟨f3, rfl⟩))); intro KK hKK; go_simp; refine hKK _ ?_; clear hKK KK) | ((apply vhrun_consG1 rfl); (focus (go_simp <;> exact rfl)); (focus (intro hb0 hb1; replace hb0 := hb0.out; replace hb1 := hb1.out; go_simp <;> (first | exact rfl | exact f1 | exact f2 | exact f3 | exact ⟨f1, rfl⟩ | exact ⟨f2, rfl⟩ | exact ⟨f3, rfl⟩))); intro KK hKK; go_simp; refine hKK _ ?_; clear hKK KK))
      refine hK _ ?_
      go_simp
    · have hk0' : k = 0 := by omega
      clear hz
      subst hk0'
      repeat' (first | (with_reducible first | refine vseq ?_ | refine vthenN ?_ | refine vthenE ?_ | refine vthenR ?_ | refine vret ?_ | refine vskip ?_ | refine vexit ?_ | refine vblock ?_ | refine vblockN ?_ | refine vblockR ?_ | refine vblockH ?_ | refine vrun_nil ?_ | refine vblockE rfl ?_ | refine vregion [] ?_ | refine vhrun_nil ?_) | ((with_reducible refine vcondT ?_ ?_); (focus (go_simp; done))) | ((with_reducible refine vcondF ?_ ?_); (focus (go_simp; done))) | ((with_reducible first | refine vrun_cons fun KK hKK => ?_ | refine vhrun_cons fun KK hKK => ?_); go_simp; (first | (with_reducible refine ⟨_, f1, ?_⟩) | (with_reducible refine ⟨_, f2, ?_⟩) | (with_reducible refine ⟨_, f3, ?_⟩) | skip); refine hKK _ ?_; clear hKK KK) | ((refine vdrawL 9 9 [] rfl (by kernel_rfl) (by kernel_rfl) ?_); simp only [List.append, List.take, List.drop]) | ((refine vdrawL 19 19 [] rfl (by kernel_rfl) (by kernel_rfl) ?_); simp only [List.append, List.take, List.drop]) | ((refine vdrawL 23 23 [] rfl (by kernel_rfl) (by kernel_rfl) ?_); simp only [List.take, List.drop]) | ((with_reducible refine vcondS ?_ (fun ht => ?_) (fun ht => ?_)); (focus (go_simp; done)); (all_goals (simp [go_sem] at ht; replace ht := ht.out))) | ((apply vrun_consG0 rfl); (focus (go_simp <;> exact rfl)); (focus (go_simp; done)); (focus (intro hb0; replace hb0 := hb0.out; go_simp <;> (first | exact rfl | exact f1 | exact f2 | exact f3 | exact ⟨f1, rfl⟩ | exact ⟨f2, rfl⟩ | exact ⟨f3, rfl⟩))); intro KK hKK; go_simp; refine hKK _ ?_; clear hKK KK) | ((apply vhrun_consG0 rfl); (focus (go_simp <;> exact rfl)); (focus (intro hb0; replace hb0 := hb0.out; go_simp <;> (first | exact rfl | exact f1 | exact f2 | exact f3 | exact ⟨f1, rfl⟩ | exact ⟨f2, rfl⟩ | exact ⟨f3, rfl⟩))); intro KK hKK; go_simp; refine hKK _ ?_; clear hKK KK) | ((apply vrun_consG1 rfl); (focus (go_simp <;> exact rfl)); (focus (go_simp; done)); (focus (intro hb0 hb1; replace hb0 := hb0.out; replace hb1 := hb1.out; go_simp <;> (first | exact rfl | exact f1 | exact f2 | exact f3 | exact ⟨f1, rfl⟩ | exact ⟨f2, rfl⟩ | exact ⟨f3, rfl⟩))); intro KK hKK; go_simp; refine hKK _ ?_; clear hKK KK) | ((apply vhrun_consG1 rfl); (focus (go_simp <;> exact rfl)); (focus (intro hb0 hb1; replace hb0 := hb0.out; replace hb1 := hb1.out; go_simp <;> (first | exact rfl | exact f1 | exact f2 | exact f3 | exact ⟨f1, rfl⟩ | exact ⟨f2, rfl⟩ | exact ⟨f3, rfl⟩))); intro KK hKK; go_simp; refine hKK _ ?_; clear hKK KK))
      refine hK _ ?_
      go_simp
  · intro k hk hb hp K
    obtain ⟨v1, v2, v3, v4, v5, v6⟩ := ixs (m := k) (by omega)
    have hx := HX.out
    rw [firstErr_hit hk hb.out hp.out] at hx
    have e := HE.out
    have hz := bad_yes hp.out
    subst hx
    simp [hz] at e
    unfold ptE at e hz
    obtain ⟨P, hP⟩ : ∃ P, ptat R.pts k = P := ⟨_, rfl⟩
    rw [hP] at e hz
    have f1 := b_within P.time 0 86399
    have f2 := b_within P.lo 0 7200
    have f3 := b_within P.hi 0 7200
    generalize inR P.time 0 86399 = c1 at *
    generalize inR P.lo 0 7200 = c2 at *
    generalize inR P.hi 0 7200 = c3 at *
    by_cases hc : (c1 && c2 && c3) = false
    · rw [if_pos hc] at e
      subst e
      clear hz
      cases c1 <;> cases c2 <;> cases c3 <;> first | (cases hc; done) | skip
      all_goals
        repeat' (first | (with_reducible first | refine vseq ?_ | refine vthenN ?_ | refine vthenE ?_ | refine vthenR ?_ | refine vret ?_ | refine vskip ?_ | refine vexit ?_ | refine vblock ?_ | refine vblockN ?_ | refine vblockR ?_ | refine vblockH ?_ | refine vrun_nil ?_ | refine vblockE rfl ?_ | refine vregion [] ?_ | refine vhrun_nil ?_) | ((with_reducible refine vcondT ?_ ?_); (focus (go_simp; done))) | ((with_reducible refine vcondF ?_ ?_); (focus (go_simp; done))) | ((with_reducible first | refine vrun_cons fun KK hKK => ?_ | refine vhrun_cons fun KK hKK => ?_); go_simp; (first | (with_reducible refine ⟨_, f1, ?_⟩) | (with_reducible refine ⟨_, f2, ?_⟩) | (with_reducible refine ⟨_, f3, ?_⟩) | skip); refine hKK _ ?_; clear hKK KK) | ((refine vdrawL 9 9 [] rfl (by kernel_rfl) (by kernel_rfl) ?_); simp only [List.append, List.take, List.drop]) | ((refine vdrawL 19 19 [] rfl (by kernel_rfl) (by kernel_rfl) ?_); simp only [List.append, List.take, List.drop]) | ((refine vdrawL 23 23 [] rfl (by kernel_rfl) (by kernel_rfl) ?_); simp only [List.append, List.take, List.drop]) | ((with_reducible refine vcondS ?_ (fun ht => ?_) (fun ht => ?_)); (focus (go_simp; done)); (all_goals (simp [go_sem] at ht; replace ht := ht.out))) | ((apply vrun_consG0 rfl); (focus (go_simp <;> exact rfl)); (focus (go_simp; done)); (focus (intro hb0; replace hb0 := hb0.out; go_simp <;> (first | exact rfl | exact f1 | exact f2 | exact f3 | exact ⟨f1, rfl⟩ | exact ⟨f2, rfl⟩ | exact ⟨f3, rfl⟩))); intro KK hKK; go_simp; refine hKK _ ?_; clear hKK KK) | ((apply vhrun_consG0 rfl); (focus (go_simp <;> exact rfl)); (focus (intro hb0; replace hb0 := hb0.out; go_simp <;> (first | exact rfl | exact f1 | exact f2 | exact f3 | exact ⟨f1, rfl⟩ | exact ⟨f2, rfl⟩ | exact ⟨f3, rfl⟩))); intro KK hKK; go_simp; refine hKK _ ?_; clear hKK KK) | ((apply vrun_consG1 rfl); (focus (go_simp <;> exact rfl)); (focus (go_simp; done)); (focus (intro hb0 hb1; replace hb0 := hb0.out; replace hb1 := hb1.out; go_simp <;> (first | exact rfl | exact f1 | exact f2 | exact f3 | exact ⟨f1, rfl⟩ | exact ⟨f2, rfl⟩ | exact ⟨f3, rfl⟩))); intro KK hKK; go_simp; refine hKK _ ?_; clear hKK KK) | ((apply vhrun_consG1 rfl); (focus (go_simp <;> exact rfl)); (focus (intro hb0 hb1; replace hb0 := hb0.out; replace hb1 := hb1.out; go_simp <;> (first | exact rfl | exact f1 | exact f2 | exact f3 | exact ⟨f1, rfl⟩ | exact ⟨f2, rfl⟩ | exact ⟨f3, rfl⟩))); intro KK hKK; go_simp; refine hKK _ ?_; clear hKK KK))
        go_simp
    · rw [if_neg hc] at e hz
      have hq : P.hi < P.lo ∨ 0 < k ∧ P.time ≤ (ptat R.pts (k - 1)).time := Classical.byContradiction fun hn => by rw [if_neg hn] at hz; exact hz rfl
      rw [if_pos hq] at e
      subst e
      clear hz
      cases c1 <;> cases c2 <;> cases c3 <;> first | (exact absurd rfl hc) | skip
      by_cases hlh : P.hi < P.lo
      · clear hq
        repeat' (first | (with_reducible first | refine vseq ?_ | refine vthenN ?_ | refine vthenE ?_ | refine vthenR ?_ | refine vret ?_ | refine vskip ?_ | refine vexit ?_ | refine vblock ?_ | refine vblockN ?_ | refine vblockR ?_ | refine vblockH ?_ | refine vrun_nil ?_ | refine vblockE rfl ?_ | refine vregion [] ?_ | refine vhrun_nil ?_) | ((with_reducible refine vcondT ?_ ?_); (focus (go_simp; done))) | ((with_reducible refine vcondF ?_ ?_); (focus (go_simp; done))) | ((with_reducible first | refine vrun_cons fun KK hKK => ?_ | refine vhrun_cons fun KK hKK => ?_); go_simp; (first | (with_reducible refine ⟨_, f1, ?_⟩) | (with_reducible refine ⟨_, f2, ?_⟩) | (with_reducible refine ⟨_, f3, ?_⟩) | skip); refine hKK _ ?_; clear hKK KK) | ((refine vdrawL 9 9 [] rfl (by kernel_rfl) (by kernel_rfl) ?_); simp only [List.append, List.take, List.drop]) | ((refine vdrawL 19 19 [] rfl (by kernel_rfl) (by kernel_rfl) ?_); simp only [List.append, List.take, List.drop]) | ((refine vdrawL 23 23 [] rfl (by kernel_rfl) (by kernel_rfl) ?_); simp only [List.take, List.drop]) | ((with_reducible refine vcondS ?_ (fun ht => ?_) (fun ht => ?_)); (focus (go_simp; done)); (all_goals (simp [go_sem] at ht; replace ht := ht.out))) | ((apply vrun_consG0 rfl); (focus (go_simp <;> exact rfl)); (focus (go_simp; done)); (focus (intro hb0; replace hb0 := hb0.out; go_simp <;> (first | exact rfl | exact f1 | exact f2 | exact f3 | exact ⟨f1, rfl⟩ | exact ⟨f2, rfl⟩ | exact ⟨f3, rfl⟩))); intro KK hKK; go_simp; refine hKK _ ?_; clear hKK KK) | ((apply vhrun_consG0 rfl); (focus (go_simp <;> exact rfl)); (focus (intro hb0; replace hb0 := hb0.out; go_simp <;> (first | exact rfl | exact f1 | exact f2 | exact f3 | exact ⟨f1, rfl⟩ | exact ⟨f2, rfl⟩ | exact ⟨f3, rfl⟩))); intro KK hKK; go_simp; refine hKK _ ?_; clear hKK KK) | ((apply vrun_consG1 rfl); (focus (go_simp <;> exact rfl)); (focus (go_simp; done)); (focus (intro hb0 hb1; replace hb0 := hb0.out; replace hb1 := hb1.out; go_simp <;> (first | exact rfl | exact f1 | exact f2 | exact f3 | exact ⟨f1, rfl⟩ | exact ⟨f2, rfl⟩ | exact ⟨f3, rfl⟩))); intro KK hKK; go_simp; refine hKK _ ?_; clear hKK KK) | ((apply vhrun_consG1 rfl); (focus (go_simp <;> exact rfl)); (focus (intro hb0 hb1; replace hb0 := hb0.out; replace hb1 := hb1.out; go_simp <;> (first | exact rfl | exact f1 | exact f2 | exact f3 | exact ⟨f1, rfl⟩ | exact ⟨f2, rfl⟩ | exact ⟨f3, rfl⟩))); intro KK hKK; go_simp; refine hKK _ ?_; clear hKK KK))
        go_simp
      · have hq2 := hq.resolve_left hlh
        have hk0 := hq2.1
        have hq3 := hq2.2
        have hk1 := ixm hk0 (by omega)
        have hk2 : k - 1 < R.pts.length := by omega
        have hki : (0 : Int) < (k : Int) := by omega
        clear hq hq2
        repeat' (first | (with_reducible first | refine vseq ?_ | refine vthenN ?_ | refine vthenE ?_ | refine vthenR ?_ | refine vret ?_ | refine vskip ?_ | refine vexit ?_ | refine vblock ?_ | refine vblockN ?_ | refine vblockR ?_ | refine vblockH ?_ | refine vrun_nil ?_ | refine vblockE rfl ?_ | refine vregion [] ?_ | refine vhrun_nil ?_) | ((with_reducible refine vcondT ?_ ?_); (focus (go_simp; done))) | ((with_reducible refine vcondF ?_ ?_); (focus (go_simp; done))) | ((with_reducible first | refine vrun_cons fun KK hKK => ?_ | refine vhrun_cons fun KK hKK => ?_); go_simp; (first | (with_reducible refine ⟨_, f1, ?_⟩) | (with_reducible refine ⟨_, f2, ?_⟩) | (with_reducible refine ⟨_, f3, ?_⟩) | skip); refine hKK _ ?_; clear hKK KK) | ((refine vdrawL 9 9 [] rfl (by kernel_rfl) (by kernel_rfl) ?_); simp only [List.append, List.take, List.drop]) | ((refine vdrawL 19 19 [] rfl (by kernel_rfl) (by kernel_rfl) ?_); simp only [List.append, List.take, List.drop]) | ((refine vdrawL 23 23 [] rfl (by kernel_rfl) (by kernel_rfl) ?_); simp only [List.take, List.drop]) | ((with_reducible refine vcondS ?_ (fun ht => ?_) (fun ht => ?_)); (focus (go_simp; done)); (all_goals (simp [go_sem] at ht; replace ht := ht.out))) | ((apply vrun_consG0 rfl); (focus (go_simp <;> exact rfl)); (focus (go_simp; done)); (focus (intro hb0; replace hb0 := hb0.out; go_simp <;> (first | exact rfl | exact f1 | exact f2 | exact f3 | exact ⟨f1, rfl⟩ | exact ⟨f2, rfl⟩ | exact ⟨f3, rfl⟩))); intro KK hKK; go_simp; refine hKK _ ?_; clear hKK KK) | ((apply vhrun_consG0 rfl); (focus (go_simp <;> exact rfl)); (focus (intro hb0; replace hb0 := hb0.out; go_simp <;> (first | exact rfl | exact f1 | exact f2 | exact f3 | exact ⟨f1, rfl⟩ | exact ⟨f2, rfl⟩ | exact ⟨f3, rfl⟩))); intro KK hKK; go_simp; refine hKK _ ?_; clear hKK KK) | ((apply vrun_consG1 rfl); (focus (go_simp <;> exact rfl)); (focus (go_simp; done)); (focus (intro hb0 hb1; replace hb0 := hb0.out; replace hb1 := hb1.out; go_simp <;> (first | exact rfl | exact f1 | exact f2 | exact f3 | exact ⟨f1, rfl⟩ | exact ⟨f2, rfl⟩ | exact ⟨f3, rfl⟩))); intro KK hKK; go_simp; refine hKK _ ?_; clear hKK KK) | ((apply vhrun_consG1 rfl); (focus (go_simp <;> exact rfl)); (focus (intro hb0 hb1; replace hb0 := hb0.out; replace hb1 := hb1.out; go_simp <;> (first | exact rfl | exact f1 | exact f2 | exact f3 | exact ⟨f1, rfl⟩ | exact ⟨f2, rfl⟩ | exact ⟨f3, rfl⟩))); intro KK hKK; go_simp; refine hKK _ ?_; clear hKK KK))
        go_simp
  intro hb K
  have hx := HX.out
  rw [firstErr_out hb.out] at hx
  have hrng : ∀ k, k < R.pts.length → 0 ≤ (ptat R.pts k).time ∧ (ptat R.pts k).time ≤ 86399 ∧ 0 ≤ (ptat R.pts k).lo ∧ (ptat R.pts k).lo ≤ 7200 ∧ 0 ≤ (ptat R.pts k).hi ∧ (ptat R.pts k).hi ≤ 7200 ∧ (ptat R.pts k).lo ≤ (ptat R.pts k).hi := fun k hk => (ptE_zero (bad_no (hb.out k hk))).1
  have HRNG := Lib.hid hrng
  clear hb HX hrng
  subst hx
  have e := HE.out
  simp at e
  subst e
  repeat' (first | (with_reducible first | refine vseq ?_ | refine vthenN ?_ | refine vthenE ?_ | refine vthenR ?_ | refine vret ?_ | refine vskip ?_ | refine vexit ?_ | refine vblock ?_ | refine vblockN ?_ | refine vblockR ?_ | refine vblockH ?_ | refine vrun_nil ?_ | refine vblockE rfl ?_ | refine vregion [] ?_ | refine vhrun_nil ?_) | ((with_reducible refine vcondT ?_ ?_); (focus (go_simp; done))) | ((with_reducible refine vcondF ?_ ?_); (focus (go_simp; done))) | ((with_reducible first | refine vrun_cons fun KK hKK => ?_ | refine vhrun_cons fun KK hKK => ?_); go_simp; refine hKK _ ?_; clear hKK KK) | ((refine vdrawL 9 9 [] rfl (by kernel_rfl) (by kernel_rfl) ?_); simp only [List.append, List.take, List.drop]) | ((refine vdrawL 19 19 [] rfl (by kernel_rfl) (by kernel_rfl) ?_); simp only [List.append, List.take, List.drop]) | ((refine vdrawL 23 23 [] rfl (by kernel_rfl) (by kernel_rfl) ?_); simp only [List.append, List.take, List.drop]) | ((with_reducible refine vcondS ?_ (fun ht => ?_) (fun ht => ?_)); (focus (go_simp; done)); (all_goals (simp [go_sem] at ht; replace ht := ht.out))) | ((apply vrun_consG0 rfl); (focus (go_simp <;> exact rfl)); (focus (go_simp; done)); (focus (intro hb0; replace hb0 := hb0.out; go_simp <;> (first | exact rfl))); intro KK hKK; go_simp; refine hKK _ ?_; clear hKK KK) | ((apply vhrun_consG0 rfl); (focus (go_simp <;> exact rfl)); (focus (intro hb0; replace hb0 := hb0.out; go_simp <;> (first | exact rfl))); intro KK hKK; go_simp; refine hKK _ ?_; clear hKK KK) | ((apply vrun_consG1 rfl); (focus (go_simp <;> exact rfl)); (focus (go_simp; done)); (focus (intro hb0 hb1; replace hb0 := hb0.out; replace hb1 := hb1.out; go_simp <;> (first | exact rfl))); intro KK hKK; go_simp; refine hKK _ ?_; clear hKK KK) | ((apply vhrun_consG1 rfl); (focus (go_simp <;> exact rfl)); (focus (intro hb0 hb1; replace hb0 := hb0.out; replace hb1 := hb1.out; go_simp <;> (first | exact rfl))); intro KK hKK; go_simp; refine hKK _ ?_; clear hKK KK))
  apply vfor [6] (fun k => [(10, I (k : Int))]) (fun k => ([some (.box R.av)] : Hp)) (bad (opE R.pts)) (R.pts.length)
  · go_simp <;> exact rfl
  · go_simp
  · intro k hk hb hp K hK
    obtain ⟨v1, v2, v3, v4, v5, v6⟩ := ixs (m := k) (by omega)
    have hz := bad_no hp.out
    have hm : ((k : Int) + 1).tmod (R.pts.length : Int) = ((k + 1) % R.pts.length : Nat) := rfl
    have hn : (k + 1) % R.pts.length < R.pts.length := Nat.mod_lt _ (by omega)
    have sP := HRNG.out k hk
    have sQ := HRNG.out _ hn
    unfold opE refD at hz
    generalize (k + 1) % R.pts.length = m at *
    obtain ⟨P, hP⟩ : ∃ P, ptat R.pts k = P := ⟨_, rfl⟩
    obtain ⟨Q, hQ⟩ : ∃ Q, ptat R.pts m = Q := ⟨_, rfl⟩
    rw [hP] at hz sP
    rw [hQ] at hz sQ
    have u1 := wrap_eq (x := Q.time - P.time) (by omega) (by omega)
    have f1 := b_Mod (Q.time - P.time) 86400 (by decide) (by decide)
    have d1 : -86400 ≤ modF (Q.time - P.time) 86400 ∧ modF (Q.time - P.time) 86400 ≤ 86400 := by
      have := tmod_lt (Q.time - P.time) 86400 (by decide)
      unfold modF
      split <;> omega
    generalize modF (Q.time - P.time) 86400 = D at *
    have u2 := wrap_eq (x := P.lo - D) (by omega) (by omega)
    have u3 := wrap_eq (x := P.hi - D) (by omega) (by omega)
    clear sP sQ d1
    have q1 : ¬ Q.lo < P.lo - D := fun hc => by rw [if_pos (.inl hc)] at hz; cases hz
    have q2 : ¬ Q.hi < P.hi - D := fun hc => by rw [if_pos (.inr hc)] at hz; cases hz
    clear hz
    repeat' (first | (with_reducible first | refine vseq ?_ | refine vthenN ?_ | refine vthenE ?_ | refine vthenR ?_ | refine vret ?_ | refine vskip ?_ | refine vexit ?_ | refine vblock ?_ | refine vblockN ?_ | refine vblockR ?_ | refine vblockH ?_ | refine vrun_nil ?_ | refine vblockE rfl ?_ | refine vregion [] ?_ | refine vhrun_nil ?_) | ((with_reducible refine vcondT ?_ ?_); (focus (go_simp; done))) | ((with_reducible refine vcondF ?_ ?_); (focus (go_simp; done))) | ((with_reducible first | refine vrun_cons fun KK hKK => ?_ | refine vhrun_cons fun KK hKK => ?_); go_simp; (first | (with_reducible refine ⟨_, f1, ?_⟩) | skip); refine hKK _ ?_; clear hKK KK) | ((with_reducible refine vcondS ?_ (fun ht => ?_) (fun ht => ?_)); (focus (go_simp; done)); (all_goals (simp [go_sem] at ht; replace ht := ht.out))) | ((apply vrun_consG0 rfl); (focus (go_simp <;> exact rfl)); (focus (go_simp; done)); (focus (intro hb0; replace hb0 := hb0.out; go_simp <;> (first | exact rfl | exact f1 | exact ⟨f1, rfl⟩))); intro KK hKK; go_simp; refine hKK _ ?_; clear hKK KK) | ((apply vhrun_consG0 rfl); (focus (go_simp <;> exact rfl)); (focus (intro hb0; replace hb0 := hb0.out; go_simp <;> (first | exact rfl | exact f1 | exact ⟨f1, rfl⟩))); intro KK hKK; go_simp; refine hKK _ ?_; clear hKK KK) | ((apply vrun_consG1 rfl); (focus (go_simp <;> exact rfl)); (focus (go_simp; done)); (focus (intro hb0 hb1; replace hb0 := hb0.out; replace hb1 := hb1.out; go_simp <;> (first | exact rfl | exact f1 | exact ⟨f1, rfl⟩))); intro KK hKK; go_simp; refine hKK _ ?_; clear hKK KK) | ((apply vhrun_consG1 rfl); (focus (go_simp <;> exact rfl)); (focus (intro hb0 hb1; replace hb0 := hb0.out; replace hb1 := hb1.out; go_simp <;> (first | exact rfl | exact f1 | exact ⟨f1, rfl⟩))); intro KK hKK; go_simp; refine hKK _ ?_; clear hKK KK))
    refine vdrawA 18 [] [⟨15, 11, zero3, some 17, Pt.av P⟩, ⟨16, 12, zero3, none, []⟩] (by kernel_rfl) (by kernel_rfl) (by kernel_rfl) (by go_simp) (by go_simp) ?_
    simp only [List.take, List.drop]
    repeat (first | (with_reducible first | refine vseq ?_ | refine vthenN ?_ | refine vthenE ?_ | refine vthenR ?_ | refine vret ?_ | refine vskip ?_ | refine vexit ?_ | refine vblock ?_ | refine vblockN ?_ | refine vblockR ?_ | refine vblockH ?_ | refine vrun_nil ?_ | refine vblockE rfl ?_ | refine vregion [] ?_ | refine vhrun_nil ?_) | ((with_reducible refine vcondT ?_ ?_); (focus (go_simp; done))) | ((with_reducible refine vcondF ?_ ?_); (focus (go_simp; done))) | ((with_reducible first | refine vrun_cons fun KK hKK => ?_ | refine vhrun_cons fun KK hKK => ?_); go_simp; refine hKK _ ?_; clear hKK KK) | (refine vha_skip rfl ?_) | ((with_reducible refine vha_cons rfl fun KK hKK => ?_); go_simp; refine hKK _ (by go_simp) ?_; clear hKK KK) | (with_reducible refine vha_nil ?_))
    refine ⟨by go_simp, ?_⟩
    simp only [slotS, slotE, Slot.end_, List.cons_append, List.nil_append]
    repeat' (first | (with_reducible first | refine vseq ?_ | refine vthenN ?_ | refine vthenE ?_ | refine vthenR ?_ | refine vret ?_ | refine vskip ?_ | refine vexit ?_ | refine vblock ?_ | refine vblockN ?_ | refine vblockR ?_ | refine vblockH ?_ | refine vrun_nil ?_ | refine vblockE rfl ?_ | refine vregion [] ?_ | refine vhrun_nil ?_) | ((with_reducible refine vcondT ?_ ?_); (focus (go_simp; done))) | ((with_reducible refine vcondF ?_ ?_); (focus (go_simp; done))) | ((with_reducible first | refine vrun_cons fun KK hKK => ?_ | refine vhrun_cons fun KK hKK => ?_); go_simp; (first | (with_reducible refine ⟨_, f1, ?_⟩) | skip); refine hKK _ ?_; clear hKK KK) | ((refine vdrawL 9 9 [] rfl (by kernel_rfl) (by kernel_rfl) ?_); simp only [List.append, List.take, List.drop]) | ((refine vdrawL 19 19 [] rfl (by kernel_rfl) (by kernel_rfl) ?_); simp only [List.append, List.take, List.drop]) | ((refine vdrawL 23 23 [] rfl (by kernel_rfl) (by kernel_rfl) ?_); simp only [List.append, List.take, List.drop]) | ((with_reducible refine vcondS ?_ (fun ht => ?_) (fun ht => ?_)); (focus (go_simp; done)); (all_goals (simp [go_sem] at ht; replace ht := ht.out))) | ((apply vrun_consG0 rfl); (focus (go_simp <;> exact rfl)); (focus (go_simp; done)); (focus (intro hb0; replace hb0 := hb0.out; go_simp <;> (first | exact rfl | exact f1 | exact ⟨f1, rfl⟩))); intro KK hKK; go_simp; refine hKK _ ?_; clear hKK KK) | ((apply vhrun_consG0 rfl); (focus (go_simp <;> exact rfl)); (focus (intro hb0; replace hb0 := hb0.out; go_simp <;> (first | exact rfl | exact f1 | exact ⟨f1, rfl⟩))); intro KK hKK; go_simp; refine hKK _ ?_; clear hKK KK) | ((apply vrun_consG1 rfl); (focus (go_simp <;> exact rfl)); (focus (go_simp; done)); (focus (intro hb0 hb1; replace hb0 := hb0.out; replace hb1 := hb1.out; go_simp <;> (first | exact rfl | exact f1 | exact ⟨f1, rfl⟩))); intro KK hKK; go_simp; refine hKK _ ?_; clear hKK KK) | ((apply vhrun_consG1 rfl); (focus (go_simp <;> exact rfl)); (focus (intro hb0 hb1; replace hb0 := hb0.out; replace hb1 := hb1.out; go_simp <;> (first | exact rfl | exact f1 | exact ⟨f1, rfl⟩))); intro KK hKK; go_simp; refine hKK _ ?_; clear hKK KK))
    refine hK _ ?_
    go_simp
  · intro k hk hb hp K
    obtain ⟨v1, v2, v3, v4, v5, v6⟩ := ixs (m := k) (by omega)
    have hx := HY.out
    rw [firstErr_hit hk hb.out hp.out] at hx
    have hz := bad_yes hp.out
    subst hx
    have hz0 : opE R.pts k = 23 := by
      unfold opE at hz ⊢
      split
      · rfl
      · rename_i hc
        rw [if_neg hc] at hz
        exact absurd rfl hz
    rw [hz0]
    have hz := hz0
    clear hz0
    have hm : ((k : Int) + 1).tmod (R.pts.length : Int) = ((k + 1) % R.pts.length : Nat) := rfl
    have hn : (k + 1) % R.pts.length < R.pts.length := Nat.mod_lt _ (by omega)
    have sP := HRNG.out k hk
    have sQ := HRNG.out _ hn
    unfold opE refD at hz
    generalize (k + 1) % R.pts.length = m at *
    obtain ⟨P, hP⟩ : ∃ P, ptat R.pts k = P := ⟨_, rfl⟩
    obtain ⟨Q, hQ⟩ : ∃ Q, ptat R.pts m = Q := ⟨_, rfl⟩
    rw [hP] at hz sP
    rw [hQ] at hz sQ
    have u1 := wrap_eq (x := Q.time - P.time) (by omega) (by omega)
    have f1 := b_Mod (Q.time - P.time) 86400 (by decide) (by decide)
    have d1 : -86400 ≤ modF (Q.time - P.time) 86400 ∧ modF (Q.time - P.time) 86400 ≤ 86400 := by
      have := tmod_lt (Q.time - P.time) 86400 (by decide)
      unfold modF
      split <;> omega
    generalize modF (Q.time - P.time) 86400 = D at *
    have u2 := wrap_eq (x := P.lo - D) (by omega) (by omega)
    have u3 := wrap_eq (x := P.hi - D) (by omega) (by omega)
    clear sP sQ d1
    have hq : Q.lo < P.lo - D ∨ Q.hi < P.hi - D := Classical.byContradiction fun hn => by rw [if_neg hn] at hz; cases hz
    clear hz
    by_cases q1 : Q.lo < P.lo - D
    · clear hq
      repeat' (first | (with_reducible first | refine vseq ?_ | refine vthenN ?_ | refine vthenE ?_ | refine vthenR ?_ | refine vret ?_ | refine vskip ?_ | refine vexit ?_ | refine vblock ?_ | refine vblockN ?_ | refine vblockR ?_ | refine vblockH ?_ | refine vrun_nil ?_ | refine vblockE rfl ?_ | refine vregion [] ?_ | refine vhrun_nil ?_) | ((with_reducible refine vcondT ?_ ?_); (focus (go_simp; done))) | ((with_reducible refine vcondF ?_ ?_); (focus (go_simp; done))) | ((with_reducible first | refine vrun_cons fun KK hKK => ?_ | refine vhrun_cons fun KK hKK => ?_); go_simp; (first | (with_reducible refine ⟨_, f1, ?_⟩) | skip); refine hKK _ ?_; clear hKK KK) | ((with_reducible refine vcondS ?_ (fun ht => ?_) (fun ht => ?_)); (focus (go_simp; done)); (all_goals (simp [go_sem] at ht; replace ht := ht.out))) | ((apply vrun_consG0 rfl); (focus (go_simp <;> exact rfl)); (focus (go_simp; done)); (focus (intro hb0; replace hb0 := hb0.out; go_simp <;> (first | exact rfl | exact f1 | exact ⟨f1, rfl⟩))); intro KK hKK; go_simp; refine hKK _ ?_; clear hKK KK) | ((apply vhrun_consG0 rfl); (focus (go_simp <;> exact rfl)); (focus (intro hb0; replace hb0 := hb0.out; go_simp <;> (first | exact rfl | exact f1 | exact ⟨f1, rfl⟩))); intro KK hKK; go_simp; refine hKK _ ?_; clear hKK KK) | ((apply vrun_consG1 rfl); (focus (go_simp <;> exact rfl)); (focus (go_simp; done)); (focus (intro hb0 hb1; replace hb0 := hb0.out; replace hb1 := hb1.out; go_simp <;> (first | exact rfl | exact f1 | exact ⟨f1, rfl⟩))); intro KK hKK; go_simp; refine hKK _ ?_; clear hKK KK) | ((apply vhrun_consG1 rfl); (focus (go_simp <;> exact rfl)); (focus (intro hb0 hb1; replace hb0 := hb0.out; replace hb1 := hb1.out; go_simp <;> (first | exact rfl | exact f1 | exact ⟨f1, rfl⟩))); intro KK hKK; go_simp; refine hKK _ ?_; clear hKK KK))
      refine vdrawA 18 [] [⟨15, 11, zero3, some 17, Pt.av P⟩, ⟨16, 12, zero3, none, []⟩] (by kernel_rfl) (by kernel_rfl) (by kernel_rfl) (by go_simp) (by go_simp) ?_
      simp only [List.take, List.drop]
      repeat (first | (with_reducible first | refine vseq ?_ | refine vthenN ?_ | refine vthenE ?_ | refine vthenR ?_ | refine vret ?_ | refine vskip ?_ | refine vexit ?_ | refine vblock ?_ | refine vblockN ?_ | refine vblockR ?_ | refine vblockH ?_ | refine vrun_nil ?_ | refine vblockE rfl ?_ | refine vregion [] ?_ | refine vhrun_nil ?_) | ((with_reducible refine vcondT ?_ ?_); (focus (go_simp; done))) | ((with_reducible refine vcondF ?_ ?_); (focus (go_simp; done))) | ((with_reducible first | refine vrun_cons fun KK hKK => ?_ | refine vhrun_cons fun KK hKK => ?_); go_simp; refine hKK _ ?_; clear hKK KK) | (refine vha_skip rfl ?_) | ((with_reducible refine vha_cons rfl fun KK hKK => ?_); go_simp; refine hKK _ (by go_simp) ?_; clear hKK KK) | (with_reducible refine vha_nil ?_))
      refine ⟨by go_simp, ?_⟩
      simp only [slotS, slotE, Slot.end_, List.cons_append, List.nil_append]
      repeat' (first | (with_reducible first | refine vseq ?_ | refine vthenN ?_ | refine vthenE ?_ | refine vthenR ?_ | refine vret ?_ | refine vskip ?_ | refine vexit ?_ | refine vblock ?_ | refine vblockN ?_ | refine vblockR ?_ | refine vblockH ?_ | refine vrun_nil ?_ | refine vblockE rfl ?_ | refine vregion [] ?_ | refine vhrun_nil ?_) | ((with_reducible refine vcondT ?_ ?_); (focus (go_simp; done))) | ((with_reducible refine vcondF ?_ ?_); (focus (go_simp; done))) | ((with_reducible first | refine vrun_cons fun KK hKK => ?_ | refine vhrun_cons fun KK hKK => ?_); go_simp; (first | (with_reducible refine ⟨_, f1, ?_⟩) | skip); refine hKK _ ?_; clear hKK KK) | ((refine vdrawL 9 9 [] rfl (by kernel_rfl) (by kernel_rfl) ?_); simp only [List.append, List.take, List.drop]) | ((refine vdrawL 19 19 [] rfl (by kernel_rfl) (by kernel_rfl) ?_); simp only [List.append, List.take, List.drop]) | ((refine vdrawL 23 23 [] rfl (by kernel_rfl) (by kernel_rfl) ?_); simp only [List.append, List.take, List.drop]) | ((with_reducible refine vcondS ?_ (fun ht => ?_) (fun ht => ?_)); (focus (go_simp; done)); (all_goals (simp [go_sem] at ht; replace ht := ht.out))) | ((apply vrun_consG0 rfl); (focus (go_simp <;> exact rfl)); (focus (go_simp; done)); (focus (intro hb0; replace hb0 := hb0.out; go_simp <;> (first | exact rfl | exact f1 | exact ⟨f1, rfl⟩))); intro KK hKK; go_simp; refine hKK _ ?_; clear hKK KK) | ((apply vhrun_consG0 rfl); (focus (go_simp <;> exact rfl)); (focus (intro hb0; replace hb0 := hb0.out; go_simp <;> (first | exact rfl | exact f1 | exact ⟨f1, rfl⟩))); intro KK hKK; go_simp; refine hKK _ ?_; clear hKK KK) | ((apply vrun_consG1 rfl); (focus (go_simp <;> exact rfl)); (focus (go_simp; done)); (focus (intro hb0 hb1; replace hb0 := hb0.out; replace hb1 := hb1.out; go_simp <;> (first | exact rfl | exact f1 | exact ⟨f1, rfl⟩))); intro KK hKK; go_simp; refine hKK _ ?_; clear hKK KK) | ((apply vhrun_consG1 rfl); (focus (go_simp <;> exact rfl)); (focus (intro hb0 hb1; replace hb0 := hb0.out; replace hb1 := hb1.out; go_simp <;> (first | exact rfl | exact f1 | exact ⟨f1, rfl⟩))); intro KK hKK; go_simp; refine hKK _ ?_; clear hKK KK))
      go_simp
    · have q2 := hq.resolve_left q1
      clear hq
      repeat' (first | (with_reducible first | refine vseq ?_ | refine vthenN ?_ | refine vthenE ?_ | refine vthenR ?_ | refine vret ?_ | refine vskip ?_ | refine vexit ?_ | refine vblock ?_ | refine vblockN ?_ | refine vblockR ?_ | refine vblockH ?_ | refine vrun_nil ?_ | refine vblockE rfl ?_ | refine vregion [] ?_ | refine vhrun_nil ?_) | ((with_reducible refine vcondT ?_ ?_); (focus (go_simp; done))) | ((with_reducible refine vcondF ?_ ?_); (focus (go_simp; done))) | ((with_reducible first | refine vrun_cons fun KK hKK => ?_ | refine vhrun_cons fun KK hKK => ?_); go_simp; (first | (with_reducible refine ⟨_, f1, ?_⟩) | skip); refine hKK _ ?_; clear hKK KK) | ((with_reducible refine vcondS ?_ (fun ht => ?_) (fun ht => ?_)); (focus (go_simp; done)); (all_goals (simp [go_sem] at ht; replace ht := ht.out))) | ((apply vrun_consG0 rfl); (focus (go_simp <;> exact rfl)); (focus (go_simp; done)); (focus (intro hb0; replace hb0 := hb0.out; go_simp <;> (first | exact rfl | exact f1 | exact ⟨f1, rfl⟩))); intro KK hKK; go_simp; refine hKK _ ?_; clear hKK KK) | ((apply vhrun_consG0 rfl); (focus (go_simp <;> exact rfl)); (focus (intro hb0; replace hb0 := hb0.out; go_simp <;> (first | exact rfl | exact f1 | exact ⟨f1, rfl⟩))); intro KK hKK; go_simp; refine hKK _ ?_; clear hKK KK) | ((apply vrun_consG1 rfl); (focus (go_simp <;> exact rfl)); (focus (go_simp; done)); (focus (intro hb0 hb1; replace hb0 := hb0.out; replace hb1 := hb1.out; go_simp <;> (first | exact rfl | exact f1 | exact ⟨f1, rfl⟩))); intro KK hKK; go_simp; refine hKK _ ?_; clear hKK KK) | ((apply vhrun_consG1 rfl); (focus (go_simp <;> exact rfl)); (focus (intro hb0 hb1; replace hb0 := hb0.out; replace hb1 := hb1.out; go_simp <;> (first | exact rfl | exact f1 | exact ⟨f1, rfl⟩))); intro KK hKK; go_simp; refine hKK _ ?_; clear hKK KK))
      refine vdrawA 18 [] [⟨15, 11, zero3, some 17, Pt.av P⟩, ⟨16, 12, zero3, none, []⟩] (by kernel_rfl) (by kernel_rfl) (by kernel_rfl) (by go_simp) (by go_simp) ?_
      simp only [List.take, List.drop]
      repeat (first | (with_reducible first | refine vseq ?_ | refine vthenN ?_ | refine vthenE ?_ | refine vthenR ?_ | refine vret ?_ | refine vskip ?_ | refine vexit ?_ | refine vblock ?_ | refine vblockN ?_ | refine vblockR ?_ | refine vblockH ?_ | refine vrun_nil ?_ | refine vblockE rfl ?_ | refine vregion [] ?_ | refine vhrun_nil ?_) | ((with_reducible refine vcondT ?_ ?_); (focus (go_simp; done))) | ((with_reducible refine vcondF ?_ ?_); (focus (go_simp; done))) | ((with_reducible first | refine vrun_cons fun KK hKK => ?_ | refine vhrun_cons fun KK hKK => ?_); go_simp; refine hKK _ ?_; clear hKK KK) | (refine vha_skip rfl ?_) | ((with_reducible refine vha_cons rfl fun KK hKK => ?_); go_simp; refine hKK _ (by go_simp) ?_; clear hKK KK) | (with_reducible refine vha_nil ?_))
      refine ⟨by go_simp, ?_⟩
      simp only [slotS, slotE, Slot.end_, List.cons_append, List.nil_append]
      repeat' (first | (with_reducible first | refine vseq ?_ | refine vthenN ?_ | refine vthenE ?_ | refine vthenR ?_ | refine vret ?_ | refine vskip ?_ | refine vexit ?_ | refine vblock ?_ | refine vblockN ?_ | refine vblockR ?_ | refine vblockH ?_ | refine vrun_nil ?_ | refine vblockE rfl ?_ | refine vregion [] ?_ | refine vhrun_nil ?_) | ((with_reducible refine vcondT ?_ ?_); (focus (go_simp; done))) | ((with_reducible refine vcondF ?_ ?_); (focus (go_simp; done))) | ((with_reducible first | refine vrun_cons fun KK hKK => ?_ | refine vhrun_cons fun KK hKK => ?_); go_simp; (first | (with_reducible refine ⟨_, f1, ?_⟩) | skip); refine hKK _ ?_; clear hKK KK) | ((refine vdrawL 9 9 [] rfl (by kernel_rfl) (by kernel_rfl) ?_); simp only [List.append, List.take, List.drop]) | ((refine vdrawL 19 19 [] rfl (by kernel_rfl) (by kernel_rfl) ?_); simp only [List.append, List.take, List.drop]) | ((refine vdrawL 23 23 [] rfl (by kernel_rfl) (by kernel_rfl) ?_); simp only [List.append, List.take, List.drop]) | ((with_reducible refine vcondS ?_ (fun ht => ?_) (fun ht => ?_)); (focus (go_simp; done)); (all_goals (simp [go_sem] at ht; replace ht := ht.out))) | ((apply vrun_consG0 rfl); (focus (go_simp <;> exact rfl)); (focus (go_simp; done)); (focus (intro hb0; replace hb0 := hb0.out; go_simp <;> (first | exact rfl | exact f1 | exact ⟨f1, rfl⟩))); intro KK hKK; go_simp; refine hKK _ ?_; clear hKK KK) | ((apply vhrun_consG0 rfl); (focus (go_simp <;> exact rfl)); (focus (intro hb0; replace hb0 := hb0.out; go_simp <;> (first | exact rfl | exact f1 | exact ⟨f1, rfl⟩))); intro KK hKK; go_simp; refine hKK _ ?_; clear hKK KK) | ((apply vrun_consG1 rfl); (focus (go_simp <;> exact rfl)); (focus (go_simp; done)); (focus (intro hb0 hb1; replace hb0 := hb0.out; replace hb1 := hb1.out; go_simp <;> (first | exact rfl | exact f1 | exact ⟨f1, rfl⟩))); intro KK hKK; go_simp; refine hKK _ ?_; clear hKK KK) | ((apply vhrun_consG1 rfl); (focus (go_simp <;> exact rfl)); (focus (intro hb0 hb1; replace hb0 := hb0.out; replace hb1 := hb1.out; go_simp <;> (first | exact rfl | exact f1 | exact ⟨f1, rfl⟩))); intro KK hKK; go_simp; refine hKK _ ?_; clear hKK KK))
      go_simp
  intro hb K
  have hx := HY.out
  rw [firstErr_out hb.out] at hx
  subst hx
  repeat' (first | (with_reducible first | refine vseq ?_ | refine vthenN ?_ | refine vthenE ?_ | refine vthenR ?_ | refine vret ?_ | refine vskip ?_ | refine vexit ?_ | refine vblock ?_ | refine vblockN ?_ | refine vblockR ?_ | refine vblockH ?_ | refine vrun_nil ?_ | refine vblockE rfl ?_ | refine vregion [] ?_ | refine vhrun_nil ?_) | ((with_reducible refine vcondT ?_ ?_); (focus (go_simp; done))) | ((with_reducible refine vcondF ?_ ?_); (focus (go_simp; done))) | ((with_reducible first | refine vrun_cons fun KK hKK => ?_ | refine vhrun_cons fun KK hKK => ?_); go_simp; refine hKK _ ?_; clear hKK KK) | ((refine vdrawL 9 9 [] rfl (by kernel_rfl) (by kernel_rfl) ?_); simp only [List.append, List.take, List.drop]) | ((refine vdrawL 19 19 [] rfl (by kernel_rfl) (by kernel_rfl) ?_); simp only [List.append, List.take, List.drop]) | ((refine vdrawL 23 23 [] rfl (by kernel_rfl) (by kernel_rfl) ?_); simp only [List.append, List.take, List.drop]) | ((with_reducible refine vcondS ?_ (fun ht => ?_) (fun ht => ?_)); (focus (go_simp; done)); (all_goals (simp [go_sem] at ht; replace ht := ht.out))) | ((apply vrun_consG0 rfl); (focus (go_simp <;> exact rfl)); (focus (go_simp; done)); (focus (intro hb0; replace hb0 := hb0.out; go_simp <;> (first | exact rfl))); intro KK hKK; go_simp; refine hKK _ ?_; clear hKK KK) | ((apply vhrun_consG0 rfl); (focus (go_simp <;> exact rfl)); (focus (intro hb0; replace hb0 := hb0.out; go_simp <;> (first | exact rfl))); intro KK hKK; go_simp; refine hKK _ ?_; clear hKK KK) | ((apply vrun_consG1 rfl); (focus (go_simp <;> exact rfl)); (focus (go_simp; done)); (focus (intro hb0 hb1; replace hb0 := hb0.out; replace hb1 := hb1.out; go_simp <;> (first | exact rfl))); intro KK hKK; go_simp; refine hKK _ ?_; clear hKK KK) | ((apply vhrun_consG1 rfl); (focus (go_simp <;> exact rfl)); (focus (intro hb0 hb1; replace hb0 := hb0.out; replace hb1 := hb1.out; go_simp <;> (first | exact rfl))); intro KK hKK; go_simp; refine hKK _ ?_; clear hKK KK))
  go_simp
end Go.Proofs.Ytcndlalhkkjocaa
