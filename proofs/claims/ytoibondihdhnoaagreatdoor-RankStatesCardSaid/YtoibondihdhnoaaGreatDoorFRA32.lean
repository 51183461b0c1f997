/- Texts in one: Chapter 4: the first car that is overtaken, as the program and as the document have it; no condition. -/
import Derived.Test.YtoibondihdhnoaaGreatDoorFRA21
import Derived.Test.YtoibondihdhnoaaGreatDoorFRA31
namespace Go.Proofs.YtoibondihdhnoaaGreatDoor
open Go.RowKit
def sAtB (x : Sg) (R : Int) (c : ByteArray) : Bool := decide (x.rank = R) && decide (x.car = c)
def lastI (L : List Sg) (R : Int) (c : ByteArray) : Nat → Int
 | 0 => -1
 | k + 1 => if sAtB (sgat L k) R c then k else lastI L R c k
def jOf (L : List Sg) (k : Nat) : Int := lastI L (sgat L k).rank (sgat L k).car k
def okI (L : List Sg) (k i : Nat) : Bool :=
 decide ((sgat L i).kind = 0) && decide ((sgat L i).rank = (sgat L k).rank) && !decide ((sgat L i).car = (sgat L k).car) && decide (lastI L (sgat L i).rank (sgat L i).car k = i)
def goodJ (L : List Sg) (k : Nat) : Bool := decide (0 ≤ jOf L k) && decide ((sgat L (jOf L k).toNat).kind = 0)
def findI (L : List Sg) (k : Nat) : Int := if (sgat L k).kind = 1 ∧ goodJ L k = true then ixP (okI L k) 0 (jOf L k).toNat else -1
def foundK (L : List Sg) (k : Nat) : Bool := decide (0 ≤ findI L k)
def overK (L : List Sg) : Int := ixP (foundK L) 0 L.length
theorem sAtB_iff {x : Sg} {R : Int} {c : ByteArray} : sAtB x R c = true ↔ x.rank = R ∧ x.car = c := by simp [sAtB]
theorem lastI_spec (L : List Sg) (R : Int) (c : ByteArray) : ∀ k, (lastI L R c k = -1 ∧ ∀ j, j < k → sAtB (sgat L j) R c = false) ∨ ∃ j : Nat, lastI L R c k = j ∧ j < k ∧ sAtB (sgat L j) R c = true ∧ ∀ n, j < n → n < k → sAtB (sgat L n) R c = false
 | 0 => .inl ⟨rfl, fun j hj => by omega⟩
 | k + 1 => by
  rw [lastI]
  by_cases h : sAtB (sgat L k) R c = true
  ·rw [if_pos h]
   exact .inr ⟨k, rfl, by omega, h, fun n h1 h2 => by omega⟩
  ·rw [if_neg h]
   have hf : sAtB (sgat L k) R c = false := by simpa using h
   rcases lastI_spec L R c k with ⟨h1, h2⟩ | ⟨j, h1, h2, h3, h4⟩
   ·refine .inl ⟨h1, fun j hj => ?_⟩
    by_cases he : j = k
    ·rw [he]
     exact hf
    ·exact h2 j (by omega)
   ·refine .inr ⟨j, h1, by omega, h3, fun n hn hl => ?_⟩
    by_cases he : n = k
    ·rw [he]
     exact hf
    ·exact h4 n hn (by omega)
theorem jOf_lt {L : List Sg} {k : Nat} (h : 0 ≤ jOf L k) : ∃ j : Nat, jOf L k = j ∧ j < k := by
 unfold jOf at h ⊢
 rcases lastI_spec L (sgat L k).rank (sgat L k).car k with ⟨h1, _⟩ | ⟨j, h1, h2, _⟩
 ·omega
 ·exact ⟨j, h1, h2⟩
end Go.Proofs.YtoibondihdhnoaaGreatDoor
namespace Go.Proofs.YtoibondihdhnoaaGreatDoor
open Go.RowKit
structure Sy where
 car : ByteArray
 came : Int
 went : Int
 decl : Int
instance : Inhabited Sy := ⟨⟨ByteArray.empty, 0, 0, 0⟩⟩
@[go_sem] def Sy.av (x : Sy) : List AV := [S x.car, I x.came, I x.went, I x.decl]
structure Wt where
 car : ByteArray
 rank : Int
 waited : Int
instance : Inhabited Wt := ⟨⟨ByteArray.empty, 0, 0⟩⟩
@[go_sem] def Wt.av (x : Wt) : List AV := [S x.car, I x.rank, I x.waited]
def updSy (x : Ev) (i : Nat) (y : Sy) : Sy :=
 if x.kind = 1 then ⟨y.car, y.came, i, y.decl⟩ else if x.kind = 2 then ⟨y.car, y.came, y.went, y.decl + 1⟩ else if x.kind = 3 then ⟨y.car, y.came, i, y.decl⟩ else if x.kind = 5 then ⟨y.car, y.came, -1, y.decl⟩ else y
def hasSy (c : ByteArray) (a : List Sy) : Bool := a.any fun y => decide (y.car = c)
def updLast (c : ByteArray) (f : Sy → Sy) : List Sy → List Sy
 | [] => []
 | y :: a => if hasSy c a then y :: updLast c f a else if y.car = c then f y :: a else y :: a
def noteS (a : List Sy) (i : Nat) (x : Ev) : List Sy :=
 if x.kind = 4 then a else if x.kind = 0 then a ++ [⟨x.car, i, -1, 0⟩] else updLast x.car (updSy x i) a
theorem updSy_car (x : Ev) (i : Nat) (y : Sy) : (updSy x i y).car = y.car := by
 unfold updSy
 split
 ·rfl
 ·split
  ·rfl
  ·split
   ·rfl
   ·split <;> rfl
theorem hasSy_cons {c : ByteArray} {y : Sy} {a : List Sy} : hasSy c (y :: a) = (decide (y.car = c) || hasSy c a) := rfl
theorem hasSy_app {c : ByteArray} {a b : List Sy} : hasSy c (a ++ b) = (hasSy c a || hasSy c b) := List.any_append
theorem hasSy_upd {c d : ByteArray} {f : Sy → Sy} (hf : ∀ y, (f y).car = y.car) : ∀ a : List Sy, hasSy d (updLast c f a) = hasSy d a
 | [] => rfl
 | y :: a => by
  rw [updLast]
  split
  ·rw [hasSy_cons, hasSy_cons, hasSy_upd hf a]
  ·split
   ·rw [hasSy_cons, hasSy_cons, hf]
   ·rfl
def ixSy (c : ByteArray) : Nat → List Sy → Int
 | _, [] => -1
 | k, y :: a => if hasSy c a then ixSy c (k + 1) a else if y.car = c then k else -1
theorem ixSy_spec {c : ByteArray} : ∀ (a : List Sy) (k : Nat), hasSy c a = true → ∃ j : Nat, ixSy c k a = ((k + j : Nat) : Int) ∧ ∃ hj : j < a.length, (a[j]).car = c ∧ ∀ f, updLast c f a = a.set j (f a[j])
 | [], _, h => by simp [hasSy] at h
 | y :: a, k, h => by
  rw [ixSy]
  cases hh : hasSy c a
  ·rw [hasSy_cons, hh, Bool.or_false, decide_eq_true_eq] at h
   rw [if_neg (by simp), if_pos h]
   refine ⟨0, by simp, by simp, by simpa using h, fun f => ?_⟩
   rw [updLast, hh, if_neg (by simp), if_pos h]
   rfl
  ·rw [if_pos rfl]
   obtain ⟨j, h1, hj, h2, h3⟩ := ixSy_spec a (k + 1) hh
   refine ⟨j + 1, by rw [h1]; congr 1; omega, by simpa using hj, by simpa using h2, fun f => ?_⟩
   rw [updLast, hh, if_pos rfl, h3 f]
   rfl
theorem ixSy_new {c d : ByteArray} {z : Sy} (hz : z.car = d) : ∀ (a : List Sy) (k : Nat), ixSy c k (a ++ [z]) = if d = c then ((k + a.length : Nat) : Int) else ixSy c k a
 | [], k => by
  rw [List.nil_append, ixSy, ixSy, ixSy, if_neg (by simp [hasSy]), hz]
  rfl
 | y :: a, k => by
  rw [List.cons_append, ixSy, ixSy_new hz a (k + 1), hasSy_app]
  have e1 : hasSy c [z] = decide (d = c) := by simp [hasSy, hz]
  rw [e1, ixSy]
  by_cases hd : d = c
  ·rw [if_pos hd, if_pos hd, decide_eq_true hd, Bool.or_true, if_pos rfl]
   congr 1
   simp
   omega
  ·rw [if_neg hd, if_neg hd, decide_eq_false hd, Bool.or_false]
theorem ixSy_upd {c d : ByteArray} {f : Sy → Sy} (hf : ∀ y, (f y).car = y.car) : ∀ (a : List Sy) (k : Nat), ixSy d k (updLast c f a) = ixSy d k a
 | [], _ => rfl
 | y :: a, k => by
  rw [updLast]
  split
  ·rw [ixSy, ixSy, hasSy_upd hf, ixSy_upd hf a]
  ·split
   ·rw [ixSy, ixSy, hf]
   ·rfl
end Go.Proofs.YtoibondihdhnoaaGreatDoor
namespace Go.Proofs.YtoibondihdhnoaaGreatDoor
open Go.RowKit
theorem mem_all {c : ByteArray} {s : St} : c ∈ allC s ↔ 0 < cnt c s.q.flatten + cnt c (s.tk.map (·.car)) := by rw [← cnt_all, cnt_pos]
theorem mem_row {q : List (List ByteArray)} {k : Nat} (hk : k < q.length) {c : ByteArray} (h : c ∈ qat q k) : 0 < cnt c q.flatten := by
 refine cnt_pos.2 (List.mem_flatten.2 ⟨qat q k, ?_, h⟩)
 rw [qat_get hk]
 exact List.getElem_mem hk
theorem parts {r : Ru} {s : St} {x : Ev} (h : apE r s x = 0) : evE r x = 0 ∧ s.time ≤ x.time ∧ doE r s x x.rank.toNat = 0 ∧ x.rank = (x.rank.toNat : Int) ∧ x.rank.toNat < r.ranks.length := by
 unfold apE at h
 rw [fst_cons, fst_cons, fst_cons] at h
 obtain ⟨h1, h2, h3, _⟩ := h
 have := rankR h1
 exact ⟨h1, of_decide_eq_true (unl_zero (by decide) h2), h3, by omega, by omega⟩
theorem mem_do {r : Ru} {s : St} (hl : s.q.length = r.ranks.length) {x : Ev} (h : apE r s x = 0) (h0 : x.kind ≠ 0) (h4 : x.kind ≠ 4) : x.car ∈ allC s := by
 obtain ⟨h1, h2, h3, h5, h6⟩ := parts h
 have hk : x.rank.toNat < s.q.length := by omega
 have hkd := kindR h1
 rw [mem_all]
 unfold doE at h3
 rw [if_neg h0] at h3
 by_cases k1 : x.kind = 1
 ·rw [if_pos k1] at h3
  unfold serveE at h3
  rw [fst_cons] at h3
  obtain ⟨t, e⟩ := headE_zero h3.1
  have := mem_row hk (c := x.car) (by rw [e]; simp)
  omega
 rw [if_neg k1] at h3
 by_cases k2 : x.kind = 2
 ·rw [if_pos k2] at h3
  obtain ⟨t, e⟩ := headE_zero h3
  have := mem_row hk (c := x.car) (by rw [e]; simp)
  omega
 rw [if_neg k2] at h3
 by_cases k3 : x.kind = 3
 ·rw [if_pos k3] at h3
  unfold leaveE at h3
  have hn : ¬ idxT (qat s.q x.rank.toNat) x.car < 0 := fun hh => by
   rw [if_pos hh] at h3
   cases h3
  have := mem_row hk (Classical.byContradiction fun hc => hn (idxT_neg.2 hc))
  omega
 rw [if_neg k3, if_neg h4] at h3
 unfold backE at h3
 split at h3
 ·cases h3
 ·rename_i hor
  have hm : x.car ∈ s.tk.map (·.car) := Classical.byContradiction fun hc => hor (.inl (tkIx_neg.2 hc))
  have := cnt_pos.2 hm
  omega
theorem upTo_cnt {r : Ru} (hr : RuOK r) (c : ByteArray) : ∀ (n : Nat) (s : St) (m : List Sg), Inv r s → cnt c (allC (upTo r n s m).1) = cnt c (allC s)
 | 0, _, _, _ => rfl
 | n + 1, s, m, h => by
  rw [upTo]
  split
  ·rfl
  ·rename_i hn
   obtain ⟨k, e, hk, hp⟩ := nextR_at hn
   rw [e, Int.toNat_natCast]
   obtain ⟨h1, h2, h3⟩ := readyP_up hp
   have hkl : k < s.q.length := by rw [h.len]; exact hk
   obtain ⟨g1, g2, g3⟩ := hr.feedN hk h1
   rw [upTo_cnt hr c n _ _ (h.up hr hkl h1 h2 h3), cnt_all, cnt_all]
   show cnt c (upQ s.q k (feedN r k)).flatten + _ = _
   rw [upQ_cnt hkl (by rw [h.len]; exact g3) (by omega) h2]
   rfl
theorem cnt_do {r : Ru} {s : St} (hr : RuOK r) (hi : Inv r s) {x : Ev} (h : apE r s x = 0) (c : ByteArray) : cnt c (allC (doS r s x x.rank.toNat)) ≤ cnt c (allC s) + if x.kind = 0 ∧ c = x.car then 1 else 0 := by
 obtain ⟨h1, h2, h3, h5, h6⟩ := parts h
 have hk : x.rank.toNat < s.q.length := by rw [hi.len]; exact h6
 generalize x.rank.toNat = k at *
 rw [cnt_all, cnt_all]
 unfold doE at h3
 unfold doS
 by_cases k0 : x.kind = 0
 ·rw [if_pos k0]
  unfold arriveS
  simp only
  rw [tk_gone hi.once, cnt_filter]
  have g := count_flat hk (qat s.q k ++ [x.car]) c
  rw [cnt_app, cnt_cons, cnt_nil] at g
  by_cases hc : c = x.car
  ·subst hc
   rw [if_pos rfl] at g ⊢
   rw [if_pos ⟨k0, rfl⟩]
   omega
  ·rw [if_neg (Ne.symm hc)] at g
   rw [if_neg hc]
   omega
 rw [if_neg k0] at h3 ⊢
 by_cases k1 : x.kind = 1
 ·rw [if_pos k1] at h3 ⊢
  unfold serveE at h3
  rw [fst_cons] at h3
  obtain ⟨t, e⟩ := headE_zero h3.1
  unfold serveS
  simp only [List.map_append, List.map_cons, List.map_nil]
  have g := count_flat hk (qat s.q k).tail c
  rw [cnt_app, cnt_cons, cnt_nil]
  rw [e, List.tail_cons, cnt_cons] at g
  rw [e, List.tail_cons]
  omega
 rw [if_neg k1] at h3 ⊢
 by_cases k2 : x.kind = 2
 ·rw [if_pos k2] at h3 ⊢
  obtain ⟨t, e⟩ := headE_zero h3
  unfold declineS declineQ
  simp only
  have g := count_flat hk ((qat s.q k).tail.take (backK r (qat s.q k).tail.length) ++ [x.car] ++ (qat s.q k).tail.drop (backK r (qat s.q k).tail.length)) c
  have g3 := cnt_app c ((qat s.q k).tail.take (backK r (qat s.q k).tail.length)) ((qat s.q k).tail.drop (backK r (qat s.q k).tail.length))
  rw [List.take_append_drop] at g3
  rw [cnt_app, cnt_app, cnt_cons, cnt_nil] at g
  have g4 : cnt c (qat s.q k) = cnt c (qat s.q k).tail + if x.car = c then 1 else 0 := by rw [e, List.tail_cons, cnt_cons]
  omega
 rw [if_neg k2] at h3 ⊢
 by_cases k3 : x.kind = 3
 ·rw [if_pos k3]
  unfold leaveS
  simp only
  have g := count_flat hk ((qat s.q k).eraseIdx (idxT (qat s.q k) x.car).toNat) c
  have g2 := cnt_erase c (qat s.q k) (idxT (qat s.q k) x.car).toNat
  omega
 rw [if_neg k3] at h3 ⊢
 by_cases k4 : x.kind = 4
 ·rw [if_pos k4] at h3 ⊢
  unfold callE at h3
  by_cases hf : (rat r.ranks k).feeder = -1
  ·rw [if_pos hf] at h3
   cases h3
  ·rw [if_neg hf, fst_cons, fst_cons] at h3
   have f2 := of_decide_eq_true (unl_zero (by decide) h3.2.1)
   obtain ⟨g1, g2, g3⟩ := hr.feedN h6 hf
   show cnt c (upQ s.q k (feedN r k)).flatten + _ ≤ _
   rw [upQ_cnt hk (by rw [hi.len]; exact g3) (by omega) f2]
   show cnt c s.q.flatten + cnt c (s.tk.map (·.car)) ≤ _
   omega
 rw [if_neg k4] at h3 ⊢
 unfold backE at h3
 split at h3
 ·cases h3
 ·rename_i hor
  unfold backS
  simp only
  rw [tkOut_gone hi.once x fun hh => hor (.inl hh), cnt_filter]
  have g := count_flat hk ([x.car] ++ qat s.q k) c
  rw [cnt_app, cnt_cons, cnt_nil] at g
  have hm : x.car ∈ s.tk.map (·.car) := Classical.byContradiction fun hc => hor (.inl (tkIx_neg.2 hc))
  have g2 := cnt_pos.2 hm
  by_cases hc : c = x.car
  ·subst hc
   rw [if_pos rfl] at g ⊢
   omega
  ·rw [if_neg (Ne.symm hc)] at g
   rw [if_neg hc]
   omega
theorem mem_ap {r : Ru} {s : St} (hr : RuOK r) (hi : Inv r s) {x : Ev} (h : apE r s x = 0) {c : ByteArray} (hc : c ∈ allC (apU r s x).1) : c ∈ allC s ∨ x.kind = 0 ∧ c = x.car := by
 obtain ⟨h1, h2, h3, h5, h6⟩ := parts h
 have hd := hi.doS hr h1 h2 h5 h3
 have hp := cnt_pos.2 hc
 unfold apU at hp
 rw [upTo_cnt hr c _ _ _ hd] at hp
 have g := cnt_do hr hi h c
 change 0 < cnt c (allC (doS r s x x.rank.toNat)) at hp
 by_cases hh : x.kind = 0 ∧ c = x.car
 ·exact .inr hh
 ·rw [if_neg hh] at g
  exact .inl (cnt_pos.1 (by omega))
theorem goP_cons {r : Ru} {i : Nat} {x : Ev} {l : List Ev} {s : St} (h : (goP r i (x :: l) s).2.2 = 0) : apE r s x = 0 ∧ (goP r (i + 1) l (apU r s x).1).2.2 = 0 := by
 rw [goP] at h
 by_cases ha : apE r s x = 0
 ·rw [if_neg (by simp [ha])] at h
  exact ⟨ha, h⟩
 ·rw [if_pos ha] at h
  exact absurd h ha
def cameOf (a : List Sy) (c : ByteArray) : Int := (a.getD (ixSy c 0 a).toNat default).came
def waitOf (log : List Ev) (a : List Sy) (x : Ev) : List Wt := if x.kind = 1 then [⟨x.car, x.rank, x.time - (evat log (cameOf a x.car).toNat).time⟩] else []
def waitL (log : List Ev) : Nat → List Ev → List Sy → List Wt
 | _, [], _ => []
 | i, x :: l, a => waitOf log a x ++ waitL log (i + 1) l (noteS a i x)
def isArr (x : Ev) (c : ByteArray) : Bool := decide (x.kind = 0) && decide (x.car = c)
def cameB (log : List Ev) (c : ByteArray) : Nat → Nat
 | 0 => 0
 | k + 1 => if isArr (evat log k) c then k else cameB log c k
def waitD (log : List Ev) : Nat → List Ev → List Wt
 | _, [] => []
 | i, x :: l => (if x.kind = 1 then [⟨x.car, x.rank, x.time - (evat log (cameB log x.car (i + 1))).time⟩] else []) ++ waitD log (i + 1) l
theorem cameOf_new {a : List Sy} {c d : ByteArray} {z : Sy} (hz : z.car = d) (h : hasSy c (a ++ [z]) = true) : cameOf (a ++ [z]) c = if d = c then z.came else cameOf a c := by
 unfold cameOf
 rw [ixSy_new hz]
 by_cases hd : d = c
 ·rw [if_pos hd, if_pos hd]
  simp
 ·rw [if_neg hd, if_neg hd]
  have hc : hasSy c a = true := by
   rw [hasSy_app] at h
   have e1 : hasSy c [z] = false := by simp [hasSy, hz, hd]
   rw [e1, Bool.or_false] at h
   exact h
  obtain ⟨j, e, hj, _⟩ := ixSy_spec a 0 hc
  rw [e, Int.toNat_natCast, Nat.zero_add, List.getD_eq_getElem?_getD, List.getElem?_append_left hj, List.getD_eq_getElem?_getD]
theorem cameOf_upd {a : List Sy} {c d : ByteArray} {x : Ev} {i : Nat} (h : hasSy c a = true) : cameOf (updLast d (updSy x i) a) c = cameOf a c := by
 unfold cameOf
 rw [ixSy_upd (updSy_car x i)]
 obtain ⟨j, e, hj, _⟩ := ixSy_spec a 0 h
 rw [e, Int.toNat_natCast, Nat.zero_add]
 by_cases hd : hasSy d a = true
 ·obtain ⟨m, _, hm, _, h3⟩ := ixSy_spec a 0 hd
  rw [h3, List.getD_eq_getElem?_getD, List.getD_eq_getElem?_getD, List.getElem?_set]
  split
  ·rename_i hmj
   subst hmj
   rw [List.getElem?_eq_getElem hm]
   simp only [Option.getD_some]
   unfold updSy
   split
   ·rfl
   ·split
    ·rfl
    ·split
     ·rfl
     ·split <;> rfl
  ·rfl
 ·have hn : ∀ a : List Sy, hasSy d a = false → updLast d (updSy x i) a = a := fun a => by
   induction a with
   | nil => intro _; rfl
   | cons y a ih =>
    intro hh
    rw [hasSy_cons, Bool.or_eq_false_iff] at hh
    rw [updLast, hh.2, if_neg (by simp), if_neg (of_decide_eq_false hh.1)]
  rw [hn a (by simpa using hd)]
theorem evat_mid {pre : List Ev} {x : Ev} {l : List Ev} : evat (pre ++ x :: l) pre.length = x := by simp [evat]
def CameOK (log : List Ev) (i : Nat) (a : List Sy) : Prop := ∀ c, hasSy c a = true → cameOf a c = (cameB log c i : Int)
theorem CameOK.step {pre : List Ev} {x : Ev} {l : List Ev} {a : List Sy} (h : CameOK (pre ++ x :: l) pre.length a) : CameOK (pre ++ x :: l) (pre.length + 1) (noteS a pre.length x) := fun c hc => by
 rw [cameB, evat_mid]
 unfold noteS at hc ⊢
 by_cases h4 : x.kind = 4
 ·rw [if_pos h4] at hc ⊢
  rw [if_neg (by simp [isArr, h4])]
  exact h c hc
 ·rw [if_neg h4] at hc ⊢
  by_cases h0 : x.kind = 0
  ·rw [if_pos h0] at hc ⊢
   rw [cameOf_new rfl hc]
   by_cases he : x.car = c
   ·rw [if_pos he, if_pos (by simp [isArr, h0, he])]
   ·rw [if_neg he, if_neg (by simp [isArr, he])]
    rw [hasSy_app] at hc
    refine h c ?_
    simpa [hasSy, he] using hc
  ·rw [if_neg h0] at hc ⊢
   rw [hasSy_upd (updSy_car x _)] at hc
   rw [cameOf_upd hc, if_neg (by simp [isArr, h0])]
   exact h c hc
theorem hasSy_note {a : List Sy} {i : Nat} {x : Ev} {c : ByteArray} : hasSy c (noteS a i x) = (hasSy c a || (decide (x.kind = 0) && decide (x.car = c))) := by
 unfold noteS
 by_cases h4 : x.kind = 4
 ·rw [if_pos h4, decide_eq_false (by omega)]
  simp
 ·rw [if_neg h4]
  by_cases h0 : x.kind = 0
  ·rw [if_pos h0, hasSy_app, decide_eq_true h0]
   simp [hasSy]
  ·rw [if_neg h0, hasSy_upd (updSy_car x i), decide_eq_false h0]
   simp
def Known (s : St) (a : List Sy) : Prop := ∀ c ∈ allC s, hasSy c a = true
theorem Known.step {r : Ru} {s : St} (hr : RuOK r) (hi : Inv r s) {a : List Sy} (h : Known s a) {x : Ev} (ha : apE r s x = 0) (i : Nat) : Known (apU r s x).1 (noteS a i x) := fun c hc => by
 rw [hasSy_note]
 rcases mem_ap hr hi ha hc with h1 | ⟨h1, rfl⟩
 ·rw [h c h1]
  rfl
 ·rw [decide_eq_true h1, decide_eq_true rfl]
  simp
theorem waits_go {r : Ru} (hr : RuOK r) : ∀ (l : List Ev) (pre : List Ev) (s : St) (a : List Sy), Inv r s → Known s a → CameOK (pre ++ l) pre.length a → (goP r pre.length l s).2.2 = 0 → waitL (pre ++ l) pre.length l a = waitD (pre ++ l) pre.length l
 | [], _, _, _, _, _, _, _ => rfl
 | x :: l, pre, s, a, hi, hk, hc, h => by
  obtain ⟨h1, h2⟩ := goP_cons h
  rw [waitL, waitD]
  have e : pre ++ x :: l = (pre ++ [x]) ++ l := by simp
  have hs := waits_go hr l (pre ++ [x]) (apU r s x).1 (noteS a pre.length x) (hi.ap hr h1).1 (hk.step hr hi h1 _) (by
   rw [← e, List.length_append]
   exact hc.step) (by rw [List.length_append]; exact h2)
  rw [← e, List.length_append] at hs
  rw [show pre.length + 1 = pre.length + [x].length from rfl, hs]
  congr 1
  unfold waitOf
  by_cases k1 : x.kind = 1
  ·rw [if_pos k1, if_pos k1, hc _ (hk _ (mem_do hi.len h1 (by omega) (by omega))), Int.toNat_natCast]
   rw [show pre.length + [x].length = pre.length + 1 from rfl, cameB, evat_mid, if_neg (by simp [isArr, k1])]
  ·rw [if_neg k1, if_neg k1]
theorem waits_law {r : Ru} (hr : RuOK r) {l : List Ev} (h : (goP r 0 l (st0 r)).2.2 = 0) : waitL l 0 l [] = waitD l 0 l :=
 waits_go hr l [] (st0 r) [] (Inv.st0 hr) (fun c hc => by
  have h := cnt_pos.2 hc
  rw [cnt_all] at h
  change 0 < cnt c (List.replicate _ []).flatten + cnt c [] at h
  rw [rep_flat, cnt_nil] at h
  omega) (fun c hc => by cases hc) h
end Go.Proofs.YtoibondihdhnoaaGreatDoor
namespace Go.Proofs.YtoibondihdhnoaaGreatDoor
open Go.RowKit
abbrev KV : Type := List (Value × Value)
theorem same_str {a : ByteArray} {k : Value} (h : sameKey (.string a) k = true) : k = .string a := by
 cases k <;> simp [sameKey] at h
 rw [h]
theorem find_upd (a b : ByteArray) (v : Value) : ∀ m, findK (.string a) (updK (.string b) v m) = if a = b then some v else findK (.string a) m
 | [] => by
  simp only [updK, findK]
  by_cases h : a = b <;> simp [sameKey, h]
 | (k, u) :: r => by
  have ih := find_upd a b v r
  simp only [updK]
  by_cases hb : sameKey (.string b) k = true
  ·have := same_str hb
   subst this
   rw [if_pos hb]
   simp only [findK]
   by_cases h : a = b <;> simp [sameKey, h]
  ·rw [if_neg hb]
   simp only [findK]
   rw [ih]
   by_cases h : a = b
   ·subst h
    simp [hb]
   ·simp [h]
def numK (m : KV) (c : ByteArray) : Int := match findK (.string c) m with | some (.int _ v) => v | _ => 0
def addK (m : KV) (c : ByteArray) (v : Int) : KV := updK (.string c) (.int .i64 (numK m c + v)) m
def NumOK (m : KV) (n : Nat) : Prop := ∀ c, findK (.string c) m = none ∨ ∃ v : Int, findK (.string c) m = some (.int .i64 v) ∧ -(n : Int) ≤ v ∧ v ≤ n
theorem NumOK.at_ {m : KV} {n : Nat} (h : NumOK m n) (c : ByteArray) : (findK (.string c) m).getD (.int .i64 0) = .int .i64 (numK m c) ∧ -(n : Int) ≤ numK m c ∧ numK m c ≤ n := by
 unfold numK
 rcases h c with h1 | ⟨v, h1, h2, h3⟩
 ·rw [h1]
  exact ⟨rfl, by simp, by simp⟩
 ·rw [h1]
  exact ⟨rfl, h2, h3⟩
theorem NumOK.upd {m : KV} {n : Nat} (h : NumOK m n) (c : ByteArray) {v : Int} (h1 : -((n + 1 : Nat) : Int) ≤ v) (h2 : v ≤ ((n + 1 : Nat) : Int)) : NumOK (updK (.string c) (.int .i64 v) m) (n + 1) := fun d => by
 rw [find_upd]
 by_cases hd : d = c
 ·rw [if_pos hd]
  exact .inr ⟨v, rfl, h1, h2⟩
 ·rw [if_neg hd]
  rcases h d with h3 | ⟨u, h3, h4, h5⟩
  ·exact .inl h3
  ·exact .inr ⟨u, h3, by omega, by omega⟩
theorem NumOK.next {m : KV} {n : Nat} (h : NumOK m n) : NumOK m (n + 1) := fun d => by
 rcases h d with h3 | ⟨u, h3, h4, h5⟩
 ·exact .inl h3
 ·exact .inr ⟨u, h3, by omega, by omega⟩
theorem NumOK.add {m : KV} {n : Nat} (h : NumOK m n) (c : ByteArray) {v : Int} (h1 : -1 ≤ v) (h2 : v ≤ 1) : NumOK (addK m c v) (n + 1) := by
 have := h.at_ c
 exact h.upd c (by omega) (by omega)
structure Dy where
 st : List Sy
 op : KV
 wt : List Wt
 sv : KV
def noteD (log : List Ev) (d : Dy) (i : Nat) (x : Ev) : Dy :=
 if x.kind = 4 then d
 else if x.kind = 0 then ⟨d.st ++ [⟨x.car, i, -1, 0⟩], updK (.string x.car) (.int .i64 d.st.length) d.op, d.wt, addK d.sv x.car 0⟩
 else ⟨updLast x.car (updSy x i) d.st, d.op, d.wt ++ waitOf log d.st x, if x.kind = 1 then addK d.sv x.car 1 else if x.kind = 5 then addK d.sv x.car (-1) else d.sv⟩
theorem noteD_st (log : List Ev) (d : Dy) (i : Nat) (x : Ev) : (noteD log d i x).st = noteS d.st i x := by
 unfold noteD noteS
 split
 ·rfl
 ·split <;> rfl
theorem updLast_mem {c : ByteArray} {f : Sy → Sy} : ∀ {a : List Sy} {y : Sy}, y ∈ updLast c f a → y ∈ a ∨ ∃ z ∈ a, y = f z
 | [], _, h => by simp [updLast] at h
 | z :: a, y, h => by
  unfold updLast at h
  split at h
  ·rcases List.mem_cons.1 h with h | h
   ·exact .inl (List.mem_cons.2 (.inl h))
   ·rcases updLast_mem h with h | ⟨u, h, e⟩
    ·exact .inl (List.mem_cons_of_mem _ h)
    ·exact .inr ⟨u, List.mem_cons_of_mem _ h, e⟩
  ·split at h
   ·rcases List.mem_cons.1 h with h | h
    ·exact .inr ⟨z, List.mem_cons_self .., h⟩
    ·exact .inl (List.mem_cons_of_mem _ h)
   ·exact .inl h
theorem updLast_len {c : ByteArray} {f : Sy → Sy} : ∀ (a : List Sy), (updLast c f a).length = a.length
 | [] => rfl
 | z :: a => by
  unfold updLast
  split
  ·simp [updLast_len a]
  ·split <;> rfl
structure DyOK (log : List Ev) (i : Nat) (d : Dy) : Prop where
 op : ∀ c, hasSy c d.st = true → findK (.string c) d.op = some (.int .i64 (ixSy c 0 d.st))
 st : ∀ y ∈ d.st, 0 ≤ y.came ∧ y.came < i ∧ (0 ≤ (evat log y.came.toNat).time ∧ (evat log y.came.toNat).time ≤ 604800) ∧ 0 ≤ y.decl ∧ y.decl ≤ i
 sl : d.st.length ≤ i
 wl : d.wt.length ≤ i
 sv : NumOK d.sv i
theorem DyOK.zero (log : List Ev) : DyOK log 0 ⟨[], [], [], []⟩ :=
 ⟨fun c h => by simp [hasSy] at h, fun y h => by simp at h, Nat.le_refl _, Nat.le_refl _, fun c => .inl rfl⟩
theorem updSy_ok {x : Ev} {i : Nat} {y : Sy} {log : List Ev} (h : 0 ≤ y.came ∧ y.came < i ∧ (0 ≤ (evat log y.came.toNat).time ∧ (evat log y.came.toNat).time ≤ 604800) ∧ 0 ≤ y.decl ∧ y.decl ≤ i) :
  0 ≤ (updSy x i y).came ∧ (updSy x i y).came < ((i + 1 : Nat) : Int) ∧ (0 ≤ (evat log (updSy x i y).came.toNat).time ∧ (evat log (updSy x i y).came.toNat).time ≤ 604800) ∧ 0 ≤ (updSy x i y).decl ∧ (updSy x i y).decl ≤ ((i + 1 : Nat) : Int) := by
 obtain ⟨h1, h2, h3, h4, h5⟩ := h
 unfold updSy
 split
 ·exact ⟨h1, by simp only; omega, h3, h4, by simp only; omega⟩
 ·split
  ·exact ⟨h1, by simp only; omega, h3, by simp only; omega, by simp only; omega⟩
  ·split
   ·exact ⟨h1, by simp only; omega, h3, h4, by simp only; omega⟩
   ·split
    ·exact ⟨h1, by simp only; omega, h3, h4, by simp only; omega⟩
    ·exact ⟨h1, by omega, h3, h4, by omega⟩
theorem waitOf_len (log : List Ev) (a : List Sy) (x : Ev) : (waitOf log a x).length ≤ 1 := by
 unfold waitOf
 split
 ·exact Nat.le_refl _
 ·exact Nat.zero_le _
theorem DyOK.step {log : List Ev} {i : Nat} {d : Dy} (h : DyOK log i d) {x : Ev} (hx : x = evat log i) (ht : 0 ≤ x.time ∧ x.time ≤ 604800) : DyOK log (i + 1) (noteD log d i x) := by
 obtain ⟨h1, h2, h3, h4, h5⟩ := h
 have hup : ∀ y ∈ d.st, 0 ≤ y.came ∧ y.came < ((i + 1 : Nat) : Int) ∧ (0 ≤ (evat log y.came.toNat).time ∧ (evat log y.came.toNat).time ≤ 604800) ∧ 0 ≤ y.decl ∧ y.decl ≤ ((i + 1 : Nat) : Int) := fun y hy => by
  obtain ⟨g1, g2, g3, g4, g5⟩ := h2 y hy
  exact ⟨g1, by omega, g3, g4, by omega⟩
 unfold noteD
 split
 ·exact ⟨h1, hup, by omega, by omega, h5.next⟩
 ·split
  ·refine ⟨fun c hc => ?_, fun y hy => ?_, ?_, by simp only; omega, h5.add _ (by decide) (by decide)⟩
   ·simp only at hc ⊢
    rw [find_upd, ixSy_new (d := x.car) rfl]
    by_cases h : c = x.car
    ·subst h
     rw [if_pos rfl, if_pos rfl, Nat.zero_add]
    ·rw [if_neg h, if_neg (Ne.symm h)]
     refine h1 c ?_
     rw [hasSy_app] at hc
     simpa [hasSy, Ne.symm h] using hc
   ·rcases List.mem_append.1 hy with hy | hy
    ·exact hup y hy
    ·rw [List.mem_singleton.1 hy]
     simp only [Int.toNat_natCast]
     rw [← hx]
     exact ⟨by omega, by omega, ht, by omega, by omega⟩
   ·simp only [List.length_append, List.length_cons, List.length_nil]
    omega
  ·refine ⟨fun c hc => ?_, fun y hy => ?_, ?_, ?_, ?_⟩
   ·simp only at hc ⊢
    rw [hasSy_upd (updSy_car x i)] at hc
    rw [ixSy_upd (updSy_car x i)]
    exact h1 c hc
   ·rcases updLast_mem hy with hy | ⟨z, hz, rfl⟩
    ·exact hup y hy
    ·exact updSy_ok (h2 z hz)
   ·simp only [updLast_len]
    omega
   ·have := waitOf_len log d.st x
    simp only [List.length_append]
    omega
   ·simp only
    split
    ·exact h5.add _ (by decide) (by decide)
    ·split
     ·exact h5.add _ (by decide) (by decide)
     ·exact h5.next
end Go.Proofs.YtoibondihdhnoaaGreatDoor
