/- Texts in one: Chapter 7: parts of records, work, broken rules; plain functions and the walks of the program; times from 0 to 10000000000, at most 1000 records. -/
import Derived.Test.YtmfmpagfjgpodaaGreatDoorFW12
import Derived.Test.YtmfmpagfjgpodaaGreatDoorFW13
/-! SWC: Chapter 7: parts of records, work, broken rules; plain functions and the walks of the program; times from 0 to 10000000000, at most 1000 records. -/
namespace Go.Proofs.YtmfmpagfjgpodaaGreatDoor
open Go.RowKit
set_option maxRecDepth 100000
set_option maxHeartbeats 1000000
def Timed (l : List Rc) : Prop := ∀ k, k < l.length → 0 ≤ (rcat l k).lo ∧ (rcat l k).lo ≤ 10000000000 ∧ 0 ≤ (rcat l k).hi ∧ (rcat l k).hi ≤ 10000000000
abbrev workA (r : Rul) (l : List Rc) : AV := .agg [I r.brk, I r.rest, I r.stint, I r.shift, I r.week, recsA l]
def pairP (p : Nat × Nat) : List AV := [I (p.1 : Nat), I (p.2 : Nat)]
theorem pairP_one (l : List (Nat × Nat)) : ∀ (k : Nat) (x : List AV), (l.map pairP)[k]? = some x → x.length = 2 ∧ ∀ c ∈ x, oneAV c = true := fun k x hx => by
  obtain ⟨y, hy, rfl⟩ := map_at hx
  exact ⟨rfl, by simp [pairP, oneAV, Value.oneCell']⟩
def newP (l : List Rc) (gap : Int) (k : Nat) : Bool := decide (k = 0) || decide (gap ≤ (rcat l k).lo - (rcat l (k - 1)).hi)
def setL (ps : List (Nat × Nat)) (k : Nat) : List (Nat × Nat) := ps.set (ps.length - 1) ((ps.getD (ps.length - 1) (0, 0)).1, k)
def addP (l : List Rc) (gap : Int) (k : Nat) (ps : List (Nat × Nat)) : List (Nat × Nat) := if newP l gap k then ps ++ [(k, k)] else ps
def partsTo (l : List Rc) (gap : Int) : Nat → List (Nat × Nat)
  | 0 => []
  | k + 1 => setL (addP l gap k (partsTo l gap k)) k
theorem setL_len (ps : List (Nat × Nat)) (k : Nat) : (setL ps k).length = ps.length := by simp [setL]
theorem addP_pos (l : List Rc) (gap : Int) (k : Nat) (ps : List (Nat × Nat)) (h : k = 0 ∨ 0 < ps.length) : 0 < (addP l gap k ps).length := by
  unfold addP newP
  rcases h with h | h
  · subst h
    simp
  · split
    · simp
    · exact h
theorem parts_pos (l : List Rc) (gap : Int) : ∀ k, 0 < k → 0 < (partsTo l gap k).length
  | k + 1, _ => by
    rw [partsTo, setL_len]
    exact addP_pos _ _ _ _ (by
      by_cases h : k = 0
      · exact .inl h
      · exact .inr (parts_pos l gap k (by omega)))
theorem parts_len (l : List Rc) (gap : Int) : ∀ k, (partsTo l gap k).length ≤ k
  | 0 => Nat.le_refl _
  | k + 1 => by
    have := parts_len l gap k
    rw [partsTo, setL_len, addP]
    split
    · simp; omega
    · omega
@[go_sem] theorem partsTo_0 (l : List Rc) (gap : Int) : partsTo l gap 0 = [] := rfl
theorem setL_map (ps : List (Nat × Nat)) (k : Nat) (_h : 0 < ps.length) : (ps.map pairP).set (ps.length - 1) [I ((ps.getD (ps.length - 1) (0, 0)).1 : Nat), I (k : Nat)] = (setL ps k).map pairP := by
  unfold setL
  rw [List.map_set]
  rfl
theorem setL_ne {ps : List (Nat × Nat)} {k : Nat} (h : 0 < ps.length) : ¬ setL ps k = [] := fun e => by
  have := setL_len ps k
  rw [e] at this
  simp at this
  omega
theorem setL_at {ps : List (Nat × Nat)} {n k : Nat} (h : ps.length = n + 1) : (ps.map pairP).set n (List.take 1 (pairP (ps[n]'(by omega))) ++ I (k : Int) :: List.drop 2 (pairP (ps[n]'(by omega)))) = (setL ps k).map pairP := by
  have e : ps.length - 1 = n := by omega
  unfold setL
  rw [e, List.map_set]
  congr 1
  simp [pairP, List.getD, h]
theorem setL_app (ps : List (Nat × Nat)) (k : Nat) : setL (ps ++ [(k, k)]) k = ps ++ [(k, k)] := by
  unfold setL
  have e : (ps ++ [(k, k)]).length - 1 = ps.length := by simp
  rw [e, List.set_append_right _ _ (Nat.le_refl _), Nat.sub_self]
  simp [List.getD]
@[go_sem] theorem wrapZ7 : IntKind.i64.wrap 0 = 0 := rfl
theorem w_parts (r : Rul) (l : List Rc) (gap : Int) (hl : l.length ≤ 1000) (ht : Timed l) (_hg : -100000000000 ≤ gap ∧ gap ≤ 100000000000) :
    VCo Tryz.prog 40 [workA r l, I gap] 57 2 (decide (partsTo l gap l.length = [])) ((partsTo l gap l.length).map pairP) := by
  have HT := Lib.hid ht
  clear ht
  refine VCo_of Tryz.func40 rfl (by kernel_rfl) (by kernel_rfl) rfl Tryz.results40 (by decide) (pairP_one _) fun M0 w0 => ?_
  simp only [Tryz.ntmps40, enumA]
  repeat' (first | (with_reducible first | refine vseq ?_ | refine vthenN ?_ | refine vthenE ?_ | refine vthenR ?_ | refine vret ?_ | refine vskip ?_ | refine vexit ?_ | refine vblock ?_ | refine vblockN ?_ | refine vblockR ?_ | refine vblockH ?_ | refine vrun_nil ?_ | refine vblockE rfl ?_ | refine vregion [5] ?_ | refine vhrun_nil ?_) | ((with_reducible refine vcondT ?_ ?_); (focus (go_simp; done))) | ((with_reducible refine vcondF ?_ ?_); (focus (go_simp; done))) | ((with_reducible first | refine vrun_cons fun KK hKK => ?_ | refine vhrun_cons fun KK hKK => ?_); go_simp; refine hKK _ ?_; clear hKK KK) | ((refine vdrawL 16 16 [5] rfl (by kernel_rfl) (by kernel_rfl) ?_); simp only [List.append, List.take, List.drop]) | ((with_reducible refine vcondS ?_ (fun ht => ?_) (fun ht => ?_)); (focus (go_simp; done)); (all_goals (simp [go_sem] at ht; replace ht := ht.out))) | ((apply vrun_consG0 rfl); (focus (go_simp <;> exact rfl)); (focus (go_simp; done)); (focus (intro hb0; replace hb0 := hb0.out; go_simp <;> (first | exact rfl))); intro KK hKK; go_simp; refine hKK _ ?_; clear hKK KK) | ((apply vhrun_consG0 rfl); (focus (go_simp <;> exact rfl)); (focus (intro hb0; replace hb0 := hb0.out; go_simp <;> (first | exact rfl))); intro KK hKK; go_simp; refine hKK _ ?_; clear hKK KK))
  apply vcnt [1, 2, 9, 10] (fun k => [(11, I (k : Int)), (5, .osl 0)]) (fun k => ([some (.arr 57 2 (decide (partsTo l gap k = [])) ((partsTo l gap k).map pairP))] : Hp))  (l.length)
  · go_simp <;> exact rfl
  · go_simp
  · intro k hk K hK
    obtain ⟨w1, w2, w3, w4, w5, w6⟩ := ixs (m := k) (by omega)
    have hpl := parts_len l gap k
    have hpos : k = 0 ∨ 0 < (partsTo l gap k).length := by
      by_cases h : k = 0
      · exact .inl h
      · exact .inr (parts_pos l gap k (by omega))
    have hap := addP_pos l gap k _ hpos
    have hs : partsTo l gap (k + 1) = setL (addP l gap k (partsTo l gap k)) k := rfl
    have HS := Lib.hid hs
    clear hs
    have hx := HT.out k hk
    by_cases h0 : k = 0
    · subst h0
      have hn : newP l gap 0 = true := rfl
      rw [addP, hn, if_pos rfl] at hap
      have HS : Hid (partsTo l gap (0 + 1) = setL ([] ++ [(0, 0)]) 0) := Lib.hid (by rw [HS.out, addP, hn]; rfl)
      clear hap hpos hpl hn hx
      repeat' (first | (with_reducible first | refine vseq ?_ | refine vthenN ?_ | refine vthenE ?_ | refine vthenR ?_ | refine vret ?_ | refine vskip ?_ | refine vexit ?_ | refine vblock ?_ | refine vblockN ?_ | refine vblockR ?_ | refine vblockH ?_ | refine vrun_nil ?_ | refine vblockE rfl ?_ | refine vregion [] ?_ | refine vhrun_nil ?_) | ((with_reducible refine vcondT ?_ ?_); (focus (go_simp; done))) | ((with_reducible refine vcondF ?_ ?_); (focus (go_simp; done))) | ((with_reducible first | refine vrun_cons fun KK hKK => ?_ | refine vhrun_cons fun KK hKK => ?_); go_simp; refine hKK _ ?_; clear hKK KK) | ((refine vdrawL 16 16 [] rfl (by kernel_rfl) (by kernel_rfl) ?_); simp only [List.take, List.drop]) | ((with_reducible refine vcondS ?_ (fun ht => ?_) (fun ht => ?_)); (focus (go_simp; done)); (all_goals (simp [go_sem] at ht; replace ht := ht.out))) | ((apply vrun_consG0 rfl); (focus (go_simp <;> exact rfl)); (focus (go_simp; done)); (focus (intro hb0; replace hb0 := hb0.out; go_simp <;> (first | exact rfl))); intro KK hKK; go_simp; refine hKK _ ?_; clear hKK KK) | ((apply vhrun_consG0 rfl); (focus (go_simp <;> exact rfl)); (focus (intro hb0; replace hb0 := hb0.out; go_simp <;> (first | exact rfl))); intro KK hKK; go_simp; refine hKK _ ?_; clear hKK KK))
      refine hK _ ?_
      rw [HS.out]
      go_simp
      exact ⟨setL_ne (by decide), rfl⟩
    · have hk0 : 0 < k := by omega
      have hp0 := hpos.resolve_left h0
      have hk1 := ixm hk0 (by omega)
      have hk2 : k - 1 < l.length := by omega
      have hy := HT.out (k - 1) hk2
      have HS : Hid (partsTo l gap (k + 1) = setL (addP l gap k (partsTo l gap k)) k) := HS
      unfold addP newP at HS
      rw [decide_eq_false h0, Bool.false_or] at HS
      obtain ⟨x, hxx⟩ : ∃ x, rcat l k = x := ⟨_, rfl⟩
      obtain ⟨y, hyy⟩ : ∃ y, rcat l (k - 1) = y := ⟨_, rfl⟩
      rw [hxx] at hx HS
      rw [hyy] at hy HS
      have u1 := wrap_eq (x := x.lo - y.hi) (by omega) (by omega)
      generalize partsTo l gap (k + 1) = P' at *
      generalize partsTo l gap k = P at *
      obtain ⟨n, hn⟩ : ∃ n, P.length = n + 1 := ⟨P.length - 1, by omega⟩
      obtain ⟨v1, v2, v3, v4, v5, v6⟩ := ixs (m := n) (by omega)
      have u2 := wrap_eq (x := (n : Int) + 1 - 1) (by omega) (by omega)
      have u3 := wrap_eq (x := (n : Int) + 1 + 1 - 1) (by omega) (by omega)
      have hb : n + 1 + 1 ≤ 1000000000 := by omega
      have hne : ¬ P = [] := fun e => by rw [e] at hn; cases hn
      clear hx hy hap hpos hp0
      by_cases hgp : gap ≤ x.lo - y.hi
      · have HS : Hid (P' = setL (P ++ [(k, k)]) k) := Lib.hid (by rw [HS.out, decide_eq_true hgp]; rfl)
        repeat' (first | (with_reducible first | refine vseq ?_ | refine vthenN ?_ | refine vthenE ?_ | refine vthenR ?_ | refine vret ?_ | refine vskip ?_ | refine vexit ?_ | refine vblock ?_ | refine vblockN ?_ | refine vblockR ?_ | refine vblockH ?_ | refine vrun_nil ?_ | refine vblockE rfl ?_ | refine vregion [] ?_ | refine vhrun_nil ?_) | ((with_reducible refine vcondT ?_ ?_); (focus (go_simp; done))) | ((with_reducible refine vcondF ?_ ?_); (focus (go_simp; done))) | ((with_reducible first | refine vrun_cons fun KK hKK => ?_ | refine vhrun_cons fun KK hKK => ?_); go_simp; refine hKK _ ?_; clear hKK KK) | ((refine vdrawL 16 16 [] rfl (by kernel_rfl) (by kernel_rfl) ?_); simp only [List.take, List.drop]) | ((with_reducible refine vcondS ?_ (fun ht => ?_) (fun ht => ?_)); (focus (go_simp; done)); (all_goals (simp [go_sem] at ht; replace ht := ht.out))) | ((apply vrun_consG0 rfl); (focus (go_simp <;> exact rfl)); (focus (go_simp; done)); (focus (intro hb0; replace hb0 := hb0.out; go_simp <;> (first | exact rfl))); intro KK hKK; go_simp; refine hKK _ ?_; clear hKK KK) | ((apply vhrun_consG0 rfl); (focus (go_simp <;> exact rfl)); (focus (intro hb0; replace hb0 := hb0.out; go_simp <;> (first | exact rfl))); intro KK hKK; go_simp; refine hKK _ ?_; clear hKK KK))
        refine hK _ ?_
        rw [HS.out]
        go_simp
        exact ⟨setL_ne (by simp), by rw [setL_app, List.map_append]; rfl⟩
      · have HS : Hid (P' = setL P k) := Lib.hid (by rw [HS.out, decide_eq_false hgp]; rfl)
        repeat' (first | (with_reducible first | refine vseq ?_ | refine vthenN ?_ | refine vthenE ?_ | refine vthenR ?_ | refine vret ?_ | refine vskip ?_ | refine vexit ?_ | refine vblock ?_ | refine vblockN ?_ | refine vblockR ?_ | refine vblockH ?_ | refine vrun_nil ?_ | refine vblockE rfl ?_ | refine vregion [] ?_ | refine vhrun_nil ?_) | ((with_reducible refine vcondT ?_ ?_); (focus (go_simp; done))) | ((with_reducible refine vcondF ?_ ?_); (focus (go_simp; done))) | ((with_reducible first | refine vrun_cons fun KK hKK => ?_ | refine vhrun_cons fun KK hKK => ?_); go_simp; refine hKK _ ?_; clear hKK KK) | ((refine vdrawL 16 16 [] rfl (by kernel_rfl) (by kernel_rfl) ?_); simp only [List.take, List.drop]) | ((with_reducible refine vcondS ?_ (fun ht => ?_) (fun ht => ?_)); (focus (go_simp; done)); (all_goals (simp [go_sem] at ht; replace ht := ht.out))) | ((apply vrun_consG0 rfl); (focus (go_simp <;> exact rfl)); (focus (go_simp; done)); (focus (intro hb0; replace hb0 := hb0.out; go_simp <;> (first | exact rfl))); intro KK hKK; go_simp; refine hKK _ ?_; clear hKK KK) | ((apply vhrun_consG0 rfl); (focus (go_simp <;> exact rfl)); (focus (intro hb0; replace hb0 := hb0.out; go_simp <;> (first | exact rfl))); intro KK hKK; go_simp; refine hKK _ ?_; clear hKK KK))
        refine hK _ ?_
        rw [HS.out]
        go_simp
        exact ⟨setL_ne (by omega), setL_at hn⟩
  · intro K
    repeat' (first | (with_reducible first | refine vseq ?_ | refine vthenN ?_ | refine vthenE ?_ | refine vthenR ?_ | refine vret ?_ | refine vskip ?_ | refine vexit ?_ | refine vblock ?_ | refine vblockN ?_ | refine vblockR ?_ | refine vblockH ?_ | refine vrun_nil ?_ | refine vblockE rfl ?_ | refine vregion [] ?_ | refine vhrun_nil ?_) | ((with_reducible refine vcondT ?_ ?_); (focus (go_simp; done))) | ((with_reducible refine vcondF ?_ ?_); (focus (go_simp; done))) | ((with_reducible first | refine vrun_cons fun KK hKK => ?_ | refine vhrun_cons fun KK hKK => ?_); go_simp; refine hKK _ ?_; clear hKK KK) | ((refine vdrawL 16 16 [] rfl (by kernel_rfl) (by kernel_rfl) ?_); simp only [List.append, List.take, List.drop]) | ((with_reducible refine vcondS ?_ (fun ht => ?_) (fun ht => ?_)); (focus (go_simp; done)); (all_goals (simp [go_sem] at ht; replace ht := ht.out))) | ((apply vrun_consG0 rfl); (focus (go_simp <;> exact rfl)); (focus (go_simp; done)); (focus (intro hb0; replace hb0 := hb0.out; go_simp <;> (first | exact rfl))); intro KK hKK; go_simp; refine hKK _ ?_; clear hKK KK) | ((apply vhrun_consG0 rfl); (focus (go_simp <;> exact rfl)); (focus (intro hb0; replace hb0 := hb0.out; go_simp <;> (first | exact rfl))); intro KK hKK; go_simp; refine hKK _ ?_; clear hKK KK))
    exact ⟨0, rfl, rfl⟩
end Go.Proofs.YtmfmpagfjgpodaaGreatDoor

/-! SWD: Chapter 7: work, broken rules, trips: plain functions and the walks of the program; times from 0 to 10000000000, at most 1000 records. -/
namespace Go.Proofs.YtmfmpagfjgpodaaGreatDoor
open Go.RowKit
set_option maxRecDepth 100000
set_option maxHeartbeats 1000000
def mnI (x y : Int) : Int := if y < x then y else x
def mxI (x y : Int) : Int := if x < y then y else x
def oneW (l : List Rc) (f u : Int) (k : Nat) : Int := mxI 0 (mnI (rcat l k).hi u - mxI (rcat l k).lo f)
def workT (l : List Rc) (f u : Int) : Nat → Int
  | 0 => 0
  | k + 1 => workT l f u k + oneW l f u k
def Wide (x : Int) : Prop := -20000000000 ≤ x ∧ x ≤ 20000000000
theorem oneW_rng {l : List Rc} {f u : Int} (hf : Wide f) (hu : Wide u) (ht : Timed l) {k : Nat} (hk : k < l.length) : 0 ≤ oneW l f u k ∧ oneW l f u k ≤ 40000000000 := by
  have := ht k hk
  unfold Wide at hf hu
  unfold oneW mxI mnI
  split <;> split <;> split <;> omega
theorem workT_rng {l : List Rc} {f u : Int} (hf : Wide f) (hu : Wide u) (ht : Timed l) : ∀ k, k ≤ l.length → 0 ≤ workT l f u k ∧ workT l f u k ≤ 40000000000 * (k : Int)
  | 0, _ => by simp [workT]
  | k + 1, hk => by
    have h1 := workT_rng hf hu ht k (by omega)
    have h2 := oneW_rng hf hu ht (k := k) (by omega)
    rw [workT]
    omega
@[go_sem] theorem workT_0 (l : List Rc) (f u : Int) : workT l f u 0 = 0 := rfl
theorem w_workIn (l : List Rc) (f u : Int) (hl : l.length ≤ 1000) (ht : Timed l) (hf : Wide f) (hu : Wide u) : VC Tryz.prog 47 [recsA l, I f, I u] (I (workT l f u l.length)) := by
  have HT := Lib.hid ht
  have HF := Lib.hid hf
  have HU := Lib.hid hu
  clear ht hf hu
  refine VC_of Tryz.func47 rfl (by kernel_rfl) (by kernel_rfl) rfl fun M0 w0 => ?_
  simp only [Tryz.ntmps47, Tryz.results47, enumA]
  repeat' (first | (with_reducible first | refine vseq ?_ | refine vthenN ?_ | refine vthenE ?_ | refine vthenR ?_ | refine vret ?_ | refine vskip ?_ | refine vexit ?_ | refine vblock ?_ | refine vblockN ?_ | refine vblockR ?_ | refine vblockH ?_ | refine vrun_nil ?_ | refine vblockE rfl ?_ | refine vregion [] ?_ | refine vhrun_nil ?_) | ((with_reducible refine vcondT ?_ ?_); (focus (go_simp; done))) | ((with_reducible refine vcondF ?_ ?_); (focus (go_simp; done))) | ((with_reducible first | refine vrun_cons fun KK hKK => ?_ | refine vhrun_cons fun KK hKK => ?_); go_simp; refine hKK _ ?_; clear hKK KK) | ((with_reducible refine vcondS ?_ (fun ht => ?_) (fun ht => ?_)); (focus (go_simp; done)); (all_goals (simp [go_sem] at ht; replace ht := ht.out))))
  apply vcnt [1, 2, 10, 11] (fun k => [(7, I (workT l f u k)), (12, I (k : Int))]) (fun k => ([] : Hp))  (l.length)
  · go_simp <;> exact rfl
  · go_simp
  · intro k hk K hK
    obtain ⟨w1, w2, w3, w4, w5, w6⟩ := ixs (m := k) (by omega)
    have h1 := workT_rng HF.out HU.out HT.out k (by omega)
    have h2 := oneW_rng HF.out HU.out HT.out hk
    have hx := HT.out k hk
    have hs : workT l f u (k + 1) = workT l f u k + oneW l f u k := rfl
    have HS := Lib.hid hs
    clear hs
    obtain ⟨x, hxx⟩ : ∃ x, rcat l k = x := ⟨_, rfl⟩
    unfold oneW at HS h2
    rw [hxx] at hx HS h2
    have hf := HF.out
    have hu := HU.out
    unfold Wide at hf hu
    generalize workT l f u (k + 1) = T' at *
    generalize workT l f u k = T at *
    obtain ⟨a, ha⟩ : ∃ a, mnI x.hi u = a := ⟨_, rfl⟩
    obtain ⟨b, hb⟩ : ∃ b, mxI x.lo f = b := ⟨_, rfl⟩
    have ra : -20000000000 ≤ a ∧ a ≤ 20000000000 := by
      rw [← ha]
      unfold mnI
      split <;> omega
    have rb : -20000000000 ≤ b ∧ b ≤ 20000000000 := by
      rw [← hb]
      unfold mxI
      split <;> omega
    rw [ha, hb] at HS h2
    have u1 := wrap_eq (x := a - b) (by omega) (by omega)
    obtain ⟨c, hc⟩ : ∃ c, mxI 0 (a - b) = c := ⟨_, rfl⟩
    rw [hc] at HS h2
    have u2 := wrap_eq (x := T + c) (by omega) (by omega)
    unfold mnI at ha
    unfold mxI at hb hc
    have hc : (if b < a then a - b else 0) = c := by
      rw [← hc]
      split <;> split <;> omega
    clear hx h1 h2 ra rb hf hu
    repeat' (first | (with_reducible first | refine vseq ?_ | refine vthenN ?_ | refine vthenE ?_ | refine vthenR ?_ | refine vret ?_ | refine vskip ?_ | refine vexit ?_ | refine vblock ?_ | refine vblockN ?_ | refine vblockR ?_ | refine vblockH ?_ | refine vrun_nil ?_ | refine vblockE rfl ?_ | refine vregion [] ?_ | refine vhrun_nil ?_) | ((with_reducible refine vcondT ?_ ?_); (focus (go_simp; done))) | ((with_reducible refine vcondF ?_ ?_); (focus (go_simp; done))) | ((with_reducible first | refine vrun_cons fun KK hKK => ?_ | refine vhrun_cons fun KK hKK => ?_); go_simp; refine hKK _ ?_; clear hKK KK) | ((with_reducible refine vcondS ?_ (fun ht => ?_) (fun ht => ?_)); (focus (go_simp; done)); (all_goals (simp [go_sem] at ht; replace ht := ht.out))))
    refine hK _ ?_
    rw [HS.out]
    go_simp
  · intro K
    repeat' (first | (with_reducible first | refine vseq ?_ | refine vthenN ?_ | refine vthenE ?_ | refine vthenR ?_ | refine vret ?_ | refine vskip ?_ | refine vexit ?_ | refine vblock ?_ | refine vblockN ?_ | refine vblockR ?_ | refine vblockH ?_ | refine vrun_nil ?_ | refine vblockE rfl ?_ | refine vregion [] ?_ | refine vhrun_nil ?_) | ((with_reducible refine vcondT ?_ ?_); (focus (go_simp; done))) | ((with_reducible refine vcondF ?_ ?_); (focus (go_simp; done))) | ((with_reducible first | refine vrun_cons fun KK hKK => ?_ | refine vhrun_cons fun KK hKK => ?_); go_simp; refine hKK _ ?_; clear hKK KK) | ((with_reducible refine vcondS ?_ (fun ht => ?_) (fun ht => ?_)); (focus (go_simp; done)); (all_goals (simp [go_sem] at ht; replace ht := ht.out))))
    go_simp
theorem drop_len {l : List Rc} {k j : Nat} (h : j < (l.drop k).length) : rcat (l.drop k) j = rcat l (k + j) := by
  rw [rcat_get h, List.getElem_drop, rcat_get (by rw [List.length_drop] at h; omega)]
theorem take_rc {l : List Rc} {k j : Nat} (h : j < k) (hk : k ≤ l.length) : rcat (l.take k) j = rcat l j := by
  rw [rcat_get (l := l.take k) (by rw [List.length_take]; omega), rcat_get (l := l) (by omega), List.getElem_take]
theorem Timed.drop {l : List Rc} (h : Timed l) (k : Nat) : Timed (l.drop k) := fun j hj => by
  rw [drop_len hj]
  exact h _ (by rw [List.length_drop] at hj; omega)
theorem Timed.take {l : List Rc} (h : Timed l) {k : Nat} (hk : k ≤ l.length) : Timed (l.take k) := fun j hj => by
  rw [List.length_take] at hj
  rw [take_rc (by omega) hk]
  exact h _ (by omega)
def lastF (l : List Rc) (gap : Int) : Nat := ((partsTo l gap l.length).getD ((partsTo l gap l.length).length - 1) (0, 0)).1
theorem setL_fst {ps : List (Nat × Nat)} {k m : Nat} (h : ∀ p ∈ ps, p.1 < m) (h0 : 0 < ps.length) : ∀ p ∈ setL ps k, p.1 < m := fun p hp => by
  unfold setL at hp
  rcases List.mem_or_eq_of_mem_set hp with h1 | rfl
  · exact h p h1
  · show (ps.getD (ps.length - 1) (0, 0)).1 < m
    refine h _ ?_
    rw [List.getD, List.getElem?_eq_getElem (by omega)]
    exact List.getElem_mem _
theorem parts_fst (l : List Rc) (gap : Int) : ∀ k, ∀ p ∈ partsTo l gap k, p.1 < k
  | 0, p, hp => by cases hp
  | k + 1, p, hp => by
    refine setL_fst (ps := addP l gap k (partsTo l gap k)) (fun q hq => ?_) ?_ p hp
    · unfold addP at hq
      split at hq
      · rcases List.mem_append.1 hq with h | h
        · have := parts_fst l gap k q h
          omega
        · have : q = (k, k) := by simpa using h
          rw [this]
          exact Nat.lt_succ_self k
      · have := parts_fst l gap k q hq
        omega
    · exact addP_pos _ _ _ _ (by
        by_cases h : k = 0
        · exact .inl h
        · exact .inr (parts_pos l gap k (by omega)))
theorem lastF_lt {l : List Rc} (gap : Int) (h : 0 < l.length) : lastF l gap < l.length := by
  have hp := parts_pos l gap l.length h
  refine parts_fst l gap l.length _ ?_
  rw [List.getD, List.getElem?_eq_getElem (by omega)]
  exact List.getElem_mem _
theorem w_last (r : Rul) (l : List Rc) (gap : Int) (hl : l.length ≤ 1000) (h0 : 0 < l.length) (ht : Timed l) (hg : -100000000000 ≤ gap ∧ gap ≤ 100000000000) : VC Tryz.prog 77 [workA r l, I gap] (I (lastF l gap : Nat)) := by
  have g := VC_of_own (w_parts r l gap hl ht hg)
  have hp := parts_pos l gap l.length h0
  have hq := parts_len l gap l.length
  unfold lastF
  generalize partsTo l gap l.length = P at *
  obtain ⟨n, hn⟩ : ∃ n, P.length = n + 1 := ⟨P.length - 1, by omega⟩
  obtain ⟨v1, v2, v3, v4, v5, v6⟩ := ixs (m := n) (by omega)
  have u2 := wrap_eq (x := (n : Int) + 1 - 1) (by omega) (by omega)
  have e : (P.getD (P.length - 1) (0, 0)).1 = (P[n]'(by omega)).1 := by simp [List.getD, hn]
  rw [e]
  have hnl : n < P.length := by omega
  have hpp : pairP (P[n]'hnl) = [I ((P[n]'hnl).1 : Nat), I ((P[n]'hnl).2 : Nat)] := rfl
  clear ht hp hq e
  refine VC_of Tryz.func77 rfl (by kernel_rfl) (by kernel_rfl) rfl fun M0 w0 => ?_
  simp only [Tryz.ntmps77, Tryz.results77, enumA]
  repeat' (first | (with_reducible first | refine vseq ?_ | refine vthenN ?_ | refine vthenE ?_ | refine vthenR ?_ | refine vret ?_ | refine vskip ?_ | refine vexit ?_ | refine vblock ?_ | refine vblockN ?_ | refine vblockR ?_ | refine vblockH ?_ | refine vrun_nil ?_ | refine vblockE rfl ?_ | refine vregion [] ?_ | refine vhrun_nil ?_) | ((with_reducible refine vcondT ?_ ?_); (focus (go_simp; done))) | ((with_reducible refine vcondF ?_ ?_); (focus (go_simp; done))) | ((with_reducible first | refine vrun_cons fun KK hKK => ?_ | refine vhrun_cons fun KK hKK => ?_); go_simp; (first | (with_reducible refine ⟨_, g, ?_⟩) | skip); refine hKK _ ?_; clear hKK KK) | ((with_reducible refine vcondS ?_ (fun ht => ?_) (fun ht => ?_)); (focus (go_simp; done)); (all_goals (simp [go_sem] at ht; replace ht := ht.out))))
  go_simp
/-- The first rule that is broken at the last record. -/
def brokenF (r : Rul) (l : List Rc) : Int :=
  if r.stint < workT (l.drop (lastF l r.brk)) (rcat (l.drop (lastF l r.brk)) 0).lo (rcat l (l.length - 1)).hi (l.drop (lastF l r.brk)).length then 1 else
  if r.shift < (rcat l (l.length - 1)).hi - (rcat l (lastF l r.rest)).lo then 2 else
  if r.week < workT l ((rcat l (l.length - 1)).hi - 604800) (rcat l (l.length - 1)).hi l.length then 3 else 0
def SmallRul (r : Rul) : Prop := 0 ≤ r.brk ∧ r.brk ≤ 100000000 ∧ 0 ≤ r.rest ∧ r.rest ≤ 100000000
theorem w_broken (r : Rul) (l : List Rc) (hl : l.length ≤ 1000) (h0 : 0 < l.length) (ht : Timed l) (hr : SmallRul r) : VC Tryz.prog 64 [workA r l] (I (brokenF r l)) := by
  unfold SmallRul at hr
  have g1 := w_last r l r.brk hl h0 ht (by omega)
  have g2 := w_last r l r.rest hl h0 ht (by omega)
  have q1 := lastF_lt r.brk h0
  have q2 := lastF_lt r.rest h0
  have hx := ht (l.length - 1) (by omega)
  unfold brokenF
  generalize lastF l r.brk = a at *
  generalize lastF l r.rest = b at *
  have hdl : 0 < (l.drop a).length := by rw [List.length_drop]; omega
  have hy := ht.drop a 0 hdl
  have hz := ht b q2
  have g3 := w_workIn (l.drop a) (rcat (l.drop a) 0).lo (rcat l (l.length - 1)).hi (by rw [List.length_drop]; omega) (ht.drop a) (by unfold Wide; omega) (by unfold Wide; omega)
  have g4 := w_workIn l ((rcat l (l.length - 1)).hi - 604800) (rcat l (l.length - 1)).hi hl ht (by unfold Wide; omega) (by unfold Wide; omega)
  have e0 : rcat (l.drop a) 0 = rcat l a := by rw [drop_len hdl, Nat.add_zero]
  rw [e0] at g3 hy ⊢
  generalize workT (l.drop a) (rcat l a).lo (rcat l (l.length - 1)).hi (l.drop a).length = W1 at *
  generalize workT l ((rcat l (l.length - 1)).hi - 604800) (rcat l (l.length - 1)).hi l.length = W2 at *
  rw [recsA, List.map_drop] at g3
  have hk1 := ixm h0 (by omega)
  have hk2 : l.length - 1 < l.length := by omega
  obtain ⟨v1, v2, v3, v4, v5, v6⟩ := ixs (m := a) (by omega)
  obtain ⟨x1, x2, x3, x4, x5, x6⟩ := ixs (m := b) (by omega)
  obtain ⟨x, hxx⟩ : ∃ x, rcat l (l.length - 1) = x := ⟨_, rfl⟩
  obtain ⟨y, hyy⟩ : ∃ y, rcat l a = y := ⟨_, rfl⟩
  obtain ⟨z, hzz⟩ : ∃ z, rcat l b = z := ⟨_, rfl⟩
  rw [hxx] at hx g3 g4 ⊢
  rw [hyy] at hy g3
  rw [hzz] at hz ⊢
  have u1 := wrap_eq (x := x.hi - z.lo) (by omega) (by omega)
  have u2 := wrap_eq (x := x.hi - 604800) (by omega) (by omega)
  have hal : a ≤ l.length := by omega
  have hai : (a : Int) ≤ (l.length : Int) := by omega
  have hda : 0 < l.length - a := by omega
  have htk : List.take l.length (l.map Rc.av) = l.map Rc.av := List.take_of_length_le (by simp)
  clear ht hr hx hy hz e0 hdl
  by_cases c1 : r.stint < W1
  · rw [if_pos c1]
    refine VC_of Tryz.func64 rfl (by kernel_rfl) (by kernel_rfl) rfl fun M0 w0 => ?_
    simp only [Tryz.ntmps64, Tryz.results64, enumA]
    repeat' (first | (with_reducible first | refine vseq ?_ | refine vthenN ?_ | refine vthenE ?_ | refine vthenR ?_ | refine vret ?_ | refine vskip ?_ | refine vexit ?_ | refine vblock ?_ | refine vblockN ?_ | refine vblockR ?_ | refine vblockH ?_ | refine vrun_nil ?_ | refine vblockE rfl ?_ | refine vregion [] ?_ | refine vhrun_nil ?_) | ((with_reducible refine vcondT ?_ ?_); (focus (go_simp; done))) | ((with_reducible refine vcondF ?_ ?_); (focus (go_simp; done))) | ((with_reducible first | refine vrun_cons fun KK hKK => ?_ | refine vhrun_cons fun KK hKK => ?_); go_simp; (first | (with_reducible refine ⟨_, g1, ?_⟩) | (with_reducible refine ⟨_, g2, ?_⟩) | (with_reducible refine ⟨_, g3, ?_⟩) | (with_reducible refine ⟨_, g4, ?_⟩) | skip); refine hKK _ ?_; clear hKK KK) | ((refine vdrawL 9 9 [] rfl (by kernel_rfl) (by kernel_rfl) ?_); simp only [List.take, List.drop]) | ((refine vdrawL 11 11 [] rfl (by kernel_rfl) (by kernel_rfl) ?_); simp only [List.append, List.take, List.drop]) | ((refine vdrawL 12 12 [] rfl (by kernel_rfl) (by kernel_rfl) ?_); simp only [List.take, List.drop]) | ((refine vdrawL 17 17 [] rfl (by kernel_rfl) (by kernel_rfl) ?_); simp only [List.append, List.take, List.drop]) | ((with_reducible refine vcondS ?_ (fun ht => ?_) (fun ht => ?_)); (focus (go_simp; done)); (all_goals (simp [go_sem] at ht; replace ht := ht.out))))
    go_simp
  rw [if_neg c1]
  by_cases c2 : r.shift < x.hi - z.lo
  · rw [if_pos c2]
    refine VC_of Tryz.func64 rfl (by kernel_rfl) (by kernel_rfl) rfl fun M0 w0 => ?_
    simp only [Tryz.ntmps64, Tryz.results64, enumA]
    repeat' (first | (with_reducible first | refine vseq ?_ | refine vthenN ?_ | refine vthenE ?_ | refine vthenR ?_ | refine vret ?_ | refine vskip ?_ | refine vexit ?_ | refine vblock ?_ | refine vblockN ?_ | refine vblockR ?_ | refine vblockH ?_ | refine vrun_nil ?_ | refine vblockE rfl ?_ | refine vregion [] ?_ | refine vhrun_nil ?_) | ((with_reducible refine vcondT ?_ ?_); (focus (go_simp; done))) | ((with_reducible refine vcondF ?_ ?_); (focus (go_simp; done))) | ((with_reducible first | refine vrun_cons fun KK hKK => ?_ | refine vhrun_cons fun KK hKK => ?_); go_simp; (first | (with_reducible refine ⟨_, g1, ?_⟩) | (with_reducible refine ⟨_, g2, ?_⟩) | (with_reducible refine ⟨_, g3, ?_⟩) | (with_reducible refine ⟨_, g4, ?_⟩) | skip); refine hKK _ ?_; clear hKK KK) | ((refine vdrawL 9 9 [] rfl (by kernel_rfl) (by kernel_rfl) ?_); simp only [List.take, List.drop]) | ((refine vdrawL 11 11 [] rfl (by kernel_rfl) (by kernel_rfl) ?_); simp only [List.append, List.take, List.drop]) | ((refine vdrawL 12 12 [] rfl (by kernel_rfl) (by kernel_rfl) ?_); simp only [List.take, List.drop]) | ((refine vdrawL 17 17 [] rfl (by kernel_rfl) (by kernel_rfl) ?_); simp only [List.take, List.drop]) | ((with_reducible refine vcondS ?_ (fun ht => ?_) (fun ht => ?_)); (focus (go_simp; done)); (all_goals (simp [go_sem] at ht; replace ht := ht.out))))
    go_simp
  rw [if_neg c2]
  by_cases c3 : r.week < W2
  · rw [if_pos c3]
    refine VC_of Tryz.func64 rfl (by kernel_rfl) (by kernel_rfl) rfl fun M0 w0 => ?_
    simp only [Tryz.ntmps64, Tryz.results64, enumA]
    repeat' (first | (with_reducible first | refine vseq ?_ | refine vthenN ?_ | refine vthenE ?_ | refine vthenR ?_ | refine vret ?_ | refine vskip ?_ | refine vexit ?_ | refine vblock ?_ | refine vblockN ?_ | refine vblockR ?_ | refine vblockH ?_ | refine vrun_nil ?_ | refine vblockE rfl ?_ | refine vregion [] ?_ | refine vhrun_nil ?_) | ((with_reducible refine vcondT ?_ ?_); (focus (go_simp; done))) | ((with_reducible refine vcondF ?_ ?_); (focus (go_simp; done))) | ((with_reducible first | refine vrun_cons fun KK hKK => ?_ | refine vhrun_cons fun KK hKK => ?_); go_simp; (first | (with_reducible refine ⟨_, g1, ?_⟩) | (with_reducible refine ⟨_, g2, ?_⟩) | (with_reducible refine ⟨_, g3, ?_⟩) | (with_reducible refine ⟨_, g4, ?_⟩) | skip); refine hKK _ ?_; clear hKK KK) | ((refine vdrawL 9 9 [] rfl (by kernel_rfl) (by kernel_rfl) ?_); simp only [List.take, List.drop]) | ((refine vdrawL 11 11 [] rfl (by kernel_rfl) (by kernel_rfl) ?_); simp only [List.take, List.drop]) | ((refine vdrawL 12 12 [] rfl (by kernel_rfl) (by kernel_rfl) ?_); simp only [List.take, List.drop]) | ((refine vdrawL 17 17 [] rfl (by kernel_rfl) (by kernel_rfl) ?_); simp only [List.take, List.drop]) | ((with_reducible refine vcondS ?_ (fun ht => ?_) (fun ht => ?_)); (focus (go_simp; done)); (all_goals (simp [go_sem] at ht; replace ht := ht.out))))
    go_simp
  · rw [if_neg c3]
    refine VC_of Tryz.func64 rfl (by kernel_rfl) (by kernel_rfl) rfl fun M0 w0 => ?_
    simp only [Tryz.ntmps64, Tryz.results64, enumA]
    repeat' (first | (with_reducible first | refine vseq ?_ | refine vthenN ?_ | refine vthenE ?_ | refine vthenR ?_ | refine vret ?_ | refine vskip ?_ | refine vexit ?_ | refine vblock ?_ | refine vblockN ?_ | refine vblockR ?_ | refine vblockH ?_ | refine vrun_nil ?_ | refine vblockE rfl ?_ | refine vregion [] ?_ | refine vhrun_nil ?_) | ((with_reducible refine vcondT ?_ ?_); (focus (go_simp; done))) | ((with_reducible refine vcondF ?_ ?_); (focus (go_simp; done))) | ((with_reducible first | refine vrun_cons fun KK hKK => ?_ | refine vhrun_cons fun KK hKK => ?_); go_simp; (first | (with_reducible refine ⟨_, g1, ?_⟩) | (with_reducible refine ⟨_, g2, ?_⟩) | (with_reducible refine ⟨_, g3, ?_⟩) | (with_reducible refine ⟨_, g4, ?_⟩) | skip); refine hKK _ ?_; clear hKK KK) | ((refine vdrawL 9 9 [] rfl (by kernel_rfl) (by kernel_rfl) ?_); simp only [List.take, List.drop]) | ((refine vdrawL 11 11 [] rfl (by kernel_rfl) (by kernel_rfl) ?_); simp only [List.take, List.drop]) | ((refine vdrawL 12 12 [] rfl (by kernel_rfl) (by kernel_rfl) ?_); simp only [List.take, List.drop]) | ((refine vdrawL 17 17 [] rfl (by kernel_rfl) (by kernel_rfl) ?_); simp only [List.take, List.drop]) | ((with_reducible refine vcondS ?_ (fun ht => ?_) (fun ht => ?_)); (focus (go_simp; done)); (all_goals (simp [go_sem] at ht; replace ht := ht.out))))
    go_simp
end Go.Proofs.YtmfmpagfjgpodaaGreatDoor
