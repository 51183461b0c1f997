/- Walks on plain values: the earliest time of a trip, in the library; records with texts of at most 1000 bytes. -/
import Derived.Test.YtmfmpagfjgpodaaVAllow2
import Derived.Test.YtmfmpagfjgpodaaVEarlP
namespace Go.Proofs.Ytmfmpagfjgpodaa
open Go.RowKit
set_option maxRecDepth 100000
@[go_sem] theorem tg3 : tagg Try.prog 3 = false := by kernel_rfl
/-- The rules with records. -/
@[go_sem] def workA (r : Rul) (l : List Rec) : AV := .agg [I r.brk, I r.rest, I r.stint, I r.shift, I r.week, recsA l]
theorem work_inv {w : World} {M : Nat → Prop} {r : Rul} {l : List Rec} {v : Value} (h : V0 w M (workA r l) v) : ∃ A cap, v = .agg #[.int .i64 r.brk, .int .i64 r.rest, .int .i64 r.stint, .int .i64 r.shift, .int .i64 r.week, .slice A l.length cap] ∧ l.length ≤ cap ∧ Sl Rec.cells 3 w A l := by
  cases h with
  | agg _ us hl h1 hv =>
    match us, hl with
    | [u0, u1, u2, u3, u4, u5], _ =>
    obtain ⟨A, cap, e, hc, hS⟩ := recs_inv (hv 5 _ u5 rfl rfl)
    have e0 := V0.lit_inv (hv 0 _ u0 rfl rfl)
    have e1 := V0.lit_inv (hv 1 _ u1 rfl rfl)
    have e2 := V0.lit_inv (hv 2 _ u2 rfl rfl)
    have e3 := V0.lit_inv (hv 3 _ u3 rfl rfl)
    have e4 := V0.lit_inv (hv 4 _ u4 rfl rfl)
    subst e0 e1 e2 e3 e4 e
    exact ⟨A, cap, rfl, hc, hS⟩
theorem work_mk {w : World} {M : Nat → Prop} {r : Rul} {l : List Rec} {v : Value} (h : V0 w M (recsA l) v) (_h1 : v.oneCell' = true) : V0 w M (workA r l) (.agg #[.int .i64 r.brk, .int .i64 r.rest, .int .i64 r.stint, .int .i64 r.shift, .int .i64 r.week, v]) := by
  refine .agg _ [.int .i64 r.brk, .int .i64 r.rest, .int .i64 r.stint, .int .i64 r.shift, .int .i64 r.week, v] rfl (by simp [oneAV, Value.oneCell']) fun i c u hc hu => ?_
  rcases i with _ | _ | _ | _ | _ | _ | i
  · simp at hc hu; subst hc; subst hu; exact .lit _
  · simp at hc hu; subst hc; subst hu; exact .lit _
  · simp at hc hu; subst hc; subst hu; exact .lit _
  · simp at hc hu; subst hc; subst hu; exact .lit _
  · simp at hc hu; subst hc; subst hu; exact .lit _
  · simp at hc hu; subst hc; subst hu; exact h
  · simp at hc
theorem v81 (l : List Rec) (r : Rul) (t : Trip) (hl : l.length ≤ 1000) (hd : Small l) : VC Try.prog 81 [.agg r.av, recsA l, .agg t.av] (.tup [workA r l, I (tripErrP r l t)]) := VC_mk3 (by kernel_rfl) fun w M v1 v2 v3 _ h1 h2 h3 => by
  obtain ⟨A, cap, e2, hcap, hS⟩ := recs_inv h2
  rw [rul_inv h1, trip_inv h3]
  subst e2
  refine (c81 l r t A _ cap w rfl hl hcap hd hS).mono fun e w' ⟨he, hb⟩ => ⟨_, he, hb, ?_⟩
  refine .tup _ [.agg #[.int .i64 r.brk, .int .i64 r.rest, .int .i64 r.stint, .int .i64 r.shift, .int .i64 r.week, .slice A l.length cap], .int .i64 (tripErrP r l t)] rfl fun i c u hc hu => ?_
  rcases i with _ | _ | i
  · simp at hc hu; subst hc; subst hu; exact work_mk (h2.later hb) rfl
  · simp at hc hu; subst hc; subst hu; exact .lit _
  · simp at hc
theorem v82 (l : List Rec) (r : Rul) (t : Trip) (len : Int) (hl : l.length ≤ 100) (hT : Timed l) (h1 : 0 ≤ t.start) (h2 : t.start ≤ 8650000000) (h3 : 0 ≤ len) (h4 : len ≤ 1000000) (h5 : -1 ≤ t.next ∧ t.next ≤ 10000000000) :
    VC Try.prog 82 [workA r l, .agg t.av, I len] (I (breaksP r l t.start t.next len)) := VC_mk3 (by kernel_rfl) fun w M v1 v2 v3 _ g1 g2 g3 => by
  obtain ⟨A, cap, rfl, hcap, hS⟩ := work_inv g1
  rw [trip_inv g2, g3.lit_inv]
  exact (c82 l r t len A _ cap w rfl hl hcap hT hS h1 h2 h3 h4 h5).mono fun e w' ⟨he, hb⟩ => ⟨_, he, hb, .lit _⟩
theorem v93 (l : List Rec) (r : Rul) (hl : l.length ≤ 1000) : VC Try.prog 93 [workA r l] (I (endOf l)) := VC_mk1 (by kernel_rfl) fun w M v1 g1 => by
  obtain ⟨A, cap, rfl, hcap, hS⟩ := work_inv g1
  exact (c93 l r A _ cap w rfl hl hS).mono fun e w' ⟨he, hb⟩ => ⟨_, he, hb, .lit _⟩
theorem v79 (l : List Rec) (f u : Int) (hl : l.length ≤ 1000) (hT : Timed l) (hf : -10000000000 ≤ f ∧ f ≤ 10000000000) (hu : -10000000000 ≤ u ∧ u ≤ 10000000000) : VC Try.prog 79 [recsA l, I f, I u] (I (workIn l f u)) := VC_mk3 (by kernel_rfl) fun w M v1 v2 v3 _ h1 h2 h3 => by
  obtain ⟨A, cap, rfl, hcap, hS⟩ := recs_inv h1
  rw [h2.lit_inv, h3.lit_inv]
  exact (c79 l A _ cap f u w rfl hl hT hf hu hS).mono fun e w' ⟨he, hb⟩ => ⟨_, he, hb, .lit _⟩
/-- There is work enough left in the week, if the trip begins n seconds later. -/
def weekB (r : Rul) (l : List Rec) (start m : Int) (n : Nat) : Bool := decide (m = 0) || decide (workIn l (start + n + m - 604800) (start + n + m) + m ≤ r.week)
theorem weekB_iff {r : Rul} {l : List Rec} {start m : Int} {n : Nat} : weekB r l start m n = true ↔ weekOK r l m (start + n) := by
  unfold weekB weekOK
  simp
theorem work_small {l : List Rec} (hT : Timed l) (hl : l.length ≤ 40) (f t : Int) : 0 ≤ workIn l f t ∧ workIn l f t ≤ 400000000000 := by
  have := workIn_bound hT f t l.length (Nat.le_refl _)
  rw [List.take_length] at this
  omega
theorem v92 (l : List Rec) (r : Rul) (t : Trip) (m : Int) (n : Nat) (hl : l.length ≤ 40) (hT : Timed l) (hs : 0 ≤ t.start ∧ t.start ≤ 8640000000) (hm : 0 ≤ m ∧ m ≤ 200000) (hn : n ≤ 10000001) :
    VC Try.prog 92 [I n, .vp t.av, .vp [I m], .vp [recsA l], .vp r.av] (B (weekB r l t.start m n)) := by
  have hw1 := wrap_eq (x := t.start + n) (by omega) (by omega)
  have hw2 := wrap_eq (x := t.start + n + m) (by omega) (by omega)
  have hw3 := wrap_eq (x := t.start + n + m - 604800) (by omega) (by omega)
  have h79 := v79 l (t.start + n + m - 604800) (t.start + n + m) (by omega) hT (by omega) (by omega)
  have hb := work_small hT hl (t.start + n + m - 604800) (t.start + n + m)
  generalize hR0 : weekB r l t.start m n = R
  unfold weekB at hR0
  generalize workIn l (t.start + n + m - 604800) (t.start + n + m) = W at *
  have hw4 := wrap_eq (x := W + m) (by omega) (by omega)
  have HR := Lib.hid hR0
  have H79 := Lib.hid h79
  clear hR0 h79 hT
  refine VC_of Try.func92 rfl (by kernel_rfl) (by kernel_rfl) rfl fun M0 w0 => ?_
  simp only [Try.ntmps92, Try.results92, enumA]
  by_cases c1 : m = 0
  · repeat (first | (with_reducible refine vseq ?_) | (with_reducible refine vthenN ?_) | (with_reducible refine vthenE ?_) | (with_reducible refine vthenR ?_) | (with_reducible refine vret ?_) | (with_reducible refine vskip ?_) | (with_reducible refine vexit ?_) | (with_reducible refine vblock ?_) | (with_reducible refine vblockN ?_) | (with_reducible refine vblockR ?_) | (with_reducible refine vblockH ?_) | (with_reducible refine vrun_nil ?_) | (with_reducible refine vblockE rfl ?_) | (with_reducible refine vregion [] ?_) | (with_reducible refine vhrun_nil ?_) | ((with_reducible refine vcondT ?_ ?_); (focus (go_simp; done))) | ((with_reducible refine vcondF ?_ ?_); (focus (go_simp; done))) | ((with_reducible refine vrun_cons fun KK hKK => ?_); go_simp; refine hKK _ ?_; clear hKK KK) | ((with_reducible refine vhrun_cons fun KK hKK => ?_); go_simp; refine hKK _ ?_; clear hKK KK))
    refine vdraw 15 [] (by kernel_rfl) (by kernel_rfl) ?_
    simp only [List.take, List.drop]
    repeat (first | (with_reducible refine vseq ?_) | (with_reducible refine vthenN ?_) | (with_reducible refine vthenE ?_) | (with_reducible refine vthenR ?_) | (with_reducible refine vret ?_) | (with_reducible refine vskip ?_) | (with_reducible refine vexit ?_) | (with_reducible refine vblock ?_) | (with_reducible refine vblockN ?_) | (with_reducible refine vblockR ?_) | (with_reducible refine vblockH ?_) | (with_reducible refine vrun_nil ?_) | (with_reducible refine vblockE rfl ?_) | (with_reducible refine vregion [] ?_) | (with_reducible refine vhrun_nil ?_) | ((with_reducible refine vcondT ?_ ?_); (focus (go_simp; done))) | ((with_reducible refine vcondF ?_ ?_); (focus (go_simp; done))) | ((with_reducible refine vrun_cons fun KK hKK => ?_); go_simp; (first | (refine ⟨_, H79.out, ?_⟩) | skip); refine hKK _ ?_; clear hKK KK) | ((with_reducible refine vhrun_cons fun KK hKK => ?_); go_simp; (first | (refine ⟨_, H79.out, ?_⟩) | skip); refine hKK _ ?_; clear hKK KK))
    have e := HR.out
    simp [c1] at e
    subst e
    go_simp
  · by_cases c2 : W + m ≤ r.week
    · repeat (first | (with_reducible refine vseq ?_) | (with_reducible refine vthenN ?_) | (with_reducible refine vthenE ?_) | (with_reducible refine vthenR ?_) | (with_reducible refine vret ?_) | (with_reducible refine vskip ?_) | (with_reducible refine vexit ?_) | (with_reducible refine vblock ?_) | (with_reducible refine vblockN ?_) | (with_reducible refine vblockR ?_) | (with_reducible refine vblockH ?_) | (with_reducible refine vrun_nil ?_) | (with_reducible refine vblockE rfl ?_) | (with_reducible refine vregion [] ?_) | (with_reducible refine vhrun_nil ?_) | ((with_reducible refine vcondT ?_ ?_); (focus (go_simp; done))) | ((with_reducible refine vcondF ?_ ?_); (focus (go_simp; done))) | ((with_reducible refine vrun_cons fun KK hKK => ?_); go_simp; refine hKK _ ?_; clear hKK KK) | ((with_reducible refine vhrun_cons fun KK hKK => ?_); go_simp; refine hKK _ ?_; clear hKK KK))
      refine vdraw 15 [] (by kernel_rfl) (by kernel_rfl) ?_
      simp only [List.take, List.drop]
      repeat (first | (with_reducible refine vseq ?_) | (with_reducible refine vthenN ?_) | (with_reducible refine vthenE ?_) | (with_reducible refine vthenR ?_) | (with_reducible refine vret ?_) | (with_reducible refine vskip ?_) | (with_reducible refine vexit ?_) | (with_reducible refine vblock ?_) | (with_reducible refine vblockN ?_) | (with_reducible refine vblockR ?_) | (with_reducible refine vblockH ?_) | (with_reducible refine vrun_nil ?_) | (with_reducible refine vblockE rfl ?_) | (with_reducible refine vregion [] ?_) | (with_reducible refine vhrun_nil ?_) | ((with_reducible refine vcondT ?_ ?_); (focus (go_simp; done))) | ((with_reducible refine vcondF ?_ ?_); (focus (go_simp; done))) | ((with_reducible refine vrun_cons fun KK hKK => ?_); go_simp; (first | (refine ⟨_, H79.out, ?_⟩) | skip); refine hKK _ ?_; clear hKK KK) | ((with_reducible refine vhrun_cons fun KK hKK => ?_); go_simp; (first | (refine ⟨_, H79.out, ?_⟩) | skip); refine hKK _ ?_; clear hKK KK))
      have e := HR.out
      simp [c1, c2] at e
      subst e
      go_simp
    · repeat (first | (with_reducible refine vseq ?_) | (with_reducible refine vthenN ?_) | (with_reducible refine vthenE ?_) | (with_reducible refine vthenR ?_) | (with_reducible refine vret ?_) | (with_reducible refine vskip ?_) | (with_reducible refine vexit ?_) | (with_reducible refine vblock ?_) | (with_reducible refine vblockN ?_) | (with_reducible refine vblockR ?_) | (with_reducible refine vblockH ?_) | (with_reducible refine vrun_nil ?_) | (with_reducible refine vblockE rfl ?_) | (with_reducible refine vregion [] ?_) | (with_reducible refine vhrun_nil ?_) | ((with_reducible refine vcondT ?_ ?_); (focus (go_simp; done))) | ((with_reducible refine vcondF ?_ ?_); (focus (go_simp; done))) | ((with_reducible refine vrun_cons fun KK hKK => ?_); go_simp; refine hKK _ ?_; clear hKK KK) | ((with_reducible refine vhrun_cons fun KK hKK => ?_); go_simp; refine hKK _ ?_; clear hKK KK))
      refine vdraw 15 [] (by kernel_rfl) (by kernel_rfl) ?_
      simp only [List.take, List.drop]
      repeat (first | (with_reducible refine vseq ?_) | (with_reducible refine vthenN ?_) | (with_reducible refine vthenE ?_) | (with_reducible refine vthenR ?_) | (with_reducible refine vret ?_) | (with_reducible refine vskip ?_) | (with_reducible refine vexit ?_) | (with_reducible refine vblock ?_) | (with_reducible refine vblockN ?_) | (with_reducible refine vblockR ?_) | (with_reducible refine vblockH ?_) | (with_reducible refine vrun_nil ?_) | (with_reducible refine vblockE rfl ?_) | (with_reducible refine vregion [] ?_) | (with_reducible refine vhrun_nil ?_) | ((with_reducible refine vcondT ?_ ?_); (focus (go_simp; done))) | ((with_reducible refine vcondF ?_ ?_); (focus (go_simp; done))) | ((with_reducible refine vrun_cons fun KK hKK => ?_); go_simp; (first | (refine ⟨_, H79.out, ?_⟩) | skip); refine hKK _ ?_; clear hKK KK) | ((with_reducible refine vhrun_cons fun KK hKK => ?_); go_simp; (first | (refine ⟨_, H79.out, ?_⟩) | skip); refine hKK _ ?_; clear hKK KK))
      have e := HR.out
      simp [c1, c2] at e
      subst e
      go_simp
set_option maxRecDepth 100000 in
set_option maxHeartbeats 4000000 in
theorem c85b (p : Nat → Bool) (g : Nat) (fr : Array Value) (N : Nat) (w : World) (hN : N ≤ 100000000)
    (hrun : Enters g)
    (hf : ∀ m, m < N → ∀ w', Below w.heap.size w w' → Calls Try.prog g (#[.int .i64 (m : Nat)] ++ fr) w' fun e w'' => e = .returned (.bool (p m)) ∧ Below w'.heap.size w' w'') :
    Calls Try.prog 85 #[.int .i64 N, .func (.func g) #[] fr] w fun e w' => e = .returned (.int .i64 (searchP p N 0 N)) ∧ Below w.heap.size w w' := by
  unfold Enters at hrun
  have HF := Lib.hid hf
  clear hf
  generalize hR : searchP p N 0 N = R
  go_enter Try.func85, Try.ntmps85
  go_wp2
  go_loopw [5, 6] (fun x y w1 => ∃ i j : Nat, x = .int .i64 i ∧ y = .int .i64 j ∧ i ≤ j ∧ j ≤ N ∧ searchP p (j - i) i j = R ∧ Below w.heap.size w w1) (fun x y _ => (intOf y).toNat - (intOf x).toNat)
  case atStart => exact ⟨0, N, rfl, rfl, by omega, by omega, hR, Below.refl _ _⟩
  case round =>
    obtain ⟨i, j, rfl, rfl, hij, hjN, hs, hb⟩ := hrel
    by_cases hlt : i < j
    · have hm : ((i : Int) + (j : Int)) / 2 = (((i + j) / 2 : Nat) : Int) := by omega
      have hmj : (i + j) / 2 < j := by omega
      have him : i ≤ (i + j) / 2 := by omega
      obtain ⟨f, hf⟩ : ∃ f, j - i = f + 1 := ⟨j - i - 1, by omega⟩
      rw [hf, searchP, if_pos hlt] at hs
      have e1 := HF.out ((i + j) / 2) (by omega)
      generalize hM : (i + j) / 2 = m at *
      go_wp2_with fail
      refine (e1 _ hb).mono ?_
      rintro e w1 ⟨rfl, hb1⟩
      have HB := Lib.hid (And.intro (below_step hb hb1) hs)
      clear hb hb1 hs hM hm
      cases hp : p m
      · have h2 := HB.out.2
        rw [hp] at h2
        go_wp2_with fail
        go_roundw
        case rel => exact ⟨m + 1, j, by go_num, rfl, by omega, by omega, by rw [← h2]; exact searchP_fuel p _ _ _ _ (by omega) (by omega), HB.out.1⟩
        case measure => simp [intOf]; omega
      · have h2 := HB.out.2
        rw [hp] at h2
        go_wp2_with fail
        go_roundw
        case rel => exact ⟨i, m, rfl, rfl, by omega, by omega, by rw [← h2]; exact searchP_fuel p _ _ _ _ (by omega) (by omega), HB.out.1⟩
        case measure => simp [intOf]; omega
    · have : i = j := by omega
      subst this
      rw [Nat.sub_self, searchP] at hs
      subst hs
      go_wp2
      go_ret
      exact ⟨rfl, hb⟩
theorem v85 (p : Nat → Bool) (g : Nat) (fr : List AV) (N : Nat) (h0 : 0 < N) (hN : N ≤ 100000000) (hf : ∀ m : Nat, m < N → VC Try.prog g (I m :: fr) (B (p m))) :
    VC Try.prog 85 [I N, .fn (.func g) [] fr] (I (searchP p N 0 N)) := VC_mk2 (by kernel_rfl) fun w M v1 v2 g1 g2 => by
  rw [g1.lit_inv]
  cases g2 with
  | fn _ _ _ us vs hl hl' hv hv' =>
    obtain rfl : us = [] := List.eq_nil_of_length_eq_zero hl
    refine (c85b p g vs.toArray N w hN (fun a W => run_goes (hf 0 h0).1 a W) fun m hm w' hb => ?_).mono fun e w' ⟨he, hb⟩ => ⟨_, he, hb, .lit _⟩
    have hc := (hf m hm).2 w' (fun _ => False) (.int .i64 m :: vs) (fun _ h => h.elim) (by simp [hl']) fun i c u hc hu => (by
      rcases i with _ | i
      · simp at hc hu
        subst hc
        subst hu
        exact .lit _
      · simp at hc hu
        exact (hv' i c u hc hu).keep (.of_below hb) fun _ _ _ h => h)
    have e1 : (#[Value.int .i64 m] ++ vs.toArray) = (Value.int .i64 m :: vs).toArray := by simp
    rw [e1]
    exact hc.mono fun e w'' ⟨v, he, hb, hv⟩ => ⟨by rw [he, hv.lit_inv], hb⟩
/-- The first time at which the week has room, by halves. -/
theorem week_is {one : Bool} {r : Rul} {l : List Rec} (h : Right one l) {start m : Int} (he : endOf l ≤ start) (hm : 0 ≤ m) : IsWeek r l start m (start + searchP (weekB r l start m) 10000001 0 10000001) ∧ searchP (weekB r l start m) 10000001 0 10000001 ≤ 10000001 := by
  obtain ⟨s1, s2, s3⟩ := search_spec (p := weekB r l start m) (N := 10000001) 10000001 0 10000001 (by omega) (by omega) (Nat.le_refl _) (fun a b hab _ hp => by
    rw [weekB_iff] at hp ⊢
    exact weekOK_mono h (by omega) (by omega) hm hp) (fun k hk => absurd hk (Nat.not_lt_zero k)) (.inl rfl)
  generalize searchP (weekB r l start m) 10000001 0 10000001 = R at *
  refine ⟨⟨by omega, fun s h1 h2 h3 => ?_, fun hR => ?_⟩, s3⟩
  · have := s1 (s - start).toNat (by omega)
    have e : start + ((s - start).toNat : Int) = s := by omega
    rw [← e, ← weekB_iff, this] at h3
    cases h3
  · rcases s2 with h2 | h2
    · omega
    · exact weekB_iff.1 h2
/-- The answer of EarliestStart. -/
def earlOut (v : Int) : AV := if v < 0 then .tup [I 0, I 12] else .tup [I v, I 0]
/-- How late a trip may begin. -/
def stopOf (start : Int) : Int := if 8640000000 < start + 10000000 then 8640000000 else start + 10000000
theorem stopOf_le (start : Int) : stopOf start ≤ start + 10000000 ∧ stopOf start ≤ 8640000000 := by
  unfold stopOf
  split <;> omega
set_option maxHeartbeats 4000000 in
theorem v37 (l : List Rec) (r : Rul) (t : Trip) (h : tripErrP r l t = 0) (hd : Small l) (v : Int) (hv : IsEarl r l t.start (stopOf t.start) t.next t.hi v) : VC Try.prog 37 [.agg r.av, recsA l, .agg t.av] (earlOut v) := by
  obtain ⟨g1, g2, g3, g4, g5, g6, g7, g8, g9⟩ := tripRight h
  have hR0 := (bothErr_zero g1).2
  have hru := rulesErr_zero (bothErr_zero g1).1
  have hT := hR0.timed
  have h81 := v81 l r t (by omega) hd
  rw [h] at h81
  obtain ⟨hW, hWn⟩ := week_is (r := r) hR0 g8 g5.1
  have h92 := fun (n : Nat) (hn : n < 10000001) => v92 l r t t.hi n (by omega) hT g3 g5 (by omega)
  have h85 : VC Try.prog 85 [I 10000001, .fn (.func 92) [] [.vp t.av, .vp [I t.hi], .vp [recsA l], .vp r.av]] (I (searchP (weekB r l t.start t.hi) 10000001 0 10000001)) := v85 _ 92 _ 10000001 (by omega) (by omega) h92
  have h93 := Lib.hid (v93 l r (by omega))
  have hs := stopOf_le t.start
  have hsd : (if 8640000000 < t.start + 10000000 then 8640000000 else t.start + 10000000) = stopOf t.start := rfl
  have hE : 0 ≤ endOf l := by
    rcases Nat.eq_zero_or_pos l.length with h0 | h0
    · unfold endOf; rw [if_pos h0]; exact Int.le_refl _
    · have := endOf_ge hR0 h0
      have := hR0.time h0
      omega
  generalize searchP (weekB r l t.start t.hi) 10000001 0 10000001 = n at *
  have hN := fun (i : Nat) a b => hv.one (try_none (next := t.next) (i := i) hR0 ⟨hru.1, hru.2.1⟩ g8 hs.1 g5 hW a b)
  have hV := fun (i : Nat) a b c => hv.one (try_found (next := t.next) (i := i) hR0 ⟨hru.1, hru.2.1⟩ g8 hs.1 g5 hW a b c)
  have hWl := hW.1
  obtain ⟨W, hWd⟩ : ∃ W, t.start + (n : Int) = W := ⟨_, rfl⟩
  rw [hWd] at hN hV hWl
  generalize stopOf t.start = S at *
  obtain ⟨R, hRd⟩ : ∃ R, earlOut v = R := ⟨_, rfl⟩
  rw [hRd]
  have HN : Hid (∀ (i : Nat), (∀ j, j < i → breaksP r l (tryAt r l W j) t.next t.hi ≠ 0) → (i = 3 ∨ S < tryAt r l W i) → R = .tup [I 0, I 12]) := Lib.hid fun i a b => by
    have := hN i a b
    rw [← hRd, this]
    rfl
  have HV : Hid (∀ (i : Nat), (∀ j, j < i → breaksP r l (tryAt r l W j) t.next t.hi ≠ 0) → tryAt r l W i ≤ S → breaksP r l (tryAt r l W i) t.next t.hi = 0 → R = .tup [I (tryAt r l W i), I 0]) := Lib.hid fun i a b c => by
    have e := hV i a b c
    have h0 : 0 ≤ tryAt r l W i := by
      unfold tryAt
      split
      · omega
      · exact Int.le_trans (show 0 ≤ W by omega) (Int.le_max_left ..)
    rw [← hRd, e, earlOut, if_neg (by omega)]
  have H81 := Lib.hid h81
  have H85 := Lib.hid h85
  have HT := Lib.hid hT
  have hhi := g5
  have hWw := wrap_eq (x := t.start + (n : Int)) (by omega) (by omega)
  have hWw2 := wrap_eq (x := W) (by omega) (by omega)
  have k1 := wrap_eq (x := 1) (by omega) (by omega)
  have k2 := wrap_eq (x := 2) (by omega) (by omega)
  have k3 := wrap_eq (x := 3) (by omega) (by omega)
  have hww := wrap_eq (x := t.start + 10000000) (by omega) (by omega)
  have b1 := g3
  have b2 := g7
  have b3 := g2
  have b4 := g8
  have hWhi : W ≤ 8650000001 := by omega
  clear hN hV hv h81 h85 h92 hT hRd hW h g1 g2 g3 g4 g5 g6 g7 g8 g9 hR0 hd
  refine VC_of Try.func37 rfl (by kernel_rfl) (by kernel_rfl) rfl fun M0 w0 => ?_
  simp only [Try.ntmps37, Try.results37, enumA]
  repeat (first | (with_reducible refine vseq ?_) | (with_reducible refine vthenN ?_) | (with_reducible refine vthenE ?_) | (with_reducible refine vthenR ?_) | (with_reducible refine vret ?_) | (with_reducible refine vskip ?_) | (with_reducible refine vexit ?_) | (with_reducible refine vblock ?_) | (with_reducible refine vblockN ?_) | (with_reducible refine vblockR ?_) | (with_reducible refine vblockH ?_) | (with_reducible refine vrun_nil ?_) | (with_reducible refine vblockE rfl ?_) | (with_reducible refine vregion [] ?_) | (with_reducible refine vhrun_nil ?_) | ((with_reducible refine vcondT ?_ ?_); (focus (go_simp; done))) | ((with_reducible refine vcondF ?_ ?_); (focus (go_simp; done))) | ((with_reducible refine vrun_cons fun KK hKK => ?_); go_simp; (first | (refine ⟨_, H81.out, ?_⟩) | skip); refine hKK _ ?_; clear hKK KK) | ((with_reducible refine vhrun_cons fun KK hKK => ?_); go_simp; (first | (refine ⟨_, H81.out, ?_⟩) | skip); refine hKK _ ?_; clear hKK KK))
  refine vdrawC 9 [] (fun i => i == 7 || i == 8) (by kernel_rfl) (by kernel_rfl) (by kernel_rfl) (by go_simp) (by go_simp) ?_
  simp only [List.take, List.drop]
  repeat (first | (with_reducible refine vseq ?_) | (with_reducible refine vthenN ?_) | (with_reducible refine vthenE ?_) | (with_reducible refine vthenR ?_) | (with_reducible refine vret ?_) | (with_reducible refine vskip ?_) | (with_reducible refine vexit ?_) | (with_reducible refine vblock ?_) | (with_reducible refine vblockN ?_) | (with_reducible refine vblockR ?_) | (with_reducible refine vblockH ?_) | (with_reducible refine vrun_nil ?_) | (with_reducible refine vblockE rfl ?_) | (with_reducible refine vregion [] ?_) | (with_reducible refine vhrun_nil ?_) | ((with_reducible refine vcondT ?_ ?_); (focus (go_simp; done))) | ((with_reducible refine vcondF ?_ ?_); (focus (go_simp; done))) | ((with_reducible refine vrun_cons fun KK hKK => ?_); go_simp; refine hKK _ ?_; clear hKK KK) | ((with_reducible refine vhrun_cons fun KK hKK => ?_); go_simp; refine hKK _ ?_; clear hKK KK) | ((with_reducible refine vhc_cons rfl fun KK hKK => ?_); go_simp; refine hKK _ (by go_simp) ?_; clear hKK KK) | ((with_reducible refine vhc_nil ?_); simp only [List.cons_append, List.nil_append, List.append_nil, newCs]))
  refine vhc_chain [some (.box [I 0])] none (.ref 1 0) rfl ⟨rfl, fun _ => rfl, fun _ h => by cases h⟩ ?_ ?_
  · intro s2 hs2
    go_simp
  refine vhc_chain [some (.box [I t.hi])] none .any rfl ⟨rfl, fun _ => rfl, fun _ h => by cases h⟩ ?_ ?_
  · intro s2 hs2
    have q1 : lkp s2 10 = .ref 1 0 := (hs2 10 (by simp [Op.operands]) (by go_simp)).trans (by go_simp)
    have q2 : lkp s2 28 = I t.hi := (hs2 28 (by simp [Op.operands]) (by go_simp)).trans (by go_simp)
    clear hs2
    go_simp
  repeat (first | (with_reducible refine vseq ?_) | (with_reducible refine vthenN ?_) | (with_reducible refine vthenE ?_) | (with_reducible refine vthenR ?_) | (with_reducible refine vret ?_) | (with_reducible refine vskip ?_) | (with_reducible refine vexit ?_) | (with_reducible refine vblock ?_) | (with_reducible refine vblockN ?_) | (with_reducible refine vblockR ?_) | (with_reducible refine vblockH ?_) | (with_reducible refine vrun_nil ?_) | (with_reducible refine vblockE rfl ?_) | (with_reducible refine vregion [] ?_) | (with_reducible refine vhrun_nil ?_) | ((with_reducible refine vcondT ?_ ?_); (focus (go_simp; done))) | ((with_reducible refine vcondF ?_ ?_); (focus (go_simp; done))) | ((with_reducible refine vrun_cons fun KK hKK => ?_); go_simp; refine hKK _ ?_; clear hKK KK) | ((with_reducible refine vhrun_cons fun KK hKK => ?_); go_simp; refine hKK _ ?_; clear hKK KK) | ((with_reducible refine vhc_cons rfl fun KK hKK => ?_); go_simp; refine hKK _ (by go_simp) ?_; clear hKK KK) | ((with_reducible refine vhc_nil ?_); simp only [List.cons_append, List.nil_append, newCs]))
  repeat (first | (with_reducible refine vseq ?_) | (with_reducible refine vthenN ?_) | (with_reducible refine vthenE ?_) | (with_reducible refine vthenR ?_) | (with_reducible refine vret ?_) | (with_reducible refine vskip ?_) | (with_reducible refine vexit ?_) | (with_reducible refine vblock ?_) | (with_reducible refine vblockN ?_) | (with_reducible refine vblockR ?_) | (with_reducible refine vblockH ?_) | (with_reducible refine vrun_nil ?_) | (with_reducible refine vblockE rfl ?_) | (with_reducible refine vregion [] ?_) | (with_reducible refine vhrun_nil ?_) | ((with_reducible refine vcondT ?_ ?_); (focus (go_simp; done))) | ((with_reducible refine vcondF ?_ ?_); (focus (go_simp; done))) | ((with_reducible refine vrun_cons fun KK hKK => ?_); go_simp; refine hKK _ ?_; clear hKK KK) | ((with_reducible refine vhrun_cons fun KK hKK => ?_); go_simp; refine hKK _ ?_; clear hKK KK))
  refine vdraw 6 [] (by kernel_rfl) (by kernel_rfl) ?_
  simp only [List.take, List.drop]
  repeat (first | (with_reducible refine vseq ?_) | (with_reducible refine vthenN ?_) | (with_reducible refine vthenE ?_) | (with_reducible refine vthenR ?_) | (with_reducible refine vret ?_) | (with_reducible refine vskip ?_) | (with_reducible refine vexit ?_) | (with_reducible refine vblock ?_) | (with_reducible refine vblockN ?_) | (with_reducible refine vblockR ?_) | (with_reducible refine vblockH ?_) | (with_reducible refine vrun_nil ?_) | (with_reducible refine vblockE rfl ?_) | (with_reducible refine vregion [] ?_) | (with_reducible refine vhrun_nil ?_) | ((with_reducible refine vcondT ?_ ?_); (focus (go_simp; done))) | ((with_reducible refine vcondF ?_ ?_); (focus (go_simp; done))) | ((with_reducible refine vrun_cons fun KK hKK => ?_); go_simp; (first | (refine ⟨_, ⟨H85.out, rfl⟩, ?_⟩) | skip); refine hKK _ ?_; clear hKK KK) | ((with_reducible refine vhrun_cons fun KK hKK => ?_); go_simp; (first | (refine ⟨_, ⟨H85.out, rfl⟩, ?_⟩) | skip); refine hKK _ ?_; clear hKK KK))
  refine vloop (α := Int) (fun i => ⟨[(43, I i), (42, .agg [I 0, I r.brk, I r.rest]), (12, I W), (4, .vp [recsA l]), (8, .ref 0 0), (5, .vp t.av), (10, .ref 1 0), (11, I S)], [some (.box [I r.brk, I r.rest, I r.stint, I r.shift, I r.week, recsA l]), some (.box [I t.hi])]⟩) (fun i => 0 ≤ i ∧ i ≤ 3 ∧ Hid (∀ j : Nat, (j : Int) < i → breaksP r l (tryAt r l W j) t.next t.hi ≠ 0)) (fun i => (3 - i).toNat) 0 ⟨by omega, by omega, Lib.hid fun j hj => by omega⟩ (by go_simp) ?_
  rintro i ⟨i0, i3, hb⟩ K hR
  rcases (show i = 0 ∨ i = 1 ∨ i = 2 ∨ i = 3 by omega) with h0 | h1 | h2 | h3
  · subst h0
    by_cases hl0 : l.length = 0
    · have hl0' : (l.length : Int) = 0 := by omega
      obtain ⟨A, hA⟩ : ∃ A, tryAt r l W 0 = A := ⟨_, rfl⟩
      have hAW : A = W := by rw [← hA]; unfold tryAt; rw [if_pos hl0]
      subst hAW
      by_cases c1 : S < A
      · have c1' : ¬ A ≤ S := by omega
        have hres := Lib.hid (HN.out 0 (fun j hj => hb.out j (by omega)) (.inr (by rw [hA]; exact c1)))
        clear hA c1'
        repeat (first | (with_reducible refine vseq ?_) | (with_reducible refine vthenN ?_) | (with_reducible refine vthenE ?_) | (with_reducible refine vthenR ?_) | (with_reducible refine vret ?_) | (with_reducible refine vskip ?_) | (with_reducible refine vexit ?_) | (with_reducible refine vblock ?_) | (with_reducible refine vblockN ?_) | (with_reducible refine vblockR ?_) | (with_reducible refine vblockH ?_) | (with_reducible refine vrun_nil ?_) | (with_reducible refine vblockE rfl ?_) | (with_reducible refine vregion [] ?_) | (with_reducible refine vhrun_nil ?_) | ((with_reducible refine vcondT ?_ ?_); (focus (go_simp; done))) | ((with_reducible refine vcondF ?_ ?_); (focus (go_simp; done))) | ((with_reducible refine vrun_cons fun KK hKK => ?_); go_simp; (first | (refine ⟨_, h93.out, ?_⟩) | skip); refine hKK _ ?_; clear hKK KK) | ((with_reducible refine vhrun_cons fun KK hKK => ?_); go_simp; (first | (refine ⟨_, h93.out, ?_⟩) | skip); refine hKK _ ?_; clear hKK KK))
        rw [hres.out]
        go_simp
      · have c1' : A ≤ S := by omega
        have h82 := Lib.hid (v82 l r ⟨A, 0, 0, t.next⟩ t.hi (by omega) HT.out (by show 0 ≤ A; omega) (by show A ≤ _; omega) hhi.1 (by omega) (by show -1 ≤ t.next ∧ t.next ≤ _; omega))
        by_cases c2 : breaksP r l A t.next t.hi = 0
        · have hres := Lib.hid (HV.out 0 (fun j hj => hb.out j (by omega)) (by rw [hA]; exact c1') (by rw [hA]; exact c2))
          rw [hA] at hres
          clear hA c1'
          repeat (first | (with_reducible refine vseq ?_) | (with_reducible refine vthenN ?_) | (with_reducible refine vthenE ?_) | (with_reducible refine vthenR ?_) | (with_reducible refine vret ?_) | (with_reducible refine vskip ?_) | (with_reducible refine vexit ?_) | (with_reducible refine vblock ?_) | (with_reducible refine vblockN ?_) | (with_reducible refine vblockR ?_) | (with_reducible refine vblockH ?_) | (with_reducible refine vrun_nil ?_) | (with_reducible refine vblockE rfl ?_) | (with_reducible refine vregion [] ?_) | (with_reducible refine vhrun_nil ?_) | ((with_reducible refine vcondT ?_ ?_); (focus (go_simp; done))) | ((with_reducible refine vcondF ?_ ?_); (focus (go_simp; done))) | ((with_reducible refine vrun_cons fun KK hKK => ?_); go_simp; (first | (refine ⟨_, h93.out, ?_⟩) | (refine ⟨_, h82.out, ?_⟩) | skip); refine hKK _ ?_; clear hKK KK) | ((with_reducible refine vhrun_cons fun KK hKK => ?_); go_simp; (first | (refine ⟨_, h93.out, ?_⟩) | (refine ⟨_, h82.out, ?_⟩) | skip); refine hKK _ ?_; clear hKK KK))
          rw [hres.out]
          go_simp
        · have hRR := Lib.hid hA
          clear hA c1'
          repeat (first | (with_reducible refine vseq ?_) | (with_reducible refine vthenN ?_) | (with_reducible refine vthenE ?_) | (with_reducible refine vthenR ?_) | (with_reducible refine vret ?_) | (with_reducible refine vskip ?_) | (with_reducible refine vexit ?_) | (with_reducible refine vblock ?_) | (with_reducible refine vblockN ?_) | (with_reducible refine vblockR ?_) | (with_reducible refine vblockH ?_) | (with_reducible refine vrun_nil ?_) | (with_reducible refine vblockE rfl ?_) | (with_reducible refine vregion [] ?_) | (with_reducible refine vhrun_nil ?_) | ((with_reducible refine vcondT ?_ ?_); (focus (go_simp; done))) | ((with_reducible refine vcondF ?_ ?_); (focus (go_simp; done))) | ((with_reducible refine vrun_cons fun KK hKK => ?_); go_simp; (first | (refine ⟨_, h93.out, ?_⟩) | (refine ⟨_, h82.out, ?_⟩) | skip); refine hKK _ ?_; clear hKK KK) | ((with_reducible refine vhrun_cons fun KK hKK => ?_); go_simp; (first | (refine ⟨_, h93.out, ?_⟩) | (refine ⟨_, h82.out, ?_⟩) | skip); refine hKK _ ?_; clear hKK KK))
          have hA := hRR.out
          refine hR _ 1 ⟨by omega, by omega, Lib.hid fun j hj => (by
            rcases Int.lt_or_le (j : Int) 0 with h | h
            · exact hb.out j h
            · have : j = 0 := by omega
              rw [this, hA]
              exact c2)⟩ (by omega) ?_
          go_simp
    · have hl0' : (0 : Int) < l.length := by omega
      have hl0n : 0 < l.length := by omega
      obtain ⟨A, hA⟩ : ∃ A, tryAt r l W 0 = A := ⟨_, rfl⟩
      have hmx : (if W < endOf l + gapOf r 0 then endOf l + gapOf r 0 else W) = A := by
        rw [← hA]
        unfold tryAt
        rw [if_neg hl0, Int.max_def]
        split <;> split <;> omega
      have hg : gapOf r 0 = 0 := rfl
      rw [hg, Int.add_zero] at hmx
      clear hg
      have hge : W ≤ A := by rw [← hmx]; split <;> omega
      have hw := wrap_eq (x := endOf l) (by omega) (by omega)
      by_cases c1 : S < A
      · have c1' : ¬ A ≤ S := by omega
        have hres := Lib.hid (HN.out 0 (fun j hj => hb.out j (by omega)) (.inr (by rw [hA]; exact c1)))
        clear hA c1'
        repeat (first | (with_reducible refine vseq ?_) | (with_reducible refine vthenN ?_) | (with_reducible refine vthenE ?_) | (with_reducible refine vthenR ?_) | (with_reducible refine vret ?_) | (with_reducible refine vskip ?_) | (with_reducible refine vexit ?_) | (with_reducible refine vblock ?_) | (with_reducible refine vblockN ?_) | (with_reducible refine vblockR ?_) | (with_reducible refine vblockH ?_) | (with_reducible refine vrun_nil ?_) | (with_reducible refine vblockE rfl ?_) | (with_reducible refine vregion [] ?_) | (with_reducible refine vhrun_nil ?_) | ((with_reducible refine vcondT ?_ ?_); (focus (go_simp; done))) | ((with_reducible refine vcondF ?_ ?_); (focus (go_simp; done))) | ((with_reducible refine vrun_cons fun KK hKK => ?_); go_simp; (first | (refine ⟨_, h93.out, ?_⟩) | skip); refine hKK _ ?_; clear hKK KK) | ((with_reducible refine vhrun_cons fun KK hKK => ?_); go_simp; (first | (refine ⟨_, h93.out, ?_⟩) | skip); refine hKK _ ?_; clear hKK KK))
        rw [hres.out]
        go_simp
      · have c1' : A ≤ S := by omega
        have h82 := Lib.hid (v82 l r ⟨A, 0, 0, t.next⟩ t.hi (by omega) HT.out (by show 0 ≤ A; omega) (by show A ≤ _; omega) hhi.1 (by omega) (by show -1 ≤ t.next ∧ t.next ≤ _; omega))
        by_cases c2 : breaksP r l A t.next t.hi = 0
        · have hres := Lib.hid (HV.out 0 (fun j hj => hb.out j (by omega)) (by rw [hA]; exact c1') (by rw [hA]; exact c2))
          rw [hA] at hres
          clear hA c1'
          repeat (first | (with_reducible refine vseq ?_) | (with_reducible refine vthenN ?_) | (with_reducible refine vthenE ?_) | (with_reducible refine vthenR ?_) | (with_reducible refine vret ?_) | (with_reducible refine vskip ?_) | (with_reducible refine vexit ?_) | (with_reducible refine vblock ?_) | (with_reducible refine vblockN ?_) | (with_reducible refine vblockR ?_) | (with_reducible refine vblockH ?_) | (with_reducible refine vrun_nil ?_) | (with_reducible refine vblockE rfl ?_) | (with_reducible refine vregion [] ?_) | (with_reducible refine vhrun_nil ?_) | ((with_reducible refine vcondT ?_ ?_); (focus (go_simp; done))) | ((with_reducible refine vcondF ?_ ?_); (focus (go_simp; done))) | ((with_reducible refine vrun_cons fun KK hKK => ?_); go_simp; (first | (refine ⟨_, h93.out, ?_⟩) | (refine ⟨_, h82.out, ?_⟩) | skip); refine hKK _ ?_; clear hKK KK) | ((with_reducible refine vhrun_cons fun KK hKK => ?_); go_simp; (first | (refine ⟨_, h93.out, ?_⟩) | (refine ⟨_, h82.out, ?_⟩) | skip); refine hKK _ ?_; clear hKK KK))
          rw [hres.out]
          go_simp
        · have hRR := Lib.hid hA
          clear hA c1'
          repeat (first | (with_reducible refine vseq ?_) | (with_reducible refine vthenN ?_) | (with_reducible refine vthenE ?_) | (with_reducible refine vthenR ?_) | (with_reducible refine vret ?_) | (with_reducible refine vskip ?_) | (with_reducible refine vexit ?_) | (with_reducible refine vblock ?_) | (with_reducible refine vblockN ?_) | (with_reducible refine vblockR ?_) | (with_reducible refine vblockH ?_) | (with_reducible refine vrun_nil ?_) | (with_reducible refine vblockE rfl ?_) | (with_reducible refine vregion [] ?_) | (with_reducible refine vhrun_nil ?_) | ((with_reducible refine vcondT ?_ ?_); (focus (go_simp; done))) | ((with_reducible refine vcondF ?_ ?_); (focus (go_simp; done))) | ((with_reducible refine vrun_cons fun KK hKK => ?_); go_simp; (first | (refine ⟨_, h93.out, ?_⟩) | (refine ⟨_, h82.out, ?_⟩) | skip); refine hKK _ ?_; clear hKK KK) | ((with_reducible refine vhrun_cons fun KK hKK => ?_); go_simp; (first | (refine ⟨_, h93.out, ?_⟩) | (refine ⟨_, h82.out, ?_⟩) | skip); refine hKK _ ?_; clear hKK KK))
          have hA := hRR.out
          refine hR _ 1 ⟨by omega, by omega, Lib.hid fun j hj => (by
            rcases Int.lt_or_le (j : Int) 0 with h | h
            · exact hb.out j h
            · have : j = 0 := by omega
              rw [this, hA]
              exact c2)⟩ (by omega) ?_
          go_simp
  · subst h1
    by_cases hl0 : l.length = 0
    · have hl0' : (l.length : Int) = 0 := by omega
      obtain ⟨A, hA⟩ : ∃ A, tryAt r l W 1 = A := ⟨_, rfl⟩
      have hAW : A = W := by rw [← hA]; unfold tryAt; rw [if_pos hl0]
      subst hAW
      by_cases c1 : S < A
      · have c1' : ¬ A ≤ S := by omega
        have hres := Lib.hid (HN.out 1 (fun j hj => hb.out j (by omega)) (.inr (by rw [hA]; exact c1)))
        clear hA c1'
        repeat (first | (with_reducible refine vseq ?_) | (with_reducible refine vthenN ?_) | (with_reducible refine vthenE ?_) | (with_reducible refine vthenR ?_) | (with_reducible refine vret ?_) | (with_reducible refine vskip ?_) | (with_reducible refine vexit ?_) | (with_reducible refine vblock ?_) | (with_reducible refine vblockN ?_) | (with_reducible refine vblockR ?_) | (with_reducible refine vblockH ?_) | (with_reducible refine vrun_nil ?_) | (with_reducible refine vblockE rfl ?_) | (with_reducible refine vregion [] ?_) | (with_reducible refine vhrun_nil ?_) | ((with_reducible refine vcondT ?_ ?_); (focus (go_simp; done))) | ((with_reducible refine vcondF ?_ ?_); (focus (go_simp; done))) | ((with_reducible refine vrun_cons fun KK hKK => ?_); go_simp; (first | (refine ⟨_, h93.out, ?_⟩) | skip); refine hKK _ ?_; clear hKK KK) | ((with_reducible refine vhrun_cons fun KK hKK => ?_); go_simp; (first | (refine ⟨_, h93.out, ?_⟩) | skip); refine hKK _ ?_; clear hKK KK))
        rw [hres.out]
        go_simp
      · have c1' : A ≤ S := by omega
        have h82 := Lib.hid (v82 l r ⟨A, 0, 0, t.next⟩ t.hi (by omega) HT.out (by show 0 ≤ A; omega) (by show A ≤ _; omega) hhi.1 (by omega) (by show -1 ≤ t.next ∧ t.next ≤ _; omega))
        by_cases c2 : breaksP r l A t.next t.hi = 0
        · have hres := Lib.hid (HV.out 1 (fun j hj => hb.out j (by omega)) (by rw [hA]; exact c1') (by rw [hA]; exact c2))
          rw [hA] at hres
          clear hA c1'
          repeat (first | (with_reducible refine vseq ?_) | (with_reducible refine vthenN ?_) | (with_reducible refine vthenE ?_) | (with_reducible refine vthenR ?_) | (with_reducible refine vret ?_) | (with_reducible refine vskip ?_) | (with_reducible refine vexit ?_) | (with_reducible refine vblock ?_) | (with_reducible refine vblockN ?_) | (with_reducible refine vblockR ?_) | (with_reducible refine vblockH ?_) | (with_reducible refine vrun_nil ?_) | (with_reducible refine vblockE rfl ?_) | (with_reducible refine vregion [] ?_) | (with_reducible refine vhrun_nil ?_) | ((with_reducible refine vcondT ?_ ?_); (focus (go_simp; done))) | ((with_reducible refine vcondF ?_ ?_); (focus (go_simp; done))) | ((with_reducible refine vrun_cons fun KK hKK => ?_); go_simp; (first | (refine ⟨_, h93.out, ?_⟩) | (refine ⟨_, h82.out, ?_⟩) | skip); refine hKK _ ?_; clear hKK KK) | ((with_reducible refine vhrun_cons fun KK hKK => ?_); go_simp; (first | (refine ⟨_, h93.out, ?_⟩) | (refine ⟨_, h82.out, ?_⟩) | skip); refine hKK _ ?_; clear hKK KK))
          rw [hres.out]
          go_simp
        · have hRR := Lib.hid hA
          clear hA c1'
          repeat (first | (with_reducible refine vseq ?_) | (with_reducible refine vthenN ?_) | (with_reducible refine vthenE ?_) | (with_reducible refine vthenR ?_) | (with_reducible refine vret ?_) | (with_reducible refine vskip ?_) | (with_reducible refine vexit ?_) | (with_reducible refine vblock ?_) | (with_reducible refine vblockN ?_) | (with_reducible refine vblockR ?_) | (with_reducible refine vblockH ?_) | (with_reducible refine vrun_nil ?_) | (with_reducible refine vblockE rfl ?_) | (with_reducible refine vregion [] ?_) | (with_reducible refine vhrun_nil ?_) | ((with_reducible refine vcondT ?_ ?_); (focus (go_simp; done))) | ((with_reducible refine vcondF ?_ ?_); (focus (go_simp; done))) | ((with_reducible refine vrun_cons fun KK hKK => ?_); go_simp; (first | (refine ⟨_, h93.out, ?_⟩) | (refine ⟨_, h82.out, ?_⟩) | skip); refine hKK _ ?_; clear hKK KK) | ((with_reducible refine vhrun_cons fun KK hKK => ?_); go_simp; (first | (refine ⟨_, h93.out, ?_⟩) | (refine ⟨_, h82.out, ?_⟩) | skip); refine hKK _ ?_; clear hKK KK))
          have hA := hRR.out
          refine hR _ 2 ⟨by omega, by omega, Lib.hid fun j hj => (by
            rcases Int.lt_or_le (j : Int) 1 with h | h
            · exact hb.out j h
            · have : j = 1 := by omega
              rw [this, hA]
              exact c2)⟩ (by omega) ?_
          go_simp
    · have hl0' : (0 : Int) < l.length := by omega
      have hl0n : 0 < l.length := by omega
      obtain ⟨A, hA⟩ : ∃ A, tryAt r l W 1 = A := ⟨_, rfl⟩
      have hmx : (if W < endOf l + gapOf r 1 then endOf l + gapOf r 1 else W) = A := by
        rw [← hA]
        unfold tryAt
        rw [if_neg hl0, Int.max_def]
        split <;> split <;> omega
      have hg : gapOf r 1 = r.brk := rfl
      rw [hg] at hmx
      clear hg
      have hge : W ≤ A := by rw [← hmx]; split <;> omega
      have hw := wrap_eq (x := endOf l + r.brk) (by omega) (by omega)
      by_cases c1 : S < A
      · have c1' : ¬ A ≤ S := by omega
        have hres := Lib.hid (HN.out 1 (fun j hj => hb.out j (by omega)) (.inr (by rw [hA]; exact c1)))
        clear hA c1'
        repeat (first | (with_reducible refine vseq ?_) | (with_reducible refine vthenN ?_) | (with_reducible refine vthenE ?_) | (with_reducible refine vthenR ?_) | (with_reducible refine vret ?_) | (with_reducible refine vskip ?_) | (with_reducible refine vexit ?_) | (with_reducible refine vblock ?_) | (with_reducible refine vblockN ?_) | (with_reducible refine vblockR ?_) | (with_reducible refine vblockH ?_) | (with_reducible refine vrun_nil ?_) | (with_reducible refine vblockE rfl ?_) | (with_reducible refine vregion [] ?_) | (with_reducible refine vhrun_nil ?_) | ((with_reducible refine vcondT ?_ ?_); (focus (go_simp; done))) | ((with_reducible refine vcondF ?_ ?_); (focus (go_simp; done))) | ((with_reducible refine vrun_cons fun KK hKK => ?_); go_simp; (first | (refine ⟨_, h93.out, ?_⟩) | skip); refine hKK _ ?_; clear hKK KK) | ((with_reducible refine vhrun_cons fun KK hKK => ?_); go_simp; (first | (refine ⟨_, h93.out, ?_⟩) | skip); refine hKK _ ?_; clear hKK KK))
        rw [hres.out]
        go_simp
      · have c1' : A ≤ S := by omega
        have h82 := Lib.hid (v82 l r ⟨A, 0, 0, t.next⟩ t.hi (by omega) HT.out (by show 0 ≤ A; omega) (by show A ≤ _; omega) hhi.1 (by omega) (by show -1 ≤ t.next ∧ t.next ≤ _; omega))
        by_cases c2 : breaksP r l A t.next t.hi = 0
        · have hres := Lib.hid (HV.out 1 (fun j hj => hb.out j (by omega)) (by rw [hA]; exact c1') (by rw [hA]; exact c2))
          rw [hA] at hres
          clear hA c1'
          repeat (first | (with_reducible refine vseq ?_) | (with_reducible refine vthenN ?_) | (with_reducible refine vthenE ?_) | (with_reducible refine vthenR ?_) | (with_reducible refine vret ?_) | (with_reducible refine vskip ?_) | (with_reducible refine vexit ?_) | (with_reducible refine vblock ?_) | (with_reducible refine vblockN ?_) | (with_reducible refine vblockR ?_) | (with_reducible refine vblockH ?_) | (with_reducible refine vrun_nil ?_) | (with_reducible refine vblockE rfl ?_) | (with_reducible refine vregion [] ?_) | (with_reducible refine vhrun_nil ?_) | ((with_reducible refine vcondT ?_ ?_); (focus (go_simp; done))) | ((with_reducible refine vcondF ?_ ?_); (focus (go_simp; done))) | ((with_reducible refine vrun_cons fun KK hKK => ?_); go_simp; (first | (refine ⟨_, h93.out, ?_⟩) | (refine ⟨_, h82.out, ?_⟩) | skip); refine hKK _ ?_; clear hKK KK) | ((with_reducible refine vhrun_cons fun KK hKK => ?_); go_simp; (first | (refine ⟨_, h93.out, ?_⟩) | (refine ⟨_, h82.out, ?_⟩) | skip); refine hKK _ ?_; clear hKK KK))
          rw [hres.out]
          go_simp
        · have hRR := Lib.hid hA
          clear hA c1'
          repeat (first | (with_reducible refine vseq ?_) | (with_reducible refine vthenN ?_) | (with_reducible refine vthenE ?_) | (with_reducible refine vthenR ?_) | (with_reducible refine vret ?_) | (with_reducible refine vskip ?_) | (with_reducible refine vexit ?_) | (with_reducible refine vblock ?_) | (with_reducible refine vblockN ?_) | (with_reducible refine vblockR ?_) | (with_reducible refine vblockH ?_) | (with_reducible refine vrun_nil ?_) | (with_reducible refine vblockE rfl ?_) | (with_reducible refine vregion [] ?_) | (with_reducible refine vhrun_nil ?_) | ((with_reducible refine vcondT ?_ ?_); (focus (go_simp; done))) | ((with_reducible refine vcondF ?_ ?_); (focus (go_simp; done))) | ((with_reducible refine vrun_cons fun KK hKK => ?_); go_simp; (first | (refine ⟨_, h93.out, ?_⟩) | (refine ⟨_, h82.out, ?_⟩) | skip); refine hKK _ ?_; clear hKK KK) | ((with_reducible refine vhrun_cons fun KK hKK => ?_); go_simp; (first | (refine ⟨_, h93.out, ?_⟩) | (refine ⟨_, h82.out, ?_⟩) | skip); refine hKK _ ?_; clear hKK KK))
          have hA := hRR.out
          refine hR _ 2 ⟨by omega, by omega, Lib.hid fun j hj => (by
            rcases Int.lt_or_le (j : Int) 1 with h | h
            · exact hb.out j h
            · have : j = 1 := by omega
              rw [this, hA]
              exact c2)⟩ (by omega) ?_
          go_simp
  · subst h2
    by_cases hl0 : l.length = 0
    · have hl0' : (l.length : Int) = 0 := by omega
      obtain ⟨A, hA⟩ : ∃ A, tryAt r l W 2 = A := ⟨_, rfl⟩
      have hAW : A = W := by rw [← hA]; unfold tryAt; rw [if_pos hl0]
      subst hAW
      by_cases c1 : S < A
      · have c1' : ¬ A ≤ S := by omega
        have hres := Lib.hid (HN.out 2 (fun j hj => hb.out j (by omega)) (.inr (by rw [hA]; exact c1)))
        clear hA c1'
        repeat (first | (with_reducible refine vseq ?_) | (with_reducible refine vthenN ?_) | (with_reducible refine vthenE ?_) | (with_reducible refine vthenR ?_) | (with_reducible refine vret ?_) | (with_reducible refine vskip ?_) | (with_reducible refine vexit ?_) | (with_reducible refine vblock ?_) | (with_reducible refine vblockN ?_) | (with_reducible refine vblockR ?_) | (with_reducible refine vblockH ?_) | (with_reducible refine vrun_nil ?_) | (with_reducible refine vblockE rfl ?_) | (with_reducible refine vregion [] ?_) | (with_reducible refine vhrun_nil ?_) | ((with_reducible refine vcondT ?_ ?_); (focus (go_simp; done))) | ((with_reducible refine vcondF ?_ ?_); (focus (go_simp; done))) | ((with_reducible refine vrun_cons fun KK hKK => ?_); go_simp; (first | (refine ⟨_, h93.out, ?_⟩) | skip); refine hKK _ ?_; clear hKK KK) | ((with_reducible refine vhrun_cons fun KK hKK => ?_); go_simp; (first | (refine ⟨_, h93.out, ?_⟩) | skip); refine hKK _ ?_; clear hKK KK))
        rw [hres.out]
        go_simp
      · have c1' : A ≤ S := by omega
        have h82 := Lib.hid (v82 l r ⟨A, 0, 0, t.next⟩ t.hi (by omega) HT.out (by show 0 ≤ A; omega) (by show A ≤ _; omega) hhi.1 (by omega) (by show -1 ≤ t.next ∧ t.next ≤ _; omega))
        by_cases c2 : breaksP r l A t.next t.hi = 0
        · have hres := Lib.hid (HV.out 2 (fun j hj => hb.out j (by omega)) (by rw [hA]; exact c1') (by rw [hA]; exact c2))
          rw [hA] at hres
          clear hA c1'
          repeat (first | (with_reducible refine vseq ?_) | (with_reducible refine vthenN ?_) | (with_reducible refine vthenE ?_) | (with_reducible refine vthenR ?_) | (with_reducible refine vret ?_) | (with_reducible refine vskip ?_) | (with_reducible refine vexit ?_) | (with_reducible refine vblock ?_) | (with_reducible refine vblockN ?_) | (with_reducible refine vblockR ?_) | (with_reducible refine vblockH ?_) | (with_reducible refine vrun_nil ?_) | (with_reducible refine vblockE rfl ?_) | (with_reducible refine vregion [] ?_) | (with_reducible refine vhrun_nil ?_) | ((with_reducible refine vcondT ?_ ?_); (focus (go_simp; done))) | ((with_reducible refine vcondF ?_ ?_); (focus (go_simp; done))) | ((with_reducible refine vrun_cons fun KK hKK => ?_); go_simp; (first | (refine ⟨_, h93.out, ?_⟩) | (refine ⟨_, h82.out, ?_⟩) | skip); refine hKK _ ?_; clear hKK KK) | ((with_reducible refine vhrun_cons fun KK hKK => ?_); go_simp; (first | (refine ⟨_, h93.out, ?_⟩) | (refine ⟨_, h82.out, ?_⟩) | skip); refine hKK _ ?_; clear hKK KK))
          rw [hres.out]
          go_simp
        · have hRR := Lib.hid hA
          clear hA c1'
          repeat (first | (with_reducible refine vseq ?_) | (with_reducible refine vthenN ?_) | (with_reducible refine vthenE ?_) | (with_reducible refine vthenR ?_) | (with_reducible refine vret ?_) | (with_reducible refine vskip ?_) | (with_reducible refine vexit ?_) | (with_reducible refine vblock ?_) | (with_reducible refine vblockN ?_) | (with_reducible refine vblockR ?_) | (with_reducible refine vblockH ?_) | (with_reducible refine vrun_nil ?_) | (with_reducible refine vblockE rfl ?_) | (with_reducible refine vregion [] ?_) | (with_reducible refine vhrun_nil ?_) | ((with_reducible refine vcondT ?_ ?_); (focus (go_simp; done))) | ((with_reducible refine vcondF ?_ ?_); (focus (go_simp; done))) | ((with_reducible refine vrun_cons fun KK hKK => ?_); go_simp; (first | (refine ⟨_, h93.out, ?_⟩) | (refine ⟨_, h82.out, ?_⟩) | skip); refine hKK _ ?_; clear hKK KK) | ((with_reducible refine vhrun_cons fun KK hKK => ?_); go_simp; (first | (refine ⟨_, h93.out, ?_⟩) | (refine ⟨_, h82.out, ?_⟩) | skip); refine hKK _ ?_; clear hKK KK))
          have hA := hRR.out
          refine hR _ 3 ⟨by omega, by omega, Lib.hid fun j hj => (by
            rcases Int.lt_or_le (j : Int) 2 with h | h
            · exact hb.out j h
            · have : j = 2 := by omega
              rw [this, hA]
              exact c2)⟩ (by omega) ?_
          go_simp
    · have hl0' : (0 : Int) < l.length := by omega
      have hl0n : 0 < l.length := by omega
      obtain ⟨A, hA⟩ : ∃ A, tryAt r l W 2 = A := ⟨_, rfl⟩
      have hmx : (if W < endOf l + gapOf r 2 then endOf l + gapOf r 2 else W) = A := by
        rw [← hA]
        unfold tryAt
        rw [if_neg hl0, Int.max_def]
        split <;> split <;> omega
      have hg : gapOf r 2 = r.rest := rfl
      rw [hg] at hmx
      clear hg
      have hge : W ≤ A := by rw [← hmx]; split <;> omega
      have hw := wrap_eq (x := endOf l + r.rest) (by omega) (by omega)
      by_cases c1 : S < A
      · have c1' : ¬ A ≤ S := by omega
        have hres := Lib.hid (HN.out 2 (fun j hj => hb.out j (by omega)) (.inr (by rw [hA]; exact c1)))
        clear hA c1'
        repeat (first | (with_reducible refine vseq ?_) | (with_reducible refine vthenN ?_) | (with_reducible refine vthenE ?_) | (with_reducible refine vthenR ?_) | (with_reducible refine vret ?_) | (with_reducible refine vskip ?_) | (with_reducible refine vexit ?_) | (with_reducible refine vblock ?_) | (with_reducible refine vblockN ?_) | (with_reducible refine vblockR ?_) | (with_reducible refine vblockH ?_) | (with_reducible refine vrun_nil ?_) | (with_reducible refine vblockE rfl ?_) | (with_reducible refine vregion [] ?_) | (with_reducible refine vhrun_nil ?_) | ((with_reducible refine vcondT ?_ ?_); (focus (go_simp; done))) | ((with_reducible refine vcondF ?_ ?_); (focus (go_simp; done))) | ((with_reducible refine vrun_cons fun KK hKK => ?_); go_simp; (first | (refine ⟨_, h93.out, ?_⟩) | skip); refine hKK _ ?_; clear hKK KK) | ((with_reducible refine vhrun_cons fun KK hKK => ?_); go_simp; (first | (refine ⟨_, h93.out, ?_⟩) | skip); refine hKK _ ?_; clear hKK KK))
        rw [hres.out]
        go_simp
      · have c1' : A ≤ S := by omega
        have h82 := Lib.hid (v82 l r ⟨A, 0, 0, t.next⟩ t.hi (by omega) HT.out (by show 0 ≤ A; omega) (by show A ≤ _; omega) hhi.1 (by omega) (by show -1 ≤ t.next ∧ t.next ≤ _; omega))
        by_cases c2 : breaksP r l A t.next t.hi = 0
        · have hres := Lib.hid (HV.out 2 (fun j hj => hb.out j (by omega)) (by rw [hA]; exact c1') (by rw [hA]; exact c2))
          rw [hA] at hres
          clear hA c1'
          repeat (first | (with_reducible refine vseq ?_) | (with_reducible refine vthenN ?_) | (with_reducible refine vthenE ?_) | (with_reducible refine vthenR ?_) | (with_reducible refine vret ?_) | (with_reducible refine vskip ?_) | (with_reducible refine vexit ?_) | (with_reducible refine vblock ?_) | (with_reducible refine vblockN ?_) | (with_reducible refine vblockR ?_) | (with_reducible refine vblockH ?_) | (with_reducible refine vrun_nil ?_) | (with_reducible refine vblockE rfl ?_) | (with_reducible refine vregion [] ?_) | (with_reducible refine vhrun_nil ?_) | ((with_reducible refine vcondT ?_ ?_); (focus (go_simp; done))) | ((with_reducible refine vcondF ?_ ?_); (focus (go_simp; done))) | ((with_reducible refine vrun_cons fun KK hKK => ?_); go_simp; (first | (refine ⟨_, h93.out, ?_⟩) | (refine ⟨_, h82.out, ?_⟩) | skip); refine hKK _ ?_; clear hKK KK) | ((with_reducible refine vhrun_cons fun KK hKK => ?_); go_simp; (first | (refine ⟨_, h93.out, ?_⟩) | (refine ⟨_, h82.out, ?_⟩) | skip); refine hKK _ ?_; clear hKK KK))
          rw [hres.out]
          go_simp
        · have hRR := Lib.hid hA
          clear hA c1'
          repeat (first | (with_reducible refine vseq ?_) | (with_reducible refine vthenN ?_) | (with_reducible refine vthenE ?_) | (with_reducible refine vthenR ?_) | (with_reducible refine vret ?_) | (with_reducible refine vskip ?_) | (with_reducible refine vexit ?_) | (with_reducible refine vblock ?_) | (with_reducible refine vblockN ?_) | (with_reducible refine vblockR ?_) | (with_reducible refine vblockH ?_) | (with_reducible refine vrun_nil ?_) | (with_reducible refine vblockE rfl ?_) | (with_reducible refine vregion [] ?_) | (with_reducible refine vhrun_nil ?_) | ((with_reducible refine vcondT ?_ ?_); (focus (go_simp; done))) | ((with_reducible refine vcondF ?_ ?_); (focus (go_simp; done))) | ((with_reducible refine vrun_cons fun KK hKK => ?_); go_simp; (first | (refine ⟨_, h93.out, ?_⟩) | (refine ⟨_, h82.out, ?_⟩) | skip); refine hKK _ ?_; clear hKK KK) | ((with_reducible refine vhrun_cons fun KK hKK => ?_); go_simp; (first | (refine ⟨_, h93.out, ?_⟩) | (refine ⟨_, h82.out, ?_⟩) | skip); refine hKK _ ?_; clear hKK KK))
          have hA := hRR.out
          refine hR _ 3 ⟨by omega, by omega, Lib.hid fun j hj => (by
            rcases Int.lt_or_le (j : Int) 2 with h | h
            · exact hb.out j h
            · have : j = 2 := by omega
              rw [this, hA]
              exact c2)⟩ (by omega) ?_
          go_simp
  · subst h3
    have hres := Lib.hid (HN.out 3 (fun j hj => hb.out j (by omega)) (.inl rfl))
    repeat (first | (with_reducible refine vseq ?_) | (with_reducible refine vthenN ?_) | (with_reducible refine vthenE ?_) | (with_reducible refine vthenR ?_) | (with_reducible refine vret ?_) | (with_reducible refine vskip ?_) | (with_reducible refine vexit ?_) | (with_reducible refine vblock ?_) | (with_reducible refine vblockN ?_) | (with_reducible refine vblockR ?_) | (with_reducible refine vblockH ?_) | (with_reducible refine vrun_nil ?_) | (with_reducible refine vblockE rfl ?_) | (with_reducible refine vregion [] ?_) | (with_reducible refine vhrun_nil ?_) | ((with_reducible refine vcondT ?_ ?_); (focus (go_simp; done))) | ((with_reducible refine vcondF ?_ ?_); (focus (go_simp; done))) | ((with_reducible refine vrun_cons fun KK hKK => ?_); go_simp; refine hKK _ ?_; clear hKK KK) | ((with_reducible refine vhrun_cons fun KK hKK => ?_); go_simp; refine hKK _ ?_; clear hKK KK))
    rw [hres.out]
    go_simp
end Go.Proofs.Ytmfmpagfjgpodaa
