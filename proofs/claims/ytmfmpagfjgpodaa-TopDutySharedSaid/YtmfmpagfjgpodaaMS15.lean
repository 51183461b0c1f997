/- Texts in one: The walk of the check of a trip; at most 1000 records, texts of at most 1000 bytes. -/
import Derived.Test.YtmfmpagfjgpodaaMS14
import Derived.Test.YtmfmpagfjgpodaaMS13
import Derived.Test.YtmfmpagfjgpodaaMS7
import Derived.Test.YtmfmpagfjgpodaaMS11
/-! WJ: The walk of the check of a trip; at most 1000 records, texts of at most 1000 bytes. -/
namespace Go.Proofs.Ytmfmpagfjgpodaa
open Go.RowKit

theorem isTime_is {n : Int} {b : Bool} (h : isTime n = b) (w : World) : Calls Try.prog 128 #[.int .i64 n] w fun e w' => e = .returned (.bool b) ∧ w = w' := h ▸ c128 n w
theorem isTake_is {n : Int} {b : Bool} (h : isTake n = b) (w : World) : Calls Try.prog 134 #[.int .i64 n] w fun e w' => e = .returned (.bool b) ∧ w = w' := h ▸ c134 n w
set_option maxRecDepth 100000 in
set_option maxHeartbeats 40000000 in
theorem c81 (l : List Rec) (r : Rul) (t : Trip) (A : Option Addr) (n cap : Nat) (w : World) (hn : n = l.length) (hl : n ≤ 1000) (hcap : n ≤ cap) (hd : Small l) (hS : Sl Rec.cells 3 w A l) :
    Calls Try.prog 81 #[.agg r.cells, .slice A n cap, .agg t.cells] w fun e w' =>
      e = .returned (.tuple #[.agg #[.int .i64 r.brk, .int .i64 r.rest, .int .i64 r.stint, .int .i64 r.shift, .int .i64 r.week, .slice A n cap], .int .i64 (tripErrP r l t)]) ∧ Below w.heap.size w w' := by
  subst hn
  obtain ⟨t0, t1, t2, t3⟩ := t
  have e88 := fun w' hb => c88 r l A _ cap w' rfl (by omega) hd (hS.below (w' := w') hb)
  have e93 := fun w' hb => c93 l r A _ cap w' rfl hl (hS.below (w' := w') hb)
  have e90 := fun (hR : Right true l) w' hb => c90 l r A _ cap w' rfl (by have := hR.len; omega) hcap hR.timed (hS.below (w' := w') hb)
  have hE : ∃ E, tripE r l ⟨t0, t1, t2, t3⟩ = E := ⟨_, rfl⟩
  obtain ⟨E, hE⟩ := hE
  have hR : E = 0 → Right true l := fun h0 => by
    rw [h0] at hE
    unfold tripE fst at hE
    by_cases hb : bothErr r l = 0
    · exact (bothErr_zero hb).2
    · rw [if_pos hb] at hE; exact absurd hE hb
  have e90' := fun h0 => e90 (hR h0)
  clear e90 hR
  unfold tripErrP
  rw [hE]
  unfold tripE endOf at hE
  dsimp only at *
  generalize bothErr r l = er at *
  generalize (if l.length = 0 then 0 else (rat l (l.length - 1)).hi) = en at *
  generalize firstBroken r l = fb at *
  obtain ⟨k, be⟩ := fb
  have H := Lib.hid (And.intro e88 (And.intro e93 (And.intro e90' hE)))
  clear e88 e93 e90' hE hS hd
  obtain ⟨r0, r1, r2, r3, r4⟩ := r
  unfold Rul.cells Trip.cells at *
  dsimp only at *
  generalize hX : (if E ≠ 0 then E else unl (decide (be = 0)) 22) = X
  have HX := Lib.hid hX
  clear hX
  have B0 := bl_alloc (bl_alloc (bl_alloc (Below.refl w.heap.size w) (.cells #[.int .i64 r0, .int .i64 r1, .int .i64 r2, .int .i64 r3, .int .i64 r4] 35)) (.cells #[.int .i64 t0, .int .i64 t1, .int .i64 t2, .int .i64 t3] 39)) (.cells #[.int .i64 0, .int .i64 0, .int .i64 0, .int .i64 0, .int .i64 0, .slice none 0 0] 132)
  have K5 := (Bk.new (w.alloc (.cells #[.int .i64 r0, .int .i64 r1, .int .i64 r2, .int .i64 r3, .int .i64 r4] 35)) 39 #[.int .i64 t0, .int .i64 t1, .int .i64 t2, .int .i64 t3]).alloc (.cells #[.int .i64 0, .int .i64 0, .int .i64 0, .int .i64 0, .int .i64 0, .slice none 0 0] 132)
  have K6 := Bk.new ((w.alloc (.cells #[.int .i64 r0, .int .i64 r1, .int .i64 r2, .int .i64 r3, .int .i64 r4] 35)).alloc (.cells #[.int .i64 t0, .int .i64 t1, .int .i64 t2, .int .i64 t3] 39)) 132 #[.int .i64 0, .int .i64 0, .int .i64 0, .int .i64 0, .int .i64 0, .slice none 0 0]
  simp only [World.size_alloc] at K5 K6
  have G := Lib.hid (And.intro B0 (And.intro K5 K6))
  clear B0 K5 K6
  go_enter Try.func81, Try.ntmps81
  go_wp2_with fail
  refine (H.out.1 _ G.out.1).mono ?_
  rintro e w1 ⟨rfl, hb1⟩
  have G1 := Lib.hid (And.intro (below_step G.out.1 hb1) (And.intro (G.out.2.1.below hb1) (And.intro (G.out.2.2.below hb1) hb1.size)))
  clear hb1
  go_wp2_with fail
  have D8 := Bk.new w1 132 #[.int .i64 r0, .int .i64 r1, .int .i64 r2, .int .i64 r3, .int .i64 r4, .slice A l.length cap]
  have D5 := G1.out.2.1.alloc (.cells #[.int .i64 r0, .int .i64 r1, .int .i64 r2, .int .i64 r3, .int .i64 r4, .slice A l.length cap] 132)
  have D6 := G1.out.2.2.1.alloc (.cells #[.int .i64 r0, .int .i64 r1, .int .i64 r2, .int .i64 r3, .int .i64 r4, .slice A l.length cap] 132)
  have B2 := bl_alloc G1.out.1 (.cells #[.int .i64 r0, .int .i64 r1, .int .i64 r2, .int .i64 r3, .int .i64 r4, .slice A l.length cap] 132)
  have hz := G1.out.2.2.2
  simp only [World.size_alloc] at hz
  generalize w1.alloc (.cells #[.int .i64 r0, .int .i64 r1, .int .i64 r2, .int .i64 r3, .int .i64 r4, .slice A l.length cap] 132) = w2 at *
  have d8 := D8.later
  have d5 := D5.later
  have G2 := Lib.hid (And.intro B2 (And.intro D5 (And.intro D6 D8)))
  clear B2 D5 D6 D8
  have hcase : ∃ c1 c2 c3, isTime t0 = c1 ∧ isTake t1 = c2 ∧ (t3 == -1) = c3 := ⟨_, _, _, rfl, rfl, rfl⟩
  obtain ⟨c1, c2, c3, g1, g2, g3⟩ := hcase
  have hLL : ∃ L, L = [er, unl (decide ((l.length : Int) < 40)) 16, unl ((c1 && c2) && isTake t2) 2, unl (decide (t1 ≤ t2)) 9, unl (c3 || isTime t3) 2, unl (decide (en ≤ t0)) 26] := ⟨_, rfl⟩
  obtain ⟨L, hL⟩ := hLL
  have e75 : ∀ (A : Option Addr) (n c : Nat) (w : World), n = L.length → n ≤ 1000 → Sl intC 1 w A L → Calls Try.prog 75 #[.slice A n c] w fun e w' => e = .returned (.int .i64 E) ∧ w = w' := fun A n c w hn hl hS => by
    have h := c75 L A n c w hn hl hS
    have := H.out.2.2.2
    rw [g1, g2, g3, ← hL] at this
    rwa [this] at h
  have e75 := Lib.hid e75
  cases c1 <;> cases c2 <;> cases c3
  all_goals
    refine wp_region_tail 46 (by kernel_rfl) (by kernel_rfl) ?_
    simp only [List.take_succ_cons, List.take_zero, List.drop_succ_cons, List.drop_zero]
    repeat (go_big_quiet_step ((first
       | (go_at_call 78; exact later_same (c78 _ _ _))
       | (go_at_call 128; exact later_same (isTime_is g1 _))
       | (go_at_call 128; exact later_same (c128 _ _))
       | (go_at_call 134; exact later_same (isTake_is g2 _))
       | (go_at_call 134; exact later_same (c134 _ _))
       | (go_at_call 93; exact later_of (H.out.2.1 _ (below_step G2.out.1 (Later.below _)))))))
    refine wpQuiet_nil ?_
    rintro _ ⟨nq, rfl⟩
    clear d8 d5
    go_wp2_with fail
    refine (e75.out _ _ _ _ (by rw [hL]; rfl) (by simp) (by rw [hL]; exact Sl.of_row (fun _ => rfl) (heap_alloc_new _ _) rfl)).mono ?_
    rintro e w3 ⟨rfl, rfl⟩
    have b3 := bl_alloc nq.below (.cells #[.int .i64 er, .int .i64 0] 26)
    clear b3
    generalize hw3 : nq.at.alloc _ = w3 at *
    have b3 : Below w2.heap.size w2 w3 := by rw [← hw3]; exact bl_alloc nq.below _
    clear hw3
    have D8 := G2.out.2.2.2.below b3
    have D6 := G2.out.2.2.1.below b3
    have B3 := below_step G2.out.1 b3
    have c8 := D8.cell
    have c6 := D6.cell
    have f6 := D6.frozen
    by_cases hE0 : E = 0
    · subst hE0
      have e90 := H.out.2.2.1 rfl
      have hX := HX.out
      rw [if_neg (by simp)] at hX
      subst hX
      have d8 := D8.later
      have hf : ∀ w : World, (Instr.field 60 (.agg #[.int .i64 be, .int .i64 k]) 0).run Try.prog w = .ok (.int .i64 be) w := fun _ => by kernel_rfl
      go_wp2_with fail
      refine wp_region_tail 6 (by kernel_rfl) (by kernel_rfl) ?_
      simp only [List.take_succ_cons, List.take_zero, List.drop_succ_cons, List.drop_zero]
      repeat (go_big_quiet_step ((first
        | (go_at_call 78; exact later_same (c78 _ _ _))
        | (go_at_call 90; exact later_of (e90 _ (below_step B3 (Later.below _)))))))
      refine wpQuiet_nil ?_
      rintro _ ⟨mq, rfl⟩
      clear d8 c6 f6
      have c6 := (D6.below mq.below).cell
      have f6 := (D6.below mq.below).frozen
      have B4 := below_step B3 mq.below
      go_wp2
      refine bodyPost_ret (v := .tuple #[.agg #[.int .i64 r0, .int .i64 r1, .int .i64 r2, .int .i64 r3, .int .i64 r4, .slice A l.length cap], .int .i64 (unl (be == 0) 22)]) (by simp [results, Try.results81, go_sem, c6]) rfl ⟨?_, ?_⟩
      · have hq : (be == 0) = decide (be = 0) := by by_cases h : be = 0 <;> simp [h]
        rw [hq]
      repeat refine bl_set ?_ _ (show w.heap.size ≤ w.heap.size + 1 + 1 by omega) _
      exact B4
    · have hE1 : (E != 0) = true := by simpa using hE0
      have hX := HX.out
      rw [if_pos hE0] at hX
      subst hX
      go_wp2
      refine bodyPost_ret (v := .tuple #[.agg #[.int .i64 r0, .int .i64 r1, .int .i64 r2, .int .i64 r3, .int .i64 r4, .slice A l.length cap], .int .i64 E]) (by simp [results, Try.results81, go_sem, c6]) rfl ⟨rfl, ?_⟩
      repeat refine bl_set ?_ _ (show w.heap.size ≤ w.heap.size + 1 + 1 by omega) _
      exact B3

end Go.Proofs.Ytmfmpagfjgpodaa

/-! WK: The walks of the binary search and of the greatest length of a trip; at most 1000 records, texts of at most 1000 bytes. -/
namespace Go.Proofs.Ytmfmpagfjgpodaa
open Go.RowKit

/-- Binary search between two numbers. -/
def searchP (p : Nat → Bool) : Nat → Nat → Nat → Nat
  | 0, i, _ => i
  | f + 1, i, j => if i < j then if p ((i + j) / 2) then searchP p f i ((i + j) / 2) else searchP p f ((i + j) / 2 + 1) j else i
theorem searchP_fuel (p : Nat → Bool) : ∀ (f f' i j : Nat), j - i ≤ f → j - i ≤ f' → searchP p f i j = searchP p f' i j
  | 0, 0, _, _, _, _ => rfl
  | 0, f' + 1, i, j, h, _ => by rw [searchP, searchP, if_neg (by omega)]
  | f + 1, 0, i, j, _, h => by rw [searchP, searchP, if_neg (by omega)]
  | f + 1, f' + 1, i, j, h, h' => by
    rw [searchP, searchP]
    split
    · rw [searchP_fuel p f f' i _ (by omega) (by omega), searchP_fuel p f f' _ j (by omega) (by omega)]
    · rfl
theorem searchP_le (p : Nat → Bool) : ∀ (f i j : Nat), i ≤ j → searchP p f i j ≤ j
  | 0, i, j, h => h
  | f + 1, i, j, h => by
    rw [searchP]
    split
    · split
      · exact Nat.le_trans (searchP_le p f i _ (by omega)) (by omega)
      · exact searchP_le p f _ j (by omega)
    · exact h
set_option maxRecDepth 100000 in
set_option maxHeartbeats 4000000 in
theorem c85 (p : Nat → Bool) (g : Nat) (fr : Array Value) (N : Nat) (w : World) (hN : N ≤ 10000000)
    (hrun : Enters g)
    (hf : ∀ m, m < N → ∀ w', Below w.heap.size w w' → Calls Try.prog g (#[.int .i64 (m : Nat)] ++ fr) w' fun e w'' => e = .returned (.bool (p m)) ∧ Below w'.heap.size w' w'') :
    Calls Try.prog 85 #[.int .i64 N, .func (.func g) #[] fr] w fun e w' => e = .returned (.int .i64 (searchP p N 0 N)) ∧ Below w.heap.size w w' := by
  unfold Enters at hrun
  have HF := Lib.hid hf
  clear hf
  generalize hR : searchP p N 0 N = R
  go_enter Try.func85, Try.ntmps85
  go_wp2
  go_loopw [5, 6] (fun x y w1 => ∃ i j : Nat, x = .int .i64 i ∧ y = .int .i64 j ∧ i ≤ j ∧ j ≤ N ∧ searchP p (j - i) i j = R ∧ Below w.heap.size w w1) (fun x y _ => (intOf y).toNat - (intOf x).toNat)
  case atStart => exact ⟨0, N, rfl, rfl, by omega, by omega, hR, Below.refl _ _⟩
  case round =>
    obtain ⟨i, j, rfl, rfl, hij, hjN, hs, hb⟩ := hrel
    by_cases hlt : i < j
    · have hm : ((i : Int) + (j : Int)) / 2 = (((i + j) / 2 : Nat) : Int) := by omega
      have hmj : (i + j) / 2 < j := by omega
      have him : i ≤ (i + j) / 2 := by omega
      obtain ⟨f, hf⟩ : ∃ f, j - i = f + 1 := ⟨j - i - 1, by omega⟩
      rw [hf, searchP, if_pos hlt] at hs
      have e1 := HF.out ((i + j) / 2) (by omega)
      generalize hM : (i + j) / 2 = m at *
      go_wp2_with fail
      refine (e1 _ hb).mono ?_
      rintro e w1 ⟨rfl, hb1⟩
      have HB := Lib.hid (And.intro (below_step hb hb1) hs)
      clear hb hb1 hs hM hm
      cases hp : p m
      · have h2 := HB.out.2
        rw [hp] at h2
        go_wp2_with fail
        go_roundw
        case rel => exact ⟨m + 1, j, by go_num, rfl, by omega, by omega, by rw [← h2]; exact searchP_fuel p _ _ _ _ (by omega) (by omega), HB.out.1⟩
        case measure => simp [intOf]; omega
      · have h2 := HB.out.2
        rw [hp] at h2
        go_wp2_with fail
        go_roundw
        case rel => exact ⟨i, m, rfl, rfl, by omega, by omega, by rw [← h2]; exact searchP_fuel p _ _ _ _ (by omega) (by omega), HB.out.1⟩
        case measure => simp [intOf]; omega
    · have : i = j := by omega
      subst this
      rw [Nat.sub_self, searchP] at hs
      subst hs
      go_wp2
      go_ret
      exact ⟨rfl, hb⟩
theorem fst_zero : ∀ {l : List Int}, fst l = 0 → ∀ x ∈ l, x = 0
  | [], _, x, hx => by cases hx
  | y :: l, h, x, hx => by
    rw [fst] at h
    split at h
    · rename_i hy; exact absurd h hy
    · rename_i hy
      rcases List.mem_cons.1 hx with rfl | hx
      · simpa using hy
      · exact fst_zero h x hx
theorem unl_zero {c : Bool} {e : Int} (he : e ≠ 0) (h : unl c e = 0) : c = true := by
  cases c
  · exact absurd h he
  · rfl
structure TripOk (r : Rul) (l : List Rec) (t : Trip) : Prop where
  rules : rulesErr r = 0
  right : Right true l
  few : l.length < 40
  start : 0 ≤ t.start ∧ t.start ≤ 8640000000
  lo : 0 ≤ t.lo ∧ t.lo ≤ 200000
  hi : 0 ≤ t.hi ∧ t.hi ≤ 200000
  le : t.lo ≤ t.hi
  next : t.next = -1 ∨ 0 ≤ t.next ∧ t.next ≤ 8640000000
  behind : endOf l ≤ t.start
  whole : (firstBroken r l).2 = 0
theorem tripErr_zero {r : Rul} {l : List Rec} {t : Trip} (h : tripErrP r l t = 0) : TripOk r l t := by
  unfold tripErrP at h
  split at h
  · rename_i h'; exact absurd h h'
  rename_i h1
  simp only [ne_eq, Decidable.not_not] at h1
  have h2 := fst_zero h1
  simp only [List.mem_cons, List.not_mem_nil, or_false, forall_eq_or_imp, forall_eq] at h2
  obtain ⟨a1, a2, a3, a4, a5, a6⟩ := h2
  have a2 := unl_zero (by decide) a2
  have a3 := unl_zero (by decide) a3
  have a4 := unl_zero (by decide) a4
  have a5 := unl_zero (by decide) a5
  have a6 := unl_zero (by decide) a6
  have a7 := unl_zero (by decide) h
  simp only [decide_eq_true_eq, Bool.and_eq_true, Bool.or_eq_true, beq_iff_eq, isTime, isTake, inR_iff] at *
  exact ⟨(bothErr_zero a1).1, (bothErr_zero a1).2, by omega, a3.1.1, a3.1.2, a3.2, a4, a5, a6, a7⟩
theorem enters86 : Enters 86 := fun a W => by simp [callFunc, go_sem, Try.func86, Try.f86]
set_option maxRecDepth 100000 in
theorem c86 (l : List Rec) (r : Rul) (t : Trip) (A : Option Addr) (cap : Nat) (m : Nat) (g9 g8 : Nat) (w : World) (hl : l.length ≤ 100) (hcap : l.length ≤ cap) (hT : Timed l) (hS : Sl Rec.cells 3 w A l)
    (h1 : 0 ≤ t.start) (h2 : t.start ≤ 8650000000) (h4 : m ≤ 1000000) (h5 : -1 ≤ t.next ∧ t.next ≤ 10000000000)
    (b9 : Bk w g9 132 #[.int .i64 r.brk, .int .i64 r.rest, .int .i64 r.stint, .int .i64 r.shift, .int .i64 r.week, .slice A l.length cap]) (b8 : Bk w g8 39 t.cells) :
    Calls Try.prog 86 #[.int .i64 m, .pointer (some ⟨g9, 0, none⟩), .pointer (some ⟨g8, 0, none⟩)] w fun e w' => e = .returned (.bool (breaksP r l t.start t.next m != 0)) ∧ Below w.heap.size w w' := by
  have e82 := Lib.hid (c82 l r t m A _ cap w rfl hl hcap hT hS h1 h2 (by omega) (by omega) h5)
  have c9 := b9.cell
  have c8 := b8.cell
  clear hS hT b9 b8
  generalize breaksP r l t.start t.next m = x at *
  obtain ⟨t0, t1, t2, t3⟩ := t
  obtain ⟨r0, r1, r2, r3, r4⟩ := r
  unfold Trip.cells at *
  dsimp only at *
  go_enter Try.func86, Try.ntmps86
  go_wp2_with fail
  refine e82.out.mono ?_
  rintro e w1 ⟨rfl, hb⟩
  go_wp2
  go_ret
  exact ⟨rfl, hb⟩
/-- The answer of LongestFrom. -/
def longOut (r : Rul) (l : List Rec) (start : Int) : Int × Int :=
  if tripErrP r l ⟨start, 0, 0, -1⟩ ≠ 0 then (0, tripErrP r l ⟨start, 0, 0, -1⟩) else ((searchP (fun m => breaksP r l start (-1) m != 0) 200001 0 200001 : Nat) - 1, 0)
set_option maxRecDepth 100000 in
set_option maxHeartbeats 4000000 in
theorem c27 (l : List Rec) (r : Rul) (start : Int) (A : Option Addr) (n cap : Nat) (w : World) (hn : n = l.length) (hl : n ≤ 1000) (hcap : n ≤ cap) (hd : Small l) (hS : Sl Rec.cells 3 w A l) :
    Calls Try.prog 27 #[.agg r.cells, .slice A n cap, .int .i64 start] w fun e w' => e = .returned (.tuple #[.int .i64 (longOut r l start).1, .int .i64 (longOut r l start).2]) ∧ Below w.heap.size w w' := by
  subst hn
  have e81 := fun w' hb => c81 l r ⟨start, 0, 0, -1⟩ A _ cap w' rfl hl hcap hd (hS.below (w' := w') hb)
  unfold longOut
  have e85 := fun (g9 g8 : Nat) (w' : World) (hb : Below w.heap.size w w') (h0 : tripErrP r l ⟨start, 0, 0, -1⟩ = 0) (b9 : Bk w' g9 132 #[.int .i64 r.brk, .int .i64 r.rest, .int .i64 r.stint, .int .i64 r.shift, .int .i64 r.week, .slice A l.length cap]) (b8 : Bk w' g8 39 #[.int .i64 start, .int .i64 0, .int .i64 0, .int .i64 (-1)]) =>
    have ok := tripErr_zero h0
    c85 (fun m => breaksP r l start (-1) m != 0) 86 #[.pointer (some ⟨g9, 0, none⟩), .pointer (some ⟨g8, 0, none⟩)] 200001 w' (by omega) enters86 fun m hm w2 hb2 =>
      c86 l r ⟨start, 0, 0, -1⟩ A cap m g9 g8 w2 (by have := ok.few; omega) hcap ok.right.timed (hS.below (below_step hb hb2)) ok.start.1 (by have := ok.start.2; dsimp only at *; omega) (by omega) (by dsimp only; omega) (b9.below hb2) (b8.below hb2)
  have hSle := searchP_le (fun m : Nat => breaksP r l start (-1) m != 0) 200001 0 200001 (by omega)
  generalize (searchP (fun m => breaksP r l start (-1) m != 0) 200001 0 200001) = S at *
  generalize tripErrP r l ⟨start, 0, 0, -1⟩ = E at *
  have H := Lib.hid (And.intro e81 e85)
  clear e81 e85 hS hd
  generalize hX : (if E ≠ 0 then ((0 : Int), E) else ((S : Int) - 1, 0)) = X
  have HX := Lib.hid hX
  clear hX
  obtain ⟨r0, r1, r2, r3, r4⟩ := r
  unfold Rul.cells Trip.cells at *
  dsimp only at *
  have B0 := bl_alloc (bl_alloc (Below.refl w.heap.size w) (.cells #[.int .i64 r0, .int .i64 r1, .int .i64 r2, .int .i64 r3, .int .i64 r4] 35)) (.cells #[.int .i64 start, .int .i64 0, .int .i64 0, .int .i64 (-1)] 39)
  have K8 := Bk.new (w.alloc (.cells #[.int .i64 r0, .int .i64 r1, .int .i64 r2, .int .i64 r3, .int .i64 r4] 35)) 39 #[.int .i64 start, .int .i64 0, .int .i64 0, .int .i64 (-1)]
  simp only [World.size_alloc] at K8
  have G := Lib.hid (And.intro B0 K8)
  clear B0 K8
  go_enter Try.func27, Try.ntmps27
  go_wp2_with fail
  refine (H.out.1 _ G.out.1).mono ?_
  rintro e w1 ⟨rfl, hb1⟩
  have G1 := Lib.hid (And.intro (below_step G.out.1 hb1) (G.out.2.below hb1))
  clear hb1
  by_cases hE : E = 0
  · subst hE
    have hX := HX.out
    rw [if_neg (by simp)] at hX
    subst hX
    have e85 := H.out.2 w1.heap.size (w.heap.size + 1) (w1.alloc (.cells #[.int .i64 r0, .int .i64 r1, .int .i64 r2, .int .i64 r3, .int .i64 r4, .slice A l.length cap] 132)) (bl_alloc G1.out.1 _) rfl (Bk.new _ _ _) (G1.out.2.alloc _)
    go_wp2_with fail
    refine e85.mono ?_
    rintro e w2 ⟨rfl, hb2⟩
    have B2 := below_step (bl_alloc G1.out.1 _) hb2
    clear hb2
    go_wp2
    refine bodyPost_ret (v := .tuple #[.int .i64 ((S : Int) - 1), .int .i64 0]) (by simp [results, Try.results27, go_sem]) rfl ⟨rfl, B2⟩
  · have hX := HX.out
    rw [if_pos hE] at hX
    subst hX
    have hE1 : (E != 0) = true := by simpa using hE
    go_wp2
    refine bodyPost_ret (v := .tuple #[.int .i64 0, .int .i64 E]) (by simp [results, Try.results27, go_sem]) rfl ⟨rfl, bl_alloc G1.out.1 _⟩

end Go.Proofs.Ytmfmpagfjgpodaa

/-! WL: The walk of Allowed; at most 1000 records, texts of at most 1000 bytes. -/
namespace Go.Proofs.Ytmfmpagfjgpodaa
open Go.RowKit

/-- The answer of Allowed. -/
def allowOut (r : Rul) (l : List Rec) (t : Trip) : Int × Int × Int :=
  if tripErrP r l t ≠ 0 then (0, 0, tripErrP r l t)
  else (if breaksP r l t.start t.next t.hi = 0 then 2 else if breaksP r l t.start t.next t.lo = 0 then 1 else 0, breaksP r l t.start t.next t.hi, 0)
set_option maxRecDepth 100000 in
set_option maxHeartbeats 4000000 in
theorem c24 (l : List Rec) (r : Rul) (t : Trip) (A : Option Addr) (n cap : Nat) (w : World) (hn : n = l.length) (hl : n ≤ 1000) (hcap : n ≤ cap) (hd : Small l) (hS : Sl Rec.cells 3 w A l) :
    Calls Try.prog 24 #[.agg r.cells, .slice A n cap, .agg t.cells] w fun e w' => e = .returned (.tuple #[.int .i64 (allowOut r l t).1, .int .i64 (allowOut r l t).2.1, .int .i64 (allowOut r l t).2.2]) ∧ Below w.heap.size w w' := by
  subst hn
  have e81 := fun w' hb => c81 l r t A _ cap w' rfl hl hcap hd (hS.below (w' := w') hb)
  unfold allowOut
  have e82 := fun (h0 : tripErrP r l t = 0) (len : Int) (h3 : 0 ≤ len) (h4 : len ≤ 1000000) (w' : World) (hb : Below w.heap.size w w') =>
    have ok := tripErr_zero h0
    c82 l r t len A _ cap w' rfl (by have := ok.few; omega) hcap ok.right.timed (hS.below hb) ok.start.1 (by have := ok.start.2; omega) h3 h4 (by have := ok.next; omega)
  have hlo := fun (h0 : tripErrP r l t = 0) => (tripErr_zero h0).lo
  have hhi := fun (h0 : tripErrP r l t = 0) => (tripErr_zero h0).hi
  generalize hbf : (fun len => breaksP r l t.start t.next len) = bf
  have hbf' : ∀ len, breaksP r l t.start t.next len = bf len := fun len => by rw [← hbf]
  simp only [hbf'] at e82 ⊢
  clear hbf hbf'
  generalize tripErrP r l t = E at *
  have H := Lib.hid (And.intro e81 (And.intro e82 (And.intro hlo hhi)))
  clear e81 e82 hS hd hlo hhi
  obtain ⟨t0, t1, t2, t3⟩ := t
  obtain ⟨r0, r1, r2, r3, r4⟩ := r
  unfold Rul.cells Trip.cells at *
  dsimp only at *
  generalize hX : (if E ≠ 0 then ((0 : Int), (0 : Int), E) else (if bf t2 = 0 then 2 else if bf t1 = 0 then 1 else 0, bf t2, 0)) = X
  have HX := Lib.hid hX
  clear hX
  have B0 := bl_alloc (bl_alloc (Below.refl w.heap.size w) (.cells #[.int .i64 r0, .int .i64 r1, .int .i64 r2, .int .i64 r3, .int .i64 r4] 35)) (.cells #[.int .i64 t0, .int .i64 t1, .int .i64 t2, .int .i64 t3] 39)
  have K8 := Bk.new (w.alloc (.cells #[.int .i64 r0, .int .i64 r1, .int .i64 r2, .int .i64 r3, .int .i64 r4] 35)) 39 #[.int .i64 t0, .int .i64 t1, .int .i64 t2, .int .i64 t3]
  simp only [World.size_alloc] at K8
  have G := Lib.hid (And.intro B0 K8)
  clear B0 K8
  go_enter Try.func24, Try.ntmps24
  go_wp2_with fail
  refine (H.out.1 _ G.out.1).mono ?_
  rintro e w1 ⟨rfl, hb1⟩
  have G1 := Lib.hid (And.intro (below_step G.out.1 hb1) (G.out.2.below hb1))
  have c8 := (G1.out.2.alloc (.cells #[.int .i64 r0, .int .i64 r1, .int .i64 r2, .int .i64 r3, .int .i64 r4, .slice A l.length cap] 132)).cell
  clear hb1
  by_cases hE : E = 0
  · subst hE
    have hX := HX.out
    rw [if_neg (by simp)] at hX
    have e82 := H.out.2.1 rfl
    have hlo := H.out.2.2.1 rfl
    have hhi := H.out.2.2.2 rfl
    have D1 := Bk.new w1 132 #[.int .i64 r0, .int .i64 r1, .int .i64 r2, .int .i64 r3, .int .i64 r4, .slice A l.length cap]
    go_wp2_with fail
    refine (e82 t2 hhi.1 (by omega) _ (bl_alloc G1.out.1 _)).mono ?_
    rintro e w2 ⟨rfl, hb2⟩
    have B2 := below_step (bl_alloc G1.out.1 _) hb2
    have c9 := (D1.below hb2).cell
    have c10 := ((G1.out.2.alloc _).below hb2).cell
    have D2 := Lib.hid (And.intro (D1.below hb2) ((G1.out.2.alloc _).below hb2))
    clear hb2 c8 D1
    generalize bf t2 = x at *
    by_cases hx : x = 0
    · subst hx
      rw [if_pos rfl] at hX
      subst hX
      go_wp2
      refine bodyPost_ret (v := .tuple #[.int .i64 2, .int .i64 0, .int .i64 0]) (by simp [results, Try.results24, go_sem]) rfl ⟨rfl, B2⟩
    · have hx1 : (x == 0) = false := by simpa using hx
      rw [if_neg hx] at hX
      go_wp2_with fail
      refine (e82 t1 hlo.1 (by omega) _ B2).mono ?_
      rintro e w3 ⟨rfl, hb3⟩
      have B3 := below_step B2 hb3
      clear hb3 B2 c9 c10 D2
      generalize bf t1 = y at *
      by_cases hy : y = 0
      · subst hy
        rw [if_pos rfl] at hX
        subst hX
        go_wp2
        refine bodyPost_ret (v := .tuple #[.int .i64 1, .int .i64 x, .int .i64 0]) (by simp [results, Try.results24, go_sem]) rfl ⟨rfl, B3⟩
      · have hy1 : (y == 0) = false := by simpa using hy
        rw [if_neg hy] at hX
        subst hX
        go_wp2
        refine bodyPost_ret (v := .tuple #[.int .i64 0, .int .i64 x, .int .i64 0]) (by simp [results, Try.results24, go_sem]) rfl ⟨rfl, B3⟩
  · have hX := HX.out
    rw [if_pos hE] at hX
    subst hX
    have hE1 : (E != 0) = true := by simpa using hE
    go_wp2
    refine bodyPost_ret (v := .tuple #[.int .i64 0, .int .i64 0, .int .i64 E]) (by simp [results, Try.results24, go_sem]) rfl ⟨rfl, bl_alloc G1.out.1 _⟩

end Go.Proofs.Ytmfmpagfjgpodaa
