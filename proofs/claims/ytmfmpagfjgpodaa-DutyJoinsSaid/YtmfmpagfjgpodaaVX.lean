/- The walks that were made on memory itself, told on plain values: records, rules, trips; conditions as each says. -/
import Derived.Test.YtmfmpagfjgpodaaVWalk
import Derived.Test.YtmfmpagfjgpodaaVT
import Derived.Test.YtmfmpagfjgpodaaWS
import Derived.Test.YtmfmpagfjgpodaaWU
import Derived.Test.YtmfmpagfjgpodaaWM
import Derived.Test.YtmfmpagfjgpodaaWH
namespace Go.Proofs.Ytmfmpagfjgpodaa
open Go.RowKit
def intA (n : Int) : List AV := [I n]
def txtA (s : ByteArray) : List AV := [S s]
def Rec.av (r : Rec) : List AV := [S r.driver, I r.lo, I r.hi]
def Rul.av (r : Rul) : List AV := [I r.brk, I r.rest, I r.stint, I r.shift, I r.week]
def Trip.av (t : Trip) : List AV := [I t.start, I t.lo, I t.hi, I t.next]
def pairA (p : Nat × Nat) : List AV := [I p.1, I p.2]
attribute [go_sem] intA txtA Rec.av Rul.av Trip.av pairA
abbrev recsA (l : List Rec) : AV := .sl 3 (l.map Rec.av)
section
variable {P : Program} {w w' : World} {M : Nat → Prop}
theorem V0.lit_inv {v u : Value} (h : V0 w M (.lit v) u) : u = v := by cases h; rfl
theorem V0.agg_lits {us : List Value} {v : Value} (h : V0 w M (.agg (us.map .lit)) v) : v = .agg us.toArray := by
  generalize he : us.map AV.lit = cs at h
  cases h with
  | agg _ vs hl h1 hv =>
    subst he
    congr 2
    apply List.ext_getElem?
    intro i
    cases hi : us[i]? with
    | none =>
      rw [List.getElem?_eq_none_iff] at hi ⊢
      simp at hl
      omega
    | some x =>
      have hlt : i < vs.length := by rw [hl]; simpa using (List.getElem?_eq_some_iff.1 hi).1
      have := hv i (.lit x) vs[i] (by simp [hi]) (List.getElem?_eq_getElem hlt)
      rw [List.getElem?_eq_getElem hlt, this.lit_inv]
theorem V0.of_lits (us : List Value) : V0 w M (.tup (us.map .lit)) (.tuple us.toArray) :=
  .tup _ _ (by simp) fun i c u hc hu => by
    obtain ⟨x, hx, rfl⟩ := map_at hc
    rw [hu] at hx
    obtain rfl := Option.some.inj hx
    exact .lit u
theorem V0.of_agg {us : List Value} (h : us.all (·.oneCell') = true) : V0 w M (.agg (us.map .lit)) (.agg us.toArray) :=
  .agg _ _ (by simp) (fun c hc => by
    obtain ⟨x, hx, rfl⟩ := List.mem_map.1 hc
    exact List.all_eq_true.1 h x hx) fun i c u hc hu => by
    obtain ⟨x, hx, rfl⟩ := map_at hc
    rw [hu] at hx
    obtain rfl := Option.some.inj hx
    exact .lit u
/-- A slice of elements all of whose cells are known, as a slice that reads as a list. -/
theorem V0.sl_inv {α : Type} {F : α → List AV} {C : α → List Value} {sz : Nat} (hF : ∀ x, F x = (C x).map .lit) {l : List α} {v : Value} (h : V0 w M (.sl sz (l.map F)) v) : ∃ A cap, v = .slice A l.length cap ∧ l.length ≤ cap ∧ Sl C sz w A l := by
  generalize he : l.map F = es at h
  cases h with
  | slNil _ A cap =>
    have : l = [] := by simpa using he
    subst this
    exact ⟨A, cap, rfl, Nat.zero_le _, Sl.nil _ _ _ _⟩
  | sl _ _ cap b o u hne hb hM hcap hsz h1 hc hv =>
    subst he
    refine ⟨_, cap, by rw [List.length_map], by simpa using hcap, fun _ => ⟨b, o, rfl, fun k x hk j c hj => ?_⟩⟩
    have hkl : k < l.length := (List.getElem?_eq_some_iff.1 hk).1
    have hx : (l.map F)[k]? = some (F x) := by simp [hk]
    have hjj : (F x)[j]? = some (.lit c) := by rw [hF]; simp [hj]
    have hjl : j < sz := by rw [← hsz k _ hx]; exact (List.getElem?_eq_some_iff.1 hjj).1
    rw [hc k j (by simpa using hkl) hjl]
    exact congrArg some (hv k _ j _ hx hjj).lit_inv
theorem V0.sl_mk {α : Type} {F : α → List AV} {C : α → List Value} {sz cap : Nat} (hF : ∀ x, F x = (C x).map .lit) (hC : ∀ x, (C x).length = sz) (h1 : ∀ x, ∀ u ∈ C x, u.oneCell' = true) {l : List α} {A : Option Addr} (hcap : l.length ≤ cap) (hM : ∀ b o, A = some ⟨b, o, none⟩ → l ≠ [] → ¬ M b)
    (hS : Sl C sz w A l) (hsz : 0 < sz) : V0 w M (.sl sz (l.map F)) (.slice A l.length cap) := by
  by_cases hne : l = []
  · subst hne
    exact .slNil _ _ _
  · obtain ⟨b, o, rfl, hc⟩ := hS hne
    have hget : ∀ (k : Nat) (e : List AV), (l.map F)[k]? = some e → ∃ x, l[k]? = some x ∧ e = (C x).map .lit := fun k e hk => by
      obtain ⟨x, hx, rfl⟩ := map_at hk
      exact ⟨x, hx, hF x⟩
    have hcell : ∀ k j, k < l.length → j < sz → ∃ v, w.cell? ⟨b, o + k * sz + j, none⟩ = some v := fun k j hk hj => by
      have hj' : j < (C l[k]).length := by rw [hC]; exact hj
      exact ⟨_, hc k l[k] (List.getElem?_eq_getElem hk) j _ (List.getElem?_eq_getElem hj')⟩
    have hb : b < w.heap.size := by
      obtain ⟨v, hv⟩ := hcell 0 0 (List.length_pos_iff.2 hne) hsz
      exact World.block_lt_of_cell? w _ hv
    have key := V0.sl (w := w) (M := M) sz (l.map F) cap b o (fun k j => (w.cell? ⟨b, o + k * sz + j, none⟩).getD undef) (by simpa using hne) hb (hM b o rfl hne) (by simpa using hcap) (fun k e hk => by
      obtain ⟨x, _, rfl⟩ := hget k e hk
      simp [hC]) (fun k e j c hk hj => by
      obtain ⟨x, _, rfl⟩ := hget k e hk
      obtain ⟨u, hu, rfl⟩ := map_at hj
      exact h1 x u (List.mem_of_getElem? hu)) (fun k j hk hj => by
      obtain ⟨v, hv⟩ := hcell k j (by simpa using hk) hj
      rw [hv]
      rfl) (fun k e j c hk hj => by
      obtain ⟨x, hx, rfl⟩ := hget k e hk
      obtain ⟨u, hu, rfl⟩ := map_at hj
      rw [hc k x hx j u hu]
      exact .lit u)
    rwa [List.length_map] at key
theorem VC_mk0 {f : FuncId} {r : AV} (hg : goesB P f = true) (h : ∀ w M, Calls P f #[] w fun e w' => ∃ v, e = .returned v ∧ Below w.heap.size w w' ∧ V0 w' M r v) : VC P f [] r :=
  ⟨hg, fun w M vs _ hl _ => by
    obtain rfl : vs = [] := List.eq_nil_of_length_eq_zero hl
    exact h w M⟩
theorem VC_mk1 {f : FuncId} {a r : AV} (hg : goesB P f = true) (h : ∀ w M v1, V0 w M a v1 → Calls P f #[v1] w fun e w' => ∃ v, e = .returned v ∧ Below w.heap.size w w' ∧ V0 w' M r v) : VC P f [a] r :=
  ⟨hg, fun w M vs _ hl hv => by
    obtain ⟨v1, rfl⟩ := List.length_eq_one_iff.1 hl
    exact h w M v1 (hv 0 a v1 rfl rfl)⟩
theorem VC_mk2 {f : FuncId} {a b r : AV} (hg : goesB P f = true) (h : ∀ w M v1 v2, V0 w M a v1 → V0 w M b v2 → Calls P f #[v1, v2] w fun e w' => ∃ v, e = .returned v ∧ Below w.heap.size w w' ∧ V0 w' M r v) : VC P f [a, b] r :=
  ⟨hg, fun w M vs _ hl hv => by
    match vs, hl with
    | [v1, v2], _ =>
    exact h w M v1 v2 (hv 0 a v1 rfl rfl) (hv 1 b v2 rfl rfl)⟩
theorem VC_mk3 {f : FuncId} {a b c r : AV} (hg : goesB P f = true) (h : ∀ w M v1 v2 v3, (∀ b, M b → b < w.heap.size) → V0 w M a v1 → V0 w M b v2 → V0 w M c v3 → Calls P f #[v1, v2, v3] w fun e w' => ∃ v, e = .returned v ∧ Below w.heap.size w w' ∧ V0 w' M r v) : VC P f [a, b, c] r :=
  ⟨hg, fun w M vs hM hl hv => by
    match vs, hl with
    | [v1, v2, v3], _ =>
    exact h w M v1 v2 v3 hM (hv 0 a v1 rfl rfl) (hv 1 b v2 rfl rfl) (hv 2 c v3 rfl rfl)⟩
end
theorem Rec.av_cells (r : Rec) : r.av = r.cells.map .lit := rfl
theorem recs_inv {w : World} {M : Nat → Prop} {l : List Rec} {v : Value} (h : V0 w M (recsA l) v) : ∃ A cap, v = .slice A l.length cap ∧ l.length ≤ cap ∧ Sl Rec.cells 3 w A l := V0.sl_inv Rec.av_cells h
theorem rul_inv {w : World} {M : Nat → Prop} {r : Rul} {v : Value} (h : V0 w M (.agg r.av) v) : v = .agg r.cells := V0.agg_lits (us := r.cells.toList) h
theorem trip_inv {w : World} {M : Nat → Prop} {t : Trip} {v : Value} (h : V0 w M (.agg t.av) v) : v = .agg t.cells := V0.agg_lits (us := t.cells.toList) h
theorem pairN_inv (p : Nat × Nat) : pairA p = (pairNC p).map .lit := rfl

section
variable (l : List Rec) (r : Rul) (t : Trip)
theorem v36 (n lo hi : Int) : VC Try.prog 36 [I n, I lo, I hi] (B (inR n lo hi)) := VC_mk3 (by kernel_rfl) fun w M v1 v2 v3 _ h1 h2 h3 => by
  rw [h1.lit_inv, h2.lit_inv, h3.lit_inv]
  exact (c36 n lo hi w).mono fun e w' ⟨he, hw⟩ => ⟨_, he, by rw [hw]; exact Below.refl _ _, .lit _⟩
theorem v22 (n : Int) : VC Try.prog 22 [I n] (B (isTime n)) := VC_mk1 (by kernel_rfl) fun w M v1 h1 => by
  rw [h1.lit_inv]
  exact (c22 n w).mono fun e w' ⟨he, hw⟩ => ⟨_, he, by rw [hw]; exact Below.refl _ _, .lit _⟩
theorem v17 : VC Try.prog 17 [] (B true) := VC_mk0 (by kernel_rfl) fun w M => (c17 w).mono fun e w' ⟨he, hb⟩ => ⟨_, he, hb, .lit _⟩
theorem v18 (hl : l.length ≤ 9223372036854775807) (hd : ∀ x ∈ l, x.driver.size ≤ 9223372036854775807) : VC Try.prog 18 [recsA l] (B (fewP l)) := VC_mk1 (by kernel_rfl) fun w M v1 h1 => by
  obtain ⟨A, cap, rfl, hcap, hS⟩ := recs_inv h1
  exact (c18 l A _ cap w rfl hl hd hS).mono fun e w' ⟨he, hw⟩ => ⟨_, he, by rw [hw]; exact Below.refl _ _, .lit _⟩
theorem v21 (hl : l.length ≤ 1000000) (hd : Small l) : VC Try.prog 21 [recsA l] (I (checkRecs true l).2) := VC_mk1 (by kernel_rfl) fun w M v1 h1 => by
  obtain ⟨A, cap, rfl, hcap, hS⟩ := recs_inv h1
  exact (c21 l A _ cap w rfl hl hd hS).mono fun e w' ⟨he, hb⟩ => ⟨_, he, hb, .lit _⟩
theorem v57 (hl : l.length ≤ 1000000) (hd : Small l) : VC Try.prog 57 [recsA l] (I (checkRecs false l).2) := VC_mk1 (by kernel_rfl) fun w M v1 h1 => by
  obtain ⟨A, cap, rfl, hcap, hS⟩ := recs_inv h1
  exact (c57 l A _ cap w rfl hl hd hS).mono fun e w' ⟨he, hb⟩ => ⟨_, he, hb, .lit _⟩
theorem v31 (hl : l.length ≤ 1000000) (hd : Small l) : VC Try.prog 31 [.agg r.av, recsA l] (I (bothErr r l)) := VC_mk2 (by kernel_rfl) fun w M v1 v2 h1 h2 => by
  obtain ⟨A, cap, rfl, hcap, hS⟩ := recs_inv h2
  rw [rul_inv h1]
  exact (c31 r l A _ cap w rfl hl hd hS).mono fun e w' ⟨he, hb⟩ => ⟨_, he, hb, .lit _⟩
theorem v23 (f u : Int) (hl : l.length ≤ 1000) (hT : Timed l) (hf : -10000000000 ≤ f ∧ f ≤ 10000000000) (hu : -10000000000 ≤ u ∧ u ≤ 10000000000) : VC Try.prog 23 [recsA l, I f, I u] (I (workIn l f u)) := VC_mk3 (by kernel_rfl) fun w M v1 v2 v3 _ h1 h2 h3 => by
  obtain ⟨A, cap, rfl, hcap, hS⟩ := recs_inv h1
  rw [h2.lit_inv, h3.lit_inv]
  exact (c23 l A _ cap f u w rfl hl hT hf hu hS).mono fun e w' ⟨he, hb⟩ => ⟨_, he, hb, .lit _⟩
theorem v19 (f u : Int) (hl : l.length ≤ 1000) (hd : Small l) : VC Try.prog 19 [recsA l, I f, I u] (.tup [I (workOut l f u).1, I (workOut l f u).2]) := VC_mk3 (by kernel_rfl) fun w M v1 v2 v3 _ h1 h2 h3 => by
  obtain ⟨A, cap, rfl, hcap, hS⟩ := recs_inv h1
  rw [h2.lit_inv, h3.lit_inv]
  exact (c19 l f u A _ cap w rfl hl hd hS).mono fun e w' ⟨he, hb⟩ => ⟨_, he, hb, V0.of_lits [.int .i64 (workOut l f u).1, .int .i64 (workOut l f u).2]⟩
theorem v24 (hl : l.length ≤ 1000) (hd : Small l) : VC Try.prog 24 [.agg r.av, recsA l, .agg t.av] (.tup [I (allowOut r l t).1, I (allowOut r l t).2.1, I (allowOut r l t).2.2]) := VC_mk3 (by kernel_rfl) fun w M v1 v2 v3 _ h1 h2 h3 => by
  obtain ⟨A, cap, rfl, hcap, hS⟩ := recs_inv h2
  rw [rul_inv h1, trip_inv h3]
  exact (c24 l r t A _ cap w rfl hl hcap hd hS).mono fun e w' ⟨he, hb⟩ => ⟨_, he, hb, V0.of_lits [.int .i64 (allowOut r l t).1, .int .i64 (allowOut r l t).2.1, .int .i64 (allowOut r l t).2.2]⟩
theorem v27 (start : Int) (hl : l.length ≤ 1000) (hd : Small l) : VC Try.prog 27 [.agg r.av, recsA l, I start] (.tup [I (longOut r l start).1, I (longOut r l start).2]) := VC_mk3 (by kernel_rfl) fun w M v1 v2 v3 _ h1 h2 h3 => by
  obtain ⟨A, cap, rfl, hcap, hS⟩ := recs_inv h2
  rw [rul_inv h1, h3.lit_inv]
  exact (c27 l r start A _ cap w rfl hl hcap hd hS).mono fun e w' ⟨he, hb⟩ => ⟨_, he, hb, V0.of_lits [.int .i64 (longOut r l start).1, .int .i64 (longOut r l start).2]⟩
theorem v34 (hl : l.length ≤ 1000000) (hd : Small l) : VC Try.prog 34 [.agg r.av, recsA l] (.tup [.agg [I (fbOut r l).1, I (fbOut r l).2.1], I (fbOut r l).2.2]) := VC_mk2 (by kernel_rfl) fun w M v1 v2 h1 h2 => by
  obtain ⟨A, cap, rfl, hcap, hS⟩ := recs_inv h2
  rw [rul_inv h1]
  refine (c34 l r A _ cap w rfl hl hcap hd hS).mono fun e w' ⟨he, hb⟩ => ⟨_, he, hb, ?_⟩
  refine .tup _ [.agg #[.int .i64 (fbOut r l).1, .int .i64 (fbOut r l).2.1], .int .i64 (fbOut r l).2.2] rfl fun i c u hc hu => ?_
  match i, hc, hu with
  | 0, hc, hu =>
    simp at hc hu
    subst hc
    subst hu
    exact V0.of_agg (us := [.int .i64 (fbOut r l).1, .int .i64 (fbOut r l).2.1]) rfl
  | 1, hc, hu =>
    simp at hc hu
    subst hc
    subst hu
    exact .lit _
  | i + 2, hc, hu => simp at hc
theorem v138 (k : Nat) (gap : Int) (hl : l.length ≤ 1000) (hk : k < l.length) (hT : Timed l) : VC Try.prog 138 [recsA l, I k, I gap] (I (firstIdx l gap k)) := VC_mk3 (by kernel_rfl) fun w M v1 v2 v3 _ h1 h2 h3 => by
  obtain ⟨A, cap, rfl, hcap, hS⟩ := recs_inv h1
  rw [h2.lit_inv, h3.lit_inv]
  exact (c138 l k gap A _ cap w rfl hl hk hT hS).mono fun e w' ⟨he, hb⟩ => ⟨_, he, hb, .lit _⟩
theorem v91 (k : Nat) (hl : l.length ≤ 1000) (hk : k < l.length) (hT : Timed l) : VC Try.prog 91 [.agg r.av, recsA l, I k] (I (brokenRef r l k)) := VC_mk3 (by kernel_rfl) fun w M v1 v2 v3 _ h1 h2 h3 => by
  obtain ⟨A, cap, rfl, hcap, hS⟩ := recs_inv h2
  rw [rul_inv h1, h3.lit_inv]
  exact (c91 l r k A _ cap w rfl hl hk hcap hT hS).mono fun e w' ⟨he, hb⟩ => ⟨_, he, hb, .lit _⟩
end
end Go.Proofs.Ytmfmpagfjgpodaa
