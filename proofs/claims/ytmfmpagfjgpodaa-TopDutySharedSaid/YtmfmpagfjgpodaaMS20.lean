/- Texts in one: The walks that were made on memory itself, told on plain values: records, rules, trips; conditions as each says. -/
import Derived.Test.YtmfmpagfjgpodaaMS4
import Derived.Test.YtmfmpagfjgpodaaMS6
import Derived.Test.YtmfmpagfjgpodaaMS18
import Derived.Test.YtmfmpagfjgpodaaMS19
import Derived.Test.YtmfmpagfjgpodaaMS16
import Derived.Test.YtmfmpagfjgpodaaMS13
/-! VX: The walks that were made on memory itself, told on plain values: records, rules, trips; conditions as each says. -/
namespace Go.Proofs.Ytmfmpagfjgpodaa
open Go.RowKit
def intA (n : Int) : List AV := [I n]
def txtA (s : ByteArray) : List AV := [S s]
def Rec.av (r : Rec) : List AV := [S r.driver, I r.lo, I r.hi]
def Rul.av (r : Rul) : List AV := [I r.brk, I r.rest, I r.stint, I r.shift, I r.week]
def Trip.av (t : Trip) : List AV := [I t.start, I t.lo, I t.hi, I t.next]
def pairA (p : Nat × Nat) : List AV := [I p.1, I p.2]
attribute [go_sem] intA txtA Rec.av Rul.av Trip.av pairA
abbrev recsA (l : List Rec) : AV := .sl 3 (l.map Rec.av)
section
variable {P : Program} {w w' : World} {M : Nat → Prop}
theorem V0.lit_inv {v u : Value} (h : V0 w M (.lit v) u) : u = v := by cases h; rfl
theorem V0.agg_lits {us : List Value} {v : Value} (h : V0 w M (.agg (us.map .lit)) v) : v = .agg us.toArray := by
  generalize he : us.map AV.lit = cs at h
  cases h with
  | agg _ vs hl h1 hv =>
    subst he
    congr 2
    apply List.ext_getElem?
    intro i
    cases hi : us[i]? with
    | none =>
      rw [List.getElem?_eq_none_iff] at hi ⊢
      simp at hl
      omega
    | some x =>
      have hlt : i < vs.length := by rw [hl]; simpa using (List.getElem?_eq_some_iff.1 hi).1
      have := hv i (.lit x) vs[i] (by simp [hi]) (List.getElem?_eq_getElem hlt)
      rw [List.getElem?_eq_getElem hlt, this.lit_inv]
theorem V0.of_lits (us : List Value) : V0 w M (.tup (us.map .lit)) (.tuple us.toArray) :=
  .tup _ _ (by simp) fun i c u hc hu => by
    obtain ⟨x, hx, rfl⟩ := map_at hc
    rw [hu] at hx
    obtain rfl := Option.some.inj hx
    exact .lit u
theorem V0.of_agg {us : List Value} (h : us.all (·.oneCell') = true) : V0 w M (.agg (us.map .lit)) (.agg us.toArray) :=
  .agg _ _ (by simp) (fun c hc => by
    obtain ⟨x, hx, rfl⟩ := List.mem_map.1 hc
    exact List.all_eq_true.1 h x hx) fun i c u hc hu => by
    obtain ⟨x, hx, rfl⟩ := map_at hc
    rw [hu] at hx
    obtain rfl := Option.some.inj hx
    exact .lit u
/-- A slice of elements all of whose cells are known, as a slice that reads as a list. -/
theorem V0.sl_inv {α : Type} {F : α → List AV} {C : α → List Value} {sz : Nat} (hF : ∀ x, F x = (C x).map .lit) {l : List α} {v : Value} (h : V0 w M (.sl sz (l.map F)) v) : ∃ A cap, v = .slice A l.length cap ∧ l.length ≤ cap ∧ Sl C sz w A l := by
  generalize he : l.map F = es at h
  cases h with
  | slNil _ A cap =>
    have : l = [] := by simpa using he
    subst this
    exact ⟨A, cap, rfl, Nat.zero_le _, Sl.nil _ _ _ _⟩
  | sl _ _ cap b o u hne hb hM hcap hsz h1 hc hv =>
    subst he
    refine ⟨_, cap, by rw [List.length_map], by simpa using hcap, fun _ => ⟨b, o, rfl, fun k x hk j c hj => ?_⟩⟩
    have hkl : k < l.length := (List.getElem?_eq_some_iff.1 hk).1
    have hx : (l.map F)[k]? = some (F x) := by simp [hk]
    have hjj : (F x)[j]? = some (.lit c) := by rw [hF]; simp [hj]
    have hjl : j < sz := by rw [← hsz k _ hx]; exact (List.getElem?_eq_some_iff.1 hjj).1
    rw [hc k j (by simpa using hkl) hjl]
    exact congrArg some (hv k _ j _ hx hjj).lit_inv
theorem V0.sl_mk {α : Type} {F : α → List AV} {C : α → List Value} {sz cap : Nat} (hF : ∀ x, F x = (C x).map .lit) (hC : ∀ x, (C x).length = sz) (h1 : ∀ x, ∀ u ∈ C x, u.oneCell' = true) {l : List α} {A : Option Addr} (hcap : l.length ≤ cap) (hM : ∀ b o, A = some ⟨b, o, none⟩ → l ≠ [] → ¬ M b)
    (hS : Sl C sz w A l) (hsz : 0 < sz) : V0 w M (.sl sz (l.map F)) (.slice A l.length cap) := by
  by_cases hne : l = []
  · subst hne
    exact .slNil _ _ _
  · obtain ⟨b, o, rfl, hc⟩ := hS hne
    have hget : ∀ (k : Nat) (e : List AV), (l.map F)[k]? = some e → ∃ x, l[k]? = some x ∧ e = (C x).map .lit := fun k e hk => by
      obtain ⟨x, hx, rfl⟩ := map_at hk
      exact ⟨x, hx, hF x⟩
    have hcell : ∀ k j, k < l.length → j < sz → ∃ v, w.cell? ⟨b, o + k * sz + j, none⟩ = some v := fun k j hk hj => by
      have hj' : j < (C l[k]).length := by rw [hC]; exact hj
      exact ⟨_, hc k l[k] (List.getElem?_eq_getElem hk) j _ (List.getElem?_eq_getElem hj')⟩
    have hb : b < w.heap.size := by
      obtain ⟨v, hv⟩ := hcell 0 0 (List.length_pos_iff.2 hne) hsz
      exact World.block_lt_of_cell? w _ hv
    have key := V0.sl (w := w) (M := M) sz (l.map F) cap b o (fun k j => (w.cell? ⟨b, o + k * sz + j, none⟩).getD undef) (by simpa using hne) hb (hM b o rfl hne) (by simpa using hcap) (fun k e hk => by
      obtain ⟨x, _, rfl⟩ := hget k e hk
      simp [hC]) (fun k e j c hk hj => by
      obtain ⟨x, _, rfl⟩ := hget k e hk
      obtain ⟨u, hu, rfl⟩ := map_at hj
      exact h1 x u (List.mem_of_getElem? hu)) (fun k j hk hj => by
      obtain ⟨v, hv⟩ := hcell k j (by simpa using hk) hj
      rw [hv]
      rfl) (fun k e j c hk hj => by
      obtain ⟨x, hx, rfl⟩ := hget k e hk
      obtain ⟨u, hu, rfl⟩ := map_at hj
      rw [hc k x hx j u hu]
      exact .lit u)
    rwa [List.length_map] at key
theorem VC_mk0 {f : FuncId} {r : AV} (hg : goesB P f = true) (h : ∀ w M, Calls P f #[] w fun e w' => ∃ v, e = .returned v ∧ Below w.heap.size w w' ∧ V0 w' M r v) : VC P f [] r :=
  ⟨hg, fun w M vs _ hl _ => by
    obtain rfl : vs = [] := List.eq_nil_of_length_eq_zero hl
    exact h w M⟩
theorem VC_mk1 {f : FuncId} {a r : AV} (hg : goesB P f = true) (h : ∀ w M v1, V0 w M a v1 → Calls P f #[v1] w fun e w' => ∃ v, e = .returned v ∧ Below w.heap.size w w' ∧ V0 w' M r v) : VC P f [a] r :=
  ⟨hg, fun w M vs _ hl hv => by
    obtain ⟨v1, rfl⟩ := List.length_eq_one_iff.1 hl
    exact h w M v1 (hv 0 a v1 rfl rfl)⟩
theorem VC_mk2 {f : FuncId} {a b r : AV} (hg : goesB P f = true) (h : ∀ w M v1 v2, V0 w M a v1 → V0 w M b v2 → Calls P f #[v1, v2] w fun e w' => ∃ v, e = .returned v ∧ Below w.heap.size w w' ∧ V0 w' M r v) : VC P f [a, b] r :=
  ⟨hg, fun w M vs _ hl hv => by
    match vs, hl with
    | [v1, v2], _ =>
    exact h w M v1 v2 (hv 0 a v1 rfl rfl) (hv 1 b v2 rfl rfl)⟩
theorem VC_mk3 {f : FuncId} {a b c r : AV} (hg : goesB P f = true) (h : ∀ w M v1 v2 v3, (∀ b, M b → b < w.heap.size) → V0 w M a v1 → V0 w M b v2 → V0 w M c v3 → Calls P f #[v1, v2, v3] w fun e w' => ∃ v, e = .returned v ∧ Below w.heap.size w w' ∧ V0 w' M r v) : VC P f [a, b, c] r :=
  ⟨hg, fun w M vs hM hl hv => by
    match vs, hl with
    | [v1, v2, v3], _ =>
    exact h w M v1 v2 v3 hM (hv 0 a v1 rfl rfl) (hv 1 b v2 rfl rfl) (hv 2 c v3 rfl rfl)⟩
end
theorem Rec.av_cells (r : Rec) : r.av = r.cells.map .lit := rfl
theorem recs_inv {w : World} {M : Nat → Prop} {l : List Rec} {v : Value} (h : V0 w M (recsA l) v) : ∃ A cap, v = .slice A l.length cap ∧ l.length ≤ cap ∧ Sl Rec.cells 3 w A l := V0.sl_inv Rec.av_cells h
theorem rul_inv {w : World} {M : Nat → Prop} {r : Rul} {v : Value} (h : V0 w M (.agg r.av) v) : v = .agg r.cells := V0.agg_lits (us := r.cells.toList) h
theorem trip_inv {w : World} {M : Nat → Prop} {t : Trip} {v : Value} (h : V0 w M (.agg t.av) v) : v = .agg t.cells := V0.agg_lits (us := t.cells.toList) h
theorem pairN_inv (p : Nat × Nat) : pairA p = (pairNC p).map .lit := rfl

section
variable (l : List Rec) (r : Rul) (t : Trip)
theorem v36 (n lo hi : Int) : VC Try.prog 36 [I n, I lo, I hi] (B (inR n lo hi)) := VC_mk3 (by kernel_rfl) fun w M v1 v2 v3 _ h1 h2 h3 => by
  rw [h1.lit_inv, h2.lit_inv, h3.lit_inv]
  exact (c36 n lo hi w).mono fun e w' ⟨he, hw⟩ => ⟨_, he, by rw [hw]; exact Below.refl _ _, .lit _⟩
theorem v22 (n : Int) : VC Try.prog 22 [I n] (B (isTime n)) := VC_mk1 (by kernel_rfl) fun w M v1 h1 => by
  rw [h1.lit_inv]
  exact (c22 n w).mono fun e w' ⟨he, hw⟩ => ⟨_, he, by rw [hw]; exact Below.refl _ _, .lit _⟩
theorem v17 : VC Try.prog 17 [] (B true) := VC_mk0 (by kernel_rfl) fun w M => (c17 w).mono fun e w' ⟨he, hb⟩ => ⟨_, he, hb, .lit _⟩
theorem v18 (hl : l.length ≤ 9223372036854775807) (hd : ∀ x ∈ l, x.driver.size ≤ 9223372036854775807) : VC Try.prog 18 [recsA l] (B (fewP l)) := VC_mk1 (by kernel_rfl) fun w M v1 h1 => by
  obtain ⟨A, cap, rfl, hcap, hS⟩ := recs_inv h1
  exact (c18 l A _ cap w rfl hl hd hS).mono fun e w' ⟨he, hw⟩ => ⟨_, he, by rw [hw]; exact Below.refl _ _, .lit _⟩
theorem v21 (hl : l.length ≤ 1000000) (hd : Small l) : VC Try.prog 21 [recsA l] (I (checkRecs true l).2) := VC_mk1 (by kernel_rfl) fun w M v1 h1 => by
  obtain ⟨A, cap, rfl, hcap, hS⟩ := recs_inv h1
  exact (c21 l A _ cap w rfl hl hd hS).mono fun e w' ⟨he, hb⟩ => ⟨_, he, hb, .lit _⟩
theorem v57 (hl : l.length ≤ 1000000) (hd : Small l) : VC Try.prog 57 [recsA l] (I (checkRecs false l).2) := VC_mk1 (by kernel_rfl) fun w M v1 h1 => by
  obtain ⟨A, cap, rfl, hcap, hS⟩ := recs_inv h1
  exact (c57 l A _ cap w rfl hl hd hS).mono fun e w' ⟨he, hb⟩ => ⟨_, he, hb, .lit _⟩
theorem v31 (hl : l.length ≤ 1000000) (hd : Small l) : VC Try.prog 31 [.agg r.av, recsA l] (I (bothErr r l)) := VC_mk2 (by kernel_rfl) fun w M v1 v2 h1 h2 => by
  obtain ⟨A, cap, rfl, hcap, hS⟩ := recs_inv h2
  rw [rul_inv h1]
  exact (c31 r l A _ cap w rfl hl hd hS).mono fun e w' ⟨he, hb⟩ => ⟨_, he, hb, .lit _⟩
theorem v23 (f u : Int) (hl : l.length ≤ 1000) (hT : Timed l) (hf : -10000000000 ≤ f ∧ f ≤ 10000000000) (hu : -10000000000 ≤ u ∧ u ≤ 10000000000) : VC Try.prog 23 [recsA l, I f, I u] (I (workIn l f u)) := VC_mk3 (by kernel_rfl) fun w M v1 v2 v3 _ h1 h2 h3 => by
  obtain ⟨A, cap, rfl, hcap, hS⟩ := recs_inv h1
  rw [h2.lit_inv, h3.lit_inv]
  exact (c23 l A _ cap f u w rfl hl hT hf hu hS).mono fun e w' ⟨he, hb⟩ => ⟨_, he, hb, .lit _⟩
theorem v19 (f u : Int) (hl : l.length ≤ 1000) (hd : Small l) : VC Try.prog 19 [recsA l, I f, I u] (.tup [I (workOut l f u).1, I (workOut l f u).2]) := VC_mk3 (by kernel_rfl) fun w M v1 v2 v3 _ h1 h2 h3 => by
  obtain ⟨A, cap, rfl, hcap, hS⟩ := recs_inv h1
  rw [h2.lit_inv, h3.lit_inv]
  exact (c19 l f u A _ cap w rfl hl hd hS).mono fun e w' ⟨he, hb⟩ => ⟨_, he, hb, V0.of_lits [.int .i64 (workOut l f u).1, .int .i64 (workOut l f u).2]⟩
theorem v24 (hl : l.length ≤ 1000) (hd : Small l) : VC Try.prog 24 [.agg r.av, recsA l, .agg t.av] (.tup [I (allowOut r l t).1, I (allowOut r l t).2.1, I (allowOut r l t).2.2]) := VC_mk3 (by kernel_rfl) fun w M v1 v2 v3 _ h1 h2 h3 => by
  obtain ⟨A, cap, rfl, hcap, hS⟩ := recs_inv h2
  rw [rul_inv h1, trip_inv h3]
  exact (c24 l r t A _ cap w rfl hl hcap hd hS).mono fun e w' ⟨he, hb⟩ => ⟨_, he, hb, V0.of_lits [.int .i64 (allowOut r l t).1, .int .i64 (allowOut r l t).2.1, .int .i64 (allowOut r l t).2.2]⟩
theorem v27 (start : Int) (hl : l.length ≤ 1000) (hd : Small l) : VC Try.prog 27 [.agg r.av, recsA l, I start] (.tup [I (longOut r l start).1, I (longOut r l start).2]) := VC_mk3 (by kernel_rfl) fun w M v1 v2 v3 _ h1 h2 h3 => by
  obtain ⟨A, cap, rfl, hcap, hS⟩ := recs_inv h2
  rw [rul_inv h1, h3.lit_inv]
  exact (c27 l r start A _ cap w rfl hl hcap hd hS).mono fun e w' ⟨he, hb⟩ => ⟨_, he, hb, V0.of_lits [.int .i64 (longOut r l start).1, .int .i64 (longOut r l start).2]⟩
theorem v34 (hl : l.length ≤ 1000000) (hd : Small l) : VC Try.prog 34 [.agg r.av, recsA l] (.tup [.agg [I (fbOut r l).1, I (fbOut r l).2.1], I (fbOut r l).2.2]) := VC_mk2 (by kernel_rfl) fun w M v1 v2 h1 h2 => by
  obtain ⟨A, cap, rfl, hcap, hS⟩ := recs_inv h2
  rw [rul_inv h1]
  refine (c34 l r A _ cap w rfl hl hcap hd hS).mono fun e w' ⟨he, hb⟩ => ⟨_, he, hb, ?_⟩
  refine .tup _ [.agg #[.int .i64 (fbOut r l).1, .int .i64 (fbOut r l).2.1], .int .i64 (fbOut r l).2.2] rfl fun i c u hc hu => ?_
  match i, hc, hu with
  | 0, hc, hu =>
    simp at hc hu
    subst hc
    subst hu
    exact V0.of_agg (us := [.int .i64 (fbOut r l).1, .int .i64 (fbOut r l).2.1]) rfl
  | 1, hc, hu =>
    simp at hc hu
    subst hc
    subst hu
    exact .lit _
  | i + 2, hc, hu => simp at hc
theorem v138 (k : Nat) (gap : Int) (hl : l.length ≤ 1000) (hk : k < l.length) (hT : Timed l) : VC Try.prog 138 [recsA l, I k, I gap] (I (firstIdx l gap k)) := VC_mk3 (by kernel_rfl) fun w M v1 v2 v3 _ h1 h2 h3 => by
  obtain ⟨A, cap, rfl, hcap, hS⟩ := recs_inv h1
  rw [h2.lit_inv, h3.lit_inv]
  exact (c138 l k gap A _ cap w rfl hl hk hT hS).mono fun e w' ⟨he, hb⟩ => ⟨_, he, hb, .lit _⟩
theorem v91 (k : Nat) (hl : l.length ≤ 1000) (hk : k < l.length) (hT : Timed l) : VC Try.prog 91 [.agg r.av, recsA l, I k] (I (brokenRef r l k)) := VC_mk3 (by kernel_rfl) fun w M v1 v2 v3 _ h1 h2 h3 => by
  obtain ⟨A, cap, rfl, hcap, hS⟩ := recs_inv h2
  rw [rul_inv h1, h3.lit_inv]
  exact (c91 l r k A _ cap w rfl hl hk hcap hT hS).mono fun e w' ⟨he, hb⟩ => ⟨_, he, hb, .lit _⟩
end
end Go.Proofs.Ytmfmpagfjgpodaa

/-! VY: Walks on plain values: small functions, licences; texts of at most 1000 bytes. -/
namespace Go.Proofs.Ytmfmpagfjgpodaa
open Go.RowKit
theorem v75 (l : List Int) (hl : Nat.ble l.length 1000 = true) : VC Try.prog 75 [.sl 1 (l.map intA)] (I (fst l)) := VC_mk1 (by kernel_rfl) fun w M v1 h1 => by
  obtain ⟨A, cap, rfl, hcap, hS⟩ := V0.sl_inv (F := intA) (C := intC) (fun _ => rfl) h1
  exact (c75 l A _ cap w rfl (Nat.le_of_ble_eq_true hl) hS).mono fun e w' ⟨he, hw⟩ => ⟨_, he, by rw [hw]; exact Below.refl _ _, .lit _⟩
theorem VC_mk2' {P : Program} {f : FuncId} {a b r : AV} (hg : goesB P f = true) (h : ∀ w M v1 v2, V0 w M a v1 → V0 w M b v2 → Calls P f #[v1, v2] w fun e w' => ∃ v, e = .returned v ∧ Below w.heap.size w w' ∧ V0 w' M r v) : VC P f [a, b] r := VC_mk2 hg h
theorem v78 (c : Bool) (n : Int) : VC Try.prog 78 [B c, I n] (I (unl c n)) := VC_mk2 (by kernel_rfl) fun w M v1 v2 h1 h2 => by
  rw [h1.lit_inv, h2.lit_inv]
  exact (c78 c n w).mono fun e w' ⟨he, hw⟩ => ⟨_, he, by rw [hw]; exact Below.refl _ _, .lit _⟩
theorem v99 (s : ByteArray) (hs : s.size ≤ 1000) : VC Try.prog 99 [S s] (I (nameErr s)) := VC_mk1 (by kernel_rfl) fun w M v1 h1 => by
  rw [h1.lit_inv]
  exact (c99 s w hs).mono fun e w' ⟨he, hb⟩ => ⟨_, he, hb, .lit _⟩
theorem v100 (n : Int) : VC Try.prog 100 [I n] (I (dateErr n)) := VC_mk1 (by kernel_rfl) fun w M v1 h1 => by
  rw [h1.lit_inv]
  exact (c100 n w).mono fun e w' ⟨he, hw⟩ => ⟨_, he, by rw [hw]; exact Below.refl _ _, .lit _⟩
theorem v102 (s : ByteArray) (hs : s.size ≤ 1000) : VC Try.prog 102 [S s] (B (isName s)) := VC_mk1 (by kernel_rfl) fun w M v1 h1 => by
  rw [h1.lit_inv]
  exact (c102 s w hs).mono fun e w' ⟨he, hw⟩ => ⟨_, he, by rw [hw]; exact Below.refl _ _, .lit _⟩
theorem v103 (n : Int) : VC Try.prog 103 [I n] (I (dateErr n)) := VC_mk1 (by kernel_rfl) fun w M v1 h1 => by
  rw [h1.lit_inv]
  exact (c103 n w).mono fun e w' ⟨he, hw⟩ => ⟨_, he, by rw [hw]; exact Below.refl _ _, .lit _⟩
theorem v106 (n lo hi : Int) : VC Try.prog 106 [I n, I lo, I hi] (B (inR n lo hi)) := VC_mk3 (by kernel_rfl) fun w M v1 v2 v3 _ h1 h2 h3 => by
  rw [h1.lit_inv, h2.lit_inv, h3.lit_inv]
  exact (c106 n lo hi w).mono fun e w' ⟨he, hw⟩ => ⟨_, he, by rw [hw]; exact Below.refl _ _, .lit _⟩

/-! ### Licences -/
def licE (r : Rec) : Int := if isName r.driver then (if dateErr r.lo = 0 ∧ dateErr r.hi = 0 then (if r.hi < r.lo then 9 else 0) else 2) else 4
theorem dateErr_or (n : Int) : dateErr n = 0 ∨ dateErr n = 2 := by
  unfold dateErr unl
  split
  · exact .inl rfl
  · exact .inr rfl
theorem licE_fst (r : Rec) : fst [nameErr r.driver, dateErr r.lo, dateErr r.hi, unl (decide (r.lo ≤ r.hi)) 9] = licE r := by
  unfold licE nameErr unl
  cases isName r.driver
  · simp [fst]
  · rcases dateErr_or r.lo with h1 | h1 <;> rcases dateErr_or r.hi with h2 | h2 <;> by_cases h3 : r.lo ≤ r.hi <;> simp [fst, h1, h2, h3] <;> omega
theorem v105 (k : Int) (r : Rec) (hs : r.driver.size ≤ 1000) : VC Try.prog 105 [I k, .agg r.av] (I (licE r)) := by
  rw [← licE_fst]
  refine VC_of Try.func105 rfl (by kernel_rfl) (by kernel_rfl) rfl fun M0 w0 => ?_
  simp only [Try.ntmps105, Try.results105, enumA]
  repeat (first | (with_reducible refine vseq ?_) | (with_reducible refine vthenN ?_) | (with_reducible refine vthenE ?_) | (with_reducible refine vthenR ?_) | (with_reducible refine vret ?_) | (with_reducible refine vskip ?_) | (with_reducible refine vexit ?_) | (with_reducible refine vblock ?_) | (with_reducible refine vblockN ?_) | (with_reducible refine vblockR ?_) | (with_reducible refine vblockH ?_) | (with_reducible refine vrun_nil ?_) | (with_reducible refine vblockE rfl ?_) | (with_reducible refine vregion [] ?_) | (with_reducible refine vhrun_nil ?_) | ((with_reducible refine vcondT ?_ ?_); (focus (go_simp; done))) | ((with_reducible refine vcondF ?_ ?_); (focus (go_simp; done))) | ((with_reducible refine vrun_cons fun KK hKK => ?_); go_simp; refine hKK _ ?_; clear hKK KK) | ((with_reducible refine vhrun_cons fun KK hKK => ?_); go_simp; refine hKK _ ?_; clear hKK KK))
  refine vdraw 17 [] (by kernel_rfl) (by kernel_rfl) ?_
  simp only [List.take, List.drop]
  repeat (first | (with_reducible refine vseq ?_) | (with_reducible refine vthenN ?_) | (with_reducible refine vthenE ?_) | (with_reducible refine vthenR ?_) | (with_reducible refine vret ?_) | (with_reducible refine vskip ?_) | (with_reducible refine vexit ?_) | (with_reducible refine vblock ?_) | (with_reducible refine vblockN ?_) | (with_reducible refine vblockR ?_) | (with_reducible refine vblockH ?_) | (with_reducible refine vrun_nil ?_) | (with_reducible refine vblockE rfl ?_) | (with_reducible refine vregion [] ?_) | (with_reducible refine vhrun_nil ?_) | ((with_reducible refine vcondT ?_ ?_); (focus (go_simp; done))) | ((with_reducible refine vcondF ?_ ?_); (focus (go_simp; done))) | ((with_reducible refine vrun_cons fun KK hKK => ?_); go_simp; (first | (with_reducible refine ⟨_, v99 _ hs, ?_⟩) | (with_reducible refine ⟨_, v100 _, ?_⟩) | (with_reducible refine ⟨_, v78 _ _, ?_⟩) | (refine ⟨_, v75 [_, _, _, _] rfl, ?_⟩) | skip); refine hKK _ ?_; clear hKK KK) | ((with_reducible refine vhrun_cons fun KK hKK => ?_); go_simp; (first | (with_reducible refine ⟨_, v99 _ hs, ?_⟩) | (with_reducible refine ⟨_, v100 _, ?_⟩) | (with_reducible refine ⟨_, v78 _ _, ?_⟩) | (refine ⟨_, v75 [_, _, _, _] rfl, ?_⟩) | skip); refine hKK _ ?_; clear hKK KK))
  go_simp
theorem v104 (l : List Rec) (hl : l.length ≤ 1000) (hd : Small l) : VC Try.prog 104 [recsA l, I 20, .lit (.func (.func 105) #[] #[])] (.tup [I (checkL l.length 20 fun k => licE (rat l k)).1, I (checkL l.length 20 fun k => licE (rat l k)).2]) := by
  generalize hR0 : checkL l.length 20 (fun k => licE (rat l k)) = R
  unfold checkL at hR0
  have HR := Lib.hid hR0
  clear hR0
  refine VC_of Try.func104 rfl (by kernel_rfl) (by kernel_rfl) rfl fun M0 w0 => ?_
  simp only [Try.ntmps104, Try.results104, enumA]
  by_cases hlen : (20 : Int) < l.length
  · repeat (first | (with_reducible refine vseq ?_) | (with_reducible refine vthenN ?_) | (with_reducible refine vthenE ?_) | (with_reducible refine vthenR ?_) | (with_reducible refine vret ?_) | (with_reducible refine vskip ?_) | (with_reducible refine vexit ?_) | (with_reducible refine vblock ?_) | (with_reducible refine vblockN ?_) | (with_reducible refine vblockR ?_) | (with_reducible refine vblockH ?_) | (with_reducible refine vrun_nil ?_) | (with_reducible refine vblockE rfl ?_) | (with_reducible refine vregion [] ?_) | (with_reducible refine vhrun_nil ?_) | ((with_reducible refine vcondT ?_ ?_); (focus (go_simp; done))) | ((with_reducible refine vcondF ?_ ?_); (focus (go_simp; done))) | ((with_reducible refine vrun_cons fun KK hKK => ?_); go_simp; refine hKK _ ?_; clear hKK KK) | ((with_reducible refine vhrun_cons fun KK hKK => ?_); go_simp; refine hKK _ ?_; clear hKK KK))
    have e := HR.out
    rw [if_pos hlen] at e
    subst e
    go_simp
  · repeat (first | (with_reducible refine vseq ?_) | (with_reducible refine vthenN ?_) | (with_reducible refine vthenE ?_) | (with_reducible refine vthenR ?_) | (with_reducible refine vret ?_) | (with_reducible refine vskip ?_) | (with_reducible refine vexit ?_) | (with_reducible refine vblock ?_) | (with_reducible refine vblockN ?_) | (with_reducible refine vblockR ?_) | (with_reducible refine vblockH ?_) | (with_reducible refine vrun_nil ?_) | (with_reducible refine vblockE rfl ?_) | (with_reducible refine vregion [] ?_) | (with_reducible refine vhrun_nil ?_) | ((with_reducible refine vcondT ?_ ?_); (focus (go_simp; done))) | ((with_reducible refine vcondF ?_ ?_); (focus (go_simp; done))) | ((with_reducible refine vrun_cons fun KK hKK => ?_); go_simp; refine hKK _ ?_; clear hKK KK) | ((with_reducible refine vhrun_cons fun KK hKK => ?_); go_simp; refine hKK _ ?_; clear hKK KK))
    have e := HR.out
    rw [if_neg hlen] at e
    refine vloop (α := Nat) (fun k => ⟨[(2, .lit (.func (.func 105) #[] #[])), (17, I k), (16, I l.length), (15, recsA l)], []⟩) (fun k => k ≤ l.length ∧ firstErr (fun k => licE (rat l k)) k (l.length - k) = R) (fun k => l.length - k) 0 ⟨by omega, e⟩ (by clear e; go_simp) ?_
    clear e
    rintro k ⟨hk, hf⟩ K hR
    have HF := Lib.hid hf
    clear hf
    by_cases hlt : k < l.length
    · have hf := HF.out
      rw [firstErr_at hlt, rat_get hlt] at hf
      have HE := Lib.hid hf
      clear hf
      by_cases h0 : licE l[k] = 0
      · have hw := wrap_eq (x := (k : Int) + 1) (by omega) (by omega)
        repeat (first | (with_reducible refine vseq ?_) | (with_reducible refine vthenN ?_) | (with_reducible refine vthenE ?_) | (with_reducible refine vthenR ?_) | (with_reducible refine vret ?_) | (with_reducible refine vskip ?_) | (with_reducible refine vexit ?_) | (with_reducible refine vblock ?_) | (with_reducible refine vblockN ?_) | (with_reducible refine vblockR ?_) | (with_reducible refine vblockH ?_) | (with_reducible refine vrun_nil ?_) | (with_reducible refine vblockE rfl ?_) | (with_reducible refine vregion [] ?_) | (with_reducible refine vhrun_nil ?_) | ((with_reducible refine vcondT ?_ ?_); (focus (go_simp; done))) | ((with_reducible refine vcondF ?_ ?_); (focus (go_simp; done))) | ((with_reducible refine vrun_cons fun KK hKK => ?_); go_simp; (first | (with_reducible refine ⟨_, v105 _ l[k] (hd.at_ hlt), ?_⟩) | skip); refine hKK _ ?_; clear hKK KK) | ((with_reducible refine vhrun_cons fun KK hKK => ?_); go_simp; (first | (with_reducible refine ⟨_, v105 _ l[k] (hd.at_ hlt), ?_⟩) | skip); refine hKK _ ?_; clear hKK KK))
        refine hR _ (k + 1) ⟨hlt, ?_⟩ (by omega) ?_
        · have := HE.out
          rwa [if_neg (by simpa using h0)] at this
        · go_simp
      · repeat (first | (with_reducible refine vseq ?_) | (with_reducible refine vthenN ?_) | (with_reducible refine vthenE ?_) | (with_reducible refine vthenR ?_) | (with_reducible refine vret ?_) | (with_reducible refine vskip ?_) | (with_reducible refine vexit ?_) | (with_reducible refine vblock ?_) | (with_reducible refine vblockN ?_) | (with_reducible refine vblockR ?_) | (with_reducible refine vblockH ?_) | (with_reducible refine vrun_nil ?_) | (with_reducible refine vblockE rfl ?_) | (with_reducible refine vregion [] ?_) | (with_reducible refine vhrun_nil ?_) | ((with_reducible refine vcondT ?_ ?_); (focus (go_simp; done))) | ((with_reducible refine vcondF ?_ ?_); (focus (go_simp; done))) | ((with_reducible refine vrun_cons fun KK hKK => ?_); go_simp; (first | (with_reducible refine ⟨_, v105 _ l[k] (hd.at_ hlt), ?_⟩) | skip); refine hKK _ ?_; clear hKK KK) | ((with_reducible refine vhrun_cons fun KK hKK => ?_); go_simp; (first | (with_reducible refine ⟨_, v105 _ l[k] (hd.at_ hlt), ?_⟩) | skip); refine hKK _ ?_; clear hKK KK))
        have e := HE.out
        rw [if_pos h0] at e
        subst e
        go_simp
    · repeat (first | (with_reducible refine vseq ?_) | (with_reducible refine vthenN ?_) | (with_reducible refine vthenE ?_) | (with_reducible refine vthenR ?_) | (with_reducible refine vret ?_) | (with_reducible refine vskip ?_) | (with_reducible refine vexit ?_) | (with_reducible refine vblock ?_) | (with_reducible refine vblockN ?_) | (with_reducible refine vblockR ?_) | (with_reducible refine vblockH ?_) | (with_reducible refine vrun_nil ?_) | (with_reducible refine vblockE rfl ?_) | (with_reducible refine vregion [] ?_) | (with_reducible refine vhrun_nil ?_) | ((with_reducible refine vcondT ?_ ?_); (focus (go_simp; done))) | ((with_reducible refine vcondF ?_ ?_); (focus (go_simp; done))) | ((with_reducible refine vrun_cons fun KK hKK => ?_); go_simp; refine hKK _ ?_; clear hKK KK) | ((with_reducible refine vhrun_cons fun KK hKK => ?_); go_simp; refine hKK _ ?_; clear hKK KK))
      have e := HF.out
      rw [show l.length - k = 0 by omega, firstErr] at e
      subst e
      go_simp
end Go.Proofs.Ytmfmpagfjgpodaa

/-! VZ: Walks on plain values: whether licences hold, and up to when; texts of at most 1000 bytes. -/
namespace Go.Proofs.Ytmfmpagfjgpodaa
open Go.RowKit
def lics (l : List Rec) : Nat × Int := checkL l.length 20 fun k => licE (rat l k)
theorem v46 (l : List Rec) (hl : l.length ≤ 1000) (hd : Small l) : VC Try.prog 46 [recsA l] (.tup [I (lics l).1, I (lics l).2]) := by
  refine VC_of Try.func46 rfl (by kernel_rfl) (by kernel_rfl) rfl fun M0 w0 => ?_
  simp only [Try.ntmps46, Try.results46, enumA]
  repeat (first | (with_reducible refine vseq ?_) | (with_reducible refine vthenN ?_) | (with_reducible refine vthenE ?_) | (with_reducible refine vthenR ?_) | (with_reducible refine vret ?_) | (with_reducible refine vskip ?_) | (with_reducible refine vexit ?_) | (with_reducible refine vblock ?_) | (with_reducible refine vblockN ?_) | (with_reducible refine vblockR ?_) | (with_reducible refine vblockH ?_) | (with_reducible refine vrun_nil ?_) | (with_reducible refine vblockE rfl ?_) | (with_reducible refine vregion [] ?_) | (with_reducible refine vhrun_nil ?_) | ((with_reducible refine vcondT ?_ ?_); (focus (go_simp; done))) | ((with_reducible refine vcondF ?_ ?_); (focus (go_simp; done))) | ((with_reducible refine vrun_cons fun KK hKK => ?_); go_simp; (first | (with_reducible refine ⟨_, v104 l hl hd, ?_⟩) | skip); refine hKK _ ?_; clear hKK KK) | ((with_reducible refine vhrun_cons fun KK hKK => ?_); go_simp; (first | (with_reducible refine ⟨_, v104 l hl hd, ?_⟩) | skip); refine hKK _ ?_; clear hKK KK))
  go_simp
  exact ⟨rfl, rfl⟩
theorem v96 (l : List Rec) (hl : l.length ≤ 1000) (hd : Small l) : VC Try.prog 96 [recsA l] (.tup [recsA l, I (lics l).2]) := by
  refine VC_of Try.func96 rfl (by kernel_rfl) (by kernel_rfl) rfl fun M0 w0 => ?_
  simp only [Try.ntmps96, Try.results96, enumA]
  repeat (first | (with_reducible refine vseq ?_) | (with_reducible refine vthenN ?_) | (with_reducible refine vthenE ?_) | (with_reducible refine vthenR ?_) | (with_reducible refine vret ?_) | (with_reducible refine vskip ?_) | (with_reducible refine vexit ?_) | (with_reducible refine vblock ?_) | (with_reducible refine vblockN ?_) | (with_reducible refine vblockR ?_) | (with_reducible refine vblockH ?_) | (with_reducible refine vrun_nil ?_) | (with_reducible refine vblockE rfl ?_) | (with_reducible refine vregion [] ?_) | (with_reducible refine vhrun_nil ?_) | ((with_reducible refine vcondT ?_ ?_); (focus (go_simp; done))) | ((with_reducible refine vcondF ?_ ?_); (focus (go_simp; done))) | ((with_reducible refine vrun_cons fun KK hKK => ?_); go_simp; (first | (with_reducible refine ⟨_, v46 l hl hd, ?_⟩) | skip); refine hKK _ ?_; clear hKK KK) | ((with_reducible refine vhrun_cons fun KK hKK => ?_); go_simp; (first | (with_reducible refine ⟨_, v46 l hl hd, ?_⟩) | skip); refine hKK _ ?_; clear hKK KK))
  go_simp
theorem v47 (l : List Rec) (hl : l.length ≤ 1000) (hd : Small l) : VC Try.prog 47 [recsA l] (.tup [I (lics l).1, I (lics l).2]) := by
  generalize hR0 : lics l = R
  unfold lics checkL at hR0
  have HR := Lib.hid hR0
  clear hR0
  refine VC_of Try.func47 rfl (by kernel_rfl) (by kernel_rfl) rfl fun M0 w0 => ?_
  simp only [Try.ntmps47, Try.results47, enumA]
  by_cases hlen : (20 : Int) < l.length
  · repeat (first | (with_reducible refine vseq ?_) | (with_reducible refine vthenN ?_) | (with_reducible refine vthenE ?_) | (with_reducible refine vthenR ?_) | (with_reducible refine vret ?_) | (with_reducible refine vskip ?_) | (with_reducible refine vexit ?_) | (with_reducible refine vblock ?_) | (with_reducible refine vblockN ?_) | (with_reducible refine vblockR ?_) | (with_reducible refine vblockH ?_) | (with_reducible refine vrun_nil ?_) | (with_reducible refine vblockE rfl ?_) | (with_reducible refine vregion [] ?_) | (with_reducible refine vhrun_nil ?_) | ((with_reducible refine vcondT ?_ ?_); (focus (go_simp; done))) | ((with_reducible refine vcondF ?_ ?_); (focus (go_simp; done))) | ((with_reducible refine vrun_cons fun KK hKK => ?_); go_simp; refine hKK _ ?_; clear hKK KK) | ((with_reducible refine vhrun_cons fun KK hKK => ?_); go_simp; refine hKK _ ?_; clear hKK KK))
    have e := HR.out
    rw [if_pos hlen] at e
    subst e
    go_simp
  · repeat (first | (with_reducible refine vseq ?_) | (with_reducible refine vthenN ?_) | (with_reducible refine vthenE ?_) | (with_reducible refine vthenR ?_) | (with_reducible refine vret ?_) | (with_reducible refine vskip ?_) | (with_reducible refine vexit ?_) | (with_reducible refine vblock ?_) | (with_reducible refine vblockN ?_) | (with_reducible refine vblockR ?_) | (with_reducible refine vblockH ?_) | (with_reducible refine vrun_nil ?_) | (with_reducible refine vblockE rfl ?_) | (with_reducible refine vregion [] ?_) | (with_reducible refine vhrun_nil ?_) | ((with_reducible refine vcondT ?_ ?_); (focus (go_simp; done))) | ((with_reducible refine vcondF ?_ ?_); (focus (go_simp; done))) | ((with_reducible refine vrun_cons fun KK hKK => ?_); go_simp; refine hKK _ ?_; clear hKK KK) | ((with_reducible refine vhrun_cons fun KK hKK => ?_); go_simp; refine hKK _ ?_; clear hKK KK))
    have e := HR.out
    rw [if_neg hlen] at e
    refine vloop (α := Nat) (fun k => ⟨[(0, recsA l), (4, I k)], []⟩) (fun k => k ≤ l.length ∧ firstErr (fun k => licE (rat l k)) k (l.length - k) = R) (fun k => l.length - k) 0 ⟨by omega, e⟩ (by clear e; go_simp) ?_
    clear e
    rintro k ⟨hk, hf⟩ K hR
    have HF := Lib.hid hf
    clear hf
    by_cases hlt : k < l.length
    · have hf := HF.out
      rw [firstErr_at hlt, rat_get hlt] at hf
      have HE := Lib.hid hf
      clear hf
      have hw := wrap_eq (x := (k : Int) + 1) (by omega) (by omega)
      have hs := hd.at_ hlt
      by_cases h1 : isName l[k].driver = true
      · have hd1 := dateErr_or l[k].lo
        have hd2 := dateErr_or l[k].hi
        have HD := Lib.hid (And.intro hd1 hd2)
        clear hd1 hd2
        by_cases h2 : dateErr l[k].lo = 0
        · by_cases h3 : dateErr l[k].hi = 0
          · by_cases h4 : l[k].hi < l[k].lo
            · repeat (first | (with_reducible refine vseq ?_) | (with_reducible refine vthenN ?_) | (with_reducible refine vthenE ?_) | (with_reducible refine vthenR ?_) | (with_reducible refine vret ?_) | (with_reducible refine vskip ?_) | (with_reducible refine vexit ?_) | (with_reducible refine vblock ?_) | (with_reducible refine vblockN ?_) | (with_reducible refine vblockR ?_) | (with_reducible refine vblockH ?_) | (with_reducible refine vrun_nil ?_) | (with_reducible refine vblockE rfl ?_) | (with_reducible refine vregion [] ?_) | (with_reducible refine vhrun_nil ?_) | ((with_reducible refine vcondT ?_ ?_); (focus (go_simp; done))) | ((with_reducible refine vcondF ?_ ?_); (focus (go_simp; done))) | ((with_reducible refine vrun_cons fun KK hKK => ?_); go_simp; (first | (with_reducible refine ⟨_, v102 _ hs, ?_⟩) | (with_reducible refine ⟨_, v103 _, ?_⟩) | skip); refine hKK _ ?_; clear hKK KK) | ((with_reducible refine vhrun_cons fun KK hKK => ?_); go_simp; (first | (with_reducible refine ⟨_, v102 _ hs, ?_⟩) | (with_reducible refine ⟨_, v103 _, ?_⟩) | skip); refine hKK _ ?_; clear hKK KK))
              refine vdraw 11 [] (by kernel_rfl) (by kernel_rfl) ?_
              simp only [List.take, List.drop]
              repeat (first | (with_reducible refine vseq ?_) | (with_reducible refine vthenN ?_) | (with_reducible refine vthenE ?_) | (with_reducible refine vthenR ?_) | (with_reducible refine vret ?_) | (with_reducible refine vskip ?_) | (with_reducible refine vexit ?_) | (with_reducible refine vblock ?_) | (with_reducible refine vblockN ?_) | (with_reducible refine vblockR ?_) | (with_reducible refine vblockH ?_) | (with_reducible refine vrun_nil ?_) | (with_reducible refine vblockE rfl ?_) | (with_reducible refine vregion [] ?_) | (with_reducible refine vhrun_nil ?_) | ((with_reducible refine vcondT ?_ ?_); (focus (go_simp; done))) | ((with_reducible refine vcondF ?_ ?_); (focus (go_simp; done))) | ((with_reducible refine vrun_cons fun KK hKK => ?_); go_simp; refine hKK _ ?_; clear hKK KK) | ((with_reducible refine vhrun_cons fun KK hKK => ?_); go_simp; refine hKK _ ?_; clear hKK KK))
              have e := HE.out
              rw [show licE l[k] = 9 by simp [licE, h1, h2, h3, h4], if_pos (by omega)] at e
              subst e
              go_simp
            · repeat (first | (with_reducible refine vseq ?_) | (with_reducible refine vthenN ?_) | (with_reducible refine vthenE ?_) | (with_reducible refine vthenR ?_) | (with_reducible refine vret ?_) | (with_reducible refine vskip ?_) | (with_reducible refine vexit ?_) | (with_reducible refine vblock ?_) | (with_reducible refine vblockN ?_) | (with_reducible refine vblockR ?_) | (with_reducible refine vblockH ?_) | (with_reducible refine vrun_nil ?_) | (with_reducible refine vblockE rfl ?_) | (with_reducible refine vregion [] ?_) | (with_reducible refine vhrun_nil ?_) | ((with_reducible refine vcondT ?_ ?_); (focus (go_simp; done))) | ((with_reducible refine vcondF ?_ ?_); (focus (go_simp; done))) | ((with_reducible refine vrun_cons fun KK hKK => ?_); go_simp; (first | (with_reducible refine ⟨_, v102 _ hs, ?_⟩) | (with_reducible refine ⟨_, v103 _, ?_⟩) | skip); refine hKK _ ?_; clear hKK KK) | ((with_reducible refine vhrun_cons fun KK hKK => ?_); go_simp; (first | (with_reducible refine ⟨_, v102 _ hs, ?_⟩) | (with_reducible refine ⟨_, v103 _, ?_⟩) | skip); refine hKK _ ?_; clear hKK KK))
              refine vdraw 11 [] (by kernel_rfl) (by kernel_rfl) ?_
              simp only [List.take, List.drop]
              repeat (first | (with_reducible refine vseq ?_) | (with_reducible refine vthenN ?_) | (with_reducible refine vthenE ?_) | (with_reducible refine vthenR ?_) | (with_reducible refine vret ?_) | (with_reducible refine vskip ?_) | (with_reducible refine vexit ?_) | (with_reducible refine vblock ?_) | (with_reducible refine vblockN ?_) | (with_reducible refine vblockR ?_) | (with_reducible refine vblockH ?_) | (with_reducible refine vrun_nil ?_) | (with_reducible refine vblockE rfl ?_) | (with_reducible refine vregion [] ?_) | (with_reducible refine vhrun_nil ?_) | ((with_reducible refine vcondT ?_ ?_); (focus (go_simp; done))) | ((with_reducible refine vcondF ?_ ?_); (focus (go_simp; done))) | ((with_reducible refine vrun_cons fun KK hKK => ?_); go_simp; refine hKK _ ?_; clear hKK KK) | ((with_reducible refine vhrun_cons fun KK hKK => ?_); go_simp; refine hKK _ ?_; clear hKK KK))
              refine hR _ (k + 1) ⟨hlt, ?_⟩ (by omega) ?_
              · have := HE.out
                rwa [show licE l[k] = 0 by simp [licE, h1, h2, h3]; omega, if_neg (by omega)] at this
              · go_simp
          · repeat (first | (with_reducible refine vseq ?_) | (with_reducible refine vthenN ?_) | (with_reducible refine vthenE ?_) | (with_reducible refine vthenR ?_) | (with_reducible refine vret ?_) | (with_reducible refine vskip ?_) | (with_reducible refine vexit ?_) | (with_reducible refine vblock ?_) | (with_reducible refine vblockN ?_) | (with_reducible refine vblockR ?_) | (with_reducible refine vblockH ?_) | (with_reducible refine vrun_nil ?_) | (with_reducible refine vblockE rfl ?_) | (with_reducible refine vregion [] ?_) | (with_reducible refine vhrun_nil ?_) | ((with_reducible refine vcondT ?_ ?_); (focus (go_simp; done))) | ((with_reducible refine vcondF ?_ ?_); (focus (go_simp; done))) | ((with_reducible refine vrun_cons fun KK hKK => ?_); go_simp; (first | (with_reducible refine ⟨_, v102 _ hs, ?_⟩) | (with_reducible refine ⟨_, v103 _, ?_⟩) | skip); refine hKK _ ?_; clear hKK KK) | ((with_reducible refine vhrun_cons fun KK hKK => ?_); go_simp; (first | (with_reducible refine ⟨_, v102 _ hs, ?_⟩) | (with_reducible refine ⟨_, v103 _, ?_⟩) | skip); refine hKK _ ?_; clear hKK KK))
            have e := HE.out
            rw [show licE l[k] = 2 by simp [licE, h1, h3], if_pos (by omega)] at e
            subst e
            go_simp
        · repeat (first | (with_reducible refine vseq ?_) | (with_reducible refine vthenN ?_) | (with_reducible refine vthenE ?_) | (with_reducible refine vthenR ?_) | (with_reducible refine vret ?_) | (with_reducible refine vskip ?_) | (with_reducible refine vexit ?_) | (with_reducible refine vblock ?_) | (with_reducible refine vblockN ?_) | (with_reducible refine vblockR ?_) | (with_reducible refine vblockH ?_) | (with_reducible refine vrun_nil ?_) | (with_reducible refine vblockE rfl ?_) | (with_reducible refine vregion [] ?_) | (with_reducible refine vhrun_nil ?_) | ((with_reducible refine vcondT ?_ ?_); (focus (go_simp; done))) | ((with_reducible refine vcondF ?_ ?_); (focus (go_simp; done))) | ((with_reducible refine vrun_cons fun KK hKK => ?_); go_simp; (first | (with_reducible refine ⟨_, v102 _ hs, ?_⟩) | (with_reducible refine ⟨_, v103 _, ?_⟩) | skip); refine hKK _ ?_; clear hKK KK) | ((with_reducible refine vhrun_cons fun KK hKK => ?_); go_simp; (first | (with_reducible refine ⟨_, v102 _ hs, ?_⟩) | (with_reducible refine ⟨_, v103 _, ?_⟩) | skip); refine hKK _ ?_; clear hKK KK))
          have e := HE.out
          rw [show licE l[k] = 2 by simp [licE, h1, h2], if_pos (by omega)] at e
          subst e
          go_simp
      · repeat (first | (with_reducible refine vseq ?_) | (with_reducible refine vthenN ?_) | (with_reducible refine vthenE ?_) | (with_reducible refine vthenR ?_) | (with_reducible refine vret ?_) | (with_reducible refine vskip ?_) | (with_reducible refine vexit ?_) | (with_reducible refine vblock ?_) | (with_reducible refine vblockN ?_) | (with_reducible refine vblockR ?_) | (with_reducible refine vblockH ?_) | (with_reducible refine vrun_nil ?_) | (with_reducible refine vblockE rfl ?_) | (with_reducible refine vregion [] ?_) | (with_reducible refine vhrun_nil ?_) | ((with_reducible refine vcondT ?_ ?_); (focus (go_simp; done))) | ((with_reducible refine vcondF ?_ ?_); (focus (go_simp; done))) | ((with_reducible refine vrun_cons fun KK hKK => ?_); go_simp; (first | (with_reducible refine ⟨_, v102 _ hs, ?_⟩) | (with_reducible refine ⟨_, v103 _, ?_⟩) | skip); refine hKK _ ?_; clear hKK KK) | ((with_reducible refine vhrun_cons fun KK hKK => ?_); go_simp; (first | (with_reducible refine ⟨_, v102 _ hs, ?_⟩) | (with_reducible refine ⟨_, v103 _, ?_⟩) | skip); refine hKK _ ?_; clear hKK KK))
        have e := HE.out
        rw [show licE l[k] = 4 by simp [licE, h1], if_pos (by omega)] at e
        subst e
        go_simp
    · repeat (first | (with_reducible refine vseq ?_) | (with_reducible refine vthenN ?_) | (with_reducible refine vthenE ?_) | (with_reducible refine vthenR ?_) | (with_reducible refine vret ?_) | (with_reducible refine vskip ?_) | (with_reducible refine vexit ?_) | (with_reducible refine vblock ?_) | (with_reducible refine vblockN ?_) | (with_reducible refine vblockR ?_) | (with_reducible refine vblockH ?_) | (with_reducible refine vrun_nil ?_) | (with_reducible refine vblockE rfl ?_) | (with_reducible refine vregion [] ?_) | (with_reducible refine vhrun_nil ?_) | ((with_reducible refine vcondT ?_ ?_); (focus (go_simp; done))) | ((with_reducible refine vcondF ?_ ?_); (focus (go_simp; done))) | ((with_reducible refine vrun_cons fun KK hKK => ?_); go_simp; refine hKK _ ?_; clear hKK KK) | ((with_reducible refine vhrun_cons fun KK hKK => ?_); go_simp; refine hKK _ ?_; clear hKK KK))
      have e := HF.out
      rw [show l.length - k = 0 by omega, firstErr] at e
      subst e
      go_simp

/-! ### Whether a licence holds -/
def anyP (p : Nat → Bool) : Nat → Nat → Bool
  | _, 0 => false
  | k, n + 1 => p k || anyP p (k + 1) n
def ixP (p : Nat → Bool) : Nat → Nat → Int
  | _, 0 => -1
  | k, n + 1 => if p k then k else ixP p (k + 1) n
theorem ixP_any {p : Nat → Bool} : ∀ (n k : Nat), decide (0 ≤ ixP p k n) = anyP p k n
  | 0, k => rfl
  | n + 1, k => by
    rw [ixP, anyP]
    cases h : p k
    · simpa using ixP_any n (k + 1)
    · simp
theorem anyP_at {p : Nat → Bool} {k n : Nat} (h : k < n) : anyP p k (n - k) = (p k || anyP p (k + 1) (n - (k + 1))) := by
  rw [show n - k = (n - (k + 1)) + 1 by omega, anyP]
theorem ixP_at {p : Nat → Bool} {k n : Nat} (h : k < n) : ixP p k (n - k) = if p k then (k : Int) else ixP p (k + 1) (n - (k + 1)) := by
  rw [show n - k = (n - (k + 1)) + 1 by omega, ixP]
theorem anyP_iff {p : Nat → Bool} : ∀ (n k : Nat), anyP p k n = true ↔ ∃ j, k ≤ j ∧ j < k + n ∧ p j = true
  | 0, k => by simp [anyP]; omega
  | n + 1, k => by
    rw [anyP, Bool.or_eq_true, anyP_iff n (k + 1)]
    constructor
    · rintro (h | ⟨j, h1, h2, h3⟩)
      · exact ⟨k, Nat.le_refl _, by omega, h⟩
      · exact ⟨j, by omega, by omega, h3⟩
    · rintro ⟨j, h1, h2, h3⟩
      by_cases hj : j = k
      · subst hj; exact .inl h3
      · exact .inr ⟨j, by omega, by omega, h3⟩
def hp (kind : ByteArray) (date : Int) (x : Rec) : Bool := decide (x.driver = kind) && inR date x.lo x.hi
def holdsP (l : List Rec) (kind : ByteArray) (date : Int) : Bool := anyP (fun k => hp kind date (rat l k)) 0 l.length
theorem v142 (x : Rec) (kind : ByteArray) (date : Int) : VC Try.prog 142 [.agg x.av, .vp [S kind], .vp [I date]] (B (hp kind date x)) := by
  unfold hp
  refine VC_of Try.func142 rfl (by kernel_rfl) (by kernel_rfl) rfl fun M0 w0 => ?_
  simp only [Try.ntmps142, Try.results142, enumA]
  by_cases h : x.driver = kind
  · subst h
    repeat (first | (with_reducible refine vseq ?_) | (with_reducible refine vthenN ?_) | (with_reducible refine vthenE ?_) | (with_reducible refine vthenR ?_) | (with_reducible refine vret ?_) | (with_reducible refine vskip ?_) | (with_reducible refine vexit ?_) | (with_reducible refine vblock ?_) | (with_reducible refine vblockN ?_) | (with_reducible refine vblockR ?_) | (with_reducible refine vblockH ?_) | (with_reducible refine vrun_nil ?_) | (with_reducible refine vblockE rfl ?_) | (with_reducible refine vregion [] ?_) | (with_reducible refine vhrun_nil ?_) | ((with_reducible refine vcondT ?_ ?_); (focus (go_simp; done))) | ((with_reducible refine vcondF ?_ ?_); (focus (go_simp; done))) | ((with_reducible refine vrun_cons fun KK hKK => ?_); go_simp; (first | (with_reducible refine ⟨_, v106 _ _ _, ?_⟩) | skip); refine hKK _ ?_; clear hKK KK) | ((with_reducible refine vhrun_cons fun KK hKK => ?_); go_simp; (first | (with_reducible refine ⟨_, v106 _ _ _, ?_⟩) | skip); refine hKK _ ?_; clear hKK KK))
    go_simp
  · repeat (first | (with_reducible refine vseq ?_) | (with_reducible refine vthenN ?_) | (with_reducible refine vthenE ?_) | (with_reducible refine vthenR ?_) | (with_reducible refine vret ?_) | (with_reducible refine vskip ?_) | (with_reducible refine vexit ?_) | (with_reducible refine vblock ?_) | (with_reducible refine vblockN ?_) | (with_reducible refine vblockR ?_) | (with_reducible refine vblockH ?_) | (with_reducible refine vrun_nil ?_) | (with_reducible refine vblockE rfl ?_) | (with_reducible refine vregion [] ?_) | (with_reducible refine vhrun_nil ?_) | ((with_reducible refine vcondT ?_ ?_); (focus (go_simp; done))) | ((with_reducible refine vcondF ?_ ?_); (focus (go_simp; done))) | ((with_reducible refine vrun_cons fun KK hKK => ?_); go_simp; (first | (with_reducible refine ⟨_, v106 _ _ _, ?_⟩) | skip); refine hKK _ ?_; clear hKK KK) | ((with_reducible refine vhrun_cons fun KK hKK => ?_); go_simp; (first | (with_reducible refine ⟨_, v106 _ _ _, ?_⟩) | skip); refine hKK _ ?_; clear hKK KK))
    go_simp
theorem v156 (l : List Rec) (kind : ByteArray) (date : Int) (hl : l.length ≤ 1000) : VC Try.prog 156 [recsA l, .fn (.func 142) [] [.vp [S kind], .vp [I date]]] (I (ixP (fun k => hp kind date (rat l k)) 0 l.length)) := by
  generalize hR0 : ixP (fun k => hp kind date (rat l k)) 0 l.length = R
  have HR := Lib.hid hR0
  clear hR0
  refine VC_of Try.func156 rfl (by kernel_rfl) (by kernel_rfl) rfl fun M0 w0 => ?_
  simp only [Try.ntmps156, Try.results156, enumA]
  repeat (first | (with_reducible refine vseq ?_) | (with_reducible refine vthenN ?_) | (with_reducible refine vthenE ?_) | (with_reducible refine vthenR ?_) | (with_reducible refine vret ?_) | (with_reducible refine vskip ?_) | (with_reducible refine vexit ?_) | (with_reducible refine vblock ?_) | (with_reducible refine vblockN ?_) | (with_reducible refine vblockR ?_) | (with_reducible refine vblockH ?_) | (with_reducible refine vrun_nil ?_) | (with_reducible refine vblockE rfl ?_) | (with_reducible refine vregion [] ?_) | (with_reducible refine vhrun_nil ?_) | ((with_reducible refine vcondT ?_ ?_); (focus (go_simp; done))) | ((with_reducible refine vcondF ?_ ?_); (focus (go_simp; done))) | ((with_reducible refine vrun_cons fun KK hKK => ?_); go_simp; refine hKK _ ?_; clear hKK KK) | ((with_reducible refine vhrun_cons fun KK hKK => ?_); go_simp; refine hKK _ ?_; clear hKK KK))
  refine vloop (α := Nat) (fun k => ⟨[(8, I k), (7, I l.length), (0, recsA l), (1, .fn (.func 142) [] [.vp [S kind], .vp [I date]])], []⟩) (fun k => k ≤ l.length ∧ ixP (fun k => hp kind date (rat l k)) k (l.length - k) = R) (fun k => l.length - k) 0 ⟨by omega, HR.out⟩ (by go_simp) ?_
  rintro k ⟨hk, hf⟩ K hR
  have HF := Lib.hid hf
  clear hf
  by_cases hlt : k < l.length
  · have hf := HF.out
    rw [ixP_at hlt, rat_get hlt] at hf
    have HE := Lib.hid hf
    clear hf
    have hw := wrap_eq (x := (k : Int) + 1) (by omega) (by omega)
    cases h : hp kind date l[k]
    · repeat (first | (with_reducible refine vseq ?_) | (with_reducible refine vthenN ?_) | (with_reducible refine vthenE ?_) | (with_reducible refine vthenR ?_) | (with_reducible refine vret ?_) | (with_reducible refine vskip ?_) | (with_reducible refine vexit ?_) | (with_reducible refine vblock ?_) | (with_reducible refine vblockN ?_) | (with_reducible refine vblockR ?_) | (with_reducible refine vblockH ?_) | (with_reducible refine vrun_nil ?_) | (with_reducible refine vblockE rfl ?_) | (with_reducible refine vregion [] ?_) | (with_reducible refine vhrun_nil ?_) | ((with_reducible refine vcondT ?_ ?_); (focus (go_simp; done))) | ((with_reducible refine vcondF ?_ ?_); (focus (go_simp; done))) | ((with_reducible refine vrun_cons fun KK hKK => ?_); go_simp; (first | (refine ⟨_, v142 l[k] _ _, ?_⟩) | skip); refine hKK _ ?_; clear hKK KK) | ((with_reducible refine vhrun_cons fun KK hKK => ?_); go_simp; (first | (refine ⟨_, v142 l[k] _ _, ?_⟩) | skip); refine hKK _ ?_; clear hKK KK))
      refine hR _ (k + 1) ⟨hlt, ?_⟩ (by omega) ?_
      · have := HE.out
        rwa [h] at this
      · go_simp
    · repeat (first | (with_reducible refine vseq ?_) | (with_reducible refine vthenN ?_) | (with_reducible refine vthenE ?_) | (with_reducible refine vthenR ?_) | (with_reducible refine vret ?_) | (with_reducible refine vskip ?_) | (with_reducible refine vexit ?_) | (with_reducible refine vblock ?_) | (with_reducible refine vblockN ?_) | (with_reducible refine vblockR ?_) | (with_reducible refine vblockH ?_) | (with_reducible refine vrun_nil ?_) | (with_reducible refine vblockE rfl ?_) | (with_reducible refine vregion [] ?_) | (with_reducible refine vhrun_nil ?_) | ((with_reducible refine vcondT ?_ ?_); (focus (go_simp; done))) | ((with_reducible refine vcondF ?_ ?_); (focus (go_simp; done))) | ((with_reducible refine vrun_cons fun KK hKK => ?_); go_simp; (first | (refine ⟨_, v142 l[k] _ _, ?_⟩) | skip); refine hKK _ ?_; clear hKK KK) | ((with_reducible refine vhrun_cons fun KK hKK => ?_); go_simp; (first | (refine ⟨_, v142 l[k] _ _, ?_⟩) | skip); refine hKK _ ?_; clear hKK KK))
      have e := HE.out
      rw [h] at e
      clear h
      subst e
      go_simp
  · repeat (first | (with_reducible refine vseq ?_) | (with_reducible refine vthenN ?_) | (with_reducible refine vthenE ?_) | (with_reducible refine vthenR ?_) | (with_reducible refine vret ?_) | (with_reducible refine vskip ?_) | (with_reducible refine vexit ?_) | (with_reducible refine vblock ?_) | (with_reducible refine vblockN ?_) | (with_reducible refine vblockR ?_) | (with_reducible refine vblockH ?_) | (with_reducible refine vrun_nil ?_) | (with_reducible refine vblockE rfl ?_) | (with_reducible refine vregion [] ?_) | (with_reducible refine vhrun_nil ?_) | ((with_reducible refine vcondT ?_ ?_); (focus (go_simp; done))) | ((with_reducible refine vcondF ?_ ?_); (focus (go_simp; done))) | ((with_reducible refine vrun_cons fun KK hKK => ?_); go_simp; refine hKK _ ?_; clear hKK KK) | ((with_reducible refine vhrun_cons fun KK hKK => ?_); go_simp; refine hKK _ ?_; clear hKK KK))
    have e := HF.out
    rw [show l.length - k = 0 by omega, ixP] at e
    subst e
    go_simp
theorem v141 (l : List Rec) (kind : ByteArray) (date : Int) (hl : l.length ≤ 1000) : VC Try.prog 141 [recsA l, .fn (.func 142) [] [.vp [S kind], .vp [I date]]] (B (holdsP l kind date)) := by
  unfold holdsP
  rw [← ixP_any]
  refine VC_of Try.func141 rfl (by kernel_rfl) (by kernel_rfl) rfl fun M0 w0 => ?_
  simp only [Try.ntmps141, Try.results141, enumA]
  repeat (first | (with_reducible refine vseq ?_) | (with_reducible refine vthenN ?_) | (with_reducible refine vthenE ?_) | (with_reducible refine vthenR ?_) | (with_reducible refine vret ?_) | (with_reducible refine vskip ?_) | (with_reducible refine vexit ?_) | (with_reducible refine vblock ?_) | (with_reducible refine vblockN ?_) | (with_reducible refine vblockR ?_) | (with_reducible refine vblockH ?_) | (with_reducible refine vrun_nil ?_) | (with_reducible refine vblockE rfl ?_) | (with_reducible refine vregion [] ?_) | (with_reducible refine vhrun_nil ?_) | ((with_reducible refine vcondT ?_ ?_); (focus (go_simp; done))) | ((with_reducible refine vcondF ?_ ?_); (focus (go_simp; done))) | ((with_reducible refine vrun_cons fun KK hKK => ?_); go_simp; (first | (with_reducible refine ⟨_, v156 l kind date hl, ?_⟩) | skip); refine hKK _ ?_; clear hKK KK) | ((with_reducible refine vhrun_cons fun KK hKK => ?_); go_simp; (first | (with_reducible refine ⟨_, v156 l kind date hl, ?_⟩) | skip); refine hKK _ ?_; clear hKK KK))
  go_simp
theorem v101 (l : List Rec) (kind : ByteArray) (date : Int) (hl : l.length ≤ 1000) : VC Try.prog 101 [recsA l, S kind, I date] (B (holdsP l kind date)) := by
  refine VC_of Try.func101 rfl (by kernel_rfl) (by kernel_rfl) rfl fun M0 w0 => ?_
  simp only [Try.ntmps101, Try.results101, enumA]
  repeat (first | (with_reducible refine vseq ?_) | (with_reducible refine vthenN ?_) | (with_reducible refine vthenE ?_) | (with_reducible refine vthenR ?_) | (with_reducible refine vret ?_) | (with_reducible refine vskip ?_) | (with_reducible refine vexit ?_) | (with_reducible refine vblock ?_) | (with_reducible refine vblockN ?_) | (with_reducible refine vblockR ?_) | (with_reducible refine vblockH ?_) | (with_reducible refine vrun_nil ?_) | (with_reducible refine vblockE rfl ?_) | (with_reducible refine vregion [] ?_) | (with_reducible refine vhrun_nil ?_) | ((with_reducible refine vcondT ?_ ?_); (focus (go_simp; done))) | ((with_reducible refine vcondF ?_ ?_); (focus (go_simp; done))) | ((with_reducible refine vrun_cons fun KK hKK => ?_); go_simp; (first | (with_reducible refine ⟨_, v141 l kind date hl, ?_⟩) | skip); refine hKK _ ?_; clear hKK KK) | ((with_reducible refine vhrun_cons fun KK hKK => ?_); go_simp; (first | (with_reducible refine ⟨_, v141 l kind date hl, ?_⟩) | skip); refine hKK _ ?_; clear hKK KK))
  go_simp
theorem v51 (l : List Rec) (kind : ByteArray) (date : Int) (hl : l.length ≤ 1000) : VC Try.prog 51 [recsA l, S kind, I date] (B (holdsP l kind date)) := by
  generalize hR0 : holdsP l kind date = R
  have HR := Lib.hid hR0
  clear hR0
  refine VC_of Try.func51 rfl (by kernel_rfl) (by kernel_rfl) rfl fun M0 w0 => ?_
  simp only [Try.ntmps51, Try.results51, enumA]
  repeat (first | (with_reducible refine vseq ?_) | (with_reducible refine vthenN ?_) | (with_reducible refine vthenE ?_) | (with_reducible refine vthenR ?_) | (with_reducible refine vret ?_) | (with_reducible refine vskip ?_) | (with_reducible refine vexit ?_) | (with_reducible refine vblock ?_) | (with_reducible refine vblockN ?_) | (with_reducible refine vblockR ?_) | (with_reducible refine vblockH ?_) | (with_reducible refine vrun_nil ?_) | (with_reducible refine vblockE rfl ?_) | (with_reducible refine vregion [] ?_) | (with_reducible refine vhrun_nil ?_) | ((with_reducible refine vcondT ?_ ?_); (focus (go_simp; done))) | ((with_reducible refine vcondF ?_ ?_); (focus (go_simp; done))) | ((with_reducible refine vrun_cons fun KK hKK => ?_); go_simp; refine hKK _ ?_; clear hKK KK) | ((with_reducible refine vhrun_cons fun KK hKK => ?_); go_simp; refine hKK _ ?_; clear hKK KK))
  refine vloop (α := Nat) (fun k => ⟨[(7, I k), (0, recsA l), (1, S kind), (2, I date)], []⟩) (fun k => k ≤ l.length ∧ anyP (fun k => hp kind date (rat l k)) k (l.length - k) = R) (fun k => l.length - k) 0 ⟨by omega, HR.out⟩ (by go_simp) ?_
  rintro k ⟨hk, hf⟩ K hR
  have HF := Lib.hid hf
  clear hf
  by_cases hlt : k < l.length
  · have hf := HF.out
    rw [anyP_at hlt, rat_get hlt] at hf
    have HE := Lib.hid hf
    clear hf
    have hw := wrap_eq (x := (k : Int) + 1) (by omega) (by omega)
    by_cases h : l[k].driver = kind
    · subst h
      cases h2 : inR date l[k].lo l[k].hi
      · repeat (first | (with_reducible refine vseq ?_) | (with_reducible refine vthenN ?_) | (with_reducible refine vthenE ?_) | (with_reducible refine vthenR ?_) | (with_reducible refine vret ?_) | (with_reducible refine vskip ?_) | (with_reducible refine vexit ?_) | (with_reducible refine vblock ?_) | (with_reducible refine vblockN ?_) | (with_reducible refine vblockR ?_) | (with_reducible refine vblockH ?_) | (with_reducible refine vrun_nil ?_) | (with_reducible refine vblockE rfl ?_) | (with_reducible refine vregion [] ?_) | (with_reducible refine vhrun_nil ?_) | ((with_reducible refine vcondT ?_ ?_); (focus (go_simp; done))) | ((with_reducible refine vcondF ?_ ?_); (focus (go_simp; done))) | ((with_reducible refine vrun_cons fun KK hKK => ?_); go_simp; refine hKK _ ?_; clear hKK KK) | ((with_reducible refine vhrun_cons fun KK hKK => ?_); go_simp; refine hKK _ ?_; clear hKK KK))
        refine vdraw 21 [] (by kernel_rfl) (by kernel_rfl) ?_
        simp only [List.take, List.drop]
        repeat (first | (with_reducible refine vseq ?_) | (with_reducible refine vthenN ?_) | (with_reducible refine vthenE ?_) | (with_reducible refine vthenR ?_) | (with_reducible refine vret ?_) | (with_reducible refine vskip ?_) | (with_reducible refine vexit ?_) | (with_reducible refine vblock ?_) | (with_reducible refine vblockN ?_) | (with_reducible refine vblockR ?_) | (with_reducible refine vblockH ?_) | (with_reducible refine vrun_nil ?_) | (with_reducible refine vblockE rfl ?_) | (with_reducible refine vregion [] ?_) | (with_reducible refine vhrun_nil ?_) | ((with_reducible refine vcondT ?_ ?_); (focus (go_simp; done))) | ((with_reducible refine vcondF ?_ ?_); (focus (go_simp; done))) | ((with_reducible refine vrun_cons fun KK hKK => ?_); go_simp; (first | (with_reducible refine ⟨_, v36 _ _ _, ?_⟩) | skip); refine hKK _ ?_; clear hKK KK) | ((with_reducible refine vhrun_cons fun KK hKK => ?_); go_simp; (first | (with_reducible refine ⟨_, v36 _ _ _, ?_⟩) | skip); refine hKK _ ?_; clear hKK KK))
        refine hR _ (k + 1) ⟨hlt, ?_⟩ (by omega) ?_
        · have := HE.out
          simpa [hp, h2] using this
        · go_simp
      · repeat (first | (with_reducible refine vseq ?_) | (with_reducible refine vthenN ?_) | (with_reducible refine vthenE ?_) | (with_reducible refine vthenR ?_) | (with_reducible refine vret ?_) | (with_reducible refine vskip ?_) | (with_reducible refine vexit ?_) | (with_reducible refine vblock ?_) | (with_reducible refine vblockN ?_) | (with_reducible refine vblockR ?_) | (with_reducible refine vblockH ?_) | (with_reducible refine vrun_nil ?_) | (with_reducible refine vblockE rfl ?_) | (with_reducible refine vregion [] ?_) | (with_reducible refine vhrun_nil ?_) | ((with_reducible refine vcondT ?_ ?_); (focus (go_simp; done))) | ((with_reducible refine vcondF ?_ ?_); (focus (go_simp; done))) | ((with_reducible refine vrun_cons fun KK hKK => ?_); go_simp; refine hKK _ ?_; clear hKK KK) | ((with_reducible refine vhrun_cons fun KK hKK => ?_); go_simp; refine hKK _ ?_; clear hKK KK))
        refine vdraw 21 [] (by kernel_rfl) (by kernel_rfl) ?_
        simp only [List.take, List.drop]
        repeat (first | (with_reducible refine vseq ?_) | (with_reducible refine vthenN ?_) | (with_reducible refine vthenE ?_) | (with_reducible refine vthenR ?_) | (with_reducible refine vret ?_) | (with_reducible refine vskip ?_) | (with_reducible refine vexit ?_) | (with_reducible refine vblock ?_) | (with_reducible refine vblockN ?_) | (with_reducible refine vblockR ?_) | (with_reducible refine vblockH ?_) | (with_reducible refine vrun_nil ?_) | (with_reducible refine vblockE rfl ?_) | (with_reducible refine vregion [] ?_) | (with_reducible refine vhrun_nil ?_) | ((with_reducible refine vcondT ?_ ?_); (focus (go_simp; done))) | ((with_reducible refine vcondF ?_ ?_); (focus (go_simp; done))) | ((with_reducible refine vrun_cons fun KK hKK => ?_); go_simp; (first | (with_reducible refine ⟨_, v36 _ _ _, ?_⟩) | skip); refine hKK _ ?_; clear hKK KK) | ((with_reducible refine vhrun_cons fun KK hKK => ?_); go_simp; (first | (with_reducible refine ⟨_, v36 _ _ _, ?_⟩) | skip); refine hKK _ ?_; clear hKK KK))
        have e := HE.out
        simp only [hp, h2, decide_true, Bool.and_self, Bool.true_or] at e
        clear h2
        subst e
        go_simp
    · repeat (first | (with_reducible refine vseq ?_) | (with_reducible refine vthenN ?_) | (with_reducible refine vthenE ?_) | (with_reducible refine vthenR ?_) | (with_reducible refine vret ?_) | (with_reducible refine vskip ?_) | (with_reducible refine vexit ?_) | (with_reducible refine vblock ?_) | (with_reducible refine vblockN ?_) | (with_reducible refine vblockR ?_) | (with_reducible refine vblockH ?_) | (with_reducible refine vrun_nil ?_) | (with_reducible refine vblockE rfl ?_) | (with_reducible refine vregion [] ?_) | (with_reducible refine vhrun_nil ?_) | ((with_reducible refine vcondT ?_ ?_); (focus (go_simp; done))) | ((with_reducible refine vcondF ?_ ?_); (focus (go_simp; done))) | ((with_reducible refine vrun_cons fun KK hKK => ?_); go_simp; refine hKK _ ?_; clear hKK KK) | ((with_reducible refine vhrun_cons fun KK hKK => ?_); go_simp; refine hKK _ ?_; clear hKK KK))
      refine vdraw 21 [] (by kernel_rfl) (by kernel_rfl) ?_
      simp only [List.take, List.drop]
      repeat (first | (with_reducible refine vseq ?_) | (with_reducible refine vthenN ?_) | (with_reducible refine vthenE ?_) | (with_reducible refine vthenR ?_) | (with_reducible refine vret ?_) | (with_reducible refine vskip ?_) | (with_reducible refine vexit ?_) | (with_reducible refine vblock ?_) | (with_reducible refine vblockN ?_) | (with_reducible refine vblockR ?_) | (with_reducible refine vblockH ?_) | (with_reducible refine vrun_nil ?_) | (with_reducible refine vblockE rfl ?_) | (with_reducible refine vregion [] ?_) | (with_reducible refine vhrun_nil ?_) | ((with_reducible refine vcondT ?_ ?_); (focus (go_simp; done))) | ((with_reducible refine vcondF ?_ ?_); (focus (go_simp; done))) | ((with_reducible refine vrun_cons fun KK hKK => ?_); go_simp; (first | (with_reducible refine ⟨_, v36 _ _ _, ?_⟩) | skip); refine hKK _ ?_; clear hKK KK) | ((with_reducible refine vhrun_cons fun KK hKK => ?_); go_simp; (first | (with_reducible refine ⟨_, v36 _ _ _, ?_⟩) | skip); refine hKK _ ?_; clear hKK KK))
      refine hR _ (k + 1) ⟨hlt, ?_⟩ (by omega) ?_
      · have := HE.out
        simpa [hp, h] using this
      · go_simp
  · repeat (first | (with_reducible refine vseq ?_) | (with_reducible refine vthenN ?_) | (with_reducible refine vthenE ?_) | (with_reducible refine vthenR ?_) | (with_reducible refine vret ?_) | (with_reducible refine vskip ?_) | (with_reducible refine vexit ?_) | (with_reducible refine vblock ?_) | (with_reducible refine vblockN ?_) | (with_reducible refine vblockR ?_) | (with_reducible refine vblockH ?_) | (with_reducible refine vrun_nil ?_) | (with_reducible refine vblockE rfl ?_) | (with_reducible refine vregion [] ?_) | (with_reducible refine vhrun_nil ?_) | ((with_reducible refine vcondT ?_ ?_); (focus (go_simp; done))) | ((with_reducible refine vcondF ?_ ?_); (focus (go_simp; done))) | ((with_reducible refine vrun_cons fun KK hKK => ?_); go_simp; refine hKK _ ?_; clear hKK KK) | ((with_reducible refine vhrun_cons fun KK hKK => ?_); go_simp; refine hKK _ ?_; clear hKK KK))
    have e := HF.out
    rw [show l.length - k = 0 by omega, anyP] at e
    subst e
    go_simp
end Go.Proofs.Ytmfmpagfjgpodaa

/-! VKinds: Walks on plain values: copies, kinds of licences; texts of at most 1000 bytes. -/
namespace Go.Proofs.Ytmfmpagfjgpodaa
open Go.RowKit
set_option maxRecDepth 100000
theorem recs_one (l : List Rec) : ∀ (k : Nat) (x : List AV), (l.map Rec.av)[k]? = some x → x.length = 3 ∧ ∀ c ∈ x, oneAV c = true := by
  intro k x hk
  obtain ⟨r, _, rfl⟩ := map_at hk
  refine ⟨rfl, fun c hc => ?_⟩
  simp only [Rec.av, List.mem_cons, List.not_mem_nil, or_false] at hc
  rcases hc with rfl | rfl | rfl <;> rfl
theorem txts_one (l : List ByteArray) : ∀ (k : Nat) (x : List AV), (l.map txtA)[k]? = some x → x.length = 1 ∧ ∀ c ∈ x, oneAV c = true := by
  intro k x hk
  obtain ⟨r, _, rfl⟩ := map_at hk
  refine ⟨rfl, fun c hc => ?_⟩
  simp only [txtA, List.mem_cons, List.not_mem_nil, or_false] at hc
  rcases hc with rfl
  rfl
theorem o42 (l : List Rec) (hl : l.length ≤ 1000000) : VCo Try.prog 42 [recsA l] 143 3 false (l.map Rec.av) := by
  refine VCo_of Try.func42 rfl (by kernel_rfl) (by kernel_rfl) rfl Try.results42 (by decide) (recs_one l) fun M0 w0 => ?_
  simp only [Try.ntmps42, enumA]
  have hl2 : l.length ≤ 1000000000 := by omega
  repeat (first | (with_reducible refine vseq ?_) | (with_reducible refine vthenN ?_) | (with_reducible refine vthenE ?_) | (with_reducible refine vthenR ?_) | (with_reducible refine vret ?_) | (with_reducible refine vskip ?_) | (with_reducible refine vexit ?_) | (with_reducible refine vblock ?_) | (with_reducible refine vblockN ?_) | (with_reducible refine vblockR ?_) | (with_reducible refine vblockH ?_) | (with_reducible refine vrun_nil ?_) | (with_reducible refine vblockE rfl ?_) | (with_reducible refine vregion [3] ?_) | (with_reducible refine vhrun_nil ?_) | ((with_reducible refine vcondT ?_ ?_); (focus (go_simp; done))) | ((with_reducible refine vcondF ?_ ?_); (focus (go_simp; done))) | ((with_reducible refine vrun_cons fun KK hKK => ?_); go_simp; refine hKK _ ?_; clear hKK KK) | ((with_reducible refine vhrun_cons fun KK hKK => ?_); go_simp; refine hKK _ ?_; clear hKK KK))
  exact ⟨0, rfl, rfl⟩
theorem o20 (l : List Rec) (hl : l.length ≤ 1000000) : VCo Try.prog 20 [recsA l] 57 3 false (l.map Rec.av) := by
  refine VCo_of Try.func20 rfl (by kernel_rfl) (by kernel_rfl) rfl Try.results20 (by decide) (recs_one l) fun M0 w0 => ?_
  simp only [Try.ntmps20, enumA]
  have hl2 : l.length ≤ 1000000000 := by omega
  repeat (first | (with_reducible refine vseq ?_) | (with_reducible refine vthenN ?_) | (with_reducible refine vthenE ?_) | (with_reducible refine vthenR ?_) | (with_reducible refine vret ?_) | (with_reducible refine vskip ?_) | (with_reducible refine vexit ?_) | (with_reducible refine vblock ?_) | (with_reducible refine vblockN ?_) | (with_reducible refine vblockR ?_) | (with_reducible refine vblockH ?_) | (with_reducible refine vrun_nil ?_) | (with_reducible refine vblockE rfl ?_) | (with_reducible refine vregion [3] ?_) | (with_reducible refine vhrun_nil ?_) | ((with_reducible refine vcondT ?_ ?_); (focus (go_simp; done))) | ((with_reducible refine vcondF ?_ ?_); (focus (go_simp; done))) | ((with_reducible refine vrun_cons fun KK hKK => ?_); go_simp; refine hKK _ ?_; clear hKK KK) | ((with_reducible refine vhrun_cons fun KK hKK => ?_); go_simp; refine hKK _ ?_; clear hKK KK))
  exact ⟨0, rfl, rfl⟩
theorem o43 (l : List ByteArray) (hl : l.length ≤ 1000000) : VCo Try.prog 43 [.sl 1 (l.map txtA)] 9 1 false (l.map txtA) := by
  refine VCo_of Try.func43 rfl (by kernel_rfl) (by kernel_rfl) rfl Try.results43 (by decide) (txts_one l) fun M0 w0 => ?_
  simp only [Try.ntmps43, enumA]
  have hl2 : l.length ≤ 1000000000 := by omega
  repeat (first | (with_reducible refine vseq ?_) | (with_reducible refine vthenN ?_) | (with_reducible refine vthenE ?_) | (with_reducible refine vthenR ?_) | (with_reducible refine vret ?_) | (with_reducible refine vskip ?_) | (with_reducible refine vexit ?_) | (with_reducible refine vblock ?_) | (with_reducible refine vblockN ?_) | (with_reducible refine vblockR ?_) | (with_reducible refine vblockH ?_) | (with_reducible refine vrun_nil ?_) | (with_reducible refine vblockE rfl ?_) | (with_reducible refine vregion [3] ?_) | (with_reducible refine vhrun_nil ?_) | ((with_reducible refine vcondT ?_ ?_); (focus (go_simp; done))) | ((with_reducible refine vcondF ?_ ?_); (focus (go_simp; done))) | ((with_reducible refine vrun_cons fun KK hKK => ?_); go_simp; refine hKK _ ?_; clear hKK KK) | ((with_reducible refine vhrun_cons fun KK hKK => ?_); go_simp; refine hKK _ ?_; clear hKK KK))
  exact ⟨0, rfl, rfl⟩
/-- Text number k. -/
def tat (l : List ByteArray) (k : Nat) : ByteArray := l.getD k ByteArray.empty
theorem tat_get {l : List ByteArray} {k : Nat} (h : k < l.length) : tat l k = l[k] := by simp [tat, h]
abbrev txtsA (l : List ByteArray) : AV := .sl 1 (l.map txtA)
def SmallT (l : List ByteArray) : Prop := ∀ x ∈ l, x.size ≤ 1000
theorem SmallT.at_ {l : List ByteArray} (h : SmallT l) {k : Nat} (hk : k < l.length) : l[k].size ≤ 1000 := h _ (List.getElem_mem hk)
theorem v98 (k : Int) (s : ByteArray) (hs : s.size ≤ 1000) : VC Try.prog 98 [I k, S s] (I (nameErr s)) := by
  refine VC_of Try.func98 rfl (by kernel_rfl) (by kernel_rfl) rfl fun M0 w0 => ?_
  simp only [Try.ntmps98, Try.results98, enumA]
  repeat (first | (with_reducible refine vseq ?_) | (with_reducible refine vthenN ?_) | (with_reducible refine vthenE ?_) | (with_reducible refine vthenR ?_) | (with_reducible refine vret ?_) | (with_reducible refine vskip ?_) | (with_reducible refine vexit ?_) | (with_reducible refine vblock ?_) | (with_reducible refine vblockN ?_) | (with_reducible refine vblockR ?_) | (with_reducible refine vblockH ?_) | (with_reducible refine vrun_nil ?_) | (with_reducible refine vblockE rfl ?_) | (with_reducible refine vregion [] ?_) | (with_reducible refine vhrun_nil ?_) | ((with_reducible refine vcondT ?_ ?_); (focus (go_simp; done))) | ((with_reducible refine vcondF ?_ ?_); (focus (go_simp; done))) | ((with_reducible refine vrun_cons fun KK hKK => ?_); go_simp; (first | (with_reducible refine ⟨_, v99 _ hs, ?_⟩) | skip); refine hKK _ ?_; clear hKK KK) | ((with_reducible refine vhrun_cons fun KK hKK => ?_); go_simp; (first | (with_reducible refine ⟨_, v99 _ hs, ?_⟩) | skip); refine hKK _ ?_; clear hKK KK))
  go_simp
theorem v97 (l : List ByteArray) (hl : l.length ≤ 1000) (hd : SmallT l) : VC Try.prog 97 [txtsA l, I 20, .lit (.func (.func 98) #[] #[])] (.tup [I (checkL l.length 20 fun k => nameErr (tat l k)).1, I (checkL l.length 20 fun k => nameErr (tat l k)).2]) := by
  generalize hR0 : checkL l.length 20 (fun k => nameErr (tat l k)) = R
  unfold checkL at hR0
  have HR := Lib.hid hR0
  clear hR0
  refine VC_of Try.func97 rfl (by kernel_rfl) (by kernel_rfl) rfl fun M0 w0 => ?_
  simp only [Try.ntmps97, Try.results97, enumA]
  by_cases hlen : (20 : Int) < l.length
  · repeat (first | (with_reducible refine vseq ?_) | (with_reducible refine vthenN ?_) | (with_reducible refine vthenE ?_) | (with_reducible refine vthenR ?_) | (with_reducible refine vret ?_) | (with_reducible refine vskip ?_) | (with_reducible refine vexit ?_) | (with_reducible refine vblock ?_) | (with_reducible refine vblockN ?_) | (with_reducible refine vblockR ?_) | (with_reducible refine vblockH ?_) | (with_reducible refine vrun_nil ?_) | (with_reducible refine vblockE rfl ?_) | (with_reducible refine vregion [] ?_) | (with_reducible refine vhrun_nil ?_) | ((with_reducible refine vcondT ?_ ?_); (focus (go_simp; done))) | ((with_reducible refine vcondF ?_ ?_); (focus (go_simp; done))) | ((with_reducible refine vrun_cons fun KK hKK => ?_); go_simp; refine hKK _ ?_; clear hKK KK) | ((with_reducible refine vhrun_cons fun KK hKK => ?_); go_simp; refine hKK _ ?_; clear hKK KK))
    have e := HR.out
    rw [if_pos hlen] at e
    subst e
    go_simp
  · repeat (first | (with_reducible refine vseq ?_) | (with_reducible refine vthenN ?_) | (with_reducible refine vthenE ?_) | (with_reducible refine vthenR ?_) | (with_reducible refine vret ?_) | (with_reducible refine vskip ?_) | (with_reducible refine vexit ?_) | (with_reducible refine vblock ?_) | (with_reducible refine vblockN ?_) | (with_reducible refine vblockR ?_) | (with_reducible refine vblockH ?_) | (with_reducible refine vrun_nil ?_) | (with_reducible refine vblockE rfl ?_) | (with_reducible refine vregion [] ?_) | (with_reducible refine vhrun_nil ?_) | ((with_reducible refine vcondT ?_ ?_); (focus (go_simp; done))) | ((with_reducible refine vcondF ?_ ?_); (focus (go_simp; done))) | ((with_reducible refine vrun_cons fun KK hKK => ?_); go_simp; refine hKK _ ?_; clear hKK KK) | ((with_reducible refine vhrun_cons fun KK hKK => ?_); go_simp; refine hKK _ ?_; clear hKK KK))
    have e := HR.out
    rw [if_neg hlen] at e
    refine vloop (α := Nat) (fun k => ⟨[(2, .lit (.func (.func 98) #[] #[])), (17, I k), (16, I l.length), (15, txtsA l)], []⟩) (fun k => k ≤ l.length ∧ firstErr (fun k => nameErr (tat l k)) k (l.length - k) = R) (fun k => l.length - k) 0 ⟨by omega, e⟩ (by clear e; go_simp) ?_
    clear e
    rintro k ⟨hk, hf⟩ K hR
    have HF := Lib.hid hf
    clear hf
    by_cases hlt : k < l.length
    · have hf := HF.out
      rw [firstErr_at hlt, tat_get hlt] at hf
      have HE := Lib.hid hf
      clear hf
      by_cases h0 : nameErr l[k] = 0
      · have hw := wrap_eq (x := (k : Int) + 1) (by omega) (by omega)
        repeat (first | (with_reducible refine vseq ?_) | (with_reducible refine vthenN ?_) | (with_reducible refine vthenE ?_) | (with_reducible refine vthenR ?_) | (with_reducible refine vret ?_) | (with_reducible refine vskip ?_) | (with_reducible refine vexit ?_) | (with_reducible refine vblock ?_) | (with_reducible refine vblockN ?_) | (with_reducible refine vblockR ?_) | (with_reducible refine vblockH ?_) | (with_reducible refine vrun_nil ?_) | (with_reducible refine vblockE rfl ?_) | (with_reducible refine vregion [] ?_) | (with_reducible refine vhrun_nil ?_) | ((with_reducible refine vcondT ?_ ?_); (focus (go_simp; done))) | ((with_reducible refine vcondF ?_ ?_); (focus (go_simp; done))) | ((with_reducible refine vrun_cons fun KK hKK => ?_); go_simp; (first | (with_reducible refine ⟨_, v98 _ l[k] (hd.at_ hlt), ?_⟩) | skip); refine hKK _ ?_; clear hKK KK) | ((with_reducible refine vhrun_cons fun KK hKK => ?_); go_simp; (first | (with_reducible refine ⟨_, v98 _ l[k] (hd.at_ hlt), ?_⟩) | skip); refine hKK _ ?_; clear hKK KK))
        refine hR _ (k + 1) ⟨hlt, ?_⟩ (by omega) ?_
        · have := HE.out
          rwa [if_neg (by simpa using h0)] at this
        · go_simp
      · repeat (first | (with_reducible refine vseq ?_) | (with_reducible refine vthenN ?_) | (with_reducible refine vthenE ?_) | (with_reducible refine vthenR ?_) | (with_reducible refine vret ?_) | (with_reducible refine vskip ?_) | (with_reducible refine vexit ?_) | (with_reducible refine vblock ?_) | (with_reducible refine vblockN ?_) | (with_reducible refine vblockR ?_) | (with_reducible refine vblockH ?_) | (with_reducible refine vrun_nil ?_) | (with_reducible refine vblockE rfl ?_) | (with_reducible refine vregion [] ?_) | (with_reducible refine vhrun_nil ?_) | ((with_reducible refine vcondT ?_ ?_); (focus (go_simp; done))) | ((with_reducible refine vcondF ?_ ?_); (focus (go_simp; done))) | ((with_reducible refine vrun_cons fun KK hKK => ?_); go_simp; (first | (with_reducible refine ⟨_, v98 _ l[k] (hd.at_ hlt), ?_⟩) | skip); refine hKK _ ?_; clear hKK KK) | ((with_reducible refine vhrun_cons fun KK hKK => ?_); go_simp; (first | (with_reducible refine ⟨_, v98 _ l[k] (hd.at_ hlt), ?_⟩) | skip); refine hKK _ ?_; clear hKK KK))
        have e := HE.out
        rw [if_pos h0] at e
        subst e
        go_simp
    · repeat (first | (with_reducible refine vseq ?_) | (with_reducible refine vthenN ?_) | (with_reducible refine vthenE ?_) | (with_reducible refine vthenR ?_) | (with_reducible refine vret ?_) | (with_reducible refine vskip ?_) | (with_reducible refine vexit ?_) | (with_reducible refine vblock ?_) | (with_reducible refine vblockN ?_) | (with_reducible refine vblockR ?_) | (with_reducible refine vblockH ?_) | (with_reducible refine vrun_nil ?_) | (with_reducible refine vblockE rfl ?_) | (with_reducible refine vregion [] ?_) | (with_reducible refine vhrun_nil ?_) | ((with_reducible refine vcondT ?_ ?_); (focus (go_simp; done))) | ((with_reducible refine vcondF ?_ ?_); (focus (go_simp; done))) | ((with_reducible refine vrun_cons fun KK hKK => ?_); go_simp; refine hKK _ ?_; clear hKK KK) | ((with_reducible refine vhrun_cons fun KK hKK => ?_); go_simp; refine hKK _ ?_; clear hKK KK))
      have e := HF.out
      rw [show l.length - k = 0 by omega, firstErr] at e
      subst e
      go_simp
/-- The first kind that no licence holds for, and the empty text if there is none. -/
def driveP (l : List Rec) (ks : List ByteArray) (date : Int) : Nat → Nat → ByteArray
  | _, 0 => ⟨#[]⟩
  | k, n + 1 => if holdsP l (tat ks k) date then driveP l ks date (k + 1) n else tat ks k
theorem driveP_at {l : List Rec} {ks : List ByteArray} {date : Int} {k n : Nat} (h : k < n) : driveP l ks date k (n - k) = if holdsP l (tat ks k) date then driveP l ks date (k + 1) (n - (k + 1)) else tat ks k := by
  rw [show n - k = (n - (k + 1)) + 1 by omega, driveP]
def kindsE (ks : List ByteArray) : Int := (checkL ks.length 20 fun k => nameErr (tat ks k)).2
def driveE (l : List Rec) (ks : List ByteArray) (date : Int) : Int := if (lics l).2 ≠ 0 then (lics l).2 else if kindsE ks ≠ 0 then kindsE ks else dateErr date
attribute [go_sem] fst
theorem v41 (l : List Rec) (ks : List ByteArray) (date : Int) (hl : l.length ≤ 1000) (hd : Small l) (hl2 : ks.length ≤ 1000) (hd2 : SmallT ks) :
    VC Try.prog 41 [recsA l, txtsA ks, I date] (.tup [S (if driveE l ks date ≠ 0 then ⟨#[]⟩ else driveP l ks date 0 ks.length), I (driveE l ks date)]) := by
  have h97 := Lib.hid (v97 ks hl2 hd2)
  generalize hR0 : driveP l ks date 0 ks.length = R
  have HR := Lib.hid hR0
  clear hR0
  unfold driveE kindsE
  generalize (checkL ks.length 20 fun k => nameErr (tat ks k)) = E at h97
  refine VC_of Try.func41 rfl (by kernel_rfl) (by kernel_rfl) rfl fun M0 w0 => ?_
  simp only [Try.ntmps41, Try.results41, enumA]
  by_cases h1 : (lics l).2 = 0
  · by_cases h2 : E.2 = 0
    · by_cases h3 : dateErr date = 0
      · repeat (first | (with_reducible refine vseq ?_) | (with_reducible refine vthenN ?_) | (with_reducible refine vthenE ?_) | (with_reducible refine vthenR ?_) | (with_reducible refine vret ?_) | (with_reducible refine vskip ?_) | (with_reducible refine vexit ?_) | (with_reducible refine vblock ?_) | (with_reducible refine vblockN ?_) | (with_reducible refine vblockR ?_) | (with_reducible refine vblockH ?_) | (with_reducible refine vrun_nil ?_) | (with_reducible refine vblockE rfl ?_) | (with_reducible refine vregion [] ?_) | (with_reducible refine vhrun_nil ?_) | ((with_reducible refine vcondT ?_ ?_); (focus (go_simp; done))) | ((with_reducible refine vcondF ?_ ?_); (focus (go_simp; done))) | ((with_reducible refine vrun_cons fun KK hKK => ?_); go_simp; (first | (with_reducible refine ⟨_, v96 l hl hd, ?_⟩) | (refine ⟨_, h97.out, ?_⟩) | (with_reducible refine ⟨_, v100 _, ?_⟩) | (refine ⟨_, v75 [_, _] rfl, ?_⟩) | skip); refine hKK _ ?_; clear hKK KK) | ((with_reducible refine vhrun_cons fun KK hKK => ?_); go_simp; (first | (with_reducible refine ⟨_, v96 l hl hd, ?_⟩) | (refine ⟨_, h97.out, ?_⟩) | (with_reducible refine ⟨_, v100 _, ?_⟩) | (refine ⟨_, v75 [_, _] rfl, ?_⟩) | skip); refine hKK _ ?_; clear hKK KK))
        refine vloop (α := Nat) (fun k => ⟨[(35, I k), (34, I ks.length), (33, txtsA ks), (8, recsA l), (2, I date)], []⟩) (fun k => k ≤ ks.length ∧ driveP l ks date k (ks.length - k) = R) (fun k => ks.length - k) 0 ⟨by omega, HR.out⟩ (by go_simp) ?_
        rintro k ⟨hk, hf⟩ K hR
        have HF := Lib.hid hf
        clear hf
        by_cases hlt : k < ks.length
        · have hf := HF.out
          rw [driveP_at hlt, tat_get hlt] at hf
          have HE := Lib.hid hf
          clear hf
          have hw := wrap_eq (x := (k : Int) + 1) (by omega) (by omega)
          cases h : holdsP l ks[k] date
          · repeat (first | (with_reducible refine vseq ?_) | (with_reducible refine vthenN ?_) | (with_reducible refine vthenE ?_) | (with_reducible refine vthenR ?_) | (with_reducible refine vret ?_) | (with_reducible refine vskip ?_) | (with_reducible refine vexit ?_) | (with_reducible refine vblock ?_) | (with_reducible refine vblockN ?_) | (with_reducible refine vblockR ?_) | (with_reducible refine vblockH ?_) | (with_reducible refine vrun_nil ?_) | (with_reducible refine vblockE rfl ?_) | (with_reducible refine vregion [] ?_) | (with_reducible refine vhrun_nil ?_) | ((with_reducible refine vcondT ?_ ?_); (focus (go_simp; done))) | ((with_reducible refine vcondF ?_ ?_); (focus (go_simp; done))) | ((with_reducible refine vrun_cons fun KK hKK => ?_); go_simp; (first | (with_reducible refine ⟨_, v101 l _ _ hl, ?_⟩) | skip); refine hKK _ ?_; clear hKK KK) | ((with_reducible refine vhrun_cons fun KK hKK => ?_); go_simp; (first | (with_reducible refine ⟨_, v101 l _ _ hl, ?_⟩) | skip); refine hKK _ ?_; clear hKK KK))
            have e := HE.out
            rw [h] at e
            clear h
            simp only [Bool.false_eq_true, if_false] at e
            subst e
            go_simp
          · repeat (first | (with_reducible refine vseq ?_) | (with_reducible refine vthenN ?_) | (with_reducible refine vthenE ?_) | (with_reducible refine vthenR ?_) | (with_reducible refine vret ?_) | (with_reducible refine vskip ?_) | (with_reducible refine vexit ?_) | (with_reducible refine vblock ?_) | (with_reducible refine vblockN ?_) | (with_reducible refine vblockR ?_) | (with_reducible refine vblockH ?_) | (with_reducible refine vrun_nil ?_) | (with_reducible refine vblockE rfl ?_) | (with_reducible refine vregion [] ?_) | (with_reducible refine vhrun_nil ?_) | ((with_reducible refine vcondT ?_ ?_); (focus (go_simp; done))) | ((with_reducible refine vcondF ?_ ?_); (focus (go_simp; done))) | ((with_reducible refine vrun_cons fun KK hKK => ?_); go_simp; (first | (with_reducible refine ⟨_, v101 l _ _ hl, ?_⟩) | skip); refine hKK _ ?_; clear hKK KK) | ((with_reducible refine vhrun_cons fun KK hKK => ?_); go_simp; (first | (with_reducible refine ⟨_, v101 l _ _ hl, ?_⟩) | skip); refine hKK _ ?_; clear hKK KK))
            refine hR _ (k + 1) ⟨hlt, ?_⟩ (by omega) ?_
            · have := HE.out
              rwa [h, if_pos rfl] at this
            · go_simp
        · repeat (first | (with_reducible refine vseq ?_) | (with_reducible refine vthenN ?_) | (with_reducible refine vthenE ?_) | (with_reducible refine vthenR ?_) | (with_reducible refine vret ?_) | (with_reducible refine vskip ?_) | (with_reducible refine vexit ?_) | (with_reducible refine vblock ?_) | (with_reducible refine vblockN ?_) | (with_reducible refine vblockR ?_) | (with_reducible refine vblockH ?_) | (with_reducible refine vrun_nil ?_) | (with_reducible refine vblockE rfl ?_) | (with_reducible refine vregion [] ?_) | (with_reducible refine vhrun_nil ?_) | ((with_reducible refine vcondT ?_ ?_); (focus (go_simp; done))) | ((with_reducible refine vcondF ?_ ?_); (focus (go_simp; done))) | ((with_reducible refine vrun_cons fun KK hKK => ?_); go_simp; refine hKK _ ?_; clear hKK KK) | ((with_reducible refine vhrun_cons fun KK hKK => ?_); go_simp; refine hKK _ ?_; clear hKK KK))
          have e := HF.out
          rw [show ks.length - k = 0 by omega, driveP] at e
          subst e
          go_simp
      · repeat (first | (with_reducible refine vseq ?_) | (with_reducible refine vthenN ?_) | (with_reducible refine vthenE ?_) | (with_reducible refine vthenR ?_) | (with_reducible refine vret ?_) | (with_reducible refine vskip ?_) | (with_reducible refine vexit ?_) | (with_reducible refine vblock ?_) | (with_reducible refine vblockN ?_) | (with_reducible refine vblockR ?_) | (with_reducible refine vblockH ?_) | (with_reducible refine vrun_nil ?_) | (with_reducible refine vblockE rfl ?_) | (with_reducible refine vregion [] ?_) | (with_reducible refine vhrun_nil ?_) | ((with_reducible refine vcondT ?_ ?_); (focus (go_simp; done))) | ((with_reducible refine vcondF ?_ ?_); (focus (go_simp; done))) | ((with_reducible refine vrun_cons fun KK hKK => ?_); go_simp; (first | (with_reducible refine ⟨_, v96 l hl hd, ?_⟩) | (refine ⟨_, h97.out, ?_⟩) | (with_reducible refine ⟨_, v100 _, ?_⟩) | (refine ⟨_, v75 [_, _] rfl, ?_⟩) | skip); refine hKK _ ?_; clear hKK KK) | ((with_reducible refine vhrun_cons fun KK hKK => ?_); go_simp; (first | (with_reducible refine ⟨_, v96 l hl hd, ?_⟩) | (refine ⟨_, h97.out, ?_⟩) | (with_reducible refine ⟨_, v100 _, ?_⟩) | (refine ⟨_, v75 [_, _] rfl, ?_⟩) | skip); refine hKK _ ?_; clear hKK KK))
        go_simp
    · repeat (first | (with_reducible refine vseq ?_) | (with_reducible refine vthenN ?_) | (with_reducible refine vthenE ?_) | (with_reducible refine vthenR ?_) | (with_reducible refine vret ?_) | (with_reducible refine vskip ?_) | (with_reducible refine vexit ?_) | (with_reducible refine vblock ?_) | (with_reducible refine vblockN ?_) | (with_reducible refine vblockR ?_) | (with_reducible refine vblockH ?_) | (with_reducible refine vrun_nil ?_) | (with_reducible refine vblockE rfl ?_) | (with_reducible refine vregion [] ?_) | (with_reducible refine vhrun_nil ?_) | ((with_reducible refine vcondT ?_ ?_); (focus (go_simp; done))) | ((with_reducible refine vcondF ?_ ?_); (focus (go_simp; done))) | ((with_reducible refine vrun_cons fun KK hKK => ?_); go_simp; (first | (with_reducible refine ⟨_, v96 l hl hd, ?_⟩) | (refine ⟨_, h97.out, ?_⟩) | (with_reducible refine ⟨_, v100 _, ?_⟩) | (refine ⟨_, v75 [_, _] rfl, ?_⟩) | skip); refine hKK _ ?_; clear hKK KK) | ((with_reducible refine vhrun_cons fun KK hKK => ?_); go_simp; (first | (with_reducible refine ⟨_, v96 l hl hd, ?_⟩) | (refine ⟨_, h97.out, ?_⟩) | (with_reducible refine ⟨_, v100 _, ?_⟩) | (refine ⟨_, v75 [_, _] rfl, ?_⟩) | skip); refine hKK _ ?_; clear hKK KK))
      go_simp
  · repeat (first | (with_reducible refine vseq ?_) | (with_reducible refine vthenN ?_) | (with_reducible refine vthenE ?_) | (with_reducible refine vthenR ?_) | (with_reducible refine vret ?_) | (with_reducible refine vskip ?_) | (with_reducible refine vexit ?_) | (with_reducible refine vblock ?_) | (with_reducible refine vblockN ?_) | (with_reducible refine vblockR ?_) | (with_reducible refine vblockH ?_) | (with_reducible refine vrun_nil ?_) | (with_reducible refine vblockE rfl ?_) | (with_reducible refine vregion [] ?_) | (with_reducible refine vhrun_nil ?_) | ((with_reducible refine vcondT ?_ ?_); (focus (go_simp; done))) | ((with_reducible refine vcondF ?_ ?_); (focus (go_simp; done))) | ((with_reducible refine vrun_cons fun KK hKK => ?_); go_simp; (first | (with_reducible refine ⟨_, v96 l hl hd, ?_⟩) | (refine ⟨_, h97.out, ?_⟩) | (with_reducible refine ⟨_, v100 _, ?_⟩) | (refine ⟨_, v75 [_, _] rfl, ?_⟩) | skip); refine hKK _ ?_; clear hKK KK) | ((with_reducible refine vhrun_cons fun KK hKK => ?_); go_simp; (first | (with_reducible refine ⟨_, v96 l hl hd, ?_⟩) | (refine ⟨_, h97.out, ?_⟩) | (with_reducible refine ⟨_, v100 _, ?_⟩) | (refine ⟨_, v75 [_, _] rfl, ?_⟩) | skip); refine hKK _ ?_; clear hKK KK))
    go_simp
theorem nameErr_or (s : ByteArray) : nameErr s = if isName s then 0 else 4 := by
  unfold nameErr unl
  rfl
theorem v44 (l : List Rec) (ks : List ByteArray) (date : Int) (hl : l.length ≤ 1000) (hd : Small l) (hl2 : ks.length ≤ 1000) (hd2 : SmallT ks) : VC Try.prog 44 [recsA l, txtsA ks, I date] (I (driveE l ks date)) := by
  generalize hR0 : driveE l ks date = R
  unfold driveE kindsE checkL at hR0
  have HR := Lib.hid hR0
  clear hR0
  refine VC_of Try.func44 rfl (by kernel_rfl) (by kernel_rfl) rfl fun M0 w0 => ?_
  simp only [Try.ntmps44, Try.results44, enumA]
  by_cases h1 : (lics l).2 = 0
  · by_cases h2 : (20 : Int) < ks.length
    · repeat (first | (with_reducible refine vseq ?_) | (with_reducible refine vthenN ?_) | (with_reducible refine vthenE ?_) | (with_reducible refine vthenR ?_) | (with_reducible refine vret ?_) | (with_reducible refine vskip ?_) | (with_reducible refine vexit ?_) | (with_reducible refine vblock ?_) | (with_reducible refine vblockN ?_) | (with_reducible refine vblockR ?_) | (with_reducible refine vblockH ?_) | (with_reducible refine vrun_nil ?_) | (with_reducible refine vblockE rfl ?_) | (with_reducible refine vregion [] ?_) | (with_reducible refine vhrun_nil ?_) | ((with_reducible refine vcondT ?_ ?_); (focus (go_simp; done))) | ((with_reducible refine vcondF ?_ ?_); (focus (go_simp; done))) | ((with_reducible refine vrun_cons fun KK hKK => ?_); go_simp; (first | (with_reducible refine ⟨_, v47 l hl hd, ?_⟩) | skip); refine hKK _ ?_; clear hKK KK) | ((with_reducible refine vhrun_cons fun KK hKK => ?_); go_simp; (first | (with_reducible refine ⟨_, v47 l hl hd, ?_⟩) | skip); refine hKK _ ?_; clear hKK KK))
      have e := HR.out
      rw [if_neg (by simpa using h1), if_pos h2, if_pos (by simp)] at e
      subst e
      go_simp
    · have e := HR.out
      rw [if_neg (by simpa using h1), if_neg h2] at e
      have HE := Lib.hid e
      clear e
      repeat (first | (with_reducible refine vseq ?_) | (with_reducible refine vthenN ?_) | (with_reducible refine vthenE ?_) | (with_reducible refine vthenR ?_) | (with_reducible refine vret ?_) | (with_reducible refine vskip ?_) | (with_reducible refine vexit ?_) | (with_reducible refine vblock ?_) | (with_reducible refine vblockN ?_) | (with_reducible refine vblockR ?_) | (with_reducible refine vblockH ?_) | (with_reducible refine vrun_nil ?_) | (with_reducible refine vblockE rfl ?_) | (with_reducible refine vregion [] ?_) | (with_reducible refine vhrun_nil ?_) | ((with_reducible refine vcondT ?_ ?_); (focus (go_simp; done))) | ((with_reducible refine vcondF ?_ ?_); (focus (go_simp; done))) | ((with_reducible refine vrun_cons fun KK hKK => ?_); go_simp; (first | (with_reducible refine ⟨_, v47 l hl hd, ?_⟩) | skip); refine hKK _ ?_; clear hKK KK) | ((with_reducible refine vhrun_cons fun KK hKK => ?_); go_simp; (first | (with_reducible refine ⟨_, v47 l hl hd, ?_⟩) | skip); refine hKK _ ?_; clear hKK KK))
      refine vloop (α := Nat) (fun k => ⟨[(9, I k), (1, txtsA ks), (2, I date)], []⟩) (fun k => k ≤ ks.length ∧ (if (firstErr (fun k => nameErr (tat ks k)) k (ks.length - k)).2 ≠ 0 then (firstErr (fun k => nameErr (tat ks k)) k (ks.length - k)).2 else dateErr date) = R) (fun k => ks.length - k) 0 ⟨by omega, HE.out⟩ (by go_simp) ?_
      rintro k ⟨hk, hf⟩ K hR
      have HF := Lib.hid hf
      clear hf
      by_cases hlt : k < ks.length
      · have hf := HF.out
        rw [firstErr_at hlt, tat_get hlt, nameErr_or] at hf
        have HE := Lib.hid hf
        clear hf
        have hw := wrap_eq (x := (k : Int) + 1) (by omega) (by omega)
        have hs := hd2.at_ hlt
        cases h : isName ks[k]
        · repeat (first | (with_reducible refine vseq ?_) | (with_reducible refine vthenN ?_) | (with_reducible refine vthenE ?_) | (with_reducible refine vthenR ?_) | (with_reducible refine vret ?_) | (with_reducible refine vskip ?_) | (with_reducible refine vexit ?_) | (with_reducible refine vblock ?_) | (with_reducible refine vblockN ?_) | (with_reducible refine vblockR ?_) | (with_reducible refine vblockH ?_) | (with_reducible refine vrun_nil ?_) | (with_reducible refine vblockE rfl ?_) | (with_reducible refine vregion [] ?_) | (with_reducible refine vhrun_nil ?_) | ((with_reducible refine vcondT ?_ ?_); (focus (go_simp; done))) | ((with_reducible refine vcondF ?_ ?_); (focus (go_simp; done))) | ((with_reducible refine vrun_cons fun KK hKK => ?_); go_simp; (first | (with_reducible refine ⟨_, v102 _ hs, ?_⟩) | skip); refine hKK _ ?_; clear hKK KK) | ((with_reducible refine vhrun_cons fun KK hKK => ?_); go_simp; (first | (with_reducible refine ⟨_, v102 _ hs, ?_⟩) | skip); refine hKK _ ?_; clear hKK KK))
          have e := HE.out
          rw [h] at e
          clear h
          simp at e
          subst e
          go_simp
        · repeat (first | (with_reducible refine vseq ?_) | (with_reducible refine vthenN ?_) | (with_reducible refine vthenE ?_) | (with_reducible refine vthenR ?_) | (with_reducible refine vret ?_) | (with_reducible refine vskip ?_) | (with_reducible refine vexit ?_) | (with_reducible refine vblock ?_) | (with_reducible refine vblockN ?_) | (with_reducible refine vblockR ?_) | (with_reducible refine vblockH ?_) | (with_reducible refine vrun_nil ?_) | (with_reducible refine vblockE rfl ?_) | (with_reducible refine vregion [] ?_) | (with_reducible refine vhrun_nil ?_) | ((with_reducible refine vcondT ?_ ?_); (focus (go_simp; done))) | ((with_reducible refine vcondF ?_ ?_); (focus (go_simp; done))) | ((with_reducible refine vrun_cons fun KK hKK => ?_); go_simp; (first | (with_reducible refine ⟨_, v102 _ hs, ?_⟩) | skip); refine hKK _ ?_; clear hKK KK) | ((with_reducible refine vhrun_cons fun KK hKK => ?_); go_simp; (first | (with_reducible refine ⟨_, v102 _ hs, ?_⟩) | skip); refine hKK _ ?_; clear hKK KK))
          refine hR _ (k + 1) ⟨hlt, ?_⟩ (by omega) ?_
          · have := HE.out
            rw [h] at this
            simpa using this
          · go_simp
      · repeat (first | (with_reducible refine vseq ?_) | (with_reducible refine vthenN ?_) | (with_reducible refine vthenE ?_) | (with_reducible refine vthenR ?_) | (with_reducible refine vret ?_) | (with_reducible refine vskip ?_) | (with_reducible refine vexit ?_) | (with_reducible refine vblock ?_) | (with_reducible refine vblockN ?_) | (with_reducible refine vblockR ?_) | (with_reducible refine vblockH ?_) | (with_reducible refine vrun_nil ?_) | (with_reducible refine vblockE rfl ?_) | (with_reducible refine vregion [] ?_) | (with_reducible refine vhrun_nil ?_) | ((with_reducible refine vcondT ?_ ?_); (focus (go_simp; done))) | ((with_reducible refine vcondF ?_ ?_); (focus (go_simp; done))) | ((with_reducible refine vrun_cons fun KK hKK => ?_); go_simp; (first | (with_reducible refine ⟨_, v103 _, ?_⟩) | skip); refine hKK _ ?_; clear hKK KK) | ((with_reducible refine vhrun_cons fun KK hKK => ?_); go_simp; (first | (with_reducible refine ⟨_, v103 _, ?_⟩) | skip); refine hKK _ ?_; clear hKK KK))
        have e := HF.out
        rw [show ks.length - k = 0 by omega, firstErr] at e
        simp at e
        subst e
        go_simp
  · repeat (first | (with_reducible refine vseq ?_) | (with_reducible refine vthenN ?_) | (with_reducible refine vthenE ?_) | (with_reducible refine vthenR ?_) | (with_reducible refine vret ?_) | (with_reducible refine vskip ?_) | (with_reducible refine vexit ?_) | (with_reducible refine vblock ?_) | (with_reducible refine vblockN ?_) | (with_reducible refine vblockR ?_) | (with_reducible refine vblockH ?_) | (with_reducible refine vrun_nil ?_) | (with_reducible refine vblockE rfl ?_) | (with_reducible refine vregion [] ?_) | (with_reducible refine vhrun_nil ?_) | ((with_reducible refine vcondT ?_ ?_); (focus (go_simp; done))) | ((with_reducible refine vcondF ?_ ?_); (focus (go_simp; done))) | ((with_reducible refine vrun_cons fun KK hKK => ?_); go_simp; (first | (with_reducible refine ⟨_, v47 l hl hd, ?_⟩) | skip); refine hKK _ ?_; clear hKK KK) | ((with_reducible refine vhrun_cons fun KK hKK => ?_); go_simp; (first | (with_reducible refine ⟨_, v47 l hl hd, ?_⟩) | skip); refine hKK _ ?_; clear hKK KK))
    have e := HR.out
    rw [if_pos h1] at e
    subst e
    go_simp
theorem v45 (l : List Rec) (ks : List ByteArray) (date : Int) (hl : l.length ≤ 1000) (hl2 : ks.length ≤ 1000) : VC Try.prog 45 [recsA l, txtsA ks, I date] (S (driveP l ks date 0 ks.length)) := by
  generalize hR0 : driveP l ks date 0 ks.length = R
  have HR := Lib.hid hR0
  clear hR0
  refine VC_of Try.func45 rfl (by kernel_rfl) (by kernel_rfl) rfl fun M0 w0 => ?_
  simp only [Try.ntmps45, Try.results45, enumA]
  repeat (first | (with_reducible refine vseq ?_) | (with_reducible refine vthenN ?_) | (with_reducible refine vthenE ?_) | (with_reducible refine vthenR ?_) | (with_reducible refine vret ?_) | (with_reducible refine vskip ?_) | (with_reducible refine vexit ?_) | (with_reducible refine vblock ?_) | (with_reducible refine vblockN ?_) | (with_reducible refine vblockR ?_) | (with_reducible refine vblockH ?_) | (with_reducible refine vrun_nil ?_) | (with_reducible refine vblockE rfl ?_) | (with_reducible refine vregion [] ?_) | (with_reducible refine vhrun_nil ?_) | ((with_reducible refine vcondT ?_ ?_); (focus (go_simp; done))) | ((with_reducible refine vcondF ?_ ?_); (focus (go_simp; done))) | ((with_reducible refine vrun_cons fun KK hKK => ?_); go_simp; refine hKK _ ?_; clear hKK KK) | ((with_reducible refine vhrun_cons fun KK hKK => ?_); go_simp; refine hKK _ ?_; clear hKK KK))
  refine vloop (α := Nat) (fun k => ⟨[(7, I k), (1, txtsA ks), (0, recsA l), (2, I date)], []⟩) (fun k => k ≤ ks.length ∧ driveP l ks date k (ks.length - k) = R) (fun k => ks.length - k) 0 ⟨by omega, HR.out⟩ (by go_simp) ?_
  rintro k ⟨hk, hf⟩ K hR
  have HF := Lib.hid hf
  clear hf
  by_cases hlt : k < ks.length
  · have hf := HF.out
    rw [driveP_at hlt, tat_get hlt] at hf
    have HE := Lib.hid hf
    clear hf
    have hw := wrap_eq (x := (k : Int) + 1) (by omega) (by omega)
    cases h : holdsP l ks[k] date
    · repeat (first | (with_reducible refine vseq ?_) | (with_reducible refine vthenN ?_) | (with_reducible refine vthenE ?_) | (with_reducible refine vthenR ?_) | (with_reducible refine vret ?_) | (with_reducible refine vskip ?_) | (with_reducible refine vexit ?_) | (with_reducible refine vblock ?_) | (with_reducible refine vblockN ?_) | (with_reducible refine vblockR ?_) | (with_reducible refine vblockH ?_) | (with_reducible refine vrun_nil ?_) | (with_reducible refine vblockE rfl ?_) | (with_reducible refine vregion [] ?_) | (with_reducible refine vhrun_nil ?_) | ((with_reducible refine vcondT ?_ ?_); (focus (go_simp; done))) | ((with_reducible refine vcondF ?_ ?_); (focus (go_simp; done))) | ((with_reducible refine vrun_cons fun KK hKK => ?_); go_simp; (first | (with_reducible refine ⟨_, v51 l _ _ hl, ?_⟩) | skip); refine hKK _ ?_; clear hKK KK) | ((with_reducible refine vhrun_cons fun KK hKK => ?_); go_simp; (first | (with_reducible refine ⟨_, v51 l _ _ hl, ?_⟩) | skip); refine hKK _ ?_; clear hKK KK))
      have e := HE.out
      rw [h] at e
      clear h
      simp only [Bool.false_eq_true, if_false] at e
      subst e
      go_simp
    · repeat (first | (with_reducible refine vseq ?_) | (with_reducible refine vthenN ?_) | (with_reducible refine vthenE ?_) | (with_reducible refine vthenR ?_) | (with_reducible refine vret ?_) | (with_reducible refine vskip ?_) | (with_reducible refine vexit ?_) | (with_reducible refine vblock ?_) | (with_reducible refine vblockN ?_) | (with_reducible refine vblockR ?_) | (with_reducible refine vblockH ?_) | (with_reducible refine vrun_nil ?_) | (with_reducible refine vblockE rfl ?_) | (with_reducible refine vregion [] ?_) | (with_reducible refine vhrun_nil ?_) | ((with_reducible refine vcondT ?_ ?_); (focus (go_simp; done))) | ((with_reducible refine vcondF ?_ ?_); (focus (go_simp; done))) | ((with_reducible refine vrun_cons fun KK hKK => ?_); go_simp; (first | (with_reducible refine ⟨_, v51 l _ _ hl, ?_⟩) | skip); refine hKK _ ?_; clear hKK KK) | ((with_reducible refine vhrun_cons fun KK hKK => ?_); go_simp; (first | (with_reducible refine ⟨_, v51 l _ _ hl, ?_⟩) | skip); refine hKK _ ?_; clear hKK KK))
      refine hR _ (k + 1) ⟨hlt, ?_⟩ (by omega) ?_
      · have := HE.out
        rwa [h, if_pos rfl] at this
      · go_simp
  · repeat (first | (with_reducible refine vseq ?_) | (with_reducible refine vthenN ?_) | (with_reducible refine vthenE ?_) | (with_reducible refine vthenR ?_) | (with_reducible refine vret ?_) | (with_reducible refine vskip ?_) | (with_reducible refine vexit ?_) | (with_reducible refine vblock ?_) | (with_reducible refine vblockN ?_) | (with_reducible refine vblockR ?_) | (with_reducible refine vblockH ?_) | (with_reducible refine vrun_nil ?_) | (with_reducible refine vblockE rfl ?_) | (with_reducible refine vregion [] ?_) | (with_reducible refine vhrun_nil ?_) | ((with_reducible refine vcondT ?_ ?_); (focus (go_simp; done))) | ((with_reducible refine vcondF ?_ ?_); (focus (go_simp; done))) | ((with_reducible refine vrun_cons fun KK hKK => ?_); go_simp; refine hKK _ ?_; clear hKK KK) | ((with_reducible refine vhrun_cons fun KK hKK => ?_); go_simp; refine hKK _ ?_; clear hKK KK))
    have e := HF.out
    rw [show ks.length - k = 0 by omega, driveP] at e
    subst e
    go_simp
/-- Few licences with short names. -/
def fewL (l : List Rec) : Bool := if (22 : Int) < l.length then false else !anyP (fun k => decide (20 < (rat l k).driver.size)) 0 l.length
theorem v40 (l : List Rec) (hl : l.length ≤ 9223372036854775807) (_hd : ∀ x ∈ l, x.driver.size ≤ 9223372036854775807) : VC Try.prog 40 [recsA l] (B (fewL l)) := by
  generalize hR0 : fewL l = R
  unfold fewL at hR0
  have HR := Lib.hid hR0
  clear hR0
  refine VC_of Try.func40 rfl (by kernel_rfl) (by kernel_rfl) rfl fun M0 w0 => ?_
  simp only [Try.ntmps40, Try.results40, enumA]
  by_cases hlen : (22 : Int) < l.length
  · repeat (first | (with_reducible refine vseq ?_) | (with_reducible refine vthenN ?_) | (with_reducible refine vthenE ?_) | (with_reducible refine vthenR ?_) | (with_reducible refine vret ?_) | (with_reducible refine vskip ?_) | (with_reducible refine vexit ?_) | (with_reducible refine vblock ?_) | (with_reducible refine vblockN ?_) | (with_reducible refine vblockR ?_) | (with_reducible refine vblockH ?_) | (with_reducible refine vrun_nil ?_) | (with_reducible refine vblockE rfl ?_) | (with_reducible refine vregion [] ?_) | (with_reducible refine vhrun_nil ?_) | ((with_reducible refine vcondT ?_ ?_); (focus (go_simp; done))) | ((with_reducible refine vcondF ?_ ?_); (focus (go_simp; done))) | ((with_reducible refine vrun_cons fun KK hKK => ?_); go_simp; refine hKK _ ?_; clear hKK KK) | ((with_reducible refine vhrun_cons fun KK hKK => ?_); go_simp; refine hKK _ ?_; clear hKK KK))
    have e := HR.out
    rw [if_pos hlen] at e
    subst e
    go_simp
  · have e := HR.out
    rw [if_neg hlen] at e
    have HE := Lib.hid e
    clear e
    repeat (first | (with_reducible refine vseq ?_) | (with_reducible refine vthenN ?_) | (with_reducible refine vthenE ?_) | (with_reducible refine vthenR ?_) | (with_reducible refine vret ?_) | (with_reducible refine vskip ?_) | (with_reducible refine vexit ?_) | (with_reducible refine vblock ?_) | (with_reducible refine vblockN ?_) | (with_reducible refine vblockR ?_) | (with_reducible refine vblockH ?_) | (with_reducible refine vrun_nil ?_) | (with_reducible refine vblockE rfl ?_) | (with_reducible refine vregion [] ?_) | (with_reducible refine vhrun_nil ?_) | ((with_reducible refine vcondT ?_ ?_); (focus (go_simp; done))) | ((with_reducible refine vcondF ?_ ?_); (focus (go_simp; done))) | ((with_reducible refine vrun_cons fun KK hKK => ?_); go_simp; refine hKK _ ?_; clear hKK KK) | ((with_reducible refine vhrun_cons fun KK hKK => ?_); go_simp; refine hKK _ ?_; clear hKK KK))
    refine vloop (α := Nat) (fun k => ⟨[(3, I k), (0, recsA l)], []⟩) (fun k => k ≤ l.length ∧ (!anyP (fun k => decide (20 < (rat l k).driver.size)) k (l.length - k)) = R) (fun k => l.length - k) 0 ⟨by omega, HE.out⟩ (by go_simp) ?_
    rintro k ⟨hk, hf⟩ K hR
    have HF := Lib.hid hf
    clear hf
    by_cases hlt : k < l.length
    · have hf := HF.out
      rw [anyP_at hlt, rat_get hlt] at hf
      have HE := Lib.hid hf
      clear hf
      have hw := wrap_eq (x := (k : Int) + 1) (by omega) (by omega)
      by_cases h : 20 < l[k].driver.size
      · have h' : (20 : Int) < l[k].driver.size := by omega
        repeat (first | (with_reducible refine vseq ?_) | (with_reducible refine vthenN ?_) | (with_reducible refine vthenE ?_) | (with_reducible refine vthenR ?_) | (with_reducible refine vret ?_) | (with_reducible refine vskip ?_) | (with_reducible refine vexit ?_) | (with_reducible refine vblock ?_) | (with_reducible refine vblockN ?_) | (with_reducible refine vblockR ?_) | (with_reducible refine vblockH ?_) | (with_reducible refine vrun_nil ?_) | (with_reducible refine vblockE rfl ?_) | (with_reducible refine vregion [] ?_) | (with_reducible refine vhrun_nil ?_) | ((with_reducible refine vcondT ?_ ?_); (focus (go_simp; done))) | ((with_reducible refine vcondF ?_ ?_); (focus (go_simp; done))) | ((with_reducible refine vrun_cons fun KK hKK => ?_); go_simp; refine hKK _ ?_; clear hKK KK) | ((with_reducible refine vhrun_cons fun KK hKK => ?_); go_simp; refine hKK _ ?_; clear hKK KK))
        have e := HE.out
        rw [decide_eq_true h] at e
        simp at e
        subst e
        go_simp
      · have h' : ¬ (20 : Int) < l[k].driver.size := by omega
        repeat (first | (with_reducible refine vseq ?_) | (with_reducible refine vthenN ?_) | (with_reducible refine vthenE ?_) | (with_reducible refine vthenR ?_) | (with_reducible refine vret ?_) | (with_reducible refine vskip ?_) | (with_reducible refine vexit ?_) | (with_reducible refine vblock ?_) | (with_reducible refine vblockN ?_) | (with_reducible refine vblockR ?_) | (with_reducible refine vblockH ?_) | (with_reducible refine vrun_nil ?_) | (with_reducible refine vblockE rfl ?_) | (with_reducible refine vregion [] ?_) | (with_reducible refine vhrun_nil ?_) | ((with_reducible refine vcondT ?_ ?_); (focus (go_simp; done))) | ((with_reducible refine vcondF ?_ ?_); (focus (go_simp; done))) | ((with_reducible refine vrun_cons fun KK hKK => ?_); go_simp; refine hKK _ ?_; clear hKK KK) | ((with_reducible refine vhrun_cons fun KK hKK => ?_); go_simp; refine hKK _ ?_; clear hKK KK))
        refine hR _ (k + 1) ⟨hlt, ?_⟩ (by omega) ?_
        · have := HE.out
          rwa [decide_eq_false h, Bool.false_or] at this
        · go_simp
    · repeat (first | (with_reducible refine vseq ?_) | (with_reducible refine vthenN ?_) | (with_reducible refine vthenE ?_) | (with_reducible refine vthenR ?_) | (with_reducible refine vret ?_) | (with_reducible refine vskip ?_) | (with_reducible refine vexit ?_) | (with_reducible refine vblock ?_) | (with_reducible refine vblockN ?_) | (with_reducible refine vblockR ?_) | (with_reducible refine vblockH ?_) | (with_reducible refine vrun_nil ?_) | (with_reducible refine vblockE rfl ?_) | (with_reducible refine vregion [] ?_) | (with_reducible refine vhrun_nil ?_) | ((with_reducible refine vcondT ?_ ?_); (focus (go_simp; done))) | ((with_reducible refine vcondF ?_ ?_); (focus (go_simp; done))) | ((with_reducible refine vrun_cons fun KK hKK => ?_); go_simp; refine hKK _ ?_; clear hKK KK) | ((with_reducible refine vhrun_cons fun KK hKK => ?_); go_simp; refine hKK _ ?_; clear hKK KK))
      have e := HF.out
      rw [show l.length - k = 0 by omega, anyP] at e
      subst e
      go_simp
theorem fewL_true {l : List Rec} (h : fewL l = true) : l.length ≤ 22 ∧ Small l := by
  unfold fewL at h
  split at h
  · cases h
  · refine ⟨by omega, fun x hx => ?_⟩
    obtain ⟨k, hk, rfl⟩ := List.getElem_of_mem hx
    simp only [Bool.not_eq_true'] at h
    rcases Nat.lt_or_ge 20 l[k].driver.size with h1 | h1
    · have : anyP (fun k => decide (20 < (rat l k).driver.size)) 0 l.length = true := (anyP_iff _ _).2 ⟨k, Nat.zero_le _, by omega, by rw [rat_get hk]; exact decide_eq_true h1⟩
      rw [this] at h
      cases h
    · omega
theorem v10 (l : List Rec) (ks : List ByteArray) (date : Int) (hl : l.length ≤ 9223372036854775807) (hd : ∀ x ∈ l, x.driver.size ≤ 9223372036854775807) (hl2 : ks.length ≤ 9223372036854775807) (_hd2 : ∀ x ∈ ks, x.size ≤ 9223372036854775807) :
    VC Try.prog 10 [recsA l, txtsA ks, I date] (B true) := by
  refine VC_of Try.func10 rfl (by kernel_rfl) (by kernel_rfl) rfl fun M0 w0 => ?_
  simp only [Try.ntmps10, Try.results10, enumA]
  cases hfew : fewL l
  · repeat (first | (with_reducible refine vseq ?_) | (with_reducible refine vthenN ?_) | (with_reducible refine vthenE ?_) | (with_reducible refine vthenR ?_) | (with_reducible refine vret ?_) | (with_reducible refine vskip ?_) | (with_reducible refine vexit ?_) | (with_reducible refine vblock ?_) | (with_reducible refine vblockN ?_) | (with_reducible refine vblockR ?_) | (with_reducible refine vblockH ?_) | (with_reducible refine vrun_nil ?_) | (with_reducible refine vblockE rfl ?_) | (with_reducible refine vregion [] ?_) | (with_reducible refine vhrun_nil ?_) | ((with_reducible refine vcondT ?_ ?_); (focus (go_simp; done))) | ((with_reducible refine vcondF ?_ ?_); (focus (go_simp; done))) | ((with_reducible refine vrun_cons fun KK hKK => ?_); go_simp; (first | (with_reducible refine ⟨_, v17, ?_⟩) | (with_reducible refine ⟨_, v40 l hl hd, ?_⟩) | skip); refine hKK _ ?_; clear hKK KK) | ((with_reducible refine vhrun_cons fun KK hKK => ?_); go_simp; (first | (with_reducible refine ⟨_, v17, ?_⟩) | (with_reducible refine ⟨_, v40 l hl hd, ?_⟩) | skip); refine hKK _ ?_; clear hKK KK))
    go_simp
  · obtain ⟨hl3, hsm⟩ := fewL_true hfew
    have HS := Lib.hid hsm
    clear hsm
    by_cases hlen : (22 : Int) < ks.length
    · repeat (first | (with_reducible refine vseq ?_) | (with_reducible refine vthenN ?_) | (with_reducible refine vthenE ?_) | (with_reducible refine vthenR ?_) | (with_reducible refine vret ?_) | (with_reducible refine vskip ?_) | (with_reducible refine vexit ?_) | (with_reducible refine vblock ?_) | (with_reducible refine vblockN ?_) | (with_reducible refine vblockR ?_) | (with_reducible refine vblockH ?_) | (with_reducible refine vrun_nil ?_) | (with_reducible refine vblockE rfl ?_) | (with_reducible refine vregion [] ?_) | (with_reducible refine vhrun_nil ?_) | ((with_reducible refine vcondT ?_ ?_); (focus (go_simp; done))) | ((with_reducible refine vcondF ?_ ?_); (focus (go_simp; done))) | ((with_reducible refine vrun_cons fun KK hKK => ?_); go_simp; (first | (with_reducible refine ⟨_, v17, ?_⟩) | (with_reducible refine ⟨_, v40 l hl hd, ?_⟩) | skip); refine hKK _ ?_; clear hKK KK) | ((with_reducible refine vhrun_cons fun KK hKK => ?_); go_simp; (first | (with_reducible refine ⟨_, v17, ?_⟩) | (with_reducible refine ⟨_, v40 l hl hd, ?_⟩) | skip); refine hKK _ ?_; clear hKK KK))
      go_simp
    · repeat (first | (with_reducible refine vseq ?_) | (with_reducible refine vthenN ?_) | (with_reducible refine vthenE ?_) | (with_reducible refine vthenR ?_) | (with_reducible refine vret ?_) | (with_reducible refine vskip ?_) | (with_reducible refine vexit ?_) | (with_reducible refine vblock ?_) | (with_reducible refine vblockN ?_) | (with_reducible refine vblockR ?_) | (with_reducible refine vblockH ?_) | (with_reducible refine vrun_nil ?_) | (with_reducible refine vblockE rfl ?_) | (with_reducible refine vregion [] ?_) | (with_reducible refine vhrun_nil ?_) | ((with_reducible refine vcondT ?_ ?_); (focus (go_simp; done))) | ((with_reducible refine vcondF ?_ ?_); (focus (go_simp; done))) | ((with_reducible refine vrun_cons fun KK hKK => ?_); go_simp; (first | (with_reducible refine ⟨_, v17, ?_⟩) | (with_reducible refine ⟨_, v40 l hl hd, ?_⟩) | skip); refine hKK _ ?_; clear hKK KK) | ((with_reducible refine vhrun_cons fun KK hKK => ?_); go_simp; (first | (with_reducible refine ⟨_, v17, ?_⟩) | (with_reducible refine ⟨_, v40 l hl hd, ?_⟩) | skip); refine hKK _ ?_; clear hKK KK))
      refine vloop (α := Nat) (fun k => ⟨[(7, I k), (1, txtsA ks), (0, recsA l), (2, I date)], []⟩) (fun k => k ≤ ks.length ∧ Hid (∀ j, j < k → (tat ks j).size ≤ 20)) (fun k => ks.length - k) 0 ⟨by omega, Lib.hid (fun j hj => absurd hj (Nat.not_lt_zero j))⟩ (by go_simp) ?_
      rintro k ⟨hk, HF⟩ K hR
      by_cases hlt : k < ks.length
      · have hw := wrap_eq (x := (k : Int) + 1) (by omega) (by omega)
        by_cases h : 20 < ks[k].size
        · have h' : (20 : Int) < ks[k].size := by omega
          repeat (first | (with_reducible refine vseq ?_) | (with_reducible refine vthenN ?_) | (with_reducible refine vthenE ?_) | (with_reducible refine vthenR ?_) | (with_reducible refine vret ?_) | (with_reducible refine vskip ?_) | (with_reducible refine vexit ?_) | (with_reducible refine vblock ?_) | (with_reducible refine vblockN ?_) | (with_reducible refine vblockR ?_) | (with_reducible refine vblockH ?_) | (with_reducible refine vrun_nil ?_) | (with_reducible refine vblockE rfl ?_) | (with_reducible refine vregion [] ?_) | (with_reducible refine vhrun_nil ?_) | ((with_reducible refine vcondT ?_ ?_); (focus (go_simp; done))) | ((with_reducible refine vcondF ?_ ?_); (focus (go_simp; done))) | ((with_reducible refine vrun_cons fun KK hKK => ?_); go_simp; refine hKK _ ?_; clear hKK KK) | ((with_reducible refine vhrun_cons fun KK hKK => ?_); go_simp; refine hKK _ ?_; clear hKK KK))
          go_simp
        · have h' : ¬ (20 : Int) < ks[k].size := by omega
          repeat (first | (with_reducible refine vseq ?_) | (with_reducible refine vthenN ?_) | (with_reducible refine vthenE ?_) | (with_reducible refine vthenR ?_) | (with_reducible refine vret ?_) | (with_reducible refine vskip ?_) | (with_reducible refine vexit ?_) | (with_reducible refine vblock ?_) | (with_reducible refine vblockN ?_) | (with_reducible refine vblockR ?_) | (with_reducible refine vblockH ?_) | (with_reducible refine vrun_nil ?_) | (with_reducible refine vblockE rfl ?_) | (with_reducible refine vregion [] ?_) | (with_reducible refine vhrun_nil ?_) | ((with_reducible refine vcondT ?_ ?_); (focus (go_simp; done))) | ((with_reducible refine vcondF ?_ ?_); (focus (go_simp; done))) | ((with_reducible refine vrun_cons fun KK hKK => ?_); go_simp; refine hKK _ ?_; clear hKK KK) | ((with_reducible refine vhrun_cons fun KK hKK => ?_); go_simp; refine hKK _ ?_; clear hKK KK))
          refine hR _ (k + 1) ⟨hlt, Lib.hid fun j hj => ?_⟩ (by omega) ?_
          · by_cases hjk : j = k
            · subst hjk
              rw [tat_get hlt]
              omega
            · exact HF.out j (by omega)
          · go_simp
      · have hs2 : SmallT ks := fun x hx => by
          obtain ⟨j, hj, rfl⟩ := List.getElem_of_mem hx
          have := HF.out j (by omega)
          rw [tat_get hj] at this
          omega
        have HT := Lib.hid hs2
        clear hs2
        have h41 := Lib.hid (v41 l ks date (by omega) HS.out (by omega) HT.out)
        by_cases h0 : driveE l ks date = 0
        · have hc := VC_of_own (o42 l (by omega))
          repeat (first | (with_reducible refine vseq ?_) | (with_reducible refine vthenN ?_) | (with_reducible refine vthenE ?_) | (with_reducible refine vthenR ?_) | (with_reducible refine vret ?_) | (with_reducible refine vskip ?_) | (with_reducible refine vexit ?_) | (with_reducible refine vblock ?_) | (with_reducible refine vblockN ?_) | (with_reducible refine vblockR ?_) | (with_reducible refine vblockH ?_) | (with_reducible refine vrun_nil ?_) | (with_reducible refine vblockE rfl ?_) | (with_reducible refine vregion [] ?_) | (with_reducible refine vhrun_nil ?_) | ((with_reducible refine vcondT ?_ ?_); (focus (go_simp; done))) | ((with_reducible refine vcondF ?_ ?_); (focus (go_simp; done))) | ((with_reducible refine vrun_cons fun KK hKK => ?_); go_simp; (first | (refine ⟨_, VC_of_own (o42 l (by omega)), ?_⟩) | (refine ⟨_, VC_of_own (o43 ks (by omega)), ?_⟩) | (refine ⟨_, h41.out, ?_⟩) | (with_reducible refine ⟨_, v44 l ks date (by omega) HS.out (by omega) HT.out, ?_⟩) | (with_reducible refine ⟨_, v45 l ks date (by omega) (by omega), ?_⟩) | skip); refine hKK _ ?_; clear hKK KK) | ((with_reducible refine vhrun_cons fun KK hKK => ?_); go_simp; (first | (refine ⟨_, VC_of_own (o42 l (by omega)), ?_⟩) | (refine ⟨_, VC_of_own (o43 ks (by omega)), ?_⟩) | (refine ⟨_, h41.out, ?_⟩) | (with_reducible refine ⟨_, v44 l ks date (by omega) HS.out (by omega) HT.out, ?_⟩) | (with_reducible refine ⟨_, v45 l ks date (by omega) (by omega), ?_⟩) | skip); refine hKK _ ?_; clear hKK KK))
          go_simp
        · repeat (first | (with_reducible refine vseq ?_) | (with_reducible refine vthenN ?_) | (with_reducible refine vthenE ?_) | (with_reducible refine vthenR ?_) | (with_reducible refine vret ?_) | (with_reducible refine vskip ?_) | (with_reducible refine vexit ?_) | (with_reducible refine vblock ?_) | (with_reducible refine vblockN ?_) | (with_reducible refine vblockR ?_) | (with_reducible refine vblockH ?_) | (with_reducible refine vrun_nil ?_) | (with_reducible refine vblockE rfl ?_) | (with_reducible refine vregion [] ?_) | (with_reducible refine vhrun_nil ?_) | ((with_reducible refine vcondT ?_ ?_); (focus (go_simp; done))) | ((with_reducible refine vcondF ?_ ?_); (focus (go_simp; done))) | ((with_reducible refine vrun_cons fun KK hKK => ?_); go_simp; (first | (refine ⟨_, VC_of_own (o42 l (by omega)), ?_⟩) | (refine ⟨_, VC_of_own (o43 ks (by omega)), ?_⟩) | (refine ⟨_, h41.out, ?_⟩) | (with_reducible refine ⟨_, v44 l ks date (by omega) HS.out (by omega) HT.out, ?_⟩) | (with_reducible refine ⟨_, v45 l ks date (by omega) (by omega), ?_⟩) | skip); refine hKK _ ?_; clear hKK KK) | ((with_reducible refine vhrun_cons fun KK hKK => ?_); go_simp; (first | (refine ⟨_, VC_of_own (o42 l (by omega)), ?_⟩) | (refine ⟨_, VC_of_own (o43 ks (by omega)), ?_⟩) | (refine ⟨_, h41.out, ?_⟩) | (with_reducible refine ⟨_, v44 l ks date (by omega) HS.out (by omega) HT.out, ?_⟩) | (with_reducible refine ⟨_, v45 l ks date (by omega) (by omega), ?_⟩) | skip); refine hKK _ ?_; clear hKK KK))
          go_simp
end Go.Proofs.Ytmfmpagfjgpodaa
