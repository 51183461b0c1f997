/- Texts in one: Walks on plain values: the law of stints; records with texts of at most 1000 bytes. -/
import Derived.Test.YtmfmpagfjgpodaaMS20
import Derived.Test.YtmfmpagfjgpodaaMS19
/-! VStint: Walks on plain values: the law of stints; records with texts of at most 1000 bytes. -/
namespace Go.Proofs.Ytmfmpagfjgpodaa
open Go.RowKit
set_option maxRecDepth 100000
theorem own_cap {B : Nat} {w : World} {e : TypeId} {sz n c m : Nat} {A : Option Addr} {xs : List Value} (h : w.ownsRow B e sz (.slice A m c) n xs) (hm : m = n) : n ≤ c := by
  subst hm
  rcases h.2 with ⟨hv, h0⟩ | ⟨g, cap, cur, hv, _, _, hnc, _⟩
  · omega
  · injection hv with _ _ hc
    omega
theorem pair_sl {w : World} {M : Nat → Prop} {B c : Nat} {A : Option Addr} {gs : List (Nat × Nat)} (h : w.ownsRow B 55 2 (.slice A gs.length c) gs.length (gs.flatMap pairNC)) (hM : ∀ b, M b → b < B) : V0 w M (.sl 2 (gs.map pairA)) (.slice A gs.length c) := by
  refine V0.sl_mk (F := pairA) (C := pairNC) pairN_inv pairNC_len pairNC_one (own_cap h rfl) (fun b o hA hne hm => ?_) (Sl.of_own pairNC_len h rfl) (by decide)
  subst hA
  rcases h.2 with ⟨hv, h0⟩ | ⟨g, cap, cur, hv, hB, _⟩
  · exact hne (List.eq_nil_of_length_eq_zero h0)
  · injection hv with h1 _ _
    injection h1 with h1
    injection h1 with h1 _ _
    have := hM b hm
    omega
theorem two_tup {w : World} {M : Nat → Prop} {a : AV} {v : Value} {n : Int} (h : V0 w M a v) : V0 w M (.tup [a, I n]) (.tuple #[v, .int .i64 n]) := by
  refine .tup _ [v, .int .i64 n] rfl fun i c u hc hu => ?_
  match i, hc, hu with
  | 0, hc, hu =>
    simp at hc hu
    subst hc
    subst hu
    exact h
  | 1, hc, hu =>
    simp at hc hu
    subst hc
    subst hu
    exact .lit _
  | i + 2, hc, hu => simp at hc
theorem v29 (l : List Rec) (r : Rul) (hl : l.length ≤ 1000) (hd : Small l) : VC Try.prog 29 [.agg r.av, recsA l] (.tup [.sl 2 ((if bothErr r l = 0 then groups l r.brk l.length else []).map pairA), I (bothErr r l)]) :=
  ⟨by kernel_rfl, fun w M vs hM hlen hv => by
    match vs, hlen with
    | [v1, v2], _ =>
    have h1 := hv 0 _ v1 rfl rfl
    have h2 := hv 1 _ v2 rfl rfl
    obtain ⟨A, cap, rfl, hcap, hS⟩ := recs_inv h2
    rw [rul_inv h1]
    refine (c29 l r A _ cap w rfl hl hd hS).mono fun e w' ⟨A2, c2, gs, he, hgs, own, hb⟩ => ⟨_, he, hb, ?_⟩
    rw [← hgs]
    exact two_tup (pair_sl own hM)⟩
theorem v30 (l : List Rec) (r : Rul) (hl : l.length ≤ 1000) (hd : Small l) : VC Try.prog 30 [.agg r.av, recsA l] (.tup [.sl 2 ((if bothErr r l = 0 then groups l r.rest l.length else []).map pairA), I (bothErr r l)]) :=
  ⟨by kernel_rfl, fun w M vs hM hlen hv => by
    match vs, hlen with
    | [v1, v2], _ =>
    have h1 := hv 0 _ v1 rfl rfl
    have h2 := hv 1 _ v2 rfl rfl
    obtain ⟨A, cap, rfl, hcap, hS⟩ := recs_inv h2
    rw [rul_inv h1]
    refine (c30 l r A _ cap w rfl hl hd hS).mono fun e w' ⟨A2, c2, gs, he, hgs, own, hb⟩ => ⟨_, he, hb, ?_⟩
    rw [← hgs]
    exact two_tup (pair_sl own hM)⟩
/-- Pairs are the same as themselves. -/
theorem v32 (G : List (Nat × Nat)) (hl : G.length ≤ 1000) : VC Try.prog 32 [.sl 2 (G.map pairA), .sl 2 (G.map pairA)] (B true) := by
  refine VC_of Try.func32 rfl (by kernel_rfl) (by kernel_rfl) rfl fun M0 w0 => ?_
  simp only [Try.ntmps32, Try.results32, enumA]
  repeat (first | (with_reducible refine vseq ?_) | (with_reducible refine vthenN ?_) | (with_reducible refine vthenE ?_) | (with_reducible refine vthenR ?_) | (with_reducible refine vret ?_) | (with_reducible refine vskip ?_) | (with_reducible refine vexit ?_) | (with_reducible refine vblock ?_) | (with_reducible refine vblockN ?_) | (with_reducible refine vblockR ?_) | (with_reducible refine vblockH ?_) | (with_reducible refine vrun_nil ?_) | (with_reducible refine vblockE rfl ?_) | (with_reducible refine vregion [] ?_) | (with_reducible refine vhrun_nil ?_) | ((with_reducible refine vcondT ?_ ?_); (focus (go_simp; done))) | ((with_reducible refine vcondF ?_ ?_); (focus (go_simp; done))) | ((with_reducible refine vrun_cons fun KK hKK => ?_); go_simp; refine hKK _ ?_; clear hKK KK) | ((with_reducible refine vhrun_cons fun KK hKK => ?_); go_simp; refine hKK _ ?_; clear hKK KK))
  refine vloop (α := Nat) (fun k => ⟨[(5, I k), (0, .sl 2 (G.map pairA)), (1, .sl 2 (G.map pairA))], []⟩) (fun k => k ≤ G.length) (fun k => G.length - k) 0 (Nat.zero_le _) (by go_simp) ?_
  rintro k hk K hR
  by_cases hlt : k < G.length
  · have hw := wrap_eq (x := (k : Int) + 1) (by omega) (by omega)
    repeat (first | (with_reducible refine vseq ?_) | (with_reducible refine vthenN ?_) | (with_reducible refine vthenE ?_) | (with_reducible refine vthenR ?_) | (with_reducible refine vret ?_) | (with_reducible refine vskip ?_) | (with_reducible refine vexit ?_) | (with_reducible refine vblock ?_) | (with_reducible refine vblockN ?_) | (with_reducible refine vblockR ?_) | (with_reducible refine vblockH ?_) | (with_reducible refine vrun_nil ?_) | (with_reducible refine vblockE rfl ?_) | (with_reducible refine vregion [] ?_) | (with_reducible refine vhrun_nil ?_) | ((with_reducible refine vcondT ?_ ?_); (focus (go_simp; done))) | ((with_reducible refine vcondF ?_ ?_); (focus (go_simp; done))) | ((with_reducible refine vrun_cons fun KK hKK => ?_); go_simp; refine hKK _ ?_; clear hKK KK) | ((with_reducible refine vhrun_cons fun KK hKK => ?_); go_simp; refine hKK _ ?_; clear hKK KK))
    refine vdraw 9 [] (by kernel_rfl) (by kernel_rfl) ?_
    simp only [List.take, List.drop]
    repeat (first | (with_reducible refine vseq ?_) | (with_reducible refine vthenN ?_) | (with_reducible refine vthenE ?_) | (with_reducible refine vthenR ?_) | (with_reducible refine vret ?_) | (with_reducible refine vskip ?_) | (with_reducible refine vexit ?_) | (with_reducible refine vblock ?_) | (with_reducible refine vblockN ?_) | (with_reducible refine vblockR ?_) | (with_reducible refine vblockH ?_) | (with_reducible refine vrun_nil ?_) | (with_reducible refine vblockE rfl ?_) | (with_reducible refine vregion [] ?_) | (with_reducible refine vhrun_nil ?_) | ((with_reducible refine vcondT ?_ ?_); (focus (go_simp; done))) | ((with_reducible refine vcondF ?_ ?_); (focus (go_simp; done))) | ((with_reducible refine vrun_cons fun KK hKK => ?_); go_simp; refine hKK _ ?_; clear hKK KK) | ((with_reducible refine vhrun_cons fun KK hKK => ?_); go_simp; refine hKK _ ?_; clear hKK KK))
    refine hR _ (k + 1) hlt (by omega) ?_
    go_simp
  · repeat (first | (with_reducible refine vseq ?_) | (with_reducible refine vthenN ?_) | (with_reducible refine vthenE ?_) | (with_reducible refine vthenR ?_) | (with_reducible refine vret ?_) | (with_reducible refine vskip ?_) | (with_reducible refine vexit ?_) | (with_reducible refine vblock ?_) | (with_reducible refine vblockN ?_) | (with_reducible refine vblockR ?_) | (with_reducible refine vblockH ?_) | (with_reducible refine vrun_nil ?_) | (with_reducible refine vblockE rfl ?_) | (with_reducible refine vregion [] ?_) | (with_reducible refine vhrun_nil ?_) | ((with_reducible refine vcondT ?_ ?_); (focus (go_simp; done))) | ((with_reducible refine vcondF ?_ ?_); (focus (go_simp; done))) | ((with_reducible refine vrun_cons fun KK hKK => ?_); go_simp; refine hKK _ ?_; clear hKK KK) | ((with_reducible refine vhrun_cons fun KK hKK => ?_); go_simp; refine hKK _ ?_; clear hKK KK))
    go_simp
theorem pairs_one (G : List (Nat × Nat)) : ∀ (k : Nat) (x : List AV), (G.map pairA)[k]? = some x → x.length = 2 ∧ ∀ c ∈ x, oneAV c = true := by
  intro k x hk
  obtain ⟨r, _, rfl⟩ := map_at hk
  refine ⟨rfl, fun c hc => ?_⟩
  simp only [pairA, List.mem_cons, List.not_mem_nil, or_false] at hc
  rcases hc with rfl | rfl <;> rfl
theorem groups_short {l : List Rec} {gap : Int} {m : Nat} {G' : List (Nat × Nat)} {p : Nat × Nat} (hG : groups l gap (m + 1) = G' ++ [p]) (h : (rat l (m + 1)).lo - (rat l m).hi < gap) : groups l gap (m + 1 + 1) = G' ++ [(p.1, m + 1)] := by
  have : gstart l gap (m + 1) = false := by
    unfold gstart
    simp only [Nat.add_sub_cancel]
    simp
    omega
  rw [groups, this, hG]
  simp
theorem groups_long {l : List Rec} {gap : Int} {m : Nat} (h : ¬ (rat l (m + 1)).lo - (rat l m).hi < gap) : groups l gap (m + 1 + 1) = groups l gap (m + 1) ++ [(m + 1, m + 1)] := by
  have : gstart l gap (m + 1) = true := by
    unfold gstart
    simp only [Nat.add_sub_cancel]
    simp
    omega
  rw [groups, this, if_pos rfl]
theorem o33 (l : List Rec) (gap : Int) (hl : l.length ≤ 1000) (hT : Timed l) : VCo Try.prog 33 [recsA l, I gap] 55 2 (decide (l.length = 0)) ((groups l gap l.length).map pairA) := by
  have HT := Lib.hid hT
  clear hT
  refine VCo_of Try.func33 rfl (by kernel_rfl) (by kernel_rfl) rfl Try.results33 (by decide) (pairs_one _) fun M0 w0 => ?_
  simp only [Try.ntmps33, enumA]
  repeat (first | (with_reducible refine vseq ?_) | (with_reducible refine vthenN ?_) | (with_reducible refine vthenE ?_) | (with_reducible refine vthenR ?_) | (with_reducible refine vret ?_) | (with_reducible refine vskip ?_) | (with_reducible refine vexit ?_) | (with_reducible refine vblock ?_) | (with_reducible refine vblockN ?_) | (with_reducible refine vblockR ?_) | (with_reducible refine vblockH ?_) | (with_reducible refine vrun_nil ?_) | (with_reducible refine vblockE rfl ?_) | (with_reducible refine vregion [5] ?_) | (with_reducible refine vhrun_nil ?_) | ((with_reducible refine vcondT ?_ ?_); (focus (go_simp; done))) | ((with_reducible refine vcondF ?_ ?_); (focus (go_simp; done))) | ((with_reducible refine vrun_cons fun KK hKK => ?_); go_simp; refine hKK _ ?_; clear hKK KK) | ((with_reducible refine vhrun_cons fun KK hKK => ?_); go_simp; refine hKK _ ?_; clear hKK KK))
  refine vloop (α := Nat) (fun k => ⟨[(6, I k), (0, recsA l), (1, I gap), (5, .osl 0)], [some (.arr 55 2 (decide (k = 0)) ((groups l gap k).map pairA))]⟩) (fun k => k ≤ l.length) (fun k => l.length - k) 0 (Nat.zero_le _) (by simp only [groups]; go_simp) ?_
  rintro k hk K hR
  by_cases hlt : k < l.length
  · have hw := wrap_eq (x := (k : Int) + 1) (by omega) (by omega)
    cases k with
    | zero =>
      have hg : groups l gap 1 = [(0, 0)] := by simp [groups, gstart]
      have hg0 : groups l gap 0 = [] := rfl
      have hw1 : IntKind.i64.wrap 1 = 1 := rfl
      clear hw
      repeat (first | (with_reducible refine vseq ?_) | (with_reducible refine vthenN ?_) | (with_reducible refine vthenE ?_) | (with_reducible refine vthenR ?_) | (with_reducible refine vret ?_) | (with_reducible refine vskip ?_) | (with_reducible refine vexit ?_) | (with_reducible refine vblock ?_) | (with_reducible refine vblockN ?_) | (with_reducible refine vblockR ?_) | (with_reducible refine vblockH ?_) | (with_reducible refine vrun_nil ?_) | (with_reducible refine vblockE rfl ?_) | (with_reducible refine vregion [] ?_) | (with_reducible refine vhrun_nil ?_) | ((with_reducible refine vcondT ?_ ?_); (focus (go_simp; done))) | ((with_reducible refine vcondF ?_ ?_); (focus (go_simp; done))) | ((with_reducible refine vrun_cons fun KK hKK => ?_); go_simp; refine hKK _ ?_; clear hKK KK) | ((with_reducible refine vhrun_cons fun KK hKK => ?_); go_simp; refine hKK _ ?_; clear hKK KK))
      refine vdraw 18 [] (by kernel_rfl) (by kernel_rfl) ?_
      simp only [List.take, List.drop]
      repeat (first | (with_reducible refine vseq ?_) | (with_reducible refine vthenN ?_) | (with_reducible refine vthenE ?_) | (with_reducible refine vthenR ?_) | (with_reducible refine vret ?_) | (with_reducible refine vskip ?_) | (with_reducible refine vexit ?_) | (with_reducible refine vblock ?_) | (with_reducible refine vblockN ?_) | (with_reducible refine vblockR ?_) | (with_reducible refine vblockH ?_) | (with_reducible refine vrun_nil ?_) | (with_reducible refine vblockE rfl ?_) | (with_reducible refine vregion [] ?_) | (with_reducible refine vhrun_nil ?_) | ((with_reducible refine vcondT ?_ ?_); (focus (go_simp; done))) | ((with_reducible refine vcondF ?_ ?_); (focus (go_simp; done))) | ((with_reducible refine vrun_cons fun KK hKK => ?_); go_simp; refine hKK _ ?_; clear hKK KK) | ((with_reducible refine vhrun_cons fun KK hKK => ?_); go_simp; refine hKK _ ?_; clear hKK KK))
      refine hR _ 1 hlt (by omega) ?_
      go_simp
    | succ m =>
      have hm : m < l.length := by omega
      have hlt' : (m : Int) + 1 < l.length := by omega
      have hpos : (0 : Int) < m + 1 := by omega
      have hpos2 : (0 : Int) ≤ m + 1 := by omega
      have htn : ((m : Int) + 1).toNat = m + 1 := by omega
      have hw5 := wrap_eq (x := (m : Int) + 1 + 1) (by omega) (by omega)
      clear hw
      have t1 := HT.out.at_ hlt
      have t2 := HT.out.at_ hm
      have hw2 := wrap_eq (x := l[m + 1].lo - l[m].hi) (by omega) (by omega)
      have hw3 := wrap_eq (x := (m : Int)) (by omega) (by omega)
      have hgl := groups_len l gap (m + 1)
      obtain ⟨G', p, hG⟩ : ∃ G' p, groups l gap (m + 1) = G' ++ [p] := ⟨(groups l gap (m + 1)).dropLast, _, (List.dropLast_concat_getLast (groups_ne l gap (by omega))).symm⟩
      have hGl : G'.length ≤ m := by
        rw [hG] at hgl
        simp at hgl
        omega
      have hw4 := wrap_eq (x := (G'.length : Int)) (by omega) (by omega)
      have hb1 : G'.length + 1 + 1 ≤ 1000000000 := by omega
      clear hgl t1 t2
      by_cases hg : l[m + 1].lo - l[m].hi < gap
      · have hn := groups_short hG (by rw [rat_get hlt, rat_get hm]; exact hg)
        have HN := Lib.hid hn
        clear hn
        repeat (first | (with_reducible refine vseq ?_) | (with_reducible refine vthenN ?_) | (with_reducible refine vthenE ?_) | (with_reducible refine vthenR ?_) | (with_reducible refine vret ?_) | (with_reducible refine vskip ?_) | (with_reducible refine vexit ?_) | (with_reducible refine vblock ?_) | (with_reducible refine vblockN ?_) | (with_reducible refine vblockR ?_) | (with_reducible refine vblockH ?_) | (with_reducible refine vrun_nil ?_) | (with_reducible refine vblockE rfl ?_) | (with_reducible refine vregion [] ?_) | (with_reducible refine vhrun_nil ?_) | ((with_reducible refine vcondT ?_ ?_); (focus (go_simp; done))) | ((with_reducible refine vcondF ?_ ?_); (focus (go_simp; done))) | ((with_reducible refine vrun_cons fun KK hKK => ?_); go_simp; refine hKK _ ?_; clear hKK KK) | ((with_reducible refine vhrun_cons fun KK hKK => ?_); go_simp; refine hKK _ ?_; clear hKK KK))
        refine vdraw 18 [] (by kernel_rfl) (by kernel_rfl) ?_
        simp only [List.take, List.drop]
        repeat (first | (with_reducible refine vseq ?_) | (with_reducible refine vthenN ?_) | (with_reducible refine vthenE ?_) | (with_reducible refine vthenR ?_) | (with_reducible refine vret ?_) | (with_reducible refine vskip ?_) | (with_reducible refine vexit ?_) | (with_reducible refine vblock ?_) | (with_reducible refine vblockN ?_) | (with_reducible refine vblockR ?_) | (with_reducible refine vblockH ?_) | (with_reducible refine vrun_nil ?_) | (with_reducible refine vblockE rfl ?_) | (with_reducible refine vregion [] ?_) | (with_reducible refine vhrun_nil ?_) | ((with_reducible refine vcondT ?_ ?_); (focus (go_simp; done))) | ((with_reducible refine vcondF ?_ ?_); (focus (go_simp; done))) | ((with_reducible refine vrun_cons fun KK hKK => ?_); go_simp; refine hKK _ ?_; clear hKK KK) | ((with_reducible refine vhrun_cons fun KK hKK => ?_); go_simp; refine hKK _ ?_; clear hKK KK))
        refine hR _ (m + 1 + 1) hlt (by omega) ?_
        have hn := HN.out
        go_simp
      · have hn := groups_long (l := l) (gap := gap) (m := m) (by rw [rat_get hlt, rat_get hm]; exact hg)
        have HN := Lib.hid hn
        clear hn
        repeat (first | (with_reducible refine vseq ?_) | (with_reducible refine vthenN ?_) | (with_reducible refine vthenE ?_) | (with_reducible refine vthenR ?_) | (with_reducible refine vret ?_) | (with_reducible refine vskip ?_) | (with_reducible refine vexit ?_) | (with_reducible refine vblock ?_) | (with_reducible refine vblockN ?_) | (with_reducible refine vblockR ?_) | (with_reducible refine vblockH ?_) | (with_reducible refine vrun_nil ?_) | (with_reducible refine vblockE rfl ?_) | (with_reducible refine vregion [] ?_) | (with_reducible refine vhrun_nil ?_) | ((with_reducible refine vcondT ?_ ?_); (focus (go_simp; done))) | ((with_reducible refine vcondF ?_ ?_); (focus (go_simp; done))) | ((with_reducible refine vrun_cons fun KK hKK => ?_); go_simp; refine hKK _ ?_; clear hKK KK) | ((with_reducible refine vhrun_cons fun KK hKK => ?_); go_simp; refine hKK _ ?_; clear hKK KK))
        refine vdraw 18 [] (by kernel_rfl) (by kernel_rfl) ?_
        simp only [List.take, List.drop]
        repeat (first | (with_reducible refine vseq ?_) | (with_reducible refine vthenN ?_) | (with_reducible refine vthenE ?_) | (with_reducible refine vthenR ?_) | (with_reducible refine vret ?_) | (with_reducible refine vskip ?_) | (with_reducible refine vexit ?_) | (with_reducible refine vblock ?_) | (with_reducible refine vblockN ?_) | (with_reducible refine vblockR ?_) | (with_reducible refine vblockH ?_) | (with_reducible refine vrun_nil ?_) | (with_reducible refine vblockE rfl ?_) | (with_reducible refine vregion [] ?_) | (with_reducible refine vhrun_nil ?_) | ((with_reducible refine vcondT ?_ ?_); (focus (go_simp; done))) | ((with_reducible refine vcondF ?_ ?_); (focus (go_simp; done))) | ((with_reducible refine vrun_cons fun KK hKK => ?_); go_simp; refine hKK _ ?_; clear hKK KK) | ((with_reducible refine vhrun_cons fun KK hKK => ?_); go_simp; refine hKK _ ?_; clear hKK KK))
        refine hR _ (m + 1 + 1) hlt (by omega) ?_
        have hn := HN.out
        go_simp
  · have e : k = l.length := by omega
    subst e
    repeat (first | (with_reducible refine vseq ?_) | (with_reducible refine vthenN ?_) | (with_reducible refine vthenE ?_) | (with_reducible refine vthenR ?_) | (with_reducible refine vret ?_) | (with_reducible refine vskip ?_) | (with_reducible refine vexit ?_) | (with_reducible refine vblock ?_) | (with_reducible refine vblockN ?_) | (with_reducible refine vblockR ?_) | (with_reducible refine vblockH ?_) | (with_reducible refine vrun_nil ?_) | (with_reducible refine vblockE rfl ?_) | (with_reducible refine vregion [] ?_) | (with_reducible refine vhrun_nil ?_) | ((with_reducible refine vcondT ?_ ?_); (focus (go_simp; done))) | ((with_reducible refine vcondF ?_ ?_); (focus (go_simp; done))) | ((with_reducible refine vrun_cons fun KK hKK => ?_); go_simp; refine hKK _ ?_; clear hKK KK) | ((with_reducible refine vhrun_cons fun KK hKK => ?_); go_simp; refine hKK _ ?_; clear hKK KK))
    go_simp
    exact ⟨0, rfl, rfl⟩
/-- The pairs cover s to e - 1, one behind the other. -/
def Chain : List (Nat × Nat) → Nat → Nat → Prop
  | [], s, e => s = e
  | p :: g, s, e => p.1 = s ∧ p.1 ≤ p.2 ∧ Chain g (p.2 + 1) e
theorem Chain.snoc : ∀ {g : List (Nat × Nat)} {s k : Nat}, Chain g s k → Chain (g ++ [(k, k)]) s (k + 1)
  | [], _, _, h => ⟨h.symm, Nat.le_refl _, rfl⟩
  | _ :: _, _, _, h => ⟨h.1, h.2.1, Chain.snoc h.2.2⟩
theorem Chain.le : ∀ {g : List (Nat × Nat)} {s k : Nat}, Chain g s k → s ≤ k
  | [], _, _, h => Nat.le_of_eq h
  | p :: g, s, k, h => by
    have := Chain.le h.2.2
    have := h.1
    have := h.2.1
    omega
theorem Chain.grow : ∀ {g : List (Nat × Nat)} {p : Nat × Nat} {s k : Nat}, Chain (g ++ [p]) s k → Chain (g ++ [(p.1, k)]) s (k + 1)
  | [], p, s, k, h => by
    obtain ⟨h1, h2, h3⟩ := h
    have h3' : p.2 + 1 = k := h3
    exact ⟨h1, by simp only; omega, rfl⟩
  | _ :: g, _, _, _, h => ⟨h.1, h.2.1, Chain.grow (g := g) h.2.2⟩
theorem groups_chain (l : List Rec) (gap : Int) : ∀ k, Chain (groups l gap k) 0 k
  | 0 => rfl
  | k + 1 => by
    have ih := groups_chain l gap k
    rw [groups]
    by_cases hg : gstart l gap k = true
    · rw [if_pos hg]
      exact ih.snoc
    · rw [if_neg hg]
      have hk : 0 < k := by
        rcases Nat.eq_zero_or_pos k with h0 | h0
        · subst h0
          simp [gstart] at hg
        · exact h0
      obtain ⟨G', p, hG⟩ : ∃ G' p, groups l gap k = G' ++ [p] := ⟨(groups l gap k).dropLast, _, (List.dropLast_concat_getLast (groups_ne l gap hk)).symm⟩
      rw [hG] at ih ⊢
      simpa using ih.grow
theorem Chain.at_ {g : List (Nat × Nat)} {s e i : Nat} (hi : i < g.length) (h : Chain (g.drop i) s e) : g[i].1 = s ∧ s ≤ g[i].2 ∧ g[i].2 < e ∧ Chain (g.drop (i + 1)) (g[i].2 + 1) e := by
  rw [List.drop_eq_getElem_cons hi] at h
  obtain ⟨h1, h2, h3⟩ := h
  have := h3.le
  exact ⟨h1, by omega, by omega, h3⟩
theorem work_all {one : Bool} {l : List Rec} (h : Right one l) : workIn l 0 8640000000 = segSum l 0 l.length := by
  unfold workIn segSum
  rw [List.take_length, List.drop_zero]
  refine sum_map_congr fun x hx => ?_
  obtain ⟨j, hj, rfl⟩ := List.getElem_of_mem hx
  have h3 := h.time (k := j) hj
  unfold wk
  simp only [Int.max_def, Int.min_def]
  repeat' split
  all_goals omega
theorem work_out {l : List Rec} (h : Right true l) : workOut l 0 8640000000 = (segSum l 0 l.length, 0) := by
  have hw : workErr l 0 8640000000 = 0 := by
    rw [workErr_is, if_neg (by have h' : (checkRecs true l).2 = 0 := h; simp [h']), if_neg (by simp [isTime, inR]), if_neg (by omega)]
  unfold workOut
  rw [hw, work_all h]
  rfl
theorem v6 (l : List Rec) (r : Rul) (hl : l.length ≤ 9223372036854775807) (hd : ∀ x ∈ l, x.driver.size ≤ 9223372036854775807) : VC Try.prog 6 [.agg r.av, recsA l] (B true) := by
  refine VC_of Try.func6 rfl (by kernel_rfl) (by kernel_rfl) rfl fun M0 w0 => ?_
  simp only [Try.ntmps6, Try.results6, enumA]
  cases hfew : fewP l
  · repeat (first | (with_reducible refine vseq ?_) | (with_reducible refine vthenN ?_) | (with_reducible refine vthenE ?_) | (with_reducible refine vthenR ?_) | (with_reducible refine vret ?_) | (with_reducible refine vskip ?_) | (with_reducible refine vexit ?_) | (with_reducible refine vblock ?_) | (with_reducible refine vblockN ?_) | (with_reducible refine vblockR ?_) | (with_reducible refine vblockH ?_) | (with_reducible refine vrun_nil ?_) | (with_reducible refine vblockE rfl ?_) | (with_reducible refine vregion [] ?_) | (with_reducible refine vhrun_nil ?_) | ((with_reducible refine vcondT ?_ ?_); (focus (go_simp; done))) | ((with_reducible refine vcondF ?_ ?_); (focus (go_simp; done))) | ((with_reducible refine vrun_cons fun KK hKK => ?_); go_simp; (first | (with_reducible refine ⟨_, v17, ?_⟩) | (with_reducible refine ⟨_, v18 l hl hd, ?_⟩) | skip); refine hKK _ ?_; clear hKK KK) | ((with_reducible refine vhrun_cons fun KK hKK => ?_); go_simp; (first | (with_reducible refine ⟨_, v17, ?_⟩) | (with_reducible refine ⟨_, v18 l hl hd, ?_⟩) | skip); refine hKK _ ?_; clear hKK KK))
    go_simp
  · obtain ⟨hsm, hl3, _⟩ := fewP_small hfew
    have HS := Lib.hid hsm
    clear hsm
    have h29 := v29 l r (by omega) HS.out
    have h30 := v30 l r (by omega) HS.out
    have h20 := Lib.hid (VC_of_own (o20 l (by omega)))
    by_cases hE : bothErr r l = 0
    · have hR := (bothErr_zero hE).2
      have HR := Lib.hid hR
      have h19 := v19 l 0 8640000000 (by omega) HS.out
      rw [work_out hR] at h19
      rw [if_pos hE] at h29 h30
      simp only [hE] at h29 h30
      have H33a := Lib.hid (VC_of_own (o33 l r.brk (by omega) hR.timed))
      have H33b := Lib.hid (VC_of_own (o33 l r.rest (by omega) hR.timed))
      have H32a := Lib.hid (v32 (groups l r.brk l.length) (by have := groups_len l r.brk l.length; omega))
      have H32b := Lib.hid (v32 (groups l r.rest l.length) (by have := groups_len l r.rest l.length; omega))
      have HT := Lib.hid hR.timed
      have HC := Lib.hid (groups_chain l r.brk l.length)
      have hgl := groups_len l r.brk l.length
      clear hR
      have H29 := Lib.hid h29
      have H30 := Lib.hid h30
      have H19 := Lib.hid h19
      clear h29 h30 h19
      generalize groups l r.brk l.length = G at *
      generalize groups l r.rest l.length = G2 at *
      repeat (first | (with_reducible refine vseq ?_) | (with_reducible refine vthenN ?_) | (with_reducible refine vthenE ?_) | (with_reducible refine vthenR ?_) | (with_reducible refine vret ?_) | (with_reducible refine vskip ?_) | (with_reducible refine vexit ?_) | (with_reducible refine vblock ?_) | (with_reducible refine vblockN ?_) | (with_reducible refine vblockR ?_) | (with_reducible refine vblockH ?_) | (with_reducible refine vrun_nil ?_) | (with_reducible refine vblockE rfl ?_) | (with_reducible refine vregion [] ?_) | (with_reducible refine vhrun_nil ?_) | ((with_reducible refine vcondT ?_ ?_); (focus (go_simp; done))) | ((with_reducible refine vcondF ?_ ?_); (focus (go_simp; done))) | ((with_reducible refine vrun_cons fun KK hKK => ?_); go_simp; (first | (with_reducible refine ⟨_, v17, ?_⟩) | (with_reducible refine ⟨_, v18 l hl hd, ?_⟩) | skip); refine hKK _ ?_; clear hKK KK) | ((with_reducible refine vhrun_cons fun KK hKK => ?_); go_simp; (first | (with_reducible refine ⟨_, v17, ?_⟩) | (with_reducible refine ⟨_, v18 l hl hd, ?_⟩) | skip); refine hKK _ ?_; clear hKK KK))
      refine vdraw 9 [] (by kernel_rfl) (by kernel_rfl) ?_
      simp only [List.take, List.drop]
      repeat (first | (with_reducible refine vseq ?_) | (with_reducible refine vthenN ?_) | (with_reducible refine vthenE ?_) | (with_reducible refine vthenR ?_) | (with_reducible refine vret ?_) | (with_reducible refine vskip ?_) | (with_reducible refine vexit ?_) | (with_reducible refine vblock ?_) | (with_reducible refine vblockN ?_) | (with_reducible refine vblockR ?_) | (with_reducible refine vblockH ?_) | (with_reducible refine vrun_nil ?_) | (with_reducible refine vblockE rfl ?_) | (with_reducible refine vregion [] ?_) | (with_reducible refine vhrun_nil ?_) | ((with_reducible refine vcondT ?_ ?_); (focus (go_simp; done))) | ((with_reducible refine vcondF ?_ ?_); (focus (go_simp; done))) | ((with_reducible refine vrun_cons fun KK hKK => ?_); go_simp; (first | (refine ⟨_, h20.out, ?_⟩) | (refine ⟨_, H29.out, ?_⟩) | skip); refine hKK _ ?_; clear hKK KK) | ((with_reducible refine vhrun_cons fun KK hKK => ?_); go_simp; (first | (refine ⟨_, h20.out, ?_⟩) | (refine ⟨_, H29.out, ?_⟩) | skip); refine hKK _ ?_; clear hKK KK))
      refine vdraw 9 [] (by kernel_rfl) (by kernel_rfl) ?_
      simp only [List.take, List.drop]
      repeat (first | (with_reducible refine vseq ?_) | (with_reducible refine vthenN ?_) | (with_reducible refine vthenE ?_) | (with_reducible refine vthenR ?_) | (with_reducible refine vret ?_) | (with_reducible refine vskip ?_) | (with_reducible refine vexit ?_) | (with_reducible refine vblock ?_) | (with_reducible refine vblockN ?_) | (with_reducible refine vblockR ?_) | (with_reducible refine vblockH ?_) | (with_reducible refine vrun_nil ?_) | (with_reducible refine vblockE rfl ?_) | (with_reducible refine vregion [] ?_) | (with_reducible refine vhrun_nil ?_) | ((with_reducible refine vcondT ?_ ?_); (focus (go_simp; done))) | ((with_reducible refine vcondF ?_ ?_); (focus (go_simp; done))) | ((with_reducible refine vrun_cons fun KK hKK => ?_); go_simp; (first | (refine ⟨_, h20.out, ?_⟩) | (refine ⟨_, H30.out, ?_⟩) | (refine ⟨_, v31 l r (by omega) HS.out, ?_⟩) | (refine ⟨_, H33a.out, ?_⟩) | (refine ⟨_, H33b.out, ?_⟩) | (refine ⟨_, H32a.out, ?_⟩) | (refine ⟨_, H32b.out, ?_⟩) | (refine ⟨_, H19.out, ?_⟩) | skip); refine hKK _ ?_; clear hKK KK) | ((with_reducible refine vhrun_cons fun KK hKK => ?_); go_simp; (first | (refine ⟨_, h20.out, ?_⟩) | (refine ⟨_, H30.out, ?_⟩) | (refine ⟨_, v31 l r (by omega) HS.out, ?_⟩) | (refine ⟨_, H33a.out, ?_⟩) | (refine ⟨_, H33b.out, ?_⟩) | (refine ⟨_, H32a.out, ?_⟩) | (refine ⟨_, H32b.out, ?_⟩) | (refine ⟨_, H19.out, ?_⟩) | skip); refine hKK _ ?_; clear hKK KK))
      refine vloop (α := Nat × Nat) (fun q => ⟨[(13, I q.1), (12, I (segSum l 0 q.2)), (5, .sl 2 (G.map pairA)), (1, recsA l), (10, I (segSum l 0 l.length)), (11, I 0)], []⟩) (fun q => q.1 ≤ G.length ∧ Chain (G.drop q.1) q.2 l.length) (fun q => G.length - q.1) (0, 0) ⟨Nat.zero_le _, HC.out⟩ (by simp only [segSum_self]; go_simp) ?_
      rintro ⟨i, s⟩ ⟨hi, hc⟩ K hR
      simp only at hi hc hR ⊢
      by_cases hlt : i < G.length
      · obtain ⟨c1, c2, c3, c4⟩ := hc.at_ hlt
        have C4 := Lib.hid c4
        clear c4 hc
        have hw := wrap_eq (x := (i : Int) + 1) (by omega) (by omega)
        repeat (first | (with_reducible refine vseq ?_) | (with_reducible refine vthenN ?_) | (with_reducible refine vthenE ?_) | (with_reducible refine vthenR ?_) | (with_reducible refine vret ?_) | (with_reducible refine vskip ?_) | (with_reducible refine vexit ?_) | (with_reducible refine vblock ?_) | (with_reducible refine vblockN ?_) | (with_reducible refine vblockR ?_) | (with_reducible refine vblockH ?_) | (with_reducible refine vrun_nil ?_) | (with_reducible refine vblockE rfl ?_) | (with_reducible refine vregion [] ?_) | (with_reducible refine vhrun_nil ?_) | ((with_reducible refine vcondT ?_ ?_); (focus (go_simp; done))) | ((with_reducible refine vcondF ?_ ?_); (focus (go_simp; done))) | ((with_reducible refine vrun_cons fun KK hKK => ?_); go_simp; refine hKK _ ?_; clear hKK KK) | ((with_reducible refine vhrun_cons fun KK hKK => ?_); go_simp; refine hKK _ ?_; clear hKK KK))
        refine vloop (α := Nat) (fun k => ⟨[(14, I k), (13, I i), (12, I (segSum l 0 k)), (5, .sl 2 (G.map pairA)), (1, recsA l), (10, I (segSum l 0 l.length)), (11, I 0)], []⟩) (fun k => s ≤ k ∧ k ≤ G[i].2 + 1) (fun k => G[i].2 + 1 - k) s ⟨Nat.le_refl _, by omega⟩ (by go_simp) ?_
        rintro k ⟨hk1, hk2⟩ K2 hR2
        by_cases hle : k ≤ G[i].2
        · have hle' : (k : Int) ≤ G[i].2 := by omega
          have hkl : k < l.length := by omega
          have hw2 := wrap_eq (x := (k : Int) + 1) (by omega) (by omega)
          have b1 := segSum_bound HT.out 0 k (by omega)
          have b2 := HT.out.at_ hkl
          have hw3 := wrap_eq (x := segSum l 0 k + l[k].hi) (by omega) (by omega)
          have hw4 := wrap_eq (x := segSum l 0 k + l[k].hi - l[k].lo) (by omega) (by omega)
          have hsuc := Lib.hid (show segSum l 0 (k + 1) = segSum l 0 k + l[k].hi - l[k].lo by rw [segSum_succ l (Nat.zero_le _) hkl]; omega)
          clear b1 b2
          repeat (first | (with_reducible refine vseq ?_) | (with_reducible refine vthenN ?_) | (with_reducible refine vthenE ?_) | (with_reducible refine vthenR ?_) | (with_reducible refine vret ?_) | (with_reducible refine vskip ?_) | (with_reducible refine vexit ?_) | (with_reducible refine vblock ?_) | (with_reducible refine vblockN ?_) | (with_reducible refine vblockR ?_) | (with_reducible refine vblockH ?_) | (with_reducible refine vrun_nil ?_) | (with_reducible refine vblockE rfl ?_) | (with_reducible refine vregion [] ?_) | (with_reducible refine vhrun_nil ?_) | ((with_reducible refine vcondT ?_ ?_); (focus (go_simp; done))) | ((with_reducible refine vcondF ?_ ?_); (focus (go_simp; done))) | ((with_reducible refine vrun_cons fun KK hKK => ?_); go_simp; refine hKK _ ?_; clear hKK KK) | ((with_reducible refine vhrun_cons fun KK hKK => ?_); go_simp; refine hKK _ ?_; clear hKK KK))
          refine vdraw 13 [] (by kernel_rfl) (by kernel_rfl) ?_
          simp only [List.take, List.drop]
          repeat (first | (with_reducible refine vseq ?_) | (with_reducible refine vthenN ?_) | (with_reducible refine vthenE ?_) | (with_reducible refine vthenR ?_) | (with_reducible refine vret ?_) | (with_reducible refine vskip ?_) | (with_reducible refine vexit ?_) | (with_reducible refine vblock ?_) | (with_reducible refine vblockN ?_) | (with_reducible refine vblockR ?_) | (with_reducible refine vblockH ?_) | (with_reducible refine vrun_nil ?_) | (with_reducible refine vblockE rfl ?_) | (with_reducible refine vregion [] ?_) | (with_reducible refine vhrun_nil ?_) | ((with_reducible refine vcondT ?_ ?_); (focus (go_simp; done))) | ((with_reducible refine vcondF ?_ ?_); (focus (go_simp; done))) | ((with_reducible refine vrun_cons fun KK hKK => ?_); go_simp; refine hKK _ ?_; clear hKK KK) | ((with_reducible refine vhrun_cons fun KK hKK => ?_); go_simp; refine hKK _ ?_; clear hKK KK))
          refine hR2 _ (k + 1) ⟨by omega, by omega⟩ (by omega) ?_
          have hs := hsuc.out
          go_simp
        · have hle' : ¬ (k : Int) ≤ G[i].2 := by omega
          have hke := Lib.hid (show k = G[i].2 + 1 by omega)
          repeat (first | (with_reducible refine vseq ?_) | (with_reducible refine vthenN ?_) | (with_reducible refine vthenE ?_) | (with_reducible refine vthenR ?_) | (with_reducible refine vret ?_) | (with_reducible refine vskip ?_) | (with_reducible refine vexit ?_) | (with_reducible refine vblock ?_) | (with_reducible refine vblockN ?_) | (with_reducible refine vblockR ?_) | (with_reducible refine vblockH ?_) | (with_reducible refine vrun_nil ?_) | (with_reducible refine vblockE rfl ?_) | (with_reducible refine vregion [] ?_) | (with_reducible refine vhrun_nil ?_) | ((with_reducible refine vcondT ?_ ?_); (focus (go_simp; done))) | ((with_reducible refine vcondF ?_ ?_); (focus (go_simp; done))) | ((with_reducible refine vrun_cons fun KK hKK => ?_); go_simp; refine hKK _ ?_; clear hKK KK) | ((with_reducible refine vhrun_cons fun KK hKK => ?_); go_simp; refine hKK _ ?_; clear hKK KK))
          refine hR _ (i + 1, G[i].2 + 1) ⟨hlt, C4.out⟩ (by simp only; omega) ?_
          have hk3 := hke.out
          subst hk3
          go_simp
      · have hil : i = G.length := by omega
        subst hil
        rw [List.drop_length] at hc
        have hs : s = l.length := hc
        subst hs
        repeat (first | (with_reducible refine vseq ?_) | (with_reducible refine vthenN ?_) | (with_reducible refine vthenE ?_) | (with_reducible refine vthenR ?_) | (with_reducible refine vret ?_) | (with_reducible refine vskip ?_) | (with_reducible refine vexit ?_) | (with_reducible refine vblock ?_) | (with_reducible refine vblockN ?_) | (with_reducible refine vblockR ?_) | (with_reducible refine vblockH ?_) | (with_reducible refine vrun_nil ?_) | (with_reducible refine vblockE rfl ?_) | (with_reducible refine vregion [] ?_) | (with_reducible refine vhrun_nil ?_) | ((with_reducible refine vcondT ?_ ?_); (focus (go_simp; done))) | ((with_reducible refine vcondF ?_ ?_); (focus (go_simp; done))) | ((with_reducible refine vrun_cons fun KK hKK => ?_); go_simp; refine hKK _ ?_; clear hKK KK) | ((with_reducible refine vhrun_cons fun KK hKK => ?_); go_simp; refine hKK _ ?_; clear hKK KK))
        go_simp
    · rw [if_neg hE] at h29 h30
      have H29 := Lib.hid h29
      have H30 := Lib.hid h30
      clear h29 h30
      have hw0 : IntKind.i64.wrap 0 = 0 := rfl
      repeat (first | (with_reducible refine vseq ?_) | (with_reducible refine vthenN ?_) | (with_reducible refine vthenE ?_) | (with_reducible refine vthenR ?_) | (with_reducible refine vret ?_) | (with_reducible refine vskip ?_) | (with_reducible refine vexit ?_) | (with_reducible refine vblock ?_) | (with_reducible refine vblockN ?_) | (with_reducible refine vblockR ?_) | (with_reducible refine vblockH ?_) | (with_reducible refine vrun_nil ?_) | (with_reducible refine vblockE rfl ?_) | (with_reducible refine vregion [] ?_) | (with_reducible refine vhrun_nil ?_) | ((with_reducible refine vcondT ?_ ?_); (focus (go_simp; done))) | ((with_reducible refine vcondF ?_ ?_); (focus (go_simp; done))) | ((with_reducible refine vrun_cons fun KK hKK => ?_); go_simp; (first | (with_reducible refine ⟨_, v17, ?_⟩) | (with_reducible refine ⟨_, v18 l hl hd, ?_⟩) | skip); refine hKK _ ?_; clear hKK KK) | ((with_reducible refine vhrun_cons fun KK hKK => ?_); go_simp; (first | (with_reducible refine ⟨_, v17, ?_⟩) | (with_reducible refine ⟨_, v18 l hl hd, ?_⟩) | skip); refine hKK _ ?_; clear hKK KK))
      refine vdraw 9 [] (by kernel_rfl) (by kernel_rfl) ?_
      simp only [List.take, List.drop]
      repeat (first | (with_reducible refine vseq ?_) | (with_reducible refine vthenN ?_) | (with_reducible refine vthenE ?_) | (with_reducible refine vthenR ?_) | (with_reducible refine vret ?_) | (with_reducible refine vskip ?_) | (with_reducible refine vexit ?_) | (with_reducible refine vblock ?_) | (with_reducible refine vblockN ?_) | (with_reducible refine vblockR ?_) | (with_reducible refine vblockH ?_) | (with_reducible refine vrun_nil ?_) | (with_reducible refine vblockE rfl ?_) | (with_reducible refine vregion [] ?_) | (with_reducible refine vhrun_nil ?_) | ((with_reducible refine vcondT ?_ ?_); (focus (go_simp; done))) | ((with_reducible refine vcondF ?_ ?_); (focus (go_simp; done))) | ((with_reducible refine vrun_cons fun KK hKK => ?_); go_simp; (first | (refine ⟨_, h20.out, ?_⟩) | (refine ⟨_, H29.out, ?_⟩) | skip); refine hKK _ ?_; clear hKK KK) | ((with_reducible refine vhrun_cons fun KK hKK => ?_); go_simp; (first | (refine ⟨_, h20.out, ?_⟩) | (refine ⟨_, H29.out, ?_⟩) | skip); refine hKK _ ?_; clear hKK KK))
      refine vdraw 9 [] (by kernel_rfl) (by kernel_rfl) ?_
      simp only [List.take, List.drop]
      repeat (first | (with_reducible refine vseq ?_) | (with_reducible refine vthenN ?_) | (with_reducible refine vthenE ?_) | (with_reducible refine vthenR ?_) | (with_reducible refine vret ?_) | (with_reducible refine vskip ?_) | (with_reducible refine vexit ?_) | (with_reducible refine vblock ?_) | (with_reducible refine vblockN ?_) | (with_reducible refine vblockR ?_) | (with_reducible refine vblockH ?_) | (with_reducible refine vrun_nil ?_) | (with_reducible refine vblockE rfl ?_) | (with_reducible refine vregion [] ?_) | (with_reducible refine vhrun_nil ?_) | ((with_reducible refine vcondT ?_ ?_); (focus (go_simp; done))) | ((with_reducible refine vcondF ?_ ?_); (focus (go_simp; done))) | ((with_reducible refine vrun_cons fun KK hKK => ?_); go_simp; (first | (refine ⟨_, h20.out, ?_⟩) | (refine ⟨_, H30.out, ?_⟩) | (refine ⟨_, v31 l r (by omega) HS.out, ?_⟩) | skip); refine hKK _ ?_; clear hKK KK) | ((with_reducible refine vhrun_cons fun KK hKK => ?_); go_simp; (first | (refine ⟨_, h20.out, ?_⟩) | (refine ⟨_, H30.out, ?_⟩) | (refine ⟨_, v31 l r (by omega) HS.out, ?_⟩) | skip); refine hKK _ ?_; clear hKK KK))
      go_simp
end Go.Proofs.Ytmfmpagfjgpodaa

/-! VPlate: Walks on plain values: uses of places, and what is wrong with them; texts of at most 1000 bytes. -/
namespace Go.Proofs.Ytmfmpagfjgpodaa
open Go.RowKit
set_option maxRecDepth 100000
def ovU (x y : Rec) : Bool := decide (x.lo < y.hi) && decide (y.lo < x.hi)
theorem v126 (x y : Rec) : VC Try.prog 126 [.agg x.av, .agg y.av] (B (ovU x y)) := by
  unfold ovU
  refine VC_of Try.func126 rfl (by kernel_rfl) (by kernel_rfl) rfl fun M0 w0 => ?_
  simp only [Try.ntmps126, Try.results126, enumA]
  by_cases h : x.lo < y.hi
  · repeat (first | (with_reducible refine vseq ?_) | (with_reducible refine vthenN ?_) | (with_reducible refine vthenE ?_) | (with_reducible refine vthenR ?_) | (with_reducible refine vret ?_) | (with_reducible refine vskip ?_) | (with_reducible refine vexit ?_) | (with_reducible refine vblock ?_) | (with_reducible refine vblockN ?_) | (with_reducible refine vblockR ?_) | (with_reducible refine vblockH ?_) | (with_reducible refine vrun_nil ?_) | (with_reducible refine vblockE rfl ?_) | (with_reducible refine vregion [] ?_) | (with_reducible refine vhrun_nil ?_) | ((with_reducible refine vcondT ?_ ?_); (focus (go_simp; done))) | ((with_reducible refine vcondF ?_ ?_); (focus (go_simp; done))) | ((with_reducible refine vrun_cons fun KK hKK => ?_); go_simp; refine hKK _ ?_; clear hKK KK) | ((with_reducible refine vhrun_cons fun KK hKK => ?_); go_simp; refine hKK _ ?_; clear hKK KK))
    go_simp
  · repeat (first | (with_reducible refine vseq ?_) | (with_reducible refine vthenN ?_) | (with_reducible refine vthenE ?_) | (with_reducible refine vthenR ?_) | (with_reducible refine vret ?_) | (with_reducible refine vskip ?_) | (with_reducible refine vexit ?_) | (with_reducible refine vblock ?_) | (with_reducible refine vblockN ?_) | (with_reducible refine vblockR ?_) | (with_reducible refine vblockH ?_) | (with_reducible refine vrun_nil ?_) | (with_reducible refine vblockE rfl ?_) | (with_reducible refine vregion [] ?_) | (with_reducible refine vhrun_nil ?_) | ((with_reducible refine vcondT ?_ ?_); (focus (go_simp; done))) | ((with_reducible refine vcondF ?_ ?_); (focus (go_simp; done))) | ((with_reducible refine vrun_cons fun KK hKK => ?_); go_simp; refine hKK _ ?_; clear hKK KK) | ((with_reducible refine vhrun_cons fun KK hKK => ?_); go_simp; refine hKK _ ?_; clear hKK KK))
    go_simp
theorem v131 (x y : Rec) : VC Try.prog 131 [.agg x.av, .agg y.av] (B (ovU x y)) := by
  unfold ovU
  refine VC_of Try.func131 rfl (by kernel_rfl) (by kernel_rfl) rfl fun M0 w0 => ?_
  simp only [Try.ntmps131, Try.results131, enumA]
  by_cases h : x.lo < y.hi
  · repeat (first | (with_reducible refine vseq ?_) | (with_reducible refine vthenN ?_) | (with_reducible refine vthenE ?_) | (with_reducible refine vthenR ?_) | (with_reducible refine vret ?_) | (with_reducible refine vskip ?_) | (with_reducible refine vexit ?_) | (with_reducible refine vblock ?_) | (with_reducible refine vblockN ?_) | (with_reducible refine vblockR ?_) | (with_reducible refine vblockH ?_) | (with_reducible refine vrun_nil ?_) | (with_reducible refine vblockE rfl ?_) | (with_reducible refine vregion [] ?_) | (with_reducible refine vhrun_nil ?_) | ((with_reducible refine vcondT ?_ ?_); (focus (go_simp; done))) | ((with_reducible refine vcondF ?_ ?_); (focus (go_simp; done))) | ((with_reducible refine vrun_cons fun KK hKK => ?_); go_simp; refine hKK _ ?_; clear hKK KK) | ((with_reducible refine vhrun_cons fun KK hKK => ?_); go_simp; refine hKK _ ?_; clear hKK KK))
    go_simp
  · repeat (first | (with_reducible refine vseq ?_) | (with_reducible refine vthenN ?_) | (with_reducible refine vthenE ?_) | (with_reducible refine vthenR ?_) | (with_reducible refine vret ?_) | (with_reducible refine vskip ?_) | (with_reducible refine vexit ?_) | (with_reducible refine vblock ?_) | (with_reducible refine vblockN ?_) | (with_reducible refine vblockR ?_) | (with_reducible refine vblockH ?_) | (with_reducible refine vrun_nil ?_) | (with_reducible refine vblockE rfl ?_) | (with_reducible refine vregion [] ?_) | (with_reducible refine vhrun_nil ?_) | ((with_reducible refine vcondT ?_ ?_); (focus (go_simp; done))) | ((with_reducible refine vcondF ?_ ?_); (focus (go_simp; done))) | ((with_reducible refine vrun_cons fun KK hKK => ?_); go_simp; refine hKK _ ?_; clear hKK KK) | ((with_reducible refine vhrun_cons fun KK hKK => ?_); go_simp; refine hKK _ ?_; clear hKK KK))
    go_simp
theorem v128 (n : Int) : VC Try.prog 128 [I n] (B (isTime n)) := by
  unfold isTime
  refine VC_of Try.func128 rfl (by kernel_rfl) (by kernel_rfl) rfl fun M0 w0 => ?_
  simp only [Try.ntmps128, Try.results128, enumA]
  repeat (first | (with_reducible refine vseq ?_) | (with_reducible refine vthenN ?_) | (with_reducible refine vthenE ?_) | (with_reducible refine vthenR ?_) | (with_reducible refine vret ?_) | (with_reducible refine vskip ?_) | (with_reducible refine vexit ?_) | (with_reducible refine vblock ?_) | (with_reducible refine vblockN ?_) | (with_reducible refine vblockR ?_) | (with_reducible refine vblockH ?_) | (with_reducible refine vrun_nil ?_) | (with_reducible refine vblockE rfl ?_) | (with_reducible refine vregion [] ?_) | (with_reducible refine vhrun_nil ?_) | ((with_reducible refine vcondT ?_ ?_); (focus (go_simp; done))) | ((with_reducible refine vcondF ?_ ?_); (focus (go_simp; done))) | ((with_reducible refine vrun_cons fun KK hKK => ?_); go_simp; (first | (with_reducible refine ⟨_, v106 _ _ _, ?_⟩) | skip); refine hKK _ ?_; clear hKK KK) | ((with_reducible refine vhrun_cons fun KK hKK => ?_); go_simp; (first | (with_reducible refine ⟨_, v106 _ _ _, ?_⟩) | skip); refine hKK _ ?_; clear hKK KK))
  go_simp
theorem v129 (n : Int) : VC Try.prog 129 [I n] (B (!inR n 0 13)) := by
  refine VC_of Try.func129 rfl (by kernel_rfl) (by kernel_rfl) rfl fun M0 w0 => ?_
  simp only [Try.ntmps129, Try.results129, enumA]
  repeat (first | (with_reducible refine vseq ?_) | (with_reducible refine vthenN ?_) | (with_reducible refine vthenE ?_) | (with_reducible refine vthenR ?_) | (with_reducible refine vret ?_) | (with_reducible refine vskip ?_) | (with_reducible refine vexit ?_) | (with_reducible refine vblock ?_) | (with_reducible refine vblockN ?_) | (with_reducible refine vblockR ?_) | (with_reducible refine vblockH ?_) | (with_reducible refine vrun_nil ?_) | (with_reducible refine vblockE rfl ?_) | (with_reducible refine vregion [] ?_) | (with_reducible refine vhrun_nil ?_) | ((with_reducible refine vcondT ?_ ?_); (focus (go_simp; done))) | ((with_reducible refine vcondF ?_ ?_); (focus (go_simp; done))) | ((with_reducible refine vrun_cons fun KK hKK => ?_); go_simp; (first | (with_reducible refine ⟨_, v106 _ _ _, ?_⟩) | skip); refine hKK _ ?_; clear hKK KK) | ((with_reducible refine vhrun_cons fun KK hKK => ?_); go_simp; (first | (with_reducible refine ⟨_, v106 _ _ _, ?_⟩) | skip); refine hKK _ ?_; clear hKK KK))
  go_simp
theorem v143 (lo hi : Int) : VC Try.prog 143 [I lo, I hi] (I (spanErr lo hi)) := VC_mk2 (by kernel_rfl) fun w M v1 v2 h1 h2 => by
  rw [h1.lit_inv, h2.lit_inv]
  exact (c143 lo hi w).mono fun e w' ⟨he, hb⟩ => ⟨_, he, hb, .lit _⟩
theorem v130 (lo hi : Int) : VC Try.prog 130 [I lo, I hi] (I (spanErr lo hi)) := by
  unfold spanErr
  refine VC_of Try.func130 rfl (by kernel_rfl) (by kernel_rfl) rfl fun M0 w0 => ?_
  simp only [Try.ntmps130, Try.results130, enumA]
  cases h1 : isTime lo
  · repeat (first | (with_reducible refine vseq ?_) | (with_reducible refine vthenN ?_) | (with_reducible refine vthenE ?_) | (with_reducible refine vthenR ?_) | (with_reducible refine vret ?_) | (with_reducible refine vskip ?_) | (with_reducible refine vexit ?_) | (with_reducible refine vblock ?_) | (with_reducible refine vblockN ?_) | (with_reducible refine vblockR ?_) | (with_reducible refine vblockH ?_) | (with_reducible refine vrun_nil ?_) | (with_reducible refine vblockE rfl ?_) | (with_reducible refine vregion [] ?_) | (with_reducible refine vhrun_nil ?_) | ((with_reducible refine vcondT ?_ ?_); (focus (go_simp; done))) | ((with_reducible refine vcondF ?_ ?_); (focus (go_simp; done))) | ((with_reducible refine vrun_cons fun KK hKK => ?_); go_simp; (first | (with_reducible refine ⟨_, v22 _, ?_⟩) | skip); refine hKK _ ?_; clear hKK KK) | ((with_reducible refine vhrun_cons fun KK hKK => ?_); go_simp; (first | (with_reducible refine ⟨_, v22 _, ?_⟩) | skip); refine hKK _ ?_; clear hKK KK))
    go_simp
  · cases h2 : isTime hi
    · repeat (first | (with_reducible refine vseq ?_) | (with_reducible refine vthenN ?_) | (with_reducible refine vthenE ?_) | (with_reducible refine vthenR ?_) | (with_reducible refine vret ?_) | (with_reducible refine vskip ?_) | (with_reducible refine vexit ?_) | (with_reducible refine vblock ?_) | (with_reducible refine vblockN ?_) | (with_reducible refine vblockR ?_) | (with_reducible refine vblockH ?_) | (with_reducible refine vrun_nil ?_) | (with_reducible refine vblockE rfl ?_) | (with_reducible refine vregion [] ?_) | (with_reducible refine vhrun_nil ?_) | ((with_reducible refine vcondT ?_ ?_); (focus (go_simp; done))) | ((with_reducible refine vcondF ?_ ?_); (focus (go_simp; done))) | ((with_reducible refine vrun_cons fun KK hKK => ?_); go_simp; (first | (with_reducible refine ⟨_, v22 _, ?_⟩) | skip); refine hKK _ ?_; clear hKK KK) | ((with_reducible refine vhrun_cons fun KK hKK => ?_); go_simp; (first | (with_reducible refine ⟨_, v22 _, ?_⟩) | skip); refine hKK _ ?_; clear hKK KK))
      go_simp
    · by_cases h3 : lo < hi
      · have h3' : ¬ hi ≤ lo := by omega
        repeat (first | (with_reducible refine vseq ?_) | (with_reducible refine vthenN ?_) | (with_reducible refine vthenE ?_) | (with_reducible refine vthenR ?_) | (with_reducible refine vret ?_) | (with_reducible refine vskip ?_) | (with_reducible refine vexit ?_) | (with_reducible refine vblock ?_) | (with_reducible refine vblockN ?_) | (with_reducible refine vblockR ?_) | (with_reducible refine vblockH ?_) | (with_reducible refine vrun_nil ?_) | (with_reducible refine vblockE rfl ?_) | (with_reducible refine vregion [] ?_) | (with_reducible refine vhrun_nil ?_) | ((with_reducible refine vcondT ?_ ?_); (focus (go_simp; done))) | ((with_reducible refine vcondF ?_ ?_); (focus (go_simp; done))) | ((with_reducible refine vrun_cons fun KK hKK => ?_); go_simp; (first | (with_reducible refine ⟨_, v22 _, ?_⟩) | skip); refine hKK _ ?_; clear hKK KK) | ((with_reducible refine vhrun_cons fun KK hKK => ?_); go_simp; (first | (with_reducible refine ⟨_, v22 _, ?_⟩) | skip); refine hKK _ ?_; clear hKK KK))
        go_simp
      · have h3' : hi ≤ lo := by omega
        repeat (first | (with_reducible refine vseq ?_) | (with_reducible refine vthenN ?_) | (with_reducible refine vthenE ?_) | (with_reducible refine vthenR ?_) | (with_reducible refine vret ?_) | (with_reducible refine vskip ?_) | (with_reducible refine vexit ?_) | (with_reducible refine vblock ?_) | (with_reducible refine vblockN ?_) | (with_reducible refine vblockR ?_) | (with_reducible refine vblockH ?_) | (with_reducible refine vrun_nil ?_) | (with_reducible refine vblockE rfl ?_) | (with_reducible refine vregion [] ?_) | (with_reducible refine vhrun_nil ?_) | ((with_reducible refine vcondT ?_ ?_); (focus (go_simp; done))) | ((with_reducible refine vcondF ?_ ?_); (focus (go_simp; done))) | ((with_reducible refine vrun_cons fun KK hKK => ?_); go_simp; (first | (with_reducible refine ⟨_, v22 _, ?_⟩) | skip); refine hKK _ ?_; clear hKK KK) | ((with_reducible refine vhrun_cons fun KK hKK => ?_); go_simp; (first | (with_reducible refine ⟨_, v22 _, ?_⟩) | skip); refine hKK _ ?_; clear hKK KK))
        go_simp
/-- How many of the first k. -/
def cntP (p : Nat → Bool) : Nat → Nat
  | 0 => 0
  | k + 1 => cntP p k + if p k then 1 else 0
theorem cntP_le (p : Nat → Bool) : ∀ k, cntP p k ≤ k
  | 0 => Nat.le_refl _
  | k + 1 => by
    have := cntP_le p k
    rw [cntP]
    split <;> omega
def inU (x : Rec) (at_ : Int) : Bool := decide (x.lo ≤ at_) && decide (at_ < x.hi)
def usesAt (l : List Rec) (at_ : Int) : Nat → Nat := cntP fun k => inU (rat l k) at_
theorem v127 (l : List Rec) (t : Int) (hl : l.length ≤ 1000) : VC Try.prog 127 [recsA l, I t] (I (usesAt l t l.length)) := by
  refine VC_of Try.func127 rfl (by kernel_rfl) (by kernel_rfl) rfl fun M0 w0 => ?_
  simp only [Try.ntmps127, Try.results127, enumA]
  repeat (first | (with_reducible refine vseq ?_) | (with_reducible refine vthenN ?_) | (with_reducible refine vthenE ?_) | (with_reducible refine vthenR ?_) | (with_reducible refine vret ?_) | (with_reducible refine vskip ?_) | (with_reducible refine vexit ?_) | (with_reducible refine vblock ?_) | (with_reducible refine vblockN ?_) | (with_reducible refine vblockR ?_) | (with_reducible refine vblockH ?_) | (with_reducible refine vrun_nil ?_) | (with_reducible refine vblockE rfl ?_) | (with_reducible refine vregion [] ?_) | (with_reducible refine vhrun_nil ?_) | ((with_reducible refine vcondT ?_ ?_); (focus (go_simp; done))) | ((with_reducible refine vcondF ?_ ?_); (focus (go_simp; done))) | ((with_reducible refine vrun_cons fun KK hKK => ?_); go_simp; refine hKK _ ?_; clear hKK KK) | ((with_reducible refine vhrun_cons fun KK hKK => ?_); go_simp; refine hKK _ ?_; clear hKK KK))
  refine vloop (α := Nat) (fun k => ⟨[(10, I k), (9, I l.length), (8, recsA l), (5, I (usesAt l t k)), (1, I t)], []⟩) (fun k => k ≤ l.length) (fun k => l.length - k) 0 (Nat.zero_le _) (by simp only [usesAt, cntP]; go_simp) ?_
  rintro k hk K hR
  by_cases hlt : k < l.length
  · have hw := wrap_eq (x := (k : Int) + 1) (by omega) (by omega)
    have hcl := cntP_le (fun k => inU (rat l k) t) k
    have hs : usesAt l t (k + 1) = usesAt l t k + if inU l[k] t then 1 else 0 := by rw [usesAt, cntP, rat_get hlt]
    unfold inU at hs
    change usesAt l t k ≤ k at hcl
    have hw2 := wrap_eq (x := (usesAt l t k : Int) + 1) (by omega) (by omega)
    have HS := Lib.hid hs
    clear hs hcl
    by_cases h1 : l[k].lo ≤ t
    · by_cases h2 : t < l[k].hi
      · repeat (first | (with_reducible refine vseq ?_) | (with_reducible refine vthenN ?_) | (with_reducible refine vthenE ?_) | (with_reducible refine vthenR ?_) | (with_reducible refine vret ?_) | (with_reducible refine vskip ?_) | (with_reducible refine vexit ?_) | (with_reducible refine vblock ?_) | (with_reducible refine vblockN ?_) | (with_reducible refine vblockR ?_) | (with_reducible refine vblockH ?_) | (with_reducible refine vrun_nil ?_) | (with_reducible refine vblockE rfl ?_) | (with_reducible refine vregion [] ?_) | (with_reducible refine vhrun_nil ?_) | ((with_reducible refine vcondT ?_ ?_); (focus (go_simp; done))) | ((with_reducible refine vcondF ?_ ?_); (focus (go_simp; done))) | ((with_reducible refine vrun_cons fun KK hKK => ?_); go_simp; refine hKK _ ?_; clear hKK KK) | ((with_reducible refine vhrun_cons fun KK hKK => ?_); go_simp; refine hKK _ ?_; clear hKK KK))
        refine hR _ (k + 1) hlt (by omega) ?_
        have hs := HS.out
        simp [h1, h2] at hs
        go_simp
      · repeat (first | (with_reducible refine vseq ?_) | (with_reducible refine vthenN ?_) | (with_reducible refine vthenE ?_) | (with_reducible refine vthenR ?_) | (with_reducible refine vret ?_) | (with_reducible refine vskip ?_) | (with_reducible refine vexit ?_) | (with_reducible refine vblock ?_) | (with_reducible refine vblockN ?_) | (with_reducible refine vblockR ?_) | (with_reducible refine vblockH ?_) | (with_reducible refine vrun_nil ?_) | (with_reducible refine vblockE rfl ?_) | (with_reducible refine vregion [] ?_) | (with_reducible refine vhrun_nil ?_) | ((with_reducible refine vcondT ?_ ?_); (focus (go_simp; done))) | ((with_reducible refine vcondF ?_ ?_); (focus (go_simp; done))) | ((with_reducible refine vrun_cons fun KK hKK => ?_); go_simp; refine hKK _ ?_; clear hKK KK) | ((with_reducible refine vhrun_cons fun KK hKK => ?_); go_simp; refine hKK _ ?_; clear hKK KK))
        refine hR _ (k + 1) hlt (by omega) ?_
        have hs := HS.out
        simp [h1, h2] at hs
        go_simp
    · repeat (first | (with_reducible refine vseq ?_) | (with_reducible refine vthenN ?_) | (with_reducible refine vthenE ?_) | (with_reducible refine vthenR ?_) | (with_reducible refine vret ?_) | (with_reducible refine vskip ?_) | (with_reducible refine vexit ?_) | (with_reducible refine vblock ?_) | (with_reducible refine vblockN ?_) | (with_reducible refine vblockR ?_) | (with_reducible refine vblockH ?_) | (with_reducible refine vrun_nil ?_) | (with_reducible refine vblockE rfl ?_) | (with_reducible refine vregion [] ?_) | (with_reducible refine vhrun_nil ?_) | ((with_reducible refine vcondT ?_ ?_); (focus (go_simp; done))) | ((with_reducible refine vcondF ?_ ?_); (focus (go_simp; done))) | ((with_reducible refine vrun_cons fun KK hKK => ?_); go_simp; refine hKK _ ?_; clear hKK KK) | ((with_reducible refine vhrun_cons fun KK hKK => ?_); go_simp; refine hKK _ ?_; clear hKK KK))
      refine hR _ (k + 1) hlt (by omega) ?_
      have hs := HS.out
      simp [h1] at hs
      go_simp
  · have e : k = l.length := by omega
    subst e
    repeat (first | (with_reducible refine vseq ?_) | (with_reducible refine vthenN ?_) | (with_reducible refine vthenE ?_) | (with_reducible refine vthenR ?_) | (with_reducible refine vret ?_) | (with_reducible refine vskip ?_) | (with_reducible refine vexit ?_) | (with_reducible refine vblock ?_) | (with_reducible refine vblockN ?_) | (with_reducible refine vblockR ?_) | (with_reducible refine vblockH ?_) | (with_reducible refine vrun_nil ?_) | (with_reducible refine vblockE rfl ?_) | (with_reducible refine vregion [] ?_) | (with_reducible refine vhrun_nil ?_) | ((with_reducible refine vcondT ?_ ?_); (focus (go_simp; done))) | ((with_reducible refine vcondF ?_ ?_); (focus (go_simp; done))) | ((with_reducible refine vrun_cons fun KK hKK => ?_); go_simp; refine hKK _ ?_; clear hKK KK) | ((with_reducible refine vhrun_cons fun KK hKK => ?_); go_simp; refine hKK _ ?_; clear hKK KK))
    go_simp
theorem v132 (l : List Rec) (t : Int) (hl : l.length ≤ 1000) (hT : ∀ x ∈ l, 0 ≤ x.hi ∧ x.hi ≤ 8640000000) : VC Try.prog 132 [recsA l, I t] (I (usesAt l t l.length)) := by
  have HT := Lib.hid hT
  clear hT
  refine VC_of Try.func132 rfl (by kernel_rfl) (by kernel_rfl) rfl fun M0 w0 => ?_
  simp only [Try.ntmps132, Try.results132, enumA]
  repeat (first | (with_reducible refine vseq ?_) | (with_reducible refine vthenN ?_) | (with_reducible refine vthenE ?_) | (with_reducible refine vthenR ?_) | (with_reducible refine vret ?_) | (with_reducible refine vskip ?_) | (with_reducible refine vexit ?_) | (with_reducible refine vblock ?_) | (with_reducible refine vblockN ?_) | (with_reducible refine vblockR ?_) | (with_reducible refine vblockH ?_) | (with_reducible refine vrun_nil ?_) | (with_reducible refine vblockE rfl ?_) | (with_reducible refine vregion [] ?_) | (with_reducible refine vhrun_nil ?_) | ((with_reducible refine vcondT ?_ ?_); (focus (go_simp; done))) | ((with_reducible refine vcondF ?_ ?_); (focus (go_simp; done))) | ((with_reducible refine vrun_cons fun KK hKK => ?_); go_simp; refine hKK _ ?_; clear hKK KK) | ((with_reducible refine vhrun_cons fun KK hKK => ?_); go_simp; refine hKK _ ?_; clear hKK KK))
  refine vloop (α := Nat) (fun k => ⟨[(6, I k), (0, recsA l), (5, I (usesAt l t k)), (1, I t)], []⟩) (fun k => k ≤ l.length) (fun k => l.length - k) 0 (Nat.zero_le _) (by simp only [usesAt, cntP]; go_simp) ?_
  rintro k hk K hR
  by_cases hlt : k < l.length
  · have hw := wrap_eq (x := (k : Int) + 1) (by omega) (by omega)
    have hcl := cntP_le (fun k => inU (rat l k) t) k
    have hb := HT.out l[k] (List.getElem_mem hlt)
    have hw3 := wrap_eq (x := l[k].hi - 1) (by omega) (by omega)
    have hs : usesAt l t (k + 1) = usesAt l t k + if inR t l[k].lo (l[k].hi - 1) then 1 else 0 := by
      rw [usesAt, cntP, rat_get hlt]
      have : inU l[k] t = inR t l[k].lo (l[k].hi - 1) := by
        unfold inU
        by_cases h : inR t l[k].lo (l[k].hi - 1) = true
        · have := inR_iff.1 h
          rw [h]
          simp
          omega
        · have h2 : ¬ (l[k].lo ≤ t ∧ t ≤ l[k].hi - 1) := fun hh => h (inR_iff.2 hh)
          rw [Bool.not_eq_true] at h
          rw [h]
          simp
          omega
      rw [this]
    change usesAt l t k ≤ k at hcl
    have hw2 := wrap_eq (x := (usesAt l t k : Int) + 1) (by omega) (by omega)
    have HS := Lib.hid hs
    clear hs hcl hb
    cases h : inR t l[k].lo (l[k].hi - 1)
    · repeat (first | (with_reducible refine vseq ?_) | (with_reducible refine vthenN ?_) | (with_reducible refine vthenE ?_) | (with_reducible refine vthenR ?_) | (with_reducible refine vret ?_) | (with_reducible refine vskip ?_) | (with_reducible refine vexit ?_) | (with_reducible refine vblock ?_) | (with_reducible refine vblockN ?_) | (with_reducible refine vblockR ?_) | (with_reducible refine vblockH ?_) | (with_reducible refine vrun_nil ?_) | (with_reducible refine vblockE rfl ?_) | (with_reducible refine vregion [] ?_) | (with_reducible refine vhrun_nil ?_) | ((with_reducible refine vcondT ?_ ?_); (focus (go_simp; done))) | ((with_reducible refine vcondF ?_ ?_); (focus (go_simp; done))) | ((with_reducible refine vrun_cons fun KK hKK => ?_); go_simp; refine hKK _ ?_; clear hKK KK) | ((with_reducible refine vhrun_cons fun KK hKK => ?_); go_simp; refine hKK _ ?_; clear hKK KK))
      refine vdraw 13 [] (by kernel_rfl) (by kernel_rfl) ?_
      simp only [List.take, List.drop]
      repeat (first | (with_reducible refine vseq ?_) | (with_reducible refine vthenN ?_) | (with_reducible refine vthenE ?_) | (with_reducible refine vthenR ?_) | (with_reducible refine vret ?_) | (with_reducible refine vskip ?_) | (with_reducible refine vexit ?_) | (with_reducible refine vblock ?_) | (with_reducible refine vblockN ?_) | (with_reducible refine vblockR ?_) | (with_reducible refine vblockH ?_) | (with_reducible refine vrun_nil ?_) | (with_reducible refine vblockE rfl ?_) | (with_reducible refine vregion [] ?_) | (with_reducible refine vhrun_nil ?_) | ((with_reducible refine vcondT ?_ ?_); (focus (go_simp; done))) | ((with_reducible refine vcondF ?_ ?_); (focus (go_simp; done))) | ((with_reducible refine vrun_cons fun KK hKK => ?_); go_simp; (first | (with_reducible refine ⟨_, v36 _ _ _, ?_⟩) | skip); refine hKK _ ?_; clear hKK KK) | ((with_reducible refine vhrun_cons fun KK hKK => ?_); go_simp; (first | (with_reducible refine ⟨_, v36 _ _ _, ?_⟩) | skip); refine hKK _ ?_; clear hKK KK))
      refine hR _ (k + 1) hlt (by omega) ?_
      have hs := HS.out
      simp [h] at hs
      go_simp
    · repeat (first | (with_reducible refine vseq ?_) | (with_reducible refine vthenN ?_) | (with_reducible refine vthenE ?_) | (with_reducible refine vthenR ?_) | (with_reducible refine vret ?_) | (with_reducible refine vskip ?_) | (with_reducible refine vexit ?_) | (with_reducible refine vblock ?_) | (with_reducible refine vblockN ?_) | (with_reducible refine vblockR ?_) | (with_reducible refine vblockH ?_) | (with_reducible refine vrun_nil ?_) | (with_reducible refine vblockE rfl ?_) | (with_reducible refine vregion [] ?_) | (with_reducible refine vhrun_nil ?_) | ((with_reducible refine vcondT ?_ ?_); (focus (go_simp; done))) | ((with_reducible refine vcondF ?_ ?_); (focus (go_simp; done))) | ((with_reducible refine vrun_cons fun KK hKK => ?_); go_simp; refine hKK _ ?_; clear hKK KK) | ((with_reducible refine vhrun_cons fun KK hKK => ?_); go_simp; refine hKK _ ?_; clear hKK KK))
      refine vdraw 13 [] (by kernel_rfl) (by kernel_rfl) ?_
      simp only [List.take, List.drop]
      repeat (first | (with_reducible refine vseq ?_) | (with_reducible refine vthenN ?_) | (with_reducible refine vthenE ?_) | (with_reducible refine vthenR ?_) | (with_reducible refine vret ?_) | (with_reducible refine vskip ?_) | (with_reducible refine vexit ?_) | (with_reducible refine vblock ?_) | (with_reducible refine vblockN ?_) | (with_reducible refine vblockR ?_) | (with_reducible refine vblockH ?_) | (with_reducible refine vrun_nil ?_) | (with_reducible refine vblockE rfl ?_) | (with_reducible refine vregion [] ?_) | (with_reducible refine vhrun_nil ?_) | ((with_reducible refine vcondT ?_ ?_); (focus (go_simp; done))) | ((with_reducible refine vcondF ?_ ?_); (focus (go_simp; done))) | ((with_reducible refine vrun_cons fun KK hKK => ?_); go_simp; (first | (with_reducible refine ⟨_, v36 _ _ _, ?_⟩) | skip); refine hKK _ ?_; clear hKK KK) | ((with_reducible refine vhrun_cons fun KK hKK => ?_); go_simp; (first | (with_reducible refine ⟨_, v36 _ _ _, ?_⟩) | skip); refine hKK _ ?_; clear hKK KK))
      refine hR _ (k + 1) hlt (by omega) ?_
      have hs := HS.out
      simp [h] at hs
      go_simp
  · have e : k = l.length := by omega
    subst e
    repeat (first | (with_reducible refine vseq ?_) | (with_reducible refine vthenN ?_) | (with_reducible refine vthenE ?_) | (with_reducible refine vthenR ?_) | (with_reducible refine vret ?_) | (with_reducible refine vskip ?_) | (with_reducible refine vexit ?_) | (with_reducible refine vblock ?_) | (with_reducible refine vblockN ?_) | (with_reducible refine vblockR ?_) | (with_reducible refine vblockH ?_) | (with_reducible refine vrun_nil ?_) | (with_reducible refine vblockE rfl ?_) | (with_reducible refine vregion [] ?_) | (with_reducible refine vhrun_nil ?_) | ((with_reducible refine vcondT ?_ ?_); (focus (go_simp; done))) | ((with_reducible refine vcondF ?_ ?_); (focus (go_simp; done))) | ((with_reducible refine vrun_cons fun KK hKK => ?_); go_simp; refine hKK _ ?_; clear hKK KK) | ((with_reducible refine vhrun_cons fun KK hKK => ?_); go_simp; refine hKK _ ?_; clear hKK KK))
    go_simp
/-- The same place at one time. -/
def twi (x y : Rec) : Bool := decide (y.driver = x.driver) && ovU x y
theorem v152 (x y : Rec) : VC Try.prog 152 [.agg y.av, .vp x.av] (B (twi x y)) := by
  unfold twi
  obtain ⟨d1, a1, b1⟩ := x
  obtain ⟨d2, a2, b2⟩ := y
  have H := Lib.hid fun d => v126 ⟨d, a1, b1⟩ ⟨d, a2, b2⟩
  have hov : ∀ d d', ovU ⟨d, a1, b1⟩ ⟨d', a2, b2⟩ = ovU ⟨d1, a1, b1⟩ ⟨d2, a2, b2⟩ := fun _ _ => rfl
  dsimp only
  generalize ovU ⟨d1, a1, b1⟩ ⟨d2, a2, b2⟩ = r at *
  have HOV := Lib.hid hov
  clear hov
  refine VC_of Try.func152 rfl (by kernel_rfl) (by kernel_rfl) rfl fun M0 w0 => ?_
  simp only [Try.ntmps152, Try.results152, enumA]
  by_cases h : d2 = d1
  · subst h
    have h2 := H.out d2
    rw [HOV.out] at h2
    have H2 := Lib.hid h2
    clear h2
    repeat (first | (with_reducible refine vseq ?_) | (with_reducible refine vthenN ?_) | (with_reducible refine vthenE ?_) | (with_reducible refine vthenR ?_) | (with_reducible refine vret ?_) | (with_reducible refine vskip ?_) | (with_reducible refine vexit ?_) | (with_reducible refine vblock ?_) | (with_reducible refine vblockN ?_) | (with_reducible refine vblockR ?_) | (with_reducible refine vblockH ?_) | (with_reducible refine vrun_nil ?_) | (with_reducible refine vblockE rfl ?_) | (with_reducible refine vregion [] ?_) | (with_reducible refine vhrun_nil ?_) | ((with_reducible refine vcondT ?_ ?_); (focus (go_simp; done))) | ((with_reducible refine vcondF ?_ ?_); (focus (go_simp; done))) | ((with_reducible refine vrun_cons fun KK hKK => ?_); go_simp; (first | (refine ⟨_, H2.out, ?_⟩) | skip); refine hKK _ ?_; clear hKK KK) | ((with_reducible refine vhrun_cons fun KK hKK => ?_); go_simp; (first | (refine ⟨_, H2.out, ?_⟩) | skip); refine hKK _ ?_; clear hKK KK))
    go_simp
  · repeat (first | (with_reducible refine vseq ?_) | (with_reducible refine vthenN ?_) | (with_reducible refine vthenE ?_) | (with_reducible refine vthenR ?_) | (with_reducible refine vret ?_) | (with_reducible refine vskip ?_) | (with_reducible refine vexit ?_) | (with_reducible refine vblock ?_) | (with_reducible refine vblockN ?_) | (with_reducible refine vblockR ?_) | (with_reducible refine vblockH ?_) | (with_reducible refine vrun_nil ?_) | (with_reducible refine vblockE rfl ?_) | (with_reducible refine vregion [] ?_) | (with_reducible refine vhrun_nil ?_) | ((with_reducible refine vcondT ?_ ?_); (focus (go_simp; done))) | ((with_reducible refine vcondF ?_ ?_); (focus (go_simp; done))) | ((with_reducible refine vrun_cons fun KK hKK => ?_); go_simp; refine hKK _ ?_; clear hKK KK) | ((with_reducible refine vhrun_cons fun KK hKK => ?_); go_simp; refine hKK _ ?_; clear hKK KK))
    go_simp
theorem v167 (l : List Rec) (x : Rec) (hl : l.length ≤ 1000) : VC Try.prog 167 [recsA l, .fn (.func 152) [] [.vp x.av]] (I (ixP (fun k => twi x (rat l k)) 0 l.length)) := by
  generalize hR0 : ixP (fun k => twi x (rat l k)) 0 l.length = R
  have HR := Lib.hid hR0
  clear hR0
  refine VC_of Try.func167 rfl (by kernel_rfl) (by kernel_rfl) rfl fun M0 w0 => ?_
  simp only [Try.ntmps167, Try.results167, enumA]
  repeat (first | (with_reducible refine vseq ?_) | (with_reducible refine vthenN ?_) | (with_reducible refine vthenE ?_) | (with_reducible refine vthenR ?_) | (with_reducible refine vret ?_) | (with_reducible refine vskip ?_) | (with_reducible refine vexit ?_) | (with_reducible refine vblock ?_) | (with_reducible refine vblockN ?_) | (with_reducible refine vblockR ?_) | (with_reducible refine vblockH ?_) | (with_reducible refine vrun_nil ?_) | (with_reducible refine vblockE rfl ?_) | (with_reducible refine vregion [] ?_) | (with_reducible refine vhrun_nil ?_) | ((with_reducible refine vcondT ?_ ?_); (focus (go_simp; done))) | ((with_reducible refine vcondF ?_ ?_); (focus (go_simp; done))) | ((with_reducible refine vrun_cons fun KK hKK => ?_); go_simp; refine hKK _ ?_; clear hKK KK) | ((with_reducible refine vhrun_cons fun KK hKK => ?_); go_simp; refine hKK _ ?_; clear hKK KK))
  refine vloop (α := Nat) (fun k => ⟨[(8, I k), (7, I l.length), (0, recsA l), (1, .fn (.func 152) [] [.vp x.av])], []⟩) (fun k => k ≤ l.length ∧ ixP (fun k => twi x (rat l k)) k (l.length - k) = R) (fun k => l.length - k) 0 ⟨by omega, HR.out⟩ (by go_simp) ?_
  rintro k ⟨hk, hf⟩ K hR
  have HF := Lib.hid hf
  clear hf
  by_cases hlt : k < l.length
  · have hf := HF.out
    rw [ixP_at hlt, rat_get hlt] at hf
    have HE := Lib.hid hf
    clear hf
    have hw := wrap_eq (x := (k : Int) + 1) (by omega) (by omega)
    cases h : twi x l[k]
    · repeat (first | (with_reducible refine vseq ?_) | (with_reducible refine vthenN ?_) | (with_reducible refine vthenE ?_) | (with_reducible refine vthenR ?_) | (with_reducible refine vret ?_) | (with_reducible refine vskip ?_) | (with_reducible refine vexit ?_) | (with_reducible refine vblock ?_) | (with_reducible refine vblockN ?_) | (with_reducible refine vblockR ?_) | (with_reducible refine vblockH ?_) | (with_reducible refine vrun_nil ?_) | (with_reducible refine vblockE rfl ?_) | (with_reducible refine vregion [] ?_) | (with_reducible refine vhrun_nil ?_) | ((with_reducible refine vcondT ?_ ?_); (focus (go_simp; done))) | ((with_reducible refine vcondF ?_ ?_); (focus (go_simp; done))) | ((with_reducible refine vrun_cons fun KK hKK => ?_); go_simp; (first | (refine ⟨_, v152 x l[k], ?_⟩) | skip); refine hKK _ ?_; clear hKK KK) | ((with_reducible refine vhrun_cons fun KK hKK => ?_); go_simp; (first | (refine ⟨_, v152 x l[k], ?_⟩) | skip); refine hKK _ ?_; clear hKK KK))
      refine hR _ (k + 1) ⟨hlt, ?_⟩ (by omega) ?_
      · have := HE.out
        rwa [h] at this
      · go_simp
    · repeat (first | (with_reducible refine vseq ?_) | (with_reducible refine vthenN ?_) | (with_reducible refine vthenE ?_) | (with_reducible refine vthenR ?_) | (with_reducible refine vret ?_) | (with_reducible refine vskip ?_) | (with_reducible refine vexit ?_) | (with_reducible refine vblock ?_) | (with_reducible refine vblockN ?_) | (with_reducible refine vblockR ?_) | (with_reducible refine vblockH ?_) | (with_reducible refine vrun_nil ?_) | (with_reducible refine vblockE rfl ?_) | (with_reducible refine vregion [] ?_) | (with_reducible refine vhrun_nil ?_) | ((with_reducible refine vcondT ?_ ?_); (focus (go_simp; done))) | ((with_reducible refine vcondF ?_ ?_); (focus (go_simp; done))) | ((with_reducible refine vrun_cons fun KK hKK => ?_); go_simp; (first | (refine ⟨_, v152 x l[k], ?_⟩) | skip); refine hKK _ ?_; clear hKK KK) | ((with_reducible refine vhrun_cons fun KK hKK => ?_); go_simp; (first | (refine ⟨_, v152 x l[k], ?_⟩) | skip); refine hKK _ ?_; clear hKK KK))
      have e := HE.out
      rw [h] at e
      clear h
      subst e
      go_simp
  · repeat (first | (with_reducible refine vseq ?_) | (with_reducible refine vthenN ?_) | (with_reducible refine vthenE ?_) | (with_reducible refine vthenR ?_) | (with_reducible refine vret ?_) | (with_reducible refine vskip ?_) | (with_reducible refine vexit ?_) | (with_reducible refine vblock ?_) | (with_reducible refine vblockN ?_) | (with_reducible refine vblockR ?_) | (with_reducible refine vblockH ?_) | (with_reducible refine vrun_nil ?_) | (with_reducible refine vblockE rfl ?_) | (with_reducible refine vregion [] ?_) | (with_reducible refine vhrun_nil ?_) | ((with_reducible refine vcondT ?_ ?_); (focus (go_simp; done))) | ((with_reducible refine vcondF ?_ ?_); (focus (go_simp; done))) | ((with_reducible refine vrun_cons fun KK hKK => ?_); go_simp; refine hKK _ ?_; clear hKK KK) | ((with_reducible refine vhrun_cons fun KK hKK => ?_); go_simp; refine hKK _ ?_; clear hKK KK))
    have e := HF.out
    rw [show l.length - k = 0 by omega, ixP] at e
    subst e
    go_simp
theorem v151 (l : List Rec) (x : Rec) (hl : l.length ≤ 1000) : VC Try.prog 151 [recsA l, .fn (.func 152) [] [.vp x.av]] (B (anyP (fun k => twi x (rat l k)) 0 l.length)) := by
  rw [← ixP_any]
  refine VC_of Try.func151 rfl (by kernel_rfl) (by kernel_rfl) rfl fun M0 w0 => ?_
  simp only [Try.ntmps151, Try.results151, enumA]
  repeat (first | (with_reducible refine vseq ?_) | (with_reducible refine vthenN ?_) | (with_reducible refine vthenE ?_) | (with_reducible refine vthenR ?_) | (with_reducible refine vret ?_) | (with_reducible refine vskip ?_) | (with_reducible refine vexit ?_) | (with_reducible refine vblock ?_) | (with_reducible refine vblockN ?_) | (with_reducible refine vblockR ?_) | (with_reducible refine vblockH ?_) | (with_reducible refine vrun_nil ?_) | (with_reducible refine vblockE rfl ?_) | (with_reducible refine vregion [] ?_) | (with_reducible refine vhrun_nil ?_) | ((with_reducible refine vcondT ?_ ?_); (focus (go_simp; done))) | ((with_reducible refine vcondF ?_ ?_); (focus (go_simp; done))) | ((with_reducible refine vrun_cons fun KK hKK => ?_); go_simp; (first | (refine ⟨_, v167 l x hl, ?_⟩) | skip); refine hKK _ ?_; clear hKK KK) | ((with_reducible refine vhrun_cons fun KK hKK => ?_); go_simp; (first | (refine ⟨_, v167 l x hl, ?_⟩) | skip); refine hKK _ ?_; clear hKK KK))
  go_simp
/-- The error of use number k. -/
def useE (l : List Rec) (k : Nat) : Int := fst [nameErr (rat l k).driver, spanErr (rat l k).lo (rat l k).hi, unl (!(anyP (fun j => twi (rat l k) (rat l j)) 0 k)) 13]
def usesE (l : List Rec) : Nat × Int := checkL l.length 14 (useE l)
theorem any_take {l : List Rec} {x : Rec} {k : Nat} (hk : k ≤ l.length) : anyP (fun j => twi x (rat (l.take k) j)) 0 (l.take k).length = anyP (fun j => twi x (rat l j)) 0 k := by
  rw [List.length_take, Nat.min_eq_left hk, Bool.eq_iff_iff, anyP_iff, anyP_iff]
  constructor
  · rintro ⟨j, h1, h2, h3⟩
    refine ⟨j, h1, h2, ?_⟩
    rw [rat_get (by simp; omega)] at h3
    rw [rat_get (by omega)]
    simpa using h3
  · rintro ⟨j, h1, h2, h3⟩
    refine ⟨j, h1, h2, ?_⟩
    rw [rat_get (by simp; omega)]
    rw [rat_get (by omega)] at h3
    simpa using h3
theorem v150 (l : List Rec) (k : Nat) (hk : k < l.length) (hl : l.length ≤ 1000) (hs : l[k].driver.size ≤ 1000) : VC Try.prog 150 [I (k : Int), .agg l[k].av, .vp [recsA l]] (I (useE l k)) := by
  have h151 : VC Try.prog 151 [.sl 3 ((l.map Rec.av).take k), .fn (.func 152) [] [.vp l[k].av]] (B (anyP (fun j => twi l[k] (rat l j)) 0 k)) := by
    rw [← List.map_take, ← any_take (l := l) (by omega)]
    exact v151 (l.take k) l[k] (by simp; omega)
  unfold useE
  rw [rat_get hk]
  have H := Lib.hid h151
  clear h151
  generalize anyP (fun j => twi l[k] (rat l j)) 0 k = b at *
  have hle : k ≤ l.length := by omega
  have hle' : (k : Int) ≤ l.length := by omega
  refine VC_of Try.func150 rfl (by kernel_rfl) (by kernel_rfl) rfl fun M0 w0 => ?_
  simp only [Try.ntmps150, Try.results150, enumA]
  repeat (first | (with_reducible refine vseq ?_) | (with_reducible refine vthenN ?_) | (with_reducible refine vthenE ?_) | (with_reducible refine vthenR ?_) | (with_reducible refine vret ?_) | (with_reducible refine vskip ?_) | (with_reducible refine vexit ?_) | (with_reducible refine vblock ?_) | (with_reducible refine vblockN ?_) | (with_reducible refine vblockR ?_) | (with_reducible refine vblockH ?_) | (with_reducible refine vrun_nil ?_) | (with_reducible refine vblockE rfl ?_) | (with_reducible refine vregion [] ?_) | (with_reducible refine vhrun_nil ?_) | ((with_reducible refine vcondT ?_ ?_); (focus (go_simp; done))) | ((with_reducible refine vcondF ?_ ?_); (focus (go_simp; done))) | ((with_reducible refine vrun_cons fun KK hKK => ?_); go_simp; (first | (refine ⟨_, H.out, ?_⟩) | skip); refine hKK _ ?_; clear hKK KK) | ((with_reducible refine vhrun_cons fun KK hKK => ?_); go_simp; (first | (refine ⟨_, H.out, ?_⟩) | skip); refine hKK _ ?_; clear hKK KK))
  refine vdraw 10 [] (by kernel_rfl) (by kernel_rfl) ?_
  simp only [List.take, List.drop]
  repeat (first | (with_reducible refine vseq ?_) | (with_reducible refine vthenN ?_) | (with_reducible refine vthenE ?_) | (with_reducible refine vthenR ?_) | (with_reducible refine vret ?_) | (with_reducible refine vskip ?_) | (with_reducible refine vexit ?_) | (with_reducible refine vblock ?_) | (with_reducible refine vblockN ?_) | (with_reducible refine vblockR ?_) | (with_reducible refine vblockH ?_) | (with_reducible refine vrun_nil ?_) | (with_reducible refine vblockE rfl ?_) | (with_reducible refine vregion [] ?_) | (with_reducible refine vhrun_nil ?_) | ((with_reducible refine vcondT ?_ ?_); (focus (go_simp; done))) | ((with_reducible refine vcondF ?_ ?_); (focus (go_simp; done))) | ((with_reducible refine vrun_cons fun KK hKK => ?_); go_simp; (first | (with_reducible refine ⟨_, v99 _ hs, ?_⟩) | (with_reducible refine ⟨_, v143 _ _, ?_⟩) | (with_reducible refine ⟨_, v78 _ _, ?_⟩) | (refine ⟨_, v75 [_, _, _] rfl, ?_⟩) | skip); refine hKK _ ?_; clear hKK KK) | ((with_reducible refine vhrun_cons fun KK hKK => ?_); go_simp; (first | (with_reducible refine ⟨_, v99 _ hs, ?_⟩) | (with_reducible refine ⟨_, v143 _ _, ?_⟩) | (with_reducible refine ⟨_, v78 _ _, ?_⟩) | (refine ⟨_, v75 [_, _, _] rfl, ?_⟩) | skip); refine hKK _ ?_; clear hKK KK))
  go_simp
theorem v149 (l : List Rec) (hl : l.length ≤ 1000) (hd : Small l) : VC Try.prog 149 [recsA l, I 14, .fn (.func 150) [] [.vp [recsA l]]] (.tup [I (usesE l).1, I (usesE l).2]) := by
  generalize hR0 : usesE l = R
  unfold usesE checkL at hR0
  have HR := Lib.hid hR0
  clear hR0
  refine VC_of Try.func149 rfl (by kernel_rfl) (by kernel_rfl) rfl fun M0 w0 => ?_
  simp only [Try.ntmps149, Try.results149, enumA]
  by_cases hlen : (14 : Int) < l.length
  · repeat (first | (with_reducible refine vseq ?_) | (with_reducible refine vthenN ?_) | (with_reducible refine vthenE ?_) | (with_reducible refine vthenR ?_) | (with_reducible refine vret ?_) | (with_reducible refine vskip ?_) | (with_reducible refine vexit ?_) | (with_reducible refine vblock ?_) | (with_reducible refine vblockN ?_) | (with_reducible refine vblockR ?_) | (with_reducible refine vblockH ?_) | (with_reducible refine vrun_nil ?_) | (with_reducible refine vblockE rfl ?_) | (with_reducible refine vregion [] ?_) | (with_reducible refine vhrun_nil ?_) | ((with_reducible refine vcondT ?_ ?_); (focus (go_simp; done))) | ((with_reducible refine vcondF ?_ ?_); (focus (go_simp; done))) | ((with_reducible refine vrun_cons fun KK hKK => ?_); go_simp; refine hKK _ ?_; clear hKK KK) | ((with_reducible refine vhrun_cons fun KK hKK => ?_); go_simp; refine hKK _ ?_; clear hKK KK))
    have e := HR.out
    rw [if_pos hlen] at e
    subst e
    go_simp
  · repeat (first | (with_reducible refine vseq ?_) | (with_reducible refine vthenN ?_) | (with_reducible refine vthenE ?_) | (with_reducible refine vthenR ?_) | (with_reducible refine vret ?_) | (with_reducible refine vskip ?_) | (with_reducible refine vexit ?_) | (with_reducible refine vblock ?_) | (with_reducible refine vblockN ?_) | (with_reducible refine vblockR ?_) | (with_reducible refine vblockH ?_) | (with_reducible refine vrun_nil ?_) | (with_reducible refine vblockE rfl ?_) | (with_reducible refine vregion [] ?_) | (with_reducible refine vhrun_nil ?_) | ((with_reducible refine vcondT ?_ ?_); (focus (go_simp; done))) | ((with_reducible refine vcondF ?_ ?_); (focus (go_simp; done))) | ((with_reducible refine vrun_cons fun KK hKK => ?_); go_simp; refine hKK _ ?_; clear hKK KK) | ((with_reducible refine vhrun_cons fun KK hKK => ?_); go_simp; refine hKK _ ?_; clear hKK KK))
    have e := HR.out
    rw [if_neg hlen] at e
    refine vloop (α := Nat) (fun k => ⟨[(2, .fn (.func 150) [] [.vp [recsA l]]), (17, I k), (16, I l.length), (15, recsA l)], []⟩) (fun k => k ≤ l.length ∧ firstErr (useE l) k (l.length - k) = R) (fun k => l.length - k) 0 ⟨by omega, e⟩ (by clear e; go_simp) ?_
    clear e
    rintro k ⟨hk, hf⟩ K hR
    have HF := Lib.hid hf
    clear hf
    by_cases hlt : k < l.length
    · have hf := HF.out
      rw [firstErr_at hlt] at hf
      have HE := Lib.hid hf
      clear hf
      have H8 := Lib.hid (v150 l k hlt hl (hd.at_ hlt))
      generalize useE l k = E at *
      by_cases h0 : E = 0
      · have hw := wrap_eq (x := (k : Int) + 1) (by omega) (by omega)
        repeat (first | (with_reducible refine vseq ?_) | (with_reducible refine vthenN ?_) | (with_reducible refine vthenE ?_) | (with_reducible refine vthenR ?_) | (with_reducible refine vret ?_) | (with_reducible refine vskip ?_) | (with_reducible refine vexit ?_) | (with_reducible refine vblock ?_) | (with_reducible refine vblockN ?_) | (with_reducible refine vblockR ?_) | (with_reducible refine vblockH ?_) | (with_reducible refine vrun_nil ?_) | (with_reducible refine vblockE rfl ?_) | (with_reducible refine vregion [] ?_) | (with_reducible refine vhrun_nil ?_) | ((with_reducible refine vcondT ?_ ?_); (focus (go_simp; done))) | ((with_reducible refine vcondF ?_ ?_); (focus (go_simp; done))) | ((with_reducible refine vrun_cons fun KK hKK => ?_); go_simp; (first | (refine ⟨_, H8.out, ?_⟩) | skip); refine hKK _ ?_; clear hKK KK) | ((with_reducible refine vhrun_cons fun KK hKK => ?_); go_simp; (first | (refine ⟨_, H8.out, ?_⟩) | skip); refine hKK _ ?_; clear hKK KK))
        refine hR _ (k + 1) ⟨hlt, ?_⟩ (by omega) ?_
        · have := HE.out
          rwa [if_neg (by simpa using h0)] at this
        · go_simp
      · repeat (first | (with_reducible refine vseq ?_) | (with_reducible refine vthenN ?_) | (with_reducible refine vthenE ?_) | (with_reducible refine vthenR ?_) | (with_reducible refine vret ?_) | (with_reducible refine vskip ?_) | (with_reducible refine vexit ?_) | (with_reducible refine vblock ?_) | (with_reducible refine vblockN ?_) | (with_reducible refine vblockR ?_) | (with_reducible refine vblockH ?_) | (with_reducible refine vrun_nil ?_) | (with_reducible refine vblockE rfl ?_) | (with_reducible refine vregion [] ?_) | (with_reducible refine vhrun_nil ?_) | ((with_reducible refine vcondT ?_ ?_); (focus (go_simp; done))) | ((with_reducible refine vcondF ?_ ?_); (focus (go_simp; done))) | ((with_reducible refine vrun_cons fun KK hKK => ?_); go_simp; (first | (refine ⟨_, H8.out, ?_⟩) | skip); refine hKK _ ?_; clear hKK KK) | ((with_reducible refine vhrun_cons fun KK hKK => ?_); go_simp; (first | (refine ⟨_, H8.out, ?_⟩) | skip); refine hKK _ ?_; clear hKK KK))
        have e := HE.out
        rw [if_pos h0] at e
        subst e
        go_simp
    · repeat (first | (with_reducible refine vseq ?_) | (with_reducible refine vthenN ?_) | (with_reducible refine vthenE ?_) | (with_reducible refine vthenR ?_) | (with_reducible refine vret ?_) | (with_reducible refine vskip ?_) | (with_reducible refine vexit ?_) | (with_reducible refine vblock ?_) | (with_reducible refine vblockN ?_) | (with_reducible refine vblockR ?_) | (with_reducible refine vblockH ?_) | (with_reducible refine vrun_nil ?_) | (with_reducible refine vblockE rfl ?_) | (with_reducible refine vregion [] ?_) | (with_reducible refine vhrun_nil ?_) | ((with_reducible refine vcondT ?_ ?_); (focus (go_simp; done))) | ((with_reducible refine vcondF ?_ ?_); (focus (go_simp; done))) | ((with_reducible refine vrun_cons fun KK hKK => ?_); go_simp; refine hKK _ ?_; clear hKK KK) | ((with_reducible refine vhrun_cons fun KK hKK => ?_); go_simp; refine hKK _ ?_; clear hKK KK))
      have e := HF.out
      rw [show l.length - k = 0 by omega, firstErr] at e
      subst e
      go_simp
theorem v120 (l : List Rec) (hl : l.length ≤ 1000) (hd : Small l) : VC Try.prog 120 [recsA l] (I (usesE l).2) := by
  have H := Lib.hid (v149 l hl hd)
  generalize usesE l = R at *
  refine VC_of Try.func120 rfl (by kernel_rfl) (by kernel_rfl) rfl fun M0 w0 => ?_
  simp only [Try.ntmps120, Try.results120, enumA]
  repeat (first | (with_reducible refine vseq ?_) | (with_reducible refine vthenN ?_) | (with_reducible refine vthenE ?_) | (with_reducible refine vthenR ?_) | (with_reducible refine vret ?_) | (with_reducible refine vskip ?_) | (with_reducible refine vexit ?_) | (with_reducible refine vblock ?_) | (with_reducible refine vblockN ?_) | (with_reducible refine vblockR ?_) | (with_reducible refine vblockH ?_) | (with_reducible refine vrun_nil ?_) | (with_reducible refine vblockE rfl ?_) | (with_reducible refine vregion [] ?_) | (with_reducible refine vhrun_nil ?_) | ((with_reducible refine vcondT ?_ ?_); (focus (go_simp; done))) | ((with_reducible refine vcondF ?_ ?_); (focus (go_simp; done))) | ((with_reducible refine vrun_cons fun KK hKK => ?_); go_simp; (first | (refine ⟨_, H.out, ?_⟩) | skip); refine hKK _ ?_; clear hKK KK) | ((with_reducible refine vhrun_cons fun KK hKK => ?_); go_simp; (first | (refine ⟨_, H.out, ?_⟩) | skip); refine hKK _ ?_; clear hKK KK))
  go_simp
/-- The most uses at one time. -/
def mostTo (l : List Rec) : Nat → Nat
  | 0 => 0
  | k + 1 => max (mostTo l k) (usesAt l (rat l k).lo l.length)
theorem v72 (l : List Rec) (hl : l.length ≤ 1000) (hT : ∀ x ∈ l, 0 ≤ x.hi ∧ x.hi ≤ 8640000000) : VC Try.prog 72 [recsA l] (I (mostTo l l.length)) := by
  have HT := Lib.hid hT
  clear hT
  refine VC_of Try.func72 rfl (by kernel_rfl) (by kernel_rfl) rfl fun M0 w0 => ?_
  simp only [Try.ntmps72, Try.results72, enumA]
  repeat (first | (with_reducible refine vseq ?_) | (with_reducible refine vthenN ?_) | (with_reducible refine vthenE ?_) | (with_reducible refine vthenR ?_) | (with_reducible refine vret ?_) | (with_reducible refine vskip ?_) | (with_reducible refine vexit ?_) | (with_reducible refine vblock ?_) | (with_reducible refine vblockN ?_) | (with_reducible refine vblockR ?_) | (with_reducible refine vblockH ?_) | (with_reducible refine vrun_nil ?_) | (with_reducible refine vblockE rfl ?_) | (with_reducible refine vregion [] ?_) | (with_reducible refine vhrun_nil ?_) | ((with_reducible refine vcondT ?_ ?_); (focus (go_simp; done))) | ((with_reducible refine vcondF ?_ ?_); (focus (go_simp; done))) | ((with_reducible refine vrun_cons fun KK hKK => ?_); go_simp; refine hKK _ ?_; clear hKK KK) | ((with_reducible refine vhrun_cons fun KK hKK => ?_); go_simp; refine hKK _ ?_; clear hKK KK))
  refine vloop (α := Nat) (fun k => ⟨[(4, I k), (0, recsA l), (3, I (mostTo l k))], []⟩) (fun k => k ≤ l.length) (fun k => l.length - k) 0 (Nat.zero_le _) (by simp only [mostTo]; go_simp) ?_
  rintro k hk K hR
  by_cases hlt : k < l.length
  · have hw := wrap_eq (x := (k : Int) + 1) (by omega) (by omega)
    have hs : mostTo l (k + 1) = max (mostTo l k) (usesAt l l[k].lo l.length) := by rw [mostTo, rat_get hlt]
    have H := Lib.hid (v132 l l[k].lo hl HT.out)
    generalize usesAt l l[k].lo l.length = U at *
    have HS := Lib.hid hs
    clear hs
    repeat (first | (with_reducible refine vseq ?_) | (with_reducible refine vthenN ?_) | (with_reducible refine vthenE ?_) | (with_reducible refine vthenR ?_) | (with_reducible refine vret ?_) | (with_reducible refine vskip ?_) | (with_reducible refine vexit ?_) | (with_reducible refine vblock ?_) | (with_reducible refine vblockN ?_) | (with_reducible refine vblockR ?_) | (with_reducible refine vblockH ?_) | (with_reducible refine vrun_nil ?_) | (with_reducible refine vblockE rfl ?_) | (with_reducible refine vregion [] ?_) | (with_reducible refine vhrun_nil ?_) | ((with_reducible refine vcondT ?_ ?_); (focus (go_simp; done))) | ((with_reducible refine vcondF ?_ ?_); (focus (go_simp; done))) | ((with_reducible refine vrun_cons fun KK hKK => ?_); go_simp; (first | (refine ⟨_, H.out, ?_⟩) | skip); refine hKK _ ?_; clear hKK KK) | ((with_reducible refine vhrun_cons fun KK hKK => ?_); go_simp; (first | (refine ⟨_, H.out, ?_⟩) | skip); refine hKK _ ?_; clear hKK KK))
    refine hR _ (k + 1) hlt (by omega) ?_
    have hs := HS.out
    have hm : ((max (mostTo l k) U : Nat) : Int) = if (mostTo l k : Int) < U then (U : Int) else mostTo l k := by split <;> omega
    rw [← hs] at hm
    clear hs
    go_simp
  · have e : k = l.length := by omega
    subst e
    repeat (first | (with_reducible refine vseq ?_) | (with_reducible refine vthenN ?_) | (with_reducible refine vthenE ?_) | (with_reducible refine vthenR ?_) | (with_reducible refine vret ?_) | (with_reducible refine vskip ?_) | (with_reducible refine vexit ?_) | (with_reducible refine vblock ?_) | (with_reducible refine vblockN ?_) | (with_reducible refine vblockR ?_) | (with_reducible refine vblockH ?_) | (with_reducible refine vrun_nil ?_) | (with_reducible refine vblockE rfl ?_) | (with_reducible refine vregion [] ?_) | (with_reducible refine vhrun_nil ?_) | ((with_reducible refine vcondT ?_ ?_); (focus (go_simp; done))) | ((with_reducible refine vcondF ?_ ?_); (focus (go_simp; done))) | ((with_reducible refine vrun_cons fun KK hKK => ?_); go_simp; refine hKK _ ?_; clear hKK KK) | ((with_reducible refine vhrun_cons fun KK hKK => ?_); go_simp; refine hKK _ ?_; clear hKK KK))
    go_simp
theorem o67 (l : List Rec) (hl : l.length ≤ 1000000) : VCo Try.prog 67 [recsA l] 120 3 false (l.map Rec.av) := by
  refine VCo_of Try.func67 rfl (by kernel_rfl) (by kernel_rfl) rfl Try.results67 (by decide) (recs_one l) fun M0 w0 => ?_
  simp only [Try.ntmps67, enumA]
  have hl2 : l.length ≤ 1000000000 := by omega
  repeat (first | (with_reducible refine vseq ?_) | (with_reducible refine vthenN ?_) | (with_reducible refine vthenE ?_) | (with_reducible refine vthenR ?_) | (with_reducible refine vret ?_) | (with_reducible refine vskip ?_) | (with_reducible refine vexit ?_) | (with_reducible refine vblock ?_) | (with_reducible refine vblockN ?_) | (with_reducible refine vblockR ?_) | (with_reducible refine vblockH ?_) | (with_reducible refine vrun_nil ?_) | (with_reducible refine vblockE rfl ?_) | (with_reducible refine vregion [3] ?_) | (with_reducible refine vhrun_nil ?_) | ((with_reducible refine vcondT ?_ ?_); (focus (go_simp; done))) | ((with_reducible refine vcondF ?_ ?_); (focus (go_simp; done))) | ((with_reducible refine vrun_cons fun KK hKK => ?_); go_simp; refine hKK _ ?_; clear hKK KK) | ((with_reducible refine vhrun_cons fun KK hKK => ?_); go_simp; refine hKK _ ?_; clear hKK KK))
  exact ⟨0, rfl, rfl⟩
end Go.Proofs.Ytmfmpagfjgpodaa

/-! VPlate2: Walks on plain values: what is wrong with uses, as the reference tells it; texts of at most 1000 bytes. -/
namespace Go.Proofs.Ytmfmpagfjgpodaa
open Go.RowKit
set_option maxRecDepth 100000
theorem useE_name {l : List Rec} {k : Nat} (h : isName (rat l k).driver = false) : useE l k = 4 := by simp [useE, nameErr, h, fst, unl]
theorem useE_span {l : List Rec} {k : Nat} (h : isName (rat l k).driver = true) (h2 : spanErr (rat l k).lo (rat l k).hi ≠ 0) : useE l k = spanErr (rat l k).lo (rat l k).hi := by simp [useE, nameErr, h, fst, unl, h2]
theorem useE_rest {l : List Rec} {k : Nat} (h : isName (rat l k).driver = true) (h2 : spanErr (rat l k).lo (rat l k).hi = 0) : useE l k = if anyP (fun j => twi (rat l k) (rat l j)) 0 k then 13 else 0 := by
  cases h3 : anyP (fun j => twi (rat l k) (rat l j)) 0 k <;> simp [useE, nameErr, h, fst, unl, h2, h3]
theorem ovU_comm (x y : Rec) : ovU x y = ovU y x := by unfold ovU; rw [Bool.and_comm]
theorem v70 (l : List Rec) (hl : l.length ≤ 1000) (hd : Small l) : VC Try.prog 70 [recsA l] (I (usesE l).2) := by
  generalize hR0 : usesE l = R
  unfold usesE checkL at hR0
  have HR := Lib.hid hR0
  clear hR0
  refine VC_of Try.func70 rfl (by kernel_rfl) (by kernel_rfl) rfl fun M0 w0 => ?_
  simp only [Try.ntmps70, Try.results70, enumA]
  by_cases hlen : (14 : Int) < l.length
  · repeat (first | (with_reducible refine vseq ?_) | (with_reducible refine vthenN ?_) | (with_reducible refine vthenE ?_) | (with_reducible refine vthenR ?_) | (with_reducible refine vret ?_) | (with_reducible refine vskip ?_) | (with_reducible refine vexit ?_) | (with_reducible refine vblock ?_) | (with_reducible refine vblockN ?_) | (with_reducible refine vblockR ?_) | (with_reducible refine vblockH ?_) | (with_reducible refine vrun_nil ?_) | (with_reducible refine vblockE rfl ?_) | (with_reducible refine vregion [] ?_) | (with_reducible refine vhrun_nil ?_) | ((with_reducible refine vcondT ?_ ?_); (focus (go_simp; done))) | ((with_reducible refine vcondF ?_ ?_); (focus (go_simp; done))) | ((with_reducible refine vrun_cons fun KK hKK => ?_); go_simp; refine hKK _ ?_; clear hKK KK) | ((with_reducible refine vhrun_cons fun KK hKK => ?_); go_simp; refine hKK _ ?_; clear hKK KK))
    have e := HR.out
    rw [if_pos hlen] at e
    subst e
    go_simp
  · repeat (first | (with_reducible refine vseq ?_) | (with_reducible refine vthenN ?_) | (with_reducible refine vthenE ?_) | (with_reducible refine vthenR ?_) | (with_reducible refine vret ?_) | (with_reducible refine vskip ?_) | (with_reducible refine vexit ?_) | (with_reducible refine vblock ?_) | (with_reducible refine vblockN ?_) | (with_reducible refine vblockR ?_) | (with_reducible refine vblockH ?_) | (with_reducible refine vrun_nil ?_) | (with_reducible refine vblockE rfl ?_) | (with_reducible refine vregion [] ?_) | (with_reducible refine vhrun_nil ?_) | ((with_reducible refine vcondT ?_ ?_); (focus (go_simp; done))) | ((with_reducible refine vcondF ?_ ?_); (focus (go_simp; done))) | ((with_reducible refine vrun_cons fun KK hKK => ?_); go_simp; refine hKK _ ?_; clear hKK KK) | ((with_reducible refine vhrun_cons fun KK hKK => ?_); go_simp; refine hKK _ ?_; clear hKK KK))
    have e := HR.out
    rw [if_neg hlen] at e
    refine vloop (α := Nat) (fun k => ⟨[(3, I k), (0, recsA l)], []⟩) (fun k => k ≤ l.length ∧ firstErr (useE l) k (l.length - k) = R) (fun k => l.length - k) 0 ⟨by omega, e⟩ (by clear e; go_simp) ?_
    clear e
    rintro k ⟨hk, hf⟩ K hR
    have HF := Lib.hid hf
    clear hf
    by_cases hlt : k < l.length
    · have hf := HF.out
      rw [firstErr_at hlt] at hf
      have HE := Lib.hid hf
      clear hf
      have hs := hd.at_ hlt
      cases h1 : isName l[k].driver
      · have e := HE.out
        rw [useE_name (by rw [rat_get hlt]; exact h1), if_pos (by decide)] at e
        repeat (first | (with_reducible refine vseq ?_) | (with_reducible refine vthenN ?_) | (with_reducible refine vthenE ?_) | (with_reducible refine vthenR ?_) | (with_reducible refine vret ?_) | (with_reducible refine vskip ?_) | (with_reducible refine vexit ?_) | (with_reducible refine vblock ?_) | (with_reducible refine vblockN ?_) | (with_reducible refine vblockR ?_) | (with_reducible refine vblockH ?_) | (with_reducible refine vrun_nil ?_) | (with_reducible refine vblockE rfl ?_) | (with_reducible refine vregion [] ?_) | (with_reducible refine vhrun_nil ?_) | ((with_reducible refine vcondT ?_ ?_); (focus (go_simp; done))) | ((with_reducible refine vcondF ?_ ?_); (focus (go_simp; done))) | ((with_reducible refine vrun_cons fun KK hKK => ?_); go_simp; (first | (with_reducible refine ⟨_, v102 _ hs, ?_⟩) | skip); refine hKK _ ?_; clear hKK KK) | ((with_reducible refine vhrun_cons fun KK hKK => ?_); go_simp; (first | (with_reducible refine ⟨_, v102 _ hs, ?_⟩) | skip); refine hKK _ ?_; clear hKK KK))
        subst e
        go_simp
      · by_cases h2 : spanErr l[k].lo l[k].hi = 0
        · have e := HE.out
          rw [useE_rest (by rw [rat_get hlt]; exact h1) (by rw [rat_get hlt]; exact h2), rat_get hlt] at e
          have E := Lib.hid e
          clear e
          have hw := wrap_eq (x := (k : Int) + 1) (by omega) (by omega)
          repeat (first | (with_reducible refine vseq ?_) | (with_reducible refine vthenN ?_) | (with_reducible refine vthenE ?_) | (with_reducible refine vthenR ?_) | (with_reducible refine vret ?_) | (with_reducible refine vskip ?_) | (with_reducible refine vexit ?_) | (with_reducible refine vblock ?_) | (with_reducible refine vblockN ?_) | (with_reducible refine vblockR ?_) | (with_reducible refine vblockH ?_) | (with_reducible refine vrun_nil ?_) | (with_reducible refine vblockE rfl ?_) | (with_reducible refine vregion [] ?_) | (with_reducible refine vhrun_nil ?_) | ((with_reducible refine vcondT ?_ ?_); (focus (go_simp; done))) | ((with_reducible refine vcondF ?_ ?_); (focus (go_simp; done))) | ((with_reducible refine vrun_cons fun KK hKK => ?_); go_simp; (first | (with_reducible refine ⟨_, v102 _ hs, ?_⟩) | skip); refine hKK _ ?_; clear hKK KK) | ((with_reducible refine vhrun_cons fun KK hKK => ?_); go_simp; (first | (with_reducible refine ⟨_, v102 _ hs, ?_⟩) | skip); refine hKK _ ?_; clear hKK KK))
          refine vdraw 12 [] (by kernel_rfl) (by kernel_rfl) ?_
          simp only [List.take, List.drop]
          repeat (first | (with_reducible refine vseq ?_) | (with_reducible refine vthenN ?_) | (with_reducible refine vthenE ?_) | (with_reducible refine vthenR ?_) | (with_reducible refine vret ?_) | (with_reducible refine vskip ?_) | (with_reducible refine vexit ?_) | (with_reducible refine vblock ?_) | (with_reducible refine vblockN ?_) | (with_reducible refine vblockR ?_) | (with_reducible refine vblockH ?_) | (with_reducible refine vrun_nil ?_) | (with_reducible refine vblockE rfl ?_) | (with_reducible refine vregion [] ?_) | (with_reducible refine vhrun_nil ?_) | ((with_reducible refine vcondT ?_ ?_); (focus (go_simp; done))) | ((with_reducible refine vcondF ?_ ?_); (focus (go_simp; done))) | ((with_reducible refine vrun_cons fun KK hKK => ?_); go_simp; (first | (with_reducible refine ⟨_, v130 _ _, ?_⟩) | skip); refine hKK _ ?_; clear hKK KK) | ((with_reducible refine vhrun_cons fun KK hKK => ?_); go_simp; (first | (with_reducible refine ⟨_, v130 _ _, ?_⟩) | skip); refine hKK _ ?_; clear hKK KK))
          refine vloop (α := Nat) (fun j => ⟨[(5, I j), (3, I k), (0, recsA l)], []⟩) (fun j => j ≤ k ∧ anyP (fun j => twi l[k] (rat l j)) j (k - j) = anyP (fun j => twi l[k] (rat l j)) 0 k) (fun j => k - j) 0 ⟨Nat.zero_le _, rfl⟩ (by go_simp) ?_
          rintro j ⟨hj, ha⟩ K2 hR2
          have HA := Lib.hid ha
          clear ha
          by_cases hjk : j < k
          · have hjl : j < l.length := by omega
            have hw2 := wrap_eq (x := (j : Int) + 1) (by omega) (by omega)
            have ha := HA.out
            rw [anyP_at hjk, rat_get hjl] at ha
            have HB := Lib.hid ha
            clear ha
            by_cases c1 : l[j].driver = l[k].driver
            · cases c2 : ovU l[j] l[k]
              · have ht : twi l[k] l[j] = false := by simp [twi, c1, ovU_comm l[k] l[j], c2]
                have hb := HB.out
                rw [ht, Bool.false_or] at hb
                have HC := Lib.hid hb
                clear hb ht
                have H131 := Lib.hid (v131 l[j] l[k])
                rw [c2] at H131
                simp only [Rec.av, c1] at H131
                repeat (first | (with_reducible refine vseq ?_) | (with_reducible refine vthenN ?_) | (with_reducible refine vthenE ?_) | (with_reducible refine vthenR ?_) | (with_reducible refine vret ?_) | (with_reducible refine vskip ?_) | (with_reducible refine vexit ?_) | (with_reducible refine vblock ?_) | (with_reducible refine vblockN ?_) | (with_reducible refine vblockR ?_) | (with_reducible refine vblockH ?_) | (with_reducible refine vrun_nil ?_) | (with_reducible refine vblockE rfl ?_) | (with_reducible refine vregion [] ?_) | (with_reducible refine vhrun_nil ?_) | ((with_reducible refine vcondT ?_ ?_); (focus (go_simp; done))) | ((with_reducible refine vcondF ?_ ?_); (focus (go_simp; done))) | ((with_reducible refine vrun_cons fun KK hKK => ?_); go_simp; refine hKK _ ?_; clear hKK KK) | ((with_reducible refine vhrun_cons fun KK hKK => ?_); go_simp; refine hKK _ ?_; clear hKK KK))
                refine vdraw 22 [] (by kernel_rfl) (by kernel_rfl) ?_
                simp only [List.take, List.drop]
                repeat (first | (with_reducible refine vseq ?_) | (with_reducible refine vthenN ?_) | (with_reducible refine vthenE ?_) | (with_reducible refine vthenR ?_) | (with_reducible refine vret ?_) | (with_reducible refine vskip ?_) | (with_reducible refine vexit ?_) | (with_reducible refine vblock ?_) | (with_reducible refine vblockN ?_) | (with_reducible refine vblockR ?_) | (with_reducible refine vblockH ?_) | (with_reducible refine vrun_nil ?_) | (with_reducible refine vblockE rfl ?_) | (with_reducible refine vregion [] ?_) | (with_reducible refine vhrun_nil ?_) | ((with_reducible refine vcondT ?_ ?_); (focus (go_simp; done))) | ((with_reducible refine vcondF ?_ ?_); (focus (go_simp; done))) | ((with_reducible refine vrun_cons fun KK hKK => ?_); go_simp; (first | (refine ⟨_, H131.out, ?_⟩) | skip); refine hKK _ ?_; clear hKK KK) | ((with_reducible refine vhrun_cons fun KK hKK => ?_); go_simp; (first | (refine ⟨_, H131.out, ?_⟩) | skip); refine hKK _ ?_; clear hKK KK))
                refine hR2 _ (j + 1) ⟨hjk, HC.out⟩ (by omega) ?_
                go_simp
              · have ht : twi l[k] l[j] = true := by simp [twi, c1, ovU_comm l[k] l[j], c2]
                have hb := HB.out
                rw [ht, Bool.true_or] at hb
                have e := E.out
                rw [← hb, if_pos rfl, if_pos (by decide)] at e
                clear hb ht
                have H131 := Lib.hid (v131 l[j] l[k])
                rw [c2] at H131
                simp only [Rec.av, c1] at H131
                repeat (first | (with_reducible refine vseq ?_) | (with_reducible refine vthenN ?_) | (with_reducible refine vthenE ?_) | (with_reducible refine vthenR ?_) | (with_reducible refine vret ?_) | (with_reducible refine vskip ?_) | (with_reducible refine vexit ?_) | (with_reducible refine vblock ?_) | (with_reducible refine vblockN ?_) | (with_reducible refine vblockR ?_) | (with_reducible refine vblockH ?_) | (with_reducible refine vrun_nil ?_) | (with_reducible refine vblockE rfl ?_) | (with_reducible refine vregion [] ?_) | (with_reducible refine vhrun_nil ?_) | ((with_reducible refine vcondT ?_ ?_); (focus (go_simp; done))) | ((with_reducible refine vcondF ?_ ?_); (focus (go_simp; done))) | ((with_reducible refine vrun_cons fun KK hKK => ?_); go_simp; refine hKK _ ?_; clear hKK KK) | ((with_reducible refine vhrun_cons fun KK hKK => ?_); go_simp; refine hKK _ ?_; clear hKK KK))
                refine vdraw 22 [] (by kernel_rfl) (by kernel_rfl) ?_
                simp only [List.take, List.drop]
                repeat (first | (with_reducible refine vseq ?_) | (with_reducible refine vthenN ?_) | (with_reducible refine vthenE ?_) | (with_reducible refine vthenR ?_) | (with_reducible refine vret ?_) | (with_reducible refine vskip ?_) | (with_reducible refine vexit ?_) | (with_reducible refine vblock ?_) | (with_reducible refine vblockN ?_) | (with_reducible refine vblockR ?_) | (with_reducible refine vblockH ?_) | (with_reducible refine vrun_nil ?_) | (with_reducible refine vblockE rfl ?_) | (with_reducible refine vregion [] ?_) | (with_reducible refine vhrun_nil ?_) | ((with_reducible refine vcondT ?_ ?_); (focus (go_simp; done))) | ((with_reducible refine vcondF ?_ ?_); (focus (go_simp; done))) | ((with_reducible refine vrun_cons fun KK hKK => ?_); go_simp; (first | (refine ⟨_, H131.out, ?_⟩) | skip); refine hKK _ ?_; clear hKK KK) | ((with_reducible refine vhrun_cons fun KK hKK => ?_); go_simp; (first | (refine ⟨_, H131.out, ?_⟩) | skip); refine hKK _ ?_; clear hKK KK))
                subst e
                go_simp
            · have ht : twi l[k] l[j] = false := by simp [twi, c1]
              have hb := HB.out
              rw [ht, Bool.false_or] at hb
              have HC := Lib.hid hb
              clear hb ht
              repeat (first | (with_reducible refine vseq ?_) | (with_reducible refine vthenN ?_) | (with_reducible refine vthenE ?_) | (with_reducible refine vthenR ?_) | (with_reducible refine vret ?_) | (with_reducible refine vskip ?_) | (with_reducible refine vexit ?_) | (with_reducible refine vblock ?_) | (with_reducible refine vblockN ?_) | (with_reducible refine vblockR ?_) | (with_reducible refine vblockH ?_) | (with_reducible refine vrun_nil ?_) | (with_reducible refine vblockE rfl ?_) | (with_reducible refine vregion [] ?_) | (with_reducible refine vhrun_nil ?_) | ((with_reducible refine vcondT ?_ ?_); (focus (go_simp; done))) | ((with_reducible refine vcondF ?_ ?_); (focus (go_simp; done))) | ((with_reducible refine vrun_cons fun KK hKK => ?_); go_simp; refine hKK _ ?_; clear hKK KK) | ((with_reducible refine vhrun_cons fun KK hKK => ?_); go_simp; refine hKK _ ?_; clear hKK KK))
              refine vdraw 22 [] (by kernel_rfl) (by kernel_rfl) ?_
              simp only [List.take, List.drop]
              repeat (first | (with_reducible refine vseq ?_) | (with_reducible refine vthenN ?_) | (with_reducible refine vthenE ?_) | (with_reducible refine vthenR ?_) | (with_reducible refine vret ?_) | (with_reducible refine vskip ?_) | (with_reducible refine vexit ?_) | (with_reducible refine vblock ?_) | (with_reducible refine vblockN ?_) | (with_reducible refine vblockR ?_) | (with_reducible refine vblockH ?_) | (with_reducible refine vrun_nil ?_) | (with_reducible refine vblockE rfl ?_) | (with_reducible refine vregion [] ?_) | (with_reducible refine vhrun_nil ?_) | ((with_reducible refine vcondT ?_ ?_); (focus (go_simp; done))) | ((with_reducible refine vcondF ?_ ?_); (focus (go_simp; done))) | ((with_reducible refine vrun_cons fun KK hKK => ?_); go_simp; refine hKK _ ?_; clear hKK KK) | ((with_reducible refine vhrun_cons fun KK hKK => ?_); go_simp; refine hKK _ ?_; clear hKK KK))
              refine hR2 _ (j + 1) ⟨hjk, HC.out⟩ (by omega) ?_
              go_simp
          · have ha := HA.out
            rw [show k - j = 0 by omega, anyP] at ha
            have e := E.out
            rw [← ha, if_neg (by decide)] at e
            have E2 := Lib.hid e
            clear e ha
            repeat (first | (with_reducible refine vseq ?_) | (with_reducible refine vthenN ?_) | (with_reducible refine vthenE ?_) | (with_reducible refine vthenR ?_) | (with_reducible refine vret ?_) | (with_reducible refine vskip ?_) | (with_reducible refine vexit ?_) | (with_reducible refine vblock ?_) | (with_reducible refine vblockN ?_) | (with_reducible refine vblockR ?_) | (with_reducible refine vblockH ?_) | (with_reducible refine vrun_nil ?_) | (with_reducible refine vblockE rfl ?_) | (with_reducible refine vregion [] ?_) | (with_reducible refine vhrun_nil ?_) | ((with_reducible refine vcondT ?_ ?_); (focus (go_simp; done))) | ((with_reducible refine vcondF ?_ ?_); (focus (go_simp; done))) | ((with_reducible refine vrun_cons fun KK hKK => ?_); go_simp; refine hKK _ ?_; clear hKK KK) | ((with_reducible refine vhrun_cons fun KK hKK => ?_); go_simp; refine hKK _ ?_; clear hKK KK))
            refine hR _ (k + 1) ⟨hlt, E2.out⟩ (by omega) ?_
            go_simp
        · have e := HE.out
          rw [useE_span (by rw [rat_get hlt]; exact h1) (by rw [rat_get hlt]; exact h2), rat_get hlt, if_pos h2] at e
          repeat (first | (with_reducible refine vseq ?_) | (with_reducible refine vthenN ?_) | (with_reducible refine vthenE ?_) | (with_reducible refine vthenR ?_) | (with_reducible refine vret ?_) | (with_reducible refine vskip ?_) | (with_reducible refine vexit ?_) | (with_reducible refine vblock ?_) | (with_reducible refine vblockN ?_) | (with_reducible refine vblockR ?_) | (with_reducible refine vblockH ?_) | (with_reducible refine vrun_nil ?_) | (with_reducible refine vblockE rfl ?_) | (with_reducible refine vregion [] ?_) | (with_reducible refine vhrun_nil ?_) | ((with_reducible refine vcondT ?_ ?_); (focus (go_simp; done))) | ((with_reducible refine vcondF ?_ ?_); (focus (go_simp; done))) | ((with_reducible refine vrun_cons fun KK hKK => ?_); go_simp; (first | (with_reducible refine ⟨_, v102 _ hs, ?_⟩) | skip); refine hKK _ ?_; clear hKK KK) | ((with_reducible refine vhrun_cons fun KK hKK => ?_); go_simp; (first | (with_reducible refine ⟨_, v102 _ hs, ?_⟩) | skip); refine hKK _ ?_; clear hKK KK))
          refine vdraw 12 [] (by kernel_rfl) (by kernel_rfl) ?_
          simp only [List.take, List.drop]
          repeat (first | (with_reducible refine vseq ?_) | (with_reducible refine vthenN ?_) | (with_reducible refine vthenE ?_) | (with_reducible refine vthenR ?_) | (with_reducible refine vret ?_) | (with_reducible refine vskip ?_) | (with_reducible refine vexit ?_) | (with_reducible refine vblock ?_) | (with_reducible refine vblockN ?_) | (with_reducible refine vblockR ?_) | (with_reducible refine vblockH ?_) | (with_reducible refine vrun_nil ?_) | (with_reducible refine vblockE rfl ?_) | (with_reducible refine vregion [] ?_) | (with_reducible refine vhrun_nil ?_) | ((with_reducible refine vcondT ?_ ?_); (focus (go_simp; done))) | ((with_reducible refine vcondF ?_ ?_); (focus (go_simp; done))) | ((with_reducible refine vrun_cons fun KK hKK => ?_); go_simp; (first | (with_reducible refine ⟨_, v130 _ _, ?_⟩) | skip); refine hKK _ ?_; clear hKK KK) | ((with_reducible refine vhrun_cons fun KK hKK => ?_); go_simp; (first | (with_reducible refine ⟨_, v130 _ _, ?_⟩) | skip); refine hKK _ ?_; clear hKK KK))
          subst e
          go_simp
    · repeat (first | (with_reducible refine vseq ?_) | (with_reducible refine vthenN ?_) | (with_reducible refine vthenE ?_) | (with_reducible refine vthenR ?_) | (with_reducible refine vret ?_) | (with_reducible refine vskip ?_) | (with_reducible refine vexit ?_) | (with_reducible refine vblock ?_) | (with_reducible refine vblockN ?_) | (with_reducible refine vblockR ?_) | (with_reducible refine vblockH ?_) | (with_reducible refine vrun_nil ?_) | (with_reducible refine vblockE rfl ?_) | (with_reducible refine vregion [] ?_) | (with_reducible refine vhrun_nil ?_) | ((with_reducible refine vcondT ?_ ?_); (focus (go_simp; done))) | ((with_reducible refine vcondF ?_ ?_); (focus (go_simp; done))) | ((with_reducible refine vrun_cons fun KK hKK => ?_); go_simp; refine hKK _ ?_; clear hKK KK) | ((with_reducible refine vhrun_cons fun KK hKK => ?_); go_simp; refine hKK _ ?_; clear hKK KK))
      have e := HF.out
      rw [show l.length - k = 0 by omega, firstErr] at e
      subst e
      go_simp
end Go.Proofs.Ytmfmpagfjgpodaa
