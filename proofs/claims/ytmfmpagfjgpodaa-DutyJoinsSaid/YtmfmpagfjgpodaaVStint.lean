/- Walks on plain values: the law of stints; records with texts of at most 1000 bytes. -/
import Derived.Test.YtmfmpagfjgpodaaVKinds
import Derived.Test.YtmfmpagfjgpodaaVBrokP
namespace Go.Proofs.Ytmfmpagfjgpodaa
open Go.RowKit
set_option maxRecDepth 100000
theorem own_cap {B : Nat} {w : World} {e : TypeId} {sz n c m : Nat} {A : Option Addr} {xs : List Value} (h : w.ownsRow B e sz (.slice A m c) n xs) (hm : m = n) : n ≤ c := by
  subst hm
  rcases h.2 with ⟨hv, h0⟩ | ⟨g, cap, cur, hv, _, _, hnc, _⟩
  · omega
  · injection hv with _ _ hc
    omega
theorem pair_sl {w : World} {M : Nat → Prop} {B c : Nat} {A : Option Addr} {gs : List (Nat × Nat)} (h : w.ownsRow B 55 2 (.slice A gs.length c) gs.length (gs.flatMap pairNC)) (hM : ∀ b, M b → b < B) : V0 w M (.sl 2 (gs.map pairA)) (.slice A gs.length c) := by
  refine V0.sl_mk (F := pairA) (C := pairNC) pairN_inv pairNC_len pairNC_one (own_cap h rfl) (fun b o hA hne hm => ?_) (Sl.of_own pairNC_len h rfl) (by decide)
  subst hA
  rcases h.2 with ⟨hv, h0⟩ | ⟨g, cap, cur, hv, hB, _⟩
  · exact hne (List.eq_nil_of_length_eq_zero h0)
  · injection hv with h1 _ _
    injection h1 with h1
    injection h1 with h1 _ _
    have := hM b hm
    omega
theorem two_tup {w : World} {M : Nat → Prop} {a : AV} {v : Value} {n : Int} (h : V0 w M a v) : V0 w M (.tup [a, I n]) (.tuple #[v, .int .i64 n]) := by
  refine .tup _ [v, .int .i64 n] rfl fun i c u hc hu => ?_
  match i, hc, hu with
  | 0, hc, hu =>
    simp at hc hu
    subst hc
    subst hu
    exact h
  | 1, hc, hu =>
    simp at hc hu
    subst hc
    subst hu
    exact .lit _
  | i + 2, hc, hu => simp at hc
theorem v29 (l : List Rec) (r : Rul) (hl : l.length ≤ 1000) (hd : Small l) : VC Try.prog 29 [.agg r.av, recsA l] (.tup [.sl 2 ((if bothErr r l = 0 then groups l r.brk l.length else []).map pairA), I (bothErr r l)]) :=
  ⟨by kernel_rfl, fun w M vs hM hlen hv => by
    match vs, hlen with
    | [v1, v2], _ =>
    have h1 := hv 0 _ v1 rfl rfl
    have h2 := hv 1 _ v2 rfl rfl
    obtain ⟨A, cap, rfl, hcap, hS⟩ := recs_inv h2
    rw [rul_inv h1]
    refine (c29 l r A _ cap w rfl hl hd hS).mono fun e w' ⟨A2, c2, gs, he, hgs, own, hb⟩ => ⟨_, he, hb, ?_⟩
    rw [← hgs]
    exact two_tup (pair_sl own hM)⟩
theorem v30 (l : List Rec) (r : Rul) (hl : l.length ≤ 1000) (hd : Small l) : VC Try.prog 30 [.agg r.av, recsA l] (.tup [.sl 2 ((if bothErr r l = 0 then groups l r.rest l.length else []).map pairA), I (bothErr r l)]) :=
  ⟨by kernel_rfl, fun w M vs hM hlen hv => by
    match vs, hlen with
    | [v1, v2], _ =>
    have h1 := hv 0 _ v1 rfl rfl
    have h2 := hv 1 _ v2 rfl rfl
    obtain ⟨A, cap, rfl, hcap, hS⟩ := recs_inv h2
    rw [rul_inv h1]
    refine (c30 l r A _ cap w rfl hl hd hS).mono fun e w' ⟨A2, c2, gs, he, hgs, own, hb⟩ => ⟨_, he, hb, ?_⟩
    rw [← hgs]
    exact two_tup (pair_sl own hM)⟩
/-- Pairs are the same as themselves. -/
theorem v32 (G : List (Nat × Nat)) (hl : G.length ≤ 1000) : VC Try.prog 32 [.sl 2 (G.map pairA), .sl 2 (G.map pairA)] (B true) := by
  refine VC_of Try.func32 rfl (by kernel_rfl) (by kernel_rfl) rfl fun M0 w0 => ?_
  simp only [Try.ntmps32, Try.results32, enumA]
  repeat (first | (with_reducible refine vseq ?_) | (with_reducible refine vthenN ?_) | (with_reducible refine vthenE ?_) | (with_reducible refine vthenR ?_) | (with_reducible refine vret ?_) | (with_reducible refine vskip ?_) | (with_reducible refine vexit ?_) | (with_reducible refine vblock ?_) | (with_reducible refine vblockN ?_) | (with_reducible refine vblockR ?_) | (with_reducible refine vblockH ?_) | (with_reducible refine vrun_nil ?_) | (with_reducible refine vblockE rfl ?_) | (with_reducible refine vregion [] ?_) | (with_reducible refine vhrun_nil ?_) | ((with_reducible refine vcondT ?_ ?_); (focus (go_simp; done))) | ((with_reducible refine vcondF ?_ ?_); (focus (go_simp; done))) | ((with_reducible refine vrun_cons fun KK hKK => ?_); go_simp; refine hKK _ ?_; clear hKK KK) | ((with_reducible refine vhrun_cons fun KK hKK => ?_); go_simp; refine hKK _ ?_; clear hKK KK))
  refine vloop (α := Nat) (fun k => ⟨[(5, I k), (0, .sl 2 (G.map pairA)), (1, .sl 2 (G.map pairA))], []⟩) (fun k => k ≤ G.length) (fun k => G.length - k) 0 (Nat.zero_le _) (by go_simp) ?_
  rintro k hk K hR
  by_cases hlt : k < G.length
  · have hw := wrap_eq (x := (k : Int) + 1) (by omega) (by omega)
    repeat (first | (with_reducible refine vseq ?_) | (with_reducible refine vthenN ?_) | (with_reducible refine vthenE ?_) | (with_reducible refine vthenR ?_) | (with_reducible refine vret ?_) | (with_reducible refine vskip ?_) | (with_reducible refine vexit ?_) | (with_reducible refine vblock ?_) | (with_reducible refine vblockN ?_) | (with_reducible refine vblockR ?_) | (with_reducible refine vblockH ?_) | (with_reducible refine vrun_nil ?_) | (with_reducible refine vblockE rfl ?_) | (with_reducible refine vregion [] ?_) | (with_reducible refine vhrun_nil ?_) | ((with_reducible refine vcondT ?_ ?_); (focus (go_simp; done))) | ((with_reducible refine vcondF ?_ ?_); (focus (go_simp; done))) | ((with_reducible refine vrun_cons fun KK hKK => ?_); go_simp; refine hKK _ ?_; clear hKK KK) | ((with_reducible refine vhrun_cons fun KK hKK => ?_); go_simp; refine hKK _ ?_; clear hKK KK))
    refine vdraw 9 [] (by kernel_rfl) (by kernel_rfl) ?_
    simp only [List.take, List.drop]
    repeat (first | (with_reducible refine vseq ?_) | (with_reducible refine vthenN ?_) | (with_reducible refine vthenE ?_) | (with_reducible refine vthenR ?_) | (with_reducible refine vret ?_) | (with_reducible refine vskip ?_) | (with_reducible refine vexit ?_) | (with_reducible refine vblock ?_) | (with_reducible refine vblockN ?_) | (with_reducible refine vblockR ?_) | (with_reducible refine vblockH ?_) | (with_reducible refine vrun_nil ?_) | (with_reducible refine vblockE rfl ?_) | (with_reducible refine vregion [] ?_) | (with_reducible refine vhrun_nil ?_) | ((with_reducible refine vcondT ?_ ?_); (focus (go_simp; done))) | ((with_reducible refine vcondF ?_ ?_); (focus (go_simp; done))) | ((with_reducible refine vrun_cons fun KK hKK => ?_); go_simp; refine hKK _ ?_; clear hKK KK) | ((with_reducible refine vhrun_cons fun KK hKK => ?_); go_simp; refine hKK _ ?_; clear hKK KK))
    refine hR _ (k + 1) hlt (by omega) ?_
    go_simp
  · repeat (first | (with_reducible refine vseq ?_) | (with_reducible refine vthenN ?_) | (with_reducible refine vthenE ?_) | (with_reducible refine vthenR ?_) | (with_reducible refine vret ?_) | (with_reducible refine vskip ?_) | (with_reducible refine vexit ?_) | (with_reducible refine vblock ?_) | (with_reducible refine vblockN ?_) | (with_reducible refine vblockR ?_) | (with_reducible refine vblockH ?_) | (with_reducible refine vrun_nil ?_) | (with_reducible refine vblockE rfl ?_) | (with_reducible refine vregion [] ?_) | (with_reducible refine vhrun_nil ?_) | ((with_reducible refine vcondT ?_ ?_); (focus (go_simp; done))) | ((with_reducible refine vcondF ?_ ?_); (focus (go_simp; done))) | ((with_reducible refine vrun_cons fun KK hKK => ?_); go_simp; refine hKK _ ?_; clear hKK KK) | ((with_reducible refine vhrun_cons fun KK hKK => ?_); go_simp; refine hKK _ ?_; clear hKK KK))
    go_simp
theorem pairs_one (G : List (Nat × Nat)) : ∀ (k : Nat) (x : List AV), (G.map pairA)[k]? = some x → x.length = 2 ∧ ∀ c ∈ x, oneAV c = true := by
  intro k x hk
  obtain ⟨r, _, rfl⟩ := map_at hk
  refine ⟨rfl, fun c hc => ?_⟩
  simp only [pairA, List.mem_cons, List.not_mem_nil, or_false] at hc
  rcases hc with rfl | rfl <;> rfl
theorem groups_short {l : List Rec} {gap : Int} {m : Nat} {G' : List (Nat × Nat)} {p : Nat × Nat} (hG : groups l gap (m + 1) = G' ++ [p]) (h : (rat l (m + 1)).lo - (rat l m).hi < gap) : groups l gap (m + 1 + 1) = G' ++ [(p.1, m + 1)] := by
  have : gstart l gap (m + 1) = false := by
    unfold gstart
    simp only [Nat.add_sub_cancel]
    simp
    omega
  rw [groups, this, hG]
  simp
theorem groups_long {l : List Rec} {gap : Int} {m : Nat} (h : ¬ (rat l (m + 1)).lo - (rat l m).hi < gap) : groups l gap (m + 1 + 1) = groups l gap (m + 1) ++ [(m + 1, m + 1)] := by
  have : gstart l gap (m + 1) = true := by
    unfold gstart
    simp only [Nat.add_sub_cancel]
    simp
    omega
  rw [groups, this, if_pos rfl]
theorem o33 (l : List Rec) (gap : Int) (hl : l.length ≤ 1000) (hT : Timed l) : VCo Try.prog 33 [recsA l, I gap] 55 2 (decide (l.length = 0)) ((groups l gap l.length).map pairA) := by
  have HT := Lib.hid hT
  clear hT
  refine VCo_of Try.func33 rfl (by kernel_rfl) (by kernel_rfl) rfl Try.results33 (by decide) (pairs_one _) fun M0 w0 => ?_
  simp only [Try.ntmps33, enumA]
  repeat (first | (with_reducible refine vseq ?_) | (with_reducible refine vthenN ?_) | (with_reducible refine vthenE ?_) | (with_reducible refine vthenR ?_) | (with_reducible refine vret ?_) | (with_reducible refine vskip ?_) | (with_reducible refine vexit ?_) | (with_reducible refine vblock ?_) | (with_reducible refine vblockN ?_) | (with_reducible refine vblockR ?_) | (with_reducible refine vblockH ?_) | (with_reducible refine vrun_nil ?_) | (with_reducible refine vblockE rfl ?_) | (with_reducible refine vregion [5] ?_) | (with_reducible refine vhrun_nil ?_) | ((with_reducible refine vcondT ?_ ?_); (focus (go_simp; done))) | ((with_reducible refine vcondF ?_ ?_); (focus (go_simp; done))) | ((with_reducible refine vrun_cons fun KK hKK => ?_); go_simp; refine hKK _ ?_; clear hKK KK) | ((with_reducible refine vhrun_cons fun KK hKK => ?_); go_simp; refine hKK _ ?_; clear hKK KK))
  refine vloop (α := Nat) (fun k => ⟨[(6, I k), (0, recsA l), (1, I gap), (5, .osl 0)], [some (.arr 55 2 (decide (k = 0)) ((groups l gap k).map pairA))]⟩) (fun k => k ≤ l.length) (fun k => l.length - k) 0 (Nat.zero_le _) (by simp only [groups]; go_simp) ?_
  rintro k hk K hR
  by_cases hlt : k < l.length
  · have hw := wrap_eq (x := (k : Int) + 1) (by omega) (by omega)
    cases k with
    | zero =>
      have hg : groups l gap 1 = [(0, 0)] := by simp [groups, gstart]
      have hg0 : groups l gap 0 = [] := rfl
      have hw1 : IntKind.i64.wrap 1 = 1 := rfl
      clear hw
      repeat (first | (with_reducible refine vseq ?_) | (with_reducible refine vthenN ?_) | (with_reducible refine vthenE ?_) | (with_reducible refine vthenR ?_) | (with_reducible refine vret ?_) | (with_reducible refine vskip ?_) | (with_reducible refine vexit ?_) | (with_reducible refine vblock ?_) | (with_reducible refine vblockN ?_) | (with_reducible refine vblockR ?_) | (with_reducible refine vblockH ?_) | (with_reducible refine vrun_nil ?_) | (with_reducible refine vblockE rfl ?_) | (with_reducible refine vregion [] ?_) | (with_reducible refine vhrun_nil ?_) | ((with_reducible refine vcondT ?_ ?_); (focus (go_simp; done))) | ((with_reducible refine vcondF ?_ ?_); (focus (go_simp; done))) | ((with_reducible refine vrun_cons fun KK hKK => ?_); go_simp; refine hKK _ ?_; clear hKK KK) | ((with_reducible refine vhrun_cons fun KK hKK => ?_); go_simp; refine hKK _ ?_; clear hKK KK))
      refine vdraw 18 [] (by kernel_rfl) (by kernel_rfl) ?_
      simp only [List.take, List.drop]
      repeat (first | (with_reducible refine vseq ?_) | (with_reducible refine vthenN ?_) | (with_reducible refine vthenE ?_) | (with_reducible refine vthenR ?_) | (with_reducible refine vret ?_) | (with_reducible refine vskip ?_) | (with_reducible refine vexit ?_) | (with_reducible refine vblock ?_) | (with_reducible refine vblockN ?_) | (with_reducible refine vblockR ?_) | (with_reducible refine vblockH ?_) | (with_reducible refine vrun_nil ?_) | (with_reducible refine vblockE rfl ?_) | (with_reducible refine vregion [] ?_) | (with_reducible refine vhrun_nil ?_) | ((with_reducible refine vcondT ?_ ?_); (focus (go_simp; done))) | ((with_reducible refine vcondF ?_ ?_); (focus (go_simp; done))) | ((with_reducible refine vrun_cons fun KK hKK => ?_); go_simp; refine hKK _ ?_; clear hKK KK) | ((with_reducible refine vhrun_cons fun KK hKK => ?_); go_simp; refine hKK _ ?_; clear hKK KK))
      refine hR _ 1 hlt (by omega) ?_
      go_simp
    | succ m =>
      have hm : m < l.length := by omega
      have hlt' : (m : Int) + 1 < l.length := by omega
      have hpos : (0 : Int) < m + 1 := by omega
      have hpos2 : (0 : Int) ≤ m + 1 := by omega
      have htn : ((m : Int) + 1).toNat = m + 1 := by omega
      have hw5 := wrap_eq (x := (m : Int) + 1 + 1) (by omega) (by omega)
      clear hw
      have t1 := HT.out.at_ hlt
      have t2 := HT.out.at_ hm
      have hw2 := wrap_eq (x := l[m + 1].lo - l[m].hi) (by omega) (by omega)
      have hw3 := wrap_eq (x := (m : Int)) (by omega) (by omega)
      have hgl := groups_len l gap (m + 1)
      obtain ⟨G', p, hG⟩ : ∃ G' p, groups l gap (m + 1) = G' ++ [p] := ⟨(groups l gap (m + 1)).dropLast, _, (List.dropLast_concat_getLast (groups_ne l gap (by omega))).symm⟩
      have hGl : G'.length ≤ m := by
        rw [hG] at hgl
        simp at hgl
        omega
      have hw4 := wrap_eq (x := (G'.length : Int)) (by omega) (by omega)
      have hb1 : G'.length + 1 + 1 ≤ 1000000000 := by omega
      clear hgl t1 t2
      by_cases hg : l[m + 1].lo - l[m].hi < gap
      · have hn := groups_short hG (by rw [rat_get hlt, rat_get hm]; exact hg)
        have HN := Lib.hid hn
        clear hn
        repeat (first | (with_reducible refine vseq ?_) | (with_reducible refine vthenN ?_) | (with_reducible refine vthenE ?_) | (with_reducible refine vthenR ?_) | (with_reducible refine vret ?_) | (with_reducible refine vskip ?_) | (with_reducible refine vexit ?_) | (with_reducible refine vblock ?_) | (with_reducible refine vblockN ?_) | (with_reducible refine vblockR ?_) | (with_reducible refine vblockH ?_) | (with_reducible refine vrun_nil ?_) | (with_reducible refine vblockE rfl ?_) | (with_reducible refine vregion [] ?_) | (with_reducible refine vhrun_nil ?_) | ((with_reducible refine vcondT ?_ ?_); (focus (go_simp; done))) | ((with_reducible refine vcondF ?_ ?_); (focus (go_simp; done))) | ((with_reducible refine vrun_cons fun KK hKK => ?_); go_simp; refine hKK _ ?_; clear hKK KK) | ((with_reducible refine vhrun_cons fun KK hKK => ?_); go_simp; refine hKK _ ?_; clear hKK KK))
        refine vdraw 18 [] (by kernel_rfl) (by kernel_rfl) ?_
        simp only [List.take, List.drop]
        repeat (first | (with_reducible refine vseq ?_) | (with_reducible refine vthenN ?_) | (with_reducible refine vthenE ?_) | (with_reducible refine vthenR ?_) | (with_reducible refine vret ?_) | (with_reducible refine vskip ?_) | (with_reducible refine vexit ?_) | (with_reducible refine vblock ?_) | (with_reducible refine vblockN ?_) | (with_reducible refine vblockR ?_) | (with_reducible refine vblockH ?_) | (with_reducible refine vrun_nil ?_) | (with_reducible refine vblockE rfl ?_) | (with_reducible refine vregion [] ?_) | (with_reducible refine vhrun_nil ?_) | ((with_reducible refine vcondT ?_ ?_); (focus (go_simp; done))) | ((with_reducible refine vcondF ?_ ?_); (focus (go_simp; done))) | ((with_reducible refine vrun_cons fun KK hKK => ?_); go_simp; refine hKK _ ?_; clear hKK KK) | ((with_reducible refine vhrun_cons fun KK hKK => ?_); go_simp; refine hKK _ ?_; clear hKK KK))
        refine hR _ (m + 1 + 1) hlt (by omega) ?_
        have hn := HN.out
        go_simp
      · have hn := groups_long (l := l) (gap := gap) (m := m) (by rw [rat_get hlt, rat_get hm]; exact hg)
        have HN := Lib.hid hn
        clear hn
        repeat (first | (with_reducible refine vseq ?_) | (with_reducible refine vthenN ?_) | (with_reducible refine vthenE ?_) | (with_reducible refine vthenR ?_) | (with_reducible refine vret ?_) | (with_reducible refine vskip ?_) | (with_reducible refine vexit ?_) | (with_reducible refine vblock ?_) | (with_reducible refine vblockN ?_) | (with_reducible refine vblockR ?_) | (with_reducible refine vblockH ?_) | (with_reducible refine vrun_nil ?_) | (with_reducible refine vblockE rfl ?_) | (with_reducible refine vregion [] ?_) | (with_reducible refine vhrun_nil ?_) | ((with_reducible refine vcondT ?_ ?_); (focus (go_simp; done))) | ((with_reducible refine vcondF ?_ ?_); (focus (go_simp; done))) | ((with_reducible refine vrun_cons fun KK hKK => ?_); go_simp; refine hKK _ ?_; clear hKK KK) | ((with_reducible refine vhrun_cons fun KK hKK => ?_); go_simp; refine hKK _ ?_; clear hKK KK))
        refine vdraw 18 [] (by kernel_rfl) (by kernel_rfl) ?_
        simp only [List.take, List.drop]
        repeat (first | (with_reducible refine vseq ?_) | (with_reducible refine vthenN ?_) | (with_reducible refine vthenE ?_) | (with_reducible refine vthenR ?_) | (with_reducible refine vret ?_) | (with_reducible refine vskip ?_) | (with_reducible refine vexit ?_) | (with_reducible refine vblock ?_) | (with_reducible refine vblockN ?_) | (with_reducible refine vblockR ?_) | (with_reducible refine vblockH ?_) | (with_reducible refine vrun_nil ?_) | (with_reducible refine vblockE rfl ?_) | (with_reducible refine vregion [] ?_) | (with_reducible refine vhrun_nil ?_) | ((with_reducible refine vcondT ?_ ?_); (focus (go_simp; done))) | ((with_reducible refine vcondF ?_ ?_); (focus (go_simp; done))) | ((with_reducible refine vrun_cons fun KK hKK => ?_); go_simp; refine hKK _ ?_; clear hKK KK) | ((with_reducible refine vhrun_cons fun KK hKK => ?_); go_simp; refine hKK _ ?_; clear hKK KK))
        refine hR _ (m + 1 + 1) hlt (by omega) ?_
        have hn := HN.out
        go_simp
  · have e : k = l.length := by omega
    subst e
    repeat (first | (with_reducible refine vseq ?_) | (with_reducible refine vthenN ?_) | (with_reducible refine vthenE ?_) | (with_reducible refine vthenR ?_) | (with_reducible refine vret ?_) | (with_reducible refine vskip ?_) | (with_reducible refine vexit ?_) | (with_reducible refine vblock ?_) | (with_reducible refine vblockN ?_) | (with_reducible refine vblockR ?_) | (with_reducible refine vblockH ?_) | (with_reducible refine vrun_nil ?_) | (with_reducible refine vblockE rfl ?_) | (with_reducible refine vregion [] ?_) | (with_reducible refine vhrun_nil ?_) | ((with_reducible refine vcondT ?_ ?_); (focus (go_simp; done))) | ((with_reducible refine vcondF ?_ ?_); (focus (go_simp; done))) | ((with_reducible refine vrun_cons fun KK hKK => ?_); go_simp; refine hKK _ ?_; clear hKK KK) | ((with_reducible refine vhrun_cons fun KK hKK => ?_); go_simp; refine hKK _ ?_; clear hKK KK))
    go_simp
    exact ⟨0, rfl, rfl⟩
/-- The pairs cover s to e - 1, one behind the other. -/
def Chain : List (Nat × Nat) → Nat → Nat → Prop
  | [], s, e => s = e
  | p :: g, s, e => p.1 = s ∧ p.1 ≤ p.2 ∧ Chain g (p.2 + 1) e
theorem Chain.snoc : ∀ {g : List (Nat × Nat)} {s k : Nat}, Chain g s k → Chain (g ++ [(k, k)]) s (k + 1)
  | [], _, _, h => ⟨h.symm, Nat.le_refl _, rfl⟩
  | _ :: _, _, _, h => ⟨h.1, h.2.1, Chain.snoc h.2.2⟩
theorem Chain.le : ∀ {g : List (Nat × Nat)} {s k : Nat}, Chain g s k → s ≤ k
  | [], _, _, h => Nat.le_of_eq h
  | p :: g, s, k, h => by
    have := Chain.le h.2.2
    have := h.1
    have := h.2.1
    omega
theorem Chain.grow : ∀ {g : List (Nat × Nat)} {p : Nat × Nat} {s k : Nat}, Chain (g ++ [p]) s k → Chain (g ++ [(p.1, k)]) s (k + 1)
  | [], p, s, k, h => by
    obtain ⟨h1, h2, h3⟩ := h
    have h3' : p.2 + 1 = k := h3
    exact ⟨h1, by simp only; omega, rfl⟩
  | _ :: g, _, _, _, h => ⟨h.1, h.2.1, Chain.grow (g := g) h.2.2⟩
theorem groups_chain (l : List Rec) (gap : Int) : ∀ k, Chain (groups l gap k) 0 k
  | 0 => rfl
  | k + 1 => by
    have ih := groups_chain l gap k
    rw [groups]
    by_cases hg : gstart l gap k = true
    · rw [if_pos hg]
      exact ih.snoc
    · rw [if_neg hg]
      have hk : 0 < k := by
        rcases Nat.eq_zero_or_pos k with h0 | h0
        · subst h0
          simp [gstart] at hg
        · exact h0
      obtain ⟨G', p, hG⟩ : ∃ G' p, groups l gap k = G' ++ [p] := ⟨(groups l gap k).dropLast, _, (List.dropLast_concat_getLast (groups_ne l gap hk)).symm⟩
      rw [hG] at ih ⊢
      simpa using ih.grow
theorem Chain.at_ {g : List (Nat × Nat)} {s e i : Nat} (hi : i < g.length) (h : Chain (g.drop i) s e) : g[i].1 = s ∧ s ≤ g[i].2 ∧ g[i].2 < e ∧ Chain (g.drop (i + 1)) (g[i].2 + 1) e := by
  rw [List.drop_eq_getElem_cons hi] at h
  obtain ⟨h1, h2, h3⟩ := h
  have := h3.le
  exact ⟨h1, by omega, by omega, h3⟩
theorem work_all {one : Bool} {l : List Rec} (h : Right one l) : workIn l 0 8640000000 = segSum l 0 l.length := by
  unfold workIn segSum
  rw [List.take_length, List.drop_zero]
  refine sum_map_congr fun x hx => ?_
  obtain ⟨j, hj, rfl⟩ := List.getElem_of_mem hx
  have h3 := h.time (k := j) hj
  unfold wk
  simp only [Int.max_def, Int.min_def]
  repeat' split
  all_goals omega
theorem work_out {l : List Rec} (h : Right true l) : workOut l 0 8640000000 = (segSum l 0 l.length, 0) := by
  have hw : workErr l 0 8640000000 = 0 := by
    rw [workErr_is, if_neg (by have h' : (checkRecs true l).2 = 0 := h; simp [h']), if_neg (by simp [isTime, inR]), if_neg (by omega)]
  unfold workOut
  rw [hw, work_all h]
  rfl
theorem v6 (l : List Rec) (r : Rul) (hl : l.length ≤ 9223372036854775807) (hd : ∀ x ∈ l, x.driver.size ≤ 9223372036854775807) : VC Try.prog 6 [.agg r.av, recsA l] (B true) := by
  refine VC_of Try.func6 rfl (by kernel_rfl) (by kernel_rfl) rfl fun M0 w0 => ?_
  simp only [Try.ntmps6, Try.results6, enumA]
  cases hfew : fewP l
  · repeat (first | (with_reducible refine vseq ?_) | (with_reducible refine vthenN ?_) | (with_reducible refine vthenE ?_) | (with_reducible refine vthenR ?_) | (with_reducible refine vret ?_) | (with_reducible refine vskip ?_) | (with_reducible refine vexit ?_) | (with_reducible refine vblock ?_) | (with_reducible refine vblockN ?_) | (with_reducible refine vblockR ?_) | (with_reducible refine vblockH ?_) | (with_reducible refine vrun_nil ?_) | (with_reducible refine vblockE rfl ?_) | (with_reducible refine vregion [] ?_) | (with_reducible refine vhrun_nil ?_) | ((with_reducible refine vcondT ?_ ?_); (focus (go_simp; done))) | ((with_reducible refine vcondF ?_ ?_); (focus (go_simp; done))) | ((with_reducible refine vrun_cons fun KK hKK => ?_); go_simp; (first | (with_reducible refine ⟨_, v17, ?_⟩) | (with_reducible refine ⟨_, v18 l hl hd, ?_⟩) | skip); refine hKK _ ?_; clear hKK KK) | ((with_reducible refine vhrun_cons fun KK hKK => ?_); go_simp; (first | (with_reducible refine ⟨_, v17, ?_⟩) | (with_reducible refine ⟨_, v18 l hl hd, ?_⟩) | skip); refine hKK _ ?_; clear hKK KK))
    go_simp
  · obtain ⟨hsm, hl3, _⟩ := fewP_small hfew
    have HS := Lib.hid hsm
    clear hsm
    have h29 := v29 l r (by omega) HS.out
    have h30 := v30 l r (by omega) HS.out
    have h20 := Lib.hid (VC_of_own (o20 l (by omega)))
    by_cases hE : bothErr r l = 0
    · have hR := (bothErr_zero hE).2
      have HR := Lib.hid hR
      have h19 := v19 l 0 8640000000 (by omega) HS.out
      rw [work_out hR] at h19
      rw [if_pos hE] at h29 h30
      simp only [hE] at h29 h30
      have H33a := Lib.hid (VC_of_own (o33 l r.brk (by omega) hR.timed))
      have H33b := Lib.hid (VC_of_own (o33 l r.rest (by omega) hR.timed))
      have H32a := Lib.hid (v32 (groups l r.brk l.length) (by have := groups_len l r.brk l.length; omega))
      have H32b := Lib.hid (v32 (groups l r.rest l.length) (by have := groups_len l r.rest l.length; omega))
      have HT := Lib.hid hR.timed
      have HC := Lib.hid (groups_chain l r.brk l.length)
      have hgl := groups_len l r.brk l.length
      clear hR
      have H29 := Lib.hid h29
      have H30 := Lib.hid h30
      have H19 := Lib.hid h19
      clear h29 h30 h19
      generalize groups l r.brk l.length = G at *
      generalize groups l r.rest l.length = G2 at *
      repeat (first | (with_reducible refine vseq ?_) | (with_reducible refine vthenN ?_) | (with_reducible refine vthenE ?_) | (with_reducible refine vthenR ?_) | (with_reducible refine vret ?_) | (with_reducible refine vskip ?_) | (with_reducible refine vexit ?_) | (with_reducible refine vblock ?_) | (with_reducible refine vblockN ?_) | (with_reducible refine vblockR ?_) | (with_reducible refine vblockH ?_) | (with_reducible refine vrun_nil ?_) | (with_reducible refine vblockE rfl ?_) | (with_reducible refine vregion [] ?_) | (with_reducible refine vhrun_nil ?_) | ((with_reducible refine vcondT ?_ ?_); (focus (go_simp; done))) | ((with_reducible refine vcondF ?_ ?_); (focus (go_simp; done))) | ((with_reducible refine vrun_cons fun KK hKK => ?_); go_simp; (first | (with_reducible refine ⟨_, v17, ?_⟩) | (with_reducible refine ⟨_, v18 l hl hd, ?_⟩) | skip); refine hKK _ ?_; clear hKK KK) | ((with_reducible refine vhrun_cons fun KK hKK => ?_); go_simp; (first | (with_reducible refine ⟨_, v17, ?_⟩) | (with_reducible refine ⟨_, v18 l hl hd, ?_⟩) | skip); refine hKK _ ?_; clear hKK KK))
      refine vdraw 9 [] (by kernel_rfl) (by kernel_rfl) ?_
      simp only [List.take, List.drop]
      repeat (first | (with_reducible refine vseq ?_) | (with_reducible refine vthenN ?_) | (with_reducible refine vthenE ?_) | (with_reducible refine vthenR ?_) | (with_reducible refine vret ?_) | (with_reducible refine vskip ?_) | (with_reducible refine vexit ?_) | (with_reducible refine vblock ?_) | (with_reducible refine vblockN ?_) | (with_reducible refine vblockR ?_) | (with_reducible refine vblockH ?_) | (with_reducible refine vrun_nil ?_) | (with_reducible refine vblockE rfl ?_) | (with_reducible refine vregion [] ?_) | (with_reducible refine vhrun_nil ?_) | ((with_reducible refine vcondT ?_ ?_); (focus (go_simp; done))) | ((with_reducible refine vcondF ?_ ?_); (focus (go_simp; done))) | ((with_reducible refine vrun_cons fun KK hKK => ?_); go_simp; (first | (refine ⟨_, h20.out, ?_⟩) | (refine ⟨_, H29.out, ?_⟩) | skip); refine hKK _ ?_; clear hKK KK) | ((with_reducible refine vhrun_cons fun KK hKK => ?_); go_simp; (first | (refine ⟨_, h20.out, ?_⟩) | (refine ⟨_, H29.out, ?_⟩) | skip); refine hKK _ ?_; clear hKK KK))
      refine vdraw 9 [] (by kernel_rfl) (by kernel_rfl) ?_
      simp only [List.take, List.drop]
      repeat (first | (with_reducible refine vseq ?_) | (with_reducible refine vthenN ?_) | (with_reducible refine vthenE ?_) | (with_reducible refine vthenR ?_) | (with_reducible refine vret ?_) | (with_reducible refine vskip ?_) | (with_reducible refine vexit ?_) | (with_reducible refine vblock ?_) | (with_reducible refine vblockN ?_) | (with_reducible refine vblockR ?_) | (with_reducible refine vblockH ?_) | (with_reducible refine vrun_nil ?_) | (with_reducible refine vblockE rfl ?_) | (with_reducible refine vregion [] ?_) | (with_reducible refine vhrun_nil ?_) | ((with_reducible refine vcondT ?_ ?_); (focus (go_simp; done))) | ((with_reducible refine vcondF ?_ ?_); (focus (go_simp; done))) | ((with_reducible refine vrun_cons fun KK hKK => ?_); go_simp; (first | (refine ⟨_, h20.out, ?_⟩) | (refine ⟨_, H30.out, ?_⟩) | (refine ⟨_, v31 l r (by omega) HS.out, ?_⟩) | (refine ⟨_, H33a.out, ?_⟩) | (refine ⟨_, H33b.out, ?_⟩) | (refine ⟨_, H32a.out, ?_⟩) | (refine ⟨_, H32b.out, ?_⟩) | (refine ⟨_, H19.out, ?_⟩) | skip); refine hKK _ ?_; clear hKK KK) | ((with_reducible refine vhrun_cons fun KK hKK => ?_); go_simp; (first | (refine ⟨_, h20.out, ?_⟩) | (refine ⟨_, H30.out, ?_⟩) | (refine ⟨_, v31 l r (by omega) HS.out, ?_⟩) | (refine ⟨_, H33a.out, ?_⟩) | (refine ⟨_, H33b.out, ?_⟩) | (refine ⟨_, H32a.out, ?_⟩) | (refine ⟨_, H32b.out, ?_⟩) | (refine ⟨_, H19.out, ?_⟩) | skip); refine hKK _ ?_; clear hKK KK))
      refine vloop (α := Nat × Nat) (fun q => ⟨[(13, I q.1), (12, I (segSum l 0 q.2)), (5, .sl 2 (G.map pairA)), (1, recsA l), (10, I (segSum l 0 l.length)), (11, I 0)], []⟩) (fun q => q.1 ≤ G.length ∧ Chain (G.drop q.1) q.2 l.length) (fun q => G.length - q.1) (0, 0) ⟨Nat.zero_le _, HC.out⟩ (by simp only [segSum_self]; go_simp) ?_
      rintro ⟨i, s⟩ ⟨hi, hc⟩ K hR
      simp only at hi hc hR ⊢
      by_cases hlt : i < G.length
      · obtain ⟨c1, c2, c3, c4⟩ := hc.at_ hlt
        have C4 := Lib.hid c4
        clear c4 hc
        have hw := wrap_eq (x := (i : Int) + 1) (by omega) (by omega)
        repeat (first | (with_reducible refine vseq ?_) | (with_reducible refine vthenN ?_) | (with_reducible refine vthenE ?_) | (with_reducible refine vthenR ?_) | (with_reducible refine vret ?_) | (with_reducible refine vskip ?_) | (with_reducible refine vexit ?_) | (with_reducible refine vblock ?_) | (with_reducible refine vblockN ?_) | (with_reducible refine vblockR ?_) | (with_reducible refine vblockH ?_) | (with_reducible refine vrun_nil ?_) | (with_reducible refine vblockE rfl ?_) | (with_reducible refine vregion [] ?_) | (with_reducible refine vhrun_nil ?_) | ((with_reducible refine vcondT ?_ ?_); (focus (go_simp; done))) | ((with_reducible refine vcondF ?_ ?_); (focus (go_simp; done))) | ((with_reducible refine vrun_cons fun KK hKK => ?_); go_simp; refine hKK _ ?_; clear hKK KK) | ((with_reducible refine vhrun_cons fun KK hKK => ?_); go_simp; refine hKK _ ?_; clear hKK KK))
        refine vloop (α := Nat) (fun k => ⟨[(14, I k), (13, I i), (12, I (segSum l 0 k)), (5, .sl 2 (G.map pairA)), (1, recsA l), (10, I (segSum l 0 l.length)), (11, I 0)], []⟩) (fun k => s ≤ k ∧ k ≤ G[i].2 + 1) (fun k => G[i].2 + 1 - k) s ⟨Nat.le_refl _, by omega⟩ (by go_simp) ?_
        rintro k ⟨hk1, hk2⟩ K2 hR2
        by_cases hle : k ≤ G[i].2
        · have hle' : (k : Int) ≤ G[i].2 := by omega
          have hkl : k < l.length := by omega
          have hw2 := wrap_eq (x := (k : Int) + 1) (by omega) (by omega)
          have b1 := segSum_bound HT.out 0 k (by omega)
          have b2 := HT.out.at_ hkl
          have hw3 := wrap_eq (x := segSum l 0 k + l[k].hi) (by omega) (by omega)
          have hw4 := wrap_eq (x := segSum l 0 k + l[k].hi - l[k].lo) (by omega) (by omega)
          have hsuc := Lib.hid (show segSum l 0 (k + 1) = segSum l 0 k + l[k].hi - l[k].lo by rw [segSum_succ l (Nat.zero_le _) hkl]; omega)
          clear b1 b2
          repeat (first | (with_reducible refine vseq ?_) | (with_reducible refine vthenN ?_) | (with_reducible refine vthenE ?_) | (with_reducible refine vthenR ?_) | (with_reducible refine vret ?_) | (with_reducible refine vskip ?_) | (with_reducible refine vexit ?_) | (with_reducible refine vblock ?_) | (with_reducible refine vblockN ?_) | (with_reducible refine vblockR ?_) | (with_reducible refine vblockH ?_) | (with_reducible refine vrun_nil ?_) | (with_reducible refine vblockE rfl ?_) | (with_reducible refine vregion [] ?_) | (with_reducible refine vhrun_nil ?_) | ((with_reducible refine vcondT ?_ ?_); (focus (go_simp; done))) | ((with_reducible refine vcondF ?_ ?_); (focus (go_simp; done))) | ((with_reducible refine vrun_cons fun KK hKK => ?_); go_simp; refine hKK _ ?_; clear hKK KK) | ((with_reducible refine vhrun_cons fun KK hKK => ?_); go_simp; refine hKK _ ?_; clear hKK KK))
          refine vdraw 13 [] (by kernel_rfl) (by kernel_rfl) ?_
          simp only [List.take, List.drop]
          repeat (first | (with_reducible refine vseq ?_) | (with_reducible refine vthenN ?_) | (with_reducible refine vthenE ?_) | (with_reducible refine vthenR ?_) | (with_reducible refine vret ?_) | (with_reducible refine vskip ?_) | (with_reducible refine vexit ?_) | (with_reducible refine vblock ?_) | (with_reducible refine vblockN ?_) | (with_reducible refine vblockR ?_) | (with_reducible refine vblockH ?_) | (with_reducible refine vrun_nil ?_) | (with_reducible refine vblockE rfl ?_) | (with_reducible refine vregion [] ?_) | (with_reducible refine vhrun_nil ?_) | ((with_reducible refine vcondT ?_ ?_); (focus (go_simp; done))) | ((with_reducible refine vcondF ?_ ?_); (focus (go_simp; done))) | ((with_reducible refine vrun_cons fun KK hKK => ?_); go_simp; refine hKK _ ?_; clear hKK KK) | ((with_reducible refine vhrun_cons fun KK hKK => ?_); go_simp; refine hKK _ ?_; clear hKK KK))
          refine hR2 _ (k + 1) ⟨by omega, by omega⟩ (by omega) ?_
          have hs := hsuc.out
          go_simp
        · have hle' : ¬ (k : Int) ≤ G[i].2 := by omega
          have hke := Lib.hid (show k = G[i].2 + 1 by omega)
          repeat (first | (with_reducible refine vseq ?_) | (with_reducible refine vthenN ?_) | (with_reducible refine vthenE ?_) | (with_reducible refine vthenR ?_) | (with_reducible refine vret ?_) | (with_reducible refine vskip ?_) | (with_reducible refine vexit ?_) | (with_reducible refine vblock ?_) | (with_reducible refine vblockN ?_) | (with_reducible refine vblockR ?_) | (with_reducible refine vblockH ?_) | (with_reducible refine vrun_nil ?_) | (with_reducible refine vblockE rfl ?_) | (with_reducible refine vregion [] ?_) | (with_reducible refine vhrun_nil ?_) | ((with_reducible refine vcondT ?_ ?_); (focus (go_simp; done))) | ((with_reducible refine vcondF ?_ ?_); (focus (go_simp; done))) | ((with_reducible refine vrun_cons fun KK hKK => ?_); go_simp; refine hKK _ ?_; clear hKK KK) | ((with_reducible refine vhrun_cons fun KK hKK => ?_); go_simp; refine hKK _ ?_; clear hKK KK))
          refine hR _ (i + 1, G[i].2 + 1) ⟨hlt, C4.out⟩ (by simp only; omega) ?_
          have hk3 := hke.out
          subst hk3
          go_simp
      · have hil : i = G.length := by omega
        subst hil
        rw [List.drop_length] at hc
        have hs : s = l.length := hc
        subst hs
        repeat (first | (with_reducible refine vseq ?_) | (with_reducible refine vthenN ?_) | (with_reducible refine vthenE ?_) | (with_reducible refine vthenR ?_) | (with_reducible refine vret ?_) | (with_reducible refine vskip ?_) | (with_reducible refine vexit ?_) | (with_reducible refine vblock ?_) | (with_reducible refine vblockN ?_) | (with_reducible refine vblockR ?_) | (with_reducible refine vblockH ?_) | (with_reducible refine vrun_nil ?_) | (with_reducible refine vblockE rfl ?_) | (with_reducible refine vregion [] ?_) | (with_reducible refine vhrun_nil ?_) | ((with_reducible refine vcondT ?_ ?_); (focus (go_simp; done))) | ((with_reducible refine vcondF ?_ ?_); (focus (go_simp; done))) | ((with_reducible refine vrun_cons fun KK hKK => ?_); go_simp; refine hKK _ ?_; clear hKK KK) | ((with_reducible refine vhrun_cons fun KK hKK => ?_); go_simp; refine hKK _ ?_; clear hKK KK))
        go_simp
    · rw [if_neg hE] at h29 h30
      have H29 := Lib.hid h29
      have H30 := Lib.hid h30
      clear h29 h30
      have hw0 : IntKind.i64.wrap 0 = 0 := rfl
      repeat (first | (with_reducible refine vseq ?_) | (with_reducible refine vthenN ?_) | (with_reducible refine vthenE ?_) | (with_reducible refine vthenR ?_) | (with_reducible refine vret ?_) | (with_reducible refine vskip ?_) | (with_reducible refine vexit ?_) | (with_reducible refine vblock ?_) | (with_reducible refine vblockN ?_) | (with_reducible refine vblockR ?_) | (with_reducible refine vblockH ?_) | (with_reducible refine vrun_nil ?_) | (with_reducible refine vblockE rfl ?_) | (with_reducible refine vregion [] ?_) | (with_reducible refine vhrun_nil ?_) | ((with_reducible refine vcondT ?_ ?_); (focus (go_simp; done))) | ((with_reducible refine vcondF ?_ ?_); (focus (go_simp; done))) | ((with_reducible refine vrun_cons fun KK hKK => ?_); go_simp; (first | (with_reducible refine ⟨_, v17, ?_⟩) | (with_reducible refine ⟨_, v18 l hl hd, ?_⟩) | skip); refine hKK _ ?_; clear hKK KK) | ((with_reducible refine vhrun_cons fun KK hKK => ?_); go_simp; (first | (with_reducible refine ⟨_, v17, ?_⟩) | (with_reducible refine ⟨_, v18 l hl hd, ?_⟩) | skip); refine hKK _ ?_; clear hKK KK))
      refine vdraw 9 [] (by kernel_rfl) (by kernel_rfl) ?_
      simp only [List.take, List.drop]
      repeat (first | (with_reducible refine vseq ?_) | (with_reducible refine vthenN ?_) | (with_reducible refine vthenE ?_) | (with_reducible refine vthenR ?_) | (with_reducible refine vret ?_) | (with_reducible refine vskip ?_) | (with_reducible refine vexit ?_) | (with_reducible refine vblock ?_) | (with_reducible refine vblockN ?_) | (with_reducible refine vblockR ?_) | (with_reducible refine vblockH ?_) | (with_reducible refine vrun_nil ?_) | (with_reducible refine vblockE rfl ?_) | (with_reducible refine vregion [] ?_) | (with_reducible refine vhrun_nil ?_) | ((with_reducible refine vcondT ?_ ?_); (focus (go_simp; done))) | ((with_reducible refine vcondF ?_ ?_); (focus (go_simp; done))) | ((with_reducible refine vrun_cons fun KK hKK => ?_); go_simp; (first | (refine ⟨_, h20.out, ?_⟩) | (refine ⟨_, H29.out, ?_⟩) | skip); refine hKK _ ?_; clear hKK KK) | ((with_reducible refine vhrun_cons fun KK hKK => ?_); go_simp; (first | (refine ⟨_, h20.out, ?_⟩) | (refine ⟨_, H29.out, ?_⟩) | skip); refine hKK _ ?_; clear hKK KK))
      refine vdraw 9 [] (by kernel_rfl) (by kernel_rfl) ?_
      simp only [List.take, List.drop]
      repeat (first | (with_reducible refine vseq ?_) | (with_reducible refine vthenN ?_) | (with_reducible refine vthenE ?_) | (with_reducible refine vthenR ?_) | (with_reducible refine vret ?_) | (with_reducible refine vskip ?_) | (with_reducible refine vexit ?_) | (with_reducible refine vblock ?_) | (with_reducible refine vblockN ?_) | (with_reducible refine vblockR ?_) | (with_reducible refine vblockH ?_) | (with_reducible refine vrun_nil ?_) | (with_reducible refine vblockE rfl ?_) | (with_reducible refine vregion [] ?_) | (with_reducible refine vhrun_nil ?_) | ((with_reducible refine vcondT ?_ ?_); (focus (go_simp; done))) | ((with_reducible refine vcondF ?_ ?_); (focus (go_simp; done))) | ((with_reducible refine vrun_cons fun KK hKK => ?_); go_simp; (first | (refine ⟨_, h20.out, ?_⟩) | (refine ⟨_, H30.out, ?_⟩) | (refine ⟨_, v31 l r (by omega) HS.out, ?_⟩) | skip); refine hKK _ ?_; clear hKK KK) | ((with_reducible refine vhrun_cons fun KK hKK => ?_); go_simp; (first | (refine ⟨_, h20.out, ?_⟩) | (refine ⟨_, H30.out, ?_⟩) | (refine ⟨_, v31 l r (by omega) HS.out, ?_⟩) | skip); refine hKK _ ?_; clear hKK KK))
      go_simp
end Go.Proofs.Ytmfmpagfjgpodaa
