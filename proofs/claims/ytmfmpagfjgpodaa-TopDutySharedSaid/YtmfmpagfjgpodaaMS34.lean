/- Texts in one: Walks on plain values: all plates given, whatever the uses; conditions as each says. -/
import Derived.Test.YtmfmpagfjgpodaaMS33
import Derived.Shelf.SlSortCmp.NoneTotal
/-! VPlate8: Walks on plain values: all plates given, whatever the uses; conditions as each says. -/
namespace Go.Proofs.Ytmfmpagfjgpodaa
open Go.RowKit Go.Sort Go.Shelf
set_option maxRecDepth 100000
theorem v121n (l : List Rec) : VC Try.prog 121 [nil_, .fn (.func 122) [] [.vp [recsA l]]] (.lit (.tuple #[])) := by
  refine ⟨by kernel_rfl, fun w M vs hM hvl hv => ?_⟩
  obtain ⟨v1, v2, rfl⟩ : ∃ v1 v2, vs = [v1, v2] := by
    rcases vs with _ | ⟨v, _ | ⟨v2, _ | ⟨_, _⟩⟩⟩
    · simp at hvl
    · simp at hvl
    · exact ⟨v, v2, rfl⟩
    · simp at hvl
  have h0 := V0.lit_inv (hv 0 _ _ rfl rfl)
  subst h0
  have hcon := AnyF.slices_SortFunc_none { sortLaysI with } none 0 v2 w
  change Calls Try.prog 121 _ _ _ at hcon
  refine hcon.mono ?_
  rintro en w' ⟨rfl, rfl⟩
  exact ⟨_, rfl, Below.refl _ _, .lit _⟩
theorem uses_nil : usesE [] = (0, 0) := rfl
theorem v66z : VC Try.prog 66 [recsA []] (.tup [.agg [intsA [], I 0], I 0]) := by
  have h120 := v120 [] (by simp) (fun x h => by simp at h)
  rw [uses_nil] at h120
  have H120 := Lib.hid h120
  have H121 := Lib.hid (v121n [])
  clear h120
  refine VC_of Try.func66 rfl (by kernel_rfl) (by kernel_rfl) rfl fun M0 w0 => ?_
  simp only [Try.ntmps66, Try.results66, enumA]
  repeat (first | (with_reducible refine vseq ?_) | (with_reducible refine vthenN ?_) | (with_reducible refine vthenE ?_) | (with_reducible refine vthenR ?_) | (with_reducible refine vret ?_) | (with_reducible refine vskip ?_) | (with_reducible refine vexit ?_) | (with_reducible refine vblock ?_) | (with_reducible refine vblockN ?_) | (with_reducible refine vblockR ?_) | (with_reducible refine vblockH ?_) | (with_reducible refine vrun_nil ?_) | (with_reducible refine vblockE rfl ?_) | (with_reducible refine vregion [] ?_) | (with_reducible refine vhrun_nil ?_) | ((with_reducible refine vcondT ?_ ?_); (focus (go_simp; done))) | ((with_reducible refine vcondF ?_ ?_); (focus (go_simp; done))) | ((with_reducible refine vrun_cons fun KK hKK => ?_); go_simp; (first | (refine ⟨_, H120.out, ?_⟩) | skip); refine hKK _ ?_; clear hKK KK) | ((with_reducible refine vhrun_cons fun KK hKK => ?_); go_simp; (first | (refine ⟨_, H120.out, ?_⟩) | skip); refine hKK _ ?_; clear hKK KK))
  refine vloop (α := Unit) (fun _ => st66 [] 0) (fun _ => True) (fun _ => 0) () trivial (by simp only [st66]; go_simp) ?_
  rintro _ _ K hR
  clear hR
  simp only [st66]
  repeat (first | (with_reducible refine vseq ?_) | (with_reducible refine vthenN ?_) | (with_reducible refine vthenE ?_) | (with_reducible refine vthenR ?_) | (with_reducible refine vret ?_) | (with_reducible refine vskip ?_) | (with_reducible refine vexit ?_) | (with_reducible refine vblock ?_) | (with_reducible refine vblockN ?_) | (with_reducible refine vblockR ?_) | (with_reducible refine vblockH ?_) | (with_reducible refine vrun_nil ?_) | (with_reducible refine vblockE rfl ?_) | (with_reducible refine vhrun_nil ?_) | ((with_reducible refine vcondT ?_ ?_); (focus (go_simp; done))) | ((with_reducible refine vcondF ?_ ?_); (focus (go_simp; done))) | ((with_reducible refine vrun_cons fun KK hKK => ?_); go_simp; refine hKK _ ?_; clear hKK KK) | ((with_reducible refine vhrun_cons fun KK hKK => ?_); go_simp; refine hKK _ ?_; clear hKK KK))
  refine vregion [] ?_
  repeat (first | (with_reducible refine vseq ?_) | (with_reducible refine vthenN ?_) | (with_reducible refine vthenE ?_) | (with_reducible refine vthenR ?_) | (with_reducible refine vret ?_) | (with_reducible refine vskip ?_) | (with_reducible refine vexit ?_) | (with_reducible refine vblock ?_) | (with_reducible refine vblockN ?_) | (with_reducible refine vblockR ?_) | (with_reducible refine vblockH ?_) | (with_reducible refine vrun_nil ?_) | (with_reducible refine vblockE rfl ?_) | (with_reducible refine vhrun_nil ?_) | ((with_reducible refine vcondT ?_ ?_); (focus (go_simp; done))) | ((with_reducible refine vcondF ?_ ?_); (focus (go_simp; done))) | ((with_reducible refine vrun_cons fun KK hKK => ?_); go_simp; refine hKK _ ?_; clear hKK KK) | ((with_reducible refine vhrun_cons fun KK hKK => ?_); go_simp; refine hKK _ ?_; clear hKK KK))
  refine vregion [] ?_
  repeat (first | (with_reducible refine vseq ?_) | (with_reducible refine vthenN ?_) | (with_reducible refine vthenE ?_) | (with_reducible refine vthenR ?_) | (with_reducible refine vret ?_) | (with_reducible refine vskip ?_) | (with_reducible refine vexit ?_) | (with_reducible refine vblock ?_) | (with_reducible refine vblockN ?_) | (with_reducible refine vblockR ?_) | (with_reducible refine vblockH ?_) | (with_reducible refine vrun_nil ?_) | (with_reducible refine vblockE rfl ?_) | (with_reducible refine vhrun_nil ?_) | ((with_reducible refine vcondT ?_ ?_); (focus (go_simp; done))) | ((with_reducible refine vcondF ?_ ?_); (focus (go_simp; done))) | ((with_reducible refine vrun_cons fun KK hKK => ?_); go_simp; (first | (refine ⟨_, H121.out, ?_⟩) | skip); refine hKK _ ?_; clear hKK KK) | ((with_reducible refine vhrun_cons fun KK hKK => ?_); go_simp; (first | (refine ⟨_, H121.out, ?_⟩) | skip); refine hKK _ ?_; clear hKK KK))
  refine vregion [32] ?_
  repeat (first | (with_reducible refine vseq ?_) | (with_reducible refine vthenN ?_) | (with_reducible refine vthenE ?_) | (with_reducible refine vthenR ?_) | (with_reducible refine vret ?_) | (with_reducible refine vskip ?_) | (with_reducible refine vexit ?_) | (with_reducible refine vblock ?_) | (with_reducible refine vblockN ?_) | (with_reducible refine vblockR ?_) | (with_reducible refine vblockH ?_) | (with_reducible refine vrun_nil ?_) | (with_reducible refine vblockE rfl ?_) | (with_reducible refine vregion [] ?_) | (with_reducible refine vhrun_nil ?_) | ((with_reducible refine vcondT ?_ ?_); (focus (go_simp; done))) | ((with_reducible refine vcondF ?_ ?_); (focus (go_simp; done))) | ((with_reducible refine vrun_cons fun KK hKK => ?_); go_simp; refine hKK _ ?_; clear hKK KK) | ((with_reducible refine vhrun_cons fun KK hKK => ?_); go_simp; refine hKK _ ?_; clear hKK KK))
  refine vloop (α := Unit) (fun _ => ⟨[(36, I 0), (35, I 0), (34, nil_), (7, .ref 3 0), (5, .ref 1 0), (2, .ref 0 0), (1, .vp [recsA []])], [some (.box [nil_, I 0]), some (.box [nil_]), some (.arr 3 1 false []), some (.box [.osl 2, I 0])]⟩) (fun _ => True) (fun _ => 0) () trivial (by go_simp) ?_
  rintro _ _ K hR
  clear hR
  repeat (first | (with_reducible refine vseq ?_) | (with_reducible refine vthenN ?_) | (with_reducible refine vthenE ?_) | (with_reducible refine vthenR ?_) | (with_reducible refine vret ?_) | (with_reducible refine vskip ?_) | (with_reducible refine vexit ?_) | (with_reducible refine vblock ?_) | (with_reducible refine vblockN ?_) | (with_reducible refine vblockR ?_) | (with_reducible refine vblockH ?_) | (with_reducible refine vrun_nil ?_) | (with_reducible refine vblockE rfl ?_) | (with_reducible refine vregion [] ?_) | (with_reducible refine vhrun_nil ?_) | ((with_reducible refine vcondT ?_ ?_); (focus (go_simp; done))) | ((with_reducible refine vcondF ?_ ?_); (focus (go_simp; done))) | ((with_reducible refine vrun_cons fun KK hKK => ?_); go_simp; refine hKK _ ?_; clear hKK KK) | ((with_reducible refine vhrun_cons fun KK hKK => ?_); go_simp; refine hKK _ ?_; clear hKK KK))
  go_simp
/-- What the plates that are given are. -/
structure Given (l : List Rec) (of : List Int) (t : Int) : Prop where
  len : of.length = l.length
  nn : ∀ k, k < l.length → 0 ≤ iat of k
  ok : ¬ Clash l of
  many : maxTo of l.length = mostTo l l.length
  at_ : usesAt l t l.length = mostTo l l.length
  time : isTime t = true
theorem gAt_of {l : List Rec} {os : List Nat} : ∀ i, gAt l os i = 0 ∨ ∃ j, j < i ∧ gAt l os i = (rat l (nat_ os j)).lo
  | 0 => .inl rfl
  | i + 1 => by
    rw [gAt]
    split
    · exact .inr ⟨i, by omega, rfl⟩
    · rcases gAt_of (l := l) (os := os) i with h | ⟨j, hj, h⟩
      · exact .inl h
      · exact .inr ⟨j, by omega, h⟩
theorem given_all {l : List Rec} {os : List Nat} (hE : (usesE l).2 = 0) (hp : os.Perm (List.range l.length)) (hs : ∀ i j, i < j → j < l.length → (rat l (nat_ os i)).lo ≤ (rat l (nat_ os j)).lo) : Given l (gOf l os l.length) (gAt l os l.length) := by
  obtain ⟨ho, hall⟩ := once_of hp
  have g := gOf_gr ho l.length (Nat.le_refl _)
  have htime := fun k hk => use_time hE (k := k) hk
  obtain ⟨h0, hc, hm⟩ := g.fin ho hall hs fun k hk => (htime k hk).2.1
  refine ⟨g.len, h0, hc, hm, Nat.le_antisymm ?_ ?_, ?_⟩
  · have := plates_low h0 hc (gAt l os l.length)
    omega
  · refine mostTo_le _ fun k hk => ?_
    obtain ⟨j, hj, rfl⟩ := hall k hk
    exact gAt_most l.length j hj
  · rcases gAt_of (l := l) (os := os) l.length with h | ⟨j, hj, h⟩
    · rw [h]; rfl
    · rw [h]
      have := htime _ (ho.2.1 j hj)
      exact inR_iff.2 ⟨this.1, by omega⟩
theorem v66x (l : List Rec) (hl : l.length ≤ 1000) (hd : Small l) (hE : (usesE l).2 = 0) : ∃ of t, VC Try.prog 66 [recsA l] (.tup [.agg [intsA of, I t], I 0]) ∧ Given l of t := by
  by_cases hn : l.length = 0
  · obtain rfl := List.eq_nil_of_length_eq_zero hn
    exact ⟨[], 0, v66z, ⟨rfl, fun k h => by simp at h, fun ⟨i, j, _, h, _⟩ => by simp at h, rfl, rfl, rfl⟩⟩
  · have : Inhabited (Fin l.length) := ⟨⟨0, by omega⟩⟩
    obtain ⟨h1, h2⟩ := sortU_spec (allF l.length)
    have hp : ((sortU l (allF l.length)).map (·.val)).Perm (List.range l.length) := by
      rw [← allF_val]
      exact h1.map _
    have hlen : (sortU l (allF l.length)).length = l.length := by rw [h1.length_eq]; simp [allF]
    refine ⟨_, _, v66w l hl hd hE (by omega) _ rfl (once_of hp).1, given_all hE hp fun i j hij hj => ?_⟩
    have := List.pairwise_iff_getElem.1 h2 i j (by omega) (by omega) hij
    rw [nat_get (by simp; omega), nat_get (by simp; omega)]
    simpa using this
theorem cntP_full (p : Nat → Bool) (k : Nat) : cntP p k ≤ k := cntP_le p k
theorem given_bad {l : List Rec} {of : List Int} {t : Int} (hE : (usesE l).2 = 0) (g : Given l of t) : badP of = false := by
  have h14 : l.length ≤ 14 := by
    unfold usesE checkL at hE
    split at hE
    · cases hE
    · omega
  cases hb : badP of
  · rfl
  · unfold badP at hb
    rw [anyP_iff] at hb
    obtain ⟨k, _, hk, hb⟩ := hb
    rw [Nat.zero_add, g.len] at hk
    have h1 := g.nn k hk
    have h2 := maxTo_ge (of := of) hk
    have h3 : mostTo l l.length ≤ l.length := mostTo_le _ fun k _ => cntP_le _ _
    have h4 := g.many
    have : inR (iat of k) 0 13 = true := inR_iff.2 ⟨h1, by omega⟩
    rw [this] at hb
    cases hb
theorem given_pl {l : List Rec} {of : List Int} {t : Int} (hE : (usesE l).2 = 0) (g : Given l of t) : PlR l of t (.tup [I (mostTo l l.length), I 0]) := by
  have hb := given_bad hE g
  have hm := g.many
  have ha := g.at_
  refine ⟨fun h => absurd g.len h, fun _ h => ?_, fun _ _ _ h => absurd h g.ok, fun _ _ _ _ h => ?_, fun _ _ _ _ _ => by rw [hm]⟩
  · rcases h with h | h
    · rw [hb] at h; cases h
    · rw [g.time] at h; cases h
  · rw [hm, ha] at h
    exact absurd rfl h
/-- What is answered to any plates. -/
theorem pl_all (l : List Rec) (of : List Int) (t : Int) (_hT : ∀ x ∈ l, 0 ≤ x.hi ∧ x.hi ≤ 8640000000) : ∃ n e : Int, PlR l of t (.tup [I n, I e]) ∧ (e = 0 → (mostTo l l.length : Int) ≤ n) := by
  by_cases h1 : of.length = l.length
  · by_cases h2 : badP of = true ∨ isTime t = false
    · exact ⟨0, 2, ⟨fun h => absurd h1 h, fun _ _ => rfl, fun _ a b => by rw [a, b] at h2; simp at h2, fun _ a b => by rw [a, b] at h2; simp at h2, fun _ a b => by rw [a, b] at h2; simp at h2⟩, fun h => by cases h⟩
    · have hb : badP of = false := by cases h : badP of; rfl; exact absurd (.inl h) h2
      have ht : isTime t = true := by cases h : isTime t; exact absurd (.inr h) h2; rfl
      by_cases h3 : Clash l of
      · exact ⟨0, 13, ⟨fun h => absurd h1 h, fun _ h => absurd h h2, fun _ _ _ _ => rfl, fun _ _ _ h => absurd h3 h, fun _ _ _ h => absurd h3 h⟩, fun h => by cases h⟩
      · by_cases h4 : (usesAt l t l.length : Int) = maxTo of l.length
        · refine ⟨maxTo of l.length, 0, ⟨fun h => absurd h1 h, fun _ h => absurd h h2, fun _ _ _ h => absurd h h3, fun _ _ _ _ h => absurd h4 h, fun _ _ _ _ _ => rfl⟩, fun _ => plates_most (fun k hk => ?_) h3⟩
          exact (inR_iff.1 (bad_no hb (k := k) (by omega))).1
        · exact ⟨0, 20, ⟨fun h => absurd h1 h, fun _ h => absurd h h2, fun _ _ _ h => absurd h h3, fun _ _ _ _ _ => rfl, fun _ _ _ _ h => absurd h h4⟩, fun h => by cases h⟩
  · exact ⟨0, 10, ⟨fun _ => rfl, fun h => absurd h h1, fun h => absurd h h1, fun h => absurd h h1, fun h => absurd h h1⟩, fun h => by cases h⟩
end Go.Proofs.Ytmfmpagfjgpodaa

/-! VPlate9: The law of plates on plain values: it gives true; no condition. -/
namespace Go.Proofs.Ytmfmpagfjgpodaa
open Go.RowKit
set_option maxRecDepth 100000
theorem v68e (l : List Rec) (of : List Int) (t : Int) (hl : l.length ≤ 1000) (ho : of.length ≤ 1000) (hd : Small l) (hE : (usesE l).2 ≠ 0) : VC Try.prog 68 [recsA l, .agg (platesA of t)] (.tup [I 0, I (usesE l).2]) := by
  have H120 := Lib.hid (v120 l hl hd)
  have H124 := Lib.hid (v124b of (by omega))
  generalize usesE l = E at *
  have hf : ∀ a b : Int, fst [E.2, a, b] = E.2 := fun a b => by simp [fst, hE]
  refine VC_of Try.func68 rfl (by kernel_rfl) (by kernel_rfl) rfl fun M0 w0 => ?_
  simp only [Try.ntmps68, Try.results68, enumA]
  cases h1 : isTime t
  · repeat (first | (with_reducible refine vseq ?_) | (with_reducible refine vthenN ?_) | (with_reducible refine vthenE ?_) | (with_reducible refine vthenR ?_) | (with_reducible refine vret ?_) | (with_reducible refine vskip ?_) | (with_reducible refine vexit ?_) | (with_reducible refine vblock ?_) | (with_reducible refine vblockN ?_) | (with_reducible refine vblockR ?_) | (with_reducible refine vblockH ?_) | (with_reducible refine vrun_nil ?_) | (with_reducible refine vblockE rfl ?_) | (with_reducible refine vregion [] ?_) | (with_reducible refine vhrun_nil ?_) | ((with_reducible refine vcondT ?_ ?_); (focus (go_simp; done))) | ((with_reducible refine vcondF ?_ ?_); (focus (go_simp; done))) | ((with_reducible refine vrun_cons fun KK hKK => ?_); go_simp; (first | (with_reducible refine ⟨_, v128 _, ?_⟩) | skip); refine hKK _ ?_; clear hKK KK) | ((with_reducible refine vhrun_cons fun KK hKK => ?_); go_simp; (first | (with_reducible refine ⟨_, v128 _, ?_⟩) | skip); refine hKK _ ?_; clear hKK KK))
    refine vdraw 10 [] (by kernel_rfl) (by kernel_rfl) ?_
    simp only [List.take, List.drop]
    repeat (first | (with_reducible refine vseq ?_) | (with_reducible refine vthenN ?_) | (with_reducible refine vthenE ?_) | (with_reducible refine vthenR ?_) | (with_reducible refine vret ?_) | (with_reducible refine vskip ?_) | (with_reducible refine vexit ?_) | (with_reducible refine vblock ?_) | (with_reducible refine vblockN ?_) | (with_reducible refine vblockR ?_) | (with_reducible refine vblockH ?_) | (with_reducible refine vrun_nil ?_) | (with_reducible refine vblockE rfl ?_) | (with_reducible refine vregion [] ?_) | (with_reducible refine vhrun_nil ?_) | ((with_reducible refine vcondT ?_ ?_); (focus (go_simp; done))) | ((with_reducible refine vcondF ?_ ?_); (focus (go_simp; done))) | ((with_reducible refine vrun_cons fun KK hKK => ?_); go_simp; (first | (refine ⟨_, H120.out, ?_⟩) | (with_reducible refine ⟨_, v78 _ _, ?_⟩) | (refine ⟨_, v75 [_, _, _] rfl, ?_⟩) | skip); refine hKK _ ?_; clear hKK KK) | ((with_reducible refine vhrun_cons fun KK hKK => ?_); go_simp; (first | (refine ⟨_, H120.out, ?_⟩) | (with_reducible refine ⟨_, v78 _ _, ?_⟩) | (refine ⟨_, v75 [_, _, _] rfl, ?_⟩) | skip); refine hKK _ ?_; clear hKK KK))
    go_simp
  · cases hb : badP of
    all_goals
      rw [hb] at H124
      repeat (first | (with_reducible refine vseq ?_) | (with_reducible refine vthenN ?_) | (with_reducible refine vthenE ?_) | (with_reducible refine vthenR ?_) | (with_reducible refine vret ?_) | (with_reducible refine vskip ?_) | (with_reducible refine vexit ?_) | (with_reducible refine vblock ?_) | (with_reducible refine vblockN ?_) | (with_reducible refine vblockR ?_) | (with_reducible refine vblockH ?_) | (with_reducible refine vrun_nil ?_) | (with_reducible refine vblockE rfl ?_) | (with_reducible refine vregion [] ?_) | (with_reducible refine vhrun_nil ?_) | ((with_reducible refine vcondT ?_ ?_); (focus (go_simp; done))) | ((with_reducible refine vcondF ?_ ?_); (focus (go_simp; done))) | ((with_reducible refine vrun_cons fun KK hKK => ?_); go_simp; (first | (with_reducible refine ⟨_, v128 _, ?_⟩) | (refine ⟨_, H124.out, ?_⟩) | skip); refine hKK _ ?_; clear hKK KK) | ((with_reducible refine vhrun_cons fun KK hKK => ?_); go_simp; (first | (with_reducible refine ⟨_, v128 _, ?_⟩) | (refine ⟨_, H124.out, ?_⟩) | skip); refine hKK _ ?_; clear hKK KK))
      refine vdraw 10 [] (by kernel_rfl) (by kernel_rfl) ?_
      simp only [List.take, List.drop]
      repeat (first | (with_reducible refine vseq ?_) | (with_reducible refine vthenN ?_) | (with_reducible refine vthenE ?_) | (with_reducible refine vthenR ?_) | (with_reducible refine vret ?_) | (with_reducible refine vskip ?_) | (with_reducible refine vexit ?_) | (with_reducible refine vblock ?_) | (with_reducible refine vblockN ?_) | (with_reducible refine vblockR ?_) | (with_reducible refine vblockH ?_) | (with_reducible refine vrun_nil ?_) | (with_reducible refine vblockE rfl ?_) | (with_reducible refine vregion [] ?_) | (with_reducible refine vhrun_nil ?_) | ((with_reducible refine vcondT ?_ ?_); (focus (go_simp; done))) | ((with_reducible refine vcondF ?_ ?_); (focus (go_simp; done))) | ((with_reducible refine vrun_cons fun KK hKK => ?_); go_simp; (first | (refine ⟨_, H120.out, ?_⟩) | (with_reducible refine ⟨_, v78 _ _, ?_⟩) | (refine ⟨_, v75 [_, _, _] rfl, ?_⟩) | skip); refine hKK _ ?_; clear hKK KK) | ((with_reducible refine vhrun_cons fun KK hKK => ?_); go_simp; (first | (refine ⟨_, H120.out, ?_⟩) | (with_reducible refine ⟨_, v78 _ _, ?_⟩) | (refine ⟨_, v75 [_, _, _] rfl, ?_⟩) | skip); refine hKK _ ?_; clear hKK KK))
      go_simp
/-! ### The other way round -/
theorem twi_comm (x y : Rec) : twi x y = twi y x := by
  unfold twi
  rw [ovU_comm]
  congr 1
  rw [Bool.eq_iff_iff, decide_eq_true_eq, decide_eq_true_eq]
  exact eq_comm
/-- When uses are right. -/
structure URight (l : List Rec) : Prop where
  len : l.length ≤ 14
  own : ∀ k, k < l.length → isName (rat l k).driver = true ∧ spanErr (rat l k).lo (rat l k).hi = 0
  two : ∀ k j, k < l.length → j < k → twi (rat l k) (rat l j) = false
theorem uright_iff {l : List Rec} : (usesE l).2 = 0 ↔ URight l := by
  constructor
  · intro hE
    have h0 := time_of hE
    have hlen : l.length ≤ 14 := by
      unfold usesE checkL at hE
      split at hE
      · cases hE
      · omega
    have hn : ∀ k, k < l.length → isName (rat l k).driver = true := fun k hk => by
      have h := h0 k hk
      cases hc : isName (rat l k).driver
      · rw [useE_name hc] at h; cases h
      · rfl
    have hs : ∀ k, k < l.length → spanErr (rat l k).lo (rat l k).hi = 0 := fun k hk => by
      have h := h0 k hk
      by_cases hz : spanErr (rat l k).lo (rat l k).hi = 0
      · exact hz
      · rw [useE_span (hn k hk) hz] at h; exact h
    refine ⟨hlen, fun k hk => ⟨hn k hk, hs k hk⟩, fun k j hk hj => ?_⟩
    have h := h0 k hk
    rw [useE_rest (hn k hk) (hs k hk)] at h
    cases ha : anyP (fun j => twi (rat l k) (rat l j)) 0 k
    · cases hc : twi (rat l k) (rat l j)
      · rfl
      · have : anyP (fun j => twi (rat l k) (rat l j)) 0 k = true := by
          rw [anyP_iff]; exact ⟨j, Nat.zero_le _, by omega, hc⟩
        rw [ha] at this; cases this
    · rw [ha] at h; cases h
  · intro h
    unfold usesE checkL
    rw [if_neg (by have := h.len; omega)]
    rw [firstErr_none _ _ fun k _ hk => ?_]
    rw [useE_rest (h.own k (by omega)).1 (h.own k (by omega)).2]
    have : anyP (fun j => twi (rat l k) (rat l j)) 0 k = false := by
      cases ha : anyP (fun j => twi (rat l k) (rat l j)) 0 k
      · rfl
      · rw [anyP_iff] at ha
        obtain ⟨j, _, hj, hc⟩ := ha
        rw [h.two k j (by omega) (by omega)] at hc
        cases hc
    rw [this]
    rfl
theorem rat_rev {l : List Rec} {k : Nat} (hk : k < l.length) : rat l.reverse k = rat l (l.length - 1 - k) := by
  rw [rat_get (by simpa using hk), rat_get (by omega), List.getElem_reverse]
theorem URight.rev {l : List Rec} (h : URight l) : URight l.reverse := by
  refine ⟨by simpa using h.len, fun k hk => ?_, fun k j hk hj => ?_⟩
  · have hk' : k < l.length := by simpa using hk
    rw [rat_rev hk']
    exact h.own _ (by omega)
  · have hk' : k < l.length := by simpa using hk
    rw [rat_rev hk', rat_rev (by omega), twi_comm]
    exact h.two _ _ (by omega) (by omega)
theorem cnt_list (q : Rec → Bool) : ∀ (n : Nat) (l : List Rec), n ≤ l.length → cntP (fun k => q (rat l k)) n = (l.take n).countP q
  | 0, l, _ => by simp [cntP]
  | n + 1, l, h => by
    rw [cntP, cnt_list q n l (by omega), rat_get (by omega), List.take_add_one, List.countP_append, List.getElem?_eq_getElem (by omega)]
    cases h : q l[n] <;> simp [h]
theorem usesAt_rev (l : List Rec) (t : Int) : usesAt l.reverse t l.reverse.length = usesAt l t l.length := by
  unfold usesAt
  rw [cnt_list (inU · t) _ l.reverse (Nat.le_refl _), cnt_list (inU · t) _ l (Nat.le_refl _), List.take_length, List.take_length, List.countP_reverse]
theorem mostTo_rev (l : List Rec) : mostTo l.reverse l.reverse.length = mostTo l l.length := by
  apply Nat.le_antisymm
  · refine mostTo_le _ fun k hk => ?_
    have hk' : k < l.length := by simpa using hk
    rw [usesAt_rev, rat_rev hk']
    exact mostTo_ge (by omega)
  · refine mostTo_le _ fun k hk => ?_
    rw [← usesAt_rev]
    have := rat_rev (l := l) (k := l.length - 1 - k) (by omega)
    rw [show l.length - 1 - (l.length - 1 - k) = k by omega] at this
    rw [← this]
    exact mostTo_ge (by simp; omega)
theorem v15 (l : List Rec) (of : List Int) (t : Int) (hl : l.length ≤ 9223372036854775807) (hd : ∀ x ∈ l, x.driver.size ≤ 9223372036854775807) (ho : of.length ≤ 9223372036854775807) : VC Try.prog 15 [recsA l, .agg (platesA of t)] (B true) := by
  cases hfew : fewU l
  · have H65 := v65 l hl hd
    rw [hfew] at H65
    have H65 := Lib.hid H65
    clear hl hd hfew
    refine VC_of Try.func15 rfl (by kernel_rfl) (by kernel_rfl) rfl fun M0 w0 => ?_
    simp only [Try.ntmps15, Try.results15, enumA]
    repeat (first | (with_reducible refine vseq ?_) | (with_reducible refine vthenN ?_) | (with_reducible refine vthenE ?_) | (with_reducible refine vthenR ?_) | (with_reducible refine vret ?_) | (with_reducible refine vskip ?_) | (with_reducible refine vexit ?_) | (with_reducible refine vblock ?_) | (with_reducible refine vblockN ?_) | (with_reducible refine vblockR ?_) | (with_reducible refine vblockH ?_) | (with_reducible refine vrun_nil ?_) | (with_reducible refine vblockE rfl ?_) | (with_reducible refine vregion [] ?_) | (with_reducible refine vhrun_nil ?_) | ((with_reducible refine vcondT ?_ ?_); (focus (go_simp; done))) | ((with_reducible refine vcondF ?_ ?_); (focus (go_simp; done))) | ((with_reducible refine vrun_cons fun KK hKK => ?_); go_simp; (first | (with_reducible refine ⟨_, v17, ?_⟩) | (refine ⟨_, H65.out, ?_⟩) | skip); refine hKK _ ?_; clear hKK KK) | ((with_reducible refine vhrun_cons fun KK hKK => ?_); go_simp; (first | (with_reducible refine ⟨_, v17, ?_⟩) | (refine ⟨_, H65.out, ?_⟩) | skip); refine hKK _ ?_; clear hKK KK))
    go_simp
  · have H65 := v65 l hl hd
    rw [hfew] at H65
    have H65 := Lib.hid H65
    obtain ⟨hsm, hl16⟩ := fewU_small hfew
    by_cases h16 : (16 : Int) < of.length
    · clear hl hd hfew hsm
      refine VC_of Try.func15 rfl (by kernel_rfl) (by kernel_rfl) rfl fun M0 w0 => ?_
      simp only [Try.ntmps15, Try.results15, enumA]
      repeat (first | (with_reducible refine vseq ?_) | (with_reducible refine vthenN ?_) | (with_reducible refine vthenE ?_) | (with_reducible refine vthenR ?_) | (with_reducible refine vret ?_) | (with_reducible refine vskip ?_) | (with_reducible refine vexit ?_) | (with_reducible refine vblock ?_) | (with_reducible refine vblockN ?_) | (with_reducible refine vblockR ?_) | (with_reducible refine vblockH ?_) | (with_reducible refine vrun_nil ?_) | (with_reducible refine vblockE rfl ?_) | (with_reducible refine vregion [] ?_) | (with_reducible refine vhrun_nil ?_) | ((with_reducible refine vcondT ?_ ?_); (focus (go_simp; done))) | ((with_reducible refine vcondF ?_ ?_); (focus (go_simp; done))) | ((with_reducible refine vrun_cons fun KK hKK => ?_); go_simp; (first | (with_reducible refine ⟨_, v17, ?_⟩) | (refine ⟨_, H65.out, ?_⟩) | skip); refine hKK _ ?_; clear hKK KK) | ((with_reducible refine vhrun_cons fun KK hKK => ?_); go_simp; (first | (with_reducible refine ⟨_, v17, ?_⟩) | (refine ⟨_, H65.out, ?_⟩) | skip); refine hKK _ ?_; clear hKK KK))
      go_simp
    · have hl2 : l.length ≤ 1000 := by omega
      have ho2 : of.length ≤ 1000 := by omega
      have H67 := Lib.hid (VC_of_own (o67 l (by omega)))
      have H69 := Lib.hid (v69 of t ho2)
      have H70 := Lib.hid (v70 l hl2 hsm)
      by_cases hE : (usesE l).2 = 0
      · obtain ⟨of1, t1, h66, g1⟩ := v66x l hl2 hsm hE
        have hT : ∀ x ∈ l, 0 ≤ x.hi ∧ x.hi ≤ 8640000000 := fun x hx => by
          obtain ⟨k, hk, rfl⟩ := List.getElem_of_mem hx
          have := use_time hE hk
          rw [rat_get hk] at this
          omega
        obtain ⟨n, e, hP, hlow⟩ := pl_all l of t hT
        have hr := uright_iff.1 hE
        have hEr := uright_iff.2 hr.rev
        have hsr : Small l.reverse := fun x hx => hsm x (by simpa using hx)
        have hlr : l.reverse.length ≤ 1000 := by simpa using hl2
        obtain ⟨of2, t2, h66r, g2⟩ := v66x l.reverse hlr hsr hEr
        have hlen1 := g1.len
        have hlen2 := g2.len
        have h68r := v68 l.reverse of2 t2 _ hlr (by omega) hsr hEr (given_pl hEr g2)
        rw [mostTo_rev] at h68r
        have H68 := Lib.hid (v68 l of t _ hl2 ho2 hsm hE hP)
        have H71 := Lib.hid (v71 l of t _ hl2 ho2 hT hP)
        have H72 := Lib.hid (v72 l hl2 hT)
        have H71b := Lib.hid (v71 l of1 t1 _ hl2 (by omega) hT (given_pl hE g1))
        have H66 := Lib.hid h66
        have H66r := Lib.hid h66r
        have H68r := Lib.hid h68r
        rw [hE] at H70
        have hrl : l.reverse.length = l.length := List.length_reverse
        generalize hX : l.reverse = X at *
        have HX := Lib.hid hX
        obtain ⟨m, hm⟩ : ∃ m, mostTo l l.length = m := ⟨_, rfl⟩
        rw [hm] at H68r H72 H71b hlow
        clear hl hd hfew hsm hT hE hEr hsr hlr hr g1 g2 hP hm h66 h66r h68r hX
        have HL := Lib.hid (And.intro hrl (And.intro hlen1 hlen2))
        clear hrl hlen1 hlen2
        have hno : e = 0 ∧ ¬ n < m ∨ ¬ e = 0 := by
          by_cases he : e = 0
          · have := hlow he
            exact .inl ⟨he, by omega⟩
          · exact .inr he
        clear hlow
        refine VC_of Try.func15 rfl (by kernel_rfl) (by kernel_rfl) rfl fun M0 w0 => ?_
        simp only [Try.ntmps15, Try.results15, enumA]
        rcases hno with ⟨rfl, hnm⟩ | hno
        all_goals
          repeat (first | (with_reducible refine vseq ?_) | (with_reducible refine vthenN ?_) | (with_reducible refine vthenE ?_) | (with_reducible refine vthenR ?_) | (with_reducible refine vret ?_) | (with_reducible refine vskip ?_) | (with_reducible refine vexit ?_) | (with_reducible refine vblock ?_) | (with_reducible refine vblockN ?_) | (with_reducible refine vblockR ?_) | (with_reducible refine vblockH ?_) | (with_reducible refine vrun_nil ?_) | (with_reducible refine vblockE rfl ?_) | (with_reducible refine vregion [] ?_) | (with_reducible refine vhrun_nil ?_) | ((with_reducible refine vcondT ?_ ?_); (focus (go_simp; done))) | ((with_reducible refine vcondF ?_ ?_); (focus (go_simp; done))) | ((with_reducible refine vrun_cons fun KK hKK => ?_); go_simp; (first | (with_reducible refine ⟨_, v17, ?_⟩) | (refine ⟨_, H65.out, ?_⟩) | (refine ⟨_, H67.out, ?_⟩) | (refine ⟨_, H66.out, ?_⟩) | skip); refine hKK _ ?_; clear hKK KK) | ((with_reducible refine vhrun_cons fun KK hKK => ?_); go_simp; (first | (with_reducible refine ⟨_, v17, ?_⟩) | (refine ⟨_, H65.out, ?_⟩) | (refine ⟨_, H67.out, ?_⟩) | (refine ⟨_, H66.out, ?_⟩) | skip); refine hKK _ ?_; clear hKK KK))
          refine vdraw 10 [] (by kernel_rfl) (by kernel_rfl) ?_
          simp only [List.take, List.drop]
          repeat (first | (with_reducible refine vseq ?_) | (with_reducible refine vthenN ?_) | (with_reducible refine vthenE ?_) | (with_reducible refine vthenR ?_) | (with_reducible refine vret ?_) | (with_reducible refine vskip ?_) | (with_reducible refine vexit ?_) | (with_reducible refine vblock ?_) | (with_reducible refine vblockN ?_) | (with_reducible refine vblockR ?_) | (with_reducible refine vblockH ?_) | (with_reducible refine vrun_nil ?_) | (with_reducible refine vblockE rfl ?_) | (with_reducible refine vregion [15] ?_) | (with_reducible refine vhrun_nil ?_) | ((with_reducible refine vcondT ?_ ?_); (focus (go_simp; done))) | ((with_reducible refine vcondF ?_ ?_); (focus (go_simp; done))) | ((with_reducible refine vrun_cons fun KK hKK => ?_); go_simp; (first | (refine ⟨_, H67.out, ?_⟩) | (refine ⟨_, H69.out, ?_⟩) | (refine ⟨_, H68.out, ?_⟩) | (refine ⟨_, H70.out, ?_⟩) | (refine ⟨_, H71.out, ?_⟩) | (refine ⟨_, H71b.out, ?_⟩) | (refine ⟨_, H72.out, ?_⟩) | skip); refine hKK _ ?_; clear hKK KK) | ((with_reducible refine vhrun_cons fun KK hKK => ?_); go_simp; (first | (refine ⟨_, H67.out, ?_⟩) | (refine ⟨_, H69.out, ?_⟩) | (refine ⟨_, H68.out, ?_⟩) | (refine ⟨_, H70.out, ?_⟩) | (refine ⟨_, H71.out, ?_⟩) | (refine ⟨_, H71b.out, ?_⟩) | (refine ⟨_, H72.out, ?_⟩) | skip); refine hKK _ ?_; clear hKK KK))
          refine vloop (α := Nat) (fun r => ⟨[(16, I ((r : Int) - 1)), (15, .osl 1), (12, I m), (0, recsA l)], [some (.box [intsA of1, I t1]), some (.arr 120 3 (decide (l.length - r = 0)) ((X.take (l.length - r)).map Rec.av))]⟩) (fun r => r ≤ l.length) (fun r => r) l.length (Nat.le_refl _) (by have hw0 := wrap_eq (x := (l.length : Int) - 1) (by omega) (by omega); go_simp) ?_
          rintro r hr K hR
          rcases r with _ | i
          · clear hR hr
            obtain ⟨hxl, _, hl2'⟩ := HL.out
            have hx : X.take l.length = X := by rw [← hxl, List.take_length]
            by_cases hz : l.length = 0
            · obtain rfl := List.eq_nil_of_length_eq_zero hz
              obtain rfl : X = [] := List.eq_nil_of_length_eq_zero hxl
              clear hl2' hx hxl
              refine vfreeze 15 1 (e := 120) (sz := 3) (nl := true) (es := []) (by go_simp) (by go_simp) ?_
              repeat (first | (with_reducible refine vseq ?_) | (with_reducible refine vthenN ?_) | (with_reducible refine vthenE ?_) | (with_reducible refine vthenR ?_) | (with_reducible refine vret ?_) | (with_reducible refine vskip ?_) | (with_reducible refine vexit ?_) | (with_reducible refine vblock ?_) | (with_reducible refine vblockN ?_) | (with_reducible refine vblockR ?_) | (with_reducible refine vblockH ?_) | (with_reducible refine vrun_nil ?_) | (with_reducible refine vblockE rfl ?_) | (with_reducible refine vregion [] ?_) | (with_reducible refine vhrun_nil ?_) | ((with_reducible refine vcondT ?_ ?_); (focus (go_simp; done))) | ((with_reducible refine vcondF ?_ ?_); (focus (go_simp; done))) | ((with_reducible refine vrun_cons fun KK hKK => ?_); go_simp; (first | (refine ⟨_, H66r.out, ?_⟩) | (refine ⟨_, H68r.out, ?_⟩) | skip); refine hKK _ ?_; clear hKK KK) | ((with_reducible refine vhrun_cons fun KK hKK => ?_); go_simp; (first | (refine ⟨_, H66r.out, ?_⟩) | (refine ⟨_, H68r.out, ?_⟩) | skip); refine hKK _ ?_; clear hKK KK))
              go_simp
            · have hz' : decide (l.length = 0) = false := decide_eq_false hz
              refine vfreeze 15 1 (e := 120) (sz := 3) (nl := false) (es := X.map Rec.av) (by go_simp) (by go_simp) ?_
              repeat (first | (with_reducible refine vseq ?_) | (with_reducible refine vthenN ?_) | (with_reducible refine vthenE ?_) | (with_reducible refine vthenR ?_) | (with_reducible refine vret ?_) | (with_reducible refine vskip ?_) | (with_reducible refine vexit ?_) | (with_reducible refine vblock ?_) | (with_reducible refine vblockN ?_) | (with_reducible refine vblockR ?_) | (with_reducible refine vblockH ?_) | (with_reducible refine vrun_nil ?_) | (with_reducible refine vblockE rfl ?_) | (with_reducible refine vregion [] ?_) | (with_reducible refine vhrun_nil ?_) | ((with_reducible refine vcondT ?_ ?_); (focus (go_simp; done))) | ((with_reducible refine vcondF ?_ ?_); (focus (go_simp; done))) | ((with_reducible refine vrun_cons fun KK hKK => ?_); go_simp; (first | (refine ⟨_, H66r.out, ?_⟩) | (refine ⟨_, H68r.out, ?_⟩) | skip); refine hKK _ ?_; clear hKK KK) | ((with_reducible refine vhrun_cons fun KK hKK => ?_); go_simp; (first | (refine ⟨_, H66r.out, ?_⟩) | (refine ⟨_, H68r.out, ?_⟩) | skip); refine hKK _ ?_; clear hKK KK))
              go_simp
          · obtain ⟨j, hj⟩ : ∃ j, l.length - (i + 1) = j := ⟨_, rfl⟩
            have hj1 : l.length - i = j + 1 := by omega
            have hxl := HL.out.1
            have hlt : i < l.length := by omega
            have hel : X.take (j + 1) = X.take j ++ [l[i]] := by
              have hX := HX.out
              subst hX
              rw [List.take_add_one, List.getElem?_eq_getElem (by simp; omega), List.getElem_reverse]
              simp only [Option.toList]
              congr 3
              omega
            have hbl : min j X.length + 1 ≤ 1000000000 := by omega
            have hw1 := wrap_eq (x := (i : Int) - 1) (by omega) (by omega)
            have HE := Lib.hid hel
            clear hel hxl
            repeat (first | (with_reducible refine vseq ?_) | (with_reducible refine vthenN ?_) | (with_reducible refine vthenE ?_) | (with_reducible refine vthenR ?_) | (with_reducible refine vret ?_) | (with_reducible refine vskip ?_) | (with_reducible refine vexit ?_) | (with_reducible refine vblock ?_) | (with_reducible refine vblockN ?_) | (with_reducible refine vblockR ?_) | (with_reducible refine vblockH ?_) | (with_reducible refine vrun_nil ?_) | (with_reducible refine vblockE rfl ?_) | (with_reducible refine vregion [] ?_) | (with_reducible refine vhrun_nil ?_) | ((with_reducible refine vcondT ?_ ?_); (focus (go_simp; done))) | ((with_reducible refine vcondF ?_ ?_); (focus (go_simp; done))) | ((with_reducible refine vrun_cons fun KK hKK => ?_); go_simp; refine hKK _ ?_; clear hKK KK) | ((with_reducible refine vhrun_cons fun KK hKK => ?_); go_simp; refine hKK _ ?_; clear hKK KK))
            refine hR _ i (by omega) (by omega) ?_
            have hel := HE.out
            go_simp
      · have H66 := Lib.hid (v66e l hl2 hsm hE)
        have H68 := Lib.hid (v68e l of t hl2 ho2 hsm hE)
        generalize usesE l = E at *
        clear hl hd hfew hsm
        refine VC_of Try.func15 rfl (by kernel_rfl) (by kernel_rfl) rfl fun M0 w0 => ?_
        simp only [Try.ntmps15, Try.results15, enumA]
        repeat (first | (with_reducible refine vseq ?_) | (with_reducible refine vthenN ?_) | (with_reducible refine vthenE ?_) | (with_reducible refine vthenR ?_) | (with_reducible refine vret ?_) | (with_reducible refine vskip ?_) | (with_reducible refine vexit ?_) | (with_reducible refine vblock ?_) | (with_reducible refine vblockN ?_) | (with_reducible refine vblockR ?_) | (with_reducible refine vblockH ?_) | (with_reducible refine vrun_nil ?_) | (with_reducible refine vblockE rfl ?_) | (with_reducible refine vregion [] ?_) | (with_reducible refine vhrun_nil ?_) | ((with_reducible refine vcondT ?_ ?_); (focus (go_simp; done))) | ((with_reducible refine vcondF ?_ ?_); (focus (go_simp; done))) | ((with_reducible refine vrun_cons fun KK hKK => ?_); go_simp; (first | (with_reducible refine ⟨_, v17, ?_⟩) | (refine ⟨_, H65.out, ?_⟩) | (refine ⟨_, H67.out, ?_⟩) | (refine ⟨_, H66.out, ?_⟩) | skip); refine hKK _ ?_; clear hKK KK) | ((with_reducible refine vhrun_cons fun KK hKK => ?_); go_simp; (first | (with_reducible refine ⟨_, v17, ?_⟩) | (refine ⟨_, H65.out, ?_⟩) | (refine ⟨_, H67.out, ?_⟩) | (refine ⟨_, H66.out, ?_⟩) | skip); refine hKK _ ?_; clear hKK KK))
        refine vdraw 10 [] (by kernel_rfl) (by kernel_rfl) ?_
        simp only [List.take, List.drop]
        repeat (first | (with_reducible refine vseq ?_) | (with_reducible refine vthenN ?_) | (with_reducible refine vthenE ?_) | (with_reducible refine vthenR ?_) | (with_reducible refine vret ?_) | (with_reducible refine vskip ?_) | (with_reducible refine vexit ?_) | (with_reducible refine vblock ?_) | (with_reducible refine vblockN ?_) | (with_reducible refine vblockR ?_) | (with_reducible refine vblockH ?_) | (with_reducible refine vrun_nil ?_) | (with_reducible refine vblockE rfl ?_) | (with_reducible refine vregion [] ?_) | (with_reducible refine vhrun_nil ?_) | ((with_reducible refine vcondT ?_ ?_); (focus (go_simp; done))) | ((with_reducible refine vcondF ?_ ?_); (focus (go_simp; done))) | ((with_reducible refine vrun_cons fun KK hKK => ?_); go_simp; (first | (refine ⟨_, H67.out, ?_⟩) | (refine ⟨_, H69.out, ?_⟩) | (refine ⟨_, H68.out, ?_⟩) | (refine ⟨_, H70.out, ?_⟩) | skip); refine hKK _ ?_; clear hKK KK) | ((with_reducible refine vhrun_cons fun KK hKK => ?_); go_simp; (first | (refine ⟨_, H67.out, ?_⟩) | (refine ⟨_, H69.out, ?_⟩) | (refine ⟨_, H68.out, ?_⟩) | (refine ⟨_, H70.out, ?_⟩) | skip); refine hKK _ ?_; clear hKK KK))
        go_simp
end Go.Proofs.Ytmfmpagfjgpodaa
