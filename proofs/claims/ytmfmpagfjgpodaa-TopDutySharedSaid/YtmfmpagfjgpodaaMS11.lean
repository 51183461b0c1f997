/- Texts in one: The walks of the parts of records; at most 1000 records, times up to 10000000000. -/
import Derived.Test.YtmfmpagfjgpodaaMS0
import Derived.Test.YtmfmpagfjgpodaaMS8
/-! WE: The walks of the parts of records; at most 1000 records, times up to 10000000000. -/
namespace Go.Proofs.Ytmfmpagfjgpodaa
open Go.RowKit

theorem info55 : (Try.prog.info? 55).map (fun i => (i.zero, i.size, i.bytes)) = some (some (.agg #[.int .i64 0, .int .i64 0]), 2, 16) := by kernel_rfl
set_option maxRecDepth 100000 in
set_option maxHeartbeats 2000000 in
theorem c89 (l : List Rec) (r : Rul) (gap : Int) (A : Option Addr) (n cap : Nat) (w : World) (hn : n = l.length) (hl : n ≤ 1000) (hT : Timed l) (hS : Sl Rec.cells 3 w A l) :
    Calls Try.prog 89 #[.agg #[.int .i64 r.brk, .int .i64 r.rest, .int .i64 r.stint, .int .i64 r.shift, .int .i64 r.week, .slice A n cap], .int .i64 gap] w fun e w' => ∃ A2 c2, e = .returned (.slice A2 (groups l gap n).length c2) ∧
      w'.ownsRow w.heap.size 55 2 (.slice A2 (groups l gap n).length c2) (groups l gap n).length ((groups l gap n).flatMap pairNC) ∧ Below w.heap.size w w' := by
  subst hn
  obtain ⟨r0, r1, r2, r3, r4⟩ := r
  obtain ⟨i0, hi0, hz0, hz1, hz2⟩ := info_parts info55
  dsimp only
  go_enter Try.func89, Try.ntmps89
  go_wp2
  have HB0 := Lib.hid (bl_alloc (Below.refl w.heap.size w) (.cells #[.int .i64 r0, .int .i64 r1, .int .i64 r2, .int .i64 r3, .int .i64 r4, .slice A l.length cap] 132))
  have K0 := Lib.hid (Bk.new w 132 #[.int .i64 r0, .int .i64 r1, .int .i64 r2, .int .i64 r3, .int .i64 r4, .slice A l.length cap])
  go_loopw [5, 6, 7, 11] (fun out _ _ i wr => ∃ (k : Nat) (A2 : Option Addr) (c2 : Nat), k ≤ l.length ∧ i = .int .i64 k ∧ out = .slice A2 (groups l gap k).length c2 ∧
    wr.ownsRow w.heap.size 55 2 (.slice A2 (groups l gap k).length c2) (groups l gap k).length ((groups l gap k).flatMap pairNC) ∧ Below w.heap.size w wr ∧
    Bk wr w.heap.size 132 #[.int .i64 r0, .int .i64 r1, .int .i64 r2, .int .i64 r3, .int .i64 r4, .slice A l.length cap]) (fun _ _ _ i _ => l.length - (intOf i).toNat)
  case atStart => exact ⟨0, none, 0, Nat.zero_le _, rfl, rfl, World.ownsRow_nil _ _ _ _, HB0.out, K0.out⟩
  case round =>
    obtain ⟨k, A2, c2, hk, rfl, rfl, hown, hb, hbk⟩ := hrel
    clear HB0 K0
    by_cases hlt : k < l.length
    · obtain ⟨b, o, rfl, h0, h1, h2⟩ := hS.recAt hlt
      have g0 := below_cell hb h0
      have g1 := below_cell hb h1
      have g2 := below_cell hb h2
      have hx := hT.at_ hlt
      have hgl := groups_len l gap k
      by_cases hst : gstart l gap k = true
      · -- a new group
        have hG : groups l gap (k + 1) = groups l gap k ++ [(k, k)] := by rw [groups, if_pos hst]
        by_cases hk0 : k = 0
        · have b1 : ((k : Int) == 0) = true := by simpa using hk0
          clear hk0 h0 h1 h2
          have k1 := (Bk.new wr 57 #[.string l[k].driver, .int .i64 l[k].lo, .int .i64 l[k].hi]).later
          have k2 := (hbk.alloc (.cells #[.string l[k].driver, .int .i64 l[k].lo, .int .i64 l[k].hi] 57)).later
          have H := Lib.hid (And.intro hown (And.intro hb (And.intro hbk (And.intro hG hst))))
          clear hown hb hbk hG hst hS hT
          generalize l[k].driver = d at *
          generalize l[k].lo = x at *
          generalize l[k].hi = y at *
          go_wp2_with fail
          refine wp_region_later (by kernel_rfl) (by kernel_rfl) ?_
          repeat (go_big_quiet_step (fail))
          refine wpQuiet_nil ?_
          rintro _ ⟨nq, rfl⟩
          have own1 := Lib.hid ((own_below (H.out.1.alloc (.cells #[.string d, .int .i64 x, .int .i64 y] 57)) nq.below).alloc (.cells #[.int .i64 k, .int .i64 k] 55))
          have src := Lib.hid (Sl.of_row (C := pairNC) (l := [(k, k)]) pairNC_len (heap_alloc_new nq.at (.cells #[.int .i64 k, .int .i64 k] 55)) rfl)
          have hB1 := Lib.hid (below_step (bl_alloc H.out.2.1 (.cells #[.string d, .int .i64 x, .int .i64 y] 57)) nq.below)
          have bk1 := Lib.hid (((H.out.2.2.1.alloc (.cells #[.string d, .int .i64 x, .int .i64 y] 57)).below nq.below).alloc (.cells #[.int .i64 k, .int .i64 k] 55))
          have hz := hB1.out.size
          have q1 : (groups l gap k).length + 1 ≤ maxLen := by simp only [maxLen]; omega
          have q2' : ((groups l gap k).length + 1) * 16 ≤ 140737488355328 := by omega
          generalize hGl : (groups l gap k).length = gl at *
          have HGl := Lib.hid hGl
          clear hGl
          go_wp2_with (at_builtin; refine wpList_append_one _ rfl (.tmp 32) (.tmp 36) 49 rfl w.heap.size 55 i0 _ 2 16 Try.underlying49 hi0 hz0 hz1 hz2 rfl (by omega) pairNC_len pairNC_one A2 gl c2 _ rfl own1.out (some ⟨nq.at.heap.size, 0, none⟩) 1 1 [(k, k)] rfl rfl (by omega) src.out q1 q2' (by simp; omega) ?_; intro g c3 w3 own3 gr3 at3 hg3; have c9 : w3.cell? ⟨g, gl * 2 + 1, none⟩ = some (.int .i64 k) := (by rw [own3.cellAt _ (by omega), List.getElem?_append_right (by rw [flatMap_len pairNC_len, HGl.out]; omega), flatMap_len pairNC_len, HGl.out]; simp [pairNC]); have f9 := own3.frozenAt (gl * 2 + 1); have O3 := Lib.hid (And.intro own3 (And.intro gr3 hg3)); clear own3 gr3 at3 hg3)
          go_roundw
          case rel =>
            have st := O3.out.1.stored (gl * 2 + 1) (.int .i64 k)
            have hset := pairs_set (groups l gap k ++ [(k, k)]) (by simp) k
            rw [List.length_append, List.length_singleton, HGl.out, Nat.add_sub_cancel, groups_step l gap k (.inl ⟨H.out.2.2.2.2, rfl⟩), List.flatMap_append] at hset
            have hlen : (groups l gap (k + 1)).length = gl + 1 := by rw [H.out.2.2.2.1, List.length_append, HGl.out]; rfl
            refine ⟨k + 1, some ⟨g, 0, none⟩, c3, by omega, by go_num, by rw [hlen], ?_, ?_, ?_⟩
            · rw [hlen, ← hset]
              exact st.1
            · exact bl_set (bl_grown (bl_alloc hB1.out _) O3.out.2.1 (fun q hq => own_from own1.out hq)) _ O3.out.2.2 _
            · refine Bk.setOther (bk1.out.grown O3.out.2.1 (own_apart own1.out bk1.out (by decide))) ?_ _
              have := own_apart O3.out.1 (bk1.out.grown O3.out.2.1 (own_apart own1.out bk1.out (by decide))) (by decide)
              simpa [Value.ownBlock] using this
          case measure => simp [intOf]; omega
        · obtain ⟨b', o', hA, p0, p1, p2⟩ := hS.recAt (k := k - 1) (by omega)
          injection hA with hA
          injection hA with e1 e2 _
          subst e1
          subst e2
          have q2 := below_cell hb p2
          have hx' := hT.at_ (k := k - 1) (by omega)
          have b1 : ((k : Int) == 0) = false := by simpa using hk0
          have hgap : gap ≤ l[k].lo - l[k-1].hi := by
            have := hst
            simp only [gstart, rat_get hlt, rat_get (show k - 1 < l.length by omega), Bool.or_eq_true, decide_eq_true_eq] at this
            omega
          have hk1 : 1 ≤ k := by omega
          clear hk0 p0 p1 p2 h0 h1 h2
          have k1 := (Bk.new wr 57 #[.string l[k].driver, .int .i64 l[k].lo, .int .i64 l[k].hi]).later
          have k2 := (hbk.alloc (.cells #[.string l[k].driver, .int .i64 l[k].lo, .int .i64 l[k].hi] 57)).later
          have k3 := Later.cell (below_cell (bl_alloc (Below.refl wr.heap.size wr) (.cells #[.string l[k].driver, .int .i64 l[k].lo, .int .i64 l[k].hi] 57)) q2)
          have H := Lib.hid (And.intro hown (And.intro hb (And.intro hbk (And.intro hG hst))))
          clear hown hb hbk hG hst hS hT
          generalize l[k].driver = d at *
          generalize l[k].lo = x at *
          generalize l[k].hi = y at *
          generalize l[k-1].hi = y' at *
          go_wp2_with fail
          refine wp_region_later (by kernel_rfl) (by kernel_rfl) ?_
          repeat (go_big_quiet_step (fail))
          refine wpQuiet_nil ?_
          rintro _ ⟨nq, rfl⟩
          have own1 := Lib.hid ((own_below (H.out.1.alloc (.cells #[.string d, .int .i64 x, .int .i64 y] 57)) nq.below).alloc (.cells #[.int .i64 k, .int .i64 k] 55))
          have src := Lib.hid (Sl.of_row (C := pairNC) (l := [(k, k)]) pairNC_len (heap_alloc_new nq.at (.cells #[.int .i64 k, .int .i64 k] 55)) rfl)
          have hB1 := Lib.hid (below_step (bl_alloc H.out.2.1 (.cells #[.string d, .int .i64 x, .int .i64 y] 57)) nq.below)
          have bk1 := Lib.hid (((H.out.2.2.1.alloc (.cells #[.string d, .int .i64 x, .int .i64 y] 57)).below nq.below).alloc (.cells #[.int .i64 k, .int .i64 k] 55))
          have hz := hB1.out.size
          have q1 : (groups l gap k).length + 1 ≤ maxLen := by simp only [maxLen]; omega
          have q2' : ((groups l gap k).length + 1) * 16 ≤ 140737488355328 := by omega
          generalize hGl : (groups l gap k).length = gl at *
          have HGl := Lib.hid hGl
          clear hGl
          go_wp2_with (at_builtin; refine wpList_append_one _ rfl (.tmp 32) (.tmp 36) 49 rfl w.heap.size 55 i0 _ 2 16 Try.underlying49 hi0 hz0 hz1 hz2 rfl (by omega) pairNC_len pairNC_one A2 gl c2 _ rfl own1.out (some ⟨nq.at.heap.size, 0, none⟩) 1 1 [(k, k)] rfl rfl (by omega) src.out q1 q2' (by simp; omega) ?_; intro g c3 w3 own3 gr3 at3 hg3; have c9 : w3.cell? ⟨g, gl * 2 + 1, none⟩ = some (.int .i64 k) := (by rw [own3.cellAt _ (by omega), List.getElem?_append_right (by rw [flatMap_len pairNC_len, HGl.out]; omega), flatMap_len pairNC_len, HGl.out]; simp [pairNC]); have f9 := own3.frozenAt (gl * 2 + 1); have O3 := Lib.hid (And.intro own3 (And.intro gr3 hg3)); clear own3 gr3 at3 hg3)
          go_roundw
          case rel =>
            have st := O3.out.1.stored (gl * 2 + 1) (.int .i64 k)
            have hset := pairs_set (groups l gap k ++ [(k, k)]) (by simp) k
            rw [List.length_append, List.length_singleton, HGl.out, Nat.add_sub_cancel, groups_step l gap k (.inl ⟨H.out.2.2.2.2, rfl⟩), List.flatMap_append] at hset
            have hlen : (groups l gap (k + 1)).length = gl + 1 := by rw [H.out.2.2.2.1, List.length_append, HGl.out]; rfl
            refine ⟨k + 1, some ⟨g, 0, none⟩, c3, by omega, by go_num, by rw [hlen], ?_, ?_, ?_⟩
            · rw [hlen, ← hset]
              exact st.1
            · exact bl_set (bl_grown (bl_alloc hB1.out _) O3.out.2.1 (fun q hq => own_from own1.out hq)) _ O3.out.2.2 _
            · refine Bk.setOther (bk1.out.grown O3.out.2.1 (own_apart own1.out bk1.out (by decide))) ?_ _
              have := own_apart O3.out.1 (bk1.out.grown O3.out.2.1 (own_apart own1.out bk1.out (by decide))) (by decide)
              simpa [Value.ownBlock] using this
          case measure => simp [intOf]; omega
      · rw [Bool.not_eq_true] at hst
        have hk0 : k ≠ 0 := by
          rintro rfl
          simp [gstart] at hst
        obtain ⟨b', o', hA, p0, p1, p2⟩ := hS.recAt (k := k - 1) (by omega)
        injection hA with hA
        injection hA with e1 e2 _
        subst e1
        subst e2
        have q2 := below_cell hb p2
        have hx' := hT.at_ (k := k - 1) (by omega)
        have b1 : ((k : Int) == 0) = false := by simpa using hk0
        have hgap : ¬ gap ≤ l[k].lo - l[k-1].hi := by
          have := hst
          simp only [gstart, rat_get hlt, rat_get (show k - 1 < l.length by omega), Bool.or_eq_false_iff, decide_eq_false_iff_not] at this
          exact this.2
        have hk1 : 1 ≤ k := by omega
        have hne := groups_ne l gap (k := k) (by omega)
        have hpos := List.length_pos_iff.2 hne
        obtain ⟨g, cap2, hv, hg, _⟩ := hown.form hpos
        injection hv with hA' _ hc'
        subst hA'
        subst hc'
        clear hk0 p0 p1 p2 h0 h1 h2
        have k1 := (Bk.new wr 57 #[.string l[k].driver, .int .i64 l[k].lo, .int .i64 l[k].hi]).later
        have k2 := (hbk.alloc (.cells #[.string l[k].driver, .int .i64 l[k].lo, .int .i64 l[k].hi] 57)).later
        have k3 := Later.cell (below_cell (bl_alloc (Below.refl wr.heap.size wr) (.cells #[.string l[k].driver, .int .i64 l[k].lo, .int .i64 l[k].hi] 57)) q2)
        obtain ⟨old, hold⟩ : ∃ old, ((groups l gap k).flatMap pairNC)[((groups l gap k).length - 1) * 2 + 1]? = some old := by
          rw [← Option.isSome_iff_exists, List.getElem?_eq_getElem (by rw [flatMap_len pairNC_len]; omega)]
          rfl
        have c9 := Later.cell (below_cell (bl_alloc (Below.refl wr.heap.size wr) (.cells #[.string l[k].driver, .int .i64 l[k].lo, .int .i64 l[k].hi] 57)) ((hown.cellAt (((groups l gap k).length - 1) * 2 + 1) (by omega)).trans hold))
        have H := Lib.hid (And.intro hown (And.intro hb (And.intro hbk (And.intro hst (And.intro hg hne)))))
        clear hown hb hbk hst hS hT hg hne hold
        generalize l[k].driver = d at *
        generalize l[k].lo = x at *
        generalize l[k].hi = y at *
        generalize l[k-1].hi = y' at *
        have hz := bl_alloc H.out.2.1 (.cells #[.string d, .int .i64 x, .int .i64 y] 57)
        go_wp2_with fail
        refine wp_region_later (by kernel_rfl) (by kernel_rfl) ?_
        repeat (go_big_quiet_step (fail))
        refine wpQuiet_nil ?_
        rintro _ ⟨nq, rfl⟩
        have own1 := Lib.hid (own_below (H.out.1.alloc (.cells #[.string d, .int .i64 x, .int .i64 y] 57)) nq.below)
        have hB1 := Lib.hid (below_step hz nq.below)
        have bk1 := Lib.hid ((H.out.2.2.1.alloc (.cells #[.string d, .int .i64 x, .int .i64 y] 57)).below nq.below)
        have c9' := c9 nq
        have f9 := own1.out.frozenAt (((groups l gap k).length - 1) * 2 + 1)
        clear hz c9 k1 k2 k3
        generalize hGl : (groups l gap k).length = gl at *
        have HGl := Lib.hid hGl
        clear hGl
        go_wp2
        go_roundw
        case rel =>
          have st := own1.out.stored ((gl - 1) * 2 + 1) (.int .i64 k)
          have hset := pairs_set (groups l gap k) H.out.2.2.2.2.2 k
          rw [HGl.out, groups_step l gap k (.inr ⟨H.out.2.2.2.1, rfl⟩)] at hset
          have hlen : (groups l gap (k + 1)).length = gl := by rw [groups, if_neg (by simp [H.out.2.2.2.1])]; simp [HGl.out]; omega
          refine ⟨k + 1, some ⟨g, 0, none⟩, c2, by omega, by go_num, by rw [hlen], ?_, ?_, ?_⟩
          · rw [hlen, ← hset]
            exact st.1
          · exact bl_set hB1.out _ H.out.2.2.2.2.1 _
          · refine Bk.setOther bk1.out ?_ _
            have := own_apart own1.out bk1.out (by decide)
            simpa [Value.ownBlock] using this
        case measure => simp [intOf]; omega
    · obtain rfl : k = l.length := by omega
      have H := Lib.hid (And.intro hown hb)
      clear hown hb hbk hS hT
      go_wp2
      go_ret
      exact ⟨A2, c2, rfl, H.out.1, H.out.2⟩
set_option maxRecDepth 100000 in
theorem c155 (l : List Rec) (r : Rul) (gap : Int) (A : Option Addr) (n cap : Nat) (w : World) (hn : n = l.length) (hp : 0 < n) (hl : n ≤ 1000) (hT : Timed l) (hS : Sl Rec.cells 3 w A l) :
    Calls Try.prog 155 #[.agg #[.int .i64 r.brk, .int .i64 r.rest, .int .i64 r.stint, .int .i64 r.shift, .int .i64 r.week, .slice A n cap], .int .i64 gap] w fun e w' => e = .returned (.int .i64 (lastOf l gap)) ∧ Below w.heap.size w w' := by
  subst hn
  have e89 := fun w' hb => c89 l r gap A _ cap w' rfl hl hT (hS.below (w' := w') hb)
  have hne := groups_ne l gap hp
  have hle := groups_len l gap l.length
  unfold lastOf
  generalize groups l gap l.length = G at *
  have hlen := List.length_pos_iff.2 hne
  have hat : ∀ j u, (pairNC (G.getLastD (0, 0)))[j]? = some u → (G.flatMap pairNC)[(G.length - 1) * 2 + j]? = some u := by
    obtain ⟨G', p, rfl⟩ : ∃ G' p, G = G' ++ [p] := ⟨G.dropLast, G.getLast hne, (List.dropLast_concat_getLast hne).symm⟩
    intro j u hu
    rw [List.flatMap_append, List.getElem?_append_right (by rw [flatMap_len pairNC_len]; simp), flatMap_len pairNC_len]
    simpa using hu
  have H := Lib.hid (And.intro e89 hat)
  clear e89 hat hS hT hne
  generalize (G.getLastD (0, 0)) = p at *
  obtain ⟨p1, p2⟩ := p
  generalize G.flatMap pairNC = fl at *
  obtain ⟨r0, r1, r2, r3, r4⟩ := r
  dsimp only at *
  go_enter Try.func155, Try.ntmps155
  go_wp2_with fail
  refine (H.out.1 _ (bl_alloc (Below.refl _ _) _)).mono ?_
  rintro e w1 ⟨A2, c2, rfl, own, hb1⟩
  obtain ⟨g, cap2, hv, hg, _⟩ := own.form hlen
  injection hv with hA' _ hc'
  subst hA'
  subst hc'
  have c9 : w1.cell? ⟨g, (G.length - 1) * 2, none⟩ = some (.int .i64 p1) := (own.cellAt _ (by omega)).trans (H.out.2 0 _ rfl)
  have HB := Lib.hid (below_step (bl_alloc (Below.refl _ w) _) hb1)
  clear own hb1
  go_wp2
  go_ret
  exact ⟨rfl, HB.out⟩

end Go.Proofs.Ytmfmpagfjgpodaa

/-! WF: The walk of the first rule that is broken at the last record; at most 1000 records, times up to 10000000000. -/
namespace Go.Proofs.Ytmfmpagfjgpodaa
open Go.RowKit

set_option maxRecDepth 100000 in
set_option maxHeartbeats 4000000 in
theorem c136 (l : List Rec) (r : Rul) (A : Option Addr) (n cap : Nat) (w : World) (hn : n = l.length) (hp : 0 < n) (hl : n ≤ 1000) (hcap : n ≤ cap) (hT : Timed l) (hS : Sl Rec.cells 3 w A l) :
    Calls Try.prog 136 #[.agg #[.int .i64 r.brk, .int .i64 r.rest, .int .i64 r.stint, .int .i64 r.shift, .int .i64 r.week, .slice A n cap]] w fun e w' => e = .returned (.int .i64 (brokenP r l)) ∧ Below w.heap.size w w' := by
  subst hn
  have hj := lastOf_lt r.brk hp
  have hm := lastOf_lt r.rest hp
  have e1 := fun w' hb => c155 l r r.brk A _ cap w' rfl hp hl hT (hS.below (w' := w') hb)
  have e2 := fun w' hb => c155 l r r.rest A _ cap w' rfl hp hl hT (hS.below (w' := w') hb)
  obtain ⟨b, o, rfl, j0, j1, j2⟩ := hS.recAt hj
  obtain ⟨b', o', hA, m0, m1, m2⟩ := hS.recAt hm
  injection hA with hA
  injection hA with hA1 hA2 _
  subst hA1
  subst hA2
  obtain ⟨b', o', hA, z0, z1, z2⟩ := hS.recAt (k := l.length - 1) (by omega)
  injection hA with hA
  injection hA with hA1 hA2 _
  subst hA1
  subst hA2
  have tj := hT.at_ hj
  have tm := hT.at_ hm
  have tz := hT.at_ (k := l.length - 1) (by omega)
  have hSd := hS.drop (lastOf l r.brk) b o rfl
  unfold brokenP
  rw [rat_get hj, rat_get hm, rat_get (show l.length - 1 < l.length by omega)]
  have e3 := fun w' hb => c79 (l.drop (lastOf l r.brk)) _ (l.length - lastOf l r.brk) (cap - lastOf l r.brk) l[lastOf l r.brk].lo l[l.length - 1].hi w' (by simp) (by omega) (hT.drop _) (by omega) (by omega) (hSd.below (w' := w') hb)
  have e4 := fun w' hb => c79 l _ _ cap (l[l.length - 1].hi - 604800) l[l.length - 1].hi w' rfl hl hT (by omega) (by omega) (hS.below (w' := w') hb)
  have H := Lib.hid (And.intro e1 (And.intro e2 (And.intro e3 e4)))
  clear e1 e2 e3 e4 hSd hS hT j0 j2 m0 m2 z0 z1
  have hcj : lastOf l r.brk < cap := by omega
  generalize l[lastOf l r.brk].hi = jh at *
  generalize l[lastOf l r.rest].hi = mh at *
  generalize l[lastOf l r.brk].lo = jl at *
  generalize l[lastOf l r.rest].lo = ml at *
  generalize l[l.length - 1].lo = el at *
  generalize l[l.length - 1].hi = e at *
  generalize workIn (l.drop (lastOf l r.brk)) jl e = W1 at *
  generalize workIn l (e - 604800) e = W2 at *
  generalize lastOf l r.brk = j at *
  generalize lastOf l r.rest = m at *
  obtain ⟨r0, r1, r2, r3, r4⟩ := r
  dsimp only at *
  go_enter Try.func136, Try.ntmps136
  have B0 := bl_alloc (Below.refl w.heap.size w) (.cells #[.int .i64 r0, .int .i64 r1, .int .i64 r2, .int .i64 r3, .int .i64 r4, .slice (some ⟨b, o, none⟩) l.length cap] 132)
  have D0 := Bk.new w 132 #[.int .i64 r0, .int .i64 r1, .int .i64 r2, .int .i64 r3, .int .i64 r4, .slice (some ⟨b, o, none⟩) l.length cap]
  have k1 := D0.later
  have k2 := Later.cell (below_cell B0 j1)
  have k3 := Later.cell (below_cell B0 m1)
  have z2' := below_cell B0 z2
  go_wp2_with fail
  refine wp_region_later (by kernel_rfl) (by kernel_rfl) ?_
  repeat (go_big_quiet_step ((go_at_call 155; exact later_of (H.out.1 _ (below_step B0 (Later.below _))))))
  refine wpQuiet_nil ?_
  rintro _ ⟨n1, rfl⟩
  have B1 := below_step B0 n1.below
  have D1 := D0.below n1.below
  have k1 := D1.later
  have k2 := Later.cell (below_cell B1 j1)
  have k3 := Later.cell (below_cell B1 m1)
  go_wp2_with fail
  refine wp_region_later (by kernel_rfl) (by kernel_rfl) ?_
  repeat (go_big_quiet_step ((go_at_call 79; exact later_of (H.out.2.2.1 _ (below_step B1 (Later.below _))))))
  refine wpQuiet_nil ?_
  rintro _ ⟨n2, rfl⟩
  have B2 := below_step B1 n2.below
  have D2 := D1.below n2.below
  have k1 := D2.later
  have k2 := Later.cell (below_cell B2 j1)
  have k3 := Later.cell (below_cell B2 m1)
  by_cases c1 : r2 < W1
  · have HB := Lib.hid B2
    clear B0 B1 B2 D0 D1 D2
    go_wp2
    go_ret
    refine ⟨?_, HB.out⟩
    first | rfl | (rw [if_pos (by omega)]; rfl) | (rw [if_neg (by omega), if_pos (by omega)]; rfl) | (rw [if_neg (by omega), if_neg (by omega), if_pos (by omega)]; rfl) | (rw [if_neg (by omega), if_neg (by omega), if_neg (by omega)]; rfl)
  go_wp2_with fail
  refine wp_region_later (by kernel_rfl) (by kernel_rfl) ?_
  repeat (go_big_quiet_step ((go_at_call 155; exact later_of (H.out.2.1 _ (below_step B2 (Later.below _))))))
  refine wpQuiet_nil ?_
  rintro _ ⟨n3, rfl⟩
  have B3 := below_step B2 n3.below
  have D3 := D2.below n3.below
  have k1 := D3.later
  have k2 := Later.cell (below_cell B3 j1)
  have k3 := Later.cell (below_cell B3 m1)
  by_cases c2 : r3 < e - ml
  · have HB := Lib.hid B3
    clear B0 B1 B2 B3 D0 D1 D2 D3
    go_wp2
    go_ret
    refine ⟨?_, HB.out⟩
    first | rfl | (rw [if_pos (by omega)]; rfl) | (rw [if_neg (by omega), if_pos (by omega)]; rfl) | (rw [if_neg (by omega), if_neg (by omega), if_pos (by omega)]; rfl) | (rw [if_neg (by omega), if_neg (by omega), if_neg (by omega)]; rfl)
  go_wp2_with fail
  refine wp_region_later (by kernel_rfl) (by kernel_rfl) ?_
  repeat (go_big_quiet_step ((go_at_call 79; exact later_of (H.out.2.2.2 _ (below_step B3 (Later.below _))))))
  refine wpQuiet_nil ?_
  rintro _ ⟨n4, rfl⟩
  have B4 := below_step B3 n4.below
  have D4 := D3.below n4.below
  have k1 := D4.later
  have k2 := Later.cell (below_cell B4 j1)
  have k3 := Later.cell (below_cell B4 m1)
  by_cases c3 : r4 < W2
  · have HB := Lib.hid B4
    clear B0 B1 B2 B3 B4 D0 D1 D2 D3 D4
    go_wp2
    go_ret
    refine ⟨?_, HB.out⟩
    first | rfl | (rw [if_pos (by omega)]; rfl) | (rw [if_neg (by omega), if_pos (by omega)]; rfl) | (rw [if_neg (by omega), if_neg (by omega), if_pos (by omega)]; rfl) | (rw [if_neg (by omega), if_neg (by omega), if_neg (by omega)]; rfl)
  · have HB := Lib.hid B4
    clear B0 B1 B2 B3 B4 D0 D1 D2 D3 D4
    go_wp2
    go_ret
    refine ⟨?_, HB.out⟩
    first | rfl | (rw [if_pos (by omega)]; rfl) | (rw [if_neg (by omega), if_pos (by omega)]; rfl) | (rw [if_neg (by omega), if_neg (by omega), if_pos (by omega)]; rfl) | (rw [if_neg (by omega), if_neg (by omega), if_neg (by omega)]; rfl)

end Go.Proofs.Ytmfmpagfjgpodaa
