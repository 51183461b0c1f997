/- The walk of the first rule that is broken at the last record; at most 1000 records, times up to 10000000000. -/
import Derived.Test.YtmfmpagfjgpodaaWE
namespace Go.Proofs.Ytmfmpagfjgpodaa
open Go.RowKit

set_option maxRecDepth 100000 in
set_option maxHeartbeats 4000000 in
theorem c136 (l : List Rec) (r : Rul) (A : Option Addr) (n cap : Nat) (w : World) (hn : n = l.length) (hp : 0 < n) (hl : n ≤ 1000) (hcap : n ≤ cap) (hT : Timed l) (hS : Sl Rec.cells 3 w A l) :
    Calls Try.prog 136 #[.agg #[.int .i64 r.brk, .int .i64 r.rest, .int .i64 r.stint, .int .i64 r.shift, .int .i64 r.week, .slice A n cap]] w fun e w' => e = .returned (.int .i64 (brokenP r l)) ∧ Below w.heap.size w w' := by
  subst hn
  have hj := lastOf_lt r.brk hp
  have hm := lastOf_lt r.rest hp
  have e1 := fun w' hb => c155 l r r.brk A _ cap w' rfl hp hl hT (hS.below (w' := w') hb)
  have e2 := fun w' hb => c155 l r r.rest A _ cap w' rfl hp hl hT (hS.below (w' := w') hb)
  obtain ⟨b, o, rfl, j0, j1, j2⟩ := hS.recAt hj
  obtain ⟨b', o', hA, m0, m1, m2⟩ := hS.recAt hm
  injection hA with hA
  injection hA with hA1 hA2 _
  subst hA1
  subst hA2
  obtain ⟨b', o', hA, z0, z1, z2⟩ := hS.recAt (k := l.length - 1) (by omega)
  injection hA with hA
  injection hA with hA1 hA2 _
  subst hA1
  subst hA2
  have tj := hT.at_ hj
  have tm := hT.at_ hm
  have tz := hT.at_ (k := l.length - 1) (by omega)
  have hSd := hS.drop (lastOf l r.brk) b o rfl
  unfold brokenP
  rw [rat_get hj, rat_get hm, rat_get (show l.length - 1 < l.length by omega)]
  have e3 := fun w' hb => c79 (l.drop (lastOf l r.brk)) _ (l.length - lastOf l r.brk) (cap - lastOf l r.brk) l[lastOf l r.brk].lo l[l.length - 1].hi w' (by simp) (by omega) (hT.drop _) (by omega) (by omega) (hSd.below (w' := w') hb)
  have e4 := fun w' hb => c79 l _ _ cap (l[l.length - 1].hi - 604800) l[l.length - 1].hi w' rfl hl hT (by omega) (by omega) (hS.below (w' := w') hb)
  have H := Lib.hid (And.intro e1 (And.intro e2 (And.intro e3 e4)))
  clear e1 e2 e3 e4 hSd hS hT j0 j2 m0 m2 z0 z1
  have hcj : lastOf l r.brk < cap := by omega
  generalize l[lastOf l r.brk].hi = jh at *
  generalize l[lastOf l r.rest].hi = mh at *
  generalize l[lastOf l r.brk].lo = jl at *
  generalize l[lastOf l r.rest].lo = ml at *
  generalize l[l.length - 1].lo = el at *
  generalize l[l.length - 1].hi = e at *
  generalize workIn (l.drop (lastOf l r.brk)) jl e = W1 at *
  generalize workIn l (e - 604800) e = W2 at *
  generalize lastOf l r.brk = j at *
  generalize lastOf l r.rest = m at *
  obtain ⟨r0, r1, r2, r3, r4⟩ := r
  dsimp only at *
  go_enter Try.func136, Try.ntmps136
  have B0 := bl_alloc (Below.refl w.heap.size w) (.cells #[.int .i64 r0, .int .i64 r1, .int .i64 r2, .int .i64 r3, .int .i64 r4, .slice (some ⟨b, o, none⟩) l.length cap] 132)
  have D0 := Bk.new w 132 #[.int .i64 r0, .int .i64 r1, .int .i64 r2, .int .i64 r3, .int .i64 r4, .slice (some ⟨b, o, none⟩) l.length cap]
  have k1 := D0.later
  have k2 := Later.cell (below_cell B0 j1)
  have k3 := Later.cell (below_cell B0 m1)
  have z2' := below_cell B0 z2
  go_wp2_with fail
  refine wp_region_later (by kernel_rfl) (by kernel_rfl) ?_
  repeat (go_big_quiet_step ((go_at_call 155; exact later_of (H.out.1 _ (below_step B0 (Later.below _))))))
  refine wpQuiet_nil ?_
  rintro _ ⟨n1, rfl⟩
  have B1 := below_step B0 n1.below
  have D1 := D0.below n1.below
  have k1 := D1.later
  have k2 := Later.cell (below_cell B1 j1)
  have k3 := Later.cell (below_cell B1 m1)
  go_wp2_with fail
  refine wp_region_later (by kernel_rfl) (by kernel_rfl) ?_
  repeat (go_big_quiet_step ((go_at_call 79; exact later_of (H.out.2.2.1 _ (below_step B1 (Later.below _))))))
  refine wpQuiet_nil ?_
  rintro _ ⟨n2, rfl⟩
  have B2 := below_step B1 n2.below
  have D2 := D1.below n2.below
  have k1 := D2.later
  have k2 := Later.cell (below_cell B2 j1)
  have k3 := Later.cell (below_cell B2 m1)
  by_cases c1 : r2 < W1
  · have HB := Lib.hid B2
    clear B0 B1 B2 D0 D1 D2
    go_wp2
    go_ret
    refine ⟨?_, HB.out⟩
    first | rfl | (rw [if_pos (by omega)]; rfl) | (rw [if_neg (by omega), if_pos (by omega)]; rfl) | (rw [if_neg (by omega), if_neg (by omega), if_pos (by omega)]; rfl) | (rw [if_neg (by omega), if_neg (by omega), if_neg (by omega)]; rfl)
  go_wp2_with fail
  refine wp_region_later (by kernel_rfl) (by kernel_rfl) ?_
  repeat (go_big_quiet_step ((go_at_call 155; exact later_of (H.out.2.1 _ (below_step B2 (Later.below _))))))
  refine wpQuiet_nil ?_
  rintro _ ⟨n3, rfl⟩
  have B3 := below_step B2 n3.below
  have D3 := D2.below n3.below
  have k1 := D3.later
  have k2 := Later.cell (below_cell B3 j1)
  have k3 := Later.cell (below_cell B3 m1)
  by_cases c2 : r3 < e - ml
  · have HB := Lib.hid B3
    clear B0 B1 B2 B3 D0 D1 D2 D3
    go_wp2
    go_ret
    refine ⟨?_, HB.out⟩
    first | rfl | (rw [if_pos (by omega)]; rfl) | (rw [if_neg (by omega), if_pos (by omega)]; rfl) | (rw [if_neg (by omega), if_neg (by omega), if_pos (by omega)]; rfl) | (rw [if_neg (by omega), if_neg (by omega), if_neg (by omega)]; rfl)
  go_wp2_with fail
  refine wp_region_later (by kernel_rfl) (by kernel_rfl) ?_
  repeat (go_big_quiet_step ((go_at_call 79; exact later_of (H.out.2.2.2 _ (below_step B3 (Later.below _))))))
  refine wpQuiet_nil ?_
  rintro _ ⟨n4, rfl⟩
  have B4 := below_step B3 n4.below
  have D4 := D3.below n4.below
  have k1 := D4.later
  have k2 := Later.cell (below_cell B4 j1)
  have k3 := Later.cell (below_cell B4 m1)
  by_cases c3 : r4 < W2
  · have HB := Lib.hid B4
    clear B0 B1 B2 B3 B4 D0 D1 D2 D3 D4
    go_wp2
    go_ret
    refine ⟨?_, HB.out⟩
    first | rfl | (rw [if_pos (by omega)]; rfl) | (rw [if_neg (by omega), if_pos (by omega)]; rfl) | (rw [if_neg (by omega), if_neg (by omega), if_pos (by omega)]; rfl) | (rw [if_neg (by omega), if_neg (by omega), if_neg (by omega)]; rfl)
  · have HB := Lib.hid B4
    clear B0 B1 B2 B3 B4 D0 D1 D2 D3 D4
    go_wp2
    go_ret
    refine ⟨?_, HB.out⟩
    first | rfl | (rw [if_pos (by omega)]; rfl) | (rw [if_neg (by omega), if_pos (by omega)]; rfl) | (rw [if_neg (by omega), if_neg (by omega), if_pos (by omega)]; rfl) | (rw [if_neg (by omega), if_neg (by omega), if_neg (by omega)]; rfl)

end Go.Proofs.Ytmfmpagfjgpodaa
