/- Texts in one: The walk of FirstBroken; at most 1000000 records, texts of at most 1000 bytes. -/
import Derived.Test.YtmfmpagfjgpodaaMS10
import Derived.Test.YtmfmpagfjgpodaaMS12
import Derived.Test.YtmfmpagfjgpodaaMS0
/-! WH: The walk of FirstBroken; at most 1000000 records, texts of at most 1000 bytes. -/
namespace Go.Proofs.Ytmfmpagfjgpodaa
open Go.RowKit

set_option maxRecDepth 100000 in
set_option maxHeartbeats 2000000 in
theorem c34 (l : List Rec) (r : Rul) (A : Option Addr) (n cap : Nat) (w : World) (hn : n = l.length) (hl : n ≤ 1000000) (hcap : n ≤ cap) (hd : Small l) (hS : Sl Rec.cells 3 w A l) :
    Calls Try.prog 34 #[.agg r.cells, .slice A n cap] w fun e w' => e = .returned (.tuple #[.agg #[.int .i64 (fbOut r l).1, .int .i64 (fbOut r l).2.1], .int .i64 (fbOut r l).2.2]) ∧ Below w.heap.size w w' := by
  subst hn
  have e88 := fun w' hb => c88 r l A _ cap w' rfl hl hd (hS.below (w' := w') hb)
  have e90 := fun (hR : Right true l) w' hb => c90 l r A _ cap w' rfl (by have := hR.len; omega) hcap hR.timed (hS.below (w' := w') hb)
  unfold fbOut
  by_cases hz : bothErr r l = 0
  · rw [if_neg (by simp [hz])]
    have hR := (bothErr_zero hz).2
    have e90' := e90 hR
    rw [hz] at e88
    clear e90 hz hR hS
    generalize hfb : firstBroken r l = fb at *
    clear hfb
    have H := Lib.hid (And.intro e88 e90')
    clear e88 e90'
    obtain ⟨k, e⟩ := fb
    obtain ⟨r0, r1, r2, r3, r4⟩ := r
    unfold Rul.cells at *
    dsimp only at *
    have B0 := bl_alloc (bl_alloc (Below.refl w.heap.size w) (.cells #[.int .i64 r0, .int .i64 r1, .int .i64 r2, .int .i64 r3, .int .i64 r4] 35)) (.cells #[.int .i64 0, .int .i64 0] 60)
    have b4 := Bk.new (w.alloc (.cells #[.int .i64 r0, .int .i64 r1, .int .i64 r2, .int .i64 r3, .int .i64 r4] 35)) 60 #[.int .i64 0, .int .i64 0]
    have G := Lib.hid (And.intro B0 b4)
    clear B0 b4
    go_enter Try.func34, Try.ntmps34
    go_wp2_with fail
    refine (H.out.1 _ G.out.1).mono ?_
    rintro e w1 ⟨rfl, hb1⟩
    have G1 := Lib.hid (And.intro (below_step G.out.1 hb1) (G.out.2.below hb1))
    clear hb1
    go_wp2_with fail
    refine (H.out.2 _ (bl_alloc G1.out.1 _)).mono ?_
    rintro e w2 ⟨rfl, hb2⟩
    have G2 := Lib.hid (And.intro (below_step (bl_alloc G1.out.1 _) hb2) ((G1.out.2.alloc _).below hb2))
    clear hb2
    go_wp2_with fail
    have k8 := (Bk.new w2 60 #[.int .i64 e, .int .i64 k]).later
    refine wp_region_tail 5 (by kernel_rfl) (by kernel_rfl) ?_
    simp only [List.take_succ_cons, List.take_zero, List.drop_succ_cons, List.drop_zero]
    repeat (go_big_quiet_step ((go_at_call 78; exact later_same (c78 _ _ _))))
    refine wpQuiet_nil ?_
    rintro _ ⟨nq, rfl⟩
    have c4 := ((G2.out.2.alloc _).below nq.below).cell
    have f4 := ((G2.out.2.alloc _).below nq.below).frozen
    simp only [World.size_alloc] at c4 f4
    go_wp2
    refine bodyPost_ret (v := .tuple #[.agg #[.int .i64 e, .int .i64 k], .int .i64 (unl (e != 0) 12)]) (by simp [results, Try.results34, go_sem, c4]) rfl ⟨?_, ?_⟩
    · have hq : (e != 0) = decide (e ≠ 0) := by by_cases h : e = 0 <;> simp [h]
      rw [hq]
    · repeat refine bl_set ?_ _ (by simp) _
      exact below_step (bl_alloc G2.out.1 _) nq.below
  · rw [if_pos hz]
    have hz1 : (bothErr r l != 0) = true := by simpa using hz
    clear e90 hS hz
    generalize bothErr r l = er at *
    have H := Lib.hid e88
    clear e88
    obtain ⟨r0, r1, r2, r3, r4⟩ := r
    unfold Rul.cells at *
    dsimp only at *
    have B0 := bl_alloc (bl_alloc (Below.refl w.heap.size w) (.cells #[.int .i64 r0, .int .i64 r1, .int .i64 r2, .int .i64 r3, .int .i64 r4] 35)) (.cells #[.int .i64 0, .int .i64 0] 60)
    have b4 := Bk.new (w.alloc (.cells #[.int .i64 r0, .int .i64 r1, .int .i64 r2, .int .i64 r3, .int .i64 r4] 35)) 60 #[.int .i64 0, .int .i64 0]
    have G := Lib.hid (And.intro B0 b4)
    clear B0 b4
    go_enter Try.func34, Try.ntmps34
    go_wp2_with fail
    refine (H.out _ G.out.1).mono ?_
    rintro e w1 ⟨rfl, hb1⟩
    have G1 := Lib.hid (And.intro (below_step G.out.1 hb1) (G.out.2.below hb1))
    have c4 := ((G1.out.2.alloc (.cells #[.int .i64 r0, .int .i64 r1, .int .i64 r2, .int .i64 r3, .int .i64 r4, .slice A l.length cap] 132))).cell
    have f4 := ((G1.out.2.alloc (.cells #[.int .i64 r0, .int .i64 r1, .int .i64 r2, .int .i64 r3, .int .i64 r4, .slice A l.length cap] 132))).frozen
    simp only [World.size_alloc] at c4 f4
    clear hb1
    go_wp2
    refine bodyPost_ret (v := .tuple #[.agg #[.int .i64 0, .int .i64 0], .int .i64 er]) (by simp [results, Try.results34, go_sem, c4]) rfl ⟨rfl, ?_⟩
    repeat refine bl_set ?_ _ (by simp) _
    exact bl_alloc G1.out.1 _

end Go.Proofs.Ytmfmpagfjgpodaa
