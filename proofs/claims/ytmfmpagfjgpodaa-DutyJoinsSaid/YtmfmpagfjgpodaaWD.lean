/- The walks of the errors of records, and of opening a work; at most 1000000 records, texts of at most 1000 bytes. -/
import Derived.Test.YtmfmpagfjgpodaaWB
import Derived.Test.YtmfmpagfjgpodaaWC
import Derived.Test.YtmfmpagfjgpodaaSpec4
namespace Go.Proofs.Ytmfmpagfjgpodaa
open Go.RowKit

set_option maxRecDepth 100000 in
theorem c80 (l : List Rec) (A : Option Addr) (n cap : Nat) (w : World) (hn : n = l.length) (hl : n ≤ 1000000) (hd : Small l) (hS : Sl Rec.cells 3 w A l) :
    Calls Try.prog 80 #[.slice A n cap] w fun e w' => e = .returned (.tuple #[.int .i64 (checkRecs true l).1, .int .i64 (checkRecs true l).2]) ∧ Below w.heap.size w w' := by
  subst hn
  have H := Lib.hid (c115 l true A _ cap w rfl hl hd hS)
  clear hS
  generalize checkRecs true l = r at *
  go_enter Try.func80, Try.ntmps80
  go_wp2_with (go_at_call 115; refine H.out.mono ?_; rintro e w1 ⟨rfl, hb1⟩)
  go_ret2
  exact ⟨rfl, by assumption⟩
set_option maxRecDepth 100000 in
theorem c21 (l : List Rec) (A : Option Addr) (n cap : Nat) (w : World) (hn : n = l.length) (hl : n ≤ 1000000) (hd : Small l) (hS : Sl Rec.cells 3 w A l) :
    Calls Try.prog 21 #[.slice A n cap] w fun e w' => e = .returned (.int .i64 (checkRecs true l).2) ∧ Below w.heap.size w w' := by
  subst hn
  have H := Lib.hid (c80 l A _ cap w rfl hl hd hS)
  clear hS
  generalize checkRecs true l = r at *
  go_enter Try.func21, Try.ntmps21
  go_wp2_with (go_at_call 80; refine H.out.mono ?_; rintro e w1 ⟨rfl, hb1⟩)
  go_ret
  exact ⟨rfl, by assumption⟩
set_option maxRecDepth 100000 in
theorem c57 (l : List Rec) (A : Option Addr) (n cap : Nat) (w : World) (hn : n = l.length) (hl : n ≤ 1000000) (hd : Small l) (hS : Sl Rec.cells 3 w A l) :
    Calls Try.prog 57 #[.slice A n cap] w fun e w' => e = .returned (.int .i64 (checkRecs false l).2) ∧ Below w.heap.size w w' := by
  subst hn
  have H := Lib.hid (c115 l false A _ cap w rfl hl hd hS)
  clear hS
  generalize checkRecs false l = r at *
  go_enter Try.func57, Try.ntmps57
  go_wp2_with (go_at_call 115; refine H.out.mono ?_; rintro e w1 ⟨rfl, hb1⟩)
  go_ret
  exact ⟨rfl, by assumption⟩
/-- What 'open' hands back: rules and records as a work. -/
def workVal (r : Rul) (v : Value) : Value := .agg (r.cells.push v)
set_option maxRecDepth 100000 in
theorem c88 (r : Rul) (l : List Rec) (A : Option Addr) (n cap : Nat) (w : World) (hn : n = l.length) (hl : n ≤ 1000000) (hd : Small l) (hS : Sl Rec.cells 3 w A l) :
    Calls Try.prog 88 #[.agg r.cells, .slice A n cap] w fun e w' => e = .returned (.tuple #[.agg #[.int .i64 r.brk, .int .i64 r.rest, .int .i64 r.stint, .int .i64 r.shift, .int .i64 r.week, .slice A n cap], .int .i64 (bothErr r l)]) ∧ Below w.heap.size w w' := by
  subst hn
  have e61 := c137 r
  unfold bothErr
  by_cases hz : rulesErr r = 0
  · rw [if_neg (by simp [hz])]
    rw [hz] at e61
    obtain ⟨r0, r1, r2, r3, r4⟩ := r
    unfold Rul.cells at *
    dsimp only at *
    clear hz
    have H := Lib.hid (And.intro e61 hS)
    clear e61 hS
    go_enter Try.func88, Try.ntmps88
    go_wp2_with fail
    refine (H.out.1 _).mono ?_
    rintro e w1 ⟨rfl, hb1⟩
    have hB := below_step (bl_alloc (bl_alloc (Below.refl _ w) _) _) hb1
    have HB := Lib.hid hB
    have k2 := (((Bk.new w 35 #[.int .i64 r0, .int .i64 r1, .int .i64 r2, .int .i64 r3, .int .i64 r4]).alloc (.cells #[.int .i64 0, .int .i64 0, .int .i64 0, .int .i64 0, .int .i64 0, .slice none 0 0] 132)).below hb1)
    have k4 := (Bk.new (w.alloc (.cells #[.int .i64 r0, .int .i64 r1, .int .i64 r2, .int .i64 r3, .int .i64 r4] 35)) 132 #[.int .i64 0, .int .i64 0, .int .i64 0, .int .i64 0, .int .i64 0, .slice none 0 0]).below hb1
    clear hB hb1
    go_wp2_with fail
    refine (c76 l A _ cap _ rfl hl hd (H.out.2.below HB.out)).mono ?_
    rintro e w2 ⟨rfl, hb2⟩
    have k2' := (k2.below hb2).cell
    have k4' := (k4.below hb2).cell
    have k4f := (k4.below hb2).frozen
    simp only [World.size_alloc] at k4' k4f
    go_wp2
    refine bodyPost_ret (v := .tuple #[.agg #[.int .i64 r0, .int .i64 r1, .int .i64 r2, .int .i64 r3, .int .i64 r4, .slice A l.length cap], .int .i64 (checkRecs true l).2]) (by simp [results, Try.results88, go_sem, k4']) rfl ⟨rfl, ?_⟩
    repeat refine bl_set ?_ _ (by simp) _
    exact below_step HB.out hb2
  · rw [if_pos hz]
    have hz1 : (rulesErr r == 0) = false := by simpa using hz
    generalize rulesErr r = er at *
    obtain ⟨r0, r1, r2, r3, r4⟩ := r
    unfold Rul.cells at *
    dsimp only at *
    have H := Lib.hid e61
    clear e61 hS hz
    go_enter Try.func88, Try.ntmps88
    go_wp2_with fail
    refine (H.out _).mono ?_
    rintro e w1 ⟨rfl, hb1⟩
    have hB := below_step (bl_alloc (bl_alloc (Below.refl _ w) _) _) hb1
    have HB := Lib.hid hB
    have k2' := (((Bk.new w 35 #[.int .i64 r0, .int .i64 r1, .int .i64 r2, .int .i64 r3, .int .i64 r4]).alloc (.cells #[.int .i64 0, .int .i64 0, .int .i64 0, .int .i64 0, .int .i64 0, .slice none 0 0] 132)).below hb1).cell
    have k4 := (Bk.new (w.alloc (.cells #[.int .i64 r0, .int .i64 r1, .int .i64 r2, .int .i64 r3, .int .i64 r4] 35)) 132 #[.int .i64 0, .int .i64 0, .int .i64 0, .int .i64 0, .int .i64 0, .slice none 0 0]).below hb1
    have k4' := k4.cell
    have k4f := k4.frozen
    simp only [World.size_alloc] at k4' k4f
    clear hB hb1
    go_wp2
    refine bodyPost_ret (v := .tuple #[.agg #[.int .i64 r0, .int .i64 r1, .int .i64 r2, .int .i64 r3, .int .i64 r4, .slice A l.length cap], .int .i64 er]) (by simp [results, Try.results88, go_sem, k4']) rfl ⟨rfl, ?_⟩
    repeat refine bl_set ?_ _ (by simp) _
    exact HB.out

end Go.Proofs.Ytmfmpagfjgpodaa
