/- The walk of Allowed; at most 1000 records, texts of at most 1000 bytes. -/
import Derived.Test.YtmfmpagfjgpodaaWK
import Derived.Test.YtmfmpagfjgpodaaWE
namespace Go.Proofs.Ytmfmpagfjgpodaa
open Go.RowKit

/-- The answer of Allowed. -/
def allowOut (r : Rul) (l : List Rec) (t : Trip) : Int × Int × Int :=
  if tripErrP r l t ≠ 0 then (0, 0, tripErrP r l t)
  else (if breaksP r l t.start t.next t.hi = 0 then 2 else if breaksP r l t.start t.next t.lo = 0 then 1 else 0, breaksP r l t.start t.next t.hi, 0)
set_option maxRecDepth 100000 in
set_option maxHeartbeats 4000000 in
theorem c24 (l : List Rec) (r : Rul) (t : Trip) (A : Option Addr) (n cap : Nat) (w : World) (hn : n = l.length) (hl : n ≤ 1000) (hcap : n ≤ cap) (hd : Small l) (hS : Sl Rec.cells 3 w A l) :
    Calls Try.prog 24 #[.agg r.cells, .slice A n cap, .agg t.cells] w fun e w' => e = .returned (.tuple #[.int .i64 (allowOut r l t).1, .int .i64 (allowOut r l t).2.1, .int .i64 (allowOut r l t).2.2]) ∧ Below w.heap.size w w' := by
  subst hn
  have e81 := fun w' hb => c81 l r t A _ cap w' rfl hl hcap hd (hS.below (w' := w') hb)
  unfold allowOut
  have e82 := fun (h0 : tripErrP r l t = 0) (len : Int) (h3 : 0 ≤ len) (h4 : len ≤ 1000000) (w' : World) (hb : Below w.heap.size w w') =>
    have ok := tripErr_zero h0
    c82 l r t len A _ cap w' rfl (by have := ok.few; omega) hcap ok.right.timed (hS.below hb) ok.start.1 (by have := ok.start.2; omega) h3 h4 (by have := ok.next; omega)
  have hlo := fun (h0 : tripErrP r l t = 0) => (tripErr_zero h0).lo
  have hhi := fun (h0 : tripErrP r l t = 0) => (tripErr_zero h0).hi
  generalize hbf : (fun len => breaksP r l t.start t.next len) = bf
  have hbf' : ∀ len, breaksP r l t.start t.next len = bf len := fun len => by rw [← hbf]
  simp only [hbf'] at e82 ⊢
  clear hbf hbf'
  generalize tripErrP r l t = E at *
  have H := Lib.hid (And.intro e81 (And.intro e82 (And.intro hlo hhi)))
  clear e81 e82 hS hd hlo hhi
  obtain ⟨t0, t1, t2, t3⟩ := t
  obtain ⟨r0, r1, r2, r3, r4⟩ := r
  unfold Rul.cells Trip.cells at *
  dsimp only at *
  generalize hX : (if E ≠ 0 then ((0 : Int), (0 : Int), E) else (if bf t2 = 0 then 2 else if bf t1 = 0 then 1 else 0, bf t2, 0)) = X
  have HX := Lib.hid hX
  clear hX
  have B0 := bl_alloc (bl_alloc (Below.refl w.heap.size w) (.cells #[.int .i64 r0, .int .i64 r1, .int .i64 r2, .int .i64 r3, .int .i64 r4] 35)) (.cells #[.int .i64 t0, .int .i64 t1, .int .i64 t2, .int .i64 t3] 39)
  have K8 := Bk.new (w.alloc (.cells #[.int .i64 r0, .int .i64 r1, .int .i64 r2, .int .i64 r3, .int .i64 r4] 35)) 39 #[.int .i64 t0, .int .i64 t1, .int .i64 t2, .int .i64 t3]
  simp only [World.size_alloc] at K8
  have G := Lib.hid (And.intro B0 K8)
  clear B0 K8
  go_enter Try.func24, Try.ntmps24
  go_wp2_with fail
  refine (H.out.1 _ G.out.1).mono ?_
  rintro e w1 ⟨rfl, hb1⟩
  have G1 := Lib.hid (And.intro (below_step G.out.1 hb1) (G.out.2.below hb1))
  have c8 := (G1.out.2.alloc (.cells #[.int .i64 r0, .int .i64 r1, .int .i64 r2, .int .i64 r3, .int .i64 r4, .slice A l.length cap] 132)).cell
  clear hb1
  by_cases hE : E = 0
  · subst hE
    have hX := HX.out
    rw [if_neg (by simp)] at hX
    have e82 := H.out.2.1 rfl
    have hlo := H.out.2.2.1 rfl
    have hhi := H.out.2.2.2 rfl
    have D1 := Bk.new w1 132 #[.int .i64 r0, .int .i64 r1, .int .i64 r2, .int .i64 r3, .int .i64 r4, .slice A l.length cap]
    go_wp2_with fail
    refine (e82 t2 hhi.1 (by omega) _ (bl_alloc G1.out.1 _)).mono ?_
    rintro e w2 ⟨rfl, hb2⟩
    have B2 := below_step (bl_alloc G1.out.1 _) hb2
    have c9 := (D1.below hb2).cell
    have c10 := ((G1.out.2.alloc _).below hb2).cell
    have D2 := Lib.hid (And.intro (D1.below hb2) ((G1.out.2.alloc _).below hb2))
    clear hb2 c8 D1
    generalize bf t2 = x at *
    by_cases hx : x = 0
    · subst hx
      rw [if_pos rfl] at hX
      subst hX
      go_wp2
      refine bodyPost_ret (v := .tuple #[.int .i64 2, .int .i64 0, .int .i64 0]) (by simp [results, Try.results24, go_sem]) rfl ⟨rfl, B2⟩
    · have hx1 : (x == 0) = false := by simpa using hx
      rw [if_neg hx] at hX
      go_wp2_with fail
      refine (e82 t1 hlo.1 (by omega) _ B2).mono ?_
      rintro e w3 ⟨rfl, hb3⟩
      have B3 := below_step B2 hb3
      clear hb3 B2 c9 c10 D2
      generalize bf t1 = y at *
      by_cases hy : y = 0
      · subst hy
        rw [if_pos rfl] at hX
        subst hX
        go_wp2
        refine bodyPost_ret (v := .tuple #[.int .i64 1, .int .i64 x, .int .i64 0]) (by simp [results, Try.results24, go_sem]) rfl ⟨rfl, B3⟩
      · have hy1 : (y == 0) = false := by simpa using hy
        rw [if_neg hy] at hX
        subst hX
        go_wp2
        refine bodyPost_ret (v := .tuple #[.int .i64 0, .int .i64 x, .int .i64 0]) (by simp [results, Try.results24, go_sem]) rfl ⟨rfl, B3⟩
  · have hX := HX.out
    rw [if_pos hE] at hX
    subst hX
    have hE1 : (E != 0) = true := by simpa using hE
    go_wp2
    refine bodyPost_ret (v := .tuple #[.int .i64 0, .int .i64 0, .int .i64 E]) (by simp [results, Try.results24, go_sem]) rfl ⟨rfl, bl_alloc G1.out.1 _⟩

end Go.Proofs.Ytmfmpagfjgpodaa
