/- Texts in one: slices.Repeat: the number -1, so many times; no condition. -/
import Derived.Test.YthbgghmjbaldlaaFO15
import Derived.Laws.CopyOwn
import Derived.Laws.MakeOwn
import Derived.Deep.RegionLaw
import Derived.WalkKit
/-! QMo4: slices.Repeat: the number -1, so many times; no condition. -/
namespace Go.Proofs.Ythbgghmjbaldlaa
open Go.RowKit
set_option maxRecDepth 100000
set_option maxHeartbeats 1000000
def Rw (w : World) (g N k : Nat) : Prop := ∃ row : List Value, w.heap[g]? = some (.cells row.toArray 3 (0, 0)) ∧ row.length = N ∧ ∀ j, j < k → row[j]? = some (.int .i64 (-1))
set_option maxHeartbeats 8000000 in
theorem rep_calls (n : Nat) (hn : 0 < n ∧ n ≤ 1000) (ad : Addr) (c : Nat) (w : World) (hA : w.cell? ad = some (.int .i64 (-1)))
   (hmul : ∀ w, Calls Try.prog 51 #[.int .u64 1, .int .u64 n] w fun e w' => e = .returned (.tuple #[.int .u64 0, .int .u64 n]) ∧ w' = w) :
    Calls Try.prog 27 #[.slice (some ad) 1 c, .int .i64 n] w fun e w' => ∃ b, e = .returned (.slice (some ⟨b, 0, none⟩) n n) ∧ w.heap.size ≤ b ∧ Rw w' b n n ∧ Below w.heap.size w w' := by
  obtain ⟨i0, hi⟩ : ∃ i, Try.prog.info? 3 = some i := Option.isSome_iff_exists.1 (by kernel_rfl)
  have hz0 : i0.zero = some (.int .i64 0) := by
    have : (Try.prog.info? 3).bind (·.zero) = some (.int .i64 0) := by kernel_rfl
    rwa [hi] at this
  have hz1 : i0.size = 1 := by
    have : (Try.prog.info? 3).map (·.size) = some 1 := by kernel_rfl
    rw [hi] at this
    simpa using this
  have hz2 : i0.bytes = 8 := by
    have : (Try.prog.info? 3).map (·.bytes) = some 8 := by kernel_rfl
    rw [hi] at this
    simpa using this
  have hsz : (Try.prog.info? 3).map (·.size) = some 1 := by rw [hi]; simp [hz1]
  obtain ⟨M, hM⟩ : ∃ M, M = madeCells (Value.int .i64 0).cells (((n : Nat) : Int).toNat * i0.size) := ⟨_, rfl⟩
  have hMs : M.size = n := by rw [hM, size_madeCells, hz1]; simp
  have hmk : ∀ W : World, (Instr.makeSlice 30 (.int .i64 (n : Int)) (.int .i64 (n : Int))).run Try.prog W = .ok (.slice (some ⟨W.heap.size, 0, none⟩) n n) (W.alloc (.cells M 3)) := fun W => by
    have h := Go.run_make (P := Try.prog) W 30 3 i0 (.int .i64 0) Try.underlying30 hi hz0 .i64 .i64 (n : Int) (n : Int) (by omega) (by omega) (by rw [hz2]; omega) (by omega)
    rw [← hM] at h
    simpa using h
  clear hM
  have h1 : IntKind.u64.wrap (n : Int) = n := by rw [IntKind.wrap_u64]; omega
  have h2 : IntKind.i64.wrap (n : Int) = n := by rw [IntKind.wrap_i64]; omega
  have h3 : ¬ ((n : Int) < 0) := by omega
  have h4 : ¬ ((9223372036854775807 : Int) < n) := by omega
  go_enter Try.func27, Try.ntmps27
  go_wp2_with fail
  refine (hmul _).mono ?_
  rintro e w' ⟨rfl, rfl⟩
  have hb0 : Below w'.heap.size w' (w'.alloc (.cells M 3)) := (Below.refl _ w').alloc (Nat.le_refl _) _
  have hg0 : (w'.alloc (.cells M 3)).heap[w'.heap.size]? = some (.cells M.toList.toArray 3 (0, 0)) := by rw [Array.toArray_toList]; exact heap_alloc_new w' _
  have hA0 : (w'.alloc (.cells M 3)).cell? (ad.add 0) = some (.int .i64 (-1)) := by
    have : ad.add 0 = ad := by cases ad; simp [Addr.add]
    rw [this]
    exact below_cell hb0 hA
  have H := Lib.hid (And.intro hb0 (And.intro hg0 hA0))
  clear hb0 hg0 hA0
  have hn1 := Lib.hid (show [Value.int .i64 (-1)].length = Nat.min 1 n by rw [show Nat.min 1 n = 1 from Nat.min_eq_left (by omega)]; rfl)
  have hf1 : 0 + [Value.int .i64 (-1)].length ≤ M.toList.length := by simp; omega
  go_wp2_with (refine wpList_copy_splice rfl (.tmp 31) (.tmp 32) 30 30 rfl 3 Try.underlying30 hsz (some ⟨w'.heap.size, 0, none⟩) (some ad) n n 1 c (by first | rfl | simp [Act.eval]) (by first | rfl | simp [Act.eval]) w'.heap.size 0 M.toList 3 H.out.2.1 [.int .i64 (-1)] hn1.out (fun _ => ⟨rfl, ad, rfl, fun j v hj => by
      cases j with
      | zero => simp at hj; subst hj; exact H.out.2.2
      | succ j => simp at hj⟩) hf1 (by simp [Value.oneCell']) w'.heap.size w' H.out.1 (Nat.le_refl _) ?_; intro w2 HG2 hB2)
  have hMl : M.toList.length = n := by simpa using hMs
  have hR : Rw w2 w'.heap.size n 1 := by
    refine ⟨_, HG2.out, by rw [length_splice _ _ _ (by simp; omega)]; exact hMl, fun j hj => ?_⟩
    obtain rfl : j = 0 := by omega
    simp [splice]
  clear HG2 H hmk hmul hn1 hf1 hMl hMs
  go_loopw [8] (fun i wr => ∃ k : Nat, 1 ≤ k ∧ k ≤ n ∧ i = .int .i64 k ∧ Rw wr w'.heap.size n k ∧ Below w'.heap.size w' wr) (fun i _ => n - (intOf i).toNat)
  case atStart => exact ⟨1, by omega, by omega, rfl, hR, hB2⟩
  case round =>
    obtain ⟨k, hk1, hk, rfl, ⟨row, hg, hl, hrow⟩, hb⟩ := hrel
    by_cases hlt : k < n
    · have HG := Lib.hid (And.intro hg (And.intro hrow (And.intro hb hl)))
      clear hg hrow hb hl hR hB2
      go_wp2_with fail
      have hm := Lib.hid (show (List.replicate (min k (n - k)) (Value.int .i64 (-1))).length = Nat.min k (n - k) by simp)
      have hne : ¬ n = k := by omega
      have hlen : (List.replicate (min k (n - k)) (Value.int .i64 (-1))).length ≤ n - k := by simp; omega
      have hb' := below_step HG.out.2.2.1 (Below.refl wr.heap.size wr).drew
      have hd := Lib.hid (And.intro hb' hlen)
      clear hb' hlen
      go_region_law (refine step_copy_splice rfl (.tmp 41) (.tmp 44) 30 30 rfl 3 Try.underlying30 hsz (some ⟨w'.heap.size, k, none⟩) (some ⟨w'.heap.size, 0, none⟩) (n - k) (n - k) k n (by first | rfl | simp [Act.eval, Act.put, hne]) (by first | rfl | simp [Act.eval, Act.put]) w'.heap.size k row 3 HG.out.1 (List.replicate (min k (n - k)) (Value.int .i64 (-1))) hm.out (fun _ => ⟨rfl, _, rfl, fun j v hj => by
          rw [List.getElem?_replicate] at hj
          split at hj
          · rename_i hjk
            obtain rfl := Option.some.inj hj
            have h5 := HG.out.2.1 j (by omega)
            have : wr.drew.cell? ((⟨w'.heap.size, 0, none⟩ : Addr).add j) = row[j]? := by
              have hh : wr.drew.heap[w'.heap.size]? = some (.cells row.toArray 3 (0, 0)) := HG.out.1
              rw [add_plain]
              simp [World.cell?, hh]
            rw [this]
            exact h5
          · cases hj⟩) (by rw [HG.out.2.2.2]; have := hd.out.2; omega) (fun v hv => by rw [List.eq_of_mem_replicate hv]; rfl) w'.heap.size w' hd.out.1 (Nat.le_refl _) ?_; intro w4 hg4 hb4)
      have e1 : IntKind.i64.wrap ((k : Int) + ((min k (n - k) : Nat) : Int)) = ((k + min k (n - k) : Nat) : Int) := by rw [IntKind.wrap_i64]; omega
      go_simp
      rw [show ((k : Int) + ((min k (n - k) : Nat) : Int)) = ((k + min k (n - k) : Nat) : Int) by omega]
      refine ⟨⟨_, _, _, _, _, _, _, _, _, _, _, _, _, _, ⟨k + min k (n - k), by omega, by omega, rfl, ⟨_, hg4.out, by rw [length_splice _ _ _ (by rw [HG.out.2.2.2]; have := hd.out.2; omega)]; exact HG.out.2.2.2, fun j hj => ?_⟩, hb4⟩, rfl⟩, ?_⟩
      · have h5 := HG.out.2.1 j
        have h6 := HG.out.2.2.2
        unfold splice
        rw [List.getElem?_append]
        by_cases hjk : j < k
        · rw [if_pos (by simp; omega), List.getElem?_take_of_lt hjk]
          exact h5 hjk
        · rw [if_neg (by simp; omega), List.getElem?_append, if_pos (by simp; omega), List.getElem?_replicate, if_pos (by simp; omega)]
      · simp [intOf]
        omega
    · obtain rfl : k = n := by omega
      have HG := Lib.hid (And.intro hg (And.intro hrow (And.intro hb hl)))
      clear hg hrow hb hl hR hB2
      go_wp2
      go_ret
      exact ⟨_, rfl, Nat.le_refl _, ⟨row, HG.out.1, HG.out.2.2.2, HG.out.2.1⟩, HG.out.2.2.1⟩
end Go.Proofs.Ythbgghmjbaldlaa

/-! QMo4b: slices.Repeat: the number -1, so many times, maybe none: the contract; no condition. -/
namespace Go.Proofs.Ythbgghmjbaldlaa
open Go.RowKit
set_option maxRecDepth 100000
set_option maxHeartbeats 1000000
set_option maxHeartbeats 8000000 in
theorem rep_none (ad : Addr) (c : Nat) (w : World)
   (hmul : ∀ w, Calls Try.prog 51 #[.int .u64 1, .int .u64 0] w fun e w' => e = .returned (.tuple #[.int .u64 0, .int .u64 0]) ∧ w' = w) :
    Calls Try.prog 27 #[.slice (some ad) 1 c, .int .i64 0] w fun e w' => ∃ b, e = .returned (.slice (some ⟨b, 0, none⟩) 0 0) ∧ w.heap.size ≤ b ∧ Rw w' b 0 0 ∧ Below w.heap.size w w' := by
  obtain ⟨i0, hi⟩ : ∃ i, Try.prog.info? 3 = some i := Option.isSome_iff_exists.1 (by kernel_rfl)
  have hz0 : i0.zero = some (.int .i64 0) := by
    have : (Try.prog.info? 3).bind (·.zero) = some (.int .i64 0) := by kernel_rfl
    rwa [hi] at this
  have hz1 : i0.size = 1 := by
    have : (Try.prog.info? 3).map (·.size) = some 1 := by kernel_rfl
    rw [hi] at this
    simpa using this
  have hsz : (Try.prog.info? 3).map (·.size) = some 1 := by rw [hi]; simp [hz1]
  have hmk : ∀ W : World, (Instr.makeSlice 30 (.int .i64 0) (.int .i64 0)).run Try.prog W = .ok (.slice (some ⟨W.heap.size, 0, none⟩) 0 0) (W.alloc (.cells #[] 3)) := fun W => by
    have h := Go.run_make (P := Try.prog) W 30 3 i0 (.int .i64 0) Try.underlying30 hi hz0 .i64 .i64 0 0 (by omega) (by omega) (by simp) (by omega)
    simpa [madeCells, Array.range_zero'] using h
  go_enter Try.func27, Try.ntmps27
  go_wp2_with fail
  refine (hmul _).mono ?_
  rintro e w' ⟨rfl, rfl⟩
  have H := Lib.hid (And.intro ((Below.refl _ w').alloc (Nat.le_refl _) (.cells #[] 3)) (show (w'.alloc (.cells #[] 3)).heap[w'.heap.size]? = some (.cells #[] 3 (0, 0)) from heap_alloc_new w' _))
  go_wp2_with (refine wpList_copy_nothing rfl (.tmp 31) (.tmp 32) 30 30 rfl 3 Try.underlying30 hsz (some ⟨w'.heap.size, 0, none⟩) (some ad) 0 0 1 c (by first | rfl | simp [Act.eval]) (by first | rfl | simp [Act.eval]) rfl ?_)
  go_loopw [8] (fun i wr => i = .int .i64 0 ∧ wr.heap[w'.heap.size]? = some (.cells #[] 3 (0, 0)) ∧ Below w'.heap.size w' wr) (fun _ _ => 0)
  case atStart => exact ⟨rfl, H.out.2, H.out.1⟩
  case round =>
    obtain ⟨rfl, hg, hb⟩ := hrel
    have HG := Lib.hid (And.intro hg hb)
    clear hg hb H
    go_wp2
    go_ret
    exact ⟨_, rfl, Nat.le_refl _, ⟨[], HG.out.1, rfl, fun j hj => by omega⟩, HG.out.2⟩
def repA (n : Nat) : List (List AV) := (List.replicate n (-1 : Int)).map intA
theorem rep_all (n : Nat) (hn : n ≤ 1000) (ad : Addr) (c : Nat) (w : World) (hA : w.cell? ad = some (.int .i64 (-1))) :
    Calls Try.prog 27 #[.slice (some ad) 1 c, .int .i64 n] w fun e w' => ∃ b, e = .returned (.slice (some ⟨b, 0, none⟩) n n) ∧ w.heap.size ≤ b ∧ Rw w' b n n ∧ Below w.heap.size w w' := by
  have hm : ∀ w, Calls Try.prog 51 #[.int .u64 1, .int .u64 n] w fun e w' => e = .returned (.tuple #[.int .u64 0, .int .u64 n]) ∧ w' = w := fun w => by
    have h := Any.bits_Mul laysMul 1 n (by omega) (by omega) w
    rw [show 1 * n / 18446744073709551616 = 0 from Nat.div_eq_of_lt (by omega), show 1 * n % 18446744073709551616 = n by rw [Nat.one_mul]; exact Nat.mod_eq_of_lt (by omega)] at h
    exact h
  by_cases h0 : n = 0
  · subst h0
    exact rep_none ad c w hm
  · exact rep_calls n ⟨by omega, hn⟩ ad c w hA hm
theorem o_Rep (n : Nat) (hn : n ≤ 1000) : VCo Try.prog 27 [.sl 1 [[I (-1)]], I (n : Int)] 3 1 false (repA n) := by
  have hrow : ∀ (k : Nat) (x : List AV), (repA n)[k]? = some x → k < n ∧ x = [I (-1)] := fun k x hx => by
    have hk : k < (repA n).length := (List.getElem?_eq_some_iff.1 hx).1
    have hl : (repA n).length = n := by simp [repA]
    refine ⟨by omega, ?_⟩
    rw [repA, List.getElem?_map, List.getElem?_replicate, if_pos (by omega)] at hx
    simpa [intA] using hx.symm
  refine ⟨by kernel_rfl, by decide, fun k x hx => by rw [(hrow k x hx).2]; exact ⟨rfl, by simp [oneAV, Value.oneCell']⟩, fun w M vs hM hl hv => ?_⟩
  match vs, hl with
  | [v1, v2], _ =>
    have h1 := hv 0 _ v1 rfl rfl
    have h2 := (hv 1 _ v2 rfl rfl).lit_inv
    subst h2
    cases h1 with
    | sl _ _ cap b o u hne hb hM hcap hsz hone hcell hvv =>
      have g1 := hcell 0 0 (by simp) (by decide)
      have g2 := (hvv 0 _ 0 _ rfl rfl).lit_inv
      rw [g2] at g1
      refine (rep_all n hn ⟨b, o, none⟩ cap w (by simpa using g1)).mono ?_
      rintro e w' ⟨g, rfl, hge, ⟨row, hg, hrl, hr⟩, hbl⟩
      refine ⟨_, rfl, hbl, ?_⟩
      unfold OwnRow
      rw [if_neg (by simp)]
      have hrep : (repA n).length = n := by simp [repA]
      refine ⟨g, n, row.toArray, by rw [hrep], hge, hg, by simp [hrl], by omega, by simp only [maxLen]; omega, fun k x j c hk hj => ?_⟩
      obtain ⟨hkn, rfl⟩ := hrow k x hk
      obtain ⟨rfl, rfl⟩ : j = 0 ∧ c = I (-1) := by
        cases j with
        | zero => simp at hj; exact ⟨rfl, hj.symm⟩
        | succ j => simp at hj
      exact ⟨_, by simpa using hr k hkn, .lit _⟩
end Go.Proofs.Ythbgghmjbaldlaa
