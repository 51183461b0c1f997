/- Texts in one: slices.Compact at rows of the call's own: the library's contract told on plain values; no condition. -/
import Derived.Shelf.Slices.CompactS
import Derived.Test.YtmfmpagfjgpodaaMS22
import Derived.Test.YtmfmpagfjgpodaaMS20
/-! VComp: slices.Compact at rows of the call's own: the library's contract told on plain values; no condition. -/
namespace Go.Proofs.Ytmfmpagfjgpodaa
open Go.RowKit Go.Sort Go.Shelf
set_option maxRecDepth 100000
def compRen : Go.Shelf.Ren where
  f := fun x => match x with | 194 => 110 | n => n
  t := fun x => match x with | 31 => 71 | n => n
  g := fun n => n
theorem compLays : Lays.n194 Try.prog compRen := {
  mixed := by kernel_rfl
  f194 := Try.func110.trans (congrArg some (by kernel_rfl))
  t0 := Try.underlying0
  a0 := Try.isAgg0
  z0 := Try.sizeOf0
  v0 := Try.zeroValue0
  t3 := Try.underlying3
  a3 := Try.isAgg3
  z3 := Try.sizeOf3
  v3 := Try.zeroValue3
  t4 := Try.underlying4
  a4 := Try.isAgg4
  z4 := Try.sizeOf4
  v4 := Try.zeroValue4
  t9 := Try.underlying9
  a9 := Try.isAgg9
  z9 := Try.sizeOf9
  v9 := Try.zeroValue9
  t31 := Try.underlying71
  a31 := Try.isAgg71
  z31 := Try.sizeOf71
  v31 := Try.zeroValue71 }
def toL (b : ByteArray) : List UInt8 := b.data.toList
theorem enc_toL (b : ByteArray) : Go.Proofs.encStr (toL b) = .string b := by cases b; simp [Go.Proofs.encStr, toL]
theorem toL_inj {a b : ByteArray} (h : toL a = toL b) : a = b := by
  have := enc_toL a
  rw [h, enc_toL b] at this
  injection this with h
  exact h.symm
/-- Place i of l is kept: it is the first, or another text than the one before. -/
def keepB (l : List ByteArray) (i : Nat) : Bool := decide (i = 0 ∨ tat l i ≠ tat l (i - 1))
/-- What is kept of the first m. -/
def compB (l : List ByteArray) (m : Nat) : List ByteArray := ((List.range m).filter (keepB l)).map (tat l)
theorem compB_succ (l : List ByteArray) (m : Nat) : compB l (m + 1) = compB l m ++ (if keepB l m then [tat l m] else []) := by
  unfold compB
  rw [List.range_succ, List.filter_append, List.map_append]
  congr 1
  by_cases h : keepB l m <;> simp [h]
theorem compB_len (l : List ByteArray) : ∀ m, (compB l m).length ≤ m
  | 0 => by simp [compB]
  | m + 1 => by
    rw [compB_succ, List.length_append]
    have := compB_len l m
    split <;> simp <;> omega
theorem toL_at {l : List ByteArray} {i : Nat} (h : i < l.length) : (l.map toL).toArray[i]! = toL (tat l i) := by
  rw [tat_get h]
  simp [h]
theorem keeps_eq {l : List ByteArray} {i : Nat} (h : i < l.length) : Lib.keeps (l.map toL).toArray i = keepB l i := by
  unfold Lib.keeps keepB
  rw [toL_at h, toL_at (by omega : i - 1 < l.length)]
  congr 1
  apply propext
  constructor
  · rintro (h | h)
    · exact .inl h
    · exact .inr fun he => h (by rw [he])
  · rintro (h | h)
    · exact .inl h
    · exact .inr fun he => h (toL_inj he)
theorem comp_eq {l : List ByteArray} : ∀ m, m ≤ l.length → Lib.compactUpTo (l.map toL).toArray m = (compB l m).map toL
  | 0, _ => by simp [Lib.compactUpTo, compB]
  | m + 1, h => by
    rw [Lib.compactUpTo_succ, compB_succ, comp_eq m (by omega), keeps_eq (by omega), List.map_append, toL_at (by omega)]
    congr 1
    split <;> rfl
/-- What Compact leaves in the row. -/
def compRow (l : List ByteArray) : List ByteArray := compB l l.length ++ List.replicate (l.length - (compB l l.length).length) ⟨#[]⟩
theorem compRow_len (l : List ByteArray) : (compRow l).length = l.length := by
  have := compB_len l l.length
  simp [compRow]
  omega
theorem compRow_take (l : List ByteArray) : (compRow l).take (compB l l.length).length = compB l l.length := by simp [compRow]
theorem putC_at {d : Array (List UInt8)} {cur : Array Value} {k : Nat} (h : k < d.size) (h2 : k < cur.size) : (putCells Go.Proofs.encStr 0 d cur)[k]? = some (Go.Proofs.encStr d[k]!) := by
  simp [putCells, h, h2]
theorem setRow_put {w : World} {g n : Nat} {cur : Array Value} {e : TypeId} {d : Array (List UInt8)} (hb : w.heap[g]? = some (.cells cur e (0, 0))) :
    Below w.heap.size (w.setRow g (putCells Go.Proofs.encStr 0 d cur)) (putRow Go.Proofs.encStr (Sort.ahead w n) g 0 d) := by
  refine ⟨rfl, rfl, rfl, by simp [World.setRow, putRow, mapBlock, Sort.ahead], fun k _ => ?_⟩
  simp only [World.setRow, putRow, mapBlock, Sort.ahead, Array.getElem?_modify]
  by_cases hk : g = k
  · subst hk
    simp [hb, onCells]
  · simp [hk]
theorem w110 (l : List ByteArray) : VCw Try.prog 110 9 1 (l.map txtA) ((compRow l).map txtA) [] (some (compB l l.length).length) := by
  refine ⟨by kernel_rfl, by simp [compRow_len], fun k x hk => txts_one _ k x hk, fun m hm => ?_, ?_⟩
  · obtain rfl := Option.some.inj hm
    simpa using compB_len l l.length
  · intro w M g cap cur vs _ _ hg hcs hle hcm hv hvl _
    obtain rfl : vs = [] := List.length_eq_zero_iff.1 hvl
    have hcell : ∀ j (h : j < l.length), cur[j]? = some (Go.Proofs.encStr (toL l[j])) := fun j h => by
      obtain ⟨u, hu, h0⟩ := hv j (txtA l[j]) 0 (S l[j]) (by simp [h]) rfl
      rw [V0.lit_inv h0, Nat.mul_one, Nat.add_zero] at hu
      rw [hu, enc_toL]
    have hH : Holds Go.Proofs.encStr w g 0 (l.map toL).toArray := fun j hj => by
      have hj' : j < l.length := by simpa using hj
      refine ⟨?_, by simp [World.frozen?, hg]⟩
      rw [toL_at hj', tat_get hj', ← hcell j hj']
      simp [World.cell?, hg]
    have hlen : l.length ≤ 9223372036854775807 := by
      simp only [List.length_map] at hle
      simp only [maxLen] at hcm
      omega
    have hcon := Any.slices_Compact_string compLays g 0 cap (l.map toL) w hH (by simpa using hlen) (by simpa using hle)
    have hc : Lib.compact (l.map toL) = (compB l l.length).map toL := by
      unfold Lib.compact
      rw [List.length_map]
      exact comp_eq _ (Nat.le_refl _)
    rw [hc] at hcon
    change Calls Try.prog 110 _ _ _ at hcon
    simp only [List.length_map] at hcon ⊢
    refine hcon.mono ?_
    rintro en w' ⟨rfl, q, rfl⟩
    have hrow : ((compB l l.length).map toL ++ List.replicate (l.length - (compB l l.length).length) []) = (compRow l).map toL := by
      simp [compRow, toL]
    rw [hrow]
    refine ⟨putCells Go.Proofs.encStr 0 ((compRow l).map toL).toArray cur, rfl, by simp [putCells], setRow_put hg, fun k x j c hk hj => ?_⟩
    obtain ⟨b, hb, rfl⟩ := map_at hk
    have hkl := (List.getElem?_eq_some_iff.1 hb).1
    rw [compRow_len] at hkl
    simp only [txtA] at hj
    rcases j with _ | j
    · simp only [List.getElem?_cons_zero, Option.some.injEq] at hj
      subst hj
      simp only [List.length_map] at hle
      refine ⟨.string b, ?_, .lit _⟩
      rw [Nat.mul_one, Nat.add_zero, putC_at (by simpa [compRow_len] using hkl) (by omega), toL_at (by simpa [compRow_len] using hkl), enc_toL]
      rw [tat_get (by simpa [compRow_len] using hkl)]
      rw [List.getElem?_eq_some_iff] at hb
      obtain ⟨_, hb⟩ := hb
      rw [hb]
    · simp at hj
end Go.Proofs.Ytmfmpagfjgpodaa
