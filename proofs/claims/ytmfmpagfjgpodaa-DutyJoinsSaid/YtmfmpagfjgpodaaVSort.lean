/- slices.SortFunc and slices.Grow at records: the library's contracts told on plain values; no condition but what each says. -/
import Derived.Shelf.SlSortCmp.WholeK
import Derived.Shelf.Spec.SlicesGrow
import Derived.Test.YtmfmpagfjgpodaaVSortC
import Derived.Test.YtmfmpagfjgpodaaVWrite
namespace Go.Proofs.Ytmfmpagfjgpodaa
open Go.RowKit Go.Sort Go.Shelf
set_option maxRecDepth 100000
def sortRen : Ren where
  f := fun x => match x with | 6 => 117 | 15 => 147 | 14 => 146 | 28 => 165 | 29 => 166 | 20 => 157 | 21 => 158 | 22 => 159 | 23 => 160 | 24 => 161 | 25 => 162 | 26 => 163 | 27 => 164 | 46 => 176 | 47 => 177 | 48 => 178 | 49 => 179 | 50 => 180 | 57 => 184 | n => n
  t := fun x => match x with | 22 => 22 | 24 => 57 | 25 => 164 | 3 => 3 | 39 => 172 | 0 => 0 | 53 => 197 | 55 => 199 | 4 => 4 | 46 => 190 | 45 => 189 | 50 => 194 | 5 => 5 | 9 => 9 | 66 => 206 | 70 => 210 | 76 => 214 | 77 => 43 | n => n
  g := fun n => n
theorem sortLays : SlLaysF0.n6 Try.prog sortRen := {
  mixed := by kernel_rfl
  f6 := ⟨Try.f117.name, of_decide_eq_true (by kernel_rfl), Try.func117.trans (congrArg some (by kernel_rfl))⟩
  f14 := ⟨Try.f146.name, of_decide_eq_true (by kernel_rfl), Try.func146.trans (congrArg some (by kernel_rfl))⟩
  f15 := Try.func147.trans (congrArg some (by kernel_rfl))
  f20 := ⟨Try.f157.name, of_decide_eq_true (by kernel_rfl), Try.func157.trans (congrArg some (by kernel_rfl))⟩
  f21 := ⟨Try.f158.name, of_decide_eq_true (by kernel_rfl), Try.func158.trans (congrArg some (by kernel_rfl))⟩
  f22 := ⟨Try.f159.name, of_decide_eq_true (by kernel_rfl), Try.func159.trans (congrArg some (by kernel_rfl))⟩
  f23 := ⟨Try.f160.name, of_decide_eq_true (by kernel_rfl), Try.func160.trans (congrArg some (by kernel_rfl))⟩
  f24 := ⟨Try.f161.name, of_decide_eq_true (by kernel_rfl), Try.func161.trans (congrArg some (by kernel_rfl))⟩
  f25 := ⟨Try.f162.name, of_decide_eq_true (by kernel_rfl), Try.func162.trans (congrArg some (by kernel_rfl))⟩
  f26 := ⟨Try.f163.name, of_decide_eq_true (by kernel_rfl), Try.func163.trans (congrArg some (by kernel_rfl))⟩
  f27 := ⟨Try.f164.name, of_decide_eq_true (by kernel_rfl), Try.func164.trans (congrArg some (by kernel_rfl))⟩
  f28 := Try.func165.trans (congrArg some (by kernel_rfl))
  f29 := Try.func166.trans (congrArg some (by kernel_rfl))
  f46 := ⟨Try.f176.name, of_decide_eq_true (by kernel_rfl), Try.func176.trans (congrArg some (by kernel_rfl))⟩
  f47 := Try.func177.trans (congrArg some (by kernel_rfl))
  f48 := Try.func178.trans (congrArg some (by kernel_rfl))
  f49 := ⟨Try.f179.name, of_decide_eq_true (by kernel_rfl), Try.func179.trans (congrArg some (by kernel_rfl))⟩
  f50 := ⟨Try.f180.name, of_decide_eq_true (by kernel_rfl), Try.func180.trans (congrArg some (by kernel_rfl))⟩
  f57 := ⟨Try.f184.name, of_decide_eq_true (by kernel_rfl), Try.func184.trans (congrArg some (by kernel_rfl))⟩
  t0 := Try.underlying0
  a0 := Try.isAgg0
  z0 := Try.sizeOf0
  v0 := Try.zeroValue0
  t3 := Try.underlying3
  a3 := Try.isAgg3
  z3 := Try.sizeOf3
  v3 := Try.zeroValue3
  t4 := Try.underlying4
  a4 := Try.isAgg4
  z4 := Try.sizeOf4
  v4 := Try.zeroValue4
  t5 := Try.underlying5
  a5 := Try.isAgg5
  z5 := Try.sizeOf5
  v5 := Try.zeroValue5
  t9 := Try.underlying9
  a9 := Try.isAgg9
  z9 := Try.sizeOf9
  v9 := Try.zeroValue9
  t22 := Try.underlying22
  a22 := Try.isAgg22
  z22 := Try.sizeOf22
  v22 := Try.zeroValue22
  t25 := Try.underlying164
  a25 := Try.isAgg164
  z25 := Try.sizeOf164
  v25 := Try.zeroValue164
  t39 := Try.underlying172
  a39 := Try.isAgg172
  z39 := Try.sizeOf172
  v39 := Try.zeroValue172
  t45 := Try.underlying189
  a45 := Try.isAgg189
  z45 := Try.sizeOf189
  v45 := Try.zeroValue189
  t46 := Try.underlying190
  a46 := Try.isAgg190
  z46 := Try.sizeOf190
  v46 := Try.zeroValue190
  t50 := Try.underlying194
  a50 := Try.isAgg194
  z50 := Try.sizeOf194
  v50 := Try.zeroValue194
  t53 := Try.underlying197
  a53 := Try.isAgg197
  z53 := Try.sizeOf197
  v53 := Try.zeroValue197
  t55 := Try.underlying199
  a55 := Try.isAgg199
  z55 := Try.sizeOf199
  v55 := Try.zeroValue199
  t66 := Try.underlying206
  a66 := Try.isAgg206
  z66 := Try.sizeOf206
  v66 := Try.zeroValue206
  t70 := Try.underlying210
  a70 := Try.isAgg210
  z70 := Try.sizeOf210
  v70 := Try.zeroValue210
  t76 := Try.underlying214
  a76 := Try.isAgg214
  z76 := Try.sizeOf214
  v76 := Try.zeroValue214
  t77 := Try.underlying43
  a77 := Try.isAgg43
  z77 := Try.sizeOf43
  v77 := Try.zeroValue43 }
def growRen : Ren where
  f := fun x => match x with | 4 => 145 | n => n
  t := fun x => match x with | 25 => 57 | n => n
  g := fun n => n
theorem growLays : Lays8.n4 Try.prog growRen := {
  mixed := by kernel_rfl
  f4 := ⟨Try.f145.name, by kernel_rfl, Try.func145.trans (congrArg some (by kernel_rfl))⟩
  t0 := Try.underlying0
  a0 := Try.isAgg0
  z0 := Try.sizeOf0
  v0 := Try.zeroValue0
  t3 := Try.underlying3
  a3 := Try.isAgg3
  z3 := Try.sizeOf3
  v3 := Try.zeroValue3
  t4 := Try.underlying4
  a4 := Try.isAgg4
  z4 := Try.sizeOf4
  v4 := Try.zeroValue4
  t9 := Try.underlying9
  a9 := Try.isAgg9
  z9 := Try.sizeOf9
  v9 := Try.zeroValue9
  t20 := Try.underlying20
  a20 := Try.isAgg20
  z20 := Try.sizeOf20
  v20 := Try.zeroValue20
  t22 := Try.underlying22
  a22 := Try.isAgg22
  z22 := Try.sizeOf22
  v22 := Try.zeroValue22 }
def cfR (x y : Rec) : Int := cmpI x.lo y.lo
theorem ltR (x y : Rec) : ltOf cfR x y = decide (x.lo < y.lo) := by
  unfold ltOf cfR cmpI
  by_cases h1 : x.lo < y.lo
  · simp [h1]
  · by_cases h2 : y.lo < x.lo <;> simp [h1, h2]
theorem swoR : SWO (ltOf cfR) where
  irrefl x := by rw [ltR]; simp
  trans x y z h1 h2 := by rw [ltR] at *; simp at *; omega
  ntrans x y z h1 h2 := by rw [ltR] at *; simp at *; omega
/-- The records as the library's sort leaves them. -/
def sortP (l : List Rec) : List Rec := (pdq (ltOf cfR) l.toArray 0 l.toArray.size (Lib.bitLen l.toArray.size) true true).toList
theorem sortP_spec (l : List Rec) : (sortP l).Perm l ∧ (sortP l).Pairwise fun x y => x.lo ≤ y.lo := by
  obtain ⟨h1, h2⟩ := pdq_sorts (ltOf cfR) swoR l.toArray 0 l.toArray.size (Lib.bitLen l.toArray.size) true true (Nat.zero_le _) (Nat.le_refl _) (Or.inl rfl)
  obtain ⟨h3, _, h4⟩ := h1
  constructor
  · unfold sortP
    generalize pdq (ltOf cfR) l.toArray 0 l.toArray.size (Lib.bitLen l.toArray.size) true true = D at h3 h4
    have e1 : D.extract 0 l.toArray.size = D := by rw [← h3]; simp
    have e2 : l.toArray.extract 0 l.toArray.size = l.toArray := by simp
    rw [e1, e2] at h4
    exact h4
  · unfold sortP
    rw [List.pairwise_iff_getElem]
    intro i j hi hj hij
    have hj' : j < (pdq (ltOf cfR) l.toArray 0 l.toArray.size (Lib.bitLen l.toArray.size) true true).size := by simpa using hj
    have := h2 i j (Nat.zero_le _) hij (by rw [← h3]; exact hj')
    rw [ltR, getElem!_pos _ j hj', getElem!_pos _ i (by omega)] at this
    simp at this
    simpa using this
theorem sortP_len (l : List Rec) : (sortP l).length = l.length := (sortP_spec l).1.length_eq
theorem vals_len (x : Rec) : x.vals.length = 3 := rfl
theorem av_vals (x : Rec) : x.av = x.vals.map .lit := rfl
theorem setRow_putK {w : World} {g n : Nat} {cur : Array Value} {e : TypeId} {F : Array Value} {os : Array Obj} (hb : w.heap[g]? = some (.cells cur e (0, 0))) :
    Go.RowKit.Below w.heap.size (w.setRow g (putCells id 0 F cur)) (grow (putRow id (Sort.ahead w n) g 0 F) os) := by
  refine ⟨rfl, rfl, rfl, by simp [World.setRow, putRow, mapBlock, Sort.ahead], fun k hk => ?_⟩
  rw [heap_grow_old _ _ (by simpa [putRow, mapBlock, Sort.ahead] using hk)]
  simp only [World.setRow, putRow, mapBlock, Sort.ahead, Array.getElem?_modify]
  by_cases hk : g = k
  · subst hk
    simp [hb, onCells]
  · simp [hk]
theorem putK_at {F cur : Array Value} {k : Nat} (h : k < F.size) (h2 : k < cur.size) : (putCells id 0 F cur)[k]? = some F[k]! := by
  simp [putCells, h, h2]
theorem recs_one' (l : List Rec) : ∀ (k : Nat) (x : List AV), (l.map Rec.av)[k]? = some x → x.length = 3 ∧ ∀ c ∈ x, oneAV c = true := by
  intro k x hk
  obtain ⟨r, _, rfl⟩ := map_at hk
  refine ⟨rfl, fun c hc => ?_⟩
  simp only [Rec.av, List.mem_cons, List.not_mem_nil, or_false] at hc
  rcases hc with rfl | rfl | rfl <;> rfl
theorem vals_get (x : Rec) {j : Nat} (h : j < 3) : x.av[j]? = some (.lit (x.vals[j]!)) := by
  rcases j with _ | _ | _ | j <;> first | rfl | omega
theorem w117 (l : List Rec) (hl : l.length ≤ 1000000) : VCw Try.prog 117 57 3 (l.map Rec.av) ((sortP l).map Rec.av) [.lit (.func (.func 118) #[] #[])] none := by
  refine ⟨by kernel_rfl, by simp [sortP_len], fun k x hk => recs_one' _ k x hk, fun m hm => (by cases hm), ?_⟩
  intro w M g cap cur vs _ _ hg hcs hle hcm hv hvl hvv
  obtain ⟨v, rfl⟩ : ∃ v, vs = [v] := by
    rcases vs with _ | ⟨v, _ | ⟨_, _⟩⟩
    · simp at hvl
    · exact ⟨v, rfl⟩
    · simp at hvl
  obtain rfl := V0.lit_inv (hvv 0 _ _ rfl rfl)
  simp only [List.length_map] at hle hv ⊢
  have hsz : l.length * 3 ≤ cur.size := by omega
  have hcell : ∀ k j, k < l.length → j < 3 → cur[k * 3 + j]? = some (l[k]!.vals[j]!) := fun k j hk hj => by
    obtain ⟨u, hu, h0⟩ := hv k l[k].av j _ (by simp [hk]) (vals_get l[k] hj)
    rw [V0.lit_inv h0] at hu
    rw [hu, getElem!_pos l k hk]
  have hH : HoldsK Rec.vals 3 w g 0 l.toArray := fun t ht => by
    have ht' : t < l.length * 3 := by simpa using ht
    refine ⟨?_, by simp [World.frozen?, hg]⟩
    have hc := hcell (t / 3) (t % 3) (by omega) (by omega)
    rw [show t / 3 * 3 + t % 3 = t by omega] at hc
    rw [get_flatK _ _ _ t (by simpa using ht')]
    simp only [World.cell?, hg, Nat.zero_add, id]
    simpa using hc
  have eg : ∀ args w, (callFunc 118 args).run Try.prog w = .ok (.enter 118 args) w := enters_of Try.func118 (by kernel_rfl) rfl
  have hcon := AnyQ.slices_SortFunc_eq sortLays 3 Try.isAgg57 Try.sizeOf57 Rec.vals vals_len (fun x v hv => by simp [Rec.vals] at hv; rcases hv with rfl | rfl | rfl <;> rfl) cfR swoR 118 #[] g 0 cap l.toArray w eg (fun _ _ _ _ x y => c118 x y _) hH (Array.getElem?_eq_some_iff.1 hg).1 (by simp; omega)
  change Calls Try.prog 117 _ _ _ at hcon
  have hD : (sortP l).toArray = pdq (ltOf cfR) l.toArray 0 l.toArray.size (Lib.bitLen l.toArray.size) true true := by simp [sortP]
  rw [← hD] at hcon
  simp only [List.size_toArray] at hcon
  refine hcon.mono ?_
  rintro en w' ⟨rfl, n, os, rfl⟩
  refine ⟨putCells id 0 (flatK Rec.vals 3 (sortP l).toArray) cur, rfl, by simp [putCells], setRow_putK hg, fun k x j c hk hj => ?_⟩
  obtain ⟨r, hr, rfl⟩ := map_at hk
  obtain ⟨hkl, hr⟩ := List.getElem?_eq_some_iff.1 hr
  have hjl : j < 3 := (List.getElem?_eq_some_iff.1 hj).1
  rw [vals_get r hjl] at hj
  obtain rfl := Option.some.inj hj
  have hkl' : k < l.length := by rw [← sortP_len]; exact hkl
  refine ⟨_, putK_at (by simp; omega) (by omega), ?_⟩
  rw [get_flatK _ _ _ _ (by simp; omega)]
  rw [show (k * 3 + j) / 3 = k by omega, show (k * 3 + j) % 3 = j by omega]
  have : (sortP l).toArray[k]! = r := by rw [← hr]; simp [hkl]
  rw [this]
  exact .lit _
end Go.Proofs.Ytmfmpagfjgpodaa
