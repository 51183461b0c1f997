/- Texts in one: slices.SortFunc at numbers of uses: the library's contract told on plain values; conditions as it says. -/
import Derived.Shelf.SlSortCmp.Whole1
import Derived.Test.YtmfmpagfjgpodaaMS30
import Derived.Test.YtmfmpagfjgpodaaMS22
/-! VSortE: slices.SortFunc at numbers of uses: the library's contract told on plain values; conditions as it says. -/
namespace Go.Proofs.Ytmfmpagfjgpodaa
open Go.RowKit Go.Sort Go.Shelf
set_option maxRecDepth 100000
def sortRenI : Ren where
  f := fun x => match x with | 6 => 121 | 15 => 147 | 14 => 153 | 28 => 165 | 29 => 166 | 20 => 168 | 21 => 169 | 22 => 170 | 23 => 171 | 24 => 172 | 25 => 173 | 26 => 174 | 27 => 175 | 46 => 181 | 47 => 177 | 48 => 178 | 49 => 182 | 50 => 183 | 57 => 185 | n => n
  t := fun x => match x with | 22 => 87 | 24 => 3 | 25 => 69 | 3 => 3 | 39 => 172 | 0 => 0 | 53 => 197 | 55 => 199 | 4 => 4 | 46 => 190 | 45 => 189 | 50 => 194 | 5 => 5 | 9 => 9 | 66 => 206 | 70 => 210 | 76 => 214 | 77 => 43 | n => n
  g := fun n => n
theorem sortLaysI : SlLaysF.n6 Try.prog sortRenI := {
  mixed := by kernel_rfl
  f6 := ⟨Try.f121.name, of_decide_eq_true (by kernel_rfl), Try.func121.trans (congrArg some (by kernel_rfl))⟩
  f14 := ⟨Try.f153.name, of_decide_eq_true (by kernel_rfl), Try.func153.trans (congrArg some (by kernel_rfl))⟩
  f15 := Try.func147.trans (congrArg some (by kernel_rfl))
  f20 := ⟨Try.f168.name, of_decide_eq_true (by kernel_rfl), Try.func168.trans (congrArg some (by kernel_rfl))⟩
  f21 := ⟨Try.f169.name, of_decide_eq_true (by kernel_rfl), Try.func169.trans (congrArg some (by kernel_rfl))⟩
  f22 := ⟨Try.f170.name, of_decide_eq_true (by kernel_rfl), Try.func170.trans (congrArg some (by kernel_rfl))⟩
  f23 := ⟨Try.f171.name, of_decide_eq_true (by kernel_rfl), Try.func171.trans (congrArg some (by kernel_rfl))⟩
  f24 := ⟨Try.f172.name, of_decide_eq_true (by kernel_rfl), Try.func172.trans (congrArg some (by kernel_rfl))⟩
  f25 := ⟨Try.f173.name, of_decide_eq_true (by kernel_rfl), Try.func173.trans (congrArg some (by kernel_rfl))⟩
  f26 := ⟨Try.f174.name, of_decide_eq_true (by kernel_rfl), Try.func174.trans (congrArg some (by kernel_rfl))⟩
  f27 := ⟨Try.f175.name, of_decide_eq_true (by kernel_rfl), Try.func175.trans (congrArg some (by kernel_rfl))⟩
  f28 := Try.func165.trans (congrArg some (by kernel_rfl))
  f29 := Try.func166.trans (congrArg some (by kernel_rfl))
  f46 := ⟨Try.f181.name, of_decide_eq_true (by kernel_rfl), Try.func181.trans (congrArg some (by kernel_rfl))⟩
  f47 := Try.func177.trans (congrArg some (by kernel_rfl))
  f48 := Try.func178.trans (congrArg some (by kernel_rfl))
  f49 := ⟨Try.f182.name, of_decide_eq_true (by kernel_rfl), Try.func182.trans (congrArg some (by kernel_rfl))⟩
  f50 := ⟨Try.f183.name, of_decide_eq_true (by kernel_rfl), Try.func183.trans (congrArg some (by kernel_rfl))⟩
  f57 := ⟨Try.f185.name, of_decide_eq_true (by kernel_rfl), Try.func185.trans (congrArg some (by kernel_rfl))⟩
  t0 := Try.underlying0
  a0 := Try.isAgg0
  z0 := Try.sizeOf0
  v0 := Try.zeroValue0
  t3 := Try.underlying3
  a3 := Try.isAgg3
  z3 := Try.sizeOf3
  v3 := Try.zeroValue3
  t4 := Try.underlying4
  a4 := Try.isAgg4
  z4 := Try.sizeOf4
  v4 := Try.zeroValue4
  t5 := Try.underlying5
  a5 := Try.isAgg5
  z5 := Try.sizeOf5
  v5 := Try.zeroValue5
  t9 := Try.underlying9
  a9 := Try.isAgg9
  z9 := Try.sizeOf9
  v9 := Try.zeroValue9
  t22 := Try.underlying87
  a22 := Try.isAgg87
  z22 := Try.sizeOf87
  v22 := Try.zeroValue87
  a24 := Try.isAgg3
  z24 := Try.sizeOf3
  t25 := Try.underlying69
  a25 := Try.isAgg69
  z25 := Try.sizeOf69
  v25 := Try.zeroValue69
  t39 := Try.underlying172
  a39 := Try.isAgg172
  z39 := Try.sizeOf172
  v39 := Try.zeroValue172
  t45 := Try.underlying189
  a45 := Try.isAgg189
  z45 := Try.sizeOf189
  v45 := Try.zeroValue189
  t46 := Try.underlying190
  a46 := Try.isAgg190
  z46 := Try.sizeOf190
  v46 := Try.zeroValue190
  t50 := Try.underlying194
  a50 := Try.isAgg194
  z50 := Try.sizeOf194
  v50 := Try.zeroValue194
  t53 := Try.underlying197
  a53 := Try.isAgg197
  z53 := Try.sizeOf197
  v53 := Try.zeroValue197
  t55 := Try.underlying199
  a55 := Try.isAgg199
  z55 := Try.sizeOf199
  v55 := Try.zeroValue199
  t66 := Try.underlying206
  a66 := Try.isAgg206
  z66 := Try.sizeOf206
  v66 := Try.zeroValue206
  t70 := Try.underlying210
  a70 := Try.isAgg210
  z70 := Try.sizeOf210
  v70 := Try.zeroValue210
  t76 := Try.underlying214
  a76 := Try.isAgg214
  z76 := Try.sizeOf214
  v76 := Try.zeroValue214
  t77 := Try.underlying43
  a77 := Try.isAgg43
  z77 := Try.sizeOf43
  v77 := Try.zeroValue43 }
section
variable {l : List Rec}
def cfU (l : List Rec) (x y : Fin l.length) : Int := (rat l x).lo - (rat l y).lo
theorem ltU [Inhabited (Fin l.length)] (x y : Fin l.length) : ltOf (cfU l) x y = decide ((rat l x).lo < (rat l y).lo) := by
  unfold ltOf cfU
  by_cases h1 : (rat l x).lo < (rat l y).lo <;> simp [h1] <;> omega
theorem swoU [Inhabited (Fin l.length)] : SWO (ltOf (cfU l)) where
  irrefl x := by rw [ltU]; simp
  trans x y z h1 h2 := by rw [ltU] at *; simp at *; omega
  ntrans x y z h1 h2 := by rw [ltU] at *; simp at *; omega
/-- The numbers as the library's sort leaves them. -/
def sortU (l : List Rec) [Inhabited (Fin l.length)] (fs : List (Fin l.length)) : List (Fin l.length) := (pdq (ltOf (cfU l)) fs.toArray 0 fs.toArray.size (Lib.bitLen fs.toArray.size) true true).toList
theorem sortU_spec [Inhabited (Fin l.length)] (fs : List (Fin l.length)) : (sortU l fs).Perm fs ∧ (sortU l fs).Pairwise fun (x y : Fin l.length) => (rat l x).lo ≤ (rat l y).lo := by
  obtain ⟨h1, h2⟩ := pdq_sorts (ltOf (cfU l)) swoU fs.toArray 0 fs.toArray.size (Lib.bitLen fs.toArray.size) true true (Nat.zero_le _) (Nat.le_refl _) (Or.inl rfl)
  obtain ⟨h3, _, h4⟩ := h1
  constructor
  · unfold sortU
    generalize pdq (ltOf (cfU l)) fs.toArray 0 fs.toArray.size (Lib.bitLen fs.toArray.size) true true = D at h3 h4
    have e1 : D.extract 0 fs.toArray.size = D := by rw [← h3]; simp
    have e2 : fs.toArray.extract 0 fs.toArray.size = fs.toArray := by simp
    rw [e1, e2] at h4
    exact h4
  · unfold sortU
    rw [List.pairwise_iff_getElem]
    intro i j hi hj hij
    have hj' : j < (pdq (ltOf (cfU l)) fs.toArray 0 fs.toArray.size (Lib.bitLen fs.toArray.size) true true).size := by simpa using hj
    have := h2 i j (Nat.zero_le _) hij (by rw [← h3]; exact hj')
    rw [ltU, getElem!_pos _ j hj', getElem!_pos _ i (by omega)] at this
    simp at this
    simpa using this
theorem sortU_len [Inhabited (Fin l.length)] (fs : List (Fin l.length)) : (sortU l fs).length = fs.length := (sortU_spec fs).1.length_eq
def encU (x : Fin l.length) : Value := .int .i64 (x.val : Nat)
theorem setRow_put1 {w : World} {g n : Nat} {cur : Array Value} {e : TypeId} {os : Array Obj} {d : Array (Fin l.length)} [Inhabited (Fin l.length)] (hb : w.heap[g]? = some (.cells cur e (0, 0))) :
    Go.RowKit.Below w.heap.size (w.setRow g (putCells encU 0 d cur)) (grow (putRow encU (Sort.ahead w n) g 0 d) os) := by
  refine ⟨rfl, rfl, rfl, by simp [World.setRow, putRow, mapBlock, Sort.ahead], fun k hk => ?_⟩
  rw [heap_grow_old _ _ (by simpa [putRow, mapBlock, Sort.ahead] using hk)]
  simp only [World.setRow, putRow, mapBlock, Sort.ahead, Array.getElem?_modify]
  by_cases hk : g = k
  · subst hk
    simp [hb, onCells]
  · simp [hk]
theorem put1_at [Inhabited (Fin l.length)] {d : Array (Fin l.length)} {cur : Array Value} {k : Nat} (h : k < d.size) (h2 : k < cur.size) : (putCells encU 0 d cur)[k]? = some (encU d[k]!) := by
  simp [putCells, h, h2]
/-- A cell of another block, in a world that the sort passes through. -/
theorem cell_world [Inhabited (Fin l.length)] {w : World} {g m b o : Nat} {d : Array (Fin l.length)} {os : Array Obj} (hb : b < w.heap.size) (hne : b ≠ g) : (sortWorld encU w g 0 m d os).cell? ⟨b, o, none⟩ = w.cell? ⟨b, o, none⟩ := by
  unfold sortWorld
  have hh : (grow (putRow encU (Sort.ahead w m) g 0 d) os).heap[b]? = w.heap[b]? := by
    rw [heap_grow_old _ _ (by simpa [putRow, mapBlock, Sort.ahead] using hb)]
    simp only [putRow, mapBlock, Sort.ahead, Array.getElem?_modify]
    rw [if_neg fun h => hne (Eq.symm h)]
  simp only [World.cell?, hh]
theorem w121 (fs : List (Fin l.length)) [Inhabited (Fin l.length)] (hfl : fs.length ≤ 1000000) (hT : ∀ x ∈ l, 0 ≤ x.lo ∧ x.lo ≤ 8640000000) : VCw Try.prog 121 3 1 ((fs.map (·.val)).map natA) (((sortU l fs).map (·.val)).map natA) [.fn (.func 122) [] [.vp [recsA l]]] none := by
  refine ⟨by kernel_rfl, by simp [sortU_len], fun k x hk => ?_, fun m hm => (by cases hm), ?_⟩
  · obtain ⟨r, _, rfl⟩ := map_at hk
    refine ⟨rfl, fun c hc => ?_⟩
    simp only [natA, List.mem_cons, List.not_mem_nil, or_false] at hc
    rcases hc with rfl
    rfl
  intro w M g cap cur vs _ hMg hg hcs hle hcm hv hvl hvv
  obtain ⟨v, rfl⟩ : ∃ v, vs = [v] := by
    rcases vs with _ | ⟨v, _ | ⟨_, _⟩⟩
    · simp at hvl
    · exact ⟨v, rfl⟩
    · simp at hvl
  have hv0 := hvv 0 _ v rfl rfl
  obtain ⟨p, rfl, hp⟩ : ∃ p, v = .func (.func 122) #[] #[p] ∧ V0 w M (.vp [recsA l]) p := by
    cases hv0 with
    | fn _ _ _ us vs h1 h2 h3 h4 =>
      obtain rfl : us = [] := List.length_eq_zero_iff.1 (by simpa using h1)
      rcases vs with _ | ⟨p, _ | ⟨_, _⟩⟩
      · simp at h2
      · exact ⟨p, rfl, h4 0 _ _ rfl rfl⟩
      · simp at h2
  obtain ⟨b, o, rfl, hb, hbM, u, hcu, hu⟩ : ∃ b o, p = .pointer (some ⟨b, o, none⟩) ∧ b < w.heap.size ∧ ¬ M b ∧ ∃ u, w.cell? ⟨b, o, none⟩ = some u ∧ V0 w M (recsA l) u := by
    cases hp with
    | vp _ b o u hb hM h1 hcell hv => exact ⟨b, o, rfl, hb, hM, u 0, by simpa using hcell 0 (by simp), hv 0 _ rfl⟩
  have hn0 : 0 < l.length := by
    have : Fin l.length := default
    have := this.isLt
    omega
  obtain ⟨b2, o2, cap2, rfl, hb2, hbM2, hc2⟩ : ∃ b2 o2 cap2, u = .slice (some ⟨b2, o2, none⟩) l.length cap2 ∧ b2 < w.heap.size ∧ ¬ M b2 ∧ ∀ i (h : i < l.length), w.cell? ⟨b2, o2 + i * 3 + 1, none⟩ = some (.int .i64 l[i].lo) := by
    have hu' : V0 w M (.sl 3 (l.map Rec.av)) u := hu
    clear hu
    generalize he : l.map Rec.av = es at hu'
    cases hu' with
    | slNil _ A cap =>
      have : l = [] := by simpa using he
      rw [this] at hn0
      simp at hn0
    | sl _ _ cap b2 o2 uu hne hb hM hcap hsz h1 hc hv =>
      subst he
      refine ⟨b2, o2, cap, by simp, hb, hM, fun i hi => ?_⟩
      have h2 := hc i 1 (by simpa using hi) (by omega)
      have h3 := hv i l[i].av 1 (I l[i].lo) (by simp [hi]) rfl
      rw [V0.lit_inv h3] at h2
      rw [← h2, Nat.add_assoc]
  simp only [List.length_map] at hle hv ⊢
  have hcell : ∀ k, k < fs.length → cur[k]? = some (encU fs[k]!) := fun k hk => by
    obtain ⟨u, hu, h0⟩ := hv k (natA fs[k].val) 0 _ (by simp [hk]) rfl
    rw [V0.lit_inv h0, Nat.mul_one, Nat.add_zero] at hu
    rw [hu, getElem!_pos fs k hk]
    rfl
  have hH : Holds encU w g 0 fs.toArray := fun t ht => by
    have ht' : t < fs.length := by simpa using ht
    refine ⟨?_, by simp [World.frozen?, hg]⟩
    have hc := hcell t ht'
    simp only [World.cell?, hg, Nat.zero_add]
    simpa using hc
  have eg : ∀ args w, (callFunc 122 args).run Try.prog w = .ok (.enter 122 args) w := enters_of Try.func122 (by kernel_rfl) rfl
  have hcmp : CmpLays1 Try.prog 122 #[.pointer (some ⟨b, o, none⟩)] (encU (l := l)) (cfU l) g 0 fs.toArray.size w := fun m os dk _ x y => by
    have hx := hT l[x.val] (List.getElem_mem x.isLt)
    have hy := hT l[y.val] (List.getElem_mem y.isLt)
    have := c122 (sortWorld encU w g 0 m dk os) b o b2 o2 l.length cap2 x.val y.val l[x.val].lo l[y.val].lo x.isLt y.isLt (by rw [cell_world hb fun h => hbM (h ▸ hMg)]; exact hcu) (by rw [cell_world hb2 fun h => hbM2 (h ▸ hMg)]; exact hc2 _ x.isLt) (by rw [cell_world hb2 fun h => hbM2 (h ▸ hMg)]; exact hc2 _ y.isLt) (wrap_eq (by omega) (by omega))
    unfold cfU
    rw [rat_get x.isLt, rat_get y.isLt]
    exact this
  have hcon := Any.slices_SortFunc_eq sortLaysI (encU (l := l)) (fun x => rfl) (cfU l) swoU 122 #[.pointer (some ⟨b, o, none⟩)] g 0 cap fs.toArray w eg hcmp hH (Array.getElem?_eq_some_iff.1 hg).1 (by simp; omega)
  change Calls Try.prog 121 _ _ _ at hcon
  have hD : (sortU l fs).toArray = pdq (ltOf (cfU l)) fs.toArray 0 fs.toArray.size (Lib.bitLen fs.toArray.size) true true := by simp [sortU]
  rw [← hD] at hcon
  simp only [List.size_toArray] at hcon
  refine hcon.mono ?_
  rintro en w' ⟨rfl, n, os, rfl⟩
  refine ⟨putCells encU 0 (sortU l fs).toArray cur, rfl, by simp [putCells], setRow_put1 hg, fun k x j c hk hj => ?_⟩
  obtain ⟨r, hr, rfl⟩ := map_at hk
  obtain ⟨f, hf, rfl⟩ := map_at hr
  obtain ⟨hkl, hf⟩ := List.getElem?_eq_some_iff.1 hf
  have hkl' : k < fs.length := by rw [← sortU_len]; exact hkl
  simp only [natA] at hj
  rcases j with _ | j
  · simp only [List.getElem?_cons_zero, Option.some.injEq] at hj
    subst hj
    rw [Nat.mul_one, Nat.add_zero]
    refine ⟨_, put1_at (by simpa using hkl) (by omega), ?_⟩
    have : (sortU l fs).toArray[k]! = f := by rw [← hf]; simp [hkl]
    rw [this]
    exact .lit _
  · simp at hj
end
end Go.Proofs.Ytmfmpagfjgpodaa
