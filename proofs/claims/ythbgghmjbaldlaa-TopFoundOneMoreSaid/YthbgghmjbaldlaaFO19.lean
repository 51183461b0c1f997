/- Texts in one: Walks on plain values: agreement, candidates; texts of at most 1000 bytes. -/
import Derived.Test.YthbgghmjbaldlaaFO18
import Derived.Test.YthbgghmjbaldlaaFO6
/-! QL: Walks on plain values: agreement, candidates; texts of at most 1000 bytes. -/
namespace Go.Proofs.Ythbgghmjbaldlaa
open Go.RowKit
set_option maxRecDepth 100000
set_option maxHeartbeats 1000000
theorem p_canBe (x c : Item) (hx : x.marks.length ≤ 1000) (hc : c.marks.length ≤ 1000) (hd : 0 ≤ c.day ∧ c.day ≤ 100000) : VC Try.prog 52 [itemA x, itemA c] (B (canBe x c)) := by
  have h3 := p_compared x.marks c.marks hx hc
  have w1 := wrap_eq (x := c.day - 3) (by omega) (by omega)
  unfold canBe
  generalize agr x.marks c.marks = A at *
  refine VC_of Try.func52 rfl (by kernel_rfl) (by kernel_rfl) rfl fun M0 w0 => ?_
  simp only [Try.ntmps52, Try.results52, enumA]
  repeat' (first | (with_reducible first | refine vseq ?_ | refine vthenN ?_ | refine vthenE ?_ | refine vthenR ?_ | refine vret ?_ | refine vskip ?_ | refine vexit ?_ | refine vblock ?_ | refine vblockN ?_ | refine vblockR ?_ | refine vblockH ?_ | refine vrun_nil ?_ | refine vblockE rfl ?_ | refine vregion [] ?_ | refine vhrun_nil ?_) | ((with_reducible refine vcondT ?_ ?_); (focus (go_simp; done))) | ((with_reducible refine vcondF ?_ ?_); (focus (go_simp; done))) | ((with_reducible first | refine vrun_cons fun KK hKK => ?_ | refine vhrun_cons fun KK hKK => ?_); go_simp; (first | (with_reducible refine ⟨_, h3, ?_⟩) | skip); refine hKK _ ?_; clear hKK KK) | ((with_reducible refine vcondS ?_ (fun ht => ?_) (fun ht => ?_)); (focus (go_simp; done)); (all_goals (simp [go_sem] at ht; replace ht := ht.out))) | ((apply vrun_consG0 rfl); (focus (go_simp <;> exact rfl)); (focus (go_simp; done)); (focus (intro hb0; replace hb0 := hb0.out; go_simp <;> (first | exact rfl | exact h3 | exact ⟨h3, rfl⟩))); intro KK hKK; go_simp; refine hKK _ ?_; clear hKK KK))
  go_simp
theorem thing_parts {x : Item} (h : thingErr x = 0) : isName x.name = true ∧ isName x.who = true ∧ 0 ≤ x.day ∧ x.day ≤ 100000 ∧ (checkMarks x.marks).2 = 0 := by
  have h1 := unl_zero (fst_zero h (unl (isName x.name && isName x.who) 4) (by simp)) (by decide)
  have h2 := unl_zero (fst_zero h (unl (isDate x.day) 2) (by simp)) (by decide)
  have h3 := fst_zero h (checkMarks x.marks).2 (by simp)
  rw [Bool.and_eq_true] at h1
  have := inR_iff.1 h2
  exact ⟨h1.1, h1.2, this.1, this.2, h3⟩
/-! ### Candidates -/
@[go_sem] theorem numF_0 (p : Nat → Bool) : numF p 0 = [] := rfl
theorem numF_succ (p : Nat → Bool) (k : Nat) : numF p (k + 1) = if p k then numF p k ++ [(k : Int)] else numF p k := rfl
theorem numF_len (p : Nat → Bool) : ∀ k, (numF p k).length ≤ k
  | 0 => by simp [numF]
  | k + 1 => by
    have := numF_len p k
    rw [numF_succ]
    split <;> simp <;> omega
/-- Items that are right, and a claim. -/
structure Rights (l : List Item) (c : Item) : Prop where
  few : l.length ≤ 1000
  marks : ∀ k, k < l.length → (xat l k).marks.length ≤ 1000 ∧ Keys (xat l k).marks
  cfew : c.marks.length ≤ 1000
  cday : 0 ≤ c.day ∧ c.day ≤ 100000
theorem ints_one (l : List Int) : ∀ (k : Nat) (x : List AV), (l.map intA)[k]? = some x → x.length = 1 ∧ ∀ c ∈ x, oneAV c = true := fun k x hx => by
  obtain ⟨y, hy, rfl⟩ := map_at hx
  exact ⟨rfl, by simp [intA, oneAV, Value.oneCell']⟩
theorem p_candidates (l : List Item) (c : Item) (h : Rights l c) : VCo Try.prog 28 [itemsA l, itemA c] 3 1 (decide (cands l c = [])) ((cands l c).map intA) := by
  obtain ⟨p, hp⟩ : ∃ p : Nat → Bool, p = fun k => canBe (xat l k) c := ⟨_, rfl⟩
  have hcd : cands l c = numF p l.length := by rw [hp]; rfl
  have H := Lib.hid h
  have hfew := h.few
  rw [hcd]
  have HPP := Lib.hid hp
  clear hcd h hp
  refine VCo_of Try.func28 rfl (by kernel_rfl) (by kernel_rfl) rfl Try.results28 (by decide) (ints_one _) fun M0 w0 => ?_
  simp only [Try.ntmps28, enumA]
  repeat' (first | (with_reducible first | refine vseq ?_ | refine vthenN ?_ | refine vthenE ?_ | refine vthenR ?_ | refine vret ?_ | refine vskip ?_ | refine vexit ?_ | refine vblock ?_ | refine vblockN ?_ | refine vblockR ?_ | refine vblockH ?_ | refine vrun_nil ?_ | refine vblockE rfl ?_ | refine vregion [5] ?_ | refine vhrun_nil ?_) | ((with_reducible refine vcondT ?_ ?_); (focus (go_simp; done))) | ((with_reducible refine vcondF ?_ ?_); (focus (go_simp; done))) | ((with_reducible first | refine vrun_cons fun KK hKK => ?_ | refine vhrun_cons fun KK hKK => ?_); go_simp; refine hKK _ ?_; clear hKK KK) | ((with_reducible refine vcondS ?_ (fun ht => ?_) (fun ht => ?_)); (focus (go_simp; done)); (all_goals (simp [go_sem] at ht; replace ht := ht.out))))
  apply vcnt [3, 8, 9] (fun k => [(10, I k), (5, .osl 0)]) (fun k => ([some (.arr 3 1 (decide (numF p k = [])) ((numF p k).map intA))] : Hp))  (l.length)
  · go_simp <;> exact rfl
  · go_simp
  · intro k hk K hK
    obtain ⟨w1, w2, w3, w4, w5, w6⟩ := ixs (m := k) (by omega)
    have hm := H.out.marks k hk
    rw [xat_get hk] at hm
    have g := p_canBe l[k] c hm.1 H.out.cfew H.out.cday
    have hpk : canBe l[k] c = p k := by rw [HPP.out]; simp only; rw [xat_get hk]
    rw [hpk] at g
    have hlen := numF_len p k
    have hs := numF_succ p k
    have hb : (numF p k).length + 1 ≤ 1000000000 := by omega
    cases hq : p k
    · rw [hq] at g hs
      rw [if_neg (by decide)] at hs
      have HS := Lib.hid hs
      clear hs hpk hm hq hlen
      repeat' (first | (with_reducible first | refine vseq ?_ | refine vthenN ?_ | refine vthenE ?_ | refine vthenR ?_ | refine vret ?_ | refine vskip ?_ | refine vexit ?_ | refine vblock ?_ | refine vblockN ?_ | refine vblockR ?_ | refine vblockH ?_ | refine vrun_nil ?_ | refine vblockE rfl ?_ | refine vregion [] ?_ | refine vhrun_nil ?_) | ((with_reducible refine vcondT ?_ ?_); (focus (go_simp; done))) | ((with_reducible refine vcondF ?_ ?_); (focus (go_simp; done))) | ((with_reducible first | refine vrun_cons fun KK hKK => ?_ | refine vhrun_cons fun KK hKK => ?_); go_simp; (first | (with_reducible refine ⟨_, g, ?_⟩) | skip); refine hKK _ ?_; clear hKK KK) | ((with_reducible refine vcondS ?_ (fun ht => ?_) (fun ht => ?_)); (focus (go_simp; done)); (all_goals (simp [go_sem] at ht; replace ht := ht.out))))
      refine hK _ ?_
      rw [HS.out]
      go_simp
    · rw [hq] at g hs
      rw [if_pos rfl] at hs
      have HS := Lib.hid hs
      clear hs hpk hm hq hlen
      repeat' (first | (with_reducible first | refine vseq ?_ | refine vthenN ?_ | refine vthenE ?_ | refine vthenR ?_ | refine vret ?_ | refine vskip ?_ | refine vexit ?_ | refine vblock ?_ | refine vblockN ?_ | refine vblockR ?_ | refine vblockH ?_ | refine vrun_nil ?_ | refine vblockE rfl ?_ | refine vregion [] ?_ | refine vhrun_nil ?_) | ((with_reducible refine vcondT ?_ ?_); (focus (go_simp; done))) | ((with_reducible refine vcondF ?_ ?_); (focus (go_simp; done))) | ((with_reducible first | refine vrun_cons fun KK hKK => ?_ | refine vhrun_cons fun KK hKK => ?_); go_simp; (first | (with_reducible refine ⟨_, g, ?_⟩) | skip); refine hKK _ ?_; clear hKK KK) | ((with_reducible refine vcondS ?_ (fun ht => ?_) (fun ht => ?_)); (focus (go_simp; done)); (all_goals (simp [go_sem] at ht; replace ht := ht.out))))
      refine hK _ ?_
      rw [HS.out]
      go_simp
  · intro K
    repeat' (first | (with_reducible first | refine vseq ?_ | refine vthenN ?_ | refine vthenE ?_ | refine vthenR ?_ | refine vret ?_ | refine vskip ?_ | refine vexit ?_ | refine vblock ?_ | refine vblockN ?_ | refine vblockR ?_ | refine vblockH ?_ | refine vrun_nil ?_ | refine vblockE rfl ?_ | refine vregion [] ?_ | refine vhrun_nil ?_) | ((with_reducible refine vcondT ?_ ?_); (focus (go_simp; done))) | ((with_reducible refine vcondF ?_ ?_); (focus (go_simp; done))) | ((with_reducible first | refine vrun_cons fun KK hKK => ?_ | refine vhrun_cons fun KK hKK => ?_); go_simp; refine hKK _ ?_; clear hKK KK) | ((with_reducible refine vcondS ?_ (fun ht => ?_) (fun ht => ?_)); (focus (go_simp; done)); (all_goals (simp [go_sem] at ht; replace ht := ht.out))))
    exact ⟨0, rfl, rfl⟩
end Go.Proofs.Ythbgghmjbaldlaa

/-! QM: Walks on plain values: lists of items and of claims; texts of at most 1000 bytes. -/
namespace Go.Proofs.Ythbgghmjbaldlaa
open Go.RowKit
set_option maxRecDepth 100000
set_option maxHeartbeats 1000000
structure SmallX (l : List Item) : Prop where
  few : l.length ≤ 1000
  each : ∀ x ∈ l, SmallI x
def sameN (l : List Item) (x : Item) (j : Nat) : Bool := decide ((xat l j).name = x.name)
theorem xat_take {l : List Item} {k j : Nat} (h : j < k) : xat (l.take k) j = xat l j := by simp [xat, List.getD, h]
theorem anyP_congr {p q : Nat → Bool} {n : Nat} (h : ∀ j, j < n → p j = q j) : anyP p 0 n = anyP q 0 n := by
  rw [Bool.eq_iff_iff, anyP_iff, anyP_iff]
  constructor
  · rintro ⟨j, h1, h2, h3⟩
    exact ⟨j, h1, h2, by rw [← h j (by omega)]; exact h3⟩
  · rintro ⟨j, h1, h2, h3⟩
    exact ⟨j, h1, h2, by rw [h j (by omega)]; exact h3⟩
theorem same_take {l : List Item} {x : Item} {k : Nat} (hk : k ≤ l.length) : anyP (sameN (l.take k) x) 0 (l.take k).length = anyP (sameN l x) 0 k := by
  rw [take_len hk]
  exact anyP_congr fun j hj => by simp only [sameN, xat_take hj]
theorem listE_at {l : List Item} {k : Nat} (hk : k < l.length) : listE l k = fst [thingErr l[k], unl (!anyP (sameN l l[k]) 0 k) 5] := by
  unfold listE sameN
  rw [xat_get hk]
theorem itemsErr_eq (l : List Item) : itemsErr l = if (l.length : Int) > 12 then 8 else (firstErr (listE l) 0 l.length).2 := by
  unfold itemsErr checkL
  split <;> rfl
def tat (l : List ByteArray) (k : Nat) : ByteArray := l.getD k ByteArray.empty
theorem tat_get {l : List ByteArray} {k : Nat} (h : k < l.length) : tat l k = l[k] := by simp [tat, h]
def isT (l : List ByteArray) (s : ByteArray) (k : Nat) : Bool := decide (tat l k = s)
theorem b_HasText (l : List ByteArray) (s : ByteArray) (hl : l.length ≤ 1000000) : VC Try.prog 44 [txtsA l, S s] (B (anyP (isT l s) 0 l.length)) := by
  obtain ⟨R, hR⟩ : ∃ R, anyP (isT l s) 0 l.length = R := ⟨_, rfl⟩
  rw [hR]
  have HR := Lib.hid hR
  clear hR
  refine VC_of Try.func44 rfl (by kernel_rfl) (by kernel_rfl) rfl fun M0 w0 => ?_
  simp only [Try.ntmps44, Try.results44, enumA]
  repeat' (first | (with_reducible first | refine vseq ?_ | refine vthenN ?_ | refine vthenE ?_ | refine vthenR ?_ | refine vret ?_ | refine vskip ?_ | refine vexit ?_ | refine vblock ?_ | refine vblockN ?_ | refine vblockR ?_ | refine vblockH ?_ | refine vrun_nil ?_ | refine vblockE rfl ?_ | refine vregion [] ?_ | refine vhrun_nil ?_) | ((with_reducible refine vcondT ?_ ?_); (focus (go_simp; done))) | ((with_reducible refine vcondF ?_ ?_); (focus (go_simp; done))) | ((with_reducible first | refine vrun_cons fun KK hKK => ?_ | refine vhrun_cons fun KK hKK => ?_); go_simp; refine hKK _ ?_; clear hKK KK) | ((with_reducible refine vcondS ?_ (fun ht => ?_) (fun ht => ?_)); (focus (go_simp; done)); (all_goals (simp [go_sem] at ht; replace ht := ht.out))))
  apply vfor [0, 1] (fun k => [(5, I k)]) (fun k => ([] : Hp)) (isT l s) (l.length)
  · go_simp <;> exact rfl
  · go_simp
  · intro k hk HB HP K hK
    obtain ⟨w1, w2, w3, w4, w5, w6⟩ := ixs (m := k) (by omega)
    have hp : ¬ l[k] = s := by
      have := HP.out
      simpa [isT, tat_get hk] using this
    repeat' (first | (with_reducible first | refine vseq ?_ | refine vthenN ?_ | refine vthenE ?_ | refine vthenR ?_ | refine vret ?_ | refine vskip ?_ | refine vexit ?_ | refine vblock ?_ | refine vblockN ?_ | refine vblockR ?_ | refine vblockH ?_ | refine vrun_nil ?_ | refine vblockE rfl ?_ | refine vregion [] ?_ | refine vhrun_nil ?_) | ((with_reducible refine vcondT ?_ ?_); (focus (go_simp; done))) | ((with_reducible refine vcondF ?_ ?_); (focus (go_simp; done))) | ((with_reducible first | refine vrun_cons fun KK hKK => ?_ | refine vhrun_cons fun KK hKK => ?_); go_simp; refine hKK _ ?_; clear hKK KK) | ((with_reducible refine vcondS ?_ (fun ht => ?_) (fun ht => ?_)); (focus (go_simp; done)); (all_goals (simp [go_sem] at ht; replace ht := ht.out))))
    refine hK _ ?_
    go_simp
  · intro k hk HB HP K
    have hp : l[k] = s := by
      have := HP.out
      simpa [isT, tat_get hk] using this
    have e := HR.out
    rw [anyP_hit hk HP.out] at e
    subst e
    repeat' (first | (with_reducible first | refine vseq ?_ | refine vthenN ?_ | refine vthenE ?_ | refine vthenR ?_ | refine vret ?_ | refine vskip ?_ | refine vexit ?_ | refine vblock ?_ | refine vblockN ?_ | refine vblockR ?_ | refine vblockH ?_ | refine vrun_nil ?_ | refine vblockE rfl ?_ | refine vregion [] ?_ | refine vhrun_nil ?_) | ((with_reducible refine vcondT ?_ ?_); (focus (go_simp; done))) | ((with_reducible refine vcondF ?_ ?_); (focus (go_simp; done))) | ((with_reducible first | refine vrun_cons fun KK hKK => ?_ | refine vhrun_cons fun KK hKK => ?_); go_simp; refine hKK _ ?_; clear hKK KK) | ((with_reducible refine vcondS ?_ (fun ht => ?_) (fun ht => ?_)); (focus (go_simp; done)); (all_goals (simp [go_sem] at ht; replace ht := ht.out))))
    go_simp
  · intro HB K
    have e := HR.out
    rw [anyP_out HB.out] at e
    subst e
    repeat (first | (with_reducible first | refine vseq ?_ | refine vthenN ?_ | refine vthenE ?_ | refine vthenR ?_ | refine vret ?_ | refine vskip ?_ | refine vexit ?_ | refine vblock ?_ | refine vblockN ?_ | refine vblockR ?_ | refine vblockH ?_ | refine vrun_nil ?_ | refine vblockE rfl ?_ | refine vregion [] ?_ | refine vhrun_nil ?_) | ((with_reducible refine vcondT ?_ ?_); (focus (go_simp; done))) | ((with_reducible refine vcondF ?_ ?_); (focus (go_simp; done))) | ((with_reducible first | refine vrun_cons fun KK hKK => ?_ | refine vhrun_cons fun KK hKK => ?_); go_simp; refine hKK _ ?_; clear hKK KK))
    go_simp
def upI (l : List Item) (k : Nat) : List Item := l.take k
theorem upI_succ {l : List Item} {k : Nat} (h : k < l.length) : upI l (k + 1) = upI l k ++ [l[k]] := by unfold upI; rw [List.take_add_one, List.getElem?_eq_getElem h]; rfl
theorem upI_len {l : List Item} {k : Nat} (h : k ≤ l.length) : (upI l k).length = k := take_len h
@[go_sem] theorem upI_0 (l : List Item) : upI l 0 = [] := rfl
theorem upI_all (l : List Item) : upI l l.length = l := List.take_length
def namesTo (l : List Item) (k : Nat) : List ByteArray := (l.take k).map (·.name)
theorem namesTo_len {l : List Item} {k : Nat} (h : k ≤ l.length) : (namesTo l k).length = k := by simp [namesTo]; omega
theorem namesTo_succ {l : List Item} {k : Nat} (h : k < l.length) : namesTo l (k + 1) = namesTo l k ++ [l[k].name] := by
  simp only [namesTo, List.take_add_one, List.getElem?_eq_getElem h, Option.toList, List.map_append, List.map_cons, List.map_nil]
@[go_sem] theorem namesTo_0 (l : List Item) : namesTo l 0 = [] := rfl
theorem names_any {l : List Item} {x : Item} {k : Nat} (hk : k ≤ l.length) : anyP (isT (namesTo l k) x.name) 0 (namesTo l k).length = anyP (sameN l x) 0 k := by
  rw [namesTo_len hk]
  exact anyP_congr fun j hj => by
    have h1 : j < (namesTo l k).length := by rw [namesTo_len hk]; exact hj
    simp only [isT, sameN, tat_get h1, xat_get (show j < l.length by omega)]
    simp [namesTo]

/-! ### Items -/
abbrev itemC (x : Item) : List AV := [.iface 84 (itemA x)]
theorem itemC_one (l : List Item) : ∀ (k : Nat) (x : List AV), (l.map itemC)[k]? = some x → x.length = 1 ∧ ∀ c ∈ x, oneAV c = true := fun k x hx => by
  obtain ⟨y, hy, rfl⟩ := map_at hx
  exact ⟨rfl, by simp [oneAV]⟩
theorem p_itemName (x : Item) : VC Try.prog 95 [itemA x] (S x.name) := by
  refine VC_of Try.func95 rfl (by kernel_rfl) (by kernel_rfl) rfl fun M0 w0 => ?_
  simp only [Try.ntmps95, Try.results95, enumA]
  repeat' (first | (with_reducible first | refine vseq ?_ | refine vthenN ?_ | refine vthenE ?_ | refine vthenR ?_ | refine vret ?_ | refine vskip ?_ | refine vexit ?_ | refine vblock ?_ | refine vblockN ?_ | refine vblockR ?_ | refine vblockH ?_ | refine vrun_nil ?_ | refine vblockE rfl ?_ | refine vregion [] ?_ | refine vhrun_nil ?_) | ((with_reducible refine vcondT ?_ ?_); (focus (go_simp; done))) | ((with_reducible refine vcondF ?_ ?_); (focus (go_simp; done))) | ((with_reducible first | refine vrun_cons fun KK hKK => ?_ | refine vhrun_cons fun KK hKK => ?_); go_simp; refine hKK _ ?_; clear hKK KK) | ((with_reducible refine vcondS ?_ (fun ht => ?_) (fun ht => ?_)); (focus (go_simp; done)); (all_goals (simp [go_sem] at ht; replace ht := ht.out))))
  go_simp
theorem c_itemOf (x : Item) : VC Try.prog 48 [itemA x] (itemA x) := by
  refine VC_of Try.func48 rfl (by kernel_rfl) (by kernel_rfl) rfl fun M0 w0 => ?_
  simp only [Try.ntmps48, Try.results48, enumA]
  repeat' (first | (with_reducible first | refine vseq ?_ | refine vthenN ?_ | refine vthenE ?_ | refine vthenR ?_ | refine vret ?_ | refine vskip ?_ | refine vexit ?_ | refine vblock ?_ | refine vblockN ?_ | refine vblockR ?_ | refine vblockH ?_ | refine vrun_nil ?_ | refine vblockE rfl ?_ | refine vregion [] ?_ | refine vhrun_nil ?_) | ((with_reducible refine vcondT ?_ ?_); (focus (go_simp; done))) | ((with_reducible refine vcondF ?_ ?_); (focus (go_simp; done))) | ((with_reducible first | refine vrun_cons fun KK hKK => ?_ | refine vhrun_cons fun KK hKK => ?_); go_simp; refine hKK _ ?_; clear hKK KK) | ((with_reducible refine vcondS ?_ (fun ht => ?_) (fun ht => ?_)); (focus (go_simp; done)); (all_goals (simp [go_sem] at ht; replace ht := ht.out))))
  go_simp
theorem o_itemThings (l : List Item) (hl : l.length ≤ 1000000) : VCo Try.prog 47 [itemsA l, .lit (.func (.func 48) #[] #[])] 120 1 (decide (l = [])) (l.map itemC) := by
  refine VCo_of Try.func47 rfl (by kernel_rfl) (by kernel_rfl) rfl Try.results47 (by decide) (itemC_one l) fun M0 w0 => ?_
  simp only [Try.ntmps47, enumA]
  repeat' (first | (with_reducible first | refine vseq ?_ | refine vthenN ?_ | refine vthenE ?_ | refine vthenR ?_ | refine vret ?_ | refine vskip ?_ | refine vexit ?_ | refine vblock ?_ | refine vblockN ?_ | refine vblockR ?_ | refine vblockH ?_ | refine vrun_nil ?_ | refine vblockE rfl ?_ | refine vregion [5] ?_ | refine vhrun_nil ?_) | ((with_reducible refine vcondT ?_ ?_); (focus (go_simp; done))) | ((with_reducible refine vcondF ?_ ?_); (focus (go_simp; done))) | ((with_reducible first | refine vrun_cons fun KK hKK => ?_ | refine vhrun_cons fun KK hKK => ?_); go_simp; refine hKK _ ?_; clear hKK KK) | ((with_reducible refine vcondS ?_ (fun ht => ?_) (fun ht => ?_)); (focus (go_simp; done)); (all_goals (simp [go_sem] at ht; replace ht := ht.out))))
  apply vcnt [1, 8, 9] (fun k => [(10, I k), (5, .osl 0)]) (fun k => ([some (.arr 120 1 (decide (upI l k = [])) ((upI l k).map itemC))] : Hp))  (l.length)
  · go_simp <;> exact rfl
  · go_simp
  · intro k hk K hK
    obtain ⟨w1, w2, w3, w4, w5, w6⟩ := ixs (m := k) (by omega)
    have hs := upI_succ hk
    have hnl := upI_len (l := l) (k := k) (by omega)
    have hb : (upI l k).length + 1 ≤ 1000000000 := by omega
    clear hnl
    have HS := Lib.hid hs
    clear hs
    repeat' (first | (with_reducible first | refine vseq ?_ | refine vthenN ?_ | refine vthenE ?_ | refine vthenR ?_ | refine vret ?_ | refine vskip ?_ | refine vexit ?_ | refine vblock ?_ | refine vblockN ?_ | refine vblockR ?_ | refine vblockH ?_ | refine vrun_nil ?_ | refine vblockE rfl ?_ | refine vregion [] ?_ | refine vhrun_nil ?_) | ((with_reducible refine vcondT ?_ ?_); (focus (go_simp; done))) | ((with_reducible refine vcondF ?_ ?_); (focus (go_simp; done))) | ((with_reducible first | refine vrun_cons fun KK hKK => ?_ | refine vhrun_cons fun KK hKK => ?_); go_simp; (first | (with_reducible refine ⟨_, c_itemOf _, ?_⟩) | skip); refine hKK _ ?_; clear hKK KK) | ((with_reducible refine vcondS ?_ (fun ht => ?_) (fun ht => ?_)); (focus (go_simp; done)); (all_goals (simp [go_sem] at ht; replace ht := ht.out))))
    refine hK _ ?_
    rw [HS.out]
    go_simp
  · intro K
    rw [upI_all]
    repeat' (first | (with_reducible first | refine vseq ?_ | refine vthenN ?_ | refine vthenE ?_ | refine vthenR ?_ | refine vret ?_ | refine vskip ?_ | refine vexit ?_ | refine vblock ?_ | refine vblockN ?_ | refine vblockR ?_ | refine vblockH ?_ | refine vrun_nil ?_ | refine vblockE rfl ?_ | refine vregion [] ?_ | refine vhrun_nil ?_) | ((with_reducible refine vcondT ?_ ?_); (focus (go_simp; done))) | ((with_reducible refine vcondF ?_ ?_); (focus (go_simp; done))) | ((with_reducible first | refine vrun_cons fun KK hKK => ?_ | refine vhrun_cons fun KK hKK => ?_); go_simp; refine hKK _ ?_; clear hKK KK) | ((with_reducible refine vcondS ?_ (fun ht => ?_) (fun ht => ?_)); (focus (go_simp; done)); (all_goals (simp [go_sem] at ht; replace ht := ht.out))))
    exact ⟨0, rfl, rfl⟩
theorem c_itemSame (x y : Item) : VC Try.prog 63 [.iface 84 (itemA y), .vp (itemC x)] (B (decide (y.name = x.name))) := by
  refine VC_of Try.func63 rfl (by kernel_rfl) (by kernel_rfl) rfl fun M0 w0 => ?_
  simp only [Try.ntmps63, Try.results63, enumA]
  repeat' (first | (with_reducible first | refine vseq ?_ | refine vthenN ?_ | refine vthenE ?_ | refine vthenR ?_ | refine vret ?_ | refine vskip ?_ | refine vexit ?_ | refine vblock ?_ | refine vblockN ?_ | refine vblockR ?_ | refine vblockH ?_ | refine vrun_nil ?_ | refine vblockE rfl ?_ | refine vregion [] ?_ | refine vhrun_nil ?_) | ((with_reducible refine vcondT ?_ ?_); (focus (go_simp; done))) | ((with_reducible refine vcondF ?_ ?_); (focus (go_simp; done))) | ((with_reducible first | refine vrun_cons fun KK hKK => ?_ | refine vhrun_cons fun KK hKK => ?_); go_simp; (first | (with_reducible refine ⟨_, p_itemName _, ?_⟩) | skip); refine hKK _ ?_; clear hKK KK) | ((refine vdrawL 6 6 [] rfl (by kernel_rfl) (by kernel_rfl) ?_); simp only [List.take, List.drop]) | ((with_reducible refine vcondS ?_ (fun ht => ?_) (fun ht => ?_)); (focus (go_simp; done)); (all_goals (simp [go_sem] at ht; replace ht := ht.out))))
  go_simp
theorem p_itemIndex (l : List Item) (x : Item) (hl : l.length ≤ 1000000) : VC Try.prog 72 [.sl 1 (l.map itemC), .fn (.func 63) [] [.vp (itemC x)]] (I (ixP (sameN l x) 0 l.length)) := by
  obtain ⟨R, hR⟩ : ∃ R, ixP (sameN l x) 0 l.length = R := ⟨_, rfl⟩
  rw [hR]
  have HR := Lib.hid hR
  clear hR
  refine VC_of Try.func72 rfl (by kernel_rfl) (by kernel_rfl) rfl fun M0 w0 => ?_
  simp only [Try.ntmps72, Try.results72, enumA]
  repeat' (first | (with_reducible first | refine vseq ?_ | refine vthenN ?_ | refine vthenE ?_ | refine vthenR ?_ | refine vret ?_ | refine vskip ?_ | refine vexit ?_ | refine vblock ?_ | refine vblockN ?_ | refine vblockR ?_ | refine vblockH ?_ | refine vrun_nil ?_ | refine vblockE rfl ?_ | refine vregion [] ?_ | refine vhrun_nil ?_) | ((with_reducible refine vcondT ?_ ?_); (focus (go_simp; done))) | ((with_reducible refine vcondF ?_ ?_); (focus (go_simp; done))) | ((with_reducible first | refine vrun_cons fun KK hKK => ?_ | refine vhrun_cons fun KK hKK => ?_); go_simp; refine hKK _ ?_; clear hKK KK) | ((with_reducible refine vcondS ?_ (fun ht => ?_) (fun ht => ?_)); (focus (go_simp; done)); (all_goals (simp [go_sem] at ht; replace ht := ht.out))))
  apply vfor [0, 1, 7] (fun k => [(8, I k)]) (fun k => ([] : Hp)) (sameN l x) (l.length)
  · go_simp <;> exact rfl
  · go_simp
  · intro k hk HB HP K hK
    obtain ⟨w1, w2, w3, w4, w5, w6⟩ := ixs (m := k) (by omega)
    have g := c_itemSame x l[k]
    have hp : decide (l[k].name = x.name) = false := by
      have := HP.out
      rwa [sameN, xat_get hk] at this
    rw [hp] at g
    clear hp
    repeat' (first | (with_reducible first | refine vseq ?_ | refine vthenN ?_ | refine vthenE ?_ | refine vthenR ?_ | refine vret ?_ | refine vskip ?_ | refine vexit ?_ | refine vblock ?_ | refine vblockN ?_ | refine vblockR ?_ | refine vblockH ?_ | refine vrun_nil ?_ | refine vblockE rfl ?_ | refine vregion [] ?_ | refine vhrun_nil ?_) | ((with_reducible refine vcondT ?_ ?_); (focus (go_simp; done))) | ((with_reducible refine vcondF ?_ ?_); (focus (go_simp; done))) | ((with_reducible first | refine vrun_cons fun KK hKK => ?_ | refine vhrun_cons fun KK hKK => ?_); go_simp; (first | (with_reducible refine ⟨_, g, ?_⟩) | skip); refine hKK _ ?_; clear hKK KK) | ((with_reducible refine vcondS ?_ (fun ht => ?_) (fun ht => ?_)); (focus (go_simp; done)); (all_goals (simp [go_sem] at ht; replace ht := ht.out))))
    refine hK _ ?_
    go_simp
  · intro k hk HB HP K
    have g := c_itemSame x l[k]
    have hp : decide (l[k].name = x.name) = true := by
      have := HP.out
      rwa [sameN, xat_get hk] at this
    rw [hp] at g
    clear hp
    have e := HR.out
    rw [ixP_hit hk HB.out HP.out] at e
    subst e
    repeat' (first | (with_reducible first | refine vseq ?_ | refine vthenN ?_ | refine vthenE ?_ | refine vthenR ?_ | refine vret ?_ | refine vskip ?_ | refine vexit ?_ | refine vblock ?_ | refine vblockN ?_ | refine vblockR ?_ | refine vblockH ?_ | refine vrun_nil ?_ | refine vblockE rfl ?_ | refine vregion [] ?_ | refine vhrun_nil ?_) | ((with_reducible refine vcondT ?_ ?_); (focus (go_simp; done))) | ((with_reducible refine vcondF ?_ ?_); (focus (go_simp; done))) | ((with_reducible first | refine vrun_cons fun KK hKK => ?_ | refine vhrun_cons fun KK hKK => ?_); go_simp; (first | (with_reducible refine ⟨_, g, ?_⟩) | skip); refine hKK _ ?_; clear hKK KK) | ((with_reducible refine vcondS ?_ (fun ht => ?_) (fun ht => ?_)); (focus (go_simp; done)); (all_goals (simp [go_sem] at ht; replace ht := ht.out))))
    go_simp
  · intro HB K
    have e := HR.out
    rw [ixP_out HB.out] at e
    subst e
    repeat (first | (with_reducible first | refine vseq ?_ | refine vthenN ?_ | refine vthenE ?_ | refine vthenR ?_ | refine vret ?_ | refine vskip ?_ | refine vexit ?_ | refine vblock ?_ | refine vblockN ?_ | refine vblockR ?_ | refine vblockH ?_ | refine vrun_nil ?_ | refine vblockE rfl ?_ | refine vregion [] ?_ | refine vhrun_nil ?_) | ((with_reducible refine vcondT ?_ ?_); (focus (go_simp; done))) | ((with_reducible refine vcondF ?_ ?_); (focus (go_simp; done))) | ((with_reducible first | refine vrun_cons fun KK hKK => ?_ | refine vhrun_cons fun KK hKK => ?_); go_simp; refine hKK _ ?_; clear hKK KK))
    go_simp
theorem p_itemContains (l : List Item) (x : Item) (hl : l.length ≤ 1000000) : VC Try.prog 62 [.sl 1 (l.map itemC), .fn (.func 63) [] [.vp (itemC x)]] (B (anyP (sameN l x) 0 l.length)) := by
  have h1 := p_itemIndex l x hl
  have h2 := ixP_any (p := sameN l x) l.length 0
  generalize ixP (sameN l x) 0 l.length = E at *
  generalize anyP (sameN l x) 0 l.length = F at *
  refine VC_of Try.func62 rfl (by kernel_rfl) (by kernel_rfl) rfl fun M0 w0 => ?_
  simp only [Try.ntmps62, Try.results62, enumA]
  repeat' (first | (with_reducible first | refine vseq ?_ | refine vthenN ?_ | refine vthenE ?_ | refine vthenR ?_ | refine vret ?_ | refine vskip ?_ | refine vexit ?_ | refine vblock ?_ | refine vblockN ?_ | refine vblockR ?_ | refine vblockH ?_ | refine vrun_nil ?_ | refine vblockE rfl ?_ | refine vregion [] ?_ | refine vhrun_nil ?_) | ((with_reducible refine vcondT ?_ ?_); (focus (go_simp; done))) | ((with_reducible refine vcondF ?_ ?_); (focus (go_simp; done))) | ((with_reducible first | refine vrun_cons fun KK hKK => ?_ | refine vhrun_cons fun KK hKK => ?_); go_simp; (first | (with_reducible refine ⟨_, h1, ?_⟩) | skip); refine hKK _ ?_; clear hKK KK) | ((with_reducible refine vcondS ?_ (fun ht => ?_) (fun ht => ?_)); (focus (go_simp; done)); (all_goals (simp [go_sem] at ht; replace ht := ht.out))))
  go_simp
theorem p_itemList (l : List Item) (h : SmallX l) : VC Try.prog 46 [.sl 1 (l.map itemC)] (I (itemsErr l)) := by
  obtain ⟨R, hR⟩ : ∃ R, itemsErr l = R := ⟨_, rfl⟩
  rw [hR]
  rw [itemsErr_eq] at hR
  have HR := Lib.hid hR
  have H := Lib.hid h
  have hfew := h.few
  clear hR h
  refine VC_of Try.func46 rfl (by kernel_rfl) (by kernel_rfl) rfl fun M0 w0 => ?_
  simp only [Try.ntmps46, Try.results46, enumA]
  by_cases h12 : (12 : Int) < l.length
  · have e := HR.out
    rw [if_pos h12] at e
    subst e
    repeat' (first | (with_reducible first | refine vseq ?_ | refine vthenN ?_ | refine vthenE ?_ | refine vthenR ?_ | refine vret ?_ | refine vskip ?_ | refine vexit ?_ | refine vblock ?_ | refine vblockN ?_ | refine vblockR ?_ | refine vblockH ?_ | refine vrun_nil ?_ | refine vblockE rfl ?_ | refine vregion [] ?_ | refine vhrun_nil ?_) | ((with_reducible refine vcondT ?_ ?_); (focus (go_simp; done))) | ((with_reducible refine vcondF ?_ ?_); (focus (go_simp; done))) | ((with_reducible first | refine vrun_cons fun KK hKK => ?_ | refine vhrun_cons fun KK hKK => ?_); go_simp; refine hKK _ ?_; clear hKK KK) | ((with_reducible refine vcondS ?_ (fun ht => ?_) (fun ht => ?_)); (focus (go_simp; done)); (all_goals (simp [go_sem] at ht; replace ht := ht.out))))
    go_simp
  · repeat' (first | (with_reducible first | refine vseq ?_ | refine vthenN ?_ | refine vthenE ?_ | refine vthenR ?_ | refine vret ?_ | refine vskip ?_ | refine vexit ?_ | refine vblock ?_ | refine vblockN ?_ | refine vblockR ?_ | refine vblockH ?_ | refine vrun_nil ?_ | refine vblockE rfl ?_ | refine vregion [] ?_ | refine vhrun_nil ?_) | ((with_reducible refine vcondT ?_ ?_); (focus (go_simp; done))) | ((with_reducible refine vcondF ?_ ?_); (focus (go_simp; done))) | ((with_reducible first | refine vrun_cons fun KK hKK => ?_ | refine vhrun_cons fun KK hKK => ?_); go_simp; refine hKK _ ?_; clear hKK KK) | ((with_reducible refine vcondS ?_ (fun ht => ?_) (fun ht => ?_)); (focus (go_simp; done)); (all_goals (simp [go_sem] at ht; replace ht := ht.out))))
    apply vfor [0, 10, 11] (fun k => [(12, I k)]) (fun k => ([] : Hp)) (bad (listE l)) (l.length)
    · go_simp <;> exact rfl
    · go_simp
    · intro k hk HB HP K hK
      obtain ⟨w1, w2, w3, w4, w5, w6⟩ := ixs (m := k) (by omega)
      have hkl : k ≤ l.length := by omega
      have g1 := p_itemContains (l.take k) l[k] (by rw [take_len hkl]; omega)
      rw [same_take hkl, List.map_take] at g1
      have g2 := p_itemErr l[k] (H.out.each _ (List.getElem_mem hk))
      have g3 := p_first [thingErr l[k], unl (!anyP (sameN l l[k]) 0 k) 5] (by simp)
      rw [← listE_at hk, bad_no HP.out] at g3
      have G1 := Lib.hid g1
      have G3 := Lib.hid g3
      clear g1 g3
      repeat' (first | (with_reducible first | refine vseq ?_ | refine vthenN ?_ | refine vthenE ?_ | refine vthenR ?_ | refine vret ?_ | refine vskip ?_ | refine vexit ?_ | refine vblock ?_ | refine vblockN ?_ | refine vblockR ?_ | refine vblockH ?_ | refine vrun_nil ?_ | refine vblockE rfl ?_ | refine vregion [] ?_ | refine vhrun_nil ?_) | ((with_reducible refine vcondT ?_ ?_); (focus (go_simp; done))) | ((with_reducible refine vcondF ?_ ?_); (focus (go_simp; done))) | ((with_reducible first | refine vrun_cons fun KK hKK => ?_ | refine vhrun_cons fun KK hKK => ?_); go_simp; (first | (refine ⟨_, ⟨G1.out, rfl⟩, ?_⟩) | (with_reducible refine ⟨_, g2, ?_⟩) | (with_reducible refine ⟨_, p_unless _ _, ?_⟩) | (refine ⟨_, G3.out, ?_⟩) | skip); refine hKK _ ?_; clear hKK KK) | ((with_reducible refine vcondS ?_ (fun ht => ?_) (fun ht => ?_)); (focus (go_simp; done)); (all_goals (simp [go_sem] at ht; replace ht := ht.out))))
      refine hK _ ?_
      go_simp
    · intro k hk HB HP K
      have hkl : k ≤ l.length := by omega
      have g1 := p_itemContains (l.take k) l[k] (by rw [take_len hkl]; omega)
      rw [same_take hkl, List.map_take] at g1
      have g2 := p_itemErr l[k] (H.out.each _ (List.getElem_mem hk))
      have g3 := p_first [thingErr l[k], unl (!anyP (sameN l l[k]) 0 k) 5] (by simp)
      have e := HR.out
      rw [if_neg h12, firstErr_hit hk HB.out HP.out] at e
      have hne := bad_yes HP.out
      simp only at e
      rw [e] at hne
      rw [← listE_at hk, e] at g3
      have G1 := Lib.hid g1
      have G3 := Lib.hid g3
      clear g1 g3 e
      repeat' (first | (with_reducible first | refine vseq ?_ | refine vthenN ?_ | refine vthenE ?_ | refine vthenR ?_ | refine vret ?_ | refine vskip ?_ | refine vexit ?_ | refine vblock ?_ | refine vblockN ?_ | refine vblockR ?_ | refine vblockH ?_ | refine vrun_nil ?_ | refine vblockE rfl ?_ | refine vregion [] ?_ | refine vhrun_nil ?_) | ((with_reducible refine vcondT ?_ ?_); (focus (go_simp; done))) | ((with_reducible refine vcondF ?_ ?_); (focus (go_simp; done))) | ((with_reducible first | refine vrun_cons fun KK hKK => ?_ | refine vhrun_cons fun KK hKK => ?_); go_simp; (first | (refine ⟨_, ⟨G1.out, rfl⟩, ?_⟩) | (with_reducible refine ⟨_, g2, ?_⟩) | (with_reducible refine ⟨_, p_unless _ _, ?_⟩) | (refine ⟨_, G3.out, ?_⟩) | skip); refine hKK _ ?_; clear hKK KK) | ((with_reducible refine vcondS ?_ (fun ht => ?_) (fun ht => ?_)); (focus (go_simp; done)); (all_goals (simp [go_sem] at ht; replace ht := ht.out))))
      go_simp
    · intro HB K
      have e := HR.out
      rw [if_neg h12, firstErr_out HB.out] at e
      subst e
      repeat (first | (with_reducible first | refine vseq ?_ | refine vthenN ?_ | refine vthenE ?_ | refine vthenR ?_ | refine vret ?_ | refine vskip ?_ | refine vexit ?_ | refine vblock ?_ | refine vblockN ?_ | refine vblockR ?_ | refine vblockH ?_ | refine vrun_nil ?_ | refine vblockE rfl ?_ | refine vregion [] ?_ | refine vhrun_nil ?_) | ((with_reducible refine vcondT ?_ ?_); (focus (go_simp; done))) | ((with_reducible refine vcondF ?_ ?_); (focus (go_simp; done))) | ((with_reducible first | refine vrun_cons fun KK hKK => ?_ | refine vhrun_cons fun KK hKK => ?_); go_simp; refine hKK _ ?_; clear hKK KK))
      go_simp
theorem p_itemsErr (l : List Item) (h : SmallX l) : VC Try.prog 25 [itemsA l] (I (itemsErr l)) := by
  have h1 := p_itemList l h
  have h2 := VC_of_own (o_itemThings l (by have := h.few; omega))
  generalize itemsErr l = E at *
  clear h
  refine VC_of Try.func25 rfl (by kernel_rfl) (by kernel_rfl) rfl fun M0 w0 => ?_
  simp only [Try.ntmps25, Try.results25, enumA]
  repeat' (first | (with_reducible first | refine vseq ?_ | refine vthenN ?_ | refine vthenE ?_ | refine vthenR ?_ | refine vret ?_ | refine vskip ?_ | refine vexit ?_ | refine vblock ?_ | refine vblockN ?_ | refine vblockR ?_ | refine vblockH ?_ | refine vrun_nil ?_ | refine vblockE rfl ?_ | refine vregion [] ?_ | refine vhrun_nil ?_) | ((with_reducible refine vcondT ?_ ?_); (focus (go_simp; done))) | ((with_reducible refine vcondF ?_ ?_); (focus (go_simp; done))) | ((with_reducible first | refine vrun_cons fun KK hKK => ?_ | refine vhrun_cons fun KK hKK => ?_); go_simp; (first | (with_reducible refine ⟨_, h2, ?_⟩) | (with_reducible refine ⟨_, h1, ?_⟩) | skip); refine hKK _ ?_; clear hKK KK) | ((with_reducible refine vcondS ?_ (fun ht => ?_) (fun ht => ?_)); (focus (go_simp; done)); (all_goals (simp [go_sem] at ht; replace ht := ht.out))))
  go_simp
theorem r_ItemsErr (l : List Item) (h : SmallX l) : VC Try.prog 21 [itemsA l] (I (itemsErr l)) := by
  obtain ⟨R, hR⟩ : ∃ R, itemsErr l = R := ⟨_, rfl⟩
  rw [hR]
  rw [itemsErr_eq] at hR
  have HR := Lib.hid hR
  have H := Lib.hid h
  have hfew := h.few
  clear hR h
  refine VC_of Try.func21 rfl (by kernel_rfl) (by kernel_rfl) rfl fun M0 w0 => ?_
  simp only [Try.ntmps21, Try.results21, enumA]
  by_cases h12 : (12 : Int) < l.length
  · have e := HR.out
    rw [if_pos h12] at e
    subst e
    repeat' (first | (with_reducible first | refine vseq ?_ | refine vthenN ?_ | refine vthenE ?_ | refine vthenR ?_ | refine vret ?_ | refine vskip ?_ | refine vexit ?_ | refine vblock ?_ | refine vblockN ?_ | refine vblockR ?_ | refine vblockH ?_ | refine vrun_nil ?_ | refine vblockE rfl ?_ | refine vregion [] ?_ | refine vhrun_nil ?_) | ((with_reducible refine vcondT ?_ ?_); (focus (go_simp; done))) | ((with_reducible refine vcondF ?_ ?_); (focus (go_simp; done))) | ((with_reducible first | refine vrun_cons fun KK hKK => ?_ | refine vhrun_cons fun KK hKK => ?_); go_simp; refine hKK _ ?_; clear hKK KK) | ((with_reducible refine vcondS ?_ (fun ht => ?_) (fun ht => ?_)); (focus (go_simp; done)); (all_goals (simp [go_sem] at ht; replace ht := ht.out))))
    go_simp
  · repeat' (first | (with_reducible first | refine vseq ?_ | refine vthenN ?_ | refine vthenE ?_ | refine vthenR ?_ | refine vret ?_ | refine vskip ?_ | refine vexit ?_ | refine vblock ?_ | refine vblockN ?_ | refine vblockR ?_ | refine vblockH ?_ | refine vrun_nil ?_ | refine vblockE rfl ?_ | refine vregion [3] ?_ | refine vhrun_nil ?_) | ((with_reducible refine vcondT ?_ ?_); (focus (go_simp; done))) | ((with_reducible refine vcondF ?_ ?_); (focus (go_simp; done))) | ((with_reducible first | refine vrun_cons fun KK hKK => ?_ | refine vhrun_cons fun KK hKK => ?_); go_simp; refine hKK _ ?_; clear hKK KK) | ((with_reducible refine vcondS ?_ (fun ht => ?_) (fun ht => ?_)); (focus (go_simp; done)); (all_goals (simp [go_sem] at ht; replace ht := ht.out))))
    apply vfor [0] (fun k => [(4, I k), (3, .osl 0)]) (fun k => ([some (.arr 9 1 (decide (namesTo l k = [])) ((namesTo l k).map txtA))] : Hp)) (bad (listE l)) (l.length)
    · go_simp <;> exact rfl
    · go_simp
    · intro k hk HB HP K hK
      obtain ⟨w1, w2, w3, w4, w5, w6⟩ := ixs (m := k) (by omega)
      have hkl : k ≤ l.length := by omega
      have hnl := namesTo_len hkl
      have g1 := b_HasText (namesTo l k) l[k].name (by omega)
      rw [names_any hkl] at g1
      have g2 := r_CheckItem l[k] (H.out.each _ (List.getElem_mem hk))
      have e := bad_no HP.out
      rw [listE_at hk] at e
      have e1 := fst_zero e (thingErr l[k]) (by simp)
      have e2 := unl_zero (fst_zero e (unl (!anyP (sameN l l[k]) 0 k) 5) (by simp)) (by decide)
      rw [Bool.not_eq_true'] at e2
      rw [e1] at g2
      rw [e2] at g1
      have hs := namesTo_succ hk
      have hb : (namesTo l k).length + 1 ≤ 1000000000 := by omega
      have HS := Lib.hid hs
      clear hs hnl e e1 e2
      repeat' (first | (with_reducible first | refine vseq ?_ | refine vthenN ?_ | refine vthenE ?_ | refine vthenR ?_ | refine vret ?_ | refine vskip ?_ | refine vexit ?_ | refine vblock ?_ | refine vblockN ?_ | refine vblockR ?_ | refine vblockH ?_ | refine vrun_nil ?_ | refine vblockE rfl ?_ | refine vregion [] ?_ | refine vhrun_nil ?_) | ((with_reducible refine vcondT ?_ ?_); (focus (go_simp; done))) | ((with_reducible refine vcondF ?_ ?_); (focus (go_simp; done))) | ((with_reducible first | refine vrun_cons fun KK hKK => ?_ | refine vhrun_cons fun KK hKK => ?_); go_simp; (first | (with_reducible refine ⟨_, g2, ?_⟩) | (refine ⟨_, ⟨g1, rfl⟩, ?_⟩) | skip); refine hKK _ ?_; clear hKK KK) | ((with_reducible refine vcondS ?_ (fun ht => ?_) (fun ht => ?_)); (focus (go_simp; done)); (all_goals (simp [go_sem] at ht; replace ht := ht.out))))
      refine hK _ ?_
      rw [HS.out]
      go_simp
    · intro k hk HB HP K
      have hkl : k ≤ l.length := by omega
      have hnl := namesTo_len hkl
      have g1 := b_HasText (namesTo l k) l[k].name (by omega)
      rw [names_any hkl] at g1
      have g2 := r_CheckItem l[k] (H.out.each _ (List.getElem_mem hk))
      have e := HR.out
      rw [if_neg h12, firstErr_hit hk HB.out HP.out] at e
      have hne := bad_yes HP.out
      simp only at e
      rw [e] at hne
      rw [listE_at hk] at e
      clear hnl
      generalize thingErr l[k] = T at *
      by_cases hT : T = 0
      · subst hT
        cases ha : anyP (sameN l l[k]) 0 k
        · rw [ha] at e
          exact absurd e.symm hne
        · rw [ha] at e g1
          have e5 : R = 5 := e.symm
          subst e5
          clear e
          repeat' (first | (with_reducible first | refine vseq ?_ | refine vthenN ?_ | refine vthenE ?_ | refine vthenR ?_ | refine vret ?_ | refine vskip ?_ | refine vexit ?_ | refine vblock ?_ | refine vblockN ?_ | refine vblockR ?_ | refine vblockH ?_ | refine vrun_nil ?_ | refine vblockE rfl ?_ | refine vregion [] ?_ | refine vhrun_nil ?_) | ((with_reducible refine vcondT ?_ ?_); (focus (go_simp; done))) | ((with_reducible refine vcondF ?_ ?_); (focus (go_simp; done))) | ((with_reducible first | refine vrun_cons fun KK hKK => ?_ | refine vhrun_cons fun KK hKK => ?_); go_simp; (first | (with_reducible refine ⟨_, g2, ?_⟩) | (refine ⟨_, ⟨g1, rfl⟩, ?_⟩) | skip); refine hKK _ ?_; clear hKK KK) | ((with_reducible refine vcondS ?_ (fun ht => ?_) (fun ht => ?_)); (focus (go_simp; done)); (all_goals (simp [go_sem] at ht; replace ht := ht.out))))
          go_simp
      · have e5 : R = T := by rw [← e]; simp [fst, hT]
        subst e5
        clear e
        repeat' (first | (with_reducible first | refine vseq ?_ | refine vthenN ?_ | refine vthenE ?_ | refine vthenR ?_ | refine vret ?_ | refine vskip ?_ | refine vexit ?_ | refine vblock ?_ | refine vblockN ?_ | refine vblockR ?_ | refine vblockH ?_ | refine vrun_nil ?_ | refine vblockE rfl ?_ | refine vregion [] ?_ | refine vhrun_nil ?_) | ((with_reducible refine vcondT ?_ ?_); (focus (go_simp; done))) | ((with_reducible refine vcondF ?_ ?_); (focus (go_simp; done))) | ((with_reducible first | refine vrun_cons fun KK hKK => ?_ | refine vhrun_cons fun KK hKK => ?_); go_simp; (first | (with_reducible refine ⟨_, g2, ?_⟩) | skip); refine hKK _ ?_; clear hKK KK) | ((with_reducible refine vcondS ?_ (fun ht => ?_) (fun ht => ?_)); (focus (go_simp; done)); (all_goals (simp [go_sem] at ht; replace ht := ht.out))))
        go_simp
    · intro HB K
      have e := HR.out
      rw [if_neg h12, firstErr_out HB.out] at e
      subst e
      repeat (first | (with_reducible first | refine vseq ?_ | refine vthenN ?_ | refine vthenE ?_ | refine vthenR ?_ | refine vret ?_ | refine vskip ?_ | refine vexit ?_ | refine vblock ?_ | refine vblockN ?_ | refine vblockR ?_ | refine vblockH ?_ | refine vrun_nil ?_ | refine vblockE rfl ?_ | refine vregion [] ?_ | refine vhrun_nil ?_) | ((with_reducible refine vcondT ?_ ?_); (focus (go_simp; done))) | ((with_reducible refine vcondF ?_ ?_); (focus (go_simp; done))) | ((with_reducible first | refine vrun_cons fun KK hKK => ?_ | refine vhrun_cons fun KK hKK => ?_); go_simp; refine hKK _ ?_; clear hKK KK))
      go_simp

/-! ### Claims -/
abbrev claimC (x : Item) : List AV := [.iface 103 (itemA x)]
theorem claimC_one (l : List Item) : ∀ (k : Nat) (x : List AV), (l.map claimC)[k]? = some x → x.length = 1 ∧ ∀ c ∈ x, oneAV c = true := fun k x hx => by
  obtain ⟨y, hy, rfl⟩ := map_at hx
  exact ⟨rfl, by simp [oneAV]⟩
theorem p_claimName (x : Item) : VC Try.prog 96 [itemA x] (S x.name) := by
  refine VC_of Try.func96 rfl (by kernel_rfl) (by kernel_rfl) rfl fun M0 w0 => ?_
  simp only [Try.ntmps96, Try.results96, enumA]
  repeat' (first | (with_reducible first | refine vseq ?_ | refine vthenN ?_ | refine vthenE ?_ | refine vthenR ?_ | refine vret ?_ | refine vskip ?_ | refine vexit ?_ | refine vblock ?_ | refine vblockN ?_ | refine vblockR ?_ | refine vblockH ?_ | refine vrun_nil ?_ | refine vblockE rfl ?_ | refine vregion [] ?_ | refine vhrun_nil ?_) | ((with_reducible refine vcondT ?_ ?_); (focus (go_simp; done))) | ((with_reducible refine vcondF ?_ ?_); (focus (go_simp; done))) | ((with_reducible first | refine vrun_cons fun KK hKK => ?_ | refine vhrun_cons fun KK hKK => ?_); go_simp; refine hKK _ ?_; clear hKK KK) | ((with_reducible refine vcondS ?_ (fun ht => ?_) (fun ht => ?_)); (focus (go_simp; done)); (all_goals (simp [go_sem] at ht; replace ht := ht.out))))
  go_simp
theorem c_claimOf (x : Item) : VC Try.prog 50 [itemA x] (itemA x) := by
  refine VC_of Try.func50 rfl (by kernel_rfl) (by kernel_rfl) rfl fun M0 w0 => ?_
  simp only [Try.ntmps50, Try.results50, enumA]
  repeat' (first | (with_reducible first | refine vseq ?_ | refine vthenN ?_ | refine vthenE ?_ | refine vthenR ?_ | refine vret ?_ | refine vskip ?_ | refine vexit ?_ | refine vblock ?_ | refine vblockN ?_ | refine vblockR ?_ | refine vblockH ?_ | refine vrun_nil ?_ | refine vblockE rfl ?_ | refine vregion [] ?_ | refine vhrun_nil ?_) | ((with_reducible refine vcondT ?_ ?_); (focus (go_simp; done))) | ((with_reducible refine vcondF ?_ ?_); (focus (go_simp; done))) | ((with_reducible first | refine vrun_cons fun KK hKK => ?_ | refine vhrun_cons fun KK hKK => ?_); go_simp; refine hKK _ ?_; clear hKK KK) | ((with_reducible refine vcondS ?_ (fun ht => ?_) (fun ht => ?_)); (focus (go_simp; done)); (all_goals (simp [go_sem] at ht; replace ht := ht.out))))
  go_simp
theorem o_claimThings (l : List Item) (hl : l.length ≤ 1000000) : VCo Try.prog 49 [itemsA l, .lit (.func (.func 50) #[] #[])] 120 1 (decide (l = [])) (l.map claimC) := by
  refine VCo_of Try.func49 rfl (by kernel_rfl) (by kernel_rfl) rfl Try.results49 (by decide) (claimC_one l) fun M0 w0 => ?_
  simp only [Try.ntmps49, enumA]
  repeat' (first | (with_reducible first | refine vseq ?_ | refine vthenN ?_ | refine vthenE ?_ | refine vthenR ?_ | refine vret ?_ | refine vskip ?_ | refine vexit ?_ | refine vblock ?_ | refine vblockN ?_ | refine vblockR ?_ | refine vblockH ?_ | refine vrun_nil ?_ | refine vblockE rfl ?_ | refine vregion [5] ?_ | refine vhrun_nil ?_) | ((with_reducible refine vcondT ?_ ?_); (focus (go_simp; done))) | ((with_reducible refine vcondF ?_ ?_); (focus (go_simp; done))) | ((with_reducible first | refine vrun_cons fun KK hKK => ?_ | refine vhrun_cons fun KK hKK => ?_); go_simp; refine hKK _ ?_; clear hKK KK) | ((with_reducible refine vcondS ?_ (fun ht => ?_) (fun ht => ?_)); (focus (go_simp; done)); (all_goals (simp [go_sem] at ht; replace ht := ht.out))))
  apply vcnt [1, 8, 9] (fun k => [(10, I k), (5, .osl 0)]) (fun k => ([some (.arr 120 1 (decide (upI l k = [])) ((upI l k).map claimC))] : Hp))  (l.length)
  · go_simp <;> exact rfl
  · go_simp
  · intro k hk K hK
    obtain ⟨w1, w2, w3, w4, w5, w6⟩ := ixs (m := k) (by omega)
    have hs := upI_succ hk
    have hnl := upI_len (l := l) (k := k) (by omega)
    have hb : (upI l k).length + 1 ≤ 1000000000 := by omega
    clear hnl
    have HS := Lib.hid hs
    clear hs
    repeat' (first | (with_reducible first | refine vseq ?_ | refine vthenN ?_ | refine vthenE ?_ | refine vthenR ?_ | refine vret ?_ | refine vskip ?_ | refine vexit ?_ | refine vblock ?_ | refine vblockN ?_ | refine vblockR ?_ | refine vblockH ?_ | refine vrun_nil ?_ | refine vblockE rfl ?_ | refine vregion [] ?_ | refine vhrun_nil ?_) | ((with_reducible refine vcondT ?_ ?_); (focus (go_simp; done))) | ((with_reducible refine vcondF ?_ ?_); (focus (go_simp; done))) | ((with_reducible first | refine vrun_cons fun KK hKK => ?_ | refine vhrun_cons fun KK hKK => ?_); go_simp; (first | (with_reducible refine ⟨_, c_claimOf _, ?_⟩) | skip); refine hKK _ ?_; clear hKK KK) | ((with_reducible refine vcondS ?_ (fun ht => ?_) (fun ht => ?_)); (focus (go_simp; done)); (all_goals (simp [go_sem] at ht; replace ht := ht.out))))
    refine hK _ ?_
    rw [HS.out]
    go_simp
  · intro K
    rw [upI_all]
    repeat' (first | (with_reducible first | refine vseq ?_ | refine vthenN ?_ | refine vthenE ?_ | refine vthenR ?_ | refine vret ?_ | refine vskip ?_ | refine vexit ?_ | refine vblock ?_ | refine vblockN ?_ | refine vblockR ?_ | refine vblockH ?_ | refine vrun_nil ?_ | refine vblockE rfl ?_ | refine vregion [] ?_ | refine vhrun_nil ?_) | ((with_reducible refine vcondT ?_ ?_); (focus (go_simp; done))) | ((with_reducible refine vcondF ?_ ?_); (focus (go_simp; done))) | ((with_reducible first | refine vrun_cons fun KK hKK => ?_ | refine vhrun_cons fun KK hKK => ?_); go_simp; refine hKK _ ?_; clear hKK KK) | ((with_reducible refine vcondS ?_ (fun ht => ?_) (fun ht => ?_)); (focus (go_simp; done)); (all_goals (simp [go_sem] at ht; replace ht := ht.out))))
    exact ⟨0, rfl, rfl⟩
theorem c_claimSame (x y : Item) : VC Try.prog 63 [.iface 103 (itemA y), .vp (claimC x)] (B (decide (y.name = x.name))) := by
  refine VC_of Try.func63 rfl (by kernel_rfl) (by kernel_rfl) rfl fun M0 w0 => ?_
  simp only [Try.ntmps63, Try.results63, enumA]
  repeat' (first | (with_reducible first | refine vseq ?_ | refine vthenN ?_ | refine vthenE ?_ | refine vthenR ?_ | refine vret ?_ | refine vskip ?_ | refine vexit ?_ | refine vblock ?_ | refine vblockN ?_ | refine vblockR ?_ | refine vblockH ?_ | refine vrun_nil ?_ | refine vblockE rfl ?_ | refine vregion [] ?_ | refine vhrun_nil ?_) | ((with_reducible refine vcondT ?_ ?_); (focus (go_simp; done))) | ((with_reducible refine vcondF ?_ ?_); (focus (go_simp; done))) | ((with_reducible first | refine vrun_cons fun KK hKK => ?_ | refine vhrun_cons fun KK hKK => ?_); go_simp; (first | (with_reducible refine ⟨_, p_claimName _, ?_⟩) | skip); refine hKK _ ?_; clear hKK KK) | ((refine vdrawL 6 6 [] rfl (by kernel_rfl) (by kernel_rfl) ?_); simp only [List.take, List.drop]) | ((with_reducible refine vcondS ?_ (fun ht => ?_) (fun ht => ?_)); (focus (go_simp; done)); (all_goals (simp [go_sem] at ht; replace ht := ht.out))))
  go_simp
theorem p_claimIndex (l : List Item) (x : Item) (hl : l.length ≤ 1000000) : VC Try.prog 72 [.sl 1 (l.map claimC), .fn (.func 63) [] [.vp (claimC x)]] (I (ixP (sameN l x) 0 l.length)) := by
  obtain ⟨R, hR⟩ : ∃ R, ixP (sameN l x) 0 l.length = R := ⟨_, rfl⟩
  rw [hR]
  have HR := Lib.hid hR
  clear hR
  refine VC_of Try.func72 rfl (by kernel_rfl) (by kernel_rfl) rfl fun M0 w0 => ?_
  simp only [Try.ntmps72, Try.results72, enumA]
  repeat' (first | (with_reducible first | refine vseq ?_ | refine vthenN ?_ | refine vthenE ?_ | refine vthenR ?_ | refine vret ?_ | refine vskip ?_ | refine vexit ?_ | refine vblock ?_ | refine vblockN ?_ | refine vblockR ?_ | refine vblockH ?_ | refine vrun_nil ?_ | refine vblockE rfl ?_ | refine vregion [] ?_ | refine vhrun_nil ?_) | ((with_reducible refine vcondT ?_ ?_); (focus (go_simp; done))) | ((with_reducible refine vcondF ?_ ?_); (focus (go_simp; done))) | ((with_reducible first | refine vrun_cons fun KK hKK => ?_ | refine vhrun_cons fun KK hKK => ?_); go_simp; refine hKK _ ?_; clear hKK KK) | ((with_reducible refine vcondS ?_ (fun ht => ?_) (fun ht => ?_)); (focus (go_simp; done)); (all_goals (simp [go_sem] at ht; replace ht := ht.out))))
  apply vfor [0, 1, 7] (fun k => [(8, I k)]) (fun k => ([] : Hp)) (sameN l x) (l.length)
  · go_simp <;> exact rfl
  · go_simp
  · intro k hk HB HP K hK
    obtain ⟨w1, w2, w3, w4, w5, w6⟩ := ixs (m := k) (by omega)
    have g := c_claimSame x l[k]
    have hp : decide (l[k].name = x.name) = false := by
      have := HP.out
      rwa [sameN, xat_get hk] at this
    rw [hp] at g
    clear hp
    repeat' (first | (with_reducible first | refine vseq ?_ | refine vthenN ?_ | refine vthenE ?_ | refine vthenR ?_ | refine vret ?_ | refine vskip ?_ | refine vexit ?_ | refine vblock ?_ | refine vblockN ?_ | refine vblockR ?_ | refine vblockH ?_ | refine vrun_nil ?_ | refine vblockE rfl ?_ | refine vregion [] ?_ | refine vhrun_nil ?_) | ((with_reducible refine vcondT ?_ ?_); (focus (go_simp; done))) | ((with_reducible refine vcondF ?_ ?_); (focus (go_simp; done))) | ((with_reducible first | refine vrun_cons fun KK hKK => ?_ | refine vhrun_cons fun KK hKK => ?_); go_simp; (first | (with_reducible refine ⟨_, g, ?_⟩) | skip); refine hKK _ ?_; clear hKK KK) | ((with_reducible refine vcondS ?_ (fun ht => ?_) (fun ht => ?_)); (focus (go_simp; done)); (all_goals (simp [go_sem] at ht; replace ht := ht.out))))
    refine hK _ ?_
    go_simp
  · intro k hk HB HP K
    have g := c_claimSame x l[k]
    have hp : decide (l[k].name = x.name) = true := by
      have := HP.out
      rwa [sameN, xat_get hk] at this
    rw [hp] at g
    clear hp
    have e := HR.out
    rw [ixP_hit hk HB.out HP.out] at e
    subst e
    repeat' (first | (with_reducible first | refine vseq ?_ | refine vthenN ?_ | refine vthenE ?_ | refine vthenR ?_ | refine vret ?_ | refine vskip ?_ | refine vexit ?_ | refine vblock ?_ | refine vblockN ?_ | refine vblockR ?_ | refine vblockH ?_ | refine vrun_nil ?_ | refine vblockE rfl ?_ | refine vregion [] ?_ | refine vhrun_nil ?_) | ((with_reducible refine vcondT ?_ ?_); (focus (go_simp; done))) | ((with_reducible refine vcondF ?_ ?_); (focus (go_simp; done))) | ((with_reducible first | refine vrun_cons fun KK hKK => ?_ | refine vhrun_cons fun KK hKK => ?_); go_simp; (first | (with_reducible refine ⟨_, g, ?_⟩) | skip); refine hKK _ ?_; clear hKK KK) | ((with_reducible refine vcondS ?_ (fun ht => ?_) (fun ht => ?_)); (focus (go_simp; done)); (all_goals (simp [go_sem] at ht; replace ht := ht.out))))
    go_simp
  · intro HB K
    have e := HR.out
    rw [ixP_out HB.out] at e
    subst e
    repeat (first | (with_reducible first | refine vseq ?_ | refine vthenN ?_ | refine vthenE ?_ | refine vthenR ?_ | refine vret ?_ | refine vskip ?_ | refine vexit ?_ | refine vblock ?_ | refine vblockN ?_ | refine vblockR ?_ | refine vblockH ?_ | refine vrun_nil ?_ | refine vblockE rfl ?_ | refine vregion [] ?_ | refine vhrun_nil ?_) | ((with_reducible refine vcondT ?_ ?_); (focus (go_simp; done))) | ((with_reducible refine vcondF ?_ ?_); (focus (go_simp; done))) | ((with_reducible first | refine vrun_cons fun KK hKK => ?_ | refine vhrun_cons fun KK hKK => ?_); go_simp; refine hKK _ ?_; clear hKK KK))
    go_simp
theorem p_claimContains (l : List Item) (x : Item) (hl : l.length ≤ 1000000) : VC Try.prog 62 [.sl 1 (l.map claimC), .fn (.func 63) [] [.vp (claimC x)]] (B (anyP (sameN l x) 0 l.length)) := by
  have h1 := p_claimIndex l x hl
  have h2 := ixP_any (p := sameN l x) l.length 0
  generalize ixP (sameN l x) 0 l.length = E at *
  generalize anyP (sameN l x) 0 l.length = F at *
  refine VC_of Try.func62 rfl (by kernel_rfl) (by kernel_rfl) rfl fun M0 w0 => ?_
  simp only [Try.ntmps62, Try.results62, enumA]
  repeat' (first | (with_reducible first | refine vseq ?_ | refine vthenN ?_ | refine vthenE ?_ | refine vthenR ?_ | refine vret ?_ | refine vskip ?_ | refine vexit ?_ | refine vblock ?_ | refine vblockN ?_ | refine vblockR ?_ | refine vblockH ?_ | refine vrun_nil ?_ | refine vblockE rfl ?_ | refine vregion [] ?_ | refine vhrun_nil ?_) | ((with_reducible refine vcondT ?_ ?_); (focus (go_simp; done))) | ((with_reducible refine vcondF ?_ ?_); (focus (go_simp; done))) | ((with_reducible first | refine vrun_cons fun KK hKK => ?_ | refine vhrun_cons fun KK hKK => ?_); go_simp; (first | (with_reducible refine ⟨_, h1, ?_⟩) | skip); refine hKK _ ?_; clear hKK KK) | ((with_reducible refine vcondS ?_ (fun ht => ?_) (fun ht => ?_)); (focus (go_simp; done)); (all_goals (simp [go_sem] at ht; replace ht := ht.out))))
  go_simp
theorem p_claimList (l : List Item) (h : SmallX l) : VC Try.prog 46 [.sl 1 (l.map claimC)] (I (itemsErr l)) := by
  obtain ⟨R, hR⟩ : ∃ R, itemsErr l = R := ⟨_, rfl⟩
  rw [hR]
  rw [itemsErr_eq] at hR
  have HR := Lib.hid hR
  have H := Lib.hid h
  have hfew := h.few
  clear hR h
  refine VC_of Try.func46 rfl (by kernel_rfl) (by kernel_rfl) rfl fun M0 w0 => ?_
  simp only [Try.ntmps46, Try.results46, enumA]
  by_cases h12 : (12 : Int) < l.length
  · have e := HR.out
    rw [if_pos h12] at e
    subst e
    repeat' (first | (with_reducible first | refine vseq ?_ | refine vthenN ?_ | refine vthenE ?_ | refine vthenR ?_ | refine vret ?_ | refine vskip ?_ | refine vexit ?_ | refine vblock ?_ | refine vblockN ?_ | refine vblockR ?_ | refine vblockH ?_ | refine vrun_nil ?_ | refine vblockE rfl ?_ | refine vregion [] ?_ | refine vhrun_nil ?_) | ((with_reducible refine vcondT ?_ ?_); (focus (go_simp; done))) | ((with_reducible refine vcondF ?_ ?_); (focus (go_simp; done))) | ((with_reducible first | refine vrun_cons fun KK hKK => ?_ | refine vhrun_cons fun KK hKK => ?_); go_simp; refine hKK _ ?_; clear hKK KK) | ((with_reducible refine vcondS ?_ (fun ht => ?_) (fun ht => ?_)); (focus (go_simp; done)); (all_goals (simp [go_sem] at ht; replace ht := ht.out))))
    go_simp
  · repeat' (first | (with_reducible first | refine vseq ?_ | refine vthenN ?_ | refine vthenE ?_ | refine vthenR ?_ | refine vret ?_ | refine vskip ?_ | refine vexit ?_ | refine vblock ?_ | refine vblockN ?_ | refine vblockR ?_ | refine vblockH ?_ | refine vrun_nil ?_ | refine vblockE rfl ?_ | refine vregion [] ?_ | refine vhrun_nil ?_) | ((with_reducible refine vcondT ?_ ?_); (focus (go_simp; done))) | ((with_reducible refine vcondF ?_ ?_); (focus (go_simp; done))) | ((with_reducible first | refine vrun_cons fun KK hKK => ?_ | refine vhrun_cons fun KK hKK => ?_); go_simp; refine hKK _ ?_; clear hKK KK) | ((with_reducible refine vcondS ?_ (fun ht => ?_) (fun ht => ?_)); (focus (go_simp; done)); (all_goals (simp [go_sem] at ht; replace ht := ht.out))))
    apply vfor [0, 10, 11] (fun k => [(12, I k)]) (fun k => ([] : Hp)) (bad (listE l)) (l.length)
    · go_simp <;> exact rfl
    · go_simp
    · intro k hk HB HP K hK
      obtain ⟨w1, w2, w3, w4, w5, w6⟩ := ixs (m := k) (by omega)
      have hkl : k ≤ l.length := by omega
      have g1 := p_claimContains (l.take k) l[k] (by rw [take_len hkl]; omega)
      rw [same_take hkl, List.map_take] at g1
      have g2 := p_claimErr l[k] (H.out.each _ (List.getElem_mem hk))
      have g3 := p_first [thingErr l[k], unl (!anyP (sameN l l[k]) 0 k) 5] (by simp)
      rw [← listE_at hk, bad_no HP.out] at g3
      have G1 := Lib.hid g1
      have G3 := Lib.hid g3
      clear g1 g3
      repeat' (first | (with_reducible first | refine vseq ?_ | refine vthenN ?_ | refine vthenE ?_ | refine vthenR ?_ | refine vret ?_ | refine vskip ?_ | refine vexit ?_ | refine vblock ?_ | refine vblockN ?_ | refine vblockR ?_ | refine vblockH ?_ | refine vrun_nil ?_ | refine vblockE rfl ?_ | refine vregion [] ?_ | refine vhrun_nil ?_) | ((with_reducible refine vcondT ?_ ?_); (focus (go_simp; done))) | ((with_reducible refine vcondF ?_ ?_); (focus (go_simp; done))) | ((with_reducible first | refine vrun_cons fun KK hKK => ?_ | refine vhrun_cons fun KK hKK => ?_); go_simp; (first | (refine ⟨_, ⟨G1.out, rfl⟩, ?_⟩) | (with_reducible refine ⟨_, g2, ?_⟩) | (with_reducible refine ⟨_, p_unless _ _, ?_⟩) | (refine ⟨_, G3.out, ?_⟩) | skip); refine hKK _ ?_; clear hKK KK) | ((with_reducible refine vcondS ?_ (fun ht => ?_) (fun ht => ?_)); (focus (go_simp; done)); (all_goals (simp [go_sem] at ht; replace ht := ht.out))))
      refine hK _ ?_
      go_simp
    · intro k hk HB HP K
      have hkl : k ≤ l.length := by omega
      have g1 := p_claimContains (l.take k) l[k] (by rw [take_len hkl]; omega)
      rw [same_take hkl, List.map_take] at g1
      have g2 := p_claimErr l[k] (H.out.each _ (List.getElem_mem hk))
      have g3 := p_first [thingErr l[k], unl (!anyP (sameN l l[k]) 0 k) 5] (by simp)
      have e := HR.out
      rw [if_neg h12, firstErr_hit hk HB.out HP.out] at e
      have hne := bad_yes HP.out
      simp only at e
      rw [e] at hne
      rw [← listE_at hk, e] at g3
      have G1 := Lib.hid g1
      have G3 := Lib.hid g3
      clear g1 g3 e
      repeat' (first | (with_reducible first | refine vseq ?_ | refine vthenN ?_ | refine vthenE ?_ | refine vthenR ?_ | refine vret ?_ | refine vskip ?_ | refine vexit ?_ | refine vblock ?_ | refine vblockN ?_ | refine vblockR ?_ | refine vblockH ?_ | refine vrun_nil ?_ | refine vblockE rfl ?_ | refine vregion [] ?_ | refine vhrun_nil ?_) | ((with_reducible refine vcondT ?_ ?_); (focus (go_simp; done))) | ((with_reducible refine vcondF ?_ ?_); (focus (go_simp; done))) | ((with_reducible first | refine vrun_cons fun KK hKK => ?_ | refine vhrun_cons fun KK hKK => ?_); go_simp; (first | (refine ⟨_, ⟨G1.out, rfl⟩, ?_⟩) | (with_reducible refine ⟨_, g2, ?_⟩) | (with_reducible refine ⟨_, p_unless _ _, ?_⟩) | (refine ⟨_, G3.out, ?_⟩) | skip); refine hKK _ ?_; clear hKK KK) | ((with_reducible refine vcondS ?_ (fun ht => ?_) (fun ht => ?_)); (focus (go_simp; done)); (all_goals (simp [go_sem] at ht; replace ht := ht.out))))
      go_simp
    · intro HB K
      have e := HR.out
      rw [if_neg h12, firstErr_out HB.out] at e
      subst e
      repeat (first | (with_reducible first | refine vseq ?_ | refine vthenN ?_ | refine vthenE ?_ | refine vthenR ?_ | refine vret ?_ | refine vskip ?_ | refine vexit ?_ | refine vblock ?_ | refine vblockN ?_ | refine vblockR ?_ | refine vblockH ?_ | refine vrun_nil ?_ | refine vblockE rfl ?_ | refine vregion [] ?_ | refine vhrun_nil ?_) | ((with_reducible refine vcondT ?_ ?_); (focus (go_simp; done))) | ((with_reducible refine vcondF ?_ ?_); (focus (go_simp; done))) | ((with_reducible first | refine vrun_cons fun KK hKK => ?_ | refine vhrun_cons fun KK hKK => ?_); go_simp; refine hKK _ ?_; clear hKK KK))
      go_simp
theorem p_claimsErr (l : List Item) (h : SmallX l) : VC Try.prog 26 [itemsA l] (I (itemsErr l)) := by
  have h1 := p_claimList l h
  have h2 := VC_of_own (o_claimThings l (by have := h.few; omega))
  generalize itemsErr l = E at *
  clear h
  refine VC_of Try.func26 rfl (by kernel_rfl) (by kernel_rfl) rfl fun M0 w0 => ?_
  simp only [Try.ntmps26, Try.results26, enumA]
  repeat' (first | (with_reducible first | refine vseq ?_ | refine vthenN ?_ | refine vthenE ?_ | refine vthenR ?_ | refine vret ?_ | refine vskip ?_ | refine vexit ?_ | refine vblock ?_ | refine vblockN ?_ | refine vblockR ?_ | refine vblockH ?_ | refine vrun_nil ?_ | refine vblockE rfl ?_ | refine vregion [] ?_ | refine vhrun_nil ?_) | ((with_reducible refine vcondT ?_ ?_); (focus (go_simp; done))) | ((with_reducible refine vcondF ?_ ?_); (focus (go_simp; done))) | ((with_reducible first | refine vrun_cons fun KK hKK => ?_ | refine vhrun_cons fun KK hKK => ?_); go_simp; (first | (with_reducible refine ⟨_, h2, ?_⟩) | (with_reducible refine ⟨_, h1, ?_⟩) | skip); refine hKK _ ?_; clear hKK KK) | ((with_reducible refine vcondS ?_ (fun ht => ?_) (fun ht => ?_)); (focus (go_simp; done)); (all_goals (simp [go_sem] at ht; replace ht := ht.out))))
  go_simp
end Go.Proofs.Ythbgghmjbaldlaa

/-! QN: Walks on plain values: the best candidate; texts of at most 1000 bytes. -/
namespace Go.Proofs.Ythbgghmjbaldlaa
open Go.RowKit
set_option maxRecDepth 100000
set_option maxHeartbeats 1000000
/-! ### Plain -/
def natA (n : Nat) : List AV := [I (n : Int)]
attribute [go_sem] natA
def nth (l : List Nat) (k : Nat) : Nat := l.getD k 0
theorem nth_get {l : List Nat} {k : Nat} (h : k < l.length) : nth l k = l[k] := by simp [nth, h]
def candN (p : Nat → Bool) : Nat → List Nat
  | 0 => []
  | n + 1 => if p n then candN p n ++ [n] else candN p n
theorem numF_cand (p : Nat → Bool) : ∀ n, (numF p n).map intA = (candN p n).map natA
  | 0 => rfl
  | n + 1 => by
    rw [numF_succ, candN]
    split
    · rw [List.map_append, List.map_append, numF_cand p n]; rfl
    · exact numF_cand p n
theorem candN_lt (p : Nat → Bool) : ∀ n, ∀ x ∈ candN p n, x < n ∧ p x = true
  | 0, x, h => by cases h
  | n + 1, x, h => by
    rw [candN] at h
    split at h
    · rename_i hp
      rcases List.mem_append.1 h with h | h
      · have := candN_lt p n x h
        exact ⟨by omega, this.2⟩
      · obtain rfl : x = n := by simpa using h
        exact ⟨by omega, hp⟩
    · have := candN_lt p n x h
      exact ⟨by omega, this.2⟩
theorem candN_asc (p : Nat → Bool) : ∀ n, (candN p n).Pairwise (· < ·)
  | 0 => .nil
  | n + 1 => by
    rw [candN]
    split
    · refine List.pairwise_append.2 ⟨candN_asc p n, List.pairwise_singleton _ _, fun x hx y hy => ?_⟩
      obtain rfl : y = n := by simpa using hy
      exact (candN_lt p y x hx).1
    · exact candN_asc p n
/-- The best of the first k + 1. -/
def bestTo (b : Nat → Nat → Bool) (ns : List Nat) : Nat → Nat
  | 0 => nth ns 0
  | k + 1 => if b (nth ns (k + 1)) (bestTo b ns k) then nth ns (k + 1) else bestTo b ns k
theorem bestTo_mem (b : Nat → Nat → Bool) (ns : List Nat) : ∀ k, k < ns.length → ∃ j, j ≤ k ∧ bestTo b ns k = nth ns j
  | 0, _ => ⟨0, Nat.le_refl _, rfl⟩
  | k + 1, h => by
    rw [bestTo]
    split
    · exact ⟨k + 1, Nat.le_refl _, rfl⟩
    · obtain ⟨j, h1, h2⟩ := bestTo_mem b ns k (by omega)
      exact ⟨j, by omega, h2⟩
theorem asc_lt {ns : List Nat} (h : ns.Pairwise (· < ·)) {i j : Nat} (hij : i < j) (hj : j < ns.length) : nth ns i < nth ns j := by
  rw [nth_get hj, nth_get (by omega)]
  exact List.pairwise_iff_getElem.1 h i j (by omega) hj hij
theorem best_lt {b : Nat → Nat → Bool} {ns : List Nat} (h : ns.Pairwise (· < ·)) {k : Nat} (hk : k + 1 < ns.length) : bestTo b ns k < nth ns (k + 1) := by
  obtain ⟨j, h1, h2⟩ := bestTo_mem b ns k (by omega)
  rw [h2]
  exact asc_lt h (by omega) hk
def cmpI (x y : Int) : Int := if x < y then -1 else if y < x then 1 else 0
def absI (n : Int) : Int := if n < 0 then -n else n
def szI (l : List Item) (c : Item) (i : Nat) : Int := absI ((xat l i).day - c.day)
def agI (l : List Item) (c : Item) (i : Nat) : Int := (agr (xat l i).marks c.marks).1
def bt (l : List Item) (c : Item) (i k : Nat) : Bool := decide (agI l c k < agI l c i) || (decide (agI l c i = agI l c k) && decide (szI l c i < szI l c k))
def cmp3 (l : List Item) (c : Item) (i k : Nat) : Int := fst [cmpI (agI l c k) (agI l c i), cmpI (szI l c i) (szI l c k), cmpI i k]
theorem cmp3_bt {l : List Item} {c : Item} {i k : Nat} (h : k < i) : decide (cmp3 l c i k < 0) = bt l c i k := by
  unfold cmp3 bt
  generalize agI l c k = a
  generalize agI l c i = b
  generalize szI l c i = s
  generalize szI l c k = t
  have h3 : cmpI i k = 1 := by
    unfold cmpI
    rw [if_neg (by omega), if_pos (by omega)]
  rw [h3]
  by_cases h1 : a < b
  · have : cmpI a b = -1 := if_pos h1
    rw [this]
    simp [fst, h1]
  · by_cases h2 : b < a
    · have : cmpI a b = 1 := by unfold cmpI; rw [if_neg h1, if_pos h2]
      rw [this]
      simp [fst, h1]
      intro he
      omega
    · have hab : b = a := by omega
      have : cmpI a b = 0 := by unfold cmpI; rw [if_neg h1, if_neg h2]
      rw [this]
      subst hab
      by_cases h4 : s < t
      · have : cmpI s t = -1 := if_pos h4
        rw [this]
        simp [fst, h4]
      · have h5 : cmpI s t = 0 ∨ cmpI s t = 1 := by unfold cmpI; rw [if_neg h4]; split <;> simp
        rcases h5 with h5 | h5 <;> rw [h5] <;> simp [fst, h4]
theorem fst_hit : ∀ {l : List Int} {k : Nat} (hk : k < l.length), (∀ j, j < k → iat l j = 0) → ¬ l[k] = 0 → fst l = l[k]
  | x :: r, 0, hk, _, h => by
    rw [fst]
    exact if_pos h
  | x :: r, k + 1, hk, hb, h => by
    have h0 : x = 0 := hb 0 (by omega)
    rw [fst, if_neg (by simpa using h0)]
    exact fst_hit (l := r) (k := k) (by simpa using hk) (fun j hj => by have := hb (j + 1) (by omega); simpa [iat] using this) h
theorem fst_out : ∀ {l : List Int}, (∀ j, j < l.length → iat l j = 0) → fst l = 0
  | [], _ => rfl
  | x :: r, h => by
    have h0 : x = 0 := h 0 (by simp)
    rw [fst, if_neg (by simpa using h0)]
    exact fst_out (l := r) fun j hj => by have := h (j + 1) (by simpa using hj); simpa [iat] using this
/-! ### The library's -/
theorem v_isNaN (x : Int) : VC Try.prog 54 [I x] (B false) := by
  refine VC_of Try.func54 rfl (by kernel_rfl) (by kernel_rfl) rfl fun M0 w0 => ?_
  simp only [Try.ntmps54, Try.results54, enumA]
  repeat' (first | (with_reducible first | refine vseq ?_ | refine vthenN ?_ | refine vthenE ?_ | refine vthenR ?_ | refine vret ?_ | refine vskip ?_ | refine vexit ?_ | refine vblock ?_ | refine vblockN ?_ | refine vblockR ?_ | refine vblockH ?_ | refine vrun_nil ?_ | refine vblockE rfl ?_ | refine vregion [] ?_ | refine vhrun_nil ?_) | ((with_reducible refine vcondT ?_ ?_); (focus (go_simp; done))) | ((with_reducible refine vcondF ?_ ?_); (focus (go_simp; done))) | ((with_reducible first | refine vrun_cons fun KK hKK => ?_ | refine vhrun_cons fun KK hKK => ?_); go_simp; refine hKK _ ?_; clear hKK KK) | ((with_reducible refine vcondS ?_ (fun ht => ?_) (fun ht => ?_)); (focus (go_simp; done)); (all_goals (simp [go_sem] at ht; replace ht := ht.out))))
  go_simp
theorem v_Compare (x y : Int) : VC Try.prog 35 [I x, I y] (I (cmpI x y)) := by
  unfold cmpI
  refine VC_of Try.func35 rfl (by kernel_rfl) (by kernel_rfl) rfl fun M0 w0 => ?_
  simp only [Try.ntmps35, Try.results35, enumA]
  repeat' (first | (with_reducible first | refine vseq ?_ | refine vthenN ?_ | refine vthenE ?_ | refine vthenR ?_ | refine vret ?_ | refine vskip ?_ | refine vexit ?_ | refine vblock ?_ | refine vblockN ?_ | refine vblockR ?_ | refine vblockH ?_ | refine vrun_nil ?_ | refine vblockE rfl ?_ | refine vregion [] ?_ | refine vhrun_nil ?_) | ((with_reducible refine vcondT ?_ ?_); (focus (go_simp; done))) | ((with_reducible refine vcondF ?_ ?_); (focus (go_simp; done))) | ((with_reducible first | refine vrun_cons fun KK hKK => ?_ | refine vhrun_cons fun KK hKK => ?_); go_simp; (first | (with_reducible refine ⟨_, v_isNaN _, ?_⟩) | skip); refine hKK _ ?_; clear hKK KK) | ((with_reducible refine vcondS ?_ (fun ht => ?_) (fun ht => ?_)); (focus (go_simp; done)); (all_goals (simp [go_sem] at ht; replace ht := ht.out))))
  all_goals (go_simp; first | done | (simp_all []; done) | (simp only []; (try intros); (repeat' split) <;> (first | rfl | omega | (simp_all; done) | (simp_all; omega))) | ((try intros); (repeat' split) <;> (first | rfl | omega | (simp_all; done) | (simp_all; omega))))
theorem v_Or (l : List Int) (hl : l.length ≤ 1000) : VC Try.prog 34 [intsA l] (I (fst l)) := by
  obtain ⟨R, hR⟩ : ∃ R, fst l = R := ⟨_, rfl⟩
  rw [hR]
  have HR := Lib.hid hR
  clear hR
  refine VC_of Try.func34 rfl (by kernel_rfl) (by kernel_rfl) rfl fun M0 w0 => ?_
  simp only [Try.ntmps34, Try.results34, enumA]
  repeat' (first | (with_reducible first | refine vseq ?_ | refine vthenN ?_ | refine vthenE ?_ | refine vthenR ?_ | refine vret ?_ | refine vskip ?_ | refine vexit ?_ | refine vblock ?_ | refine vblockN ?_ | refine vblockR ?_ | refine vblockH ?_ | refine vrun_nil ?_ | refine vblockE rfl ?_ | refine vregion [] ?_ | refine vhrun_nil ?_) | ((with_reducible refine vcondT ?_ ?_); (focus (go_simp; done))) | ((with_reducible refine vcondF ?_ ?_); (focus (go_simp; done))) | ((with_reducible first | refine vrun_cons fun KK hKK => ?_ | refine vhrun_cons fun KK hKK => ?_); go_simp; refine hKK _ ?_; clear hKK KK) | ((with_reducible refine vcondS ?_ (fun ht => ?_) (fun ht => ?_)); (focus (go_simp; done)); (all_goals (simp [go_sem] at ht; replace ht := ht.out))))
  apply vfor [3, 6, 7] (fun k => [(8, I k)]) (fun k => ([] : Hp)) ((fun k => decide (iat l k ≠ 0))) (l.length)
  · go_simp <;> exact rfl
  · go_simp
  · intro k hk HB HP K hK
    obtain ⟨w1, w2, w3, w4, w5, w6⟩ := ixs (m := k) (by omega)
    have hp : l[k] = 0 := by
      have := HP.out
      simpa [iat_get hk] using this
    repeat' (first | (with_reducible first | refine vseq ?_ | refine vthenN ?_ | refine vthenE ?_ | refine vthenR ?_ | refine vret ?_ | refine vskip ?_ | refine vexit ?_ | refine vblock ?_ | refine vblockN ?_ | refine vblockR ?_ | refine vblockH ?_ | refine vrun_nil ?_ | refine vblockE rfl ?_ | refine vregion [] ?_ | refine vhrun_nil ?_) | ((with_reducible refine vcondT ?_ ?_); (focus (go_simp; done))) | ((with_reducible refine vcondF ?_ ?_); (focus (go_simp; done))) | ((with_reducible first | refine vrun_cons fun KK hKK => ?_ | refine vhrun_cons fun KK hKK => ?_); go_simp; refine hKK _ ?_; clear hKK KK) | ((with_reducible refine vcondS ?_ (fun ht => ?_) (fun ht => ?_)); (focus (go_simp; done)); (all_goals (simp [go_sem] at ht; replace ht := ht.out))))
    refine hK _ ?_
    go_simp
  · intro k hk HB HP K
    have hp : ¬ l[k] = 0 := by
      have := HP.out
      simpa [iat_get hk] using this
    have e := HR.out
    have e2 : fst l = l[k] := fst_hit hk (fun j hj => by have := HB.out j hj; simpa using this) hp
    rw [e2] at e
    subst e
    repeat' (first | (with_reducible first | refine vseq ?_ | refine vthenN ?_ | refine vthenE ?_ | refine vthenR ?_ | refine vret ?_ | refine vskip ?_ | refine vexit ?_ | refine vblock ?_ | refine vblockN ?_ | refine vblockR ?_ | refine vblockH ?_ | refine vrun_nil ?_ | refine vblockE rfl ?_ | refine vregion [] ?_ | refine vhrun_nil ?_) | ((with_reducible refine vcondT ?_ ?_); (focus (go_simp; done))) | ((with_reducible refine vcondF ?_ ?_); (focus (go_simp; done))) | ((with_reducible first | refine vrun_cons fun KK hKK => ?_ | refine vhrun_cons fun KK hKK => ?_); go_simp; refine hKK _ ?_; clear hKK KK) | ((with_reducible refine vcondS ?_ (fun ht => ?_) (fun ht => ?_)); (focus (go_simp; done)); (all_goals (simp [go_sem] at ht; replace ht := ht.out))))
    go_simp
  · intro HB K
    have e := HR.out
    rw [fst_out fun j hj => by have := HB.out j hj; simpa using this] at e
    subst e
    repeat (first | (with_reducible first | refine vseq ?_ | refine vthenN ?_ | refine vthenE ?_ | refine vthenR ?_ | refine vret ?_ | refine vskip ?_ | refine vexit ?_ | refine vblock ?_ | refine vblockN ?_ | refine vblockR ?_ | refine vblockH ?_ | refine vrun_nil ?_ | refine vblockE rfl ?_ | refine vregion [] ?_ | refine vhrun_nil ?_) | ((with_reducible refine vcondT ?_ ?_); (focus (go_simp; done))) | ((with_reducible refine vcondF ?_ ?_); (focus (go_simp; done))) | ((with_reducible first | refine vrun_cons fun KK hKK => ?_ | refine vhrun_cons fun KK hKK => ?_); go_simp; refine hKK _ ?_; clear hKK KK))
    go_simp
end Go.Proofs.Ythbgghmjbaldlaa

/-! QO: Walks on plain values: the best candidate, of the program and of the reference; texts of at most 1000 bytes. -/
namespace Go.Proofs.Ythbgghmjbaldlaa
open Go.RowKit
set_option maxRecDepth 100000
set_option maxHeartbeats 1000000
theorem v_OrA (es : List (List AV)) (h : es = (intsOf es).map intA) (hl : Nat.ble (intsOf es).length 1000 = true) : VC Try.prog 34 [.sl 1 es] (I (fst (intsOf es))) := by
  have := v_Or (intsOf es) (Nat.le_of_ble_eq_true hl)
  rwa [intsA, ← h] at this
theorem p_size (n : Int) (h : -1000000000 ≤ n ∧ n ≤ 1000000000) : VC Try.prog 37 [I n] (I (absI n)) := by
  unfold absI
  have w1 := wrap_eq (x := -n) (by omega) (by omega)
  refine VC_of Try.func37 rfl (by kernel_rfl) (by kernel_rfl) rfl fun M0 w0 => ?_
  simp only [Try.ntmps37, Try.results37, enumA]
  repeat' (first | (with_reducible first | refine vseq ?_ | refine vthenN ?_ | refine vthenE ?_ | refine vthenR ?_ | refine vret ?_ | refine vskip ?_ | refine vexit ?_ | refine vblock ?_ | refine vblockN ?_ | refine vblockR ?_ | refine vblockH ?_ | refine vrun_nil ?_ | refine vblockE rfl ?_ | refine vregion [] ?_ | refine vhrun_nil ?_) | ((with_reducible refine vcondT ?_ ?_); (focus (go_simp; done))) | ((with_reducible refine vcondF ?_ ?_); (focus (go_simp; done))) | ((with_reducible first | refine vrun_cons fun KK hKK => ?_ | refine vhrun_cons fun KK hKK => ?_); go_simp; refine hKK _ ?_; clear hKK KK) | ((with_reducible refine vcondS ?_ (fun ht => ?_) (fun ht => ?_)); (focus (go_simp; done)); (all_goals (simp [go_sem] at ht; replace ht := ht.out))))
  all_goals (go_simp; first | done | (simp_all []; done) | (simp only []; (try intros); (repeat' split) <;> (first | rfl | omega | (simp_all; done) | (simp_all; omega))) | ((try intros); (repeat' split) <;> (first | rfl | omega | (simp_all; done) | (simp_all; omega))))
structure RightsD (l : List Item) (c : Item) : Prop extends Rights l c where
  iday : ∀ k, k < l.length → 0 ≤ (xat l k).day ∧ (xat l k).day ≤ 100000
theorem c_better (l : List Item) (c : Item) (i k : Nat) (h : RightsD l c) (hi : i < l.length) (hk : k < l.length) : VC Try.prog 33 [I (i : Int), I (k : Int), .vp [itemsA l], .vp [S c.name, I c.day, S c.who, .sl 2 (c.marks.map Mark.av)]] (I (cmp3 l c i k)) := by
  have hf := h.few
  have m1 := h.marks i hi
  have m2 := h.marks k hk
  have d1 := h.iday i hi
  have d2 := h.iday k hk
  have d3 := h.cday
  have c1 := h.cfew
  unfold cmp3 agI szI
  rw [xat_get hi] at *
  rw [xat_get hk] at *
  have g1 := p_compared l[i].marks c.marks m1.1 c1
  have g2 := p_compared l[k].marks c.marks m2.1 c1
  have g3 := p_size (l[i].day - c.day) (by omega)
  have g4 := p_size (l[k].day - c.day) (by omega)
  have w1 := wrap_eq (x := l[i].day - c.day) (by omega) (by omega)
  have w2 := wrap_eq (x := l[k].day - c.day) (by omega) (by omega)
  clear h m1 m2 d1 d2 d3
  generalize agr l[i].marks c.marks = A1 at *
  generalize agr l[k].marks c.marks = A2 at *
  generalize absI (l[i].day - c.day) = s1 at *
  generalize absI (l[k].day - c.day) = s2 at *
  refine VC_of Try.func33 rfl (by kernel_rfl) (by kernel_rfl) rfl fun M0 w0 => ?_
  simp only [Try.ntmps33, Try.results33, enumA]
  repeat' (first | (with_reducible first | refine vseq ?_ | refine vthenN ?_ | refine vthenE ?_ | refine vthenR ?_ | refine vret ?_ | refine vskip ?_ | refine vexit ?_ | refine vblock ?_ | refine vblockN ?_ | refine vblockR ?_ | refine vblockH ?_ | refine vrun_nil ?_ | refine vblockE rfl ?_ | refine vregion [] ?_ | refine vhrun_nil ?_) | ((with_reducible refine vcondT ?_ ?_); (focus (go_simp; done))) | ((with_reducible refine vcondF ?_ ?_); (focus (go_simp; done))) | ((with_reducible first | refine vrun_cons fun KK hKK => ?_ | refine vhrun_cons fun KK hKK => ?_); go_simp; (first | (with_reducible refine ⟨_, g1, ?_⟩) | (with_reducible refine ⟨_, g2, ?_⟩) | (with_reducible refine ⟨_, g3, ?_⟩) | (with_reducible refine ⟨_, g4, ?_⟩) | (with_reducible refine ⟨_, v_Compare _ _, ?_⟩) | (refine ⟨_, v_OrA _ rfl rfl, ?_⟩) | skip); refine hKK _ ?_; clear hKK KK) | ((refine vdrawL 44 44 [] rfl (by kernel_rfl) (by kernel_rfl) ?_); simp only [List.take, List.drop]) | ((with_reducible refine vcondS ?_ (fun ht => ?_) (fun ht => ?_)); (focus (go_simp; done)); (all_goals (simp [go_sem] at ht; replace ht := ht.out))))
  go_simp
theorem c_min (l : List Item) (c : Item) (ns : List Nat) (h : RightsD l c) (hn : 0 < ns.length) (hlt : ∀ k, k < ns.length → nth ns k < l.length) (ha : ns.Pairwise (· < ·)) (hl : ns.length ≤ 1000) :
    VC Try.prog 38 [.sl 1 (ns.map natA), .fn (.func 33) [] [.vp [itemsA l], .vp [S c.name, I c.day, S c.who, .sl 2 (c.marks.map Mark.av)]]] (I (bestTo (bt l c) ns (ns.length - 1) : Nat)) := by
  have H := Lib.hid h
  have HL := Lib.hid hlt
  have HA := Lib.hid ha
  clear h hlt ha
  have hn1 : ¬ (ns.length : Int) < 1 := by omega
  have h0 : bestTo (bt l c) ns 0 = ns[0] := by rw [bestTo, nth_get hn]
  refine VC_of Try.func38 rfl (by kernel_rfl) (by kernel_rfl) rfl fun M0 w0 => ?_
  simp only [Try.ntmps38, Try.results38, enumA]
  repeat' (first | (with_reducible first | refine vseq ?_ | refine vthenN ?_ | refine vthenE ?_ | refine vthenR ?_ | refine vret ?_ | refine vskip ?_ | refine vexit ?_ | refine vblock ?_ | refine vblockN ?_ | refine vblockR ?_ | refine vblockH ?_ | refine vrun_nil ?_ | refine vblockE rfl ?_ | refine vregion [] ?_ | refine vhrun_nil ?_) | ((with_reducible refine vcondT ?_ ?_); (focus (go_simp; done))) | ((with_reducible refine vcondF ?_ ?_); (focus (go_simp; done))) | ((with_reducible first | refine vrun_cons fun KK hKK => ?_ | refine vhrun_cons fun KK hKK => ?_); go_simp; refine hKK _ ?_; clear hKK KK) | ((with_reducible refine vcondS ?_ (fun ht => ?_) (fun ht => ?_)); (focus (go_simp; done)); (all_goals (simp [go_sem] at ht; replace ht := ht.out))))
  apply vcnt [0, 1] (fun k => [(6, I ((k : Int) + 1)), (5, I (bestTo (bt l c) ns k : Nat))]) (fun k => ([] : Hp))  (ns.length - 1)
  · go_simp <;> exact rfl
  · go_simp
  · intro k hk K hK
    have hk1 : k + 1 < ns.length := by omega
    obtain ⟨w1, w2, w3, w4, w5, w6⟩ := ixs (m := k) (by omega)
    have hki : (k : Int) + 1 < ns.length := by omega
    obtain ⟨j, hj1, hj2⟩ := bestTo_mem (bt l c) ns k (by omega)
    have hb1 : bestTo (bt l c) ns k < l.length := by rw [hj2]; exact HL.out j (by omega)
    have hb2 := HL.out (k + 1) hk1
    have hb3 := best_lt (b := bt l c) HA.out hk1
    have g := c_better l c (nth ns (k + 1)) (bestTo (bt l c) ns k) H.out hb2 hb1
    have hd := cmp3_bt (l := l) (c := c) hb3
    have hs : bestTo (bt l c) ns (k + 1) = if bt l c (nth ns (k + 1)) (bestTo (bt l c) ns k) then nth ns (k + 1) else bestTo (bt l c) ns k := rfl
    rw [nth_get hk1] at *
    generalize bestTo (bt l c) ns k = b at *
    generalize cmp3 l c ns[k + 1] b = q at *
    rw [← hd] at hs
    clear hd hj2 hb1 hb2 hb3 h0
    by_cases hq : q < 0
    · rw [decide_eq_true hq, if_pos rfl] at hs
      repeat' (first | (with_reducible first | refine vseq ?_ | refine vthenN ?_ | refine vthenE ?_ | refine vthenR ?_ | refine vret ?_ | refine vskip ?_ | refine vexit ?_ | refine vblock ?_ | refine vblockN ?_ | refine vblockR ?_ | refine vblockH ?_ | refine vrun_nil ?_ | refine vblockE rfl ?_ | refine vregion [] ?_ | refine vhrun_nil ?_) | ((with_reducible refine vcondT ?_ ?_); (focus (go_simp; done))) | ((with_reducible refine vcondF ?_ ?_); (focus (go_simp; done))) | ((with_reducible first | refine vrun_cons fun KK hKK => ?_ | refine vhrun_cons fun KK hKK => ?_); go_simp; (first | (with_reducible refine ⟨_, g, ?_⟩) | skip); refine hKK _ ?_; clear hKK KK) | ((with_reducible refine vcondS ?_ (fun ht => ?_) (fun ht => ?_)); (focus (go_simp; done)); (all_goals (simp [go_sem] at ht; replace ht := ht.out))))
      refine hK _ ?_
      rw [hs]
      go_simp
    · rw [decide_eq_false hq, if_neg (by decide)] at hs
      repeat' (first | (with_reducible first | refine vseq ?_ | refine vthenN ?_ | refine vthenE ?_ | refine vthenR ?_ | refine vret ?_ | refine vskip ?_ | refine vexit ?_ | refine vblock ?_ | refine vblockN ?_ | refine vblockR ?_ | refine vblockH ?_ | refine vrun_nil ?_ | refine vblockE rfl ?_ | refine vregion [] ?_ | refine vhrun_nil ?_) | ((with_reducible refine vcondT ?_ ?_); (focus (go_simp; done))) | ((with_reducible refine vcondF ?_ ?_); (focus (go_simp; done))) | ((with_reducible first | refine vrun_cons fun KK hKK => ?_ | refine vhrun_cons fun KK hKK => ?_); go_simp; (first | (with_reducible refine ⟨_, g, ?_⟩) | skip); refine hKK _ ?_; clear hKK KK) | ((with_reducible refine vcondS ?_ (fun ht => ?_) (fun ht => ?_)); (focus (go_simp; done)); (all_goals (simp [go_sem] at ht; replace ht := ht.out))))
      refine hK _ ?_
      rw [hs]
      go_simp
  · intro K
    have hki : ¬ ((ns.length - 1 : Nat) : Int) + 1 < ns.length := by omega
    clear h0
    repeat' (first | (with_reducible first | refine vseq ?_ | refine vthenN ?_ | refine vthenE ?_ | refine vthenR ?_ | refine vret ?_ | refine vskip ?_ | refine vexit ?_ | refine vblock ?_ | refine vblockN ?_ | refine vblockR ?_ | refine vblockH ?_ | refine vrun_nil ?_ | refine vblockE rfl ?_ | refine vregion [] ?_ | refine vhrun_nil ?_) | ((with_reducible refine vcondT ?_ ?_); (focus (go_simp; done))) | ((with_reducible refine vcondF ?_ ?_); (focus (go_simp; done))) | ((with_reducible first | refine vrun_cons fun KK hKK => ?_ | refine vhrun_cons fun KK hKK => ?_); go_simp; refine hKK _ ?_; clear hKK KK) | ((with_reducible refine vcondS ?_ (fun ht => ?_) (fun ht => ?_)); (focus (go_simp; done)); (all_goals (simp [go_sem] at ht; replace ht := ht.out))))
    go_simp
def candE (l : List Item) (c : Item) : Int := fst [itemsErr l, thingErr c]
theorem firstErr_zero {E : Nat → Int} : ∀ (n k : Nat), (firstErr E k n).2 = 0 → ∀ j, k ≤ j → j < k + n → E j = 0
  | 0, k, _, j, h1, h2 => by omega
  | n + 1, k, h, j, h1, h2 => by
    rw [firstErr] at h
    by_cases he : E k = 0
    · rw [if_neg (by simpa using he)] at h
      by_cases hj : j = k
      · rw [hj]; exact he
      · exact firstErr_zero n (k + 1) h j (by omega) (by omega)
    · rw [if_pos he] at h
      exact absurd h he
theorem items_zero {l : List Item} (h : itemsErr l = 0) : l.length ≤ 12 ∧ ∀ k, k < l.length → thingErr (xat l k) = 0 ∧ anyP (sameN l (xat l k)) 0 k = false := by
  rw [itemsErr_eq] at h
  split at h
  · cases h
  · refine ⟨by omega, fun k hk => ?_⟩
    have h1 := firstErr_zero l.length 0 h k (Nat.zero_le _) (by omega)
    rw [listE_at hk] at h1
    have h2 := fst_zero h1 (thingErr l[k]) (by simp)
    have h3 := unl_zero (fst_zero h1 (unl (!anyP (sameN l l[k]) 0 k) 5) (by simp)) (by decide)
    rw [xat_get hk]
    exact ⟨h2, by simpa using h3⟩
theorem rights_of {l : List Item} {c : Item} (hx : SmallX l) (hc : SmallI c) (hE : itemsErr l = 0) (hT : thingErr c = 0) : RightsD l c := by
  have hz := (items_zero hE).2
  have hp := thing_parts hT
  refine ⟨⟨hx.few, fun k hk => ⟨?_, keys_of (thing_parts (hz k hk).1).2.2.2.2⟩, hc.few, ⟨hp.2.2.1, hp.2.2.2.1⟩⟩, fun k hk => ?_⟩
  · rw [xat_get hk]
    exact (hx.each _ (List.getElem_mem hk)).few
  · have := thing_parts (hz k hk).1
    exact ⟨this.2.2.1, this.2.2.2.1⟩
/-- The numbers of the candidates. -/
def cnum (l : List Item) (c : Item) : List Nat := candN (fun k => canBe (xat l k) c) l.length
theorem cands_num (l : List Item) (c : Item) : (cands l c).map intA = (cnum l c).map natA := numF_cand _ _
theorem cnum_lt {l : List Item} {c : Item} {k : Nat} (hk : k < (cnum l c).length) : nth (cnum l c) k < l.length := by
  rw [nth_get hk]
  exact (candN_lt _ _ _ (List.getElem_mem hk)).1
theorem cnum_len (l : List Item) (c : Item) : (cnum l c).length ≤ l.length := by
  have h1 := congrArg List.length (cands_num l c)
  rw [List.length_map, List.length_map] at h1
  have := numF_len (fun k => canBe (xat l k) c) l.length
  unfold cands at h1
  omega
def bestV (l : List Item) (c : Item) : Nat := bestTo (bt l c) (cnum l c) ((cnum l c).length - 1)
theorem p_BestFor (l : List Item) (c : Item) (hx : SmallX l) (hc : SmallI c) : VC Try.prog 14 [itemsA l, itemA c]
    (.tup [I (if candE l c = 0 ∧ (cnum l c).length ≠ 0 then (bestV l c : Int) else 0), I (if candE l c ≠ 0 then candE l c else if (cnum l c).length = 0 then 12 else 0)]) := by
  have h1 := p_itemsErr l hx
  have h2 := p_CheckClaim c hc
  have hr := rights_of (l := l) (c := c) hx hc
  unfold candE
  by_cases hE : itemsErr l = 0
  · by_cases hT : thingErr c = 0
    · have R := hr hE hT
      have h3 := VC_of_own (p_candidates l c R.toRights)
      rw [cands_num] at h3
      rw [hE] at h1
      rw [hT] at h2
      rw [hE, hT]
      have hlen := cnum_len l c
      have hfew := hx.few
      by_cases hn : (cnum l c).length = 0
      · generalize cnum l c = ns at *
        obtain rfl := List.eq_nil_of_length_eq_zero hn
        clear hr R hx hc hn
        refine VC_of Try.func14 rfl (by kernel_rfl) (by kernel_rfl) rfl fun M0 w0 => ?_
        simp only [Try.ntmps14, Try.results14, enumA]
        repeat' (first | (with_reducible first | refine vseq ?_ | refine vthenN ?_ | refine vthenE ?_ | refine vthenR ?_ | refine vret ?_ | refine vskip ?_ | refine vexit ?_ | refine vblock ?_ | refine vblockN ?_ | refine vblockR ?_ | refine vblockH ?_ | refine vrun_nil ?_ | refine vblockE rfl ?_ | refine vregion [] ?_ | refine vhrun_nil ?_) | ((with_reducible refine vcondT ?_ ?_); (focus (go_simp; done))) | ((with_reducible refine vcondF ?_ ?_); (focus (go_simp; done))) | ((with_reducible first | refine vrun_cons fun KK hKK => ?_ | refine vhrun_cons fun KK hKK => ?_); go_simp; (first | (with_reducible refine ⟨_, h1, ?_⟩) | (with_reducible refine ⟨_, h2, ?_⟩) | (with_reducible refine ⟨_, h3, ?_⟩) | (refine ⟨_, p_firstA _ rfl rfl, ?_⟩) | skip); refine hKK _ ?_; clear hKK KK) | ((refine vdrawL 7 7 [] rfl (by kernel_rfl) (by kernel_rfl) ?_); simp only [List.take, List.drop]) | ((with_reducible refine vcondS ?_ (fun ht => ?_) (fun ht => ?_)); (focus (go_simp; done)); (all_goals (simp [go_sem] at ht; replace ht := ht.out))))
        go_simp
      · have h4 := c_min l c (cnum l c) R (by omega) (fun k hk => cnum_lt hk) (candN_asc _ _) (by omega)
        have hv : bestTo (bt l c) (cnum l c) ((cnum l c).length - 1) = bestV l c := rfl
        rw [hv] at h4
        generalize cnum l c = ns at *
        generalize bestV l c = b at *
        have hn2 : ¬ (ns.length : Int) = 0 := by omega
        have hn3 : ¬ ns = [] := fun h => hn (by rw [h]; rfl)
        clear hr R hx hc hv
        refine VC_of Try.func14 rfl (by kernel_rfl) (by kernel_rfl) rfl fun M0 w0 => ?_
        simp only [Try.ntmps14, Try.results14, enumA]
        repeat' (first | (with_reducible first | refine vseq ?_ | refine vthenN ?_ | refine vthenE ?_ | refine vthenR ?_ | refine vret ?_ | refine vskip ?_ | refine vexit ?_ | refine vblock ?_ | refine vblockN ?_ | refine vblockR ?_ | refine vblockH ?_ | refine vrun_nil ?_ | refine vblockE rfl ?_ | refine vregion [] ?_ | refine vhrun_nil ?_) | ((with_reducible refine vcondT ?_ ?_); (focus (go_simp; done))) | ((with_reducible refine vcondF ?_ ?_); (focus (go_simp; done))) | ((with_reducible first | refine vrun_cons fun KK hKK => ?_ | refine vhrun_cons fun KK hKK => ?_); go_simp; (first | (with_reducible refine ⟨_, h1, ?_⟩) | (with_reducible refine ⟨_, h2, ?_⟩) | (with_reducible refine ⟨_, h3, ?_⟩) | (with_reducible refine ⟨_, h4, ?_⟩) | (refine ⟨_, p_firstA _ rfl rfl, ?_⟩) | skip); refine hKK _ ?_; clear hKK KK) | ((refine vdrawL 7 7 [] rfl (by kernel_rfl) (by kernel_rfl) ?_); simp only [List.take, List.drop]) | ((with_reducible refine vcondS ?_ (fun ht => ?_) (fun ht => ?_)); (focus (go_simp; done)); (all_goals (simp [go_sem] at ht; replace ht := ht.out))))
        go_simp
    · have hf : fst [0, thingErr c] = thingErr c := by simp [fst, hT]
      rw [hE, hf]
      rw [hE] at h1
      clear hr hx hc
      generalize thingErr c = T at *
      have hf2 : fst [T] = T := by simp [fst, hT]
      refine VC_of Try.func14 rfl (by kernel_rfl) (by kernel_rfl) rfl fun M0 w0 => ?_
      simp only [Try.ntmps14, Try.results14, enumA]
      repeat' (first | (with_reducible first | refine vseq ?_ | refine vthenN ?_ | refine vthenE ?_ | refine vthenR ?_ | refine vret ?_ | refine vskip ?_ | refine vexit ?_ | refine vblock ?_ | refine vblockN ?_ | refine vblockR ?_ | refine vblockH ?_ | refine vrun_nil ?_ | refine vblockE rfl ?_ | refine vregion [] ?_ | refine vhrun_nil ?_) | ((with_reducible refine vcondT ?_ ?_); (focus (go_simp; done))) | ((with_reducible refine vcondF ?_ ?_); (focus (go_simp; done))) | ((with_reducible first | refine vrun_cons fun KK hKK => ?_ | refine vhrun_cons fun KK hKK => ?_); go_simp; (first | (with_reducible refine ⟨_, h1, ?_⟩) | (with_reducible refine ⟨_, h2, ?_⟩) | (refine ⟨_, p_firstA _ rfl rfl, ?_⟩) | skip); refine hKK _ ?_; clear hKK KK) | ((refine vdrawL 7 7 [] rfl (by kernel_rfl) (by kernel_rfl) ?_); simp only [List.take, List.drop]) | ((with_reducible refine vcondS ?_ (fun ht => ?_) (fun ht => ?_)); (focus (go_simp; done)); (all_goals (simp [go_sem] at ht; replace ht := ht.out))))
      go_simp
  · have hf : fst [itemsErr l, thingErr c] = itemsErr l := by simp [fst, hE]
    rw [hf]
    clear hr hx hc
    generalize itemsErr l = E at *
    generalize thingErr c = T at *
    refine VC_of Try.func14 rfl (by kernel_rfl) (by kernel_rfl) rfl fun M0 w0 => ?_
    simp only [Try.ntmps14, Try.results14, enumA]
    repeat' (first | (with_reducible first | refine vseq ?_ | refine vthenN ?_ | refine vthenE ?_ | refine vthenR ?_ | refine vret ?_ | refine vskip ?_ | refine vexit ?_ | refine vblock ?_ | refine vblockN ?_ | refine vblockR ?_ | refine vblockH ?_ | refine vrun_nil ?_ | refine vblockE rfl ?_ | refine vregion [] ?_ | refine vhrun_nil ?_) | ((with_reducible refine vcondT ?_ ?_); (focus (go_simp; done))) | ((with_reducible refine vcondF ?_ ?_); (focus (go_simp; done))) | ((with_reducible first | refine vrun_cons fun KK hKK => ?_ | refine vhrun_cons fun KK hKK => ?_); go_simp; (first | (with_reducible refine ⟨_, h1, ?_⟩) | (with_reducible refine ⟨_, h2, ?_⟩) | (refine ⟨_, p_firstA _ rfl rfl, ?_⟩) | skip); refine hKK _ ?_; clear hKK KK) | ((refine vdrawL 7 7 [] rfl (by kernel_rfl) (by kernel_rfl) ?_); simp only [List.take, List.drop]) | ((with_reducible refine vcondS ?_ (fun ht => ?_) (fun ht => ?_)); (focus (go_simp; done)); (all_goals (simp [go_sem] at ht; replace ht := ht.out))))
    go_simp
end Go.Proofs.Ythbgghmjbaldlaa

/-! P12: Pairs of items and claims, and covers: which are accepted, and that pairs are never more than a cover has; no program in sight. -/
namespace Go.Proofs.Ythbgghmjbaldlaa
open Go.RowKit
def pat (l : List (Int × Int)) (k : Nat) : Int × Int := l.getD k (0, 0)
theorem pat_get {l : List (Int × Int)} {k : Nat} (h : k < l.length) : pat l k = l[k] := by simp [pat, h]
@[go_sem] def pairAV (q : Int × Int) : List AV := [I q.1, I q.2]
abbrev pairsA (l : List (Int × Int)) : AV := .sl 2 (l.map pairAV)
def pairE (l c : List Item) (ps : List (Int × Int)) (k : Nat) : Int :=
  if (inR (pat ps k).1 0 ((l.length : Int) - 1) && inR (pat ps k).2 0 ((c.length : Int) - 1)) = false then 6 else
  if 0 < k ∧ (pat ps k).1 ≤ (pat ps (k - 1)).1 then 9 else
  if anyP (fun j => decide ((pat ps j).2 = (pat ps k).2)) 0 k = true then 26 else
  if canBe (xat l (pat ps k).1.toNat) (xat c (pat ps k).2.toNat) = false then 13 else 0
def pairsHead (l c : List Item) (ps : List (Int × Int)) : Int := fst [itemsErr l, itemsErr c, unl (decide ((ps.length : Int) ≤ 12)) 8]
def pairsE (l c : List Item) (ps : List (Int × Int)) : Int := if pairsHead l c ps ≠ 0 then pairsHead l c ps else (firstErr (pairE l c ps) 0 ps.length).2
def pairsN (l c : List Item) (ps : List (Int × Int)) : Int := if pairsE l c ps = 0 then (ps.length : Int) else 0
def hasI (l : List Int) (n : Int) : Bool := anyP (isI l n) 0 l.length
def befI (l : List Int) (k : Nat) : Int := if k = 0 then -1 else iat l (k - 1)
def numE (n : Int) (l : List Int) (k : Nat) : Int := fst [unl (inR (iat l k) 0 (n - 1)) 6, unl (decide (befI l k < iat l k)) 9]
def numsE (l : List Int) (n : Int) : Int := (firstErr (numE n l) 0 l.length).2
def openP (l c : List Item) (xi xc : List Int) (k : Nat) : Bool := !hasI xc k && anyP (fun i => canBe (xat l i) (xat c k) && !hasI xi i) 0 l.length
def coverHead (l c : List Item) (xi xc : List Int) : Int := fst [itemsErr l, itemsErr c, numsE xi l.length, numsE xc c.length]
def coverE (l c : List Item) (xi xc : List Int) : Int := if coverHead l c xi xc ≠ 0 then coverHead l c xi xc else if anyP (openP l c xi xc) 0 c.length = true then 20 else 0
def coverN (l c : List Item) (xi xc : List Int) : Int := if coverE l c xi xc = 0 then (xi.length : Int) + (xc.length : Int) else 0
theorem nodup_len {α : Type} : ∀ {l m : List α}, l.Nodup → (∀ x ∈ l, x ∈ m) → l.length ≤ m.length
  | [], _, _, _ => Nat.zero_le _
  | a :: l, m, h, hs => by
    obtain ⟨s, t, rfl⟩ := List.append_of_mem (hs a (by simp))
    have h1 := nodup_len (l := l) (m := s ++ t) (List.nodup_cons.1 h).2 fun x hx => by
      have := hs x (by simp [hx])
      have hne : x ≠ a := fun e => (List.nodup_cons.1 h).1 (by rw [← e]; exact hx)
      simp only [List.mem_append, List.mem_cons] at this ⊢
      rcases this with h | h | h
      · exact .inl h
      · exact absurd h hne
      · exact .inr h
    simp only [List.length_cons, List.length_append] at h1 ⊢
    omega
/-- What is known of accepted pairs. -/
structure PairsOK (l c : List Item) (ps : List (Int × Int)) : Prop where
  one : ∀ k, k < ps.length → 0 ≤ (pat ps k).1 ∧ (pat ps k).1 < l.length ∧ 0 ≤ (pat ps k).2 ∧ (pat ps k).2 < c.length ∧ canBe (xat l (pat ps k).1.toNat) (xat c (pat ps k).2.toNat) = true
  asc : ∀ i j, i < j → j < ps.length → (pat ps i).1 < (pat ps j).1
  dif : ∀ i j, i < j → j < ps.length → (pat ps i).2 ≠ (pat ps j).2
theorem pairE_zero {l c : List Item} {ps : List (Int × Int)} {k : Nat} (h : pairE l c ps k = 0) : (0 ≤ (pat ps k).1 ∧ (pat ps k).1 < l.length ∧ 0 ≤ (pat ps k).2 ∧ (pat ps k).2 < c.length) ∧ (0 < k → (pat ps (k - 1)).1 < (pat ps k).1) ∧
    (∀ j, j < k → (pat ps j).2 ≠ (pat ps k).2) ∧ canBe (xat l (pat ps k).1.toNat) (xat c (pat ps k).2.toNat) = true := by
  unfold pairE at h
  split at h
  · cases h
  · rename_i h1
    rw [Bool.not_eq_false, Bool.and_eq_true, inR_iff, inR_iff] at h1
    split at h
    · cases h
    · rename_i h2
      split at h
      · cases h
      · rename_i h3
        split at h
        · cases h
        · rename_i h4
          refine ⟨by omega, fun hk => by omega, fun j hj he => h3 (anyP_iff.2 ⟨j, Nat.zero_le _, by omega, by simpa using he⟩), by simpa using h4⟩
theorem pairs_zero {l c : List Item} {ps : List (Int × Int)} (h : pairsE l c ps = 0) : PairsOK l c ps := by
  unfold pairsE at h
  split at h
  · rename_i hh
    exact absurd h hh
  · have hz := fun k (hk : k < ps.length) => pairE_zero (firstErr_zero ps.length 0 h k (Nat.zero_le _) (by omega))
    refine ⟨fun k hk => ?_, fun i j hij hj => ?_, fun i j hij hj => (hz j hj).2.2.1 i hij⟩
    · obtain ⟨⟨a, b, c, d⟩, _, _, e⟩ := hz k hk
      exact ⟨a, b, c, d, e⟩
    · obtain ⟨d, rfl⟩ : ∃ d, j = i + d + 1 := ⟨j - i - 1, by omega⟩
      clear hij
      induction d with
      | zero => exact (hz (i + 0 + 1) hj).2.1 (by omega)
      | succ d ih =>
        have h1 := ih (by omega)
        have h2 := (hz (i + (d + 1) + 1) hj).2.1 (by omega)
        rw [show i + (d + 1) + 1 - 1 = i + d + 1 by omega] at h2
        omega
theorem hasI_mem {l : List Int} {n : Int} (h : hasI l n = true) : n ∈ l := by
  obtain ⟨j, _, h2, h3⟩ := anyP_iff.1 h
  have hj : j < l.length := by omega
  have : iat l j = n := by
    simp only [isI, decide_eq_true_eq] at h3
    first | exact h3 | exact h3.symm
  rw [iat_get hj] at this
  rw [← this]
  exact List.getElem_mem hj
theorem cover_zero {l c : List Item} {xi xc : List Int} (h : coverE l c xi xc = 0) {i k : Nat} (hi : i < l.length) (hk : k < c.length) (hc : canBe (xat l i) (xat c k) = true) : hasI xi i = true ∨ hasI xc k = true := by
  unfold coverE at h
  split at h
  · rename_i hh
    exact absurd h hh
  · split at h
    · cases h
    · rename_i hh
      cases h1 : hasI xi i
      · cases h2 : hasI xc k
        · refine absurd (anyP_iff.2 ⟨k, Nat.zero_le _, by omega, ?_⟩) hh
          unfold openP
          rw [h2, Bool.not_false, Bool.true_and]
          exact anyP_iff.2 ⟨i, Nat.zero_le _, by omega, by simp [hc, h1]⟩
        · exact .inr rfl
      · exact .inl rfl
theorem no_more {l c : List Item} {ps : List (Int × Int)} {xi xc : List Int} (h1 : pairsE l c ps = 0) (h2 : coverE l c xi xc = 0) : pairsN l c ps ≤ coverN l c xi xc := by
  have P := pairs_zero h1
  unfold pairsN coverN
  rw [if_pos h1, if_pos h2]
  let f : Nat → Bool × Int := fun k => if hasI xi (pat ps k).1 = true then (false, (pat ps k).1) else (true, (pat ps k).2)
  have hl := nodup_len (l := (List.range ps.length).map f) (m := xi.map (fun n => (false, n)) ++ xc.map (fun n => (true, n))) ?_ ?_
  · simp only [List.length_map, List.length_range, List.length_append] at hl
    omega
  · refine List.pairwise_iff_getElem.2 fun i j hi hj hij => ?_
    simp only [List.length_map, List.length_range] at hi hj
    simp only [List.getElem_map, List.getElem_range]
    have a1 := P.asc i j hij hj
    have a2 := P.dif i j hij hj
    simp only [f]
    split <;> split <;> simp only [ne_eq, Prod.mk.injEq, true_and, reduceCtorEq, false_and, not_false_eq_true]
    · omega
    · exact a2
  · intro x hx
    obtain ⟨k, hk, rfl⟩ := List.mem_map.1 hx
    have hk := List.mem_range.1 hk
    obtain ⟨b1, b2, b3, b4, b5⟩ := P.one k hk
    simp only [f]
    split
    · rename_i h
      exact List.mem_append_left _ (List.mem_map.2 ⟨_, hasI_mem h, rfl⟩)
    · rename_i h
      have := cover_zero h2 (i := (pat ps k).1.toNat) (k := (pat ps k).2.toNat) (by omega) (by omega) b5
      rw [Int.toNat_of_nonneg b1, Int.toNat_of_nonneg b3] at this
      rcases this with h5 | h5
      · exact absurd h5 h
      · exact List.mem_append_right _ (List.mem_map.2 ⟨_, hasI_mem h5, rfl⟩)
end Go.Proofs.Ythbgghmjbaldlaa
