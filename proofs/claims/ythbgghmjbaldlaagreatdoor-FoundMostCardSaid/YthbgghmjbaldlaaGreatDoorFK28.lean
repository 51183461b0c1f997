/- Texts in one: Joined texts, small numbers as texts, and the text of an item; the item's number is below 100 or its text is told. -/
import Derived.Test.YthbgghmjbaldlaaGreatDoorFK27
import Derived.Test.YthbgghmjbaldlaaGreatDoorFK20
/-! QP: Joined texts, small numbers as texts, and the text of an item; the item's number is below 100 or its text is told. -/
namespace Go.Proofs.YthbgghmjbaldlaaGreatDoor
open Go.RowKit Go.Shelf
set_option maxRecDepth 100000
set_option maxHeartbeats 1000000
theorem joinExtra : Builder.Extra Tryz.prog laysJoin_ren where
  sizeBuilder := by kernel_rfl
  liesBuilder := by kernel_rfl
  t5 := Tryz.underlying5
  a5 := Tryz.isAgg5
  z5 := Tryz.sizeOf5
  v5 := Tryz.zeroValue5
  infoByte := by kernel_rfl
  cellsByte := by kernel_rfl
  sizeByte := by kernel_rfl
  neB5 := by decide
def bl (b : ByteArray) : List UInt8 := b.data.toList
def joinB (l : List ByteArray) (sep : ByteArray) : ByteArray := ⟨(Lib.join (l.map bl) (bl sep)).toArray⟩
theorem v_Join (l : List ByteArray) (sep : ByteArray) (h : (Lib.join (l.map bl) (bl sep)).length ≤ 1000000000) (hl : l.length ≤ 1000000000) : VC Tryz.prog 76 [txtsA l, S sep] (S (joinB l sep)) :=
  VC_mk2 (by kernel_rfl) fun w M v1 v2 h1 h2 => by
    obtain rfl := V0.lit_inv h2
    change V0 w M (.sl 1 (l.map txtA)) v1 at h1
    generalize hes : l.map txtA = es at h1
    cases h1 with
    | slNil _ A cap =>
      have hl : l = [] := List.map_eq_nil_iff.1 hes
      subst hl
      exact (Any.strings_Join_none laysJoin joinExtra A cap sep w).mono fun e w' ⟨he, hw⟩ => ⟨_, he, hw ▸ Below.refl _ _, by exact .lit _⟩
    | sl _ _ cap b o u hne hb hM hcap hsz h1 hc hv =>
      have hlen : es.length = l.length := by rw [← hes, List.length_map]
      have hcells : ∀ (j : Nat) (x : ByteArray), l[j]? = some x → w.cell? { block := b, off := o + j } = some (.string x) := fun j x hx => by
        have hjl := (List.getElem?_eq_some_iff.1 hx).1
        have h3 := hv j (txtA x) 0 (S x) (by rw [← hes]; simp [hx]) rfl
        have h4 := hc j 0 (by omega) (by decide)
        rw [V0.lit_inv h3, Nat.mul_one, Nat.add_zero] at h4
        exact h4
      rw [hlen] at hcap ⊢
      exact (Any.strings_Join laysJoin joinExtra b o cap l sep w hcells hb (by omega) hcap (Nat.le_trans h (by decide))).mono fun e w' ⟨he, hw⟩ => ⟨_, he, hw, .lit _⟩
theorem v_Itoa (i : Nat) (hi : i < 100) : VC Tryz.prog 77 [I (i : Int)] (S ⟨(Lib.decDigits i).toArray⟩) :=
  VC_mk1 (by kernel_rfl) fun w M v1 h1 => by
    obtain rfl := V0.lit_inv h1
    exact (Any.strconv_Itoa_small laysItoa i hi w).mono fun e w' ⟨he, hw⟩ => ⟨_, he, hw ▸ Below.refl _ _, .lit _⟩

/-! ### The text of an item -/
def markWord (m : Mark) : ByteArray := m.key ++ ⟨#[61]⟩ ++ m.value
def wordsTo (x : Item) (d : ByteArray) (k : Nat) : List ByteArray := [x.name, d, x.who] ++ (x.marks.take k).map markWord
theorem wordsTo_len {x : Item} {d : ByteArray} {k : Nat} (h : k ≤ x.marks.length) : (wordsTo x d k).length = 3 + k := by simp [wordsTo]; omega
theorem wordsTo_succ {x : Item} {d : ByteArray} {k : Nat} (h : k < x.marks.length) : wordsTo x d (k + 1) = wordsTo x d k ++ [markWord x.marks[k]] := by
  simp only [wordsTo, List.take_add_one, List.getElem?_eq_getElem h, Option.toList, List.map_append, List.map_cons, List.map_nil, List.append_assoc]
@[go_sem] theorem wordsTo_0 (x : Item) (d : ByteArray) : wordsTo x d 0 = [x.name, d, x.who] := rfl
def itemText (x : Item) (d : ByteArray) : ByteArray := joinB (wordsTo x d x.marks.length) ⟨#[32]⟩
theorem p_FormatItem (x : Item) (d : ByteArray) (h1 : VC Tryz.prog 77 [I x.day] (S d)) (h : SmallI x) (hj : (Lib.join ((wordsTo x d x.marks.length).map bl) [32]).length ≤ 1000000000) : VC Tryz.prog 33 [itemA x] (S (itemText x d)) := by
  have hn := h.few
  have hb2 := h.marks
  clear h
  unfold itemText
  have hJ := v_Join (wordsTo x d x.marks.length) ⟨#[32]⟩ hj (by rw [wordsTo_len (by omega)]; omega)
  generalize joinB (wordsTo x d x.marks.length) ⟨#[32]⟩ = R at *
  have HJ := Lib.hid hJ
  clear hJ hj
  refine VC_of Tryz.func33 rfl (by kernel_rfl) (by kernel_rfl) rfl fun M0 w0 => ?_
  simp only [Tryz.ntmps33, Tryz.results33, enumA]
  repeat' (first | (with_reducible first | refine vseq ?_ | refine vthenN ?_ | refine vthenE ?_ | refine vthenR ?_ | refine vret ?_ | refine vskip ?_ | refine vexit ?_ | refine vblock ?_ | refine vblockN ?_ | refine vblockR ?_ | refine vblockH ?_ | refine vrun_nil ?_ | refine vblockE rfl ?_ | refine vregion [] ?_ | refine vhrun_nil ?_) | ((with_reducible refine vcondT ?_ ?_); (focus (go_simp; done))) | ((with_reducible refine vcondF ?_ ?_); (focus (go_simp; done))) | ((with_reducible first | refine vrun_cons fun KK hKK => ?_ | refine vhrun_cons fun KK hKK => ?_); go_simp; refine hKK _ ?_; clear hKK KK) | ((with_reducible refine vcondS ?_ (fun ht => ?_) (fun ht => ?_)); (focus (go_simp; done)); (all_goals (simp [go_sem] at ht; replace ht := ht.out))))
  refine vdraw 7 [13] (by kernel_rfl) (by kernel_rfl) ?_
  simp only [List.take, List.drop]
  repeat' (first | (with_reducible first | refine vseq ?_ | refine vthenN ?_ | refine vthenE ?_ | refine vthenR ?_ | refine vret ?_ | refine vskip ?_ | refine vexit ?_ | refine vblock ?_ | refine vblockN ?_ | refine vblockR ?_ | refine vblockH ?_ | refine vrun_nil ?_ | refine vblockE rfl ?_ | refine vregion [13] ?_ | refine vhrun_nil ?_) | ((with_reducible refine vcondT ?_ ?_); (focus (go_simp; done))) | ((with_reducible refine vcondF ?_ ?_); (focus (go_simp; done))) | ((with_reducible first | refine vrun_cons fun KK hKK => ?_ | refine vhrun_cons fun KK hKK => ?_); go_simp; (first | (with_reducible refine ⟨_, h1, ?_⟩) | skip); refine hKK _ ?_; clear hKK KK) | ((refine vdrawL 9 9 [13] rfl (by kernel_rfl) (by kernel_rfl) ?_); simp only [List.append, List.take, List.drop]) | ((with_reducible refine vcondS ?_ (fun ht => ?_) (fun ht => ?_)); (focus (go_simp; done)); (all_goals (simp [go_sem] at ht; replace ht := ht.out))))
  apply vcnt [15, 16] (fun k => [(17, I k), (3, .osl 0)]) (fun k => ([some (.arr 9 1 (decide (wordsTo x d k = [])) ((wordsTo x d k).map txtA))] : Hp))  (x.marks.length)
  · go_simp <;> exact rfl
  · go_simp
  · intro k hk K hK
    obtain ⟨w1, w2, w3, w4, w5, w6⟩ := ixs (m := k) (by omega)
    have hs := wordsTo_succ (x := x) (d := d) hk
    have hnl := wordsTo_len (x := x) (d := d) (k := k) (by omega)
    have hb : (wordsTo x d k).length + 1 ≤ 1000000000 := by omega
    clear hnl
    have HS := Lib.hid hs
    clear hs
    have hm := hb2 _ (List.getElem_mem hk)
    have hm1 := hm.1
    have hm2 := hm.2
    have z1 : x.marks[k].key.size + 1 ≤ 9223372036854775807 := by omega
    have z2 : x.marks[k].key.size + 1 + x.marks[k].value.size ≤ 9223372036854775807 := by omega
    clear hm hm1 hm2
    repeat' (first | (with_reducible first | refine vseq ?_ | refine vthenN ?_ | refine vthenE ?_ | refine vthenR ?_ | refine vret ?_ | refine vskip ?_ | refine vexit ?_ | refine vblock ?_ | refine vblockN ?_ | refine vblockR ?_ | refine vblockH ?_ | refine vrun_nil ?_ | refine vblockE rfl ?_ | refine vregion [] ?_ | refine vhrun_nil ?_) | ((with_reducible refine vcondT ?_ ?_); (focus (go_simp; done))) | ((with_reducible refine vcondF ?_ ?_); (focus (go_simp; done))) | ((with_reducible first | refine vrun_cons fun KK hKK => ?_ | refine vhrun_cons fun KK hKK => ?_); go_simp; refine hKK _ ?_; clear hKK KK) | ((refine vdrawL 9 9 [] rfl (by kernel_rfl) (by kernel_rfl) ?_); simp only [List.append, List.take, List.drop]) | ((with_reducible refine vcondS ?_ (fun ht => ?_) (fun ht => ?_)); (focus (go_simp; done)); (all_goals (simp [go_sem] at ht; replace ht := ht.out))))
    refine hK _ ?_
    rw [HS.out]
    go_simp
    rfl
  · intro K
    have hJ := HJ.out
    repeat' (first | (with_reducible first | refine vseq ?_ | refine vthenN ?_ | refine vthenE ?_ | refine vthenR ?_ | refine vret ?_ | refine vskip ?_ | refine vexit ?_ | refine vblock ?_ | refine vblockN ?_ | refine vblockR ?_ | refine vblockH ?_ | refine vrun_nil ?_ | refine vblockE rfl ?_ | refine vregion [] ?_ | refine vhrun_nil ?_) | ((with_reducible refine vcondT ?_ ?_); (focus (go_simp; done))) | ((with_reducible refine vcondF ?_ ?_); (focus (go_simp; done))) | ((with_reducible first | refine vrun_cons fun KK hKK => ?_ | refine vhrun_cons fun KK hKK => ?_); go_simp; (first | (refine ⟨_, ⟨hJ, rfl⟩, ?_⟩) | skip); refine hKK _ ?_; clear hKK KK) | ((refine vdrawL 9 9 [] rfl (by kernel_rfl) (by kernel_rfl) ?_); simp only [List.append, List.take, List.drop]) | ((with_reducible refine vcondS ?_ (fun ht => ?_) (fun ht => ?_)); (focus (go_simp; done)); (all_goals (simp [go_sem] at ht; replace ht := ht.out))))
    go_simp
end Go.Proofs.YthbgghmjbaldlaaGreatDoor

/-! QR: The examples of the chapter, and that the program has them: no condition. -/
namespace Go.Proofs.YthbgghmjbaldlaaGreatDoor
open Go.RowKit
set_option maxRecDepth 100000
set_option maxHeartbeats 1000000
def exMarks (a b c : ByteArray) : List Mark := [⟨⟨#[99, 111, 108, 111, 114]⟩, a⟩, ⟨⟨#[107, 105, 110, 100]⟩, b⟩] ++ (if c = ⟨#[]⟩ then [] else [⟨⟨#[115, 105, 122, 101]⟩, c⟩])
def red : ByteArray := ⟨#[114, 101, 100]⟩
def hat : ByteArray := ⟨#[104, 97, 116]⟩
def cap : ByteArray := ⟨#[99, 97, 112]⟩
def bag : ByteArray := ⟨#[98, 97, 103]⟩
def big : ByteArray := ⟨#[98, 105, 103]⟩
def ann : ByteArray := ⟨#[97, 110, 110]⟩
def bob : ByteArray := ⟨#[98, 111, 98]⟩
def exHat : Item := ⟨hat, 10, ann, exMarks red hat big⟩
def exItems : List Item := [exHat, ⟨cap, 12, ann, exMarks red cap ⟨#[]⟩⟩, ⟨bag, 11, bob, exMarks red hat ⟨#[]⟩⟩]
def exClaim : Item := ⟨⟨#[111, 110, 101]⟩, 12, ⟨#[99, 105, 100]⟩, exMarks red hat ⟨#[]⟩⟩
def exClaims : List Item := [exClaim, ⟨⟨#[116, 119, 111]⟩, 9, ⟨#[100, 97, 110]⟩, exMarks red hat big⟩, ⟨⟨#[116, 104, 114, 101, 101]⟩, 9, ⟨#[101, 118, 101]⟩, exMarks ⟨#[98, 108, 117, 101]⟩ hat ⟨#[]⟩⟩]
def office : ByteArray := ⟨#[111, 102, 102, 105, 99, 101]⟩
def exChain : List Event := [⟨hat, 20, 0, ann, office⟩, ⟨hat, 30, 1, office, ⟨#[100, 101, 112, 111, 116]⟩⟩]
theorem l_marks (a b c : ByteArray) : VC Tryz.prog 106 [S a, S b, S c] (marksA (exMarks a b c)) := by
  unfold exMarks
  by_cases h : c = ⟨#[]⟩
  · refine VC_of Tryz.func106 rfl (by kernel_rfl) (by kernel_rfl) rfl fun M0 w0 => ?_
    simp only [Tryz.ntmps106, Tryz.results106, enumA]
    repeat' (first | (with_reducible first | refine vseq ?_ | refine vthenN ?_ | refine vthenE ?_ | refine vthenR ?_ | refine vret ?_ | refine vskip ?_ | refine vexit ?_ | refine vblock ?_ | refine vblockN ?_ | refine vblockR ?_ | refine vblockH ?_ | refine vrun_nil ?_ | refine vblockE rfl ?_ | refine vregion [12] ?_ | refine vhrun_nil ?_) | ((with_reducible refine vcondT ?_ ?_); (focus (go_simp; done))) | ((with_reducible refine vcondF ?_ ?_); (focus (go_simp; done))) | ((with_reducible first | refine vrun_cons fun KK hKK => ?_ | refine vhrun_cons fun KK hKK => ?_); go_simp; refine hKK _ ?_; clear hKK KK) | ((with_reducible refine vcondS ?_ (fun ht => ?_) (fun ht => ?_)); (focus (go_simp; done)); (all_goals (simp [go_sem] at ht; replace ht := ht.out))))
    go_simp
  · refine VC_of Tryz.func106 rfl (by kernel_rfl) (by kernel_rfl) rfl fun M0 w0 => ?_
    simp only [Tryz.ntmps106, Tryz.results106, enumA]
    repeat' (first | (with_reducible first | refine vseq ?_ | refine vthenN ?_ | refine vthenE ?_ | refine vthenR ?_ | refine vret ?_ | refine vskip ?_ | refine vexit ?_ | refine vblock ?_ | refine vblockN ?_ | refine vblockR ?_ | refine vblockH ?_ | refine vrun_nil ?_ | refine vblockE rfl ?_ | refine vregion [12] ?_ | refine vhrun_nil ?_) | ((with_reducible refine vcondT ?_ ?_); (focus (go_simp; done))) | ((with_reducible refine vcondF ?_ ?_); (focus (go_simp; done))) | ((with_reducible first | refine vrun_cons fun KK hKK => ?_ | refine vhrun_cons fun KK hKK => ?_); go_simp; refine hKK _ ?_; clear hKK KK) | ((with_reducible refine vcondS ?_ (fun ht => ?_) (fun ht => ?_)); (focus (go_simp; done)); (all_goals (simp [go_sem] at ht; replace ht := ht.out))))
    go_simp
theorem l_Items : VC Tryz.prog 48 [] (itemsA exItems) := by
  have h1 := l_marks red hat big
  have h2 := l_marks red cap ⟨#[]⟩
  have h3 := l_marks red hat ⟨#[]⟩
  unfold exItems exHat
  generalize exMarks red hat big = m1 at *
  generalize exMarks red cap ⟨#[]⟩ = m2 at *
  generalize exMarks red hat ⟨#[]⟩ = m3 at *
  simp only [red, hat, cap, big] at h1 h2 h3
  unfold bag hat cap bob ann
  refine VC_of Tryz.func48 rfl (by kernel_rfl) (by kernel_rfl) rfl fun M0 w0 => ?_
  simp only [Tryz.ntmps48, Tryz.results48, enumA]
  repeat' (first | (with_reducible first | refine vseq ?_ | refine vthenN ?_ | refine vthenE ?_ | refine vthenR ?_ | refine vret ?_ | refine vskip ?_ | refine vexit ?_ | refine vblock ?_ | refine vblockN ?_ | refine vblockR ?_ | refine vblockH ?_ | refine vrun_nil ?_ | refine vblockE rfl ?_ | refine vregion [] ?_ | refine vhrun_nil ?_) | ((with_reducible refine vcondT ?_ ?_); (focus (go_simp; done))) | ((with_reducible refine vcondF ?_ ?_); (focus (go_simp; done))) | ((with_reducible first | refine vrun_cons fun KK hKK => ?_ | refine vhrun_cons fun KK hKK => ?_); go_simp; (first | (with_reducible refine ⟨_, h1, ?_⟩) | (with_reducible refine ⟨_, h2, ?_⟩) | (with_reducible refine ⟨_, h3, ?_⟩) | skip); refine hKK _ ?_; clear hKK KK) | ((with_reducible refine vcondS ?_ (fun ht => ?_) (fun ht => ?_)); (focus (go_simp; done)); (all_goals (simp [go_sem] at ht; replace ht := ht.out))))
  go_simp
theorem l_Claims : VC Tryz.prog 49 [] (itemsA exClaims) := by
  have h1 := l_marks red hat ⟨#[]⟩
  have h2 := l_marks red hat big
  have h3 := l_marks ⟨#[98, 108, 117, 101]⟩ hat ⟨#[]⟩
  unfold exClaims exClaim
  generalize exMarks red hat ⟨#[]⟩ = m1 at *
  generalize exMarks red hat big = m2 at *
  generalize exMarks ⟨#[98, 108, 117, 101]⟩ hat ⟨#[]⟩ = m3 at *
  simp only [red, hat, big] at h1 h2 h3
  refine VC_of Tryz.func49 rfl (by kernel_rfl) (by kernel_rfl) rfl fun M0 w0 => ?_
  simp only [Tryz.ntmps49, Tryz.results49, enumA]
  repeat' (first | (with_reducible first | refine vseq ?_ | refine vthenN ?_ | refine vthenE ?_ | refine vthenR ?_ | refine vret ?_ | refine vskip ?_ | refine vexit ?_ | refine vblock ?_ | refine vblockN ?_ | refine vblockR ?_ | refine vblockH ?_ | refine vrun_nil ?_ | refine vblockE rfl ?_ | refine vregion [] ?_ | refine vhrun_nil ?_) | ((with_reducible refine vcondT ?_ ?_); (focus (go_simp; done))) | ((with_reducible refine vcondF ?_ ?_); (focus (go_simp; done))) | ((with_reducible first | refine vrun_cons fun KK hKK => ?_ | refine vhrun_cons fun KK hKK => ?_); go_simp; (first | (with_reducible refine ⟨_, h1, ?_⟩) | (with_reducible refine ⟨_, h2, ?_⟩) | (with_reducible refine ⟨_, h3, ?_⟩) | skip); refine hKK _ ?_; clear hKK KK) | ((with_reducible refine vcondS ?_ (fun ht => ?_) (fun ht => ?_)); (focus (go_simp; done)); (all_goals (simp [go_sem] at ht; replace ht := ht.out))))
  go_simp
theorem l_Chain : VC Tryz.prog 50 [] (eventsA exChain) := by
  unfold exChain
  refine VC_of Tryz.func50 rfl (by kernel_rfl) (by kernel_rfl) rfl fun M0 w0 => ?_
  simp only [Tryz.ntmps50, Tryz.results50, enumA]
  repeat' (first | (with_reducible first | refine vseq ?_ | refine vthenN ?_ | refine vthenE ?_ | refine vthenR ?_ | refine vret ?_ | refine vskip ?_ | refine vexit ?_ | refine vblock ?_ | refine vblockN ?_ | refine vblockR ?_ | refine vblockH ?_ | refine vrun_nil ?_ | refine vblockE rfl ?_ | refine vregion [] ?_ | refine vhrun_nil ?_) | ((with_reducible refine vcondT ?_ ?_); (focus (go_simp; done))) | ((with_reducible refine vcondF ?_ ?_); (focus (go_simp; done))) | ((with_reducible first | refine vrun_cons fun KK hKK => ?_ | refine vhrun_cons fun KK hKK => ?_); go_simp; refine hKK _ ?_; clear hKK KK) | ((with_reducible refine vcondS ?_ (fun ht => ?_) (fun ht => ?_)); (focus (go_simp; done)); (all_goals (simp [go_sem] at ht; replace ht := ht.out))))
  go_simp
  simp only [hat, ann, office, and_self]

def smallIB (x : Item) : Bool := decide (x.name.size ≤ 1000) && decide (x.who.size ≤ 1000) && decide (x.marks.length ≤ 1000) && x.marks.all fun m => decide (m.key.size ≤ 1000) && decide (m.value.size ≤ 1000)
theorem smallI_of {x : Item} (h : smallIB x = true) : SmallI x := by
  simp only [smallIB, Bool.and_eq_true, decide_eq_true_eq, List.all_eq_true] at h
  exact ⟨h.1.1.1, h.1.1.2, h.1.2, fun m hm => h.2 m hm⟩
theorem exSmallX : SmallX exItems := ⟨by decide, fun x hx => by
  have : (exItems.all smallIB) = true := by kernel_rfl
  exact smallI_of (List.all_eq_true.1 this x hx)⟩
theorem exSmallL : SmallL exChain := by
  intro x hx
  simp only [exChain, List.mem_cons, List.not_mem_nil, or_false] at hx
  rcases hx with rfl | rfl <;> exact ⟨Nat.le_of_ble_eq_true (by kernel_rfl), Nat.le_of_ble_eq_true (by kernel_rfl), Nat.le_of_ble_eq_true (by kernel_rfl)⟩
theorem l_awake : VC Tryz.prog 9 [] (B true) := by
  have hI := l_Items
  have hC := l_Claims
  have hE := l_Chain
  have h1 := p_BestFor exItems exClaim exSmallX (smallI_of (by kernel_rfl))
  rw [show candE exItems exClaim = 0 by kernel_rfl, show cnum exItems exClaim = [0, 2] by kernel_rfl, show bestV exItems exClaim = 2 by kernel_rfl] at h1
  have h2 := p_HolderAt exHat exChain 30 (by decide) (smallI_of (by kernel_rfl)) exSmallL
  rw [show atErr exHat exChain 30 = 0 by kernel_rfl, show holder exHat (untilL exChain 30) = ⟨#[100, 101, 112, 111, 116]⟩ by kernel_rfl] at h2
  have h3 := p_RightAt exHat exChain 201 (by decide) (smallI_of (by kernel_rfl)) exSmallL
  rw [show atErr exHat exChain 201 = 0 by kernel_rfl, show right (untilL exChain 201) 201 = 2 by kernel_rfl] at h3
  have h4 := p_RewardOf 60000
  rw [show reward 60000 = 2800 by kernel_rfl, show rewardE 60000 = 0 by kernel_rfl] at h4
  have h5 := p_FormatItem exHat ⟨(Lib.decDigits 10).toArray⟩ (v_Itoa 10 (by decide)) (smallI_of (by kernel_rfl)) (Nat.le_of_ble_eq_true (by kernel_rfl))
  rw [show itemText exHat ⟨(Lib.decDigits 10).toArray⟩ = ⟨#[104,97,116,32,49,48,32,97,110,110,32,99,111,108,111,114,61,114,101,100,32,107,105,110,100,61,104,97,116,32,115,105,122,101,61,98,105,103]⟩ by kernel_rfl] at h5
  simp at h1 h2 h3
  unfold exItems at h1 hI
  unfold exClaims at hC
  generalize exClaim = c1 at *
  generalize exHat = i1 at *
  unfold exChain at hE h2 h3
  refine VC_of Tryz.func9 rfl (by kernel_rfl) (by kernel_rfl) rfl fun M0 w0 => ?_
  simp only [Tryz.ntmps9, Tryz.results9, enumA]
  repeat' (first | (with_reducible first | refine vseq ?_ | refine vthenN ?_ | refine vthenE ?_ | refine vthenR ?_ | refine vret ?_ | refine vskip ?_ | refine vexit ?_ | refine vblock ?_ | refine vblockN ?_ | refine vblockR ?_ | refine vblockH ?_ | refine vrun_nil ?_ | refine vblockE rfl ?_ | refine vregion [] ?_ | refine vhrun_nil ?_) | ((with_reducible refine vcondT ?_ ?_); (focus (go_simp; done))) | ((with_reducible refine vcondF ?_ ?_); (focus (go_simp; done))) | ((with_reducible first | refine vrun_cons fun KK hKK => ?_ | refine vhrun_cons fun KK hKK => ?_); go_simp; (first | (with_reducible refine ⟨_, hI, ?_⟩) | (with_reducible refine ⟨_, hC, ?_⟩) | (with_reducible refine ⟨_, hE, ?_⟩) | (refine ⟨_, h1, ?_⟩) | (refine ⟨_, h2, ?_⟩) | (refine ⟨_, h3, ?_⟩) | (with_reducible refine ⟨_, h4, ?_⟩) | (refine ⟨_, h5, ?_⟩) | skip); refine hKK _ ?_; clear hKK KK) | ((refine vdrawL 10 10 [] rfl (by kernel_rfl) (by kernel_rfl) ?_); simp only [List.take, List.drop]) | ((with_reducible refine vcondS ?_ (fun ht => ?_) (fun ht => ?_)); (focus (go_simp; done)); (all_goals (simp [go_sem] at ht; replace ht := ht.out))) | ((apply vrun_consG0 rfl); (focus (go_simp <;> exact rfl)); (focus (go_simp; done)); (focus (intro hb0; replace hb0 := hb0.out; go_simp <;> (first | exact rfl | exact hI | exact hC | exact hE | exact h1 | exact h2 | exact h3 | exact h4 | exact h5 | exact ⟨hI, rfl⟩ | exact ⟨hC, rfl⟩ | exact ⟨hE, rfl⟩ | exact ⟨h1, rfl⟩ | exact ⟨h2, rfl⟩ | exact ⟨h3, rfl⟩ | exact ⟨h4, rfl⟩ | exact ⟨h5, rfl⟩))); intro KK hKK; go_simp; refine hKK _ ?_; clear hKK KK) | ((apply vhrun_consG0 rfl); (focus (go_simp <;> exact rfl)); (focus (intro hb0; replace hb0 := hb0.out; go_simp <;> (first | exact rfl | exact hI | exact hC | exact hE | exact h1 | exact h2 | exact h3 | exact h4 | exact h5 | exact ⟨hI, rfl⟩ | exact ⟨hC, rfl⟩ | exact ⟨hE, rfl⟩ | exact ⟨h1, rfl⟩ | exact ⟨h2, rfl⟩ | exact ⟨h3, rfl⟩ | exact ⟨h4, rfl⟩ | exact ⟨h5, rfl⟩))); intro KK hKK; go_simp; refine hKK _ ?_; clear hKK KK))
  go_simp
end Go.Proofs.YthbgghmjbaldlaaGreatDoor
