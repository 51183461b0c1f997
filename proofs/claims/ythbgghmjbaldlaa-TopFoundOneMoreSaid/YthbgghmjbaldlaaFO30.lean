/- Texts in one: Joined texts, small numbers as texts, and the text of an item; the item's number is below 100 or its text is told. -/
import Derived.Test.YthbgghmjbaldlaaFO29
import Derived.Test.YthbgghmjbaldlaaFO19
/-! QP: Joined texts, small numbers as texts, and the text of an item; the item's number is below 100 or its text is told. -/
namespace Go.Proofs.Ythbgghmjbaldlaa
open Go.RowKit Go.Shelf
set_option maxRecDepth 100000
set_option maxHeartbeats 1000000
/-! ### The text of an item -/
def markWord (m : Mark) : ByteArray := m.key ++ ⟨#[61]⟩ ++ m.value
def wordsTo (x : Item) (d : ByteArray) (k : Nat) : List ByteArray := [x.name, d, x.who] ++ (x.marks.take k).map markWord
@[go_sem] theorem wordsTo_0 (x : Item) (d : ByteArray) : wordsTo x d 0 = [x.name, d, x.who] := rfl
end Go.Proofs.Ythbgghmjbaldlaa

/-! QR: The examples of the chapter, and that the program has them: no condition. -/
namespace Go.Proofs.Ythbgghmjbaldlaa
open Go.RowKit
set_option maxRecDepth 100000
set_option maxHeartbeats 1000000
def exMarks (a b c : ByteArray) : List Mark := [⟨⟨#[99, 111, 108, 111, 114]⟩, a⟩, ⟨⟨#[107, 105, 110, 100]⟩, b⟩] ++ (if c = ⟨#[]⟩ then [] else [⟨⟨#[115, 105, 122, 101]⟩, c⟩])
def red : ByteArray := ⟨#[114, 101, 100]⟩
def hat : ByteArray := ⟨#[104, 97, 116]⟩
def cap : ByteArray := ⟨#[99, 97, 112]⟩
def bag : ByteArray := ⟨#[98, 97, 103]⟩
def big : ByteArray := ⟨#[98, 105, 103]⟩
def ann : ByteArray := ⟨#[97, 110, 110]⟩
def bob : ByteArray := ⟨#[98, 111, 98]⟩
def exHat : Item := ⟨hat, 10, ann, exMarks red hat big⟩
def exItems : List Item := [exHat, ⟨cap, 12, ann, exMarks red cap ⟨#[]⟩⟩, ⟨bag, 11, bob, exMarks red hat ⟨#[]⟩⟩]
def exClaim : Item := ⟨⟨#[111, 110, 101]⟩, 12, ⟨#[99, 105, 100]⟩, exMarks red hat ⟨#[]⟩⟩
def exClaims : List Item := [exClaim, ⟨⟨#[116, 119, 111]⟩, 9, ⟨#[100, 97, 110]⟩, exMarks red hat big⟩, ⟨⟨#[116, 104, 114, 101, 101]⟩, 9, ⟨#[101, 118, 101]⟩, exMarks ⟨#[98, 108, 117, 101]⟩ hat ⟨#[]⟩⟩]
def office : ByteArray := ⟨#[111, 102, 102, 105, 99, 101]⟩
def exChain : List Event := [⟨hat, 20, 0, ann, office⟩, ⟨hat, 30, 1, office, ⟨#[100, 101, 112, 111, 116]⟩⟩]
theorem l_marks (a b c : ByteArray) : VC Try.prog 39 [S a, S b, S c] (marksA (exMarks a b c)) := by
  unfold exMarks
  by_cases h : c = ⟨#[]⟩
  · refine VC_of Try.func39 rfl (by kernel_rfl) (by kernel_rfl) rfl fun M0 w0 => ?_
    simp only [Try.ntmps39, Try.results39, enumA]
    repeat' (first | (with_reducible first | refine vseq ?_ | refine vthenN ?_ | refine vthenE ?_ | refine vthenR ?_ | refine vret ?_ | refine vskip ?_ | refine vexit ?_ | refine vblock ?_ | refine vblockN ?_ | refine vblockR ?_ | refine vblockH ?_ | refine vrun_nil ?_ | refine vblockE rfl ?_ | refine vregion [12] ?_ | refine vhrun_nil ?_) | ((with_reducible refine vcondT ?_ ?_); (focus (go_simp; done))) | ((with_reducible refine vcondF ?_ ?_); (focus (go_simp; done))) | ((with_reducible first | refine vrun_cons fun KK hKK => ?_ | refine vhrun_cons fun KK hKK => ?_); go_simp; refine hKK _ ?_; clear hKK KK) | ((with_reducible refine vcondS ?_ (fun ht => ?_) (fun ht => ?_)); (focus (go_simp; done)); (all_goals (simp [go_sem] at ht; replace ht := ht.out))))
    go_simp
  · refine VC_of Try.func39 rfl (by kernel_rfl) (by kernel_rfl) rfl fun M0 w0 => ?_
    simp only [Try.ntmps39, Try.results39, enumA]
    repeat' (first | (with_reducible first | refine vseq ?_ | refine vthenN ?_ | refine vthenE ?_ | refine vthenR ?_ | refine vret ?_ | refine vskip ?_ | refine vexit ?_ | refine vblock ?_ | refine vblockN ?_ | refine vblockR ?_ | refine vblockH ?_ | refine vrun_nil ?_ | refine vblockE rfl ?_ | refine vregion [12] ?_ | refine vhrun_nil ?_) | ((with_reducible refine vcondT ?_ ?_); (focus (go_simp; done))) | ((with_reducible refine vcondF ?_ ?_); (focus (go_simp; done))) | ((with_reducible first | refine vrun_cons fun KK hKK => ?_ | refine vhrun_cons fun KK hKK => ?_); go_simp; refine hKK _ ?_; clear hKK KK) | ((with_reducible refine vcondS ?_ (fun ht => ?_) (fun ht => ?_)); (focus (go_simp; done)); (all_goals (simp [go_sem] at ht; replace ht := ht.out))))
    go_simp
theorem l_Items : VC Try.prog 15 [] (itemsA exItems) := by
  have h1 := l_marks red hat big
  have h2 := l_marks red cap ⟨#[]⟩
  have h3 := l_marks red hat ⟨#[]⟩
  unfold exItems exHat
  generalize exMarks red hat big = m1 at *
  generalize exMarks red cap ⟨#[]⟩ = m2 at *
  generalize exMarks red hat ⟨#[]⟩ = m3 at *
  simp only [red, hat, cap, big] at h1 h2 h3
  unfold bag hat cap bob ann
  refine VC_of Try.func15 rfl (by kernel_rfl) (by kernel_rfl) rfl fun M0 w0 => ?_
  simp only [Try.ntmps15, Try.results15, enumA]
  repeat' (first | (with_reducible first | refine vseq ?_ | refine vthenN ?_ | refine vthenE ?_ | refine vthenR ?_ | refine vret ?_ | refine vskip ?_ | refine vexit ?_ | refine vblock ?_ | refine vblockN ?_ | refine vblockR ?_ | refine vblockH ?_ | refine vrun_nil ?_ | refine vblockE rfl ?_ | refine vregion [] ?_ | refine vhrun_nil ?_) | ((with_reducible refine vcondT ?_ ?_); (focus (go_simp; done))) | ((with_reducible refine vcondF ?_ ?_); (focus (go_simp; done))) | ((with_reducible first | refine vrun_cons fun KK hKK => ?_ | refine vhrun_cons fun KK hKK => ?_); go_simp; (first | (with_reducible refine ⟨_, h1, ?_⟩) | (with_reducible refine ⟨_, h2, ?_⟩) | (with_reducible refine ⟨_, h3, ?_⟩) | skip); refine hKK _ ?_; clear hKK KK) | ((with_reducible refine vcondS ?_ (fun ht => ?_) (fun ht => ?_)); (focus (go_simp; done)); (all_goals (simp [go_sem] at ht; replace ht := ht.out))))
  go_simp
theorem l_Claims : VC Try.prog 16 [] (itemsA exClaims) := by
  have h1 := l_marks red hat ⟨#[]⟩
  have h2 := l_marks red hat big
  have h3 := l_marks ⟨#[98, 108, 117, 101]⟩ hat ⟨#[]⟩
  unfold exClaims exClaim
  generalize exMarks red hat ⟨#[]⟩ = m1 at *
  generalize exMarks red hat big = m2 at *
  generalize exMarks ⟨#[98, 108, 117, 101]⟩ hat ⟨#[]⟩ = m3 at *
  simp only [red, hat, big] at h1 h2 h3
  refine VC_of Try.func16 rfl (by kernel_rfl) (by kernel_rfl) rfl fun M0 w0 => ?_
  simp only [Try.ntmps16, Try.results16, enumA]
  repeat' (first | (with_reducible first | refine vseq ?_ | refine vthenN ?_ | refine vthenE ?_ | refine vthenR ?_ | refine vret ?_ | refine vskip ?_ | refine vexit ?_ | refine vblock ?_ | refine vblockN ?_ | refine vblockR ?_ | refine vblockH ?_ | refine vrun_nil ?_ | refine vblockE rfl ?_ | refine vregion [] ?_ | refine vhrun_nil ?_) | ((with_reducible refine vcondT ?_ ?_); (focus (go_simp; done))) | ((with_reducible refine vcondF ?_ ?_); (focus (go_simp; done))) | ((with_reducible first | refine vrun_cons fun KK hKK => ?_ | refine vhrun_cons fun KK hKK => ?_); go_simp; (first | (with_reducible refine ⟨_, h1, ?_⟩) | (with_reducible refine ⟨_, h2, ?_⟩) | (with_reducible refine ⟨_, h3, ?_⟩) | skip); refine hKK _ ?_; clear hKK KK) | ((with_reducible refine vcondS ?_ (fun ht => ?_) (fun ht => ?_)); (focus (go_simp; done)); (all_goals (simp [go_sem] at ht; replace ht := ht.out))))
  go_simp
theorem l_Chain : VC Try.prog 18 [] (eventsA exChain) := by
  unfold exChain
  refine VC_of Try.func18 rfl (by kernel_rfl) (by kernel_rfl) rfl fun M0 w0 => ?_
  simp only [Try.ntmps18, Try.results18, enumA]
  repeat' (first | (with_reducible first | refine vseq ?_ | refine vthenN ?_ | refine vthenE ?_ | refine vthenR ?_ | refine vret ?_ | refine vskip ?_ | refine vexit ?_ | refine vblock ?_ | refine vblockN ?_ | refine vblockR ?_ | refine vblockH ?_ | refine vrun_nil ?_ | refine vblockE rfl ?_ | refine vregion [] ?_ | refine vhrun_nil ?_) | ((with_reducible refine vcondT ?_ ?_); (focus (go_simp; done))) | ((with_reducible refine vcondF ?_ ?_); (focus (go_simp; done))) | ((with_reducible first | refine vrun_cons fun KK hKK => ?_ | refine vhrun_cons fun KK hKK => ?_); go_simp; refine hKK _ ?_; clear hKK KK) | ((with_reducible refine vcondS ?_ (fun ht => ?_) (fun ht => ?_)); (focus (go_simp; done)); (all_goals (simp [go_sem] at ht; replace ht := ht.out))))
  go_simp
  simp only [hat, ann, office, and_self]

def smallIB (x : Item) : Bool := decide (x.name.size ≤ 1000) && decide (x.who.size ≤ 1000) && decide (x.marks.length ≤ 1000) && x.marks.all fun m => decide (m.key.size ≤ 1000) && decide (m.value.size ≤ 1000)
theorem smallI_of {x : Item} (h : smallIB x = true) : SmallI x := by
  simp only [smallIB, Bool.and_eq_true, decide_eq_true_eq, List.all_eq_true] at h
  exact ⟨h.1.1.1, h.1.1.2, h.1.2, fun m hm => h.2 m hm⟩
theorem exSmallX : SmallX exItems := ⟨by decide, fun x hx => by
  have : (exItems.all smallIB) = true := by kernel_rfl
  exact smallI_of (List.all_eq_true.1 this x hx)⟩
theorem exSmallL : SmallL exChain := by
  intro x hx
  simp only [exChain, List.mem_cons, List.not_mem_nil, or_false] at hx
  rcases hx with rfl | rfl <;> exact ⟨Nat.le_of_ble_eq_true (by kernel_rfl), Nat.le_of_ble_eq_true (by kernel_rfl), Nat.le_of_ble_eq_true (by kernel_rfl)⟩
end Go.Proofs.Ythbgghmjbaldlaa

/-! SO1: The examples that the top law of chapter 9 begins with; closed. -/
namespace Go.Proofs.Ythbgghmjbaldlaa
open Go.RowKit
set_option maxRecDepth 100000
set_option maxHeartbeats 1000000
theorem l_foundAwake : VC Try.prog 4 [] (B true) := by
  have hI := l_Items
  have hC := l_Claims
  have hE := l_Chain
  have h1 := p_BestFor exItems exClaim exSmallX (smallI_of (by kernel_rfl))
  rw [show candE exItems exClaim = 0 by kernel_rfl, show cnum exItems exClaim = [0, 2] by kernel_rfl, show bestV exItems exClaim = 2 by kernel_rfl] at h1
  have h3 := p_RightAt exHat exChain 231 (by decide) (smallI_of (by kernel_rfl)) exSmallL
  rw [show atErr exHat exChain 231 = 0 by kernel_rfl, show right (untilL exChain 231) 231 = 3 by kernel_rfl] at h3
  simp at h1 h3
  unfold exItems at h1 hI
  unfold exClaims at hC
  generalize exClaim = c1 at *
  generalize exHat = i1 at *
  unfold exChain at hE h3
  refine VC_of Try.func4 rfl (by kernel_rfl) (by kernel_rfl) rfl fun M0 w0 => ?_
  simp only [Try.ntmps4, Try.results4, enumA]
  repeat' (first | (with_reducible first | refine vseq ?_ | refine vthenN ?_ | refine vthenE ?_ | refine vthenR ?_ | refine vret ?_ | refine vskip ?_ | refine vexit ?_ | refine vblock ?_ | refine vblockN ?_ | refine vblockR ?_ | refine vblockH ?_ | refine vrun_nil ?_ | refine vblockE rfl ?_ | refine vregion [] ?_ | refine vhrun_nil ?_) | ((with_reducible refine vcondT ?_ ?_); (focus (go_simp; done))) | ((with_reducible refine vcondF ?_ ?_); (focus (go_simp; done))) | ((with_reducible first | refine vrun_cons fun KK hKK => ?_ | refine vhrun_cons fun KK hKK => ?_); go_simp; (first | (with_reducible refine ⟨_, hI, ?_⟩) | (with_reducible refine ⟨_, hC, ?_⟩) | (with_reducible refine ⟨_, hE, ?_⟩) | (refine ⟨_, h1, ?_⟩) | (refine ⟨_, h3, ?_⟩) | skip); refine hKK _ ?_; clear hKK KK) | ((refine vdrawL 10 10 [] rfl (by kernel_rfl) (by kernel_rfl) ?_); simp only [List.take, List.drop]) | ((with_reducible refine vcondS ?_ (fun ht => ?_) (fun ht => ?_)); (focus (go_simp; done)); (all_goals (simp [go_sem] at ht; replace ht := ht.out))) | ((apply vrun_consG0 rfl); (focus (go_simp <;> exact rfl)); (focus (go_simp; done)); (focus (intro hb0; replace hb0 := hb0.out; go_simp <;> (first | exact rfl | exact hI | exact hC | exact hE | exact h1 | exact h3 | exact ⟨hI, rfl⟩ | exact ⟨hC, rfl⟩ | exact ⟨hE, rfl⟩ | exact ⟨h1, rfl⟩ | exact ⟨h3, rfl⟩))); intro KK hKK; go_simp; refine hKK _ ?_; clear hKK KK) | ((apply vhrun_consG0 rfl); (focus (go_simp <;> exact rfl)); (focus (intro hb0; replace hb0 := hb0.out; go_simp <;> (first | exact rfl | exact hI | exact hC | exact hE | exact h1 | exact h3 | exact ⟨hI, rfl⟩ | exact ⟨hC, rfl⟩ | exact ⟨hE, rfl⟩ | exact ⟨h1, rfl⟩ | exact ⟨h3, rfl⟩))); intro KK hKK; go_simp; refine hKK _ ?_; clear hKK KK))
  go_simp
end Go.Proofs.Ythbgghmjbaldlaa
