/- Texts in one: What the types of the program are; no condition. -/
import Derived.Test.YthbgghmjbaldlaaFO4
import Derived.Test.YthbgghmjbaldlaaProg
import Derived.Test.YthbgghmjbaldlaaFO3
/-! VT: What the types of the program are; no condition. -/
namespace Go.Proofs.Ythbgghmjbaldlaa
open Go.RowKit
@[go_sem] theorem ti3 : tinfo Try.prog 3 = some ⟨5, 1, 8, 0, 1, 0, .i64, [], [.int .i64 0]⟩ := by kernel_rfl
@[go_sem] theorem ti4 : tinfo Try.prog 4 = some ⟨6, 1, 1, 0, 1, 0, .i64, [], [.bool false]⟩ := by kernel_rfl
@[go_sem] theorem ti5 : tinfo Try.prog 5 = some ⟨5, 1, 1, 0, 1, 0, .u8, [], [.int .u8 0]⟩ := by kernel_rfl
@[go_sem] theorem ti9 : tinfo Try.prog 9 = some ⟨4, 1, 16, 0, 1, 0, .i64, [], [.string ⟨#[]⟩]⟩ := by kernel_rfl
@[go_sem] theorem ti20 : tinfo Try.prog 20 = some ⟨9, 1, 16, 0, 1, 0, .i64, [], [.nilIface]⟩ := by kernel_rfl
@[go_sem] theorem ti22 : tinfo Try.prog 22 = some ⟨1, 1, 24, 54, 4, 0, .i64, [], [.slice none 0 0]⟩ := by kernel_rfl
@[go_sem] theorem ti23 : tinfo Try.prog 23 = some ⟨1, 1, 24, 44, 4, 0, .i64, [], [.slice none 0 0]⟩ := by kernel_rfl
@[go_sem] theorem ti29 : tinfo Try.prog 29 = some ⟨1, 1, 24, 39, 2, 0, .i64, [], [.slice none 0 0]⟩ := by kernel_rfl
@[go_sem] theorem ti30 : tinfo Try.prog 30 = some ⟨1, 1, 24, 3, 1, 0, .i64, [], [.slice none 0 0]⟩ := by kernel_rfl
@[go_sem] theorem ti32 : tinfo Try.prog 32 = some ⟨3, 2, 48, 0, 1, 0, .i64, [(0, 1, false), (1, 1, false)], [.slice none 0 0, .slice none 0 0]⟩ := by kernel_rfl
@[go_sem] theorem ti34 : tinfo Try.prog 34 = some ⟨3, 3, 72, 0, 1, 0, .i64, [(0, 1, false), (1, 2, true)], [.slice none 0 0, .slice none 0 0, .slice none 0 0]⟩ := by kernel_rfl
@[go_sem] theorem ti35 : tinfo Try.prog 35 = some ⟨5, 1, 8, 0, 1, 0, .i64, [], [.int .i64 0]⟩ := by kernel_rfl
@[go_sem] theorem ti39 : tinfo Try.prog 39 = some ⟨2, 2, 16, 3, 1, 2, .i64, [], [.int .i64 0, .int .i64 0]⟩ := by kernel_rfl
@[go_sem] theorem ti42 : tinfo Try.prog 42 = some ⟨1, 1, 24, 112, 2, 0, .i64, [], [.slice none 0 0]⟩ := by kernel_rfl
@[go_sem] theorem ti44 : tinfo Try.prog 44 = some ⟨3, 4, 64, 0, 1, 0, .i64, [(0, 1, false), (1, 1, false), (2, 1, false), (3, 1, false)], [.string ⟨#[]⟩, .int .i64 0, .string ⟨#[]⟩, .slice none 0 0]⟩ := by kernel_rfl
@[go_sem] theorem ti54 : tinfo Try.prog 54 = some ⟨3, 4, 64, 0, 1, 0, .i64, [(0, 1, false), (1, 1, false), (2, 1, false), (3, 1, false)], [.string ⟨#[]⟩, .int .i64 0, .string ⟨#[]⟩, .slice none 0 0]⟩ := by kernel_rfl
@[go_sem] theorem ti55 : tinfo Try.prog 55 = some ⟨1, 1, 24, 90, 5, 0, .i64, [], [.slice none 0 0]⟩ := by kernel_rfl
@[go_sem] theorem ti65 : tinfo Try.prog 65 = some ⟨7, 1, 8, 69, 3, 0, .i64, [], [.pointer none]⟩ := by kernel_rfl
@[go_sem] theorem ti67 : tinfo Try.prog 67 = some ⟨1, 1, 24, 30, 1, 0, .i64, [], [.slice none 0 0]⟩ := by kernel_rfl
@[go_sem] theorem ti69 : tinfo Try.prog 69 = some ⟨3, 3, 72, 0, 1, 0, .i64, [(0, 1, false), (1, 1, false), (2, 1, false)], [.slice none 0 0, .slice none 0 0, .slice none 0 0]⟩ := by kernel_rfl
@[go_sem] theorem ti72 : tinfo Try.prog 72 = some ⟨10, 1, 8, 0, 1, 0, .i64, [], [.map none]⟩ := by kernel_rfl
@[go_sem] theorem ti73 : tinfo Try.prog 73 = some ⟨1, 1, 24, 4, 1, 0, .i64, [], [.slice none 0 0]⟩ := by kernel_rfl
@[go_sem] theorem ti78 : tinfo Try.prog 78 = some ⟨8, 1, 8, 0, 1, 0, .i64, [], [.nilFunc]⟩ := by kernel_rfl
@[go_sem] theorem ti84 : tinfo Try.prog 84 = some ⟨3, 4, 64, 0, 1, 0, .i64, [(0, 4, true)], [.string ⟨#[]⟩, .int .i64 0, .string ⟨#[]⟩, .slice none 0 0]⟩ := by kernel_rfl
@[go_sem] theorem ti86 : tinfo Try.prog 86 = some ⟨3, 5, 88, 0, 1, 0, .i64, [(0, 4, true), (4, 1, false)], [.string ⟨#[]⟩, .int .i64 0, .string ⟨#[]⟩, .slice none 0 0, .slice none 0 0]⟩ := by kernel_rfl
@[go_sem] theorem ti90 : tinfo Try.prog 90 = some ⟨3, 5, 64, 0, 1, 0, .i64, [(0, 1, false), (1, 1, false), (2, 1, false), (3, 1, false), (4, 1, false)], [.string ⟨#[]⟩, .int .i64 0, .int .i64 0, .string ⟨#[]⟩, .string ⟨#[]⟩]⟩ := by kernel_rfl
@[go_sem] theorem ti92 : tinfo Try.prog 92 = some ⟨1, 1, 24, 9, 1, 0, .i64, [], [.slice none 0 0]⟩ := by kernel_rfl
@[go_sem] theorem ti96 : tinfo Try.prog 96 = some ⟨1, 1, 24, 35, 1, 0, .i64, [], [.slice none 0 0]⟩ := by kernel_rfl
@[go_sem] theorem ti98 : tinfo Try.prog 98 = some ⟨1, 1, 24, 120, 1, 0, .i64, [], [.slice none 0 0]⟩ := by kernel_rfl
@[go_sem] theorem ti100 : tinfo Try.prog 100 = some ⟨8, 1, 8, 0, 1, 0, .i64, [], [.nilFunc]⟩ := by kernel_rfl
@[go_sem] theorem ti103 : tinfo Try.prog 103 = some ⟨3, 4, 64, 0, 1, 0, .i64, [(0, 4, true)], [.string ⟨#[]⟩, .int .i64 0, .string ⟨#[]⟩, .slice none 0 0]⟩ := by kernel_rfl
@[go_sem] theorem ti104 : tinfo Try.prog 104 = some ⟨8, 1, 8, 0, 1, 0, .i64, [], [.nilFunc]⟩ := by kernel_rfl
@[go_sem] theorem ti105 : tinfo Try.prog 105 = some ⟨5, 1, 8, 0, 1, 0, .u64, [], [.int .u64 0]⟩ := by kernel_rfl
@[go_sem] theorem ti110 : tinfo Try.prog 110 = some ⟨10, 1, 8, 0, 1, 0, .i64, [], [.map none]⟩ := by kernel_rfl
@[go_sem] theorem ti112 : tinfo Try.prog 112 = some ⟨3, 2, 32, 0, 1, 0, .i64, [(0, 1, false), (1, 1, false)], [.string ⟨#[]⟩, .string ⟨#[]⟩]⟩ := by kernel_rfl
@[go_sem] theorem ti120 : tinfo Try.prog 120 = some ⟨9, 1, 16, 0, 1, 0, .i64, [], [.nilIface]⟩ := by kernel_rfl
@[go_sem] theorem ti123 : tinfo Try.prog 123 = some ⟨8, 1, 8, 0, 1, 0, .i64, [], [.nilFunc]⟩ := by kernel_rfl
@[go_sem] theorem ti137 : tinfo Try.prog 137 = some ⟨10, 1, 8, 0, 1, 0, .i64, [], [.map none]⟩ := by kernel_rfl
@[go_sem] theorem ti142 : tinfo Try.prog 142 = some ⟨1, 1, 24, 5, 1, 0, .i64, [], [.slice none 0 0]⟩ := by kernel_rfl
@[go_sem] theorem mi137 : minfo Try.prog 137 = some ((5, .i64), .int .i64 0) := by kernel_rfl
@[go_sem] theorem mi110 : minfo Try.prog 110 = some ((4, .i64), .string ⟨#[]⟩) := by kernel_rfl
@[go_sem] theorem tg3 : tagg Try.prog 3 = false := by kernel_rfl
@[go_sem] theorem tg35 : tagg Try.prog 35 = false := by kernel_rfl
@[go_sem] theorem tg9 : tagg Try.prog 9 = false := by kernel_rfl
@[go_sem] theorem eq39 : eqInfo Try.prog 39 = some [(0, 5), (1, 5)] := by kernel_rfl
@[go_sem] theorem me84_err : methA Try.prog 84 "fiacre/found.err" = some 76 := by kernel_rfl
@[go_sem] theorem me84_name : methA Try.prog 84 "fiacre/found.name" = some 95 := by kernel_rfl
@[go_sem] theorem me103_err : methA Try.prog 103 "fiacre/found.err" = some 53 := by kernel_rfl
@[go_sem] theorem me103_name : methA Try.prog 103 "fiacre/found.name" = some 96 := by kernel_rfl
end Go.Proofs.Ythbgghmjbaldlaa

/-! VLem: Plain values and contracts: small laws; no condition. -/
namespace Go.Proofs.Ythbgghmjbaldlaa
open Go.RowKit
def intA (n : Int) : List AV := [I n]
def txtA (s : ByteArray) : List AV := [S s]
def pairA (p : Nat × Nat) : List AV := [I p.1, I p.2]
attribute [go_sem] intA txtA pairA
section
variable {P : Program} {w w' : World} {M : Nat → Nat → Prop}
theorem V0.lit_inv {v u : Value} (h : V0 w M (.lit v) u) : u = v := by cases h; rfl
theorem V0.of_lits (us : List Value) : V0 w M (.tup (us.map .lit)) (.tuple us.toArray) :=
  .tup _ _ (by simp) fun i c u hc hu => by
    obtain ⟨x, hx, rfl⟩ := map_at hc
    rw [hu] at hx
    obtain rfl := Option.some.inj hx
    exact .lit u
/-- A slice of elements all of whose cells are known, as a slice that reads as a list. -/
theorem V0.sl_inv {α : Type} {F : α → List AV} {C : α → List Value} {sz : Nat} (hF : ∀ x, F x = (C x).map .lit) {l : List α} {v : Value} (h : V0 w M (.sl sz (l.map F)) v) : ∃ A cap, v = .slice A l.length cap ∧ l.length ≤ cap ∧ Sl C sz w A l := by
  generalize he : l.map F = es at h
  cases h with
  | slNil _ A cap =>
    have : l = [] := by simpa using he
    subst this
    exact ⟨A, cap, rfl, Nat.zero_le _, Sl.nil _ _ _ _⟩
  | sl _ _ cap b o u hne hb hM hcap hsz h1 hc hv =>
    subst he
    refine ⟨_, cap, by rw [List.length_map], by simpa using hcap, fun _ => ⟨b, o, rfl, fun k x hk j c hj => ?_⟩⟩
    have hkl : k < l.length := (List.getElem?_eq_some_iff.1 hk).1
    have hx : (l.map F)[k]? = some (F x) := by simp [hk]
    have hjj : (F x)[j]? = some (.lit c) := by rw [hF]; simp [hj]
    have hjl : j < sz := by rw [← hsz k _ hx]; exact (List.getElem?_eq_some_iff.1 hjj).1
    rw [hc k j (by simpa using hkl) hjl]
    exact congrArg some (hv k _ j _ hx hjj).lit_inv
end
end Go.Proofs.Ythbgghmjbaldlaa

/-! Plain: What the functions of chapter 9 compute, as plain functions; no condition. -/
namespace Go.Proofs.Ythbgghmjbaldlaa
open Go.RowKit
/-! ### Numbers and errors -/
def inR (n lo hi : Int) : Bool := decide (lo ≤ n) && decide (n ≤ hi)
def unl (c : Bool) (e : Int) : Int := if c then 0 else e
def fst : List Int → Int
  | [] => 0
  | x :: r => if x ≠ 0 then x else fst r
def isDate (n : Int) : Bool := inR n 0 100000
theorem inR_iff {n lo hi : Int} : inR n lo hi = true ↔ lo ≤ n ∧ n ≤ hi := by simp [inR]
/-- A byte of a name, by its place. -/
def okChar (i : Nat) (n : Int) : Bool :=
  (decide (97 ≤ n) && decide (n ≤ 122)) || (decide (65 ≤ n) && decide (n ≤ 90)) || (decide (i ≠ 0) && (decide (n = 45) || (decide (48 ≤ n) && decide (n ≤ 57))))
def okTo (s : ByteArray) (n : Nat) : Bool := (List.range n).all fun i => okChar i (byteAt s i).toNat
theorem okTo_succ (s : ByteArray) (n : Nat) : okTo s (n + 1) = (okTo s n && okChar n (byteAt s n).toNat) := by
  simp [okTo, List.range_succ]
theorem okTo_no (s : ByteArray) {n m : Nat} (h : n < m) (ho : okChar n (byteAt s n).toNat = false) : okTo s m = false := by
  unfold okTo
  rw [List.all_eq_false]
  exact ⟨n, by simpa using h, by simp [ho]⟩
def isName (s : ByteArray) : Bool := decide (1 ≤ s.size) && decide (s.size ≤ 12) && okTo s s.size
/-- The first k below n with E k ≠ 0, and that error; (0, 0) if there is none. -/
def firstErr (E : Nat → Int) : Nat → Nat → Nat × Int
  | _, 0 => (0, 0)
  | k, n + 1 => if E k ≠ 0 then (k, E k) else firstErr E (k + 1) n
def checkL (n : Nat) (most : Int) (E : Nat → Int) : Nat × Int := if (n : Int) > most then (0, 8) else firstErr E 0 n

def sameS (a b : ByteArray) : Bool := a.toList == b.toList
theorem sameS_iff {a b : ByteArray} : sameS a b = true ↔ a = b := by
  unfold sameS
  rw [beq_iff_eq, toList_data, toList_data]
  constructor
  · intro h
    cases a
    cases b
    congr
    exact Array.toList_inj.1 h
  · exact fun h => by rw [h]
end Go.Proofs.Ythbgghmjbaldlaa

/-! QA: Walks on plain values: numbers, errors, names; texts of at most 1000 bytes. -/
namespace Go.Proofs.Ythbgghmjbaldlaa
open Go.RowKit
set_option maxRecDepth 100000
theorem p_within (n lo hi : Int) : VC Try.prog 58 [I n, I lo, I hi] (B (inR n lo hi)) := by
  refine VC_of Try.func58 rfl (by kernel_rfl) (by kernel_rfl) rfl fun M0 w0 => ?_
  simp only [Try.ntmps58, Try.results58, enumA]
  repeat' (first | (with_reducible first | refine vseq ?_ | refine vthenN ?_ | refine vthenE ?_ | refine vthenR ?_ | refine vret ?_ | refine vskip ?_ | refine vexit ?_ | refine vblock ?_ | refine vblockN ?_ | refine vblockR ?_ | refine vblockH ?_ | refine vrun_nil ?_ | refine vblockE rfl ?_ | refine vregion [] ?_ | refine vhrun_nil ?_) | ((with_reducible refine vcondT ?_ ?_); (focus (go_simp; done))) | ((with_reducible refine vcondF ?_ ?_); (focus (go_simp; done))) | ((with_reducible first | refine vrun_cons fun KK hKK => ?_ | refine vhrun_cons fun KK hKK => ?_); go_simp; refine hKK _ ?_; clear hKK KK) | ((with_reducible refine vcondS ?_ (fun ht => ?_) (fun ht => ?_)); (focus (go_simp; done)); (all_goals (simp [go_sem] at ht; replace ht := ht.out))) | ((apply vrun_consG0 rfl); (focus (go_simp <;> exact rfl)); (focus (go_simp; done)); (focus (intro hb0; replace hb0 := hb0.out; go_simp <;> (first | exact rfl))); intro KK hKK; go_simp; refine hKK _ ?_; clear hKK KK))
  all_goals (first | (go_simp; done) | (go_simp; first | (simp [inR, *]; done) | (simp [inR, *]; omega) | (simp [inR, ] at *; omega) | (rfl)))
theorem b_within (n lo hi : Int) : VC Try.prog 7 [I n, I lo, I hi] (B (inR n lo hi)) := by
  refine VC_of Try.func7 rfl (by kernel_rfl) (by kernel_rfl) rfl fun M0 w0 => ?_
  simp only [Try.ntmps7, Try.results7, enumA]
  repeat' (first | (with_reducible first | refine vseq ?_ | refine vthenN ?_ | refine vthenE ?_ | refine vthenR ?_ | refine vret ?_ | refine vskip ?_ | refine vexit ?_ | refine vblock ?_ | refine vblockN ?_ | refine vblockR ?_ | refine vblockH ?_ | refine vrun_nil ?_ | refine vblockE rfl ?_ | refine vregion [] ?_ | refine vhrun_nil ?_) | ((with_reducible refine vcondT ?_ ?_); (focus (go_simp; done))) | ((with_reducible refine vcondF ?_ ?_); (focus (go_simp; done))) | ((with_reducible first | refine vrun_cons fun KK hKK => ?_ | refine vhrun_cons fun KK hKK => ?_); go_simp; refine hKK _ ?_; clear hKK KK) | ((with_reducible refine vcondS ?_ (fun ht => ?_) (fun ht => ?_)); (focus (go_simp; done)); (all_goals (simp [go_sem] at ht; replace ht := ht.out))) | ((apply vrun_consG0 rfl); (focus (go_simp <;> exact rfl)); (focus (go_simp; done)); (focus (intro hb0; replace hb0 := hb0.out; go_simp <;> (first | exact rfl))); intro KK hKK; go_simp; refine hKK _ ?_; clear hKK KK))
  all_goals (first | (go_simp; done) | (go_simp; first | (simp [inR, *]; done) | (simp [inR, *]; omega) | (simp [inR, ] at *; omega) | (rfl)))
theorem p_unless (c : Bool) (e : Int) : VC Try.prog 57 [B c, I e] (I (unl c e)) := by
  refine VC_of Try.func57 rfl (by kernel_rfl) (by kernel_rfl) rfl fun M0 w0 => ?_
  simp only [Try.ntmps57, Try.results57, enumA]
  repeat' (first | (with_reducible first | refine vseq ?_ | refine vthenN ?_ | refine vthenE ?_ | refine vthenR ?_ | refine vret ?_ | refine vskip ?_ | refine vexit ?_ | refine vblock ?_ | refine vblockN ?_ | refine vblockR ?_ | refine vblockH ?_ | refine vrun_nil ?_ | refine vblockE rfl ?_ | refine vregion [] ?_ | refine vhrun_nil ?_) | ((with_reducible refine vcondT ?_ ?_); (focus (go_simp; done))) | ((with_reducible refine vcondF ?_ ?_); (focus (go_simp; done))) | ((with_reducible first | refine vrun_cons fun KK hKK => ?_ | refine vhrun_cons fun KK hKK => ?_); go_simp; refine hKK _ ?_; clear hKK KK) | ((with_reducible refine vcondS ?_ (fun ht => ?_) (fun ht => ?_)); (focus (go_simp; done)); (all_goals (simp [go_sem] at ht; replace ht := ht.out))))
  all_goals (first | (go_simp; done) | (go_simp; first | (simp [unl, *]; done) | (simp [unl, *]; omega) | (simp [unl, ] at *; omega) | (rfl)))
theorem p_isDate (n : Int) : VC Try.prog 75 [I n] (B (isDate n)) := by
  refine VC_of Try.func75 rfl (by kernel_rfl) (by kernel_rfl) rfl fun M0 w0 => ?_
  simp only [Try.ntmps75, Try.results75, enumA]
  repeat' (first | (with_reducible first | refine vseq ?_ | refine vthenN ?_ | refine vthenE ?_ | refine vthenR ?_ | refine vret ?_ | refine vskip ?_ | refine vexit ?_ | refine vblock ?_ | refine vblockN ?_ | refine vblockR ?_ | refine vblockH ?_ | refine vrun_nil ?_ | refine vblockE rfl ?_ | refine vregion [] ?_ | refine vhrun_nil ?_) | ((with_reducible refine vcondT ?_ ?_); (focus (go_simp; done))) | ((with_reducible refine vcondF ?_ ?_); (focus (go_simp; done))) | ((with_reducible first | refine vrun_cons fun KK hKK => ?_ | refine vhrun_cons fun KK hKK => ?_); go_simp; (first | (with_reducible refine ⟨_, p_within _ _ _, ?_⟩) | skip); refine hKK _ ?_; clear hKK KK) | ((with_reducible refine vcondS ?_ (fun ht => ?_) (fun ht => ?_)); (focus (go_simp; done)); (all_goals (simp [go_sem] at ht; replace ht := ht.out))))
  all_goals (first | (go_simp; done) | (go_simp; first | (simp [isDate, *]; done) | (simp [isDate, *]; omega) | (simp [isDate, ] at *; omega) | (rfl)))
theorem p_first (l : List Int) (hl : l.length ≤ 1000) : VC Try.prog 24 [.sl 1 (l.map intA)] (I (fst l)) := by
  obtain ⟨R, hR⟩ : ∃ R, fst l = R := ⟨_, rfl⟩
  rw [hR]
  have HR := Lib.hid hR
  clear hR
  refine VC_of Try.func24 rfl (by kernel_rfl) (by kernel_rfl) rfl fun M0 w0 => ?_
  simp only [Try.ntmps24, Try.results24, enumA]
  repeat (first | (with_reducible first | refine vseq ?_ | refine vthenN ?_ | refine vthenE ?_ | refine vthenR ?_ | refine vret ?_ | refine vskip ?_ | refine vexit ?_ | refine vblock ?_ | refine vblockN ?_ | refine vblockR ?_ | refine vblockH ?_ | refine vrun_nil ?_ | refine vblockE rfl ?_ | refine vregion [] ?_ | refine vhrun_nil ?_) | ((with_reducible refine vcondT ?_ ?_); (focus (go_simp; done))) | ((with_reducible refine vcondF ?_ ?_); (focus (go_simp; done))) | ((with_reducible first | refine vrun_cons fun KK hKK => ?_ | refine vhrun_cons fun KK hKK => ?_); go_simp; refine hKK _ ?_; clear hKK KK))
  refine vloop (α := Nat) (fun k => ⟨[(7, I k), (6, I l.length), (5, .sl 1 (l.map intA))], []⟩) (fun k => k ≤ l.length ∧ Hid (fst (l.drop k) = R)) (fun k => l.length - k) 0 ⟨by omega, by simpa using HR⟩ (by go_simp) ?_
  rintro k ⟨hk, hf⟩ K hR
  by_cases hlt : k < l.length
  · have hw := wrap_eq (x := (k : Int) + 1) (by omega) (by omega)
    have e := hf.out
    rw [List.drop_eq_getElem_cons hlt, fst] at e
    obtain ⟨x, hx⟩ : ∃ x, l[k] = x := ⟨_, rfl⟩
    rw [hx] at e
    have HE := Lib.hid e
    clear e
    by_cases c : x = 0
    · subst c
      repeat (first | (with_reducible first | refine vseq ?_ | refine vthenN ?_ | refine vthenE ?_ | refine vthenR ?_ | refine vret ?_ | refine vskip ?_ | refine vexit ?_ | refine vblock ?_ | refine vblockN ?_ | refine vblockR ?_ | refine vblockH ?_ | refine vrun_nil ?_ | refine vblockE rfl ?_ | refine vregion [] ?_ | refine vhrun_nil ?_) | ((with_reducible refine vcondT ?_ ?_); (focus (go_simp; done))) | ((with_reducible refine vcondF ?_ ?_); (focus (go_simp; done))) | ((with_reducible first | refine vrun_cons fun KK hKK => ?_ | refine vhrun_cons fun KK hKK => ?_); go_simp; refine hKK _ ?_; clear hKK KK))
      refine hR _ (k + 1) ⟨hlt, Lib.hid (by simpa using HE.out)⟩ (by omega) ?_
      go_simp
    · repeat (first | (with_reducible first | refine vseq ?_ | refine vthenN ?_ | refine vthenE ?_ | refine vthenR ?_ | refine vret ?_ | refine vskip ?_ | refine vexit ?_ | refine vblock ?_ | refine vblockN ?_ | refine vblockR ?_ | refine vblockH ?_ | refine vrun_nil ?_ | refine vblockE rfl ?_ | refine vregion [] ?_ | refine vhrun_nil ?_) | ((with_reducible refine vcondT ?_ ?_); (focus (go_simp; done))) | ((with_reducible refine vcondF ?_ ?_); (focus (go_simp; done))) | ((with_reducible first | refine vrun_cons fun KK hKK => ?_ | refine vhrun_cons fun KK hKK => ?_); go_simp; refine hKK _ ?_; clear hKK KK))
      have e := HE.out
      rw [if_pos c] at e
      subst e
      go_simp
  · repeat (first | (with_reducible first | refine vseq ?_ | refine vthenN ?_ | refine vthenE ?_ | refine vthenR ?_ | refine vret ?_ | refine vskip ?_ | refine vexit ?_ | refine vblock ?_ | refine vblockN ?_ | refine vblockR ?_ | refine vblockH ?_ | refine vrun_nil ?_ | refine vblockE rfl ?_ | refine vregion [] ?_ | refine vhrun_nil ?_) | ((with_reducible refine vcondT ?_ ?_); (focus (go_simp; done))) | ((with_reducible refine vcondF ?_ ?_); (focus (go_simp; done))) | ((with_reducible first | refine vrun_cons fun KK hKK => ?_ | refine vhrun_cons fun KK hKK => ?_); go_simp; refine hKK _ ?_; clear hKK KK))
    have e := hf.out
    rw [List.drop_eq_nil_of_le (by omega)] at e
    rw [show R = 0 from e.symm]
    go_simp
theorem p_isName (s : ByteArray) (hs : s.size ≤ 1000) : VC Try.prog 74 [S s] (B (isName s)) := by
  obtain ⟨R, hR⟩ : ∃ R, isName s = R := ⟨_, rfl⟩
  rw [hR]
  have HR := Lib.hid hR
  clear hR
  refine VC_of Try.func74 rfl (by kernel_rfl) (by kernel_rfl) rfl fun M0 w0 => ?_
  simp only [Try.ntmps74, Try.results74, enumA]
  repeat (first | (with_reducible first | refine vseq ?_ | refine vthenN ?_ | refine vthenE ?_ | refine vthenR ?_ | refine vret ?_ | refine vskip ?_ | refine vexit ?_ | refine vblock ?_ | refine vblockN ?_ | refine vblockR ?_ | refine vblockH ?_ | refine vrun_nil ?_ | refine vblockE rfl ?_ | refine vregion [] ?_ | refine vhrun_nil ?_) | ((with_reducible refine vcondT ?_ ?_); (focus (go_simp; done))) | ((with_reducible refine vcondF ?_ ?_); (focus (go_simp; done))) | ((with_reducible first | refine vrun_cons fun KK hKK => ?_ | refine vhrun_cons fun KK hKK => ?_); go_simp; refine hKK _ ?_; clear hKK KK))
  refine vloop (α := Nat) (fun k => ⟨[(9, I k), (8, I s.size), (7, .sl 1 ((List.range s.size).map fun i => [.lit (.int .u8 (byteAt s i).toNat)])), (0, S s)], []⟩) (fun k => k ≤ s.size ∧ Hid (okTo s k = true)) (fun k => s.size - k) 0 ⟨by omega, Lib.hid rfl⟩ (by go_simp) ?_
  rintro k ⟨hk, hf⟩ K hR
  by_cases hlt : k < s.size
  · have hw := wrap_eq (x := (k : Int) + 1) (by omega) (by omega)
    obtain ⟨x, hx⟩ : ∃ x : Int, ((byteAt s k).toNat : Int) = x := ⟨_, rfl⟩
    have HX := Lib.hid (okTo_succ s k)
    have hno : Hid (okChar k x = false → R = false) := Lib.hid fun h => by
      rw [← HR.out]
      unfold isName
      rw [okTo_no s hlt (by rw [hx]; exact h)]
      simp
    have hch : ((!decide (97 ≤ x) || !decide (x ≤ 122)) && (!decide (65 ≤ x) || !decide (x ≤ 90)) && (decide (k = 0) || !decide (x = 45) && (decide (x < 48) || decide (57 < x)))) = !okChar k x := by
      rw [Bool.eq_iff_iff]
      simp [okChar]
    have HC := Lib.hid hch
    have hok : Hid (okChar k x = true → okTo s (k + 1) = true) := Lib.hid fun h => by rw [HX.out, hf.out, hx, h]; rfl
    clear hch
    repeat' (first | (with_reducible first | refine vseq ?_ | refine vthenN ?_ | refine vthenE ?_ | refine vthenR ?_ | refine vret ?_ | refine vskip ?_ | refine vexit ?_ | refine vblock ?_ | refine vblockN ?_ | refine vblockR ?_ | refine vblockH ?_ | refine vrun_nil ?_ | refine vblockE rfl ?_ | refine vregion [] ?_ | refine vhrun_nil ?_) | ((with_reducible refine vcondT ?_ ?_); (focus (go_simp; done))) | ((with_reducible refine vcondF ?_ ?_); (focus (go_simp; done))) | ((with_reducible first | refine vrun_cons fun KK hKK => ?_ | refine vhrun_cons fun KK hKK => ?_); go_simp; refine hKK _ ?_; clear hKK KK) | ((with_reducible refine vcondS ?_ (fun ht => ?_) (fun ht => ?_)); (focus (go_simp; done)); (all_goals (simp [go_sem] at ht; replace ht := ht.out))) | ((apply vrun_consG0 rfl); (focus (go_simp <;> exact rfl)); (focus (go_simp; done)); (focus (intro hb0; replace hb0 := hb0.out; go_simp <;> (first | exact rfl))); intro KK hKK; go_simp; refine hKK _ ?_; clear hKK KK) | ((apply vrun_consG1 rfl); (focus (go_simp <;> exact rfl)); (focus (go_simp; done)); (focus (intro hb0 hb1; replace hb0 := hb0.out; replace hb1 := hb1.out; go_simp <;> (first | exact rfl))); intro KK hKK; go_simp; refine hKK _ ?_; clear hKK KK) | ((apply vrun_consG2 rfl); (focus (go_simp <;> exact rfl)); (focus (go_simp; done)); (focus (intro hb0 hb1 hb2; replace hb0 := hb0.out; replace hb1 := hb1.out; replace hb2 := hb2.out; go_simp <;> (first | exact rfl))); intro KK hKK; go_simp; refine hKK _ ?_; clear hKK KK) | ((apply vrun_consG3 rfl); (focus (go_simp <;> exact rfl)); (focus (go_simp; done)); (focus (intro hb0 hb1 hb2 hb3; replace hb0 := hb0.out; replace hb1 := hb1.out; replace hb2 := hb2.out; replace hb3 := hb3.out; go_simp <;> (first | exact rfl))); intro KK hKK; go_simp; refine hKK _ ?_; clear hKK KK))
    · rw [HC.out] at ht
      have e := hno.out (by simpa using ht)
      subst e
      go_simp
    · rw [HC.out] at ht
      refine hR _ (k + 1) ⟨hlt, Lib.hid (hok.out (by simpa using ht))⟩ (by omega) ?_
      go_simp
  · have hkk : k = s.size := by omega
    subst hkk
    have e : isName s = (decide (1 ≤ s.size) && decide (s.size ≤ 12)) := by unfold isName; rw [hf.out]; simp
    rw [HR.out] at e
    have he := Lib.hid e
    clear e
    repeat' (first | (with_reducible first | refine vseq ?_ | refine vthenN ?_ | refine vthenE ?_ | refine vthenR ?_ | refine vret ?_ | refine vskip ?_ | refine vexit ?_ | refine vblock ?_ | refine vblockN ?_ | refine vblockR ?_ | refine vblockH ?_ | refine vrun_nil ?_ | refine vblockE rfl ?_ | refine vregion [] ?_ | refine vhrun_nil ?_) | ((with_reducible refine vcondT ?_ ?_); (focus (go_simp; done))) | ((with_reducible refine vcondF ?_ ?_); (focus (go_simp; done))) | ((with_reducible first | refine vrun_cons fun KK hKK => ?_ | refine vhrun_cons fun KK hKK => ?_); go_simp; refine hKK _ ?_; clear hKK KK) | ((with_reducible refine vcondS ?_ (fun ht => ?_) (fun ht => ?_)); (focus (go_simp; done)); (all_goals (simp [go_sem] at ht; replace ht := ht.out))) | ((apply vrun_consG0 rfl); (focus (go_simp <;> exact rfl)); (focus (go_simp; done)); (focus (intro hb0; replace hb0 := hb0.out; go_simp <;> (first | exact rfl))); intro KK hKK; go_simp; refine hKK _ ?_; clear hKK KK) | ((apply vrun_consG1 rfl); (focus (go_simp <;> exact rfl)); (focus (go_simp; done)); (focus (intro hb0 hb1; replace hb0 := hb0.out; replace hb1 := hb1.out; go_simp <;> (first | exact rfl))); intro KK hKK; go_simp; refine hKK _ ?_; clear hKK KK) | ((apply vrun_consG2 rfl); (focus (go_simp <;> exact rfl)); (focus (go_simp; done)); (focus (intro hb0 hb1 hb2; replace hb0 := hb0.out; replace hb1 := hb1.out; replace hb2 := hb2.out; go_simp <;> (first | exact rfl))); intro KK hKK; go_simp; refine hKK _ ?_; clear hKK KK) | ((apply vrun_consG3 rfl); (focus (go_simp <;> exact rfl)); (focus (go_simp; done)); (focus (intro hb0 hb1 hb2 hb3; replace hb0 := hb0.out; replace hb1 := hb1.out; replace hb2 := hb2.out; replace hb3 := hb3.out; go_simp <;> (first | exact rfl))); intro KK hKK; go_simp; refine hKK _ ?_; clear hKK KK))
    rw [he.out]
    have hz : s.size = 0 → s = ByteArray.empty := fun h => by
      cases s
      rename_i a
      have : a = #[] := Array.eq_empty_of_size_eq_zero h
      rw [this]
      rfl
    have HZ := Lib.hid hz
    clear hz
    go_simp
    by_cases h0 : s = ByteArray.empty
    · subst h0
      rfl
    · have h1 : ¬ s.size = 0 := fun h => h0 (HZ.out h)
      have h2 : ¬ s = { data := #[] } := h0
      have h3 : (1 : Nat) ≤ s.size := by omega
      have h4 : decide ((s.size : Int) ≤ 12) = decide (s.size ≤ 12) := by
        rw [Bool.eq_iff_iff, decide_eq_true_eq, decide_eq_true_eq]
        omega
      rw [decide_eq_false h2, decide_eq_true h3, h4]
      rfl
theorem b_isName (s : ByteArray) (hs : s.size ≤ 9223372036854775807) : VC Try.prog 70 [S s] (B (isName s)) := by
  obtain ⟨R, hR⟩ : ∃ R, isName s = R := ⟨_, rfl⟩
  rw [hR]
  have HR := Lib.hid hR
  clear hR
  refine VC_of Try.func70 rfl (by kernel_rfl) (by kernel_rfl) rfl fun M0 w0 => ?_
  simp only [Try.ntmps70, Try.results70, enumA]
  by_cases h1 : s.size < 1 ∨ 12 < s.size
  · have e : R = false := by
      rw [← HR.out]
      unfold isName
      rcases h1 with h | h
      · rw [decide_eq_false (by omega)]; rfl
      · rw [show decide (s.size ≤ 12) = false from decide_eq_false (by omega)]; simp
    subst e
    have hb : (decide ((s.size : Int) < 1) || decide (12 < (s.size : Int))) = true := by simp; omega
    repeat' (first | (with_reducible first | refine vseq ?_ | refine vthenN ?_ | refine vthenE ?_ | refine vthenR ?_ | refine vret ?_ | refine vskip ?_ | refine vexit ?_ | refine vblock ?_ | refine vblockN ?_ | refine vblockR ?_ | refine vblockH ?_ | refine vrun_nil ?_ | refine vblockE rfl ?_ | refine vregion [] ?_ | refine vhrun_nil ?_) | ((with_reducible refine vcondT ?_ ?_); (focus (go_simp; done))) | ((with_reducible refine vcondF ?_ ?_); (focus (go_simp; done))) | ((with_reducible first | refine vrun_cons fun KK hKK => ?_ | refine vhrun_cons fun KK hKK => ?_); go_simp; refine hKK _ ?_; clear hKK KK) | ((with_reducible refine vcondS ?_ (fun ht => ?_) (fun ht => ?_)); (focus (go_simp; done)); (all_goals (simp [go_sem] at ht; replace ht := ht.out))) | ((apply vrun_consG0 rfl); (focus (go_simp <;> exact rfl)); (focus (go_simp; done)); (focus (intro hb0; replace hb0 := hb0.out; go_simp <;> (first | exact rfl))); intro KK hKK; go_simp; refine hKK _ ?_; clear hKK KK) | ((apply vrun_consG1 rfl); (focus (go_simp <;> exact rfl)); (focus (go_simp; done)); (focus (intro hb0 hb1; replace hb0 := hb0.out; replace hb1 := hb1.out; go_simp <;> (first | exact rfl))); intro KK hKK; go_simp; refine hKK _ ?_; clear hKK KK) | ((apply vrun_consG2 rfl); (focus (go_simp <;> exact rfl)); (focus (go_simp; done)); (focus (intro hb0 hb1 hb2; replace hb0 := hb0.out; replace hb1 := hb1.out; replace hb2 := hb2.out; go_simp <;> (first | exact rfl))); intro KK hKK; go_simp; refine hKK _ ?_; clear hKK KK) | ((apply vrun_consG3 rfl); (focus (go_simp <;> exact rfl)); (focus (go_simp; done)); (focus (intro hb0 hb1 hb2 hb3; replace hb0 := hb0.out; replace hb1 := hb1.out; replace hb2 := hb2.out; replace hb3 := hb3.out; go_simp <;> (first | exact rfl))); intro KK hKK; go_simp; refine hKK _ ?_; clear hKK KK))
    go_simp
  · have hb : (decide ((s.size : Int) < 1) || decide (12 < (s.size : Int))) = false := by simp; omega
    have hl1 : s.size ≤ 12 := by omega
    have e : isName s = okTo s s.size := by
      unfold isName
      rw [decide_eq_true (by omega), decide_eq_true hl1]
      rfl
    rw [HR.out] at e
    have HE := Lib.hid e
    clear e
    repeat' (first | (with_reducible first | refine vseq ?_ | refine vthenN ?_ | refine vthenE ?_ | refine vthenR ?_ | refine vret ?_ | refine vskip ?_ | refine vexit ?_ | refine vblock ?_ | refine vblockN ?_ | refine vblockR ?_ | refine vblockH ?_ | refine vrun_nil ?_ | refine vblockE rfl ?_ | refine vregion [] ?_ | refine vhrun_nil ?_) | ((with_reducible refine vcondT ?_ ?_); (focus (go_simp; done))) | ((with_reducible refine vcondF ?_ ?_); (focus (go_simp; done))) | ((with_reducible first | refine vrun_cons fun KK hKK => ?_ | refine vhrun_cons fun KK hKK => ?_); go_simp; refine hKK _ ?_; clear hKK KK) | ((with_reducible refine vcondS ?_ (fun ht => ?_) (fun ht => ?_)); (focus (go_simp; done)); (all_goals (simp [go_sem] at ht; replace ht := ht.out))) | ((apply vrun_consG0 rfl); (focus (go_simp <;> exact rfl)); (focus (go_simp; done)); (focus (intro hb0; replace hb0 := hb0.out; go_simp <;> (first | exact rfl))); intro KK hKK; go_simp; refine hKK _ ?_; clear hKK KK) | ((apply vrun_consG1 rfl); (focus (go_simp <;> exact rfl)); (focus (go_simp; done)); (focus (intro hb0 hb1; replace hb0 := hb0.out; replace hb1 := hb1.out; go_simp <;> (first | exact rfl))); intro KK hKK; go_simp; refine hKK _ ?_; clear hKK KK) | ((apply vrun_consG2 rfl); (focus (go_simp <;> exact rfl)); (focus (go_simp; done)); (focus (intro hb0 hb1 hb2; replace hb0 := hb0.out; replace hb1 := hb1.out; replace hb2 := hb2.out; go_simp <;> (first | exact rfl))); intro KK hKK; go_simp; refine hKK _ ?_; clear hKK KK) | ((apply vrun_consG3 rfl); (focus (go_simp <;> exact rfl)); (focus (go_simp; done)); (focus (intro hb0 hb1 hb2 hb3; replace hb0 := hb0.out; replace hb1 := hb1.out; replace hb2 := hb2.out; replace hb3 := hb3.out; go_simp <;> (first | exact rfl))); intro KK hKK; go_simp; refine hKK _ ?_; clear hKK KK))
    · clear hb
      refine vloop (α := Nat) (fun k => ⟨[(3, I k), (0, S s)], []⟩) (fun k => k ≤ s.size ∧ Hid (okTo s k = true)) (fun k => s.size - k) 0 ⟨by omega, Lib.hid rfl⟩ (by go_simp) ?_
      rintro k ⟨hk, hf⟩ K hR
      by_cases hlt : k < s.size
      · have hlt' : (k : Int) < s.size := by omega
        have hw := wrap_eq (x := (k : Int) + 1) (by omega) (by omega)
        obtain ⟨x, hx⟩ : ∃ x : Int, ((byteAt s k).toNat : Int) = x := ⟨_, rfl⟩
        have HX := Lib.hid (okTo_succ s k)
        have hno : Hid (okChar k x = false → R = false) := Lib.hid fun h => by
          rw [HE.out]
          exact okTo_no s hlt (by rw [hx]; exact h)
        have hch : ((!decide (97 ≤ x) || !decide (x ≤ 122)) && (!decide (65 ≤ x) || !decide (x ≤ 90)) && (decide (k = 0) || !decide (x = 45) && (decide (x < 48) || decide (57 < x)))) = !okChar k x := by
          rw [Bool.eq_iff_iff]
          simp [okChar]
        have HC := Lib.hid hch
        have hok : Hid (okChar k x = true → okTo s (k + 1) = true) := Lib.hid fun h => by rw [HX.out, hf.out, hx, h]; rfl
        clear hch
        repeat' (first | (with_reducible first | refine vseq ?_ | refine vthenN ?_ | refine vthenE ?_ | refine vthenR ?_ | refine vret ?_ | refine vskip ?_ | refine vexit ?_ | refine vblock ?_ | refine vblockN ?_ | refine vblockR ?_ | refine vblockH ?_ | refine vrun_nil ?_ | refine vblockE rfl ?_ | refine vregion [] ?_ | refine vhrun_nil ?_) | ((with_reducible refine vcondT ?_ ?_); (focus (go_simp; done))) | ((with_reducible refine vcondF ?_ ?_); (focus (go_simp; done))) | ((with_reducible first | refine vrun_cons fun KK hKK => ?_ | refine vhrun_cons fun KK hKK => ?_); go_simp; refine hKK _ ?_; clear hKK KK) | ((with_reducible refine vcondS ?_ (fun ht => ?_) (fun ht => ?_)); (focus (go_simp; done)); (all_goals (simp [go_sem] at ht; replace ht := ht.out))) | ((apply vrun_consG0 rfl); (focus (go_simp <;> exact rfl)); (focus (go_simp; done)); (focus (intro hb0; replace hb0 := hb0.out; go_simp <;> (first | exact rfl))); intro KK hKK; go_simp; refine hKK _ ?_; clear hKK KK) | ((apply vrun_consG1 rfl); (focus (go_simp <;> exact rfl)); (focus (go_simp; done)); (focus (intro hb0 hb1; replace hb0 := hb0.out; replace hb1 := hb1.out; go_simp <;> (first | exact rfl))); intro KK hKK; go_simp; refine hKK _ ?_; clear hKK KK) | ((apply vrun_consG2 rfl); (focus (go_simp <;> exact rfl)); (focus (go_simp; done)); (focus (intro hb0 hb1 hb2; replace hb0 := hb0.out; replace hb1 := hb1.out; replace hb2 := hb2.out; go_simp <;> (first | exact rfl))); intro KK hKK; go_simp; refine hKK _ ?_; clear hKK KK) | ((apply vrun_consG3 rfl); (focus (go_simp <;> exact rfl)); (focus (go_simp; done)); (focus (intro hb0 hb1 hb2 hb3; replace hb0 := hb0.out; replace hb1 := hb1.out; replace hb2 := hb2.out; replace hb3 := hb3.out; go_simp <;> (first | exact rfl))); intro KK hKK; go_simp; refine hKK _ ?_; clear hKK KK))
        · rw [HC.out] at ht
          have e := hno.out (by simpa using ht)
          subst e
          go_simp
        · rw [HC.out] at ht
          refine hR _ (k + 1) ⟨hlt, Lib.hid (hok.out (by simpa using ht))⟩ (by omega) ?_
          go_simp
      · have hkk : k = s.size := by omega
        subst hkk
        repeat' (first | (with_reducible first | refine vseq ?_ | refine vthenN ?_ | refine vthenE ?_ | refine vthenR ?_ | refine vret ?_ | refine vskip ?_ | refine vexit ?_ | refine vblock ?_ | refine vblockN ?_ | refine vblockR ?_ | refine vblockH ?_ | refine vrun_nil ?_ | refine vblockE rfl ?_ | refine vregion [] ?_ | refine vhrun_nil ?_) | ((with_reducible refine vcondT ?_ ?_); (focus (go_simp; done))) | ((with_reducible refine vcondF ?_ ?_); (focus (go_simp; done))) | ((with_reducible first | refine vrun_cons fun KK hKK => ?_ | refine vhrun_cons fun KK hKK => ?_); go_simp; refine hKK _ ?_; clear hKK KK) | ((with_reducible refine vcondS ?_ (fun ht => ?_) (fun ht => ?_)); (focus (go_simp; done)); (all_goals (simp [go_sem] at ht; replace ht := ht.out))) | ((apply vrun_consG0 rfl); (focus (go_simp <;> exact rfl)); (focus (go_simp; done)); (focus (intro hb0; replace hb0 := hb0.out; go_simp <;> (first | exact rfl))); intro KK hKK; go_simp; refine hKK _ ?_; clear hKK KK) | ((apply vrun_consG1 rfl); (focus (go_simp <;> exact rfl)); (focus (go_simp; done)); (focus (intro hb0 hb1; replace hb0 := hb0.out; replace hb1 := hb1.out; go_simp <;> (first | exact rfl))); intro KK hKK; go_simp; refine hKK _ ?_; clear hKK KK) | ((apply vrun_consG2 rfl); (focus (go_simp <;> exact rfl)); (focus (go_simp; done)); (focus (intro hb0 hb1 hb2; replace hb0 := hb0.out; replace hb1 := hb1.out; replace hb2 := hb2.out; go_simp <;> (first | exact rfl))); intro KK hKK; go_simp; refine hKK _ ?_; clear hKK KK) | ((apply vrun_consG3 rfl); (focus (go_simp <;> exact rfl)); (focus (go_simp; done)); (focus (intro hb0 hb1 hb2 hb3; replace hb0 := hb0.out; replace hb1 := hb1.out; replace hb2 := hb2.out; replace hb3 := hb3.out; go_simp <;> (first | exact rfl))); intro KK hKK; go_simp; refine hKK _ ?_; clear hKK KK))
        rw [HE.out, hf.out]
        go_simp
end Go.Proofs.Ythbgghmjbaldlaa
