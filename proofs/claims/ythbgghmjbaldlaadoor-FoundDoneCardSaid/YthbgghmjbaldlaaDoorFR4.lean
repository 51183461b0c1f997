/- Texts in one: What the types of the program are; no condition. -/
import Derived.Test.YthbgghmjbaldlaaDoorFR3
import Derived.Test.YthbgghmjbaldlaaDoorProg
import Derived.Test.YthbgghmjbaldlaaDoorFR2
/-! VT: What the types of the program are; no condition. -/
namespace Go.Proofs.YthbgghmjbaldlaaDoor
open Go.RowKit
@[go_sem] theorem ti2 : tinfo Tryd.prog 2 = some ⟨5, 1, 8, 0, 1, 0, .i64, [], [.int .i64 0]⟩ := by kernel_rfl
@[go_sem] theorem ti3 : tinfo Tryd.prog 3 = some ⟨5, 1, 8, 0, 1, 0, .i64, [], [.int .i64 0]⟩ := by kernel_rfl
@[go_sem] theorem ti4 : tinfo Tryd.prog 4 = some ⟨6, 1, 1, 0, 1, 0, .i64, [], [.bool false]⟩ := by kernel_rfl
@[go_sem] theorem ti5 : tinfo Tryd.prog 5 = some ⟨5, 1, 1, 0, 1, 0, .u8, [], [.int .u8 0]⟩ := by kernel_rfl
@[go_sem] theorem ti6 : tinfo Tryd.prog 6 = some ⟨5, 1, 1, 0, 1, 0, .u8, [], [.int .u8 0]⟩ := by kernel_rfl
@[go_sem] theorem ti7 : tinfo Tryd.prog 7 = some ⟨3, 4, 24, 0, 1, 0, .i64, [(0, 1, false), (1, 1, false), (2, 1, false), (3, 1, false)], [.int .i64 0, .int .i64 0, .bool false, .int .u8 0]⟩ := by kernel_rfl
@[go_sem] theorem ti8 : tinfo Tryd.prog 8 = some ⟨3, 4, 24, 0, 1, 0, .i64, [(0, 1, false), (1, 1, false), (2, 1, false), (3, 1, false)], [.int .i64 0, .int .i64 0, .bool false, .int .u8 0]⟩ := by kernel_rfl
@[go_sem] theorem ti9 : tinfo Tryd.prog 9 = some ⟨4, 1, 16, 0, 1, 0, .i64, [], [.string ⟨#[]⟩]⟩ := by kernel_rfl
@[go_sem] theorem ti10 : tinfo Tryd.prog 10 = some ⟨4, 1, 16, 0, 1, 0, .i64, [], [.string ⟨#[]⟩]⟩ := by kernel_rfl
@[go_sem] theorem ti11 : tinfo Tryd.prog 11 = some ⟨4, 1, 16, 0, 1, 0, .i64, [], [.string ⟨#[]⟩]⟩ := by kernel_rfl
@[go_sem] theorem ti12 : tinfo Tryd.prog 12 = some ⟨5, 1, 8, 0, 1, 0, .u64, [], [.int .u64 0]⟩ := by kernel_rfl
@[go_sem] theorem ti13 : tinfo Tryd.prog 13 = some ⟨3, 2, 24, 0, 1, 0, .i64, [(0, 1, false), (1, 1, false)], [.string ⟨#[]⟩, .int .u64 0]⟩ := by kernel_rfl
@[go_sem] theorem ti14 : tinfo Tryd.prog 14 = some ⟨3, 2, 24, 0, 1, 0, .i64, [(0, 1, false), (1, 1, false)], [.string ⟨#[]⟩, .int .u64 0]⟩ := by kernel_rfl
@[go_sem] theorem ti15 : tinfo Tryd.prog 15 = some ⟨7, 1, 8, 199, 4, 0, .i64, [], [.pointer none]⟩ := by kernel_rfl
@[go_sem] theorem ti16 : tinfo Tryd.prog 16 = some ⟨7, 1, 8, 202, 0, 0, .i64, [], [.pointer none]⟩ := by kernel_rfl
@[go_sem] theorem ti17 : tinfo Tryd.prog 17 = some ⟨7, 1, 8, 209, 11, 0, .i64, [], [.pointer none]⟩ := by kernel_rfl
@[go_sem] theorem ti18 : tinfo Tryd.prog 18 = some ⟨3, 1, 8, 0, 1, 0, .i64, [(0, 1, false)], [.pointer none]⟩ := by kernel_rfl
@[go_sem] theorem ti19 : tinfo Tryd.prog 19 = some ⟨3, 1, 8, 0, 1, 0, .i64, [(0, 1, false)], [.pointer none]⟩ := by kernel_rfl
@[go_sem] theorem ti20 : tinfo Tryd.prog 20 = some ⟨9, 1, 16, 0, 1, 0, .i64, [], [.nilIface]⟩ := by kernel_rfl
@[go_sem] theorem ti21 : tinfo Tryd.prog 21 = some ⟨5, 1, 4, 0, 1, 0, .i32, [], [.int .i32 0]⟩ := by kernel_rfl
@[go_sem] theorem ti22 : tinfo Tryd.prog 22 = some ⟨1, 1, 24, 125, 2, 0, .i64, [], [.slice none 0 0]⟩ := by kernel_rfl
@[go_sem] theorem ti23 : tinfo Tryd.prog 23 = some ⟨3, 4, 64, 0, 1, 0, .i64, [(0, 1, false), (1, 1, false), (2, 1, false), (3, 1, false)], [.string ⟨#[]⟩, .int .i64 0, .string ⟨#[]⟩, .slice none 0 0]⟩ := by kernel_rfl
@[go_sem] theorem ti24 : tinfo Tryd.prog 24 = some ⟨3, 4, 64, 0, 1, 0, .i64, [(0, 1, false), (1, 1, false), (2, 1, false), (3, 1, false)], [.string ⟨#[]⟩, .int .i64 0, .string ⟨#[]⟩, .slice none 0 0]⟩ := by kernel_rfl
@[go_sem] theorem ti25 : tinfo Tryd.prog 25 = some ⟨1, 1, 24, 48, 5, 0, .i64, [], [.slice none 0 0]⟩ := by kernel_rfl
@[go_sem] theorem ti28 : tinfo Tryd.prog 28 = some ⟨5, 1, 8, 0, 1, 0, .i64, [], [.int .i64 0]⟩ := by kernel_rfl
@[go_sem] theorem ti46 : tinfo Tryd.prog 46 = some ⟨2, 2, 16, 3, 1, 2, .i64, [], [.int .i64 0, .int .i64 0]⟩ := by kernel_rfl
@[go_sem] theorem ti47 : tinfo Tryd.prog 47 = some ⟨3, 5, 64, 0, 1, 0, .i64, [(0, 1, false), (1, 1, false), (2, 1, false), (3, 1, false), (4, 1, false)], [.string ⟨#[]⟩, .int .i64 0, .int .i64 0, .string ⟨#[]⟩, .string ⟨#[]⟩]⟩ := by kernel_rfl
@[go_sem] theorem ti48 : tinfo Tryd.prog 48 = some ⟨3, 5, 64, 0, 1, 0, .i64, [(0, 1, false), (1, 1, false), (2, 1, false), (3, 1, false), (4, 1, false)], [.string ⟨#[]⟩, .int .i64 0, .int .i64 0, .string ⟨#[]⟩, .string ⟨#[]⟩]⟩ := by kernel_rfl
@[go_sem] theorem ti49 : tinfo Tryd.prog 49 = some ⟨2, 4, 32, 3, 1, 4, .i64, [], [.int .i64 0, .int .i64 0, .int .i64 0, .int .i64 0]⟩ := by kernel_rfl
@[go_sem] theorem ti51 : tinfo Tryd.prog 51 = some ⟨3, 4, 64, 0, 1, 0, .i64, [(0, 1, false), (1, 1, false), (2, 1, false), (3, 1, false)], [.string ⟨#[]⟩, .int .i64 0, .string ⟨#[]⟩, .slice none 0 0]⟩ := by kernel_rfl
@[go_sem] theorem ti52 : tinfo Tryd.prog 52 = some ⟨3, 4, 64, 0, 1, 0, .i64, [(0, 1, false), (1, 1, false), (2, 1, false), (3, 1, false)], [.string ⟨#[]⟩, .int .i64 0, .string ⟨#[]⟩, .slice none 0 0]⟩ := by kernel_rfl
@[go_sem] theorem ti69 : tinfo Tryd.prog 69 = some ⟨1, 1, 24, 24, 4, 0, .i64, [], [.slice none 0 0]⟩ := by kernel_rfl
@[go_sem] theorem ti71 : tinfo Tryd.prog 71 = some ⟨1, 1, 24, 52, 4, 0, .i64, [], [.slice none 0 0]⟩ := by kernel_rfl
@[go_sem] theorem ti72 : tinfo Tryd.prog 72 = some ⟨1, 1, 24, 3, 1, 0, .i64, [], [.slice none 0 0]⟩ := by kernel_rfl
@[go_sem] theorem ti85 : tinfo Tryd.prog 85 = some ⟨1, 1, 24, 87, 5, 0, .i64, [], [.slice none 0 0]⟩ := by kernel_rfl
@[go_sem] theorem ti86 : tinfo Tryd.prog 86 = some ⟨3, 5, 88, 0, 1, 0, .i64, [(0, 4, true), (4, 1, false)], [.string ⟨#[]⟩, .int .i64 0, .string ⟨#[]⟩, .slice none 0 0, .slice none 0 0]⟩ := by kernel_rfl
@[go_sem] theorem ti87 : tinfo Tryd.prog 87 = some ⟨3, 5, 88, 0, 1, 0, .i64, [(0, 4, true), (4, 1, false)], [.string ⟨#[]⟩, .int .i64 0, .string ⟨#[]⟩, .slice none 0 0, .slice none 0 0]⟩ := by kernel_rfl
@[go_sem] theorem ti93 : tinfo Tryd.prog 93 = some ⟨1, 1, 24, 46, 2, 0, .i64, [], [.slice none 0 0]⟩ := by kernel_rfl
@[go_sem] theorem ti94 : tinfo Tryd.prog 94 = some ⟨3, 2, 48, 0, 1, 0, .i64, [(0, 1, false), (1, 1, false)], [.slice none 0 0, .slice none 0 0]⟩ := by kernel_rfl
@[go_sem] theorem ti95 : tinfo Tryd.prog 95 = some ⟨3, 2, 48, 0, 1, 0, .i64, [(0, 1, false), (1, 1, false)], [.slice none 0 0, .slice none 0 0]⟩ := by kernel_rfl
@[go_sem] theorem ti96 : tinfo Tryd.prog 96 = some ⟨3, 3, 72, 0, 1, 0, .i64, [(0, 1, false), (1, 2, true)], [.slice none 0 0, .slice none 0 0, .slice none 0 0]⟩ := by kernel_rfl
@[go_sem] theorem ti97 : tinfo Tryd.prog 97 = some ⟨3, 3, 72, 0, 1, 0, .i64, [(0, 1, false), (1, 2, true)], [.slice none 0 0, .slice none 0 0, .slice none 0 0]⟩ := by kernel_rfl
@[go_sem] theorem ti111 : tinfo Tryd.prog 111 = some ⟨3, 4, 64, 0, 1, 0, .i64, [(0, 4, true)], [.string ⟨#[]⟩, .int .i64 0, .string ⟨#[]⟩, .slice none 0 0]⟩ := by kernel_rfl
@[go_sem] theorem ti112 : tinfo Tryd.prog 112 = some ⟨3, 4, 64, 0, 1, 0, .i64, [(0, 4, true)], [.string ⟨#[]⟩, .int .i64 0, .string ⟨#[]⟩, .slice none 0 0]⟩ := by kernel_rfl
@[go_sem] theorem ti113 : tinfo Tryd.prog 113 = some ⟨3, 5, 88, 0, 1, 0, .i64, [(0, 4, true), (4, 1, false)], [.string ⟨#[]⟩, .int .i64 0, .string ⟨#[]⟩, .slice none 0 0, .slice none 0 0]⟩ := by kernel_rfl
@[go_sem] theorem ti114 : tinfo Tryd.prog 114 = some ⟨3, 5, 88, 0, 1, 0, .i64, [(0, 4, true), (4, 1, false)], [.string ⟨#[]⟩, .int .i64 0, .string ⟨#[]⟩, .slice none 0 0, .slice none 0 0]⟩ := by kernel_rfl
@[go_sem] theorem ti124 : tinfo Tryd.prog 124 = some ⟨3, 2, 32, 0, 1, 0, .i64, [(0, 1, false), (1, 1, false)], [.string ⟨#[]⟩, .string ⟨#[]⟩]⟩ := by kernel_rfl
@[go_sem] theorem ti125 : tinfo Tryd.prog 125 = some ⟨3, 2, 32, 0, 1, 0, .i64, [(0, 1, false), (1, 1, false)], [.string ⟨#[]⟩, .string ⟨#[]⟩]⟩ := by kernel_rfl
@[go_sem] theorem ti129 : tinfo Tryd.prog 129 = some ⟨3, 4, 64, 0, 1, 0, .i64, [(0, 4, true)], [.string ⟨#[]⟩, .int .i64 0, .string ⟨#[]⟩, .slice none 0 0]⟩ := by kernel_rfl
@[go_sem] theorem ti130 : tinfo Tryd.prog 130 = some ⟨3, 4, 64, 0, 1, 0, .i64, [(0, 4, true)], [.string ⟨#[]⟩, .int .i64 0, .string ⟨#[]⟩, .slice none 0 0]⟩ := by kernel_rfl
@[go_sem] theorem ti135 : tinfo Tryd.prog 135 = some ⟨1, 1, 24, 9, 1, 0, .i64, [], [.slice none 0 0]⟩ := by kernel_rfl
@[go_sem] theorem ti150 : tinfo Tryd.prog 150 = some ⟨1, 1, 24, 28, 1, 0, .i64, [], [.slice none 0 0]⟩ := by kernel_rfl
@[go_sem] theorem ti151 : tinfo Tryd.prog 151 = some ⟨10, 1, 8, 0, 1, 0, .i64, [], [.map none]⟩ := by kernel_rfl
@[go_sem] theorem ti152 : tinfo Tryd.prog 152 = some ⟨1, 1, 24, 5, 1, 0, .i64, [], [.slice none 0 0]⟩ := by kernel_rfl
@[go_sem] theorem ti154 : tinfo Tryd.prog 154 = some ⟨10, 1, 8, 0, 1, 0, .i64, [], [.map none]⟩ := by kernel_rfl
@[go_sem] theorem ti157 : tinfo Tryd.prog 157 = some ⟨1, 1, 24, 174, 1, 0, .i64, [], [.slice none 0 0]⟩ := by kernel_rfl
@[go_sem] theorem ti165 : tinfo Tryd.prog 165 = some ⟨7, 1, 8, 167, 2, 0, .i64, [], [.pointer none]⟩ := by kernel_rfl
@[go_sem] theorem ti166 : tinfo Tryd.prog 166 = some ⟨3, 2, 32, 0, 1, 0, .i64, [(0, 1, false), (1, 1, false)], [.pointer none, .slice none 0 0]⟩ := by kernel_rfl
@[go_sem] theorem ti167 : tinfo Tryd.prog 167 = some ⟨3, 2, 32, 0, 1, 0, .i64, [(0, 1, false), (1, 1, false)], [.pointer none, .slice none 0 0]⟩ := by kernel_rfl
@[go_sem] theorem ti169 : tinfo Tryd.prog 169 = some ⟨9, 1, 16, 0, 1, 0, .i64, [], [.nilIface]⟩ := by kernel_rfl
@[go_sem] theorem ti170 : tinfo Tryd.prog 170 = some ⟨9, 1, 16, 0, 1, 0, .i64, [], [.nilIface]⟩ := by kernel_rfl
@[go_sem] theorem ti173 : tinfo Tryd.prog 173 = some ⟨9, 1, 16, 0, 1, 0, .i64, [], [.nilIface]⟩ := by kernel_rfl
@[go_sem] theorem ti174 : tinfo Tryd.prog 174 = some ⟨9, 1, 16, 0, 1, 0, .i64, [], [.nilIface]⟩ := by kernel_rfl
@[go_sem] theorem ti178 : tinfo Tryd.prog 178 = some ⟨7, 1, 8, 5, 1, 0, .i64, [], [.pointer none]⟩ := by kernel_rfl
@[go_sem] theorem ti180 : tinfo Tryd.prog 180 = some ⟨2, 24, 24, 5, 1, 24, .i64, [], [.int .u8 0, .int .u8 0, .int .u8 0, .int .u8 0, .int .u8 0, .int .u8 0, .int .u8 0, .int .u8 0, .int .u8 0, .int .u8 0, .int .u8 0, .int .u8 0, .int .u8 0, .int .u8 0, .int .u8 0, .int .u8 0, .int .u8 0, .int .u8 0, .int .u8 0, .int .u8 0, .int .u8 0, .int .u8 0, .int .u8 0, .int .u8 0]⟩ := by kernel_rfl
@[go_sem] theorem ti181 : tinfo Tryd.prog 181 = some ⟨5, 1, 8, 0, 1, 0, .u64, [], [.int .u64 0]⟩ := by kernel_rfl
@[go_sem] theorem ti186 : tinfo Tryd.prog 186 = some ⟨0, 1, 8, 0, 1, 0, .i64, [], [.pointer none]⟩ := by kernel_rfl
@[go_sem] theorem ti190 : tinfo Tryd.prog 190 = some ⟨2, 20, 160, 181, 1, 20, .i64, [], [.int .u64 0, .int .u64 0, .int .u64 0, .int .u64 0, .int .u64 0, .int .u64 0, .int .u64 0, .int .u64 0, .int .u64 0, .int .u64 0, .int .u64 0, .int .u64 0, .int .u64 0, .int .u64 0, .int .u64 0, .int .u64 0, .int .u64 0, .int .u64 0, .int .u64 0, .int .u64 0]⟩ := by kernel_rfl
@[go_sem] theorem ti191 : tinfo Tryd.prog 191 = some ⟨5, 1, 4, 0, 1, 0, .u32, [], [.int .u32 0]⟩ := by kernel_rfl
@[go_sem] theorem ti193 : tinfo Tryd.prog 193 = some ⟨5, 1, 8, 0, 1, 0, .u64, [], [.int .u64 0]⟩ := by kernel_rfl
@[go_sem] theorem ti196 : tinfo Tryd.prog 196 = some ⟨2, 32, 32, 5, 1, 32, .i64, [], [.int .u8 0, .int .u8 0, .int .u8 0, .int .u8 0, .int .u8 0, .int .u8 0, .int .u8 0, .int .u8 0, .int .u8 0, .int .u8 0, .int .u8 0, .int .u8 0, .int .u8 0, .int .u8 0, .int .u8 0, .int .u8 0, .int .u8 0, .int .u8 0, .int .u8 0, .int .u8 0, .int .u8 0, .int .u8 0, .int .u8 0, .int .u8 0, .int .u8 0, .int .u8 0, .int .u8 0, .int .u8 0, .int .u8 0, .int .u8 0, .int .u8 0, .int .u8 0]⟩ := by kernel_rfl
@[go_sem] theorem ti198 : tinfo Tryd.prog 198 = some ⟨3, 4, 40, 0, 1, 0, .i64, [(0, 1, false), (1, 1, false), (2, 1, false), (3, 1, false)], [.pointer none, .pointer none, .pointer none, .string ⟨#[]⟩]⟩ := by kernel_rfl
@[go_sem] theorem ti199 : tinfo Tryd.prog 199 = some ⟨3, 4, 40, 0, 1, 0, .i64, [(0, 1, false), (1, 1, false), (2, 1, false), (3, 1, false)], [.pointer none, .pointer none, .pointer none, .string ⟨#[]⟩]⟩ := by kernel_rfl
@[go_sem] theorem mi151 : minfo Tryd.prog 151 = some ((5, .i64), .int .i64 0) := by kernel_rfl
@[go_sem] theorem mi154 : minfo Tryd.prog 154 = some ((4, .i64), .string ⟨#[]⟩) := by kernel_rfl
@[go_sem] theorem tg3 : tagg Tryd.prog 3 = false := by kernel_rfl
@[go_sem] theorem tg28 : tagg Tryd.prog 28 = false := by kernel_rfl
@[go_sem] theorem tg9 : tagg Tryd.prog 9 = false := by kernel_rfl
@[go_sem] theorem eq46 : eqInfo Tryd.prog 46 = some [(0, 5), (1, 5)] := by kernel_rfl
@[go_sem] theorem me112_err : methA Tryd.prog 112 "fiacre/found.err" = some 79 := by kernel_rfl
@[go_sem] theorem me112_name : methA Tryd.prog 112 "fiacre/found.name" = some 156 := by kernel_rfl
@[go_sem] theorem me130_err : methA Tryd.prog 130 "fiacre/found.err" = some 81 := by kernel_rfl
@[go_sem] theorem me130_name : methA Tryd.prog 130 "fiacre/found.name" = some 157 := by kernel_rfl
end Go.Proofs.YthbgghmjbaldlaaDoor

/-! VLem: Plain values and contracts: small laws; no condition. -/
namespace Go.Proofs.YthbgghmjbaldlaaDoor
open Go.RowKit
def intA (n : Int) : List AV := [I n]
def txtA (s : ByteArray) : List AV := [S s]
def pairA (p : Nat × Nat) : List AV := [I p.1, I p.2]
attribute [go_sem] intA txtA pairA
section
variable {P : Program} {w w' : World} {M : Nat → Prop}
theorem V0.lit_inv {v u : Value} (h : V0 w M (.lit v) u) : u = v := by cases h; rfl
theorem V0.agg_lits {us : List Value} {v : Value} (h : V0 w M (.agg (us.map .lit)) v) : v = .agg us.toArray := by
  generalize he : us.map AV.lit = cs at h
  cases h with
  | agg _ vs hl h1 hv =>
    subst he
    congr 2
    apply List.ext_getElem?
    intro i
    cases hi : us[i]? with
    | none =>
      rw [List.getElem?_eq_none_iff] at hi ⊢
      simp at hl
      omega
    | some x =>
      have hlt : i < vs.length := by rw [hl]; simpa using (List.getElem?_eq_some_iff.1 hi).1
      have := hv i (.lit x) vs[i] (by simp [hi]) (List.getElem?_eq_getElem hlt)
      rw [List.getElem?_eq_getElem hlt, this.lit_inv]
theorem V0.of_lits (us : List Value) : V0 w M (.tup (us.map .lit)) (.tuple us.toArray) :=
  .tup _ _ (by simp) fun i c u hc hu => by
    obtain ⟨x, hx, rfl⟩ := map_at hc
    rw [hu] at hx
    obtain rfl := Option.some.inj hx
    exact .lit u
theorem V0.of_agg {us : List Value} (h : us.all (·.oneCell') = true) : V0 w M (.agg (us.map .lit)) (.agg us.toArray) :=
  .agg _ _ (by simp) (fun c hc => by
    obtain ⟨x, hx, rfl⟩ := List.mem_map.1 hc
    exact List.all_eq_true.1 h x hx) fun i c u hc hu => by
    obtain ⟨x, hx, rfl⟩ := map_at hc
    rw [hu] at hx
    obtain rfl := Option.some.inj hx
    exact .lit u
/-- A slice of elements all of whose cells are known, as a slice that reads as a list. -/
theorem V0.sl_inv {α : Type} {F : α → List AV} {C : α → List Value} {sz : Nat} (hF : ∀ x, F x = (C x).map .lit) {l : List α} {v : Value} (h : V0 w M (.sl sz (l.map F)) v) : ∃ A cap, v = .slice A l.length cap ∧ l.length ≤ cap ∧ Sl C sz w A l := by
  generalize he : l.map F = es at h
  cases h with
  | slNil _ A cap =>
    have : l = [] := by simpa using he
    subst this
    exact ⟨A, cap, rfl, Nat.zero_le _, Sl.nil _ _ _ _⟩
  | sl _ _ cap b o u hne hb hM hcap hsz h1 hc hv =>
    subst he
    refine ⟨_, cap, by rw [List.length_map], by simpa using hcap, fun _ => ⟨b, o, rfl, fun k x hk j c hj => ?_⟩⟩
    have hkl : k < l.length := (List.getElem?_eq_some_iff.1 hk).1
    have hx : (l.map F)[k]? = some (F x) := by simp [hk]
    have hjj : (F x)[j]? = some (.lit c) := by rw [hF]; simp [hj]
    have hjl : j < sz := by rw [← hsz k _ hx]; exact (List.getElem?_eq_some_iff.1 hjj).1
    rw [hc k j (by simpa using hkl) hjl]
    exact congrArg some (hv k _ j _ hx hjj).lit_inv
theorem V0.sl_mk {α : Type} {F : α → List AV} {C : α → List Value} {sz cap : Nat} (hF : ∀ x, F x = (C x).map .lit) (hC : ∀ x, (C x).length = sz) (h1 : ∀ x, ∀ u ∈ C x, u.oneCell' = true) {l : List α} {A : Option Addr} (hcap : l.length ≤ cap) (hM : ∀ b o, A = some ⟨b, o, none⟩ → l ≠ [] → ¬ M b)
    (hS : Sl C sz w A l) (hsz : 0 < sz) : V0 w M (.sl sz (l.map F)) (.slice A l.length cap) := by
  by_cases hne : l = []
  · subst hne
    exact .slNil _ _ _
  · obtain ⟨b, o, rfl, hc⟩ := hS hne
    have hget : ∀ (k : Nat) (e : List AV), (l.map F)[k]? = some e → ∃ x, l[k]? = some x ∧ e = (C x).map .lit := fun k e hk => by
      obtain ⟨x, hx, rfl⟩ := map_at hk
      exact ⟨x, hx, hF x⟩
    have hcell : ∀ k j, k < l.length → j < sz → ∃ v, w.cell? ⟨b, o + k * sz + j, none⟩ = some v := fun k j hk hj => by
      have hj' : j < (C l[k]).length := by rw [hC]; exact hj
      exact ⟨_, hc k l[k] (List.getElem?_eq_getElem hk) j _ (List.getElem?_eq_getElem hj')⟩
    have hb : b < w.heap.size := by
      obtain ⟨v, hv⟩ := hcell 0 0 (List.length_pos_iff.2 hne) hsz
      exact World.block_lt_of_cell? w _ hv
    have key := V0.sl (w := w) (M := M) sz (l.map F) cap b o (fun k j => (w.cell? ⟨b, o + k * sz + j, none⟩).getD undef) (by simpa using hne) hb (hM b o rfl hne) (by simpa using hcap) (fun k e hk => by
      obtain ⟨x, _, rfl⟩ := hget k e hk
      simp [hC]) (fun k e j c hk hj => by
      obtain ⟨x, _, rfl⟩ := hget k e hk
      obtain ⟨u, hu, rfl⟩ := map_at hj
      exact h1 x u (List.mem_of_getElem? hu)) (fun k j hk hj => by
      obtain ⟨v, hv⟩ := hcell k j (by simpa using hk) hj
      rw [hv]
      rfl) (fun k e j c hk hj => by
      obtain ⟨x, hx, rfl⟩ := hget k e hk
      obtain ⟨u, hu, rfl⟩ := map_at hj
      rw [hc k x hx j u hu]
      exact .lit u)
    rwa [List.length_map] at key
theorem VC_mk0 {f : FuncId} {r : AV} (hg : goesB P f = true) (h : ∀ w M, Calls P f #[] w fun e w' => ∃ v, e = .returned v ∧ Below w.heap.size w w' ∧ V0 w' M r v) : VC P f [] r :=
  ⟨hg, fun w M vs _ hl _ => by
    obtain rfl : vs = [] := List.eq_nil_of_length_eq_zero hl
    exact h w M⟩
theorem VC_mk1 {f : FuncId} {a r : AV} (hg : goesB P f = true) (h : ∀ w M v1, V0 w M a v1 → Calls P f #[v1] w fun e w' => ∃ v, e = .returned v ∧ Below w.heap.size w w' ∧ V0 w' M r v) : VC P f [a] r :=
  ⟨hg, fun w M vs _ hl hv => by
    obtain ⟨v1, rfl⟩ := List.length_eq_one_iff.1 hl
    exact h w M v1 (hv 0 a v1 rfl rfl)⟩
theorem VC_mk2 {f : FuncId} {a b r : AV} (hg : goesB P f = true) (h : ∀ w M v1 v2, V0 w M a v1 → V0 w M b v2 → Calls P f #[v1, v2] w fun e w' => ∃ v, e = .returned v ∧ Below w.heap.size w w' ∧ V0 w' M r v) : VC P f [a, b] r :=
  ⟨hg, fun w M vs _ hl hv => by
    match vs, hl with
    | [v1, v2], _ =>
    exact h w M v1 v2 (hv 0 a v1 rfl rfl) (hv 1 b v2 rfl rfl)⟩
theorem VC_mk3 {f : FuncId} {a b c r : AV} (hg : goesB P f = true) (h : ∀ w M v1 v2 v3, (∀ b, M b → b < w.heap.size) → V0 w M a v1 → V0 w M b v2 → V0 w M c v3 → Calls P f #[v1, v2, v3] w fun e w' => ∃ v, e = .returned v ∧ Below w.heap.size w w' ∧ V0 w' M r v) : VC P f [a, b, c] r :=
  ⟨hg, fun w M vs hM hl hv => by
    match vs, hl with
    | [v1, v2, v3], _ =>
    exact h w M v1 v2 v3 hM (hv 0 a v1 rfl rfl) (hv 1 b v2 rfl rfl) (hv 2 c v3 rfl rfl)⟩
end
end Go.Proofs.YthbgghmjbaldlaaDoor

/-! Plain: What the functions of chapter 9 compute, as plain functions; no condition. -/
namespace Go.Proofs.YthbgghmjbaldlaaDoor
open Go.RowKit
/-! ### Numbers and errors -/
def inR (n lo hi : Int) : Bool := decide (lo ≤ n) && decide (n ≤ hi)
def unl (c : Bool) (e : Int) : Int := if c then 0 else e
def fst : List Int → Int
  | [] => 0
  | x :: r => if x ≠ 0 then x else fst r
def isDate (n : Int) : Bool := inR n 0 100000
theorem inR_iff {n lo hi : Int} : inR n lo hi = true ↔ lo ≤ n ∧ n ≤ hi := by simp [inR]
theorem inR_no {n lo hi : Int} : inR n lo hi = false ↔ n < lo ∨ hi < n := by simp [inR]; omega
/-- A byte of a name, by its place. -/
def okChar (i : Nat) (n : Int) : Bool :=
  (decide (97 ≤ n) && decide (n ≤ 122)) || (decide (65 ≤ n) && decide (n ≤ 90)) || (decide (i ≠ 0) && (decide (n = 45) || (decide (48 ≤ n) && decide (n ≤ 57))))
theorem okChar_iff {i : Nat} {n : Int} : okChar i n = true ↔ (97 ≤ n ∧ n ≤ 122) ∨ (65 ≤ n ∧ n ≤ 90) ∨ (i ≠ 0 ∧ (n = 45 ∨ (48 ≤ n ∧ n ≤ 57))) := by
  simp [okChar, or_assoc]
def okTo (s : ByteArray) (n : Nat) : Bool := (List.range n).all fun i => okChar i (byteAt s i).toNat
theorem okTo_succ (s : ByteArray) (n : Nat) : okTo s (n + 1) = (okTo s n && okChar n (byteAt s n).toNat) := by
  simp [okTo, List.range_succ]
theorem okTo_no (s : ByteArray) {n m : Nat} (h : n < m) (ho : okChar n (byteAt s n).toNat = false) : okTo s m = false := by
  unfold okTo
  rw [List.all_eq_false]
  exact ⟨n, by simpa using h, by simp [ho]⟩
def isName (s : ByteArray) : Bool := decide (1 ≤ s.size) && decide (s.size ≤ 12) && okTo s s.size
/-- The first k below n with E k ≠ 0, and that error; (0, 0) if there is none. -/
def firstErr (E : Nat → Int) : Nat → Nat → Nat × Int
  | _, 0 => (0, 0)
  | k, n + 1 => if E k ≠ 0 then (k, E k) else firstErr E (k + 1) n
theorem firstErr_at {E : Nat → Int} {k n : Nat} (h : k < n) : firstErr E k (n - k) = if E k ≠ 0 then (k, E k) else firstErr E (k + 1) (n - (k + 1)) := by
  rw [show n - k = (n - (k + 1)) + 1 by omega, firstErr]
def checkL (n : Nat) (most : Int) (E : Nat → Int) : Nat × Int := if (n : Int) > most then (0, 8) else firstErr E 0 n

def sameS (a b : ByteArray) : Bool := a.toList == b.toList
theorem sameS_iff {a b : ByteArray} : sameS a b = true ↔ a = b := by
  unfold sameS
  rw [beq_iff_eq, toList_data, toList_data]
  constructor
  · intro h
    cases a
    cases b
    congr
    exact Array.toList_inj.1 h
  · exact fun h => by rw [h]
end Go.Proofs.YthbgghmjbaldlaaDoor

/-! QA: Walks on plain values: numbers, errors, names; texts of at most 1000 bytes. -/
namespace Go.Proofs.YthbgghmjbaldlaaDoor
open Go.RowKit
set_option maxRecDepth 100000
theorem p_within (n lo hi : Int) : VC Tryd.prog 69 [I n, I lo, I hi] (B (inR n lo hi)) := by
  refine VC_of Tryd.func69 rfl (by kernel_rfl) (by kernel_rfl) rfl fun M0 w0 => ?_
  simp only [Tryd.ntmps69, Tryd.results69, enumA]
  repeat' (first | (with_reducible first | refine vseq ?_ | refine vthenN ?_ | refine vthenE ?_ | refine vthenR ?_ | refine vret ?_ | refine vskip ?_ | refine vexit ?_ | refine vblock ?_ | refine vblockN ?_ | refine vblockR ?_ | refine vblockH ?_ | refine vrun_nil ?_ | refine vblockE rfl ?_ | refine vregion [] ?_ | refine vhrun_nil ?_) | ((with_reducible refine vcondT ?_ ?_); (focus (go_simp; done))) | ((with_reducible refine vcondF ?_ ?_); (focus (go_simp; done))) | ((with_reducible first | refine vrun_cons fun KK hKK => ?_ | refine vhrun_cons fun KK hKK => ?_); go_simp; refine hKK _ ?_; clear hKK KK) | ((with_reducible refine vcondS ?_ (fun ht => ?_) (fun ht => ?_)); (focus (go_simp; done)); (all_goals (simp [go_sem] at ht; replace ht := ht.out))) | ((apply vrun_consG0 rfl); (focus (go_simp <;> exact rfl)); (focus (go_simp; done)); (focus (intro hb0; replace hb0 := hb0.out; go_simp <;> (first | exact rfl))); intro KK hKK; go_simp; refine hKK _ ?_; clear hKK KK))
  all_goals (first | (go_simp; done) | (go_simp; first | (simp [inR, *]; done) | (simp [inR, *]; omega) | (simp [inR, ] at *; omega) | (rfl)))
theorem b_within (n lo hi : Int) : VC Tryd.prog 21 [I n, I lo, I hi] (B (inR n lo hi)) := by
  refine VC_of Tryd.func21 rfl (by kernel_rfl) (by kernel_rfl) rfl fun M0 w0 => ?_
  simp only [Tryd.ntmps21, Tryd.results21, enumA]
  repeat' (first | (with_reducible first | refine vseq ?_ | refine vthenN ?_ | refine vthenE ?_ | refine vthenR ?_ | refine vret ?_ | refine vskip ?_ | refine vexit ?_ | refine vblock ?_ | refine vblockN ?_ | refine vblockR ?_ | refine vblockH ?_ | refine vrun_nil ?_ | refine vblockE rfl ?_ | refine vregion [] ?_ | refine vhrun_nil ?_) | ((with_reducible refine vcondT ?_ ?_); (focus (go_simp; done))) | ((with_reducible refine vcondF ?_ ?_); (focus (go_simp; done))) | ((with_reducible first | refine vrun_cons fun KK hKK => ?_ | refine vhrun_cons fun KK hKK => ?_); go_simp; refine hKK _ ?_; clear hKK KK) | ((with_reducible refine vcondS ?_ (fun ht => ?_) (fun ht => ?_)); (focus (go_simp; done)); (all_goals (simp [go_sem] at ht; replace ht := ht.out))) | ((apply vrun_consG0 rfl); (focus (go_simp <;> exact rfl)); (focus (go_simp; done)); (focus (intro hb0; replace hb0 := hb0.out; go_simp <;> (first | exact rfl))); intro KK hKK; go_simp; refine hKK _ ?_; clear hKK KK))
  all_goals (first | (go_simp; done) | (go_simp; first | (simp [inR, *]; done) | (simp [inR, *]; omega) | (simp [inR, ] at *; omega) | (rfl)))
theorem p_unless (c : Bool) (e : Int) : VC Tryd.prog 66 [B c, I e] (I (unl c e)) := by
  refine VC_of Tryd.func66 rfl (by kernel_rfl) (by kernel_rfl) rfl fun M0 w0 => ?_
  simp only [Tryd.ntmps66, Tryd.results66, enumA]
  repeat' (first | (with_reducible first | refine vseq ?_ | refine vthenN ?_ | refine vthenE ?_ | refine vthenR ?_ | refine vret ?_ | refine vskip ?_ | refine vexit ?_ | refine vblock ?_ | refine vblockN ?_ | refine vblockR ?_ | refine vblockH ?_ | refine vrun_nil ?_ | refine vblockE rfl ?_ | refine vregion [] ?_ | refine vhrun_nil ?_) | ((with_reducible refine vcondT ?_ ?_); (focus (go_simp; done))) | ((with_reducible refine vcondF ?_ ?_); (focus (go_simp; done))) | ((with_reducible first | refine vrun_cons fun KK hKK => ?_ | refine vhrun_cons fun KK hKK => ?_); go_simp; refine hKK _ ?_; clear hKK KK) | ((with_reducible refine vcondS ?_ (fun ht => ?_) (fun ht => ?_)); (focus (go_simp; done)); (all_goals (simp [go_sem] at ht; replace ht := ht.out))))
  all_goals (first | (go_simp; done) | (go_simp; first | (simp [unl, *]; done) | (simp [unl, *]; omega) | (simp [unl, ] at *; omega) | (rfl)))
theorem p_isDate (n : Int) : VC Tryd.prog 96 [I n] (B (isDate n)) := by
  refine VC_of Tryd.func96 rfl (by kernel_rfl) (by kernel_rfl) rfl fun M0 w0 => ?_
  simp only [Tryd.ntmps96, Tryd.results96, enumA]
  repeat' (first | (with_reducible first | refine vseq ?_ | refine vthenN ?_ | refine vthenE ?_ | refine vthenR ?_ | refine vret ?_ | refine vskip ?_ | refine vexit ?_ | refine vblock ?_ | refine vblockN ?_ | refine vblockR ?_ | refine vblockH ?_ | refine vrun_nil ?_ | refine vblockE rfl ?_ | refine vregion [] ?_ | refine vhrun_nil ?_) | ((with_reducible refine vcondT ?_ ?_); (focus (go_simp; done))) | ((with_reducible refine vcondF ?_ ?_); (focus (go_simp; done))) | ((with_reducible first | refine vrun_cons fun KK hKK => ?_ | refine vhrun_cons fun KK hKK => ?_); go_simp; (first | (with_reducible refine ⟨_, p_within _ _ _, ?_⟩) | skip); refine hKK _ ?_; clear hKK KK) | ((with_reducible refine vcondS ?_ (fun ht => ?_) (fun ht => ?_)); (focus (go_simp; done)); (all_goals (simp [go_sem] at ht; replace ht := ht.out))))
  all_goals (first | (go_simp; done) | (go_simp; first | (simp [isDate, *]; done) | (simp [isDate, *]; omega) | (simp [isDate, ] at *; omega) | (rfl)))
theorem p_first (l : List Int) (hl : l.length ≤ 1000) : VC Tryd.prog 65 [.sl 1 (l.map intA)] (I (fst l)) := by
  obtain ⟨R, hR⟩ : ∃ R, fst l = R := ⟨_, rfl⟩
  rw [hR]
  have HR := Lib.hid hR
  clear hR
  refine VC_of Tryd.func65 rfl (by kernel_rfl) (by kernel_rfl) rfl fun M0 w0 => ?_
  simp only [Tryd.ntmps65, Tryd.results65, enumA]
  repeat (first | (with_reducible first | refine vseq ?_ | refine vthenN ?_ | refine vthenE ?_ | refine vthenR ?_ | refine vret ?_ | refine vskip ?_ | refine vexit ?_ | refine vblock ?_ | refine vblockN ?_ | refine vblockR ?_ | refine vblockH ?_ | refine vrun_nil ?_ | refine vblockE rfl ?_ | refine vregion [] ?_ | refine vhrun_nil ?_) | ((with_reducible refine vcondT ?_ ?_); (focus (go_simp; done))) | ((with_reducible refine vcondF ?_ ?_); (focus (go_simp; done))) | ((with_reducible first | refine vrun_cons fun KK hKK => ?_ | refine vhrun_cons fun KK hKK => ?_); go_simp; refine hKK _ ?_; clear hKK KK))
  refine vloop (α := Nat) (fun k => ⟨[(7, I k), (6, I l.length), (5, .sl 1 (l.map intA))], []⟩) (fun k => k ≤ l.length ∧ Hid (fst (l.drop k) = R)) (fun k => l.length - k) 0 ⟨by omega, by simpa using HR⟩ (by go_simp) ?_
  rintro k ⟨hk, hf⟩ K hR
  by_cases hlt : k < l.length
  · have hw := wrap_eq (x := (k : Int) + 1) (by omega) (by omega)
    have e := hf.out
    rw [List.drop_eq_getElem_cons hlt, fst] at e
    obtain ⟨x, hx⟩ : ∃ x, l[k] = x := ⟨_, rfl⟩
    rw [hx] at e
    have HE := Lib.hid e
    clear e
    by_cases c : x = 0
    · subst c
      repeat (first | (with_reducible first | refine vseq ?_ | refine vthenN ?_ | refine vthenE ?_ | refine vthenR ?_ | refine vret ?_ | refine vskip ?_ | refine vexit ?_ | refine vblock ?_ | refine vblockN ?_ | refine vblockR ?_ | refine vblockH ?_ | refine vrun_nil ?_ | refine vblockE rfl ?_ | refine vregion [] ?_ | refine vhrun_nil ?_) | ((with_reducible refine vcondT ?_ ?_); (focus (go_simp; done))) | ((with_reducible refine vcondF ?_ ?_); (focus (go_simp; done))) | ((with_reducible first | refine vrun_cons fun KK hKK => ?_ | refine vhrun_cons fun KK hKK => ?_); go_simp; refine hKK _ ?_; clear hKK KK))
      refine hR _ (k + 1) ⟨hlt, Lib.hid (by simpa using HE.out)⟩ (by omega) ?_
      go_simp
    · repeat (first | (with_reducible first | refine vseq ?_ | refine vthenN ?_ | refine vthenE ?_ | refine vthenR ?_ | refine vret ?_ | refine vskip ?_ | refine vexit ?_ | refine vblock ?_ | refine vblockN ?_ | refine vblockR ?_ | refine vblockH ?_ | refine vrun_nil ?_ | refine vblockE rfl ?_ | refine vregion [] ?_ | refine vhrun_nil ?_) | ((with_reducible refine vcondT ?_ ?_); (focus (go_simp; done))) | ((with_reducible refine vcondF ?_ ?_); (focus (go_simp; done))) | ((with_reducible first | refine vrun_cons fun KK hKK => ?_ | refine vhrun_cons fun KK hKK => ?_); go_simp; refine hKK _ ?_; clear hKK KK))
      have e := HE.out
      rw [if_pos c] at e
      subst e
      go_simp
  · repeat (first | (with_reducible first | refine vseq ?_ | refine vthenN ?_ | refine vthenE ?_ | refine vthenR ?_ | refine vret ?_ | refine vskip ?_ | refine vexit ?_ | refine vblock ?_ | refine vblockN ?_ | refine vblockR ?_ | refine vblockH ?_ | refine vrun_nil ?_ | refine vblockE rfl ?_ | refine vregion [] ?_ | refine vhrun_nil ?_) | ((with_reducible refine vcondT ?_ ?_); (focus (go_simp; done))) | ((with_reducible refine vcondF ?_ ?_); (focus (go_simp; done))) | ((with_reducible first | refine vrun_cons fun KK hKK => ?_ | refine vhrun_cons fun KK hKK => ?_); go_simp; refine hKK _ ?_; clear hKK KK))
    have e := hf.out
    rw [List.drop_eq_nil_of_le (by omega)] at e
    rw [show R = 0 from e.symm]
    go_simp
theorem p_isName (s : ByteArray) (hs : s.size ≤ 1000) : VC Tryd.prog 77 [S s] (B (isName s)) := by
  obtain ⟨R, hR⟩ : ∃ R, isName s = R := ⟨_, rfl⟩
  rw [hR]
  have HR := Lib.hid hR
  clear hR
  refine VC_of Tryd.func77 rfl (by kernel_rfl) (by kernel_rfl) rfl fun M0 w0 => ?_
  simp only [Tryd.ntmps77, Tryd.results77, enumA]
  repeat (first | (with_reducible first | refine vseq ?_ | refine vthenN ?_ | refine vthenE ?_ | refine vthenR ?_ | refine vret ?_ | refine vskip ?_ | refine vexit ?_ | refine vblock ?_ | refine vblockN ?_ | refine vblockR ?_ | refine vblockH ?_ | refine vrun_nil ?_ | refine vblockE rfl ?_ | refine vregion [] ?_ | refine vhrun_nil ?_) | ((with_reducible refine vcondT ?_ ?_); (focus (go_simp; done))) | ((with_reducible refine vcondF ?_ ?_); (focus (go_simp; done))) | ((with_reducible first | refine vrun_cons fun KK hKK => ?_ | refine vhrun_cons fun KK hKK => ?_); go_simp; refine hKK _ ?_; clear hKK KK))
  refine vloop (α := Nat) (fun k => ⟨[(9, I k), (8, I s.size), (7, .sl 1 ((List.range s.size).map fun i => [.lit (.int .u8 (byteAt s i).toNat)])), (0, S s)], []⟩) (fun k => k ≤ s.size ∧ Hid (okTo s k = true)) (fun k => s.size - k) 0 ⟨by omega, Lib.hid rfl⟩ (by go_simp) ?_
  rintro k ⟨hk, hf⟩ K hR
  by_cases hlt : k < s.size
  · have hw := wrap_eq (x := (k : Int) + 1) (by omega) (by omega)
    obtain ⟨x, hx⟩ : ∃ x : Int, ((byteAt s k).toNat : Int) = x := ⟨_, rfl⟩
    have HX := Lib.hid (okTo_succ s k)
    have hno : Hid (okChar k x = false → R = false) := Lib.hid fun h => by
      rw [← HR.out]
      unfold isName
      rw [okTo_no s hlt (by rw [hx]; exact h)]
      simp
    have hch : ((!decide (97 ≤ x) || !decide (x ≤ 122)) && (!decide (65 ≤ x) || !decide (x ≤ 90)) && (decide (k = 0) || !decide (x = 45) && (decide (x < 48) || decide (57 < x)))) = !okChar k x := by
      rw [Bool.eq_iff_iff]
      simp [okChar]
    have HC := Lib.hid hch
    have hok : Hid (okChar k x = true → okTo s (k + 1) = true) := Lib.hid fun h => by rw [HX.out, hf.out, hx, h]; rfl
    clear hch
    repeat' (first | (with_reducible first | refine vseq ?_ | refine vthenN ?_ | refine vthenE ?_ | refine vthenR ?_ | refine vret ?_ | refine vskip ?_ | refine vexit ?_ | refine vblock ?_ | refine vblockN ?_ | refine vblockR ?_ | refine vblockH ?_ | refine vrun_nil ?_ | refine vblockE rfl ?_ | refine vregion [] ?_ | refine vhrun_nil ?_) | ((with_reducible refine vcondT ?_ ?_); (focus (go_simp; done))) | ((with_reducible refine vcondF ?_ ?_); (focus (go_simp; done))) | ((with_reducible first | refine vrun_cons fun KK hKK => ?_ | refine vhrun_cons fun KK hKK => ?_); go_simp; refine hKK _ ?_; clear hKK KK) | ((with_reducible refine vcondS ?_ (fun ht => ?_) (fun ht => ?_)); (focus (go_simp; done)); (all_goals (simp [go_sem] at ht; replace ht := ht.out))) | ((apply vrun_consG0 rfl); (focus (go_simp <;> exact rfl)); (focus (go_simp; done)); (focus (intro hb0; replace hb0 := hb0.out; go_simp <;> (first | exact rfl))); intro KK hKK; go_simp; refine hKK _ ?_; clear hKK KK) | ((apply vrun_consG1 rfl); (focus (go_simp <;> exact rfl)); (focus (go_simp; done)); (focus (intro hb0 hb1; replace hb0 := hb0.out; replace hb1 := hb1.out; go_simp <;> (first | exact rfl))); intro KK hKK; go_simp; refine hKK _ ?_; clear hKK KK) | ((apply vrun_consG2 rfl); (focus (go_simp <;> exact rfl)); (focus (go_simp; done)); (focus (intro hb0 hb1 hb2; replace hb0 := hb0.out; replace hb1 := hb1.out; replace hb2 := hb2.out; go_simp <;> (first | exact rfl))); intro KK hKK; go_simp; refine hKK _ ?_; clear hKK KK) | ((apply vrun_consG3 rfl); (focus (go_simp <;> exact rfl)); (focus (go_simp; done)); (focus (intro hb0 hb1 hb2 hb3; replace hb0 := hb0.out; replace hb1 := hb1.out; replace hb2 := hb2.out; replace hb3 := hb3.out; go_simp <;> (first | exact rfl))); intro KK hKK; go_simp; refine hKK _ ?_; clear hKK KK))
    · rw [HC.out] at ht
      have e := hno.out (by simpa using ht)
      subst e
      go_simp
    · rw [HC.out] at ht
      refine hR _ (k + 1) ⟨hlt, Lib.hid (hok.out (by simpa using ht))⟩ (by omega) ?_
      go_simp
  · have hkk : k = s.size := by omega
    subst hkk
    have e : isName s = (decide (1 ≤ s.size) && decide (s.size ≤ 12)) := by unfold isName; rw [hf.out]; simp
    rw [HR.out] at e
    have he := Lib.hid e
    clear e
    repeat' (first | (with_reducible first | refine vseq ?_ | refine vthenN ?_ | refine vthenE ?_ | refine vthenR ?_ | refine vret ?_ | refine vskip ?_ | refine vexit ?_ | refine vblock ?_ | refine vblockN ?_ | refine vblockR ?_ | refine vblockH ?_ | refine vrun_nil ?_ | refine vblockE rfl ?_ | refine vregion [] ?_ | refine vhrun_nil ?_) | ((with_reducible refine vcondT ?_ ?_); (focus (go_simp; done))) | ((with_reducible refine vcondF ?_ ?_); (focus (go_simp; done))) | ((with_reducible first | refine vrun_cons fun KK hKK => ?_ | refine vhrun_cons fun KK hKK => ?_); go_simp; refine hKK _ ?_; clear hKK KK) | ((with_reducible refine vcondS ?_ (fun ht => ?_) (fun ht => ?_)); (focus (go_simp; done)); (all_goals (simp [go_sem] at ht; replace ht := ht.out))) | ((apply vrun_consG0 rfl); (focus (go_simp <;> exact rfl)); (focus (go_simp; done)); (focus (intro hb0; replace hb0 := hb0.out; go_simp <;> (first | exact rfl))); intro KK hKK; go_simp; refine hKK _ ?_; clear hKK KK) | ((apply vrun_consG1 rfl); (focus (go_simp <;> exact rfl)); (focus (go_simp; done)); (focus (intro hb0 hb1; replace hb0 := hb0.out; replace hb1 := hb1.out; go_simp <;> (first | exact rfl))); intro KK hKK; go_simp; refine hKK _ ?_; clear hKK KK) | ((apply vrun_consG2 rfl); (focus (go_simp <;> exact rfl)); (focus (go_simp; done)); (focus (intro hb0 hb1 hb2; replace hb0 := hb0.out; replace hb1 := hb1.out; replace hb2 := hb2.out; go_simp <;> (first | exact rfl))); intro KK hKK; go_simp; refine hKK _ ?_; clear hKK KK) | ((apply vrun_consG3 rfl); (focus (go_simp <;> exact rfl)); (focus (go_simp; done)); (focus (intro hb0 hb1 hb2 hb3; replace hb0 := hb0.out; replace hb1 := hb1.out; replace hb2 := hb2.out; replace hb3 := hb3.out; go_simp <;> (first | exact rfl))); intro KK hKK; go_simp; refine hKK _ ?_; clear hKK KK))
    rw [he.out]
    have hz : s.size = 0 → s = ByteArray.empty := fun h => by
      cases s
      rename_i a
      have : a = #[] := Array.eq_empty_of_size_eq_zero h
      rw [this]
      rfl
    have HZ := Lib.hid hz
    clear hz
    go_simp
    by_cases h0 : s = ByteArray.empty
    · subst h0
      rfl
    · have h1 : ¬ s.size = 0 := fun h => h0 (HZ.out h)
      have h2 : ¬ s = { data := #[] } := h0
      have h3 : (1 : Nat) ≤ s.size := by omega
      have h4 : decide ((s.size : Int) ≤ 12) = decide (s.size ≤ 12) := by
        rw [Bool.eq_iff_iff, decide_eq_true_eq, decide_eq_true_eq]
        omega
      rw [decide_eq_false h2, decide_eq_true h3, h4]
      rfl
theorem b_isName (s : ByteArray) (hs : s.size ≤ 9223372036854775807) : VC Tryd.prog 78 [S s] (B (isName s)) := by
  obtain ⟨R, hR⟩ : ∃ R, isName s = R := ⟨_, rfl⟩
  rw [hR]
  have HR := Lib.hid hR
  clear hR
  refine VC_of Tryd.func78 rfl (by kernel_rfl) (by kernel_rfl) rfl fun M0 w0 => ?_
  simp only [Tryd.ntmps78, Tryd.results78, enumA]
  by_cases h1 : s.size < 1 ∨ 12 < s.size
  · have e : R = false := by
      rw [← HR.out]
      unfold isName
      rcases h1 with h | h
      · rw [decide_eq_false (by omega)]; rfl
      · rw [show decide (s.size ≤ 12) = false from decide_eq_false (by omega)]; simp
    subst e
    have hb : (decide ((s.size : Int) < 1) || decide (12 < (s.size : Int))) = true := by simp; omega
    repeat' (first | (with_reducible first | refine vseq ?_ | refine vthenN ?_ | refine vthenE ?_ | refine vthenR ?_ | refine vret ?_ | refine vskip ?_ | refine vexit ?_ | refine vblock ?_ | refine vblockN ?_ | refine vblockR ?_ | refine vblockH ?_ | refine vrun_nil ?_ | refine vblockE rfl ?_ | refine vregion [] ?_ | refine vhrun_nil ?_) | ((with_reducible refine vcondT ?_ ?_); (focus (go_simp; done))) | ((with_reducible refine vcondF ?_ ?_); (focus (go_simp; done))) | ((with_reducible first | refine vrun_cons fun KK hKK => ?_ | refine vhrun_cons fun KK hKK => ?_); go_simp; refine hKK _ ?_; clear hKK KK) | ((with_reducible refine vcondS ?_ (fun ht => ?_) (fun ht => ?_)); (focus (go_simp; done)); (all_goals (simp [go_sem] at ht; replace ht := ht.out))) | ((apply vrun_consG0 rfl); (focus (go_simp <;> exact rfl)); (focus (go_simp; done)); (focus (intro hb0; replace hb0 := hb0.out; go_simp <;> (first | exact rfl))); intro KK hKK; go_simp; refine hKK _ ?_; clear hKK KK) | ((apply vrun_consG1 rfl); (focus (go_simp <;> exact rfl)); (focus (go_simp; done)); (focus (intro hb0 hb1; replace hb0 := hb0.out; replace hb1 := hb1.out; go_simp <;> (first | exact rfl))); intro KK hKK; go_simp; refine hKK _ ?_; clear hKK KK) | ((apply vrun_consG2 rfl); (focus (go_simp <;> exact rfl)); (focus (go_simp; done)); (focus (intro hb0 hb1 hb2; replace hb0 := hb0.out; replace hb1 := hb1.out; replace hb2 := hb2.out; go_simp <;> (first | exact rfl))); intro KK hKK; go_simp; refine hKK _ ?_; clear hKK KK) | ((apply vrun_consG3 rfl); (focus (go_simp <;> exact rfl)); (focus (go_simp; done)); (focus (intro hb0 hb1 hb2 hb3; replace hb0 := hb0.out; replace hb1 := hb1.out; replace hb2 := hb2.out; replace hb3 := hb3.out; go_simp <;> (first | exact rfl))); intro KK hKK; go_simp; refine hKK _ ?_; clear hKK KK))
    go_simp
  · have hb : (decide ((s.size : Int) < 1) || decide (12 < (s.size : Int))) = false := by simp; omega
    have hl1 : s.size ≤ 12 := by omega
    have e : isName s = okTo s s.size := by
      unfold isName
      rw [decide_eq_true (by omega), decide_eq_true hl1]
      rfl
    rw [HR.out] at e
    have HE := Lib.hid e
    clear e
    repeat' (first | (with_reducible first | refine vseq ?_ | refine vthenN ?_ | refine vthenE ?_ | refine vthenR ?_ | refine vret ?_ | refine vskip ?_ | refine vexit ?_ | refine vblock ?_ | refine vblockN ?_ | refine vblockR ?_ | refine vblockH ?_ | refine vrun_nil ?_ | refine vblockE rfl ?_ | refine vregion [] ?_ | refine vhrun_nil ?_) | ((with_reducible refine vcondT ?_ ?_); (focus (go_simp; done))) | ((with_reducible refine vcondF ?_ ?_); (focus (go_simp; done))) | ((with_reducible first | refine vrun_cons fun KK hKK => ?_ | refine vhrun_cons fun KK hKK => ?_); go_simp; refine hKK _ ?_; clear hKK KK) | ((with_reducible refine vcondS ?_ (fun ht => ?_) (fun ht => ?_)); (focus (go_simp; done)); (all_goals (simp [go_sem] at ht; replace ht := ht.out))) | ((apply vrun_consG0 rfl); (focus (go_simp <;> exact rfl)); (focus (go_simp; done)); (focus (intro hb0; replace hb0 := hb0.out; go_simp <;> (first | exact rfl))); intro KK hKK; go_simp; refine hKK _ ?_; clear hKK KK) | ((apply vrun_consG1 rfl); (focus (go_simp <;> exact rfl)); (focus (go_simp; done)); (focus (intro hb0 hb1; replace hb0 := hb0.out; replace hb1 := hb1.out; go_simp <;> (first | exact rfl))); intro KK hKK; go_simp; refine hKK _ ?_; clear hKK KK) | ((apply vrun_consG2 rfl); (focus (go_simp <;> exact rfl)); (focus (go_simp; done)); (focus (intro hb0 hb1 hb2; replace hb0 := hb0.out; replace hb1 := hb1.out; replace hb2 := hb2.out; go_simp <;> (first | exact rfl))); intro KK hKK; go_simp; refine hKK _ ?_; clear hKK KK) | ((apply vrun_consG3 rfl); (focus (go_simp <;> exact rfl)); (focus (go_simp; done)); (focus (intro hb0 hb1 hb2 hb3; replace hb0 := hb0.out; replace hb1 := hb1.out; replace hb2 := hb2.out; replace hb3 := hb3.out; go_simp <;> (first | exact rfl))); intro KK hKK; go_simp; refine hKK _ ?_; clear hKK KK))
    · clear hb
      refine vloop (α := Nat) (fun k => ⟨[(3, I k), (0, S s)], []⟩) (fun k => k ≤ s.size ∧ Hid (okTo s k = true)) (fun k => s.size - k) 0 ⟨by omega, Lib.hid rfl⟩ (by go_simp) ?_
      rintro k ⟨hk, hf⟩ K hR
      by_cases hlt : k < s.size
      · have hlt' : (k : Int) < s.size := by omega
        have hw := wrap_eq (x := (k : Int) + 1) (by omega) (by omega)
        obtain ⟨x, hx⟩ : ∃ x : Int, ((byteAt s k).toNat : Int) = x := ⟨_, rfl⟩
        have HX := Lib.hid (okTo_succ s k)
        have hno : Hid (okChar k x = false → R = false) := Lib.hid fun h => by
          rw [HE.out]
          exact okTo_no s hlt (by rw [hx]; exact h)
        have hch : ((!decide (97 ≤ x) || !decide (x ≤ 122)) && (!decide (65 ≤ x) || !decide (x ≤ 90)) && (decide (k = 0) || !decide (x = 45) && (decide (x < 48) || decide (57 < x)))) = !okChar k x := by
          rw [Bool.eq_iff_iff]
          simp [okChar]
        have HC := Lib.hid hch
        have hok : Hid (okChar k x = true → okTo s (k + 1) = true) := Lib.hid fun h => by rw [HX.out, hf.out, hx, h]; rfl
        clear hch
        repeat' (first | (with_reducible first | refine vseq ?_ | refine vthenN ?_ | refine vthenE ?_ | refine vthenR ?_ | refine vret ?_ | refine vskip ?_ | refine vexit ?_ | refine vblock ?_ | refine vblockN ?_ | refine vblockR ?_ | refine vblockH ?_ | refine vrun_nil ?_ | refine vblockE rfl ?_ | refine vregion [] ?_ | refine vhrun_nil ?_) | ((with_reducible refine vcondT ?_ ?_); (focus (go_simp; done))) | ((with_reducible refine vcondF ?_ ?_); (focus (go_simp; done))) | ((with_reducible first | refine vrun_cons fun KK hKK => ?_ | refine vhrun_cons fun KK hKK => ?_); go_simp; refine hKK _ ?_; clear hKK KK) | ((with_reducible refine vcondS ?_ (fun ht => ?_) (fun ht => ?_)); (focus (go_simp; done)); (all_goals (simp [go_sem] at ht; replace ht := ht.out))) | ((apply vrun_consG0 rfl); (focus (go_simp <;> exact rfl)); (focus (go_simp; done)); (focus (intro hb0; replace hb0 := hb0.out; go_simp <;> (first | exact rfl))); intro KK hKK; go_simp; refine hKK _ ?_; clear hKK KK) | ((apply vrun_consG1 rfl); (focus (go_simp <;> exact rfl)); (focus (go_simp; done)); (focus (intro hb0 hb1; replace hb0 := hb0.out; replace hb1 := hb1.out; go_simp <;> (first | exact rfl))); intro KK hKK; go_simp; refine hKK _ ?_; clear hKK KK) | ((apply vrun_consG2 rfl); (focus (go_simp <;> exact rfl)); (focus (go_simp; done)); (focus (intro hb0 hb1 hb2; replace hb0 := hb0.out; replace hb1 := hb1.out; replace hb2 := hb2.out; go_simp <;> (first | exact rfl))); intro KK hKK; go_simp; refine hKK _ ?_; clear hKK KK) | ((apply vrun_consG3 rfl); (focus (go_simp <;> exact rfl)); (focus (go_simp; done)); (focus (intro hb0 hb1 hb2 hb3; replace hb0 := hb0.out; replace hb1 := hb1.out; replace hb2 := hb2.out; replace hb3 := hb3.out; go_simp <;> (first | exact rfl))); intro KK hKK; go_simp; refine hKK _ ?_; clear hKK KK))
        · rw [HC.out] at ht
          have e := hno.out (by simpa using ht)
          subst e
          go_simp
        · rw [HC.out] at ht
          refine hR _ (k + 1) ⟨hlt, Lib.hid (hok.out (by simpa using ht))⟩ (by omega) ?_
          go_simp
      · have hkk : k = s.size := by omega
        subst hkk
        repeat' (first | (with_reducible first | refine vseq ?_ | refine vthenN ?_ | refine vthenE ?_ | refine vthenR ?_ | refine vret ?_ | refine vskip ?_ | refine vexit ?_ | refine vblock ?_ | refine vblockN ?_ | refine vblockR ?_ | refine vblockH ?_ | refine vrun_nil ?_ | refine vblockE rfl ?_ | refine vregion [] ?_ | refine vhrun_nil ?_) | ((with_reducible refine vcondT ?_ ?_); (focus (go_simp; done))) | ((with_reducible refine vcondF ?_ ?_); (focus (go_simp; done))) | ((with_reducible first | refine vrun_cons fun KK hKK => ?_ | refine vhrun_cons fun KK hKK => ?_); go_simp; refine hKK _ ?_; clear hKK KK) | ((with_reducible refine vcondS ?_ (fun ht => ?_) (fun ht => ?_)); (focus (go_simp; done)); (all_goals (simp [go_sem] at ht; replace ht := ht.out))) | ((apply vrun_consG0 rfl); (focus (go_simp <;> exact rfl)); (focus (go_simp; done)); (focus (intro hb0; replace hb0 := hb0.out; go_simp <;> (first | exact rfl))); intro KK hKK; go_simp; refine hKK _ ?_; clear hKK KK) | ((apply vrun_consG1 rfl); (focus (go_simp <;> exact rfl)); (focus (go_simp; done)); (focus (intro hb0 hb1; replace hb0 := hb0.out; replace hb1 := hb1.out; go_simp <;> (first | exact rfl))); intro KK hKK; go_simp; refine hKK _ ?_; clear hKK KK) | ((apply vrun_consG2 rfl); (focus (go_simp <;> exact rfl)); (focus (go_simp; done)); (focus (intro hb0 hb1 hb2; replace hb0 := hb0.out; replace hb1 := hb1.out; replace hb2 := hb2.out; go_simp <;> (first | exact rfl))); intro KK hKK; go_simp; refine hKK _ ?_; clear hKK KK) | ((apply vrun_consG3 rfl); (focus (go_simp <;> exact rfl)); (focus (go_simp; done)); (focus (intro hb0 hb1 hb2 hb3; replace hb0 := hb0.out; replace hb1 := hb1.out; replace hb2 := hb2.out; replace hb3 := hb3.out; go_simp <;> (first | exact rfl))); intro KK hKK; go_simp; refine hKK _ ?_; clear hKK KK))
        rw [HE.out, hf.out]
        go_simp
end Go.Proofs.YthbgghmjbaldlaaDoor
