/- Texts in one: What the types of the program are; no condition. -/
import Derived.Test.YtmfmpagfjgpodaaMS4
import Derived.Test.YtmfmpagfjgpodaaProg
/-! VT: What the types of the program are; no condition. -/
namespace Go.Proofs.Ytmfmpagfjgpodaa
open Go.RowKit
@[go_sem] theorem eq55 : eqInfo Try.prog 55 = some [(0, 5), (1, 5)] := by kernel_rfl
@[go_sem] theorem eq57 : eqInfo Try.prog 57 = some [(0, 4), (1, 5), (2, 5)] := by kernel_rfl
@[go_sem] theorem eq60 : eqInfo Try.prog 60 = some [(0, 5), (1, 5)] := by kernel_rfl
@[go_sem] theorem eq143 : eqInfo Try.prog 143 = some [(0, 4), (1, 5), (2, 5)] := by kernel_rfl
@[go_sem] theorem ti1 : tinfo Try.prog 1 = some ⟨8, 1, 8, 0, 1, 0, .i64, [], [.nilFunc]⟩ := by kernel_rfl
@[go_sem] theorem ti2 : tinfo Try.prog 2 = some ⟨5, 1, 8, 0, 1, 0, .i64, [], [.int .i64 0]⟩ := by kernel_rfl
@[go_sem] theorem ti3 : tinfo Try.prog 3 = some ⟨5, 1, 8, 0, 1, 0, .i64, [], [.int .i64 0]⟩ := by kernel_rfl
@[go_sem] theorem ti4 : tinfo Try.prog 4 = some ⟨6, 1, 1, 0, 1, 0, .i64, [], [.bool false]⟩ := by kernel_rfl
@[go_sem] theorem ti5 : tinfo Try.prog 5 = some ⟨5, 1, 1, 0, 1, 0, .u8, [], [.int .u8 0]⟩ := by kernel_rfl
@[go_sem] theorem ti6 : tinfo Try.prog 6 = some ⟨5, 1, 1, 0, 1, 0, .u8, [], [.int .u8 0]⟩ := by kernel_rfl
@[go_sem] theorem ti7 : tinfo Try.prog 7 = some ⟨3, 4, 24, 0, 1, 0, .i64, [(0, 1, false), (1, 1, false), (2, 1, false), (3, 1, false)], [.int .i64 0, .int .i64 0, .bool false, .int .u8 0]⟩ := by kernel_rfl
@[go_sem] theorem ti8 : tinfo Try.prog 8 = some ⟨3, 4, 24, 0, 1, 0, .i64, [(0, 1, false), (1, 1, false), (2, 1, false), (3, 1, false)], [.int .i64 0, .int .i64 0, .bool false, .int .u8 0]⟩ := by kernel_rfl
@[go_sem] theorem ti9 : tinfo Try.prog 9 = some ⟨4, 1, 16, 0, 1, 0, .i64, [], [.string ⟨#[]⟩]⟩ := by kernel_rfl
@[go_sem] theorem ti10 : tinfo Try.prog 10 = some ⟨4, 1, 16, 0, 1, 0, .i64, [], [.string ⟨#[]⟩]⟩ := by kernel_rfl
@[go_sem] theorem ti11 : tinfo Try.prog 11 = some ⟨4, 1, 16, 0, 1, 0, .i64, [], [.string ⟨#[]⟩]⟩ := by kernel_rfl
@[go_sem] theorem ti12 : tinfo Try.prog 12 = some ⟨5, 1, 8, 0, 1, 0, .u64, [], [.int .u64 0]⟩ := by kernel_rfl
@[go_sem] theorem ti13 : tinfo Try.prog 13 = some ⟨3, 2, 24, 0, 1, 0, .i64, [(0, 1, false), (1, 1, false)], [.string ⟨#[]⟩, .int .u64 0]⟩ := by kernel_rfl
@[go_sem] theorem ti14 : tinfo Try.prog 14 = some ⟨3, 2, 24, 0, 1, 0, .i64, [(0, 1, false), (1, 1, false)], [.string ⟨#[]⟩, .int .u64 0]⟩ := by kernel_rfl
@[go_sem] theorem ti15 : tinfo Try.prog 15 = some ⟨7, 1, 8, 219, 4, 0, .i64, [], [.pointer none]⟩ := by kernel_rfl
@[go_sem] theorem ti16 : tinfo Try.prog 16 = some ⟨7, 1, 8, 222, 0, 0, .i64, [], [.pointer none]⟩ := by kernel_rfl
@[go_sem] theorem ti17 : tinfo Try.prog 17 = some ⟨7, 1, 8, 230, 11, 0, .i64, [], [.pointer none]⟩ := by kernel_rfl
@[go_sem] theorem ti18 : tinfo Try.prog 18 = some ⟨3, 1, 8, 0, 1, 0, .i64, [(0, 1, false)], [.pointer none]⟩ := by kernel_rfl
@[go_sem] theorem ti19 : tinfo Try.prog 19 = some ⟨3, 1, 8, 0, 1, 0, .i64, [(0, 1, false)], [.pointer none]⟩ := by kernel_rfl
@[go_sem] theorem ti20 : tinfo Try.prog 20 = some ⟨9, 1, 16, 0, 1, 0, .i64, [], [.nilIface]⟩ := by kernel_rfl
@[go_sem] theorem ti21 : tinfo Try.prog 21 = some ⟨5, 1, 4, 0, 1, 0, .i32, [], [.int .i32 0]⟩ := by kernel_rfl
@[go_sem] theorem ti22 : tinfo Try.prog 22 = some ⟨1, 1, 24, 57, 3, 0, .i64, [], [.slice none 0 0]⟩ := by kernel_rfl
@[go_sem] theorem ti23 : tinfo Try.prog 23 = some ⟨2, 3, 24, 3, 1, 3, .i64, [], [.int .i64 0, .int .i64 0, .int .i64 0]⟩ := by kernel_rfl
@[go_sem] theorem ti24 : tinfo Try.prog 24 = some ⟨8, 1, 8, 0, 1, 0, .i64, [], [.nilFunc]⟩ := by kernel_rfl
@[go_sem] theorem ti25 : tinfo Try.prog 25 = some ⟨8, 1, 8, 0, 1, 0, .i64, [], [.nilFunc]⟩ := by kernel_rfl
@[go_sem] theorem ti26 : tinfo Try.prog 26 = some ⟨5, 1, 8, 0, 1, 0, .i64, [], [.int .i64 0]⟩ := by kernel_rfl
@[go_sem] theorem ti28 : tinfo Try.prog 28 = some ⟨8, 1, 8, 0, 1, 0, .i64, [], [.nilFunc]⟩ := by kernel_rfl
@[go_sem] theorem ti29 : tinfo Try.prog 29 = some ⟨8, 1, 8, 0, 1, 0, .i64, [], [.nilFunc]⟩ := by kernel_rfl
@[go_sem] theorem ti30 : tinfo Try.prog 30 = some ⟨8, 1, 8, 0, 1, 0, .i64, [], [.nilFunc]⟩ := by kernel_rfl
@[go_sem] theorem ti31 : tinfo Try.prog 31 = some ⟨8, 1, 8, 0, 1, 0, .i64, [], [.nilFunc]⟩ := by kernel_rfl
@[go_sem] theorem ti32 : tinfo Try.prog 32 = some ⟨8, 1, 8, 0, 1, 0, .i64, [], [.nilFunc]⟩ := by kernel_rfl
@[go_sem] theorem ti33 : tinfo Try.prog 33 = some ⟨8, 1, 8, 0, 1, 0, .i64, [], [.nilFunc]⟩ := by kernel_rfl
@[go_sem] theorem ti34 : tinfo Try.prog 34 = some ⟨3, 5, 40, 0, 1, 0, .i64, [(0, 1, false), (1, 1, false), (2, 1, false), (3, 1, false), (4, 1, false)], [.int .i64 0, .int .i64 0, .int .i64 0, .int .i64 0, .int .i64 0]⟩ := by kernel_rfl
@[go_sem] theorem ti35 : tinfo Try.prog 35 = some ⟨3, 5, 40, 0, 1, 0, .i64, [(0, 1, false), (1, 1, false), (2, 1, false), (3, 1, false), (4, 1, false)], [.int .i64 0, .int .i64 0, .int .i64 0, .int .i64 0, .int .i64 0]⟩ := by kernel_rfl
@[go_sem] theorem ti36 : tinfo Try.prog 36 = some ⟨3, 2, 16, 0, 1, 0, .i64, [(0, 1, false), (1, 1, false)], [.int .i64 0, .int .i64 0]⟩ := by kernel_rfl
@[go_sem] theorem ti37 : tinfo Try.prog 37 = some ⟨3, 2, 16, 0, 1, 0, .i64, [(0, 1, false), (1, 1, false)], [.int .i64 0, .int .i64 0]⟩ := by kernel_rfl
@[go_sem] theorem ti38 : tinfo Try.prog 38 = some ⟨3, 4, 32, 0, 1, 0, .i64, [(0, 1, false), (1, 2, true), (3, 1, false)], [.int .i64 0, .int .i64 0, .int .i64 0, .int .i64 0]⟩ := by kernel_rfl
@[go_sem] theorem ti39 : tinfo Try.prog 39 = some ⟨3, 4, 32, 0, 1, 0, .i64, [(0, 1, false), (1, 2, true), (3, 1, false)], [.int .i64 0, .int .i64 0, .int .i64 0, .int .i64 0]⟩ := by kernel_rfl
@[go_sem] theorem ti41 : tinfo Try.prog 41 = some ⟨8, 1, 8, 0, 1, 0, .i64, [], [.nilFunc]⟩ := by kernel_rfl
@[go_sem] theorem ti42 : tinfo Try.prog 42 = some ⟨8, 1, 8, 0, 1, 0, .i64, [], [.nilFunc]⟩ := by kernel_rfl
@[go_sem] theorem ti44 : tinfo Try.prog 44 = some ⟨8, 1, 8, 0, 1, 0, .i64, [], [.nilFunc]⟩ := by kernel_rfl
@[go_sem] theorem ti45 : tinfo Try.prog 45 = some ⟨8, 1, 8, 0, 1, 0, .i64, [], [.nilFunc]⟩ := by kernel_rfl
@[go_sem] theorem ti46 : tinfo Try.prog 46 = some ⟨8, 1, 8, 0, 1, 0, .i64, [], [.nilFunc]⟩ := by kernel_rfl
@[go_sem] theorem ti47 : tinfo Try.prog 47 = some ⟨8, 1, 8, 0, 1, 0, .i64, [], [.nilFunc]⟩ := by kernel_rfl
@[go_sem] theorem ti48 : tinfo Try.prog 48 = some ⟨8, 1, 8, 0, 1, 0, .i64, [], [.nilFunc]⟩ := by kernel_rfl
@[go_sem] theorem ti49 : tinfo Try.prog 49 = some ⟨1, 1, 24, 55, 2, 0, .i64, [], [.slice none 0 0]⟩ := by kernel_rfl
@[go_sem] theorem ti51 : tinfo Try.prog 51 = some ⟨8, 1, 8, 0, 1, 0, .i64, [], [.nilFunc]⟩ := by kernel_rfl
@[go_sem] theorem ti52 : tinfo Try.prog 52 = some ⟨8, 1, 8, 0, 1, 0, .i64, [], [.nilFunc]⟩ := by kernel_rfl
@[go_sem] theorem ti53 : tinfo Try.prog 53 = some ⟨8, 1, 8, 0, 1, 0, .i64, [], [.nilFunc]⟩ := by kernel_rfl
@[go_sem] theorem ti54 : tinfo Try.prog 54 = some ⟨8, 1, 8, 0, 1, 0, .i64, [], [.nilFunc]⟩ := by kernel_rfl
@[go_sem] theorem ti55 : tinfo Try.prog 55 = some ⟨2, 2, 16, 3, 1, 2, .i64, [], [.int .i64 0, .int .i64 0]⟩ := by kernel_rfl
@[go_sem] theorem ti56 : tinfo Try.prog 56 = some ⟨3, 3, 32, 0, 1, 0, .i64, [(0, 1, false), (1, 1, false), (2, 1, false)], [.string ⟨#[]⟩, .int .i64 0, .int .i64 0]⟩ := by kernel_rfl
@[go_sem] theorem ti57 : tinfo Try.prog 57 = some ⟨3, 3, 32, 0, 1, 0, .i64, [(0, 1, false), (1, 1, false), (2, 1, false)], [.string ⟨#[]⟩, .int .i64 0, .int .i64 0]⟩ := by kernel_rfl
@[go_sem] theorem ti58 : tinfo Try.prog 58 = some ⟨8, 1, 8, 0, 1, 0, .i64, [], [.nilFunc]⟩ := by kernel_rfl
@[go_sem] theorem ti59 : tinfo Try.prog 59 = some ⟨3, 2, 16, 0, 1, 0, .i64, [(0, 1, false), (1, 1, false)], [.int .i64 0, .int .i64 0]⟩ := by kernel_rfl
@[go_sem] theorem ti60 : tinfo Try.prog 60 = some ⟨3, 2, 16, 0, 1, 0, .i64, [(0, 1, false), (1, 1, false)], [.int .i64 0, .int .i64 0]⟩ := by kernel_rfl
@[go_sem] theorem ti62 : tinfo Try.prog 62 = some ⟨8, 1, 8, 0, 1, 0, .i64, [], [.nilFunc]⟩ := by kernel_rfl
@[go_sem] theorem ti63 : tinfo Try.prog 63 = some ⟨8, 1, 8, 0, 1, 0, .i64, [], [.nilFunc]⟩ := by kernel_rfl
@[go_sem] theorem ti64 : tinfo Try.prog 64 = some ⟨3, 5, 40, 0, 1, 0, .i64, [(0, 4, true), (4, 1, false)], [.int .i64 0, .int .i64 0, .int .i64 0, .int .i64 0, .int .i64 0]⟩ := by kernel_rfl
@[go_sem] theorem ti65 : tinfo Try.prog 65 = some ⟨3, 5, 40, 0, 1, 0, .i64, [(0, 4, true), (4, 1, false)], [.int .i64 0, .int .i64 0, .int .i64 0, .int .i64 0, .int .i64 0]⟩ := by kernel_rfl
@[go_sem] theorem ti66 : tinfo Try.prog 66 = some ⟨8, 1, 8, 0, 1, 0, .i64, [], [.nilFunc]⟩ := by kernel_rfl
@[go_sem] theorem ti67 : tinfo Try.prog 67 = some ⟨8, 1, 8, 0, 1, 0, .i64, [], [.nilFunc]⟩ := by kernel_rfl
@[go_sem] theorem ti68 : tinfo Try.prog 68 = some ⟨8, 1, 8, 0, 1, 0, .i64, [], [.nilFunc]⟩ := by kernel_rfl
@[go_sem] theorem ti69 : tinfo Try.prog 69 = some ⟨8, 1, 8, 0, 1, 0, .i64, [], [.nilFunc]⟩ := by kernel_rfl
@[go_sem] theorem ti70 : tinfo Try.prog 70 = some ⟨1, 1, 24, 143, 3, 0, .i64, [], [.slice none 0 0]⟩ := by kernel_rfl
@[go_sem] theorem ti71 : tinfo Try.prog 71 = some ⟨1, 1, 24, 9, 1, 0, .i64, [], [.slice none 0 0]⟩ := by kernel_rfl
@[go_sem] theorem ti72 : tinfo Try.prog 72 = some ⟨8, 1, 8, 0, 1, 0, .i64, [], [.nilFunc]⟩ := by kernel_rfl
@[go_sem] theorem ti74 : tinfo Try.prog 74 = some ⟨8, 1, 8, 0, 1, 0, .i64, [], [.nilFunc]⟩ := by kernel_rfl
@[go_sem] theorem ti75 : tinfo Try.prog 75 = some ⟨8, 1, 8, 0, 1, 0, .i64, [], [.nilFunc]⟩ := by kernel_rfl
@[go_sem] theorem ti76 : tinfo Try.prog 76 = some ⟨8, 1, 8, 0, 1, 0, .i64, [], [.nilFunc]⟩ := by kernel_rfl
@[go_sem] theorem ti77 : tinfo Try.prog 77 = some ⟨8, 1, 8, 0, 1, 0, .i64, [], [.nilFunc]⟩ := by kernel_rfl
@[go_sem] theorem ti78 : tinfo Try.prog 78 = some ⟨8, 1, 8, 0, 1, 0, .i64, [], [.nilFunc]⟩ := by kernel_rfl
@[go_sem] theorem ti79 : tinfo Try.prog 79 = some ⟨8, 1, 8, 0, 1, 0, .i64, [], [.nilFunc]⟩ := by kernel_rfl
@[go_sem] theorem ti80 : tinfo Try.prog 80 = some ⟨8, 1, 8, 0, 1, 0, .i64, [], [.nilFunc]⟩ := by kernel_rfl
@[go_sem] theorem ti81 : tinfo Try.prog 81 = some ⟨8, 1, 8, 0, 1, 0, .i64, [], [.nilFunc]⟩ := by kernel_rfl
@[go_sem] theorem ti83 : tinfo Try.prog 83 = some ⟨8, 1, 8, 0, 1, 0, .i64, [], [.nilFunc]⟩ := by kernel_rfl
@[go_sem] theorem ti84 : tinfo Try.prog 84 = some ⟨8, 1, 8, 0, 1, 0, .i64, [], [.nilFunc]⟩ := by kernel_rfl
@[go_sem] theorem ti85 : tinfo Try.prog 85 = some ⟨8, 1, 8, 0, 1, 0, .i64, [], [.nilFunc]⟩ := by kernel_rfl
@[go_sem] theorem ti86 : tinfo Try.prog 86 = some ⟨8, 1, 8, 0, 1, 0, .i64, [], [.nilFunc]⟩ := by kernel_rfl
@[go_sem] theorem ti87 : tinfo Try.prog 87 = some ⟨1, 1, 24, 3, 1, 0, .i64, [], [.slice none 0 0]⟩ := by kernel_rfl
@[go_sem] theorem ti89 : tinfo Try.prog 89 = some ⟨8, 1, 8, 0, 1, 0, .i64, [], [.nilFunc]⟩ := by kernel_rfl
@[go_sem] theorem ti90 : tinfo Try.prog 90 = some ⟨8, 1, 8, 0, 1, 0, .i64, [], [.nilFunc]⟩ := by kernel_rfl
@[go_sem] theorem ti91 : tinfo Try.prog 91 = some ⟨8, 1, 8, 0, 1, 0, .i64, [], [.nilFunc]⟩ := by kernel_rfl
@[go_sem] theorem ti92 : tinfo Try.prog 92 = some ⟨8, 1, 8, 0, 1, 0, .i64, [], [.nilFunc]⟩ := by kernel_rfl
@[go_sem] theorem ti93 : tinfo Try.prog 93 = some ⟨8, 1, 8, 0, 1, 0, .i64, [], [.nilFunc]⟩ := by kernel_rfl
@[go_sem] theorem ti94 : tinfo Try.prog 94 = some ⟨8, 1, 8, 0, 1, 0, .i64, [], [.nilFunc]⟩ := by kernel_rfl
@[go_sem] theorem ti95 : tinfo Try.prog 95 = some ⟨8, 1, 8, 0, 1, 0, .i64, [], [.nilFunc]⟩ := by kernel_rfl
@[go_sem] theorem ti96 : tinfo Try.prog 96 = some ⟨1, 1, 24, 101, 4, 0, .i64, [], [.slice none 0 0]⟩ := by kernel_rfl
@[go_sem] theorem ti97 : tinfo Try.prog 97 = some ⟨3, 6, 64, 0, 1, 0, .i64, [(0, 5, true), (5, 1, false)], [.int .i64 0, .int .i64 0, .int .i64 0, .int .i64 0, .int .i64 0, .slice none 0 0]⟩ := by kernel_rfl
@[go_sem] theorem ti98 : tinfo Try.prog 98 = some ⟨3, 6, 64, 0, 1, 0, .i64, [(0, 5, true), (5, 1, false)], [.int .i64 0, .int .i64 0, .int .i64 0, .int .i64 0, .int .i64 0, .slice none 0 0]⟩ := by kernel_rfl
@[go_sem] theorem ti99 : tinfo Try.prog 99 = some ⟨8, 1, 8, 0, 1, 0, .i64, [], [.nilFunc]⟩ := by kernel_rfl
@[go_sem] theorem ti100 : tinfo Try.prog 100 = some ⟨3, 4, 32, 0, 1, 0, .i64, [(0, 1, false), (1, 2, true), (3, 1, false)], [.int .i64 0, .int .i64 0, .int .i64 0, .int .i64 0]⟩ := by kernel_rfl
@[go_sem] theorem ti101 : tinfo Try.prog 101 = some ⟨3, 4, 32, 0, 1, 0, .i64, [(0, 1, false), (1, 2, true), (3, 1, false)], [.int .i64 0, .int .i64 0, .int .i64 0, .int .i64 0]⟩ := by kernel_rfl
@[go_sem] theorem ti102 : tinfo Try.prog 102 = some ⟨8, 1, 8, 0, 1, 0, .i64, [], [.nilFunc]⟩ := by kernel_rfl
@[go_sem] theorem ti104 : tinfo Try.prog 104 = some ⟨8, 1, 8, 0, 1, 0, .i64, [], [.nilFunc]⟩ := by kernel_rfl
@[go_sem] theorem ti106 : tinfo Try.prog 106 = some ⟨8, 1, 8, 0, 1, 0, .i64, [], [.nilFunc]⟩ := by kernel_rfl
@[go_sem] theorem ti107 : tinfo Try.prog 107 = some ⟨8, 1, 8, 0, 1, 0, .i64, [], [.nilFunc]⟩ := by kernel_rfl
@[go_sem] theorem ti108 : tinfo Try.prog 108 = some ⟨1, 1, 24, 120, 3, 0, .i64, [], [.slice none 0 0]⟩ := by kernel_rfl
@[go_sem] theorem ti109 : tinfo Try.prog 109 = some ⟨3, 2, 32, 0, 1, 0, .i64, [(0, 1, false), (1, 1, false)], [.slice none 0 0, .int .i64 0]⟩ := by kernel_rfl
@[go_sem] theorem ti110 : tinfo Try.prog 110 = some ⟨3, 2, 32, 0, 1, 0, .i64, [(0, 1, false), (1, 1, false)], [.slice none 0 0, .int .i64 0]⟩ := by kernel_rfl
@[go_sem] theorem ti111 : tinfo Try.prog 111 = some ⟨8, 1, 8, 0, 1, 0, .i64, [], [.nilFunc]⟩ := by kernel_rfl
@[go_sem] theorem ti113 : tinfo Try.prog 113 = some ⟨8, 1, 8, 0, 1, 0, .i64, [], [.nilFunc]⟩ := by kernel_rfl
@[go_sem] theorem ti114 : tinfo Try.prog 114 = some ⟨8, 1, 8, 0, 1, 0, .i64, [], [.nilFunc]⟩ := by kernel_rfl
@[go_sem] theorem ti115 : tinfo Try.prog 115 = some ⟨8, 1, 8, 0, 1, 0, .i64, [], [.nilFunc]⟩ := by kernel_rfl
@[go_sem] theorem ti116 : tinfo Try.prog 116 = some ⟨8, 1, 8, 0, 1, 0, .i64, [], [.nilFunc]⟩ := by kernel_rfl
@[go_sem] theorem ti117 : tinfo Try.prog 117 = some ⟨8, 1, 8, 0, 1, 0, .i64, [], [.nilFunc]⟩ := by kernel_rfl
@[go_sem] theorem ti118 : tinfo Try.prog 118 = some ⟨8, 1, 8, 0, 1, 0, .i64, [], [.nilFunc]⟩ := by kernel_rfl
@[go_sem] theorem ti119 : tinfo Try.prog 119 = some ⟨3, 3, 32, 0, 1, 0, .i64, [(0, 1, false), (1, 1, false), (2, 1, false)], [.string ⟨#[]⟩, .int .i64 0, .int .i64 0]⟩ := by kernel_rfl
@[go_sem] theorem ti120 : tinfo Try.prog 120 = some ⟨3, 3, 32, 0, 1, 0, .i64, [(0, 1, false), (1, 1, false), (2, 1, false)], [.string ⟨#[]⟩, .int .i64 0, .int .i64 0]⟩ := by kernel_rfl
@[go_sem] theorem ti121 : tinfo Try.prog 121 = some ⟨8, 1, 8, 0, 1, 0, .i64, [], [.nilFunc]⟩ := by kernel_rfl
@[go_sem] theorem ti122 : tinfo Try.prog 122 = some ⟨1, 1, 24, 5, 1, 0, .i64, [], [.slice none 0 0]⟩ := by kernel_rfl
@[go_sem] theorem ti123 : tinfo Try.prog 123 = some ⟨8, 1, 8, 0, 1, 0, .i64, [], [.nilFunc]⟩ := by kernel_rfl
@[go_sem] theorem ti124 : tinfo Try.prog 124 = some ⟨8, 1, 8, 0, 1, 0, .i64, [], [.nilFunc]⟩ := by kernel_rfl
@[go_sem] theorem ti125 : tinfo Try.prog 125 = some ⟨8, 1, 8, 0, 1, 0, .i64, [], [.nilFunc]⟩ := by kernel_rfl
@[go_sem] theorem ti126 : tinfo Try.prog 126 = some ⟨8, 1, 8, 0, 1, 0, .i64, [], [.nilFunc]⟩ := by kernel_rfl
@[go_sem] theorem ti127 : tinfo Try.prog 127 = some ⟨8, 1, 8, 0, 1, 0, .i64, [], [.nilFunc]⟩ := by kernel_rfl
@[go_sem] theorem ti128 : tinfo Try.prog 128 = some ⟨8, 1, 8, 0, 1, 0, .i64, [], [.nilFunc]⟩ := by kernel_rfl
@[go_sem] theorem ti129 : tinfo Try.prog 129 = some ⟨8, 1, 8, 0, 1, 0, .i64, [], [.nilFunc]⟩ := by kernel_rfl
@[go_sem] theorem ti130 : tinfo Try.prog 130 = some ⟨8, 1, 8, 0, 1, 0, .i64, [], [.nilFunc]⟩ := by kernel_rfl
@[go_sem] theorem ti131 : tinfo Try.prog 131 = some ⟨3, 6, 64, 0, 1, 0, .i64, [(0, 5, true), (5, 1, false)], [.int .i64 0, .int .i64 0, .int .i64 0, .int .i64 0, .int .i64 0, .slice none 0 0]⟩ := by kernel_rfl
@[go_sem] theorem ti132 : tinfo Try.prog 132 = some ⟨3, 6, 64, 0, 1, 0, .i64, [(0, 5, true), (5, 1, false)], [.int .i64 0, .int .i64 0, .int .i64 0, .int .i64 0, .int .i64 0, .slice none 0 0]⟩ := by kernel_rfl
@[go_sem] theorem ti134 : tinfo Try.prog 134 = some ⟨8, 1, 8, 0, 1, 0, .i64, [], [.nilFunc]⟩ := by kernel_rfl
@[go_sem] theorem ti135 : tinfo Try.prog 135 = some ⟨8, 1, 8, 0, 1, 0, .i64, [], [.nilFunc]⟩ := by kernel_rfl
@[go_sem] theorem ti136 : tinfo Try.prog 136 = some ⟨8, 1, 8, 0, 1, 0, .i64, [], [.nilFunc]⟩ := by kernel_rfl
@[go_sem] theorem ti137 : tinfo Try.prog 137 = some ⟨8, 1, 8, 0, 1, 0, .i64, [], [.nilFunc]⟩ := by kernel_rfl
@[go_sem] theorem ti138 : tinfo Try.prog 138 = some ⟨8, 1, 8, 0, 1, 0, .i64, [], [.nilFunc]⟩ := by kernel_rfl
@[go_sem] theorem ti139 : tinfo Try.prog 139 = some ⟨8, 1, 8, 0, 1, 0, .i64, [], [.nilFunc]⟩ := by kernel_rfl
@[go_sem] theorem ti140 : tinfo Try.prog 140 = some ⟨8, 1, 8, 0, 1, 0, .i64, [], [.nilFunc]⟩ := by kernel_rfl
@[go_sem] theorem ti141 : tinfo Try.prog 141 = some ⟨8, 1, 8, 0, 1, 0, .i64, [], [.nilFunc]⟩ := by kernel_rfl
@[go_sem] theorem ti142 : tinfo Try.prog 142 = some ⟨3, 3, 32, 0, 1, 0, .i64, [(0, 1, false), (1, 1, false), (2, 1, false)], [.string ⟨#[]⟩, .int .i64 0, .int .i64 0]⟩ := by kernel_rfl
@[go_sem] theorem ti143 : tinfo Try.prog 143 = some ⟨3, 3, 32, 0, 1, 0, .i64, [(0, 1, false), (1, 1, false), (2, 1, false)], [.string ⟨#[]⟩, .int .i64 0, .int .i64 0]⟩ := by kernel_rfl
@[go_sem] theorem ti144 : tinfo Try.prog 144 = some ⟨1, 1, 24, 143, 3, 0, .i64, [], [.slice none 0 0]⟩ := by kernel_rfl
@[go_sem] theorem ti146 : tinfo Try.prog 146 = some ⟨8, 1, 8, 0, 1, 0, .i64, [], [.nilFunc]⟩ := by kernel_rfl
@[go_sem] theorem ti147 : tinfo Try.prog 147 = some ⟨8, 1, 8, 0, 1, 0, .i64, [], [.nilFunc]⟩ := by kernel_rfl
@[go_sem] theorem ti148 : tinfo Try.prog 148 = some ⟨8, 1, 8, 0, 1, 0, .i64, [], [.nilFunc]⟩ := by kernel_rfl
@[go_sem] theorem ti149 : tinfo Try.prog 149 = some ⟨8, 1, 8, 0, 1, 0, .i64, [], [.nilFunc]⟩ := by kernel_rfl
@[go_sem] theorem ti150 : tinfo Try.prog 150 = some ⟨8, 1, 8, 0, 1, 0, .i64, [], [.nilFunc]⟩ := by kernel_rfl
@[go_sem] theorem ti151 : tinfo Try.prog 151 = some ⟨8, 1, 8, 0, 1, 0, .i64, [], [.nilFunc]⟩ := by kernel_rfl
@[go_sem] theorem ti152 : tinfo Try.prog 152 = some ⟨8, 1, 8, 0, 1, 0, .i64, [], [.nilFunc]⟩ := by kernel_rfl
@[go_sem] theorem ti153 : tinfo Try.prog 153 = some ⟨8, 1, 8, 0, 1, 0, .i64, [], [.nilFunc]⟩ := by kernel_rfl
@[go_sem] theorem ti154 : tinfo Try.prog 154 = some ⟨8, 1, 8, 0, 1, 0, .i64, [], [.nilFunc]⟩ := by kernel_rfl
@[go_sem] theorem ti155 : tinfo Try.prog 155 = some ⟨8, 1, 8, 0, 1, 0, .i64, [], [.nilFunc]⟩ := by kernel_rfl
@[go_sem] theorem ti156 : tinfo Try.prog 156 = some ⟨8, 1, 8, 0, 1, 0, .i64, [], [.nilFunc]⟩ := by kernel_rfl
@[go_sem] theorem ti157 : tinfo Try.prog 157 = some ⟨8, 1, 8, 0, 1, 0, .i64, [], [.nilFunc]⟩ := by kernel_rfl
@[go_sem] theorem ti158 : tinfo Try.prog 158 = some ⟨8, 1, 8, 0, 1, 0, .i64, [], [.nilFunc]⟩ := by kernel_rfl
@[go_sem] theorem ti159 : tinfo Try.prog 159 = some ⟨8, 1, 8, 0, 1, 0, .i64, [], [.nilFunc]⟩ := by kernel_rfl
@[go_sem] theorem ti160 : tinfo Try.prog 160 = some ⟨8, 1, 8, 0, 1, 0, .i64, [], [.nilFunc]⟩ := by kernel_rfl
@[go_sem] theorem ti161 : tinfo Try.prog 161 = some ⟨8, 1, 8, 0, 1, 0, .i64, [], [.nilFunc]⟩ := by kernel_rfl
@[go_sem] theorem ti162 : tinfo Try.prog 162 = some ⟨8, 1, 8, 0, 1, 0, .i64, [], [.nilFunc]⟩ := by kernel_rfl
@[go_sem] theorem ti163 : tinfo Try.prog 163 = some ⟨8, 1, 8, 0, 1, 0, .i64, [], [.nilFunc]⟩ := by kernel_rfl
@[go_sem] theorem ti164 : tinfo Try.prog 164 = some ⟨8, 1, 8, 0, 1, 0, .i64, [], [.nilFunc]⟩ := by kernel_rfl
@[go_sem] theorem ti165 : tinfo Try.prog 165 = some ⟨8, 1, 8, 0, 1, 0, .i64, [], [.nilFunc]⟩ := by kernel_rfl
@[go_sem] theorem ti166 : tinfo Try.prog 166 = some ⟨8, 1, 8, 0, 1, 0, .i64, [], [.nilFunc]⟩ := by kernel_rfl
@[go_sem] theorem ti167 : tinfo Try.prog 167 = some ⟨8, 1, 8, 0, 1, 0, .i64, [], [.nilFunc]⟩ := by kernel_rfl
@[go_sem] theorem ti168 : tinfo Try.prog 168 = some ⟨8, 1, 8, 0, 1, 0, .i64, [], [.nilFunc]⟩ := by kernel_rfl
@[go_sem] theorem ti169 : tinfo Try.prog 169 = some ⟨8, 1, 8, 0, 1, 0, .i64, [], [.nilFunc]⟩ := by kernel_rfl
@[go_sem] theorem ti170 : tinfo Try.prog 170 = some ⟨1, 1, 24, 26, 1, 0, .i64, [], [.slice none 0 0]⟩ := by kernel_rfl
@[go_sem] theorem ti171 : tinfo Try.prog 171 = some ⟨8, 1, 8, 0, 1, 0, .i64, [], [.nilFunc]⟩ := by kernel_rfl
@[go_sem] theorem ti172 : tinfo Try.prog 172 = some ⟨5, 1, 8, 0, 1, 0, .u64, [], [.int .u64 0]⟩ := by kernel_rfl
@[go_sem] theorem ti173 : tinfo Try.prog 173 = some ⟨8, 1, 8, 0, 1, 0, .i64, [], [.nilFunc]⟩ := by kernel_rfl
@[go_sem] theorem ti174 : tinfo Try.prog 174 = some ⟨8, 1, 8, 0, 1, 0, .i64, [], [.nilFunc]⟩ := by kernel_rfl
@[go_sem] theorem ti175 : tinfo Try.prog 175 = some ⟨8, 1, 8, 0, 1, 0, .i64, [], [.nilFunc]⟩ := by kernel_rfl
@[go_sem] theorem ti176 : tinfo Try.prog 176 = some ⟨8, 1, 8, 0, 1, 0, .i64, [], [.nilFunc]⟩ := by kernel_rfl
@[go_sem] theorem ti177 : tinfo Try.prog 177 = some ⟨1, 1, 24, 22, 1, 0, .i64, [], [.slice none 0 0]⟩ := by kernel_rfl
@[go_sem] theorem ti178 : tinfo Try.prog 178 = some ⟨8, 1, 8, 0, 1, 0, .i64, [], [.nilFunc]⟩ := by kernel_rfl
@[go_sem] theorem ti179 : tinfo Try.prog 179 = some ⟨8, 1, 8, 0, 1, 0, .i64, [], [.nilFunc]⟩ := by kernel_rfl
@[go_sem] theorem ti180 : tinfo Try.prog 180 = some ⟨8, 1, 8, 0, 1, 0, .i64, [], [.nilFunc]⟩ := by kernel_rfl
@[go_sem] theorem ti181 : tinfo Try.prog 181 = some ⟨8, 1, 8, 0, 1, 0, .i64, [], [.nilFunc]⟩ := by kernel_rfl
@[go_sem] theorem ti182 : tinfo Try.prog 182 = some ⟨8, 1, 8, 0, 1, 0, .i64, [], [.nilFunc]⟩ := by kernel_rfl
@[go_sem] theorem ti183 : tinfo Try.prog 183 = some ⟨8, 1, 8, 0, 1, 0, .i64, [], [.nilFunc]⟩ := by kernel_rfl
@[go_sem] theorem ti184 : tinfo Try.prog 184 = some ⟨8, 1, 8, 0, 1, 0, .i64, [], [.nilFunc]⟩ := by kernel_rfl
@[go_sem] theorem ti185 : tinfo Try.prog 185 = some ⟨8, 1, 8, 0, 1, 0, .i64, [], [.nilFunc]⟩ := by kernel_rfl
@[go_sem] theorem ti186 : tinfo Try.prog 186 = some ⟨2, 5, 40, 3, 1, 5, .i64, [], [.int .i64 0, .int .i64 0, .int .i64 0, .int .i64 0, .int .i64 0]⟩ := by kernel_rfl
@[go_sem] theorem ti187 : tinfo Try.prog 187 = some ⟨8, 1, 8, 0, 1, 0, .i64, [], [.nilFunc]⟩ := by kernel_rfl
@[go_sem] theorem ti188 : tinfo Try.prog 188 = some ⟨8, 1, 8, 0, 1, 0, .i64, [], [.nilFunc]⟩ := by kernel_rfl
@[go_sem] theorem ti189 : tinfo Try.prog 189 = some ⟨5, 1, 8, 0, 1, 0, .i64, [], [.int .i64 0]⟩ := by kernel_rfl
@[go_sem] theorem ti191 : tinfo Try.prog 191 = some ⟨8, 1, 8, 0, 1, 0, .i64, [], [.nilFunc]⟩ := by kernel_rfl
@[go_sem] theorem ti192 : tinfo Try.prog 192 = some ⟨8, 1, 8, 0, 1, 0, .i64, [], [.nilFunc]⟩ := by kernel_rfl
@[go_sem] theorem ti193 : tinfo Try.prog 193 = some ⟨8, 1, 8, 0, 1, 0, .i64, [], [.nilFunc]⟩ := by kernel_rfl
@[go_sem] theorem ti195 : tinfo Try.prog 195 = some ⟨8, 1, 8, 0, 1, 0, .i64, [], [.nilFunc]⟩ := by kernel_rfl
@[go_sem] theorem ti196 : tinfo Try.prog 196 = some ⟨8, 1, 8, 0, 1, 0, .i64, [], [.nilFunc]⟩ := by kernel_rfl
@[go_sem] theorem ti197 : tinfo Try.prog 197 = some ⟨5, 1, 4, 0, 1, 0, .u32, [], [.int .u32 0]⟩ := by kernel_rfl
@[go_sem] theorem ti198 : tinfo Try.prog 198 = some ⟨8, 1, 8, 0, 1, 0, .i64, [], [.nilFunc]⟩ := by kernel_rfl
@[go_sem] theorem ti199 : tinfo Try.prog 199 = some ⟨5, 1, 8, 0, 1, 0, .u64, [], [.int .u64 0]⟩ := by kernel_rfl
end Go.Proofs.Ytmfmpagfjgpodaa
