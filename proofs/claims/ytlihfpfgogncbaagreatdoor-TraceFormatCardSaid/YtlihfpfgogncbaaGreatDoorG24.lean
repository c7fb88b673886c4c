/- The types of the seat: their sizes, zero values and readings, by program. -/
import Derived.Test.YtlihfpfgogncbaaGreatDoorG22
import Derived.Test.YtlihfpfgogncbaaGreatDoorProg
set_option maxRecDepth 100000
namespace Go.Abs
open Go.Proofs
namespace TryTypes
@[simp] theorem agg3 : aggOf Tryz.prog 3 = some false := by kernel_rfl
@[simp] theorem sz3 : szOf Tryz.prog 3 = some 1 := by kernel_rfl
@[simp] theorem zero3 : zeroCells? Tryz.prog 3 = some [.int .i64 0] := by kernel_rfl
theorem eok3 : elemOk Tryz.prog 3 1 8 := ⟨_, _, Tryz.type3, rfl, rfl, rfl, rfl, by decide⟩
@[simp] theorem agg4 : aggOf Tryz.prog 4 = some false := by kernel_rfl
@[simp] theorem sz4 : szOf Tryz.prog 4 = some 1 := by kernel_rfl
@[simp] theorem zero4 : zeroCells? Tryz.prog 4 = some [.bool false] := by kernel_rfl
theorem eok4 : elemOk Tryz.prog 4 1 1 := ⟨_, _, Tryz.type4, rfl, rfl, rfl, rfl, by decide⟩
@[simp] theorem agg5 : aggOf Tryz.prog 5 = some false := by kernel_rfl
@[simp] theorem sz5 : szOf Tryz.prog 5 = some 1 := by kernel_rfl
@[simp] theorem zero5 : zeroCells? Tryz.prog 5 = some [.int .u8 0] := by kernel_rfl
theorem eok5 : elemOk Tryz.prog 5 1 1 := ⟨_, _, Tryz.type5, rfl, rfl, rfl, rfl, by decide⟩
@[simp] theorem agg9 : aggOf Tryz.prog 9 = some false := by kernel_rfl
@[simp] theorem sz9 : szOf Tryz.prog 9 = some 1 := by kernel_rfl
@[simp] theorem zero9 : zeroCells? Tryz.prog 9 = some [.string ⟨#[]⟩] := by kernel_rfl
theorem eok9 : elemOk Tryz.prog 9 1 16 := ⟨_, _, Tryz.type9, rfl, rfl, rfl, rfl, by decide⟩
@[simp] theorem agg21 : aggOf Tryz.prog 21 = some false := by kernel_rfl
@[simp] theorem sz21 : szOf Tryz.prog 21 = some 1 := by kernel_rfl
@[simp] theorem zero21 : zeroCells? Tryz.prog 21 = some [.int .i32 0] := by kernel_rfl
theorem eok21 : elemOk Tryz.prog 21 1 4 := ⟨_, _, Tryz.type21, rfl, rfl, rfl, rfl, by decide⟩
@[simp] theorem agg22 : aggOf Tryz.prog 22 = some true := by kernel_rfl
@[simp] theorem sz22 : szOf Tryz.prog 22 = some 3 := by kernel_rfl
@[simp] theorem off22_0 : offOf Tryz.prog 22 0 = some 0 := by kernel_rfl
@[simp] theorem fld22_0 : fieldOf? Tryz.prog 22 0 = some (0, 3) := by kernel_rfl
@[simp] theorem off22_1 : offOf Tryz.prog 22 1 = some 1 := by kernel_rfl
@[simp] theorem fld22_1 : fieldOf? Tryz.prog 22 1 = some (1, 3) := by kernel_rfl
@[simp] theorem off22_2 : offOf Tryz.prog 22 2 = some 2 := by kernel_rfl
@[simp] theorem fld22_2 : fieldOf? Tryz.prog 22 2 = some (2, 3) := by kernel_rfl
@[simp] theorem fok22 : fieldsOk Tryz.prog 22 = true := by kernel_rfl
@[simp] theorem zero22 : zeroCells? Tryz.prog 22 = some [.int .i64 0, .int .i64 0, .int .i64 0] := by kernel_rfl
theorem eok22 : elemOk Tryz.prog 22 3 24 := ⟨_, _, Tryz.type22, rfl, rfl, rfl, rfl, by decide⟩
@[simp] theorem agg23 : aggOf Tryz.prog 23 = some true := by kernel_rfl
@[simp] theorem sz23 : szOf Tryz.prog 23 = some 3 := by kernel_rfl
@[simp] theorem off23_0 : offOf Tryz.prog 23 0 = some 0 := by kernel_rfl
@[simp] theorem fld23_0 : fieldOf? Tryz.prog 23 0 = some (0, 3) := by kernel_rfl
@[simp] theorem off23_1 : offOf Tryz.prog 23 1 = some 1 := by kernel_rfl
@[simp] theorem fld23_1 : fieldOf? Tryz.prog 23 1 = some (1, 3) := by kernel_rfl
@[simp] theorem off23_2 : offOf Tryz.prog 23 2 = some 2 := by kernel_rfl
@[simp] theorem fld23_2 : fieldOf? Tryz.prog 23 2 = some (2, 3) := by kernel_rfl
@[simp] theorem fok23 : fieldsOk Tryz.prog 23 = true := by kernel_rfl
@[simp] theorem zero23 : zeroCells? Tryz.prog 23 = some [.int .i64 0, .int .i64 0, .int .i64 0] := by kernel_rfl
theorem eok23 : elemOk Tryz.prog 23 3 24 := ⟨_, _, Tryz.type23, rfl, rfl, rfl, rfl, by decide⟩
@[simp] theorem agg24 : aggOf Tryz.prog 24 = some false := by kernel_rfl
@[simp] theorem sz24 : szOf Tryz.prog 24 = some 1 := by kernel_rfl
@[simp] theorem elem24 : elemOf? Tryz.prog 24 = some 31 := by kernel_rfl
theorem src24 : srcOk Tryz.prog 24 := .inl ⟨31, by kernel_rfl⟩
@[simp] theorem zero24 : zeroCells? Tryz.prog 24 = some [.slice none 0 0] := by kernel_rfl
theorem eok24 : elemOk Tryz.prog 24 1 24 := ⟨_, _, Tryz.type24, rfl, rfl, rfl, rfl, by decide⟩
@[simp] theorem agg25 : aggOf Tryz.prog 25 = some true := by kernel_rfl
@[simp] theorem sz25 : szOf Tryz.prog 25 = some 2 := by kernel_rfl
@[simp] theorem off25_0 : offOf Tryz.prog 25 0 = some 0 := by kernel_rfl
@[simp] theorem fld25_0 : fieldOf? Tryz.prog 25 0 = some (0, 3) := by kernel_rfl
@[simp] theorem off25_1 : offOf Tryz.prog 25 1 = some 1 := by kernel_rfl
@[simp] theorem fld25_1 : fieldOf? Tryz.prog 25 1 = some (1, 3) := by kernel_rfl
@[simp] theorem fok25 : fieldsOk Tryz.prog 25 = true := by kernel_rfl
@[simp] theorem zero25 : zeroCells? Tryz.prog 25 = some [.int .i64 0, .int .i64 0] := by kernel_rfl
theorem eok25 : elemOk Tryz.prog 25 2 16 := ⟨_, _, Tryz.type25, rfl, rfl, rfl, rfl, by decide⟩
@[simp] theorem agg26 : aggOf Tryz.prog 26 = some true := by kernel_rfl
@[simp] theorem sz26 : szOf Tryz.prog 26 = some 2 := by kernel_rfl
@[simp] theorem off26_0 : offOf Tryz.prog 26 0 = some 0 := by kernel_rfl
@[simp] theorem fld26_0 : fieldOf? Tryz.prog 26 0 = some (0, 3) := by kernel_rfl
@[simp] theorem off26_1 : offOf Tryz.prog 26 1 = some 1 := by kernel_rfl
@[simp] theorem fld26_1 : fieldOf? Tryz.prog 26 1 = some (1, 3) := by kernel_rfl
@[simp] theorem fok26 : fieldsOk Tryz.prog 26 = true := by kernel_rfl
@[simp] theorem zero26 : zeroCells? Tryz.prog 26 = some [.int .i64 0, .int .i64 0] := by kernel_rfl
theorem eok26 : elemOk Tryz.prog 26 2 16 := ⟨_, _, Tryz.type26, rfl, rfl, rfl, rfl, by decide⟩
@[simp] theorem agg28 : aggOf Tryz.prog 28 = some true := by kernel_rfl
@[simp] theorem sz28 : szOf Tryz.prog 28 = some 7 := by kernel_rfl
@[simp] theorem off28_0 : offOf Tryz.prog 28 0 = some 0 := by kernel_rfl
@[simp] theorem fld28_0 : fieldOf? Tryz.prog 28 0 = some (0, 3) := by kernel_rfl
@[simp] theorem off28_1 : offOf Tryz.prog 28 1 = some 1 := by kernel_rfl
@[simp] theorem fld28_1 : fieldOf? Tryz.prog 28 1 = some (1, 23) := by kernel_rfl
@[simp] theorem off28_2 : offOf Tryz.prog 28 2 = some 4 := by kernel_rfl
@[simp] theorem fld28_2 : fieldOf? Tryz.prog 28 2 = some (4, 24) := by kernel_rfl
@[simp] theorem off28_3 : offOf Tryz.prog 28 3 = some 5 := by kernel_rfl
@[simp] theorem fld28_3 : fieldOf? Tryz.prog 28 3 = some (5, 26) := by kernel_rfl
@[simp] theorem fok28 : fieldsOk Tryz.prog 28 = true := by kernel_rfl
@[simp] theorem zero28 : zeroCells? Tryz.prog 28 = some [.int .i64 0, .int .i64 0, .int .i64 0, .int .i64 0, .slice none 0 0, .int .i64 0, .int .i64 0] := by kernel_rfl
theorem eok28 : elemOk Tryz.prog 28 7 72 := ⟨_, _, Tryz.type28, rfl, rfl, rfl, rfl, by decide⟩
@[simp] theorem agg31 : aggOf Tryz.prog 31 = some true := by kernel_rfl
@[simp] theorem sz31 : szOf Tryz.prog 31 = some 2 := by kernel_rfl
@[simp] theorem off31_0 : offOf Tryz.prog 31 0 = some 0 := by kernel_rfl
@[simp] theorem fld31_0 : fieldOf? Tryz.prog 31 0 = some (0, 3) := by kernel_rfl
@[simp] theorem off31_1 : offOf Tryz.prog 31 1 = some 1 := by kernel_rfl
@[simp] theorem fld31_1 : fieldOf? Tryz.prog 31 1 = some (1, 9) := by kernel_rfl
@[simp] theorem fok31 : fieldsOk Tryz.prog 31 = true := by kernel_rfl
@[simp] theorem zero31 : zeroCells? Tryz.prog 31 = some [.int .i64 0, .string ⟨#[]⟩] := by kernel_rfl
theorem eok31 : elemOk Tryz.prog 31 2 24 := ⟨_, _, Tryz.type31, rfl, rfl, rfl, rfl, by decide⟩
@[simp] theorem agg32 : aggOf Tryz.prog 32 = some false := by kernel_rfl
@[simp] theorem sz32 : szOf Tryz.prog 32 = some 1 := by kernel_rfl
@[simp] theorem zero32 : zeroCells? Tryz.prog 32 = some [.nilFunc] := by kernel_rfl
theorem eok32 : elemOk Tryz.prog 32 1 8 := ⟨_, _, Tryz.type32, rfl, rfl, rfl, rfl, by decide⟩
@[simp] theorem agg40 : aggOf Tryz.prog 40 = some false := by kernel_rfl
@[simp] theorem sz40 : szOf Tryz.prog 40 = some 1 := by kernel_rfl
@[simp] theorem zero40 : zeroCells? Tryz.prog 40 = some [.map none] := by kernel_rfl
theorem eok40 : elemOk Tryz.prog 40 1 8 := ⟨_, _, Tryz.type40, rfl, rfl, rfl, rfl, by decide⟩
@[simp] theorem agg53 : aggOf Tryz.prog 53 = some false := by kernel_rfl
@[simp] theorem sz53 : szOf Tryz.prog 53 = some 1 := by kernel_rfl
@[simp] theorem elem53 : elemOf? Tryz.prog 53 = some 9 := by kernel_rfl
theorem src53 : srcOk Tryz.prog 53 := .inl ⟨9, by kernel_rfl⟩
@[simp] theorem zero53 : zeroCells? Tryz.prog 53 = some [.slice none 0 0] := by kernel_rfl
theorem eok53 : elemOk Tryz.prog 53 1 24 := ⟨_, _, Tryz.type53, rfl, rfl, rfl, rfl, by decide⟩
@[simp] theorem agg64 : aggOf Tryz.prog 64 = some false := by kernel_rfl
@[simp] theorem sz64 : szOf Tryz.prog 64 = some 1 := by kernel_rfl
@[simp] theorem elem64 : elemOf? Tryz.prog 64 = some 5 := by kernel_rfl
theorem src64 : srcOk Tryz.prog 64 := .inl ⟨5, by kernel_rfl⟩
@[simp] theorem zero64 : zeroCells? Tryz.prog 64 = some [.slice none 0 0] := by kernel_rfl
theorem eok64 : elemOk Tryz.prog 64 1 24 := ⟨_, _, Tryz.type64, rfl, rfl, rfl, rfl, by decide⟩
@[simp] theorem agg90 : aggOf Tryz.prog 90 = some false := by kernel_rfl
@[simp] theorem sz90 : szOf Tryz.prog 90 = some 1 := by kernel_rfl
@[simp] theorem zero90 : zeroCells? Tryz.prog 90 = some [.pointer none] := by kernel_rfl
theorem eok90 : elemOk Tryz.prog 90 1 8 := ⟨_, _, Tryz.type90, rfl, rfl, rfl, rfl, by decide⟩
@[simp] theorem agg92 : aggOf Tryz.prog 92 = some true := by kernel_rfl
@[simp] theorem sz92 : szOf Tryz.prog 92 = some 2 := by kernel_rfl
@[simp] theorem off92_0 : offOf Tryz.prog 92 0 = some 0 := by kernel_rfl
@[simp] theorem fld92_0 : fieldOf? Tryz.prog 92 0 = some (0, 90) := by kernel_rfl
@[simp] theorem off92_1 : offOf Tryz.prog 92 1 = some 1 := by kernel_rfl
@[simp] theorem fld92_1 : fieldOf? Tryz.prog 92 1 = some (1, 64) := by kernel_rfl
@[simp] theorem fok92 : fieldsOk Tryz.prog 92 = true := by kernel_rfl
@[simp] theorem zero92 : zeroCells? Tryz.prog 92 = some [.pointer none, .slice none 0 0] := by kernel_rfl
theorem eok92 : elemOk Tryz.prog 92 2 32 := ⟨_, _, Tryz.type92, rfl, rfl, rfl, rfl, by decide⟩
@[simp] theorem agg117 : aggOf Tryz.prog 117 = some false := by kernel_rfl
@[simp] theorem sz117 : szOf Tryz.prog 117 = some 1 := by kernel_rfl
@[simp] theorem zero117 : zeroCells? Tryz.prog 117 = some [.pointer none] := by kernel_rfl
theorem eok117 : elemOk Tryz.prog 117 1 8 := ⟨_, _, Tryz.type117, rfl, rfl, rfl, rfl, by decide⟩
@[simp] theorem agg149 : aggOf Tryz.prog 149 = some false := by kernel_rfl
@[simp] theorem sz149 : szOf Tryz.prog 149 = some 1 := by kernel_rfl
@[simp] theorem zero149 : zeroCells? Tryz.prog 149 = some [.pointer none] := by kernel_rfl
theorem eok149 : elemOk Tryz.prog 149 1 8 := ⟨_, _, Tryz.type149, rfl, rfl, rfl, rfl, by decide⟩
@[simp] theorem agg89 : aggOf Tryz.prog 89 = some true := by kernel_rfl
@[simp] theorem sz89 : szOf Tryz.prog 89 = some 8 := by kernel_rfl
@[simp] theorem zero89 : zeroCells? Tryz.prog 89 = some [.string ⟨#[]⟩, .string ⟨#[]⟩, .string ⟨#[]⟩, .string ⟨#[]⟩, .string ⟨#[]⟩, .string ⟨#[]⟩, .string ⟨#[]⟩, .string ⟨#[]⟩] := by kernel_rfl
theorem eok89 : elemOk Tryz.prog 89 8 128 := ⟨_, _, Tryz.type89, rfl, rfl, rfl, rfl, by decide⟩
end TryTypes
end Go.Abs
