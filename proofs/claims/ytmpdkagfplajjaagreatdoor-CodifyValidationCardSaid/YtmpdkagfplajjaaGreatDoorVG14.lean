/- The types of Codify's seat: their sizes, zero values and readings, by program. -/
import Derived.Test.YtmpdkagfplajjaaGreatDoorVG12
import Derived.Test.YtmpdkagfplajjaaGreatDoorProg
set_option maxRecDepth 100000
namespace Go.Abs
open Go.Proofs
namespace TryTypes
@[simp] theorem agg3 : aggOf Tryz.prog 3 = some false := by kernel_rfl
@[simp] theorem sz3 : szOf Tryz.prog 3 = some 1 := by kernel_rfl
@[simp] theorem zero3 : zeroCells? Tryz.prog 3 = some [.int .i64 0] := by kernel_rfl
theorem eok3 : elemOk Tryz.prog 3 1 8 := ⟨_, _, Tryz.type3, rfl, rfl, rfl, rfl, by decide⟩
@[simp] theorem agg4 : aggOf Tryz.prog 4 = some false := by kernel_rfl
@[simp] theorem sz4 : szOf Tryz.prog 4 = some 1 := by kernel_rfl
@[simp] theorem zero4 : zeroCells? Tryz.prog 4 = some [.bool false] := by kernel_rfl
theorem eok4 : elemOk Tryz.prog 4 1 1 := ⟨_, _, Tryz.type4, rfl, rfl, rfl, rfl, by decide⟩
@[simp] theorem agg5 : aggOf Tryz.prog 5 = some false := by kernel_rfl
@[simp] theorem sz5 : szOf Tryz.prog 5 = some 1 := by kernel_rfl
@[simp] theorem zero5 : zeroCells? Tryz.prog 5 = some [.int .u8 0] := by kernel_rfl
theorem eok5 : elemOk Tryz.prog 5 1 1 := ⟨_, _, Tryz.type5, rfl, rfl, rfl, rfl, by decide⟩
@[simp] theorem agg9 : aggOf Tryz.prog 9 = some false := by kernel_rfl
@[simp] theorem sz9 : szOf Tryz.prog 9 = some 1 := by kernel_rfl
@[simp] theorem zero9 : zeroCells? Tryz.prog 9 = some [.string ⟨#[]⟩] := by kernel_rfl
theorem eok9 : elemOk Tryz.prog 9 1 16 := ⟨_, _, Tryz.type9, rfl, rfl, rfl, rfl, by decide⟩
@[simp] theorem agg21 : aggOf Tryz.prog 21 = some false := by kernel_rfl
@[simp] theorem sz21 : szOf Tryz.prog 21 = some 1 := by kernel_rfl
@[simp] theorem zero21 : zeroCells? Tryz.prog 21 = some [.int .i32 0] := by kernel_rfl
theorem eok21 : elemOk Tryz.prog 21 1 4 := ⟨_, _, Tryz.type21, rfl, rfl, rfl, rfl, by decide⟩
@[simp] theorem agg22 : aggOf Tryz.prog 22 = some true := by kernel_rfl
@[simp] theorem sz22 : szOf Tryz.prog 22 = some 3 := by kernel_rfl
@[simp] theorem off22_0 : offOf Tryz.prog 22 0 = some 0 := by kernel_rfl
@[simp] theorem fld22_0 : fieldOf? Tryz.prog 22 0 = some (0, 3) := by kernel_rfl
@[simp] theorem off22_1 : offOf Tryz.prog 22 1 = some 1 := by kernel_rfl
@[simp] theorem fld22_1 : fieldOf? Tryz.prog 22 1 = some (1, 3) := by kernel_rfl
@[simp] theorem off22_2 : offOf Tryz.prog 22 2 = some 2 := by kernel_rfl
@[simp] theorem fld22_2 : fieldOf? Tryz.prog 22 2 = some (2, 3) := by kernel_rfl
@[simp] theorem fok22 : fieldsOk Tryz.prog 22 = true := by kernel_rfl
@[simp] theorem zero22 : zeroCells? Tryz.prog 22 = some [.int .i64 0, .int .i64 0, .int .i64 0] := by kernel_rfl
theorem eok22 : elemOk Tryz.prog 22 3 24 := ⟨_, _, Tryz.type22, rfl, rfl, rfl, rfl, by decide⟩
@[simp] theorem agg23 : aggOf Tryz.prog 23 = some true := by kernel_rfl
@[simp] theorem sz23 : szOf Tryz.prog 23 = some 3 := by kernel_rfl
@[simp] theorem off23_0 : offOf Tryz.prog 23 0 = some 0 := by kernel_rfl
@[simp] theorem fld23_0 : fieldOf? Tryz.prog 23 0 = some (0, 3) := by kernel_rfl
@[simp] theorem off23_1 : offOf Tryz.prog 23 1 = some 1 := by kernel_rfl
@[simp] theorem fld23_1 : fieldOf? Tryz.prog 23 1 = some (1, 3) := by kernel_rfl
@[simp] theorem off23_2 : offOf Tryz.prog 23 2 = some 2 := by kernel_rfl
@[simp] theorem fld23_2 : fieldOf? Tryz.prog 23 2 = some (2, 3) := by kernel_rfl
@[simp] theorem fok23 : fieldsOk Tryz.prog 23 = true := by kernel_rfl
@[simp] theorem zero23 : zeroCells? Tryz.prog 23 = some [.int .i64 0, .int .i64 0, .int .i64 0] := by kernel_rfl
theorem eok23 : elemOk Tryz.prog 23 3 24 := ⟨_, _, Tryz.type23, rfl, rfl, rfl, rfl, by decide⟩
@[simp] theorem agg24 : aggOf Tryz.prog 24 = some false := by kernel_rfl
@[simp] theorem sz24 : szOf Tryz.prog 24 = some 1 := by kernel_rfl
@[simp] theorem elem24 : elemOf? Tryz.prog 24 = some 152 := by kernel_rfl
theorem src24 : srcOk Tryz.prog 24 := .inl ⟨152, by kernel_rfl⟩
@[simp] theorem zero24 : zeroCells? Tryz.prog 24 = some [.slice none 0 0] := by kernel_rfl
theorem eok24 : elemOk Tryz.prog 24 1 24 := ⟨_, _, Tryz.type24, rfl, rfl, rfl, rfl, by decide⟩
@[simp] theorem agg25 : aggOf Tryz.prog 25 = some false := by kernel_rfl
@[simp] theorem sz25 : szOf Tryz.prog 25 = some 1 := by kernel_rfl
@[simp] theorem elem25 : elemOf? Tryz.prog 25 = some 27 := by kernel_rfl
theorem src25 : srcOk Tryz.prog 25 := .inl ⟨27, by kernel_rfl⟩
@[simp] theorem zero25 : zeroCells? Tryz.prog 25 = some [.slice none 0 0] := by kernel_rfl
theorem eok25 : elemOk Tryz.prog 25 1 24 := ⟨_, _, Tryz.type25, rfl, rfl, rfl, rfl, by decide⟩
@[simp] theorem agg26 : aggOf Tryz.prog 26 = some true := by kernel_rfl
@[simp] theorem sz26 : szOf Tryz.prog 26 = some 8 := by kernel_rfl
@[simp] theorem off26_0 : offOf Tryz.prog 26 0 = some 0 := by kernel_rfl
@[simp] theorem fld26_0 : fieldOf? Tryz.prog 26 0 = some (0, 23) := by kernel_rfl
@[simp] theorem off26_1 : offOf Tryz.prog 26 1 = some 3 := by kernel_rfl
@[simp] theorem fld26_1 : fieldOf? Tryz.prog 26 1 = some (3, 3) := by kernel_rfl
@[simp] theorem off26_2 : offOf Tryz.prog 26 2 = some 4 := by kernel_rfl
@[simp] theorem fld26_2 : fieldOf? Tryz.prog 26 2 = some (4, 9) := by kernel_rfl
@[simp] theorem off26_3 : offOf Tryz.prog 26 3 = some 5 := by kernel_rfl
@[simp] theorem fld26_3 : fieldOf? Tryz.prog 26 3 = some (5, 24) := by kernel_rfl
@[simp] theorem off26_4 : offOf Tryz.prog 26 4 = some 6 := by kernel_rfl
@[simp] theorem fld26_4 : fieldOf? Tryz.prog 26 4 = some (6, 24) := by kernel_rfl
@[simp] theorem off26_5 : offOf Tryz.prog 26 5 = some 7 := by kernel_rfl
@[simp] theorem fld26_5 : fieldOf? Tryz.prog 26 5 = some (7, 25) := by kernel_rfl
@[simp] theorem fok26 : fieldsOk Tryz.prog 26 = true := by kernel_rfl
@[simp] theorem zero26 : zeroCells? Tryz.prog 26 = some [.int .i64 0, .int .i64 0, .int .i64 0, .int .i64 0, .string ⟨#[]⟩, .slice none 0 0, .slice none 0 0, .slice none 0 0] := by kernel_rfl
theorem eok26 : elemOk Tryz.prog 26 8 120 := ⟨_, _, Tryz.type26, rfl, rfl, rfl, rfl, by decide⟩
@[simp] theorem agg27 : aggOf Tryz.prog 27 = some true := by kernel_rfl
@[simp] theorem sz27 : szOf Tryz.prog 27 = some 8 := by kernel_rfl
@[simp] theorem off27_0 : offOf Tryz.prog 27 0 = some 0 := by kernel_rfl
@[simp] theorem fld27_0 : fieldOf? Tryz.prog 27 0 = some (0, 23) := by kernel_rfl
@[simp] theorem off27_1 : offOf Tryz.prog 27 1 = some 3 := by kernel_rfl
@[simp] theorem fld27_1 : fieldOf? Tryz.prog 27 1 = some (3, 3) := by kernel_rfl
@[simp] theorem off27_2 : offOf Tryz.prog 27 2 = some 4 := by kernel_rfl
@[simp] theorem fld27_2 : fieldOf? Tryz.prog 27 2 = some (4, 9) := by kernel_rfl
@[simp] theorem off27_3 : offOf Tryz.prog 27 3 = some 5 := by kernel_rfl
@[simp] theorem fld27_3 : fieldOf? Tryz.prog 27 3 = some (5, 24) := by kernel_rfl
@[simp] theorem off27_4 : offOf Tryz.prog 27 4 = some 6 := by kernel_rfl
@[simp] theorem fld27_4 : fieldOf? Tryz.prog 27 4 = some (6, 24) := by kernel_rfl
@[simp] theorem off27_5 : offOf Tryz.prog 27 5 = some 7 := by kernel_rfl
@[simp] theorem fld27_5 : fieldOf? Tryz.prog 27 5 = some (7, 25) := by kernel_rfl
@[simp] theorem fok27 : fieldsOk Tryz.prog 27 = true := by kernel_rfl
@[simp] theorem zero27 : zeroCells? Tryz.prog 27 = some [.int .i64 0, .int .i64 0, .int .i64 0, .int .i64 0, .string ⟨#[]⟩, .slice none 0 0, .slice none 0 0, .slice none 0 0] := by kernel_rfl
theorem eok27 : elemOk Tryz.prog 27 8 120 := ⟨_, _, Tryz.type27, rfl, rfl, rfl, rfl, by decide⟩
@[simp] theorem agg28 : aggOf Tryz.prog 28 = some false := by kernel_rfl
@[simp] theorem sz28 : szOf Tryz.prog 28 = some 1 := by kernel_rfl
@[simp] theorem elem28 : elemOf? Tryz.prog 28 = some 69 := by kernel_rfl
theorem src28 : srcOk Tryz.prog 28 := .inl ⟨69, by kernel_rfl⟩
@[simp] theorem zero28 : zeroCells? Tryz.prog 28 = some [.slice none 0 0] := by kernel_rfl
theorem eok28 : elemOk Tryz.prog 28 1 24 := ⟨_, _, Tryz.type28, rfl, rfl, rfl, rfl, by decide⟩
@[simp] theorem agg31 : aggOf Tryz.prog 31 = some false := by kernel_rfl
@[simp] theorem sz31 : szOf Tryz.prog 31 = some 1 := by kernel_rfl
@[simp] theorem zero31 : zeroCells? Tryz.prog 31 = some [.int .i64 0] := by kernel_rfl
theorem eok31 : elemOk Tryz.prog 31 1 8 := ⟨_, _, Tryz.type31, rfl, rfl, rfl, rfl, by decide⟩
@[simp] theorem agg37 : aggOf Tryz.prog 37 = some false := by kernel_rfl
@[simp] theorem sz37 : szOf Tryz.prog 37 = some 1 := by kernel_rfl
@[simp] theorem elem37 : elemOf? Tryz.prog 37 = some 9 := by kernel_rfl
theorem src37 : srcOk Tryz.prog 37 := .inl ⟨9, by kernel_rfl⟩
@[simp] theorem zero37 : zeroCells? Tryz.prog 37 = some [.slice none 0 0] := by kernel_rfl
theorem eok37 : elemOk Tryz.prog 37 1 24 := ⟨_, _, Tryz.type37, rfl, rfl, rfl, rfl, by decide⟩
@[simp] theorem agg38 : aggOf Tryz.prog 38 = some false := by kernel_rfl
@[simp] theorem sz38 : szOf Tryz.prog 38 = some 1 := by kernel_rfl
@[simp] theorem elem38 : elemOf? Tryz.prog 38 = some 110 := by kernel_rfl
theorem src38 : srcOk Tryz.prog 38 := .inl ⟨110, by kernel_rfl⟩
@[simp] theorem zero38 : zeroCells? Tryz.prog 38 = some [.slice none 0 0] := by kernel_rfl
theorem eok38 : elemOk Tryz.prog 38 1 24 := ⟨_, _, Tryz.type38, rfl, rfl, rfl, rfl, by decide⟩
@[simp] theorem agg39 : aggOf Tryz.prog 39 = some false := by kernel_rfl
@[simp] theorem sz39 : szOf Tryz.prog 39 = some 1 := by kernel_rfl
@[simp] theorem elem39 : elemOf? Tryz.prog 39 = some 40 := by kernel_rfl
theorem src39 : srcOk Tryz.prog 39 := .inl ⟨40, by kernel_rfl⟩
@[simp] theorem zero39 : zeroCells? Tryz.prog 39 = some [.slice none 0 0] := by kernel_rfl
theorem eok39 : elemOk Tryz.prog 39 1 24 := ⟨_, _, Tryz.type39, rfl, rfl, rfl, rfl, by decide⟩
@[simp] theorem agg40 : aggOf Tryz.prog 40 = some false := by kernel_rfl
@[simp] theorem sz40 : szOf Tryz.prog 40 = some 1 := by kernel_rfl
@[simp] theorem elem40 : elemOf? Tryz.prog 40 = some 159 := by kernel_rfl
theorem src40 : srcOk Tryz.prog 40 := .inl ⟨159, by kernel_rfl⟩
@[simp] theorem zero40 : zeroCells? Tryz.prog 40 = some [.slice none 0 0] := by kernel_rfl
theorem eok40 : elemOk Tryz.prog 40 1 24 := ⟨_, _, Tryz.type40, rfl, rfl, rfl, rfl, by decide⟩
@[simp] theorem agg68 : aggOf Tryz.prog 68 = some true := by kernel_rfl
@[simp] theorem sz68 : szOf Tryz.prog 68 = some 5 := by kernel_rfl
@[simp] theorem off68_0 : offOf Tryz.prog 68 0 = some 0 := by kernel_rfl
@[simp] theorem fld68_0 : fieldOf? Tryz.prog 68 0 = some (0, 23) := by kernel_rfl
@[simp] theorem off68_1 : offOf Tryz.prog 68 1 = some 3 := by kernel_rfl
@[simp] theorem fld68_1 : fieldOf? Tryz.prog 68 1 = some (3, 3) := by kernel_rfl
@[simp] theorem off68_2 : offOf Tryz.prog 68 2 = some 4 := by kernel_rfl
@[simp] theorem fld68_2 : fieldOf? Tryz.prog 68 2 = some (4, 9) := by kernel_rfl
@[simp] theorem fok68 : fieldsOk Tryz.prog 68 = true := by kernel_rfl
@[simp] theorem zero68 : zeroCells? Tryz.prog 68 = some [.int .i64 0, .int .i64 0, .int .i64 0, .int .i64 0, .string ⟨#[]⟩] := by kernel_rfl
theorem eok68 : elemOk Tryz.prog 68 5 48 := ⟨_, _, Tryz.type68, rfl, rfl, rfl, rfl, by decide⟩
@[simp] theorem agg69 : aggOf Tryz.prog 69 = some true := by kernel_rfl
@[simp] theorem sz69 : szOf Tryz.prog 69 = some 5 := by kernel_rfl
@[simp] theorem off69_0 : offOf Tryz.prog 69 0 = some 0 := by kernel_rfl
@[simp] theorem fld69_0 : fieldOf? Tryz.prog 69 0 = some (0, 23) := by kernel_rfl
@[simp] theorem off69_1 : offOf Tryz.prog 69 1 = some 3 := by kernel_rfl
@[simp] theorem fld69_1 : fieldOf? Tryz.prog 69 1 = some (3, 3) := by kernel_rfl
@[simp] theorem off69_2 : offOf Tryz.prog 69 2 = some 4 := by kernel_rfl
@[simp] theorem fld69_2 : fieldOf? Tryz.prog 69 2 = some (4, 9) := by kernel_rfl
@[simp] theorem fok69 : fieldsOk Tryz.prog 69 = true := by kernel_rfl
@[simp] theorem zero69 : zeroCells? Tryz.prog 69 = some [.int .i64 0, .int .i64 0, .int .i64 0, .int .i64 0, .string ⟨#[]⟩] := by kernel_rfl
theorem eok69 : elemOk Tryz.prog 69 5 48 := ⟨_, _, Tryz.type69, rfl, rfl, rfl, rfl, by decide⟩
@[simp] theorem agg85 : aggOf Tryz.prog 85 = some false := by kernel_rfl
@[simp] theorem sz85 : szOf Tryz.prog 85 = some 1 := by kernel_rfl
@[simp] theorem elem85 : elemOf? Tryz.prog 85 = some 23 := by kernel_rfl
theorem src85 : srcOk Tryz.prog 85 := .inl ⟨23, by kernel_rfl⟩
@[simp] theorem zero85 : zeroCells? Tryz.prog 85 = some [.slice none 0 0] := by kernel_rfl
theorem eok85 : elemOk Tryz.prog 85 1 24 := ⟨_, _, Tryz.type85, rfl, rfl, rfl, rfl, by decide⟩
@[simp] theorem agg92 : aggOf Tryz.prog 92 = some false := by kernel_rfl
@[simp] theorem sz92 : szOf Tryz.prog 92 = some 1 := by kernel_rfl
@[simp] theorem zero92 : zeroCells? Tryz.prog 92 = some [.map none] := by kernel_rfl
theorem eok92 : elemOk Tryz.prog 92 1 8 := ⟨_, _, Tryz.type92, rfl, rfl, rfl, rfl, by decide⟩
@[simp] theorem agg93 : aggOf Tryz.prog 93 = some false := by kernel_rfl
@[simp] theorem sz93 : szOf Tryz.prog 93 = some 1 := by kernel_rfl
@[simp] theorem zero93 : zeroCells? Tryz.prog 93 = some [.map none] := by kernel_rfl
theorem eok93 : elemOk Tryz.prog 93 1 8 := ⟨_, _, Tryz.type93, rfl, rfl, rfl, rfl, by decide⟩
@[simp] theorem agg94 : aggOf Tryz.prog 94 = some false := by kernel_rfl
@[simp] theorem sz94 : szOf Tryz.prog 94 = some 1 := by kernel_rfl
@[simp] theorem zero94 : zeroCells? Tryz.prog 94 = some [.map none] := by kernel_rfl
theorem eok94 : elemOk Tryz.prog 94 1 8 := ⟨_, _, Tryz.type94, rfl, rfl, rfl, rfl, by decide⟩
@[simp] theorem agg95 : aggOf Tryz.prog 95 = some true := by kernel_rfl
@[simp] theorem sz95 : szOf Tryz.prog 95 = some 4 := by kernel_rfl
@[simp] theorem off95_0 : offOf Tryz.prog 95 0 = some 0 := by kernel_rfl
@[simp] theorem fld95_0 : fieldOf? Tryz.prog 95 0 = some (0, 28) := by kernel_rfl
@[simp] theorem off95_1 : offOf Tryz.prog 95 1 = some 1 := by kernel_rfl
@[simp] theorem fld95_1 : fieldOf? Tryz.prog 95 1 = some (1, 92) := by kernel_rfl
@[simp] theorem off95_2 : offOf Tryz.prog 95 2 = some 2 := by kernel_rfl
@[simp] theorem fld95_2 : fieldOf? Tryz.prog 95 2 = some (2, 93) := by kernel_rfl
@[simp] theorem off95_3 : offOf Tryz.prog 95 3 = some 3 := by kernel_rfl
@[simp] theorem fld95_3 : fieldOf? Tryz.prog 95 3 = some (3, 94) := by kernel_rfl
@[simp] theorem fok95 : fieldsOk Tryz.prog 95 = true := by kernel_rfl
@[simp] theorem zero95 : zeroCells? Tryz.prog 95 = some [.slice none 0 0, .map none, .map none, .map none] := by kernel_rfl
theorem eok95 : elemOk Tryz.prog 95 4 48 := ⟨_, _, Tryz.type95, rfl, rfl, rfl, rfl, by decide⟩
@[simp] theorem agg96 : aggOf Tryz.prog 96 = some true := by kernel_rfl
@[simp] theorem sz96 : szOf Tryz.prog 96 = some 4 := by kernel_rfl
@[simp] theorem off96_0 : offOf Tryz.prog 96 0 = some 0 := by kernel_rfl
@[simp] theorem fld96_0 : fieldOf? Tryz.prog 96 0 = some (0, 28) := by kernel_rfl
@[simp] theorem off96_1 : offOf Tryz.prog 96 1 = some 1 := by kernel_rfl
@[simp] theorem fld96_1 : fieldOf? Tryz.prog 96 1 = some (1, 92) := by kernel_rfl
@[simp] theorem off96_2 : offOf Tryz.prog 96 2 = some 2 := by kernel_rfl
@[simp] theorem fld96_2 : fieldOf? Tryz.prog 96 2 = some (2, 93) := by kernel_rfl
@[simp] theorem off96_3 : offOf Tryz.prog 96 3 = some 3 := by kernel_rfl
@[simp] theorem fld96_3 : fieldOf? Tryz.prog 96 3 = some (3, 94) := by kernel_rfl
@[simp] theorem fok96 : fieldsOk Tryz.prog 96 = true := by kernel_rfl
@[simp] theorem zero96 : zeroCells? Tryz.prog 96 = some [.slice none 0 0, .map none, .map none, .map none] := by kernel_rfl
theorem eok96 : elemOk Tryz.prog 96 4 48 := ⟨_, _, Tryz.type96, rfl, rfl, rfl, rfl, by decide⟩
@[simp] theorem agg110 : aggOf Tryz.prog 110 = some true := by kernel_rfl
@[simp] theorem sz110 : szOf Tryz.prog 110 = some 5 := by kernel_rfl
@[simp] theorem off110_0 : offOf Tryz.prog 110 0 = some 0 := by kernel_rfl
@[simp] theorem fld110_0 : fieldOf? Tryz.prog 110 0 = some (0, 3) := by kernel_rfl
@[simp] theorem off110_1 : offOf Tryz.prog 110 1 = some 1 := by kernel_rfl
@[simp] theorem fld110_1 : fieldOf? Tryz.prog 110 1 = some (1, 40) := by kernel_rfl
@[simp] theorem off110_2 : offOf Tryz.prog 110 2 = some 2 := by kernel_rfl
@[simp] theorem fld110_2 : fieldOf? Tryz.prog 110 2 = some (2, 9) := by kernel_rfl
@[simp] theorem off110_3 : offOf Tryz.prog 110 3 = some 3 := by kernel_rfl
@[simp] theorem fld110_3 : fieldOf? Tryz.prog 110 3 = some (3, 3) := by kernel_rfl
@[simp] theorem off110_4 : offOf Tryz.prog 110 4 = some 4 := by kernel_rfl
@[simp] theorem fld110_4 : fieldOf? Tryz.prog 110 4 = some (4, 3) := by kernel_rfl
@[simp] theorem fok110 : fieldsOk Tryz.prog 110 = true := by kernel_rfl
@[simp] theorem zero110 : zeroCells? Tryz.prog 110 = some [.int .i64 0, .slice none 0 0, .string ⟨#[]⟩, .int .i64 0, .int .i64 0] := by kernel_rfl
theorem eok110 : elemOk Tryz.prog 110 5 64 := ⟨_, _, Tryz.type110, rfl, rfl, rfl, rfl, by decide⟩
@[simp] theorem agg113 : aggOf Tryz.prog 113 = some false := by kernel_rfl
@[simp] theorem sz113 : szOf Tryz.prog 113 = some 1 := by kernel_rfl
@[simp] theorem zero113 : zeroCells? Tryz.prog 113 = some [.pointer none] := by kernel_rfl
theorem eok113 : elemOk Tryz.prog 113 1 8 := ⟨_, _, Tryz.type113, rfl, rfl, rfl, rfl, by decide⟩
@[simp] theorem agg114 : aggOf Tryz.prog 114 = some false := by kernel_rfl
@[simp] theorem sz114 : szOf Tryz.prog 114 = some 1 := by kernel_rfl
@[simp] theorem elem114 : elemOf? Tryz.prog 114 = some 5 := by kernel_rfl
theorem src114 : srcOk Tryz.prog 114 := .inl ⟨5, by kernel_rfl⟩
@[simp] theorem zero114 : zeroCells? Tryz.prog 114 = some [.slice none 0 0] := by kernel_rfl
theorem eok114 : elemOk Tryz.prog 114 1 24 := ⟨_, _, Tryz.type114, rfl, rfl, rfl, rfl, by decide⟩
@[simp] theorem agg116 : aggOf Tryz.prog 116 = some true := by kernel_rfl
@[simp] theorem sz116 : szOf Tryz.prog 116 = some 2 := by kernel_rfl
@[simp] theorem off116_0 : offOf Tryz.prog 116 0 = some 0 := by kernel_rfl
@[simp] theorem fld116_0 : fieldOf? Tryz.prog 116 0 = some (0, 113) := by kernel_rfl
@[simp] theorem off116_1 : offOf Tryz.prog 116 1 = some 1 := by kernel_rfl
@[simp] theorem fld116_1 : fieldOf? Tryz.prog 116 1 = some (1, 114) := by kernel_rfl
@[simp] theorem fok116 : fieldsOk Tryz.prog 116 = true := by kernel_rfl
@[simp] theorem zero116 : zeroCells? Tryz.prog 116 = some [.pointer none, .slice none 0 0] := by kernel_rfl
theorem eok116 : elemOk Tryz.prog 116 2 32 := ⟨_, _, Tryz.type116, rfl, rfl, rfl, rfl, by decide⟩
@[simp] theorem agg118 : aggOf Tryz.prog 118 = some false := by kernel_rfl
@[simp] theorem sz118 : szOf Tryz.prog 118 = some 1 := by kernel_rfl
@[simp] theorem zero118 : zeroCells? Tryz.prog 118 = some [.nilIface] := by kernel_rfl
theorem eok118 : elemOk Tryz.prog 118 1 16 := ⟨_, _, Tryz.type118, rfl, rfl, rfl, rfl, by decide⟩
@[simp] theorem agg130 : aggOf Tryz.prog 130 = some false := by kernel_rfl
@[simp] theorem sz130 : szOf Tryz.prog 130 = some 1 := by kernel_rfl
@[simp] theorem elem130 : elemOf? Tryz.prog 130 = some 3 := by kernel_rfl
theorem src130 : srcOk Tryz.prog 130 := .inl ⟨3, by kernel_rfl⟩
@[simp] theorem zero130 : zeroCells? Tryz.prog 130 = some [.slice none 0 0] := by kernel_rfl
theorem eok130 : elemOk Tryz.prog 130 1 24 := ⟨_, _, Tryz.type130, rfl, rfl, rfl, rfl, by decide⟩
@[simp] theorem agg149 : aggOf Tryz.prog 149 = some true := by kernel_rfl
@[simp] theorem sz149 : szOf Tryz.prog 149 = some 3 := by kernel_rfl
@[simp] theorem off149_0 : offOf Tryz.prog 149 0 = some 0 := by kernel_rfl
@[simp] theorem fld149_0 : fieldOf? Tryz.prog 149 0 = some (0, 3) := by kernel_rfl
@[simp] theorem off149_1 : offOf Tryz.prog 149 1 = some 1 := by kernel_rfl
@[simp] theorem fld149_1 : fieldOf? Tryz.prog 149 1 = some (1, 3) := by kernel_rfl
@[simp] theorem off149_2 : offOf Tryz.prog 149 2 = some 2 := by kernel_rfl
@[simp] theorem fld149_2 : fieldOf? Tryz.prog 149 2 = some (2, 3) := by kernel_rfl
@[simp] theorem fok149 : fieldsOk Tryz.prog 149 = true := by kernel_rfl
@[simp] theorem zero149 : zeroCells? Tryz.prog 149 = some [.int .i64 0, .int .i64 0, .int .i64 0] := by kernel_rfl
theorem eok149 : elemOk Tryz.prog 149 3 24 := ⟨_, _, Tryz.type149, rfl, rfl, rfl, rfl, by decide⟩
@[simp] theorem agg150 : aggOf Tryz.prog 150 = some true := by kernel_rfl
@[simp] theorem sz150 : szOf Tryz.prog 150 = some 3 := by kernel_rfl
@[simp] theorem off150_0 : offOf Tryz.prog 150 0 = some 0 := by kernel_rfl
@[simp] theorem fld150_0 : fieldOf? Tryz.prog 150 0 = some (0, 3) := by kernel_rfl
@[simp] theorem off150_1 : offOf Tryz.prog 150 1 = some 1 := by kernel_rfl
@[simp] theorem fld150_1 : fieldOf? Tryz.prog 150 1 = some (1, 3) := by kernel_rfl
@[simp] theorem off150_2 : offOf Tryz.prog 150 2 = some 2 := by kernel_rfl
@[simp] theorem fld150_2 : fieldOf? Tryz.prog 150 2 = some (2, 3) := by kernel_rfl
@[simp] theorem fok150 : fieldsOk Tryz.prog 150 = true := by kernel_rfl
@[simp] theorem zero150 : zeroCells? Tryz.prog 150 = some [.int .i64 0, .int .i64 0, .int .i64 0] := by kernel_rfl
theorem eok150 : elemOk Tryz.prog 150 3 24 := ⟨_, _, Tryz.type150, rfl, rfl, rfl, rfl, by decide⟩
@[simp] theorem agg151 : aggOf Tryz.prog 151 = some true := by kernel_rfl
@[simp] theorem sz151 : szOf Tryz.prog 151 = some 4 := by kernel_rfl
@[simp] theorem off151_0 : offOf Tryz.prog 151 0 = some 0 := by kernel_rfl
@[simp] theorem fld151_0 : fieldOf? Tryz.prog 151 0 = some (0, 9) := by kernel_rfl
@[simp] theorem off151_1 : offOf Tryz.prog 151 1 = some 1 := by kernel_rfl
@[simp] theorem fld151_1 : fieldOf? Tryz.prog 151 1 = some (1, 150) := by kernel_rfl
@[simp] theorem fok151 : fieldsOk Tryz.prog 151 = true := by kernel_rfl
@[simp] theorem zero151 : zeroCells? Tryz.prog 151 = some [.string ⟨#[]⟩, .int .i64 0, .int .i64 0, .int .i64 0] := by kernel_rfl
theorem eok151 : elemOk Tryz.prog 151 4 40 := ⟨_, _, Tryz.type151, rfl, rfl, rfl, rfl, by decide⟩
@[simp] theorem agg152 : aggOf Tryz.prog 152 = some true := by kernel_rfl
@[simp] theorem sz152 : szOf Tryz.prog 152 = some 4 := by kernel_rfl
@[simp] theorem off152_0 : offOf Tryz.prog 152 0 = some 0 := by kernel_rfl
@[simp] theorem fld152_0 : fieldOf? Tryz.prog 152 0 = some (0, 9) := by kernel_rfl
@[simp] theorem off152_1 : offOf Tryz.prog 152 1 = some 1 := by kernel_rfl
@[simp] theorem fld152_1 : fieldOf? Tryz.prog 152 1 = some (1, 150) := by kernel_rfl
@[simp] theorem fok152 : fieldsOk Tryz.prog 152 = true := by kernel_rfl
@[simp] theorem zero152 : zeroCells? Tryz.prog 152 = some [.string ⟨#[]⟩, .int .i64 0, .int .i64 0, .int .i64 0] := by kernel_rfl
theorem eok152 : elemOk Tryz.prog 152 4 40 := ⟨_, _, Tryz.type152, rfl, rfl, rfl, rfl, by decide⟩
@[simp] theorem agg159 : aggOf Tryz.prog 159 = some true := by kernel_rfl
@[simp] theorem sz159 : szOf Tryz.prog 159 = some 2 := by kernel_rfl
@[simp] theorem off159_0 : offOf Tryz.prog 159 0 = some 0 := by kernel_rfl
@[simp] theorem fld159_0 : fieldOf? Tryz.prog 159 0 = some (0, 3) := by kernel_rfl
@[simp] theorem off159_1 : offOf Tryz.prog 159 1 = some 1 := by kernel_rfl
@[simp] theorem fld159_1 : fieldOf? Tryz.prog 159 1 = some (1, 9) := by kernel_rfl
@[simp] theorem fok159 : fieldsOk Tryz.prog 159 = true := by kernel_rfl
@[simp] theorem zero159 : zeroCells? Tryz.prog 159 = some [.int .i64 0, .string ⟨#[]⟩] := by kernel_rfl
theorem eok159 : elemOk Tryz.prog 159 2 24 := ⟨_, _, Tryz.type159, rfl, rfl, rfl, rfl, by decide⟩
@[simp] theorem agg178 : aggOf Tryz.prog 178 = some false := by kernel_rfl
@[simp] theorem sz178 : szOf Tryz.prog 178 = some 1 := by kernel_rfl
@[simp] theorem zero178 : zeroCells? Tryz.prog 178 = some [.pointer none] := by kernel_rfl
theorem eok178 : elemOk Tryz.prog 178 1 8 := ⟨_, _, Tryz.type178, rfl, rfl, rfl, rfl, by decide⟩
@[simp] theorem agg212 : aggOf Tryz.prog 212 = some false := by kernel_rfl
@[simp] theorem sz212 : szOf Tryz.prog 212 = some 1 := by kernel_rfl
@[simp] theorem zero212 : zeroCells? Tryz.prog 212 = some [.nilFunc] := by kernel_rfl
theorem eok212 : elemOk Tryz.prog 212 1 8 := ⟨_, _, Tryz.type212, rfl, rfl, rfl, rfl, by decide⟩
@[simp] theorem agg215 : aggOf Tryz.prog 215 = some false := by kernel_rfl
@[simp] theorem sz215 : szOf Tryz.prog 215 = some 1 := by kernel_rfl
@[simp] theorem zero215 : zeroCells? Tryz.prog 215 = some [.pointer none] := by kernel_rfl
theorem eok215 : elemOk Tryz.prog 215 1 8 := ⟨_, _, Tryz.type215, rfl, rfl, rfl, rfl, by decide⟩
@[simp] theorem agg232 : aggOf Tryz.prog 232 = some false := by kernel_rfl
@[simp] theorem sz232 : szOf Tryz.prog 232 = some 1 := by kernel_rfl
@[simp] theorem zero232 : zeroCells? Tryz.prog 232 = some [.nilFunc] := by kernel_rfl
theorem eok232 : elemOk Tryz.prog 232 1 8 := ⟨_, _, Tryz.type232, rfl, rfl, rfl, rfl, by decide⟩
@[simp] theorem agg242 : aggOf Tryz.prog 242 = some true := by kernel_rfl
@[simp] theorem sz242 : szOf Tryz.prog 242 = some 8 := by kernel_rfl
@[simp] theorem zero242 : zeroCells? Tryz.prog 242 = some [.slice none 0 0, .slice none 0 0, .slice none 0 0, .slice none 0 0, .slice none 0 0, .slice none 0 0, .slice none 0 0, .slice none 0 0] := by kernel_rfl
theorem eok242 : elemOk Tryz.prog 242 8 192 := ⟨_, _, Tryz.type242, rfl, rfl, rfl, rfl, by decide⟩
@[simp] theorem agg245 : aggOf Tryz.prog 245 = some false := by kernel_rfl
@[simp] theorem sz245 : szOf Tryz.prog 245 = some 1 := by kernel_rfl
@[simp] theorem zero245 : zeroCells? Tryz.prog 245 = some [.map none] := by kernel_rfl
theorem eok245 : elemOk Tryz.prog 245 1 8 := ⟨_, _, Tryz.type245, rfl, rfl, rfl, rfl, by decide⟩
@[simp] theorem agg246 : aggOf Tryz.prog 246 = some true := by kernel_rfl
@[simp] theorem sz246 : szOf Tryz.prog 246 = some 2 := by kernel_rfl
@[simp] theorem off246_0 : offOf Tryz.prog 246 0 = some 0 := by kernel_rfl
@[simp] theorem fld246_0 : fieldOf? Tryz.prog 246 0 = some (0, 3) := by kernel_rfl
@[simp] theorem off246_1 : offOf Tryz.prog 246 1 = some 1 := by kernel_rfl
@[simp] theorem fld246_1 : fieldOf? Tryz.prog 246 1 = some (1, 9) := by kernel_rfl
@[simp] theorem fok246 : fieldsOk Tryz.prog 246 = true := by kernel_rfl
@[simp] theorem zero246 : zeroCells? Tryz.prog 246 = some [.int .i64 0, .string ⟨#[]⟩] := by kernel_rfl
theorem eok246 : elemOk Tryz.prog 246 2 24 := ⟨_, _, Tryz.type246, rfl, rfl, rfl, rfl, by decide⟩
@[simp] theorem agg247 : aggOf Tryz.prog 247 = some true := by kernel_rfl
@[simp] theorem sz247 : szOf Tryz.prog 247 = some 2 := by kernel_rfl
@[simp] theorem off247_0 : offOf Tryz.prog 247 0 = some 0 := by kernel_rfl
@[simp] theorem fld247_0 : fieldOf? Tryz.prog 247 0 = some (0, 3) := by kernel_rfl
@[simp] theorem off247_1 : offOf Tryz.prog 247 1 = some 1 := by kernel_rfl
@[simp] theorem fld247_1 : fieldOf? Tryz.prog 247 1 = some (1, 9) := by kernel_rfl
@[simp] theorem fok247 : fieldsOk Tryz.prog 247 = true := by kernel_rfl
@[simp] theorem zero247 : zeroCells? Tryz.prog 247 = some [.int .i64 0, .string ⟨#[]⟩] := by kernel_rfl
theorem eok247 : elemOk Tryz.prog 247 2 24 := ⟨_, _, Tryz.type247, rfl, rfl, rfl, rfl, by decide⟩
@[simp] theorem agg248 : aggOf Tryz.prog 248 = some false := by kernel_rfl
@[simp] theorem sz248 : szOf Tryz.prog 248 = some 1 := by kernel_rfl
@[simp] theorem zero248 : zeroCells? Tryz.prog 248 = some [.map none] := by kernel_rfl
theorem eok248 : elemOk Tryz.prog 248 1 8 := ⟨_, _, Tryz.type248, rfl, rfl, rfl, rfl, by decide⟩
@[simp] theorem agg249 : aggOf Tryz.prog 249 = some false := by kernel_rfl
@[simp] theorem sz249 : szOf Tryz.prog 249 = some 1 := by kernel_rfl
@[simp] theorem zero249 : zeroCells? Tryz.prog 249 = some [.int .u64 0] := by kernel_rfl
theorem eok249 : elemOk Tryz.prog 249 1 8 := ⟨_, _, Tryz.type249, rfl, rfl, rfl, rfl, by decide⟩
@[simp] theorem agg278 : aggOf Tryz.prog 278 = some true := by kernel_rfl
@[simp] theorem sz278 : szOf Tryz.prog 278 = some 8 := by kernel_rfl
@[simp] theorem zero278 : zeroCells? Tryz.prog 278 = some [.string ⟨#[]⟩, .string ⟨#[]⟩, .string ⟨#[]⟩, .string ⟨#[]⟩, .string ⟨#[]⟩, .string ⟨#[]⟩, .string ⟨#[]⟩, .string ⟨#[]⟩] := by kernel_rfl
theorem eok278 : elemOk Tryz.prog 278 8 128 := ⟨_, _, Tryz.type278, rfl, rfl, rfl, rfl, by decide⟩
@[simp] theorem agg321 : aggOf Tryz.prog 321 = some false := by kernel_rfl
@[simp] theorem sz321 : szOf Tryz.prog 321 = some 1 := by kernel_rfl
@[simp] theorem zero321 : zeroCells? Tryz.prog 321 = some [.int .u64 0] := by kernel_rfl
theorem eok321 : elemOk Tryz.prog 321 1 8 := ⟨_, _, Tryz.type321, rfl, rfl, rfl, rfl, by decide⟩
@[simp] theorem agg327 : aggOf Tryz.prog 327 = some false := by kernel_rfl
@[simp] theorem sz327 : szOf Tryz.prog 327 = some 1 := by kernel_rfl
@[simp] theorem zero327 : zeroCells? Tryz.prog 327 = some [.int .u32 0] := by kernel_rfl
theorem eok327 : elemOk Tryz.prog 327 1 4 := ⟨_, _, Tryz.type327, rfl, rfl, rfl, rfl, by decide⟩
end TryTypes
end Go.Abs
