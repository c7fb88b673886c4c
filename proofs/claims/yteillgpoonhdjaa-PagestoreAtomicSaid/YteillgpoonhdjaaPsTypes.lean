/- The types of this seat: their sizes, zero values and readings, by program. -/
import Derived.Test.YteillgpoonhdjaaAbsW
import Derived.Test.YteillgpoonhdjaaProg
set_option maxRecDepth 100000
namespace Go.Abs
open Go.Proofs
namespace TryTypes
@[simp] theorem agg1 : aggOf Try.prog 1 = some false := by kernel_rfl
@[simp] theorem sz1 : szOf Try.prog 1 = some 1 := by kernel_rfl
@[simp] theorem zero1 : zeroCells? Try.prog 1 = some [.nilFunc] := by kernel_rfl
theorem eok1 : elemOk Try.prog 1 1 8 := ⟨_, _, Try.type1, rfl, rfl, rfl, rfl, by decide⟩
@[simp] theorem agg2 : aggOf Try.prog 2 = some false := by kernel_rfl
@[simp] theorem sz2 : szOf Try.prog 2 = some 1 := by kernel_rfl
@[simp] theorem zero2 : zeroCells? Try.prog 2 = some [.int .i64 0] := by kernel_rfl
theorem eok2 : elemOk Try.prog 2 1 8 := ⟨_, _, Try.type2, rfl, rfl, rfl, rfl, by decide⟩
@[simp] theorem agg3 : aggOf Try.prog 3 = some false := by kernel_rfl
@[simp] theorem sz3 : szOf Try.prog 3 = some 1 := by kernel_rfl
@[simp] theorem zero3 : zeroCells? Try.prog 3 = some [.int .i64 0] := by kernel_rfl
theorem eok3 : elemOk Try.prog 3 1 8 := ⟨_, _, Try.type3, rfl, rfl, rfl, rfl, by decide⟩
@[simp] theorem agg4 : aggOf Try.prog 4 = some false := by kernel_rfl
@[simp] theorem sz4 : szOf Try.prog 4 = some 1 := by kernel_rfl
@[simp] theorem zero4 : zeroCells? Try.prog 4 = some [.bool false] := by kernel_rfl
theorem eok4 : elemOk Try.prog 4 1 1 := ⟨_, _, Try.type4, rfl, rfl, rfl, rfl, by decide⟩
@[simp] theorem agg5 : aggOf Try.prog 5 = some false := by kernel_rfl
@[simp] theorem sz5 : szOf Try.prog 5 = some 1 := by kernel_rfl
@[simp] theorem zero5 : zeroCells? Try.prog 5 = some [.int .u8 0] := by kernel_rfl
theorem eok5 : elemOk Try.prog 5 1 1 := ⟨_, _, Try.type5, rfl, rfl, rfl, rfl, by decide⟩
@[simp] theorem agg6 : aggOf Try.prog 6 = some false := by kernel_rfl
@[simp] theorem sz6 : szOf Try.prog 6 = some 1 := by kernel_rfl
@[simp] theorem zero6 : zeroCells? Try.prog 6 = some [.int .u8 0] := by kernel_rfl
theorem eok6 : elemOk Try.prog 6 1 1 := ⟨_, _, Try.type6, rfl, rfl, rfl, rfl, by decide⟩
@[simp] theorem agg7 : aggOf Try.prog 7 = some true := by kernel_rfl
@[simp] theorem sz7 : szOf Try.prog 7 = some 4 := by kernel_rfl
@[simp] theorem off7_0 : offOf Try.prog 7 0 = some 0 := by kernel_rfl
@[simp] theorem fld7_0 : fieldOf? Try.prog 7 0 = some (0, 2) := by kernel_rfl
@[simp] theorem off7_1 : offOf Try.prog 7 1 = some 1 := by kernel_rfl
@[simp] theorem fld7_1 : fieldOf? Try.prog 7 1 = some (1, 3) := by kernel_rfl
@[simp] theorem off7_2 : offOf Try.prog 7 2 = some 2 := by kernel_rfl
@[simp] theorem fld7_2 : fieldOf? Try.prog 7 2 = some (2, 4) := by kernel_rfl
@[simp] theorem off7_3 : offOf Try.prog 7 3 = some 3 := by kernel_rfl
@[simp] theorem fld7_3 : fieldOf? Try.prog 7 3 = some (3, 6) := by kernel_rfl
@[simp] theorem fok7 : fieldsOk Try.prog 7 = true := by kernel_rfl
@[simp] theorem zero7 : zeroCells? Try.prog 7 = some [.int .i64 0, .int .i64 0, .bool false, .int .u8 0] := by kernel_rfl
theorem eok7 : elemOk Try.prog 7 4 24 := ⟨_, _, Try.type7, rfl, rfl, rfl, rfl, by decide⟩
@[simp] theorem agg8 : aggOf Try.prog 8 = some true := by kernel_rfl
@[simp] theorem sz8 : szOf Try.prog 8 = some 4 := by kernel_rfl
@[simp] theorem off8_0 : offOf Try.prog 8 0 = some 0 := by kernel_rfl
@[simp] theorem fld8_0 : fieldOf? Try.prog 8 0 = some (0, 2) := by kernel_rfl
@[simp] theorem off8_1 : offOf Try.prog 8 1 = some 1 := by kernel_rfl
@[simp] theorem fld8_1 : fieldOf? Try.prog 8 1 = some (1, 3) := by kernel_rfl
@[simp] theorem off8_2 : offOf Try.prog 8 2 = some 2 := by kernel_rfl
@[simp] theorem fld8_2 : fieldOf? Try.prog 8 2 = some (2, 4) := by kernel_rfl
@[simp] theorem off8_3 : offOf Try.prog 8 3 = some 3 := by kernel_rfl
@[simp] theorem fld8_3 : fieldOf? Try.prog 8 3 = some (3, 6) := by kernel_rfl
@[simp] theorem fok8 : fieldsOk Try.prog 8 = true := by kernel_rfl
@[simp] theorem zero8 : zeroCells? Try.prog 8 = some [.int .i64 0, .int .i64 0, .bool false, .int .u8 0] := by kernel_rfl
theorem eok8 : elemOk Try.prog 8 4 24 := ⟨_, _, Try.type8, rfl, rfl, rfl, rfl, by decide⟩
@[simp] theorem agg9 : aggOf Try.prog 9 = some false := by kernel_rfl
@[simp] theorem sz9 : szOf Try.prog 9 = some 1 := by kernel_rfl
@[simp] theorem zero9 : zeroCells? Try.prog 9 = some [.string ⟨#[]⟩] := by kernel_rfl
theorem eok9 : elemOk Try.prog 9 1 16 := ⟨_, _, Try.type9, rfl, rfl, rfl, rfl, by decide⟩
@[simp] theorem agg10 : aggOf Try.prog 10 = some false := by kernel_rfl
@[simp] theorem sz10 : szOf Try.prog 10 = some 1 := by kernel_rfl
@[simp] theorem zero10 : zeroCells? Try.prog 10 = some [.string ⟨#[]⟩] := by kernel_rfl
theorem eok10 : elemOk Try.prog 10 1 16 := ⟨_, _, Try.type10, rfl, rfl, rfl, rfl, by decide⟩
@[simp] theorem agg11 : aggOf Try.prog 11 = some false := by kernel_rfl
@[simp] theorem sz11 : szOf Try.prog 11 = some 1 := by kernel_rfl
@[simp] theorem zero11 : zeroCells? Try.prog 11 = some [.string ⟨#[]⟩] := by kernel_rfl
theorem eok11 : elemOk Try.prog 11 1 16 := ⟨_, _, Try.type11, rfl, rfl, rfl, rfl, by decide⟩
@[simp] theorem agg12 : aggOf Try.prog 12 = some false := by kernel_rfl
@[simp] theorem sz12 : szOf Try.prog 12 = some 1 := by kernel_rfl
@[simp] theorem zero12 : zeroCells? Try.prog 12 = some [.int .u64 0] := by kernel_rfl
theorem eok12 : elemOk Try.prog 12 1 8 := ⟨_, _, Try.type12, rfl, rfl, rfl, rfl, by decide⟩
@[simp] theorem agg13 : aggOf Try.prog 13 = some true := by kernel_rfl
@[simp] theorem sz13 : szOf Try.prog 13 = some 2 := by kernel_rfl
@[simp] theorem off13_0 : offOf Try.prog 13 0 = some 0 := by kernel_rfl
@[simp] theorem fld13_0 : fieldOf? Try.prog 13 0 = some (0, 9) := by kernel_rfl
@[simp] theorem off13_1 : offOf Try.prog 13 1 = some 1 := by kernel_rfl
@[simp] theorem fld13_1 : fieldOf? Try.prog 13 1 = some (1, 12) := by kernel_rfl
@[simp] theorem fok13 : fieldsOk Try.prog 13 = true := by kernel_rfl
@[simp] theorem zero13 : zeroCells? Try.prog 13 = some [.string ⟨#[]⟩, .int .u64 0] := by kernel_rfl
theorem eok13 : elemOk Try.prog 13 2 24 := ⟨_, _, Try.type13, rfl, rfl, rfl, rfl, by decide⟩
@[simp] theorem agg14 : aggOf Try.prog 14 = some true := by kernel_rfl
@[simp] theorem sz14 : szOf Try.prog 14 = some 2 := by kernel_rfl
@[simp] theorem off14_0 : offOf Try.prog 14 0 = some 0 := by kernel_rfl
@[simp] theorem fld14_0 : fieldOf? Try.prog 14 0 = some (0, 9) := by kernel_rfl
@[simp] theorem off14_1 : offOf Try.prog 14 1 = some 1 := by kernel_rfl
@[simp] theorem fld14_1 : fieldOf? Try.prog 14 1 = some (1, 12) := by kernel_rfl
@[simp] theorem fok14 : fieldsOk Try.prog 14 = true := by kernel_rfl
@[simp] theorem zero14 : zeroCells? Try.prog 14 = some [.string ⟨#[]⟩, .int .u64 0] := by kernel_rfl
theorem eok14 : elemOk Try.prog 14 2 24 := ⟨_, _, Try.type14, rfl, rfl, rfl, rfl, by decide⟩
@[simp] theorem agg15 : aggOf Try.prog 15 = some false := by kernel_rfl
@[simp] theorem sz15 : szOf Try.prog 15 = some 1 := by kernel_rfl
@[simp] theorem zero15 : zeroCells? Try.prog 15 = some [.pointer none] := by kernel_rfl
theorem eok15 : elemOk Try.prog 15 1 8 := ⟨_, _, Try.type15, rfl, rfl, rfl, rfl, by decide⟩
@[simp] theorem agg16 : aggOf Try.prog 16 = some false := by kernel_rfl
@[simp] theorem sz16 : szOf Try.prog 16 = some 1 := by kernel_rfl
@[simp] theorem zero16 : zeroCells? Try.prog 16 = some [.pointer none] := by kernel_rfl
theorem eok16 : elemOk Try.prog 16 1 8 := ⟨_, _, Try.type16, rfl, rfl, rfl, rfl, by decide⟩
@[simp] theorem agg17 : aggOf Try.prog 17 = some false := by kernel_rfl
@[simp] theorem sz17 : szOf Try.prog 17 = some 1 := by kernel_rfl
@[simp] theorem zero17 : zeroCells? Try.prog 17 = some [.pointer none] := by kernel_rfl
theorem eok17 : elemOk Try.prog 17 1 8 := ⟨_, _, Try.type17, rfl, rfl, rfl, rfl, by decide⟩
@[simp] theorem agg18 : aggOf Try.prog 18 = some true := by kernel_rfl
@[simp] theorem sz18 : szOf Try.prog 18 = some 1 := by kernel_rfl
@[simp] theorem off18_0 : offOf Try.prog 18 0 = some 0 := by kernel_rfl
@[simp] theorem fld18_0 : fieldOf? Try.prog 18 0 = some (0, 17) := by kernel_rfl
@[simp] theorem fok18 : fieldsOk Try.prog 18 = true := by kernel_rfl
@[simp] theorem zero18 : zeroCells? Try.prog 18 = some [.pointer none] := by kernel_rfl
theorem eok18 : elemOk Try.prog 18 1 8 := ⟨_, _, Try.type18, rfl, rfl, rfl, rfl, by decide⟩
@[simp] theorem agg19 : aggOf Try.prog 19 = some true := by kernel_rfl
@[simp] theorem sz19 : szOf Try.prog 19 = some 1 := by kernel_rfl
@[simp] theorem off19_0 : offOf Try.prog 19 0 = some 0 := by kernel_rfl
@[simp] theorem fld19_0 : fieldOf? Try.prog 19 0 = some (0, 17) := by kernel_rfl
@[simp] theorem fok19 : fieldsOk Try.prog 19 = true := by kernel_rfl
@[simp] theorem zero19 : zeroCells? Try.prog 19 = some [.pointer none] := by kernel_rfl
theorem eok19 : elemOk Try.prog 19 1 8 := ⟨_, _, Try.type19, rfl, rfl, rfl, rfl, by decide⟩
@[simp] theorem agg20 : aggOf Try.prog 20 = some false := by kernel_rfl
@[simp] theorem sz20 : szOf Try.prog 20 = some 1 := by kernel_rfl
@[simp] theorem zero20 : zeroCells? Try.prog 20 = some [.nilIface] := by kernel_rfl
theorem eok20 : elemOk Try.prog 20 1 16 := ⟨_, _, Try.type20, rfl, rfl, rfl, rfl, by decide⟩
@[simp] theorem agg21 : aggOf Try.prog 21 = some false := by kernel_rfl
@[simp] theorem sz21 : szOf Try.prog 21 = some 1 := by kernel_rfl
@[simp] theorem zero21 : zeroCells? Try.prog 21 = some [.int .i32 0] := by kernel_rfl
theorem eok21 : elemOk Try.prog 21 1 4 := ⟨_, _, Try.type21, rfl, rfl, rfl, rfl, by decide⟩
@[simp] theorem agg22 : aggOf Try.prog 22 = some false := by kernel_rfl
@[simp] theorem sz22 : szOf Try.prog 22 = some 1 := by kernel_rfl
@[simp] theorem elem22 : elemOf? Try.prog 22 = some 9 := by kernel_rfl
theorem src22 : srcOk Try.prog 22 := .inl ⟨9, by kernel_rfl⟩
@[simp] theorem zero22 : zeroCells? Try.prog 22 = some [.slice none 0 0] := by kernel_rfl
theorem eok22 : elemOk Try.prog 22 1 24 := ⟨_, _, Try.type22, rfl, rfl, rfl, rfl, by decide⟩
@[simp] theorem agg23 : aggOf Try.prog 23 = some false := by kernel_rfl
@[simp] theorem sz23 : szOf Try.prog 23 = some 1 := by kernel_rfl
@[simp] theorem zero23 : zeroCells? Try.prog 23 = some [.nilFunc] := by kernel_rfl
theorem eok23 : elemOk Try.prog 23 1 8 := ⟨_, _, Try.type23, rfl, rfl, rfl, rfl, by decide⟩
@[simp] theorem agg24 : aggOf Try.prog 24 = some false := by kernel_rfl
@[simp] theorem sz24 : szOf Try.prog 24 = some 1 := by kernel_rfl
@[simp] theorem zero24 : zeroCells? Try.prog 24 = some [.pointer none] := by kernel_rfl
theorem eok24 : elemOk Try.prog 24 1 8 := ⟨_, _, Try.type24, rfl, rfl, rfl, rfl, by decide⟩
@[simp] theorem agg25 : aggOf Try.prog 25 = some false := by kernel_rfl
@[simp] theorem sz25 : szOf Try.prog 25 = some 1 := by kernel_rfl
@[simp] theorem zero25 : zeroCells? Try.prog 25 = some [.nilFunc] := by kernel_rfl
theorem eok25 : elemOk Try.prog 25 1 8 := ⟨_, _, Try.type25, rfl, rfl, rfl, rfl, by decide⟩
@[simp] theorem agg26 : aggOf Try.prog 26 = some false := by kernel_rfl
@[simp] theorem sz26 : szOf Try.prog 26 = some 1 := by kernel_rfl
@[simp] theorem zero26 : zeroCells? Try.prog 26 = some [.nilFunc] := by kernel_rfl
theorem eok26 : elemOk Try.prog 26 1 8 := ⟨_, _, Try.type26, rfl, rfl, rfl, rfl, by decide⟩
@[simp] theorem agg27 : aggOf Try.prog 27 = some false := by kernel_rfl
@[simp] theorem sz27 : szOf Try.prog 27 = some 1 := by kernel_rfl
@[simp] theorem zero27 : zeroCells? Try.prog 27 = some [.int .i64 0] := by kernel_rfl
theorem eok27 : elemOk Try.prog 27 1 8 := ⟨_, _, Try.type27, rfl, rfl, rfl, rfl, by decide⟩
@[simp] theorem agg28 : aggOf Try.prog 28 = some false := by kernel_rfl
@[simp] theorem sz28 : szOf Try.prog 28 = some 1 := by kernel_rfl
@[simp] theorem zero28 : zeroCells? Try.prog 28 = some [.nilFunc] := by kernel_rfl
theorem eok28 : elemOk Try.prog 28 1 8 := ⟨_, _, Try.type28, rfl, rfl, rfl, rfl, by decide⟩
@[simp] theorem agg30 : aggOf Try.prog 30 = some false := by kernel_rfl
@[simp] theorem sz30 : szOf Try.prog 30 = some 1 := by kernel_rfl
@[simp] theorem zero30 : zeroCells? Try.prog 30 = some [.nilFunc] := by kernel_rfl
theorem eok30 : elemOk Try.prog 30 1 8 := ⟨_, _, Try.type30, rfl, rfl, rfl, rfl, by decide⟩
@[simp] theorem agg31 : aggOf Try.prog 31 = some false := by kernel_rfl
@[simp] theorem sz31 : szOf Try.prog 31 = some 1 := by kernel_rfl
@[simp] theorem zero31 : zeroCells? Try.prog 31 = some [.nilFunc] := by kernel_rfl
theorem eok31 : elemOk Try.prog 31 1 8 := ⟨_, _, Try.type31, rfl, rfl, rfl, rfl, by decide⟩
@[simp] theorem agg32 : aggOf Try.prog 32 = some false := by kernel_rfl
@[simp] theorem sz32 : szOf Try.prog 32 = some 1 := by kernel_rfl
@[simp] theorem elem32 : elemOf? Try.prog 32 = some 38 := by kernel_rfl
theorem src32 : srcOk Try.prog 32 := .inl ⟨38, by kernel_rfl⟩
@[simp] theorem zero32 : zeroCells? Try.prog 32 = some [.slice none 0 0] := by kernel_rfl
theorem eok32 : elemOk Try.prog 32 1 24 := ⟨_, _, Try.type32, rfl, rfl, rfl, rfl, by decide⟩
@[simp] theorem agg33 : aggOf Try.prog 33 = some false := by kernel_rfl
@[simp] theorem sz33 : szOf Try.prog 33 = some 1 := by kernel_rfl
@[simp] theorem zero33 : zeroCells? Try.prog 33 = some [.nilFunc] := by kernel_rfl
theorem eok33 : elemOk Try.prog 33 1 8 := ⟨_, _, Try.type33, rfl, rfl, rfl, rfl, by decide⟩
@[simp] theorem agg34 : aggOf Try.prog 34 = some false := by kernel_rfl
@[simp] theorem sz34 : szOf Try.prog 34 = some 1 := by kernel_rfl
@[simp] theorem zero34 : zeroCells? Try.prog 34 = some [.pointer none] := by kernel_rfl
theorem eok34 : elemOk Try.prog 34 1 8 := ⟨_, _, Try.type34, rfl, rfl, rfl, rfl, by decide⟩
@[simp] theorem agg35 : aggOf Try.prog 35 = some false := by kernel_rfl
@[simp] theorem sz35 : szOf Try.prog 35 = some 1 := by kernel_rfl
@[simp] theorem zero35 : zeroCells? Try.prog 35 = some [.nilFunc] := by kernel_rfl
theorem eok35 : elemOk Try.prog 35 1 8 := ⟨_, _, Try.type35, rfl, rfl, rfl, rfl, by decide⟩
@[simp] theorem agg36 : aggOf Try.prog 36 = some false := by kernel_rfl
@[simp] theorem sz36 : szOf Try.prog 36 = some 1 := by kernel_rfl
@[simp] theorem zero36 : zeroCells? Try.prog 36 = some [.nilFunc] := by kernel_rfl
theorem eok36 : elemOk Try.prog 36 1 8 := ⟨_, _, Try.type36, rfl, rfl, rfl, rfl, by decide⟩
@[simp] theorem agg37 : aggOf Try.prog 37 = some true := by kernel_rfl
@[simp] theorem sz37 : szOf Try.prog 37 = some 3 := by kernel_rfl
@[simp] theorem off37_0 : offOf Try.prog 37 0 = some 0 := by kernel_rfl
@[simp] theorem fld37_0 : fieldOf? Try.prog 37 0 = some (0, 5) := by kernel_rfl
@[simp] theorem off37_1 : offOf Try.prog 37 1 = some 1 := by kernel_rfl
@[simp] theorem fld37_1 : fieldOf? Try.prog 37 1 = some (1, 9) := by kernel_rfl
@[simp] theorem off37_2 : offOf Try.prog 37 2 = some 2 := by kernel_rfl
@[simp] theorem fld37_2 : fieldOf? Try.prog 37 2 = some (2, 3) := by kernel_rfl
@[simp] theorem fok37 : fieldsOk Try.prog 37 = true := by kernel_rfl
@[simp] theorem zero37 : zeroCells? Try.prog 37 = some [.int .u8 0, .string ⟨#[]⟩, .int .i64 0] := by kernel_rfl
theorem eok37 : elemOk Try.prog 37 3 32 := ⟨_, _, Try.type37, rfl, rfl, rfl, rfl, by decide⟩
@[simp] theorem agg38 : aggOf Try.prog 38 = some true := by kernel_rfl
@[simp] theorem sz38 : szOf Try.prog 38 = some 3 := by kernel_rfl
@[simp] theorem off38_0 : offOf Try.prog 38 0 = some 0 := by kernel_rfl
@[simp] theorem fld38_0 : fieldOf? Try.prog 38 0 = some (0, 5) := by kernel_rfl
@[simp] theorem off38_1 : offOf Try.prog 38 1 = some 1 := by kernel_rfl
@[simp] theorem fld38_1 : fieldOf? Try.prog 38 1 = some (1, 9) := by kernel_rfl
@[simp] theorem off38_2 : offOf Try.prog 38 2 = some 2 := by kernel_rfl
@[simp] theorem fld38_2 : fieldOf? Try.prog 38 2 = some (2, 3) := by kernel_rfl
@[simp] theorem fok38 : fieldsOk Try.prog 38 = true := by kernel_rfl
@[simp] theorem zero38 : zeroCells? Try.prog 38 = some [.int .u8 0, .string ⟨#[]⟩, .int .i64 0] := by kernel_rfl
theorem eok38 : elemOk Try.prog 38 3 32 := ⟨_, _, Try.type38, rfl, rfl, rfl, rfl, by decide⟩
@[simp] theorem agg40 : aggOf Try.prog 40 = some false := by kernel_rfl
@[simp] theorem sz40 : szOf Try.prog 40 = some 1 := by kernel_rfl
@[simp] theorem zero40 : zeroCells? Try.prog 40 = some [.nilFunc] := by kernel_rfl
theorem eok40 : elemOk Try.prog 40 1 8 := ⟨_, _, Try.type40, rfl, rfl, rfl, rfl, by decide⟩
@[simp] theorem agg41 : aggOf Try.prog 41 = some false := by kernel_rfl
@[simp] theorem sz41 : szOf Try.prog 41 = some 1 := by kernel_rfl
@[simp] theorem zero41 : zeroCells? Try.prog 41 = some [.nilFunc] := by kernel_rfl
theorem eok41 : elemOk Try.prog 41 1 8 := ⟨_, _, Try.type41, rfl, rfl, rfl, rfl, by decide⟩
@[simp] theorem agg42 : aggOf Try.prog 42 = some false := by kernel_rfl
@[simp] theorem sz42 : szOf Try.prog 42 = some 1 := by kernel_rfl
@[simp] theorem zero42 : zeroCells? Try.prog 42 = some [.nilFunc] := by kernel_rfl
theorem eok42 : elemOk Try.prog 42 1 8 := ⟨_, _, Try.type42, rfl, rfl, rfl, rfl, by decide⟩
@[simp] theorem agg43 : aggOf Try.prog 43 = some false := by kernel_rfl
@[simp] theorem sz43 : szOf Try.prog 43 = some 1 := by kernel_rfl
@[simp] theorem zero43 : zeroCells? Try.prog 43 = some [.nilFunc] := by kernel_rfl
theorem eok43 : elemOk Try.prog 43 1 8 := ⟨_, _, Try.type43, rfl, rfl, rfl, rfl, by decide⟩
@[simp] theorem agg44 : aggOf Try.prog 44 = some false := by kernel_rfl
@[simp] theorem sz44 : szOf Try.prog 44 = some 1 := by kernel_rfl
@[simp] theorem elem44 : elemOf? Try.prog 44 = some 3 := by kernel_rfl
theorem src44 : srcOk Try.prog 44 := .inl ⟨3, by kernel_rfl⟩
@[simp] theorem zero44 : zeroCells? Try.prog 44 = some [.slice none 0 0] := by kernel_rfl
theorem eok44 : elemOk Try.prog 44 1 24 := ⟨_, _, Try.type44, rfl, rfl, rfl, rfl, by decide⟩
@[simp] theorem agg45 : aggOf Try.prog 45 = some false := by kernel_rfl
@[simp] theorem sz45 : szOf Try.prog 45 = some 1 := by kernel_rfl
@[simp] theorem zero45 : zeroCells? Try.prog 45 = some [.nilFunc] := by kernel_rfl
theorem eok45 : elemOk Try.prog 45 1 8 := ⟨_, _, Try.type45, rfl, rfl, rfl, rfl, by decide⟩
@[simp] theorem agg46 : aggOf Try.prog 46 = some true := by kernel_rfl
@[simp] theorem sz46 : szOf Try.prog 46 = some 5 := by kernel_rfl
@[simp] theorem off46_0 : offOf Try.prog 46 0 = some 0 := by kernel_rfl
@[simp] theorem fld46_0 : fieldOf? Try.prog 46 0 = some (0, 22) := by kernel_rfl
@[simp] theorem off46_1 : offOf Try.prog 46 1 = some 1 := by kernel_rfl
@[simp] theorem fld46_1 : fieldOf? Try.prog 46 1 = some (1, 3) := by kernel_rfl
@[simp] theorem off46_2 : offOf Try.prog 46 2 = some 2 := by kernel_rfl
@[simp] theorem fld46_2 : fieldOf? Try.prog 46 2 = some (2, 3) := by kernel_rfl
@[simp] theorem off46_3 : offOf Try.prog 46 3 = some 3 := by kernel_rfl
@[simp] theorem fld46_3 : fieldOf? Try.prog 46 3 = some (3, 3) := by kernel_rfl
@[simp] theorem off46_4 : offOf Try.prog 46 4 = some 4 := by kernel_rfl
@[simp] theorem fld46_4 : fieldOf? Try.prog 46 4 = some (4, 4) := by kernel_rfl
@[simp] theorem fok46 : fieldsOk Try.prog 46 = true := by kernel_rfl
@[simp] theorem zero46 : zeroCells? Try.prog 46 = some [.slice none 0 0, .int .i64 0, .int .i64 0, .int .i64 0, .bool false] := by kernel_rfl
theorem eok46 : elemOk Try.prog 46 5 56 := ⟨_, _, Try.type46, rfl, rfl, rfl, rfl, by decide⟩
@[simp] theorem agg47 : aggOf Try.prog 47 = some true := by kernel_rfl
@[simp] theorem sz47 : szOf Try.prog 47 = some 5 := by kernel_rfl
@[simp] theorem off47_0 : offOf Try.prog 47 0 = some 0 := by kernel_rfl
@[simp] theorem fld47_0 : fieldOf? Try.prog 47 0 = some (0, 22) := by kernel_rfl
@[simp] theorem off47_1 : offOf Try.prog 47 1 = some 1 := by kernel_rfl
@[simp] theorem fld47_1 : fieldOf? Try.prog 47 1 = some (1, 3) := by kernel_rfl
@[simp] theorem off47_2 : offOf Try.prog 47 2 = some 2 := by kernel_rfl
@[simp] theorem fld47_2 : fieldOf? Try.prog 47 2 = some (2, 3) := by kernel_rfl
@[simp] theorem off47_3 : offOf Try.prog 47 3 = some 3 := by kernel_rfl
@[simp] theorem fld47_3 : fieldOf? Try.prog 47 3 = some (3, 3) := by kernel_rfl
@[simp] theorem off47_4 : offOf Try.prog 47 4 = some 4 := by kernel_rfl
@[simp] theorem fld47_4 : fieldOf? Try.prog 47 4 = some (4, 4) := by kernel_rfl
@[simp] theorem fok47 : fieldsOk Try.prog 47 = true := by kernel_rfl
@[simp] theorem zero47 : zeroCells? Try.prog 47 = some [.slice none 0 0, .int .i64 0, .int .i64 0, .int .i64 0, .bool false] := by kernel_rfl
theorem eok47 : elemOk Try.prog 47 5 56 := ⟨_, _, Try.type47, rfl, rfl, rfl, rfl, by decide⟩
@[simp] theorem agg48 : aggOf Try.prog 48 = some true := by kernel_rfl
@[simp] theorem sz48 : szOf Try.prog 48 = some 5 := by kernel_rfl
@[simp] theorem off48_0 : offOf Try.prog 48 0 = some 0 := by kernel_rfl
@[simp] theorem fld48_0 : fieldOf? Try.prog 48 0 = some (0, 22) := by kernel_rfl
@[simp] theorem off48_1 : offOf Try.prog 48 1 = some 1 := by kernel_rfl
@[simp] theorem fld48_1 : fieldOf? Try.prog 48 1 = some (1, 3) := by kernel_rfl
@[simp] theorem off48_2 : offOf Try.prog 48 2 = some 2 := by kernel_rfl
@[simp] theorem fld48_2 : fieldOf? Try.prog 48 2 = some (2, 3) := by kernel_rfl
@[simp] theorem off48_3 : offOf Try.prog 48 3 = some 3 := by kernel_rfl
@[simp] theorem fld48_3 : fieldOf? Try.prog 48 3 = some (3, 3) := by kernel_rfl
@[simp] theorem off48_4 : offOf Try.prog 48 4 = some 4 := by kernel_rfl
@[simp] theorem fld48_4 : fieldOf? Try.prog 48 4 = some (4, 4) := by kernel_rfl
@[simp] theorem fok48 : fieldsOk Try.prog 48 = true := by kernel_rfl
@[simp] theorem zero48 : zeroCells? Try.prog 48 = some [.slice none 0 0, .int .i64 0, .int .i64 0, .int .i64 0, .bool false] := by kernel_rfl
theorem eok48 : elemOk Try.prog 48 5 56 := ⟨_, _, Try.type48, rfl, rfl, rfl, rfl, by decide⟩
@[simp] theorem agg49 : aggOf Try.prog 49 = some true := by kernel_rfl
@[simp] theorem sz49 : szOf Try.prog 49 = some 5 := by kernel_rfl
@[simp] theorem off49_0 : offOf Try.prog 49 0 = some 0 := by kernel_rfl
@[simp] theorem fld49_0 : fieldOf? Try.prog 49 0 = some (0, 22) := by kernel_rfl
@[simp] theorem off49_1 : offOf Try.prog 49 1 = some 1 := by kernel_rfl
@[simp] theorem fld49_1 : fieldOf? Try.prog 49 1 = some (1, 3) := by kernel_rfl
@[simp] theorem off49_2 : offOf Try.prog 49 2 = some 2 := by kernel_rfl
@[simp] theorem fld49_2 : fieldOf? Try.prog 49 2 = some (2, 3) := by kernel_rfl
@[simp] theorem off49_3 : offOf Try.prog 49 3 = some 3 := by kernel_rfl
@[simp] theorem fld49_3 : fieldOf? Try.prog 49 3 = some (3, 3) := by kernel_rfl
@[simp] theorem off49_4 : offOf Try.prog 49 4 = some 4 := by kernel_rfl
@[simp] theorem fld49_4 : fieldOf? Try.prog 49 4 = some (4, 4) := by kernel_rfl
@[simp] theorem fok49 : fieldsOk Try.prog 49 = true := by kernel_rfl
@[simp] theorem zero49 : zeroCells? Try.prog 49 = some [.slice none 0 0, .int .i64 0, .int .i64 0, .int .i64 0, .bool false] := by kernel_rfl
theorem eok49 : elemOk Try.prog 49 5 56 := ⟨_, _, Try.type49, rfl, rfl, rfl, rfl, by decide⟩
@[simp] theorem agg50 : aggOf Try.prog 50 = some false := by kernel_rfl
@[simp] theorem sz50 : szOf Try.prog 50 = some 1 := by kernel_rfl
@[simp] theorem zero50 : zeroCells? Try.prog 50 = some [.nilFunc] := by kernel_rfl
theorem eok50 : elemOk Try.prog 50 1 8 := ⟨_, _, Try.type50, rfl, rfl, rfl, rfl, by decide⟩
@[simp] theorem agg51 : aggOf Try.prog 51 = some false := by kernel_rfl
@[simp] theorem sz51 : szOf Try.prog 51 = some 1 := by kernel_rfl
@[simp] theorem zero51 : zeroCells? Try.prog 51 = some [.nilFunc] := by kernel_rfl
theorem eok51 : elemOk Try.prog 51 1 8 := ⟨_, _, Try.type51, rfl, rfl, rfl, rfl, by decide⟩
@[simp] theorem agg52 : aggOf Try.prog 52 = some false := by kernel_rfl
@[simp] theorem sz52 : szOf Try.prog 52 = some 1 := by kernel_rfl
@[simp] theorem zero52 : zeroCells? Try.prog 52 = some [.nilFunc] := by kernel_rfl
theorem eok52 : elemOk Try.prog 52 1 8 := ⟨_, _, Try.type52, rfl, rfl, rfl, rfl, by decide⟩
@[simp] theorem agg53 : aggOf Try.prog 53 = some false := by kernel_rfl
@[simp] theorem sz53 : szOf Try.prog 53 = some 1 := by kernel_rfl
@[simp] theorem zero53 : zeroCells? Try.prog 53 = some [.nilFunc] := by kernel_rfl
theorem eok53 : elemOk Try.prog 53 1 8 := ⟨_, _, Try.type53, rfl, rfl, rfl, rfl, by decide⟩
@[simp] theorem agg54 : aggOf Try.prog 54 = some true := by kernel_rfl
@[simp] theorem sz54 : szOf Try.prog 54 = some 4 := by kernel_rfl
@[simp] theorem off54_0 : offOf Try.prog 54 0 = some 0 := by kernel_rfl
@[simp] theorem fld54_0 : fieldOf? Try.prog 54 0 = some (0, 17) := by kernel_rfl
@[simp] theorem off54_1 : offOf Try.prog 54 1 = some 1 := by kernel_rfl
@[simp] theorem fld54_1 : fieldOf? Try.prog 54 1 = some (1, 17) := by kernel_rfl
@[simp] theorem off54_2 : offOf Try.prog 54 2 = some 2 := by kernel_rfl
@[simp] theorem fld54_2 : fieldOf? Try.prog 54 2 = some (2, 17) := by kernel_rfl
@[simp] theorem off54_3 : offOf Try.prog 54 3 = some 3 := by kernel_rfl
@[simp] theorem fld54_3 : fieldOf? Try.prog 54 3 = some (3, 9) := by kernel_rfl
@[simp] theorem fok54 : fieldsOk Try.prog 54 = true := by kernel_rfl
@[simp] theorem zero54 : zeroCells? Try.prog 54 = some [.pointer none, .pointer none, .pointer none, .string ⟨#[]⟩] := by kernel_rfl
theorem eok54 : elemOk Try.prog 54 4 40 := ⟨_, _, Try.type54, rfl, rfl, rfl, rfl, by decide⟩
@[simp] theorem agg55 : aggOf Try.prog 55 = some true := by kernel_rfl
@[simp] theorem sz55 : szOf Try.prog 55 = some 4 := by kernel_rfl
@[simp] theorem off55_0 : offOf Try.prog 55 0 = some 0 := by kernel_rfl
@[simp] theorem fld55_0 : fieldOf? Try.prog 55 0 = some (0, 17) := by kernel_rfl
@[simp] theorem off55_1 : offOf Try.prog 55 1 = some 1 := by kernel_rfl
@[simp] theorem fld55_1 : fieldOf? Try.prog 55 1 = some (1, 17) := by kernel_rfl
@[simp] theorem off55_2 : offOf Try.prog 55 2 = some 2 := by kernel_rfl
@[simp] theorem fld55_2 : fieldOf? Try.prog 55 2 = some (2, 17) := by kernel_rfl
@[simp] theorem off55_3 : offOf Try.prog 55 3 = some 3 := by kernel_rfl
@[simp] theorem fld55_3 : fieldOf? Try.prog 55 3 = some (3, 9) := by kernel_rfl
@[simp] theorem fok55 : fieldsOk Try.prog 55 = true := by kernel_rfl
@[simp] theorem zero55 : zeroCells? Try.prog 55 = some [.pointer none, .pointer none, .pointer none, .string ⟨#[]⟩] := by kernel_rfl
theorem eok55 : elemOk Try.prog 55 4 40 := ⟨_, _, Try.type55, rfl, rfl, rfl, rfl, by decide⟩
@[simp] theorem agg56 : aggOf Try.prog 56 = some true := by kernel_rfl
@[simp] theorem sz56 : szOf Try.prog 56 = some 0 := by kernel_rfl
@[simp] theorem zero56 : zeroCells? Try.prog 56 = some [] := by kernel_rfl
@[simp] theorem agg57 : aggOf Try.prog 57 = some true := by kernel_rfl
@[simp] theorem sz57 : szOf Try.prog 57 = some 0 := by kernel_rfl
@[simp] theorem fld57_0 : fieldOf? Try.prog 57 0 = some (0, 56) := by kernel_rfl
@[simp] theorem fok57 : fieldsOk Try.prog 57 = true := by kernel_rfl
@[simp] theorem zero57 : zeroCells? Try.prog 57 = some [] := by kernel_rfl
@[simp] theorem agg58 : aggOf Try.prog 58 = some true := by kernel_rfl
@[simp] theorem sz58 : szOf Try.prog 58 = some 0 := by kernel_rfl
@[simp] theorem fld58_0 : fieldOf? Try.prog 58 0 = some (0, 56) := by kernel_rfl
@[simp] theorem fok58 : fieldsOk Try.prog 58 = true := by kernel_rfl
@[simp] theorem zero58 : zeroCells? Try.prog 58 = some [] := by kernel_rfl
@[simp] theorem agg59 : aggOf Try.prog 59 = some false := by kernel_rfl
@[simp] theorem sz59 : szOf Try.prog 59 = some 1 := by kernel_rfl
@[simp] theorem zero59 : zeroCells? Try.prog 59 = some [.int .u32 0] := by kernel_rfl
theorem eok59 : elemOk Try.prog 59 1 4 := ⟨_, _, Try.type59, rfl, rfl, rfl, rfl, by decide⟩
@[simp] theorem agg60 : aggOf Try.prog 60 = some false := by kernel_rfl
@[simp] theorem sz60 : szOf Try.prog 60 = some 1 := by kernel_rfl
@[simp] theorem zero60 : zeroCells? Try.prog 60 = some [.int .u8 0] := by kernel_rfl
theorem eok60 : elemOk Try.prog 60 1 1 := ⟨_, _, Try.type60, rfl, rfl, rfl, rfl, by decide⟩
@[simp] theorem agg61 : aggOf Try.prog 61 = some false := by kernel_rfl
@[simp] theorem sz61 : szOf Try.prog 61 = some 1 := by kernel_rfl
@[simp] theorem zero61 : zeroCells? Try.prog 61 = some [.int .u8 0] := by kernel_rfl
theorem eok61 : elemOk Try.prog 61 1 1 := ⟨_, _, Try.type61, rfl, rfl, rfl, rfl, by decide⟩
@[simp] theorem agg62 : aggOf Try.prog 62 = some false := by kernel_rfl
@[simp] theorem sz62 : szOf Try.prog 62 = some 1 := by kernel_rfl
@[simp] theorem zero62 : zeroCells? Try.prog 62 = some [.nilFunc] := by kernel_rfl
theorem eok62 : elemOk Try.prog 62 1 8 := ⟨_, _, Try.type62, rfl, rfl, rfl, rfl, by decide⟩
@[simp] theorem agg63 : aggOf Try.prog 63 = some false := by kernel_rfl
@[simp] theorem sz63 : szOf Try.prog 63 = some 1 := by kernel_rfl
@[simp] theorem zero63 : zeroCells? Try.prog 63 = some [.pointer none] := by kernel_rfl
theorem eok63 : elemOk Try.prog 63 1 8 := ⟨_, _, Try.type63, rfl, rfl, rfl, rfl, by decide⟩
@[simp] theorem agg64 : aggOf Try.prog 64 = some false := by kernel_rfl
@[simp] theorem sz64 : szOf Try.prog 64 = some 1 := by kernel_rfl
@[simp] theorem zero64 : zeroCells? Try.prog 64 = some [.int .i32 0] := by kernel_rfl
theorem eok64 : elemOk Try.prog 64 1 4 := ⟨_, _, Try.type64, rfl, rfl, rfl, rfl, by decide⟩
@[simp] theorem agg65 : aggOf Try.prog 65 = some false := by kernel_rfl
@[simp] theorem sz65 : szOf Try.prog 65 = some 1 := by kernel_rfl
@[simp] theorem zero65 : zeroCells? Try.prog 65 = some [.int .i32 0] := by kernel_rfl
theorem eok65 : elemOk Try.prog 65 1 4 := ⟨_, _, Try.type65, rfl, rfl, rfl, rfl, by decide⟩
@[simp] theorem agg66 : aggOf Try.prog 66 = some true := by kernel_rfl
@[simp] theorem sz66 : szOf Try.prog 66 = some 11 := by kernel_rfl
@[simp] theorem off66_0 : offOf Try.prog 66 0 = some 0 := by kernel_rfl
@[simp] theorem fld66_0 : fieldOf? Try.prog 66 0 = some (0, 12) := by kernel_rfl
@[simp] theorem off66_1 : offOf Try.prog 66 1 = some 1 := by kernel_rfl
@[simp] theorem fld66_1 : fieldOf? Try.prog 66 1 = some (1, 12) := by kernel_rfl
@[simp] theorem off66_2 : offOf Try.prog 66 2 = some 2 := by kernel_rfl
@[simp] theorem fld66_2 : fieldOf? Try.prog 66 2 = some (2, 59) := by kernel_rfl
@[simp] theorem off66_3 : offOf Try.prog 66 3 = some 3 := by kernel_rfl
@[simp] theorem fld66_3 : fieldOf? Try.prog 66 3 = some (3, 60) := by kernel_rfl
@[simp] theorem off66_4 : offOf Try.prog 66 4 = some 4 := by kernel_rfl
@[simp] theorem fld66_4 : fieldOf? Try.prog 66 4 = some (4, 5) := by kernel_rfl
@[simp] theorem off66_5 : offOf Try.prog 66 5 = some 5 := by kernel_rfl
@[simp] theorem fld66_5 : fieldOf? Try.prog 66 5 = some (5, 5) := by kernel_rfl
@[simp] theorem off66_6 : offOf Try.prog 66 6 = some 6 := by kernel_rfl
@[simp] theorem fld66_6 : fieldOf? Try.prog 66 6 = some (6, 61) := by kernel_rfl
@[simp] theorem off66_7 : offOf Try.prog 66 7 = some 7 := by kernel_rfl
@[simp] theorem fld66_7 : fieldOf? Try.prog 66 7 = some (7, 62) := by kernel_rfl
@[simp] theorem off66_8 : offOf Try.prog 66 8 = some 8 := by kernel_rfl
@[simp] theorem fld66_8 : fieldOf? Try.prog 66 8 = some (8, 63) := by kernel_rfl
@[simp] theorem off66_9 : offOf Try.prog 66 9 = some 9 := by kernel_rfl
@[simp] theorem fld66_9 : fieldOf? Try.prog 66 9 = some (9, 64) := by kernel_rfl
@[simp] theorem off66_10 : offOf Try.prog 66 10 = some 10 := by kernel_rfl
@[simp] theorem fld66_10 : fieldOf? Try.prog 66 10 = some (10, 65) := by kernel_rfl
@[simp] theorem fok66 : fieldsOk Try.prog 66 = true := by kernel_rfl
@[simp] theorem zero66 : zeroCells? Try.prog 66 = some [.int .u64 0, .int .u64 0, .int .u32 0, .int .u8 0, .int .u8 0, .int .u8 0, .int .u8 0, .nilFunc, .pointer none, .int .i32 0, .int .i32 0] := by kernel_rfl
theorem eok66 : elemOk Try.prog 66 11 48 := ⟨_, _, Try.type66, rfl, rfl, rfl, rfl, by decide⟩
@[simp] theorem agg67 : aggOf Try.prog 67 = some true := by kernel_rfl
@[simp] theorem sz67 : szOf Try.prog 67 = some 11 := by kernel_rfl
@[simp] theorem off67_0 : offOf Try.prog 67 0 = some 0 := by kernel_rfl
@[simp] theorem fld67_0 : fieldOf? Try.prog 67 0 = some (0, 12) := by kernel_rfl
@[simp] theorem off67_1 : offOf Try.prog 67 1 = some 1 := by kernel_rfl
@[simp] theorem fld67_1 : fieldOf? Try.prog 67 1 = some (1, 12) := by kernel_rfl
@[simp] theorem off67_2 : offOf Try.prog 67 2 = some 2 := by kernel_rfl
@[simp] theorem fld67_2 : fieldOf? Try.prog 67 2 = some (2, 59) := by kernel_rfl
@[simp] theorem off67_3 : offOf Try.prog 67 3 = some 3 := by kernel_rfl
@[simp] theorem fld67_3 : fieldOf? Try.prog 67 3 = some (3, 60) := by kernel_rfl
@[simp] theorem off67_4 : offOf Try.prog 67 4 = some 4 := by kernel_rfl
@[simp] theorem fld67_4 : fieldOf? Try.prog 67 4 = some (4, 5) := by kernel_rfl
@[simp] theorem off67_5 : offOf Try.prog 67 5 = some 5 := by kernel_rfl
@[simp] theorem fld67_5 : fieldOf? Try.prog 67 5 = some (5, 5) := by kernel_rfl
@[simp] theorem off67_6 : offOf Try.prog 67 6 = some 6 := by kernel_rfl
@[simp] theorem fld67_6 : fieldOf? Try.prog 67 6 = some (6, 61) := by kernel_rfl
@[simp] theorem off67_7 : offOf Try.prog 67 7 = some 7 := by kernel_rfl
@[simp] theorem fld67_7 : fieldOf? Try.prog 67 7 = some (7, 62) := by kernel_rfl
@[simp] theorem off67_8 : offOf Try.prog 67 8 = some 8 := by kernel_rfl
@[simp] theorem fld67_8 : fieldOf? Try.prog 67 8 = some (8, 63) := by kernel_rfl
@[simp] theorem off67_9 : offOf Try.prog 67 9 = some 9 := by kernel_rfl
@[simp] theorem fld67_9 : fieldOf? Try.prog 67 9 = some (9, 64) := by kernel_rfl
@[simp] theorem off67_10 : offOf Try.prog 67 10 = some 10 := by kernel_rfl
@[simp] theorem fld67_10 : fieldOf? Try.prog 67 10 = some (10, 65) := by kernel_rfl
@[simp] theorem fok67 : fieldsOk Try.prog 67 = true := by kernel_rfl
@[simp] theorem zero67 : zeroCells? Try.prog 67 = some [.int .u64 0, .int .u64 0, .int .u32 0, .int .u8 0, .int .u8 0, .int .u8 0, .int .u8 0, .nilFunc, .pointer none, .int .i32 0, .int .i32 0] := by kernel_rfl
theorem eok67 : elemOk Try.prog 67 11 48 := ⟨_, _, Try.type67, rfl, rfl, rfl, rfl, by decide⟩
@[simp] theorem agg68 : aggOf Try.prog 68 = some false := by kernel_rfl
@[simp] theorem sz68 : szOf Try.prog 68 = some 1 := by kernel_rfl
@[simp] theorem zero68 : zeroCells? Try.prog 68 = some [.pointer none] := by kernel_rfl
theorem eok68 : elemOk Try.prog 68 1 8 := ⟨_, _, Try.type68, rfl, rfl, rfl, rfl, by decide⟩
end TryTypes
end Go.Abs
