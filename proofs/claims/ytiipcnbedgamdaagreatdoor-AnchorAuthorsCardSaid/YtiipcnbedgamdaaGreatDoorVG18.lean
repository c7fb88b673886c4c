/- The types of the seat: their sizes, zero values and readings, by program. -/
import Derived.Test.YtiipcnbedgamdaaGreatDoorVG16
import Derived.Test.YtiipcnbedgamdaaGreatDoorProg
set_option maxRecDepth 100000
namespace Go.Abs
open Go.Proofs
namespace TryTypes
@[simp] theorem agg3 : aggOf Tryz.prog 3 = some false := by kernel_rfl
@[simp] theorem sz3 : szOf Tryz.prog 3 = some 1 := by kernel_rfl
@[simp] theorem zero3 : zeroCells? Tryz.prog 3 = some [.int .i64 0] := by kernel_rfl
theorem eok3 : elemOk Tryz.prog 3 1 8 := ⟨_, _, Tryz.type3, rfl, rfl, rfl, rfl, by decide⟩
@[simp] theorem agg4 : aggOf Tryz.prog 4 = some false := by kernel_rfl
@[simp] theorem sz4 : szOf Tryz.prog 4 = some 1 := by kernel_rfl
@[simp] theorem zero4 : zeroCells? Tryz.prog 4 = some [.bool false] := by kernel_rfl
theorem eok4 : elemOk Tryz.prog 4 1 1 := ⟨_, _, Tryz.type4, rfl, rfl, rfl, rfl, by decide⟩
@[simp] theorem agg9 : aggOf Tryz.prog 9 = some false := by kernel_rfl
@[simp] theorem sz9 : szOf Tryz.prog 9 = some 1 := by kernel_rfl
@[simp] theorem zero9 : zeroCells? Tryz.prog 9 = some [.string ⟨#[]⟩] := by kernel_rfl
theorem eok9 : elemOk Tryz.prog 9 1 16 := ⟨_, _, Tryz.type9, rfl, rfl, rfl, rfl, by decide⟩
@[simp] theorem agg22 : aggOf Tryz.prog 22 = some false := by kernel_rfl
@[simp] theorem sz22 : szOf Tryz.prog 22 = some 1 := by kernel_rfl
@[simp] theorem elem22 : elemOf? Tryz.prog 22 = some 53 := by kernel_rfl
theorem src22 : srcOk Tryz.prog 22 := .inl ⟨53, by kernel_rfl⟩
@[simp] theorem zero22 : zeroCells? Tryz.prog 22 = some [.slice none 0 0] := by kernel_rfl
theorem eok22 : elemOk Tryz.prog 22 1 24 := ⟨_, _, Tryz.type22, rfl, rfl, rfl, rfl, by decide⟩
@[simp] theorem agg23 : aggOf Tryz.prog 23 = some false := by kernel_rfl
@[simp] theorem sz23 : szOf Tryz.prog 23 = some 1 := by kernel_rfl
@[simp] theorem elem23 : elemOf? Tryz.prog 23 = some 81 := by kernel_rfl
theorem src23 : srcOk Tryz.prog 23 := .inl ⟨81, by kernel_rfl⟩
@[simp] theorem zero23 : zeroCells? Tryz.prog 23 = some [.slice none 0 0] := by kernel_rfl
theorem eok23 : elemOk Tryz.prog 23 1 24 := ⟨_, _, Tryz.type23, rfl, rfl, rfl, rfl, by decide⟩
@[simp] theorem agg24 : aggOf Tryz.prog 24 = some true := by kernel_rfl
@[simp] theorem sz24 : szOf Tryz.prog 24 = some 5 := by kernel_rfl
@[simp] theorem off24_0 : offOf Tryz.prog 24 0 = some 0 := by kernel_rfl
@[simp] theorem fld24_0 : fieldOf? Tryz.prog 24 0 = some (0, 3) := by kernel_rfl
@[simp] theorem off24_1 : offOf Tryz.prog 24 1 = some 1 := by kernel_rfl
@[simp] theorem fld24_1 : fieldOf? Tryz.prog 24 1 = some (1, 23) := by kernel_rfl
@[simp] theorem off24_2 : offOf Tryz.prog 24 2 = some 2 := by kernel_rfl
@[simp] theorem fld24_2 : fieldOf? Tryz.prog 24 2 = some (2, 9) := by kernel_rfl
@[simp] theorem off24_3 : offOf Tryz.prog 24 3 = some 3 := by kernel_rfl
@[simp] theorem fld24_3 : fieldOf? Tryz.prog 24 3 = some (3, 3) := by kernel_rfl
@[simp] theorem off24_4 : offOf Tryz.prog 24 4 = some 4 := by kernel_rfl
@[simp] theorem fld24_4 : fieldOf? Tryz.prog 24 4 = some (4, 3) := by kernel_rfl
@[simp] theorem fok24 : fieldsOk Tryz.prog 24 = true := by kernel_rfl
@[simp] theorem zero24 : zeroCells? Tryz.prog 24 = some [.int .i64 0, .slice none 0 0, .string ⟨#[]⟩, .int .i64 0, .int .i64 0] := by kernel_rfl
theorem eok24 : elemOk Tryz.prog 24 5 64 := ⟨_, _, Tryz.type24, rfl, rfl, rfl, rfl, by decide⟩
@[simp] theorem agg25 : aggOf Tryz.prog 25 = some true := by kernel_rfl
@[simp] theorem sz25 : szOf Tryz.prog 25 = some 5 := by kernel_rfl
@[simp] theorem off25_0 : offOf Tryz.prog 25 0 = some 0 := by kernel_rfl
@[simp] theorem fld25_0 : fieldOf? Tryz.prog 25 0 = some (0, 3) := by kernel_rfl
@[simp] theorem off25_1 : offOf Tryz.prog 25 1 = some 1 := by kernel_rfl
@[simp] theorem fld25_1 : fieldOf? Tryz.prog 25 1 = some (1, 23) := by kernel_rfl
@[simp] theorem off25_2 : offOf Tryz.prog 25 2 = some 2 := by kernel_rfl
@[simp] theorem fld25_2 : fieldOf? Tryz.prog 25 2 = some (2, 9) := by kernel_rfl
@[simp] theorem off25_3 : offOf Tryz.prog 25 3 = some 3 := by kernel_rfl
@[simp] theorem fld25_3 : fieldOf? Tryz.prog 25 3 = some (3, 3) := by kernel_rfl
@[simp] theorem off25_4 : offOf Tryz.prog 25 4 = some 4 := by kernel_rfl
@[simp] theorem fld25_4 : fieldOf? Tryz.prog 25 4 = some (4, 3) := by kernel_rfl
@[simp] theorem fok25 : fieldsOk Tryz.prog 25 = true := by kernel_rfl
@[simp] theorem zero25 : zeroCells? Tryz.prog 25 = some [.int .i64 0, .slice none 0 0, .string ⟨#[]⟩, .int .i64 0, .int .i64 0] := by kernel_rfl
theorem eok25 : elemOk Tryz.prog 25 5 64 := ⟨_, _, Tryz.type25, rfl, rfl, rfl, rfl, by decide⟩
@[simp] theorem agg26 : aggOf Tryz.prog 26 = some false := by kernel_rfl
@[simp] theorem sz26 : szOf Tryz.prog 26 = some 1 := by kernel_rfl
@[simp] theorem elem26 : elemOf? Tryz.prog 26 = some 87 := by kernel_rfl
theorem src26 : srcOk Tryz.prog 26 := .inl ⟨87, by kernel_rfl⟩
@[simp] theorem zero26 : zeroCells? Tryz.prog 26 = some [.slice none 0 0] := by kernel_rfl
theorem eok26 : elemOk Tryz.prog 26 1 24 := ⟨_, _, Tryz.type26, rfl, rfl, rfl, rfl, by decide⟩
@[simp] theorem agg30 : aggOf Tryz.prog 30 = some true := by kernel_rfl
@[simp] theorem sz30 : szOf Tryz.prog 30 = some 2 := by kernel_rfl
@[simp] theorem off30_0 : offOf Tryz.prog 30 0 = some 0 := by kernel_rfl
@[simp] theorem fld30_0 : fieldOf? Tryz.prog 30 0 = some (0, 3) := by kernel_rfl
@[simp] theorem off30_1 : offOf Tryz.prog 30 1 = some 1 := by kernel_rfl
@[simp] theorem fld30_1 : fieldOf? Tryz.prog 30 1 = some (1, 3) := by kernel_rfl
@[simp] theorem fok30 : fieldsOk Tryz.prog 30 = true := by kernel_rfl
@[simp] theorem zero30 : zeroCells? Tryz.prog 30 = some [.int .i64 0, .int .i64 0] := by kernel_rfl
theorem eok30 : elemOk Tryz.prog 30 2 16 := ⟨_, _, Tryz.type30, rfl, rfl, rfl, rfl, by decide⟩
@[simp] theorem agg31 : aggOf Tryz.prog 31 = some true := by kernel_rfl
@[simp] theorem sz31 : szOf Tryz.prog 31 = some 2 := by kernel_rfl
@[simp] theorem off31_0 : offOf Tryz.prog 31 0 = some 0 := by kernel_rfl
@[simp] theorem fld31_0 : fieldOf? Tryz.prog 31 0 = some (0, 3) := by kernel_rfl
@[simp] theorem off31_1 : offOf Tryz.prog 31 1 = some 1 := by kernel_rfl
@[simp] theorem fld31_1 : fieldOf? Tryz.prog 31 1 = some (1, 3) := by kernel_rfl
@[simp] theorem fok31 : fieldsOk Tryz.prog 31 = true := by kernel_rfl
@[simp] theorem zero31 : zeroCells? Tryz.prog 31 = some [.int .i64 0, .int .i64 0] := by kernel_rfl
theorem eok31 : elemOk Tryz.prog 31 2 16 := ⟨_, _, Tryz.type31, rfl, rfl, rfl, rfl, by decide⟩
@[simp] theorem agg42 : aggOf Tryz.prog 42 = some true := by kernel_rfl
@[simp] theorem sz42 : szOf Tryz.prog 42 = some 3 := by kernel_rfl
@[simp] theorem off42_0 : offOf Tryz.prog 42 0 = some 0 := by kernel_rfl
@[simp] theorem fld42_0 : fieldOf? Tryz.prog 42 0 = some (0, 3) := by kernel_rfl
@[simp] theorem off42_1 : offOf Tryz.prog 42 1 = some 1 := by kernel_rfl
@[simp] theorem fld42_1 : fieldOf? Tryz.prog 42 1 = some (1, 3) := by kernel_rfl
@[simp] theorem off42_2 : offOf Tryz.prog 42 2 = some 2 := by kernel_rfl
@[simp] theorem fld42_2 : fieldOf? Tryz.prog 42 2 = some (2, 3) := by kernel_rfl
@[simp] theorem fok42 : fieldsOk Tryz.prog 42 = true := by kernel_rfl
@[simp] theorem zero42 : zeroCells? Tryz.prog 42 = some [.int .i64 0, .int .i64 0, .int .i64 0] := by kernel_rfl
theorem eok42 : elemOk Tryz.prog 42 3 24 := ⟨_, _, Tryz.type42, rfl, rfl, rfl, rfl, by decide⟩
@[simp] theorem agg43 : aggOf Tryz.prog 43 = some true := by kernel_rfl
@[simp] theorem sz43 : szOf Tryz.prog 43 = some 3 := by kernel_rfl
@[simp] theorem off43_0 : offOf Tryz.prog 43 0 = some 0 := by kernel_rfl
@[simp] theorem fld43_0 : fieldOf? Tryz.prog 43 0 = some (0, 3) := by kernel_rfl
@[simp] theorem off43_1 : offOf Tryz.prog 43 1 = some 1 := by kernel_rfl
@[simp] theorem fld43_1 : fieldOf? Tryz.prog 43 1 = some (1, 3) := by kernel_rfl
@[simp] theorem off43_2 : offOf Tryz.prog 43 2 = some 2 := by kernel_rfl
@[simp] theorem fld43_2 : fieldOf? Tryz.prog 43 2 = some (2, 3) := by kernel_rfl
@[simp] theorem fok43 : fieldsOk Tryz.prog 43 = true := by kernel_rfl
@[simp] theorem zero43 : zeroCells? Tryz.prog 43 = some [.int .i64 0, .int .i64 0, .int .i64 0] := by kernel_rfl
theorem eok43 : elemOk Tryz.prog 43 3 24 := ⟨_, _, Tryz.type43, rfl, rfl, rfl, rfl, by decide⟩
@[simp] theorem agg50 : aggOf Tryz.prog 50 = some true := by kernel_rfl
@[simp] theorem sz50 : szOf Tryz.prog 50 = some 3 := by kernel_rfl
@[simp] theorem off50_0 : offOf Tryz.prog 50 0 = some 0 := by kernel_rfl
@[simp] theorem fld50_0 : fieldOf? Tryz.prog 50 0 = some (0, 3) := by kernel_rfl
@[simp] theorem off50_1 : offOf Tryz.prog 50 1 = some 1 := by kernel_rfl
@[simp] theorem fld50_1 : fieldOf? Tryz.prog 50 1 = some (1, 3) := by kernel_rfl
@[simp] theorem off50_2 : offOf Tryz.prog 50 2 = some 2 := by kernel_rfl
@[simp] theorem fld50_2 : fieldOf? Tryz.prog 50 2 = some (2, 3) := by kernel_rfl
@[simp] theorem fok50 : fieldsOk Tryz.prog 50 = true := by kernel_rfl
@[simp] theorem zero50 : zeroCells? Tryz.prog 50 = some [.int .i64 0, .int .i64 0, .int .i64 0] := by kernel_rfl
theorem eok50 : elemOk Tryz.prog 50 3 24 := ⟨_, _, Tryz.type50, rfl, rfl, rfl, rfl, by decide⟩
@[simp] theorem agg51 : aggOf Tryz.prog 51 = some true := by kernel_rfl
@[simp] theorem sz51 : szOf Tryz.prog 51 = some 3 := by kernel_rfl
@[simp] theorem off51_0 : offOf Tryz.prog 51 0 = some 0 := by kernel_rfl
@[simp] theorem fld51_0 : fieldOf? Tryz.prog 51 0 = some (0, 3) := by kernel_rfl
@[simp] theorem off51_1 : offOf Tryz.prog 51 1 = some 1 := by kernel_rfl
@[simp] theorem fld51_1 : fieldOf? Tryz.prog 51 1 = some (1, 3) := by kernel_rfl
@[simp] theorem off51_2 : offOf Tryz.prog 51 2 = some 2 := by kernel_rfl
@[simp] theorem fld51_2 : fieldOf? Tryz.prog 51 2 = some (2, 3) := by kernel_rfl
@[simp] theorem fok51 : fieldsOk Tryz.prog 51 = true := by kernel_rfl
@[simp] theorem zero51 : zeroCells? Tryz.prog 51 = some [.int .i64 0, .int .i64 0, .int .i64 0] := by kernel_rfl
theorem eok51 : elemOk Tryz.prog 51 3 24 := ⟨_, _, Tryz.type51, rfl, rfl, rfl, rfl, by decide⟩
@[simp] theorem agg52 : aggOf Tryz.prog 52 = some true := by kernel_rfl
@[simp] theorem sz52 : szOf Tryz.prog 52 = some 4 := by kernel_rfl
@[simp] theorem off52_0 : offOf Tryz.prog 52 0 = some 0 := by kernel_rfl
@[simp] theorem fld52_0 : fieldOf? Tryz.prog 52 0 = some (0, 9) := by kernel_rfl
@[simp] theorem off52_1 : offOf Tryz.prog 52 1 = some 1 := by kernel_rfl
@[simp] theorem fld52_1 : fieldOf? Tryz.prog 52 1 = some (1, 51) := by kernel_rfl
@[simp] theorem fok52 : fieldsOk Tryz.prog 52 = true := by kernel_rfl
@[simp] theorem zero52 : zeroCells? Tryz.prog 52 = some [.string ⟨#[]⟩, .int .i64 0, .int .i64 0, .int .i64 0] := by kernel_rfl
theorem eok52 : elemOk Tryz.prog 52 4 40 := ⟨_, _, Tryz.type52, rfl, rfl, rfl, rfl, by decide⟩
@[simp] theorem agg53 : aggOf Tryz.prog 53 = some true := by kernel_rfl
@[simp] theorem sz53 : szOf Tryz.prog 53 = some 4 := by kernel_rfl
@[simp] theorem off53_0 : offOf Tryz.prog 53 0 = some 0 := by kernel_rfl
@[simp] theorem fld53_0 : fieldOf? Tryz.prog 53 0 = some (0, 9) := by kernel_rfl
@[simp] theorem off53_1 : offOf Tryz.prog 53 1 = some 1 := by kernel_rfl
@[simp] theorem fld53_1 : fieldOf? Tryz.prog 53 1 = some (1, 51) := by kernel_rfl
@[simp] theorem fok53 : fieldsOk Tryz.prog 53 = true := by kernel_rfl
@[simp] theorem zero53 : zeroCells? Tryz.prog 53 = some [.string ⟨#[]⟩, .int .i64 0, .int .i64 0, .int .i64 0] := by kernel_rfl
theorem eok53 : elemOk Tryz.prog 53 4 40 := ⟨_, _, Tryz.type53, rfl, rfl, rfl, rfl, by decide⟩
@[simp] theorem agg54 : aggOf Tryz.prog 54 = some false := by kernel_rfl
@[simp] theorem sz54 : szOf Tryz.prog 54 = some 1 := by kernel_rfl
@[simp] theorem zero54 : zeroCells? Tryz.prog 54 = some [.map none] := by kernel_rfl
theorem eok54 : elemOk Tryz.prog 54 1 8 := ⟨_, _, Tryz.type54, rfl, rfl, rfl, rfl, by decide⟩
@[simp] theorem agg60 : aggOf Tryz.prog 60 = some false := by kernel_rfl
@[simp] theorem sz60 : szOf Tryz.prog 60 = some 1 := by kernel_rfl
@[simp] theorem elem60 : elemOf? Tryz.prog 60 = some 31 := by kernel_rfl
theorem src60 : srcOk Tryz.prog 60 := .inl ⟨31, by kernel_rfl⟩
@[simp] theorem zero60 : zeroCells? Tryz.prog 60 = some [.slice none 0 0] := by kernel_rfl
theorem eok60 : elemOk Tryz.prog 60 1 24 := ⟨_, _, Tryz.type60, rfl, rfl, rfl, rfl, by decide⟩
@[simp] theorem agg63 : aggOf Tryz.prog 63 = some false := by kernel_rfl
@[simp] theorem sz63 : szOf Tryz.prog 63 = some 1 := by kernel_rfl
@[simp] theorem elem63 : elemOf? Tryz.prog 63 = some 65 := by kernel_rfl
theorem src63 : srcOk Tryz.prog 63 := .inl ⟨65, by kernel_rfl⟩
@[simp] theorem zero63 : zeroCells? Tryz.prog 63 = some [.slice none 0 0] := by kernel_rfl
theorem eok63 : elemOk Tryz.prog 63 1 24 := ⟨_, _, Tryz.type63, rfl, rfl, rfl, rfl, by decide⟩
@[simp] theorem agg64 : aggOf Tryz.prog 64 = some true := by kernel_rfl
@[simp] theorem sz64 : szOf Tryz.prog 64 = some 8 := by kernel_rfl
@[simp] theorem off64_0 : offOf Tryz.prog 64 0 = some 0 := by kernel_rfl
@[simp] theorem fld64_0 : fieldOf? Tryz.prog 64 0 = some (0, 43) := by kernel_rfl
@[simp] theorem off64_1 : offOf Tryz.prog 64 1 = some 3 := by kernel_rfl
@[simp] theorem fld64_1 : fieldOf? Tryz.prog 64 1 = some (3, 3) := by kernel_rfl
@[simp] theorem off64_2 : offOf Tryz.prog 64 2 = some 4 := by kernel_rfl
@[simp] theorem fld64_2 : fieldOf? Tryz.prog 64 2 = some (4, 9) := by kernel_rfl
@[simp] theorem off64_3 : offOf Tryz.prog 64 3 = some 5 := by kernel_rfl
@[simp] theorem fld64_3 : fieldOf? Tryz.prog 64 3 = some (5, 22) := by kernel_rfl
@[simp] theorem off64_4 : offOf Tryz.prog 64 4 = some 6 := by kernel_rfl
@[simp] theorem fld64_4 : fieldOf? Tryz.prog 64 4 = some (6, 22) := by kernel_rfl
@[simp] theorem off64_5 : offOf Tryz.prog 64 5 = some 7 := by kernel_rfl
@[simp] theorem fld64_5 : fieldOf? Tryz.prog 64 5 = some (7, 63) := by kernel_rfl
@[simp] theorem fok64 : fieldsOk Tryz.prog 64 = true := by kernel_rfl
@[simp] theorem zero64 : zeroCells? Tryz.prog 64 = some [.int .i64 0, .int .i64 0, .int .i64 0, .int .i64 0, .string ⟨#[]⟩, .slice none 0 0, .slice none 0 0, .slice none 0 0] := by kernel_rfl
theorem eok64 : elemOk Tryz.prog 64 8 120 := ⟨_, _, Tryz.type64, rfl, rfl, rfl, rfl, by decide⟩
@[simp] theorem agg65 : aggOf Tryz.prog 65 = some true := by kernel_rfl
@[simp] theorem sz65 : szOf Tryz.prog 65 = some 8 := by kernel_rfl
@[simp] theorem off65_0 : offOf Tryz.prog 65 0 = some 0 := by kernel_rfl
@[simp] theorem fld65_0 : fieldOf? Tryz.prog 65 0 = some (0, 43) := by kernel_rfl
@[simp] theorem off65_1 : offOf Tryz.prog 65 1 = some 3 := by kernel_rfl
@[simp] theorem fld65_1 : fieldOf? Tryz.prog 65 1 = some (3, 3) := by kernel_rfl
@[simp] theorem off65_2 : offOf Tryz.prog 65 2 = some 4 := by kernel_rfl
@[simp] theorem fld65_2 : fieldOf? Tryz.prog 65 2 = some (4, 9) := by kernel_rfl
@[simp] theorem off65_3 : offOf Tryz.prog 65 3 = some 5 := by kernel_rfl
@[simp] theorem fld65_3 : fieldOf? Tryz.prog 65 3 = some (5, 22) := by kernel_rfl
@[simp] theorem off65_4 : offOf Tryz.prog 65 4 = some 6 := by kernel_rfl
@[simp] theorem fld65_4 : fieldOf? Tryz.prog 65 4 = some (6, 22) := by kernel_rfl
@[simp] theorem off65_5 : offOf Tryz.prog 65 5 = some 7 := by kernel_rfl
@[simp] theorem fld65_5 : fieldOf? Tryz.prog 65 5 = some (7, 63) := by kernel_rfl
@[simp] theorem fok65 : fieldsOk Tryz.prog 65 = true := by kernel_rfl
@[simp] theorem zero65 : zeroCells? Tryz.prog 65 = some [.int .i64 0, .int .i64 0, .int .i64 0, .int .i64 0, .string ⟨#[]⟩, .slice none 0 0, .slice none 0 0, .slice none 0 0] := by kernel_rfl
theorem eok65 : elemOk Tryz.prog 65 8 120 := ⟨_, _, Tryz.type65, rfl, rfl, rfl, rfl, by decide⟩
@[simp] theorem agg66 : aggOf Tryz.prog 66 = some false := by kernel_rfl
@[simp] theorem sz66 : szOf Tryz.prog 66 = some 1 := by kernel_rfl
@[simp] theorem elem66 : elemOf? Tryz.prog 66 = some 9 := by kernel_rfl
theorem src66 : srcOk Tryz.prog 66 := .inl ⟨9, by kernel_rfl⟩
@[simp] theorem zero66 : zeroCells? Tryz.prog 66 = some [.slice none 0 0] := by kernel_rfl
theorem eok66 : elemOk Tryz.prog 66 1 24 := ⟨_, _, Tryz.type66, rfl, rfl, rfl, rfl, by decide⟩
@[simp] theorem agg67 : aggOf Tryz.prog 67 = some true := by kernel_rfl
@[simp] theorem sz67 : szOf Tryz.prog 67 = some 3 := by kernel_rfl
@[simp] theorem off67_0 : offOf Tryz.prog 67 0 = some 0 := by kernel_rfl
@[simp] theorem fld67_0 : fieldOf? Tryz.prog 67 0 = some (0, 3) := by kernel_rfl
@[simp] theorem off67_1 : offOf Tryz.prog 67 1 = some 1 := by kernel_rfl
@[simp] theorem fld67_1 : fieldOf? Tryz.prog 67 1 = some (1, 3) := by kernel_rfl
@[simp] theorem off67_2 : offOf Tryz.prog 67 2 = some 2 := by kernel_rfl
@[simp] theorem fld67_2 : fieldOf? Tryz.prog 67 2 = some (2, 9) := by kernel_rfl
@[simp] theorem fok67 : fieldsOk Tryz.prog 67 = true := by kernel_rfl
@[simp] theorem zero67 : zeroCells? Tryz.prog 67 = some [.int .i64 0, .int .i64 0, .string ⟨#[]⟩] := by kernel_rfl
theorem eok67 : elemOk Tryz.prog 67 3 32 := ⟨_, _, Tryz.type67, rfl, rfl, rfl, rfl, by decide⟩
@[simp] theorem agg68 : aggOf Tryz.prog 68 = some true := by kernel_rfl
@[simp] theorem sz68 : szOf Tryz.prog 68 = some 3 := by kernel_rfl
@[simp] theorem off68_0 : offOf Tryz.prog 68 0 = some 0 := by kernel_rfl
@[simp] theorem fld68_0 : fieldOf? Tryz.prog 68 0 = some (0, 3) := by kernel_rfl
@[simp] theorem off68_1 : offOf Tryz.prog 68 1 = some 1 := by kernel_rfl
@[simp] theorem fld68_1 : fieldOf? Tryz.prog 68 1 = some (1, 3) := by kernel_rfl
@[simp] theorem off68_2 : offOf Tryz.prog 68 2 = some 2 := by kernel_rfl
@[simp] theorem fld68_2 : fieldOf? Tryz.prog 68 2 = some (2, 9) := by kernel_rfl
@[simp] theorem fok68 : fieldsOk Tryz.prog 68 = true := by kernel_rfl
@[simp] theorem zero68 : zeroCells? Tryz.prog 68 = some [.int .i64 0, .int .i64 0, .string ⟨#[]⟩] := by kernel_rfl
theorem eok68 : elemOk Tryz.prog 68 3 32 := ⟨_, _, Tryz.type68, rfl, rfl, rfl, rfl, by decide⟩
@[simp] theorem agg69 : aggOf Tryz.prog 69 = some false := by kernel_rfl
@[simp] theorem sz69 : szOf Tryz.prog 69 = some 1 := by kernel_rfl
@[simp] theorem elem69 : elemOf? Tryz.prog 69 = some 71 := by kernel_rfl
theorem src69 : srcOk Tryz.prog 69 := .inl ⟨71, by kernel_rfl⟩
@[simp] theorem zero69 : zeroCells? Tryz.prog 69 = some [.slice none 0 0] := by kernel_rfl
theorem eok69 : elemOk Tryz.prog 69 1 24 := ⟨_, _, Tryz.type69, rfl, rfl, rfl, rfl, by decide⟩
@[simp] theorem agg70 : aggOf Tryz.prog 70 = some true := by kernel_rfl
@[simp] theorem sz70 : szOf Tryz.prog 70 = some 25 := by kernel_rfl
@[simp] theorem off70_0 : offOf Tryz.prog 70 0 = some 0 := by kernel_rfl
@[simp] theorem fld70_0 : fieldOf? Tryz.prog 70 0 = some (0, 3) := by kernel_rfl
@[simp] theorem off70_1 : offOf Tryz.prog 70 1 = some 1 := by kernel_rfl
@[simp] theorem fld70_1 : fieldOf? Tryz.prog 70 1 = some (1, 23) := by kernel_rfl
@[simp] theorem off70_2 : offOf Tryz.prog 70 2 = some 2 := by kernel_rfl
@[simp] theorem fld70_2 : fieldOf? Tryz.prog 70 2 = some (2, 23) := by kernel_rfl
@[simp] theorem off70_3 : offOf Tryz.prog 70 3 = some 3 := by kernel_rfl
@[simp] theorem fld70_3 : fieldOf? Tryz.prog 70 3 = some (3, 3) := by kernel_rfl
@[simp] theorem off70_4 : offOf Tryz.prog 70 4 = some 4 := by kernel_rfl
@[simp] theorem fld70_4 : fieldOf? Tryz.prog 70 4 = some (4, 3) := by kernel_rfl
@[simp] theorem off70_5 : offOf Tryz.prog 70 5 = some 5 := by kernel_rfl
@[simp] theorem fld70_5 : fieldOf? Tryz.prog 70 5 = some (5, 65) := by kernel_rfl
@[simp] theorem off70_6 : offOf Tryz.prog 70 6 = some 13 := by kernel_rfl
@[simp] theorem fld70_6 : fieldOf? Tryz.prog 70 6 = some (13, 66) := by kernel_rfl
@[simp] theorem off70_7 : offOf Tryz.prog 70 7 = some 14 := by kernel_rfl
@[simp] theorem fld70_7 : fieldOf? Tryz.prog 70 7 = some (14, 66) := by kernel_rfl
@[simp] theorem off70_8 : offOf Tryz.prog 70 8 = some 15 := by kernel_rfl
@[simp] theorem fld70_8 : fieldOf? Tryz.prog 70 8 = some (15, 9) := by kernel_rfl
@[simp] theorem off70_9 : offOf Tryz.prog 70 9 = some 16 := by kernel_rfl
@[simp] theorem fld70_9 : fieldOf? Tryz.prog 70 9 = some (16, 9) := by kernel_rfl
@[simp] theorem off70_10 : offOf Tryz.prog 70 10 = some 17 := by kernel_rfl
@[simp] theorem fld70_10 : fieldOf? Tryz.prog 70 10 = some (17, 68) := by kernel_rfl
@[simp] theorem off70_11 : offOf Tryz.prog 70 11 = some 20 := by kernel_rfl
@[simp] theorem fld70_11 : fieldOf? Tryz.prog 70 11 = some (20, 3) := by kernel_rfl
@[simp] theorem off70_12 : offOf Tryz.prog 70 12 = some 21 := by kernel_rfl
@[simp] theorem fld70_12 : fieldOf? Tryz.prog 70 12 = some (21, 3) := by kernel_rfl
@[simp] theorem off70_13 : offOf Tryz.prog 70 13 = some 22 := by kernel_rfl
@[simp] theorem fld70_13 : fieldOf? Tryz.prog 70 13 = some (22, 3) := by kernel_rfl
@[simp] theorem off70_14 : offOf Tryz.prog 70 14 = some 23 := by kernel_rfl
@[simp] theorem fld70_14 : fieldOf? Tryz.prog 70 14 = some (23, 9) := by kernel_rfl
@[simp] theorem off70_15 : offOf Tryz.prog 70 15 = some 24 := by kernel_rfl
@[simp] theorem fld70_15 : fieldOf? Tryz.prog 70 15 = some (24, 69) := by kernel_rfl
@[simp] theorem fok70 : fieldsOk Tryz.prog 70 = true := by kernel_rfl
@[simp] theorem zero70 : zeroCells? Tryz.prog 70 = some [.int .i64 0, .slice none 0 0, .slice none 0 0, .int .i64 0, .int .i64 0, .int .i64 0, .int .i64 0, .int .i64 0, .int .i64 0, .string ⟨#[]⟩, .slice none 0 0, .slice none 0 0, .slice none 0 0, .slice none 0 0, .slice none 0 0, .string ⟨#[]⟩, .string ⟨#[]⟩, .int .i64 0, .int .i64 0, .string ⟨#[]⟩, .int .i64 0, .int .i64 0, .int .i64 0, .string ⟨#[]⟩, .slice none 0 0] := by kernel_rfl
theorem eok70 : elemOk Tryz.prog 70 25 368 := ⟨_, _, Tryz.type70, rfl, rfl, rfl, rfl, by decide⟩
@[simp] theorem agg71 : aggOf Tryz.prog 71 = some true := by kernel_rfl
@[simp] theorem sz71 : szOf Tryz.prog 71 = some 25 := by kernel_rfl
@[simp] theorem off71_0 : offOf Tryz.prog 71 0 = some 0 := by kernel_rfl
@[simp] theorem fld71_0 : fieldOf? Tryz.prog 71 0 = some (0, 3) := by kernel_rfl
@[simp] theorem off71_1 : offOf Tryz.prog 71 1 = some 1 := by kernel_rfl
@[simp] theorem fld71_1 : fieldOf? Tryz.prog 71 1 = some (1, 23) := by kernel_rfl
@[simp] theorem off71_2 : offOf Tryz.prog 71 2 = some 2 := by kernel_rfl
@[simp] theorem fld71_2 : fieldOf? Tryz.prog 71 2 = some (2, 23) := by kernel_rfl
@[simp] theorem off71_3 : offOf Tryz.prog 71 3 = some 3 := by kernel_rfl
@[simp] theorem fld71_3 : fieldOf? Tryz.prog 71 3 = some (3, 3) := by kernel_rfl
@[simp] theorem off71_4 : offOf Tryz.prog 71 4 = some 4 := by kernel_rfl
@[simp] theorem fld71_4 : fieldOf? Tryz.prog 71 4 = some (4, 3) := by kernel_rfl
@[simp] theorem off71_5 : offOf Tryz.prog 71 5 = some 5 := by kernel_rfl
@[simp] theorem fld71_5 : fieldOf? Tryz.prog 71 5 = some (5, 65) := by kernel_rfl
@[simp] theorem off71_6 : offOf Tryz.prog 71 6 = some 13 := by kernel_rfl
@[simp] theorem fld71_6 : fieldOf? Tryz.prog 71 6 = some (13, 66) := by kernel_rfl
@[simp] theorem off71_7 : offOf Tryz.prog 71 7 = some 14 := by kernel_rfl
@[simp] theorem fld71_7 : fieldOf? Tryz.prog 71 7 = some (14, 66) := by kernel_rfl
@[simp] theorem off71_8 : offOf Tryz.prog 71 8 = some 15 := by kernel_rfl
@[simp] theorem fld71_8 : fieldOf? Tryz.prog 71 8 = some (15, 9) := by kernel_rfl
@[simp] theorem off71_9 : offOf Tryz.prog 71 9 = some 16 := by kernel_rfl
@[simp] theorem fld71_9 : fieldOf? Tryz.prog 71 9 = some (16, 9) := by kernel_rfl
@[simp] theorem off71_10 : offOf Tryz.prog 71 10 = some 17 := by kernel_rfl
@[simp] theorem fld71_10 : fieldOf? Tryz.prog 71 10 = some (17, 68) := by kernel_rfl
@[simp] theorem off71_11 : offOf Tryz.prog 71 11 = some 20 := by kernel_rfl
@[simp] theorem fld71_11 : fieldOf? Tryz.prog 71 11 = some (20, 3) := by kernel_rfl
@[simp] theorem off71_12 : offOf Tryz.prog 71 12 = some 21 := by kernel_rfl
@[simp] theorem fld71_12 : fieldOf? Tryz.prog 71 12 = some (21, 3) := by kernel_rfl
@[simp] theorem off71_13 : offOf Tryz.prog 71 13 = some 22 := by kernel_rfl
@[simp] theorem fld71_13 : fieldOf? Tryz.prog 71 13 = some (22, 3) := by kernel_rfl
@[simp] theorem off71_14 : offOf Tryz.prog 71 14 = some 23 := by kernel_rfl
@[simp] theorem fld71_14 : fieldOf? Tryz.prog 71 14 = some (23, 9) := by kernel_rfl
@[simp] theorem off71_15 : offOf Tryz.prog 71 15 = some 24 := by kernel_rfl
@[simp] theorem fld71_15 : fieldOf? Tryz.prog 71 15 = some (24, 69) := by kernel_rfl
@[simp] theorem fok71 : fieldsOk Tryz.prog 71 = true := by kernel_rfl
@[simp] theorem zero71 : zeroCells? Tryz.prog 71 = some [.int .i64 0, .slice none 0 0, .slice none 0 0, .int .i64 0, .int .i64 0, .int .i64 0, .int .i64 0, .int .i64 0, .int .i64 0, .string ⟨#[]⟩, .slice none 0 0, .slice none 0 0, .slice none 0 0, .slice none 0 0, .slice none 0 0, .string ⟨#[]⟩, .string ⟨#[]⟩, .int .i64 0, .int .i64 0, .string ⟨#[]⟩, .int .i64 0, .int .i64 0, .int .i64 0, .string ⟨#[]⟩, .slice none 0 0] := by kernel_rfl
theorem eok71 : elemOk Tryz.prog 71 25 368 := ⟨_, _, Tryz.type71, rfl, rfl, rfl, rfl, by decide⟩
@[simp] theorem agg77 : aggOf Tryz.prog 77 = some false := by kernel_rfl
@[simp] theorem sz77 : szOf Tryz.prog 77 = some 1 := by kernel_rfl
@[simp] theorem elem77 : elemOf? Tryz.prog 77 = some 3 := by kernel_rfl
theorem src77 : srcOk Tryz.prog 77 := .inl ⟨3, by kernel_rfl⟩
@[simp] theorem zero77 : zeroCells? Tryz.prog 77 = some [.slice none 0 0] := by kernel_rfl
theorem eok77 : elemOk Tryz.prog 77 1 24 := ⟨_, _, Tryz.type77, rfl, rfl, rfl, rfl, by decide⟩
@[simp] theorem agg80 : aggOf Tryz.prog 80 = some true := by kernel_rfl
@[simp] theorem sz80 : szOf Tryz.prog 80 = some 2 := by kernel_rfl
@[simp] theorem off80_0 : offOf Tryz.prog 80 0 = some 0 := by kernel_rfl
@[simp] theorem fld80_0 : fieldOf? Tryz.prog 80 0 = some (0, 3) := by kernel_rfl
@[simp] theorem off80_1 : offOf Tryz.prog 80 1 = some 1 := by kernel_rfl
@[simp] theorem fld80_1 : fieldOf? Tryz.prog 80 1 = some (1, 9) := by kernel_rfl
@[simp] theorem fok80 : fieldsOk Tryz.prog 80 = true := by kernel_rfl
@[simp] theorem zero80 : zeroCells? Tryz.prog 80 = some [.int .i64 0, .string ⟨#[]⟩] := by kernel_rfl
theorem eok80 : elemOk Tryz.prog 80 2 24 := ⟨_, _, Tryz.type80, rfl, rfl, rfl, rfl, by decide⟩
@[simp] theorem agg81 : aggOf Tryz.prog 81 = some true := by kernel_rfl
@[simp] theorem sz81 : szOf Tryz.prog 81 = some 2 := by kernel_rfl
@[simp] theorem off81_0 : offOf Tryz.prog 81 0 = some 0 := by kernel_rfl
@[simp] theorem fld81_0 : fieldOf? Tryz.prog 81 0 = some (0, 3) := by kernel_rfl
@[simp] theorem off81_1 : offOf Tryz.prog 81 1 = some 1 := by kernel_rfl
@[simp] theorem fld81_1 : fieldOf? Tryz.prog 81 1 = some (1, 9) := by kernel_rfl
@[simp] theorem fok81 : fieldsOk Tryz.prog 81 = true := by kernel_rfl
@[simp] theorem zero81 : zeroCells? Tryz.prog 81 = some [.int .i64 0, .string ⟨#[]⟩] := by kernel_rfl
theorem eok81 : elemOk Tryz.prog 81 2 24 := ⟨_, _, Tryz.type81, rfl, rfl, rfl, rfl, by decide⟩
@[simp] theorem agg83 : aggOf Tryz.prog 83 = some true := by kernel_rfl
@[simp] theorem sz83 : szOf Tryz.prog 83 = some 7 := by kernel_rfl
@[simp] theorem off83_0 : offOf Tryz.prog 83 0 = some 0 := by kernel_rfl
@[simp] theorem fld83_0 : fieldOf? Tryz.prog 83 0 = some (0, 3) := by kernel_rfl
@[simp] theorem off83_1 : offOf Tryz.prog 83 1 = some 1 := by kernel_rfl
@[simp] theorem fld83_1 : fieldOf? Tryz.prog 83 1 = some (1, 9) := by kernel_rfl
@[simp] theorem off83_2 : offOf Tryz.prog 83 2 = some 2 := by kernel_rfl
@[simp] theorem fld83_2 : fieldOf? Tryz.prog 83 2 = some (2, 3) := by kernel_rfl
@[simp] theorem off83_3 : offOf Tryz.prog 83 3 = some 3 := by kernel_rfl
@[simp] theorem fld83_3 : fieldOf? Tryz.prog 83 3 = some (3, 68) := by kernel_rfl
@[simp] theorem off83_4 : offOf Tryz.prog 83 4 = some 6 := by kernel_rfl
@[simp] theorem fld83_4 : fieldOf? Tryz.prog 83 4 = some (6, 69) := by kernel_rfl
@[simp] theorem fok83 : fieldsOk Tryz.prog 83 = true := by kernel_rfl
@[simp] theorem zero83 : zeroCells? Tryz.prog 83 = some [.int .i64 0, .string ⟨#[]⟩, .int .i64 0, .int .i64 0, .int .i64 0, .string ⟨#[]⟩, .slice none 0 0] := by kernel_rfl
theorem eok83 : elemOk Tryz.prog 83 7 88 := ⟨_, _, Tryz.type83, rfl, rfl, rfl, rfl, by decide⟩
@[simp] theorem agg84 : aggOf Tryz.prog 84 = some true := by kernel_rfl
@[simp] theorem sz84 : szOf Tryz.prog 84 = some 7 := by kernel_rfl
@[simp] theorem off84_0 : offOf Tryz.prog 84 0 = some 0 := by kernel_rfl
@[simp] theorem fld84_0 : fieldOf? Tryz.prog 84 0 = some (0, 3) := by kernel_rfl
@[simp] theorem off84_1 : offOf Tryz.prog 84 1 = some 1 := by kernel_rfl
@[simp] theorem fld84_1 : fieldOf? Tryz.prog 84 1 = some (1, 9) := by kernel_rfl
@[simp] theorem off84_2 : offOf Tryz.prog 84 2 = some 2 := by kernel_rfl
@[simp] theorem fld84_2 : fieldOf? Tryz.prog 84 2 = some (2, 3) := by kernel_rfl
@[simp] theorem off84_3 : offOf Tryz.prog 84 3 = some 3 := by kernel_rfl
@[simp] theorem fld84_3 : fieldOf? Tryz.prog 84 3 = some (3, 68) := by kernel_rfl
@[simp] theorem off84_4 : offOf Tryz.prog 84 4 = some 6 := by kernel_rfl
@[simp] theorem fld84_4 : fieldOf? Tryz.prog 84 4 = some (6, 69) := by kernel_rfl
@[simp] theorem fok84 : fieldsOk Tryz.prog 84 = true := by kernel_rfl
@[simp] theorem zero84 : zeroCells? Tryz.prog 84 = some [.int .i64 0, .string ⟨#[]⟩, .int .i64 0, .int .i64 0, .int .i64 0, .string ⟨#[]⟩, .slice none 0 0] := by kernel_rfl
theorem eok84 : elemOk Tryz.prog 84 7 88 := ⟨_, _, Tryz.type84, rfl, rfl, rfl, rfl, by decide⟩
@[simp] theorem agg85 : aggOf Tryz.prog 85 = some false := by kernel_rfl
@[simp] theorem sz85 : szOf Tryz.prog 85 = some 1 := by kernel_rfl
@[simp] theorem elem85 : elemOf? Tryz.prog 85 = some 84 := by kernel_rfl
theorem src85 : srcOk Tryz.prog 85 := .inl ⟨84, by kernel_rfl⟩
@[simp] theorem zero85 : zeroCells? Tryz.prog 85 = some [.slice none 0 0] := by kernel_rfl
theorem eok85 : elemOk Tryz.prog 85 1 24 := ⟨_, _, Tryz.type85, rfl, rfl, rfl, rfl, by decide⟩
@[simp] theorem agg86 : aggOf Tryz.prog 86 = some true := by kernel_rfl
@[simp] theorem sz86 : szOf Tryz.prog 86 = some 4 := by kernel_rfl
@[simp] theorem off86_0 : offOf Tryz.prog 86 0 = some 0 := by kernel_rfl
@[simp] theorem fld86_0 : fieldOf? Tryz.prog 86 0 = some (0, 3) := by kernel_rfl
@[simp] theorem off86_1 : offOf Tryz.prog 86 1 = some 1 := by kernel_rfl
@[simp] theorem fld86_1 : fieldOf? Tryz.prog 86 1 = some (1, 3) := by kernel_rfl
@[simp] theorem off86_2 : offOf Tryz.prog 86 2 = some 2 := by kernel_rfl
@[simp] theorem fld86_2 : fieldOf? Tryz.prog 86 2 = some (2, 9) := by kernel_rfl
@[simp] theorem off86_3 : offOf Tryz.prog 86 3 = some 3 := by kernel_rfl
@[simp] theorem fld86_3 : fieldOf? Tryz.prog 86 3 = some (3, 85) := by kernel_rfl
@[simp] theorem fok86 : fieldsOk Tryz.prog 86 = true := by kernel_rfl
@[simp] theorem zero86 : zeroCells? Tryz.prog 86 = some [.int .i64 0, .int .i64 0, .string ⟨#[]⟩, .slice none 0 0] := by kernel_rfl
theorem eok86 : elemOk Tryz.prog 86 4 56 := ⟨_, _, Tryz.type86, rfl, rfl, rfl, rfl, by decide⟩
@[simp] theorem agg87 : aggOf Tryz.prog 87 = some true := by kernel_rfl
@[simp] theorem sz87 : szOf Tryz.prog 87 = some 4 := by kernel_rfl
@[simp] theorem off87_0 : offOf Tryz.prog 87 0 = some 0 := by kernel_rfl
@[simp] theorem fld87_0 : fieldOf? Tryz.prog 87 0 = some (0, 3) := by kernel_rfl
@[simp] theorem off87_1 : offOf Tryz.prog 87 1 = some 1 := by kernel_rfl
@[simp] theorem fld87_1 : fieldOf? Tryz.prog 87 1 = some (1, 3) := by kernel_rfl
@[simp] theorem off87_2 : offOf Tryz.prog 87 2 = some 2 := by kernel_rfl
@[simp] theorem fld87_2 : fieldOf? Tryz.prog 87 2 = some (2, 9) := by kernel_rfl
@[simp] theorem off87_3 : offOf Tryz.prog 87 3 = some 3 := by kernel_rfl
@[simp] theorem fld87_3 : fieldOf? Tryz.prog 87 3 = some (3, 85) := by kernel_rfl
@[simp] theorem fok87 : fieldsOk Tryz.prog 87 = true := by kernel_rfl
@[simp] theorem zero87 : zeroCells? Tryz.prog 87 = some [.int .i64 0, .int .i64 0, .string ⟨#[]⟩, .slice none 0 0] := by kernel_rfl
theorem eok87 : elemOk Tryz.prog 87 4 56 := ⟨_, _, Tryz.type87, rfl, rfl, rfl, rfl, by decide⟩
@[simp] theorem agg155 : aggOf Tryz.prog 155 = some false := by kernel_rfl
@[simp] theorem sz155 : szOf Tryz.prog 155 = some 1 := by kernel_rfl
@[simp] theorem zero155 : zeroCells? Tryz.prog 155 = some [.int .u64 0] := by kernel_rfl
theorem eok155 : elemOk Tryz.prog 155 1 8 := ⟨_, _, Tryz.type155, rfl, rfl, rfl, rfl, by decide⟩
@[simp] theorem agg173 : aggOf Tryz.prog 173 = some false := by kernel_rfl
@[simp] theorem sz173 : szOf Tryz.prog 173 = some 1 := by kernel_rfl
@[simp] theorem zero173 : zeroCells? Tryz.prog 173 = some [.map none] := by kernel_rfl
theorem eok173 : elemOk Tryz.prog 173 1 8 := ⟨_, _, Tryz.type173, rfl, rfl, rfl, rfl, by decide⟩
end TryTypes
end Go.Abs
