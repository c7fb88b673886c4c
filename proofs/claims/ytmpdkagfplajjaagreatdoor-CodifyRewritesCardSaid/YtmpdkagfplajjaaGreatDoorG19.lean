/- The types of Codify's seat: their sizes, zero values and readings, by program. -/
import Derived.Test.YtmpdkagfplajjaaGreatDoorG17
import Derived.Test.YtmpdkagfplajjaaGreatDoorProg
set_option maxRecDepth 100000
namespace Go.Abs
open Go.Proofs
namespace TryTypes
@[simp] theorem agg3 : aggOf Tryz.prog 3 = some false := by kernel_rfl
@[simp] theorem sz3 : szOf Tryz.prog 3 = some 1 := by kernel_rfl
@[simp] theorem zero3 : zeroCells? Tryz.prog 3 = some [.int .i64 0] := by kernel_rfl
theorem eok3 : elemOk Tryz.prog 3 1 8 := ⟨_, _, Tryz.type3, rfl, rfl, rfl, rfl, by decide⟩
@[simp] theorem agg4 : aggOf Tryz.prog 4 = some false := by kernel_rfl
@[simp] theorem sz4 : szOf Tryz.prog 4 = some 1 := by kernel_rfl
@[simp] theorem zero4 : zeroCells? Tryz.prog 4 = some [.bool false] := by kernel_rfl
theorem eok4 : elemOk Tryz.prog 4 1 1 := ⟨_, _, Tryz.type4, rfl, rfl, rfl, rfl, by decide⟩
@[simp] theorem agg5 : aggOf Tryz.prog 5 = some false := by kernel_rfl
@[simp] theorem sz5 : szOf Tryz.prog 5 = some 1 := by kernel_rfl
@[simp] theorem zero5 : zeroCells? Tryz.prog 5 = some [.int .u8 0] := by kernel_rfl
theorem eok5 : elemOk Tryz.prog 5 1 1 := ⟨_, _, Tryz.type5, rfl, rfl, rfl, rfl, by decide⟩
@[simp] theorem agg9 : aggOf Tryz.prog 9 = some false := by kernel_rfl
@[simp] theorem sz9 : szOf Tryz.prog 9 = some 1 := by kernel_rfl
@[simp] theorem zero9 : zeroCells? Tryz.prog 9 = some [.string ⟨#[]⟩] := by kernel_rfl
theorem eok9 : elemOk Tryz.prog 9 1 16 := ⟨_, _, Tryz.type9, rfl, rfl, rfl, rfl, by decide⟩
@[simp] theorem agg21 : aggOf Tryz.prog 21 = some false := by kernel_rfl
@[simp] theorem sz21 : szOf Tryz.prog 21 = some 1 := by kernel_rfl
@[simp] theorem zero21 : zeroCells? Tryz.prog 21 = some [.int .i32 0] := by kernel_rfl
theorem eok21 : elemOk Tryz.prog 21 1 4 := ⟨_, _, Tryz.type21, rfl, rfl, rfl, rfl, by decide⟩
@[simp] theorem agg37 : aggOf Tryz.prog 37 = some false := by kernel_rfl
@[simp] theorem sz37 : szOf Tryz.prog 37 = some 1 := by kernel_rfl
@[simp] theorem elem37 : elemOf? Tryz.prog 37 = some 9 := by kernel_rfl
theorem src37 : srcOk Tryz.prog 37 := .inl ⟨9, by kernel_rfl⟩
@[simp] theorem zero37 : zeroCells? Tryz.prog 37 = some [.slice none 0 0] := by kernel_rfl
theorem eok37 : elemOk Tryz.prog 37 1 24 := ⟨_, _, Tryz.type37, rfl, rfl, rfl, rfl, by decide⟩
@[simp] theorem agg38 : aggOf Tryz.prog 38 = some false := by kernel_rfl
@[simp] theorem sz38 : szOf Tryz.prog 38 = some 1 := by kernel_rfl
@[simp] theorem elem38 : elemOf? Tryz.prog 38 = some 110 := by kernel_rfl
theorem src38 : srcOk Tryz.prog 38 := .inl ⟨110, by kernel_rfl⟩
@[simp] theorem zero38 : zeroCells? Tryz.prog 38 = some [.slice none 0 0] := by kernel_rfl
theorem eok38 : elemOk Tryz.prog 38 1 24 := ⟨_, _, Tryz.type38, rfl, rfl, rfl, rfl, by decide⟩
@[simp] theorem agg39 : aggOf Tryz.prog 39 = some false := by kernel_rfl
@[simp] theorem sz39 : szOf Tryz.prog 39 = some 1 := by kernel_rfl
@[simp] theorem elem39 : elemOf? Tryz.prog 39 = some 40 := by kernel_rfl
theorem src39 : srcOk Tryz.prog 39 := .inl ⟨40, by kernel_rfl⟩
@[simp] theorem zero39 : zeroCells? Tryz.prog 39 = some [.slice none 0 0] := by kernel_rfl
theorem eok39 : elemOk Tryz.prog 39 1 24 := ⟨_, _, Tryz.type39, rfl, rfl, rfl, rfl, by decide⟩
@[simp] theorem agg40 : aggOf Tryz.prog 40 = some false := by kernel_rfl
@[simp] theorem sz40 : szOf Tryz.prog 40 = some 1 := by kernel_rfl
@[simp] theorem elem40 : elemOf? Tryz.prog 40 = some 159 := by kernel_rfl
theorem src40 : srcOk Tryz.prog 40 := .inl ⟨159, by kernel_rfl⟩
@[simp] theorem zero40 : zeroCells? Tryz.prog 40 = some [.slice none 0 0] := by kernel_rfl
theorem eok40 : elemOk Tryz.prog 40 1 24 := ⟨_, _, Tryz.type40, rfl, rfl, rfl, rfl, by decide⟩
@[simp] theorem agg110 : aggOf Tryz.prog 110 = some true := by kernel_rfl
@[simp] theorem sz110 : szOf Tryz.prog 110 = some 5 := by kernel_rfl
@[simp] theorem off110_0 : offOf Tryz.prog 110 0 = some 0 := by kernel_rfl
@[simp] theorem fld110_0 : fieldOf? Tryz.prog 110 0 = some (0, 3) := by kernel_rfl
@[simp] theorem off110_1 : offOf Tryz.prog 110 1 = some 1 := by kernel_rfl
@[simp] theorem fld110_1 : fieldOf? Tryz.prog 110 1 = some (1, 40) := by kernel_rfl
@[simp] theorem off110_2 : offOf Tryz.prog 110 2 = some 2 := by kernel_rfl
@[simp] theorem fld110_2 : fieldOf? Tryz.prog 110 2 = some (2, 9) := by kernel_rfl
@[simp] theorem off110_3 : offOf Tryz.prog 110 3 = some 3 := by kernel_rfl
@[simp] theorem fld110_3 : fieldOf? Tryz.prog 110 3 = some (3, 3) := by kernel_rfl
@[simp] theorem off110_4 : offOf Tryz.prog 110 4 = some 4 := by kernel_rfl
@[simp] theorem fld110_4 : fieldOf? Tryz.prog 110 4 = some (4, 3) := by kernel_rfl
@[simp] theorem fok110 : fieldsOk Tryz.prog 110 = true := by kernel_rfl
@[simp] theorem zero110 : zeroCells? Tryz.prog 110 = some [.int .i64 0, .slice none 0 0, .string ⟨#[]⟩, .int .i64 0, .int .i64 0] := by kernel_rfl
theorem eok110 : elemOk Tryz.prog 110 5 64 := ⟨_, _, Tryz.type110, rfl, rfl, rfl, rfl, by decide⟩
@[simp] theorem agg113 : aggOf Tryz.prog 113 = some false := by kernel_rfl
@[simp] theorem sz113 : szOf Tryz.prog 113 = some 1 := by kernel_rfl
@[simp] theorem zero113 : zeroCells? Tryz.prog 113 = some [.pointer none] := by kernel_rfl
theorem eok113 : elemOk Tryz.prog 113 1 8 := ⟨_, _, Tryz.type113, rfl, rfl, rfl, rfl, by decide⟩
@[simp] theorem agg114 : aggOf Tryz.prog 114 = some false := by kernel_rfl
@[simp] theorem sz114 : szOf Tryz.prog 114 = some 1 := by kernel_rfl
@[simp] theorem elem114 : elemOf? Tryz.prog 114 = some 5 := by kernel_rfl
theorem src114 : srcOk Tryz.prog 114 := .inl ⟨5, by kernel_rfl⟩
@[simp] theorem zero114 : zeroCells? Tryz.prog 114 = some [.slice none 0 0] := by kernel_rfl
theorem eok114 : elemOk Tryz.prog 114 1 24 := ⟨_, _, Tryz.type114, rfl, rfl, rfl, rfl, by decide⟩
@[simp] theorem agg116 : aggOf Tryz.prog 116 = some true := by kernel_rfl
@[simp] theorem sz116 : szOf Tryz.prog 116 = some 2 := by kernel_rfl
@[simp] theorem off116_0 : offOf Tryz.prog 116 0 = some 0 := by kernel_rfl
@[simp] theorem fld116_0 : fieldOf? Tryz.prog 116 0 = some (0, 113) := by kernel_rfl
@[simp] theorem off116_1 : offOf Tryz.prog 116 1 = some 1 := by kernel_rfl
@[simp] theorem fld116_1 : fieldOf? Tryz.prog 116 1 = some (1, 114) := by kernel_rfl
@[simp] theorem fok116 : fieldsOk Tryz.prog 116 = true := by kernel_rfl
@[simp] theorem zero116 : zeroCells? Tryz.prog 116 = some [.pointer none, .slice none 0 0] := by kernel_rfl
theorem eok116 : elemOk Tryz.prog 116 2 32 := ⟨_, _, Tryz.type116, rfl, rfl, rfl, rfl, by decide⟩
@[simp] theorem agg118 : aggOf Tryz.prog 118 = some false := by kernel_rfl
@[simp] theorem sz118 : szOf Tryz.prog 118 = some 1 := by kernel_rfl
@[simp] theorem zero118 : zeroCells? Tryz.prog 118 = some [.nilIface] := by kernel_rfl
theorem eok118 : elemOk Tryz.prog 118 1 16 := ⟨_, _, Tryz.type118, rfl, rfl, rfl, rfl, by decide⟩
@[simp] theorem agg159 : aggOf Tryz.prog 159 = some true := by kernel_rfl
@[simp] theorem sz159 : szOf Tryz.prog 159 = some 2 := by kernel_rfl
@[simp] theorem off159_0 : offOf Tryz.prog 159 0 = some 0 := by kernel_rfl
@[simp] theorem fld159_0 : fieldOf? Tryz.prog 159 0 = some (0, 3) := by kernel_rfl
@[simp] theorem off159_1 : offOf Tryz.prog 159 1 = some 1 := by kernel_rfl
@[simp] theorem fld159_1 : fieldOf? Tryz.prog 159 1 = some (1, 9) := by kernel_rfl
@[simp] theorem fok159 : fieldsOk Tryz.prog 159 = true := by kernel_rfl
@[simp] theorem zero159 : zeroCells? Tryz.prog 159 = some [.int .i64 0, .string ⟨#[]⟩] := by kernel_rfl
theorem eok159 : elemOk Tryz.prog 159 2 24 := ⟨_, _, Tryz.type159, rfl, rfl, rfl, rfl, by decide⟩
@[simp] theorem agg178 : aggOf Tryz.prog 178 = some false := by kernel_rfl
@[simp] theorem sz178 : szOf Tryz.prog 178 = some 1 := by kernel_rfl
@[simp] theorem zero178 : zeroCells? Tryz.prog 178 = some [.pointer none] := by kernel_rfl
theorem eok178 : elemOk Tryz.prog 178 1 8 := ⟨_, _, Tryz.type178, rfl, rfl, rfl, rfl, by decide⟩
@[simp] theorem agg212 : aggOf Tryz.prog 212 = some false := by kernel_rfl
@[simp] theorem sz212 : szOf Tryz.prog 212 = some 1 := by kernel_rfl
@[simp] theorem zero212 : zeroCells? Tryz.prog 212 = some [.nilFunc] := by kernel_rfl
theorem eok212 : elemOk Tryz.prog 212 1 8 := ⟨_, _, Tryz.type212, rfl, rfl, rfl, rfl, by decide⟩
@[simp] theorem agg215 : aggOf Tryz.prog 215 = some false := by kernel_rfl
@[simp] theorem sz215 : szOf Tryz.prog 215 = some 1 := by kernel_rfl
@[simp] theorem zero215 : zeroCells? Tryz.prog 215 = some [.pointer none] := by kernel_rfl
theorem eok215 : elemOk Tryz.prog 215 1 8 := ⟨_, _, Tryz.type215, rfl, rfl, rfl, rfl, by decide⟩
@[simp] theorem agg232 : aggOf Tryz.prog 232 = some false := by kernel_rfl
@[simp] theorem sz232 : szOf Tryz.prog 232 = some 1 := by kernel_rfl
@[simp] theorem zero232 : zeroCells? Tryz.prog 232 = some [.nilFunc] := by kernel_rfl
theorem eok232 : elemOk Tryz.prog 232 1 8 := ⟨_, _, Tryz.type232, rfl, rfl, rfl, rfl, by decide⟩
@[simp] theorem agg327 : aggOf Tryz.prog 327 = some false := by kernel_rfl
@[simp] theorem sz327 : szOf Tryz.prog 327 = some 1 := by kernel_rfl
@[simp] theorem zero327 : zeroCells? Tryz.prog 327 = some [.int .u32 0] := by kernel_rfl
theorem eok327 : elemOk Tryz.prog 327 1 4 := ⟨_, _, Tryz.type327, rfl, rfl, rfl, rfl, by decide⟩
end TryTypes
end Go.Abs
