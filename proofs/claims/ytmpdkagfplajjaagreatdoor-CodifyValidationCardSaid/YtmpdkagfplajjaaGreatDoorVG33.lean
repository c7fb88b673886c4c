/- A part of the proof. -/
import Derived.Test.YtmpdkagfplajjaaGreatDoorVG13
import Derived.Test.YtmpdkagfplajjaaGreatDoorVG32
import Derived.Test.YtmpdkagfplajjaaGreatDoorRows
open Go Go.Abs Go.Proofs
namespace K1
def E0 : ShEnv := ⟨fun _ => .bool, fun _ => 0, 0⟩
def u8s (n : Nat) : Sh := .parts (List.replicate n (.int .u8))
open Go.Proofs.YtmpdkagfplajjaaGreatDoor.Rows hiding none
noncomputable def cl {H : Type} (sh : Sh) (d : DataW H) : AV := match avsOf E0 400 sh d with
  | some l => .cptr l
  | none => .poison
noncomputable def glT : Nat → AV
  | 0 => cl (.parts (List.replicate 8 (.slice 1 (.int .i64)))) (laid_pandect_unit_below (H := Unit))
  | 1 => cl (.parts (List.replicate 8 .str)) (laid_pandect_unit_names (H := Unit))
  | 3 => .cptr [.func (.func 444) [] [], .func (.func 445) [] []]
  | 6 => cl (u8s 256) laid_unicode_utf8_first
  | 7 => cl (.parts (List.replicate 16 (u8s 2))) (laid_unicode_utf8_acceptRanges (H := Unit))
  | 8 => cl (.parts (List.replicate 20 (.int .u64))) (laid_internal_strconv_uint64pow10 (H := Unit))
  | 9 => cl (u8s 32) (laid_math_bits_deBruijn32tab (H := Unit))
  | 10 => cl (u8s 64) (laid_math_bits_deBruijn64tab (H := Unit))
  | _ => .poison
noncomputable def C0 : Ctx := ⟨Tryz.prog, glT, fun _ => none, fun _ => false⟩
def I0 : Intr := intrL [(170, xSame), (344, xIndexByte)]
abbrev Look := Nat → Option AObj
def ySame (args : List AV) (_ : Look) : Option AV := match args with
  | [v] => some v
  | _ => none
def yIndexByte (args : List AV) (_ : Look) : Option AV := match args with
  | [.val (.string s), .val (.int .u8 c)] => some (.val (match (List.range s.size).find? fun i => s[i]! == c.toNat.toUInt8 with
    | some i => goInt i
    | none => goInt (-1)))
  | _ => none
def Y0 : YIntr := fun f => match Nat.beq f 170 with
  | true => some ySame
  | false => match Nat.beq f 344 with
    | true => some yIndexByte
    | false => none
end K1
