/- A part of the proof. -/
import Derived.Test.YtlihfpfgogncbaaGreatDoorG23
import Derived.Test.YtlihfpfgogncbaaGreatDoorG35
import Derived.Test.YtlihfpfgogncbaaGreatDoorG25
import Derived.Lib.Join
import Derived.Test.YtlihfpfgogncbaaGreatDoorRows
open Go Go.Abs Go.Proofs
namespace K1
def E0 : ShEnv := ⟨fun _ => .bool, fun _ => 0, 0⟩
def u8s (n : Nat) : Sh := .parts (List.replicate n (.int .u8))
open Go.Proofs.YtlihfpfgogncbaaGreatDoor.Rows hiding none
noncomputable def cl {H : Type} (sh : Sh) (d : DataW H) : AV := match avsOf E0 400 sh d with
  | some l => .cptr l
  | none => .poison
noncomputable def glT : Nat → AV
  | 0 => cl (.parts (List.replicate 20 (.int .u64))) (laid_internal_strconv_uint64pow10 (H := Unit))
  | 2 => .cptr [.func (.func 336) [] [], .func (.func 337) [] []]
  | 3 => cl (u8s 32) (laid_math_bits_deBruijn32tab (H := Unit))
  | 4 => cl (u8s 64) (laid_math_bits_deBruijn64tab (H := Unit))
  | 5 => cl (.parts (List.replicate 8 (.slice 1 (.int .i64)))) (laid_pandect_unit_below (H := Unit))
  | 6 => cl (u8s 256) laid_unicode_utf8_first
  | 7 => cl (.parts (List.replicate 16 (u8s 2))) (laid_unicode_utf8_acceptRanges (H := Unit))
  | 8 => cl (.parts (List.replicate 8 .str)) (laid_pandect_unit_names (H := Unit))
  | _ => .poison
noncomputable def C0 : Ctx := WC glT
/-- a slice of strings that is an array of its own -/
def strsOf : List AV → Option (List ByteArray)
  | [] => some []
  | c :: cs => match c with
    | .val (.string s) => match strsOf cs with
      | some l => some (s :: l)
      | none => none
    | _ => none
def joinL (l : List ByteArray) (sep : ByteArray) : List UInt8 := Lib.join (l.map (·.data.toList)) sep.data.toList
abbrev Look := Nat → Option AObj
def ySame (args : List AV) (_ : Look) : Option AV := match args with
  | [v] => some v
  | _ => none
def yIndexByte (args : List AV) (_ : Look) : Option AV := match args with
  | [.val (.string s), .val (.int .u8 c)] => some (.val (match (List.range s.size).find? fun i => s[i]! == c.toNat.toUInt8 with
    | some i => goInt i
    | none => goInt (-1)))
  | _ => none
def yJoin (args : List AV) (g : Look) : Option AV := match args with
  | [.vref f t 1 0 len, .val (.string sep)] => match g f with
    | some (.vec _ 1 cs _ hist) => match hist.lookup t, strsOf cs with
      | some n, some l => if n = len ∧ cs.length = len ∧ len ≤ 1000 ∧ (joinL l sep).length ≤ 100000 then some (.val (.string ⟨(joinL l sep).toArray⟩)) else none
      | _, _ => none
    | _ => none
  | _ => none
def Y0 : YIntr := fun f => match Nat.beq f 82 with
  | true => some ySame
  | false => match Nat.beq f 318 with
    | true => some yIndexByte
    | false => match Nat.beq f 33 with
      | true => some yJoin
      | false => none
end K1
