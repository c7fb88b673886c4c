/- The context of awake's run. -/
import Derived.Test.YtiipcnbedgamdaaGreatDoorVG17
import Derived.Test.YtiipcnbedgamdaaGreatDoorVG33
import Derived.Test.YtiipcnbedgamdaaGreatDoorVG23
import Derived.Test.YtiipcnbedgamdaaGreatDoorRows
open Go Go.Abs Go.Proofs
namespace K1
def E0 : ShEnv := ⟨fun _ => .bool, fun _ => 0, 0⟩
def u8s (n : Nat) : Sh := .parts (List.replicate n (.int .u8))
open Go.Proofs.YtiipcnbedgamdaaGreatDoor.Rows hiding none
noncomputable def cl {H : Type} (sh : Sh) (d : DataW H) : AV := match avsOf E0 400 sh d with
  | some l => .cptr l
  | none => .poison
noncomputable def glT : Nat → AV
  | 0 => .cptr [.func (.func 388) [] [], .func (.func 389) [] []]
  | 1 => cl (.parts (List.replicate 8 (.slice 1 (.int .i64)))) (laid_pandect_unit_below (H := Unit))
  | 3 => cl (u8s 256) laid_unicode_utf8_first
  | 4 => cl (.parts (List.replicate 16 (u8s 2))) (laid_unicode_utf8_acceptRanges (H := Unit))
  | 5 => cl (.parts (List.replicate 8 .str)) (laid_pandect_unit_names (H := Unit))
  | _ => .poison
noncomputable def C0 : Ctx := WC glT
/-- bytealg.IndexByteString -/
def yIndexByte (args : List AV) (_ : Nat → Option AObj) : Option AV := match args with
  | [.val (.string s), .val (.int .u8 c)] => some (.val (match (List.range s.size).find? fun i => s[i]! == c.toNat.toUInt8 with
    | some i => goInt i
    | none => goInt (-1)))
  | _ => none
noncomputable def Y0 : EIntr := fun f => match Nat.beq f 307 with
  | true => some (lookI yIndexByte)
  | false => none
/-- an insertion ahead of the end -/
def midB (args : List AV) : Bool := match args with
  | [.vref _ _ _ _ len, .val (.int .i64 i), .vref _ _ _ _ _] => match i with
    | .ofNat k => Nat.blt k len
    | .negSucc _ => false
  | _ => false
/-- what it is, told with a look at the memory -/
def insG (g : Nat → Option AObj) (args : List AV) : Option (AV × Nat × AObj) := match args with
  | [.vref f t s lo len, .val (.int .i64 (.ofNat i)), .vref f2 t2 s2 lo2 m] => match g f with
    | some (.vec e sz cs tm hist) => match hist.lookup t, srcCellsG g 8 (.vref f2 t2 s2 lo2 m) with
      | some n, some (news, m') => match Nat.beq e 65, Nat.beq sz 8, Nat.beq s 8, Nat.beq m m', Nat.beq f f2, Nat.ble (lo + len) n, Nat.blt i len, Nat.blt 0 m, Nat.ble ((len + m) * 120) 140737488355328 with
        | true, true, true, true, false, true, true, true, true =>
          some (.vref f (tm + 1) 8 0 (len + m), f, .vec 65 8 (((cs.drop (lo * 8)).take (len * 8)).take (i * 8) ++ news ++ ((cs.drop (lo * 8)).take (len * 8)).drop (i * 8)) (tm + 1) [(tm + 1, len + m)])
        | _, _, _, _, _, _, _, _, _ => none
      | _, _ => none
    | _ => none
  | _ => none
noncomputable def insE : YCallI := fun args h n => match midB args with
  | true => match insG h.get args with
    | some (v, f, o) => some (v, h.put f o, n, [f])
    | none => none
  | false => eCall C0 Y0 4000 3 226 args h n
noncomputable def Y1 : EIntr := fun f => match Nat.beq f 226 with
  | true => some insE
  | false => Y0 f
end K1
