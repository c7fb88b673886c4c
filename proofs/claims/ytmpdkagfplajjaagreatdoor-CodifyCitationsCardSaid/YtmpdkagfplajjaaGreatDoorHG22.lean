/- A part of the proof. -/
import Derived.Test.YtmpdkagfplajjaaGreatDoorHG20
import Derived.Test.YtmpdkagfplajjaaGreatDoorHG16
import Derived.Test.YtmpdkagfplajjaaGreatDoorRows
set_option linter.all false
open Go Go.Abs Go.Proofs
namespace K1
def E0:A8E:=⟨λ_=>.bool,λ_=>0,0⟩
def u8s(n:Nat):Sh:=.parts (List.replicate n (.int .u8))
open Go.Proofs.YtmpdkagfplajjaaGreatDoor.Rows hiding none
noncomputable def cl{H:Type}(sh:Sh)(d:DataW H):AV:=match A4c E0 400 sh d with
 |some l=>.cptr l
 |none=>.poison
noncomputable def glT:Nat->AV
 |0=>cl (.parts (List.replicate 8 (.slice 1 (.int .i64)))) (laid_pandect_unit_below (H:=Unit))
 |1=>cl (.parts (List.replicate 8 .str)) (laid_pandect_unit_names (H:=Unit))
 |3=>.cptr [.func (.func 444) [] [],.func (.func 445) [] []]
 |6=>cl (u8s 256) laid_unicode_utf8_first
 |7=>cl (.parts (List.replicate 16 (u8s 2))) (laid_unicode_utf8_acceptRanges (H:=Unit))
 |8=>cl (.parts (List.replicate 20 (.int .u64))) (laid_internal_strconv_uint64pow10 (H:=Unit))
 |9=>cl (u8s 32) (laid_math_bits_deBruijn32tab (H:=Unit))
 |10=>cl (u8s 64) (laid_math_bits_deBruijn64tab (H:=Unit))
 |_=>.poison
noncomputable def C0:Ctx:=⟨Tryz.prog,glT,λ_=>none,λ_=>false⟩
end K1
