/- A part of the proof. -/
import Derived.Test.YtjmjekcaifkboaaGreatDoorQG35
import Derived.Test.YtjmjekcaifkboaaGreatDoorRows
set_option linter.all false
open Go Go.Abs Go.Proofs
namespace K1
def E0:A7C:=⟨λ_=>.bool,λ_=>0,0⟩
open Go.Proofs.YtjmjekcaifkboaaGreatDoor.Rows hiding none
noncomputable def cl{H:Type}(sh:Sh)(d:DataW H):AV:=match A3l E0 400 sh d with
 |some l=>.cptr l
 |none=>.poison
noncomputable def glT:Nat->AV
 |0=>.cptr [.func (.func 356) [] [],.func (.func 357) [] []]
 |2=>cl (.parts (List.replicate 8 (.slice 1 (.int .i64)))) (laid_pandect_unit_below (H:=Unit))
 |8=>cl (.parts (List.replicate 8 .str)) (laid_pandect_unit_names (H:=Unit))
 |_=>.poison
noncomputable def C0:Ctx:=WC glT
end K1
