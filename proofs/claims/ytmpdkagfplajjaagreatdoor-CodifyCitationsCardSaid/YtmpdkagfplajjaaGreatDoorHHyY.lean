/- A part of the proof. -/
import Derived.Test.YtmpdkagfplajjaaGreatDoorHG48
import Derived.Test.YtmpdkagfplajjaaGreatDoorHG49
import Derived.Test.YtmpdkagfplajjaaGreatDoorHG11
import Derived.SevenTiedAt
import Derived.Test.YtmpdkagfplajjaaGreatDoorCards
import Derived.Test.YtmpdkagfplajjaaGreatDoorTie
set_option linter.all false
set_option maxRecDepth 1000000
namespace Go.Proofs.YtmpdkagfplajjaaGreatDoor
open Go Go.Abs
def citationsHolds:Rows.CodifyCitationsCardSaid:=
 Claim7.holds_tied_plain_at .later [] [.data,.data,.data,.data,.sentinel,.sentinel,.data,.widerDeep,.funcs,.pinned] true (true, "2386ac59eca4601797d5f3a0793bc1c5e007c8d368edfa11eb76113b4379a9ad") true
  citationsRow (λ_ h=>by cases h) cWf (λ_ h=>by cases h) codifyCitations_row_tie rfl ⟨rfl,rfl⟩ E4u rfl
  (λf fn hf hfn=>by obtain rfl:f=9:=Z1H (cFn.symm.trans hf)|>.symm;obtain rfl:fn=Tryz.f9:=(Z1H (Tryz.func9.symm.trans hfn)).symm;exact⟨E0W,λj t ht=>by rw[Tryz.params9]at ht;(have hm:t∈[27,28,44,3]:=by simpa using Array.mem_of_getElem? ht);exact(show Tryz.prog.wantsStandIn t=false by simpa using List.all_eq_true.1 D9O t hm)⟩)
  E3V
#print axioms citationsHolds
end Go.Proofs.YtmpdkagfplajjaaGreatDoor
