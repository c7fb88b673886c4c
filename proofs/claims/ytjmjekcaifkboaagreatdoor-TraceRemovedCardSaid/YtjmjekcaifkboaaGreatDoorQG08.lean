/- The texts ElY3, ElY4, EmY3, EmY4. -/
import Derived.Test.YtjmjekcaifkboaaGreatDoorQG01
import Derived.JoinedOf
import Derived.KernelRfl
import Derived.Test.YtjmjekcaifkboaaGreatDoorRows
set_option linter.all false
section
set_option maxRecDepth 1000000
namespace Go.Proofs.YtjmjekcaifkboaaGreatDoor
open Go
def j00:(λ(P:Program) (f:FuncId) (fn:Func) (s:ChangeSpec) (c:OpenClaim)=>(c.wf (OpenSpec.ofChange s):Bool)) Tryz.prog 3 Tryz.f3 Rows.traceNeverLostSpec Rows.traceNeverLostRow=true:=by kernel_rfl
def j03:(λ(P:Program) (f:FuncId) (fn:Func) (s:ChangeSpec) (c:OpenClaim)=>(fn.params.all (P.readableRec ·):Bool)) Tryz.prog 3 Tryz.f3 Rows.traceNeverLostSpec Rows.traceNeverLostRow=true:=by kernel_rfl
def j04:(λ(P:Program) (f:FuncId) (fn:Func) (s:ChangeSpec) (c:OpenClaim)=>(namedTie P c.named s.vars:Bool)) Tryz.prog 3 Tryz.f3 Rows.traceNeverLostSpec Rows.traceNeverLostRow=true:=by kernel_rfl
def j05:(λ(P:Program) (f:FuncId) (fn:Func) (s:ChangeSpec) (c:OpenClaim)=>((c.stops==[]):Bool)) Tryz.prog 3 Tryz.f3 Rows.traceNeverLostSpec Rows.traceNeverLostRow=true:=by kernel_rfl
def j06:(λ(P:Program) (f:FuncId) (fn:Func) (s:ChangeSpec) (c:OpenClaim)=>((P.stops==[]):Bool)) Tryz.prog 3 Tryz.f3 Rows.traceNeverLostSpec Rows.traceNeverLostRow=true:=by kernel_rfl
def j07:(λ(P:Program) (f:FuncId) (fn:Func) (s:ChangeSpec) (c:OpenClaim)=>((c.knobs==[]):Bool)) Tryz.prog 3 Tryz.f3 Rows.traceNeverLostSpec Rows.traceNeverLostRow=true:=by kernel_rfl
def j08:(λ(P:Program) (f:FuncId) (fn:Func) (s:ChangeSpec) (c:OpenClaim)=>((P.stopKnobs==[]):Bool)) Tryz.prog 3 Tryz.f3 Rows.traceNeverLostSpec Rows.traceNeverLostRow=true:=by kernel_rfl
def j13:(λ(P:Program) (f:FuncId) (fn:Func) (s:ChangeSpec) (c:OpenClaim)=>((c.maps==(fn.params.toList++s.plain.varTypes P).any (P.mapsRec ·)):Bool)) Tryz.prog 3 Tryz.f3 Rows.traceNeverLostSpec Rows.traceNeverLostRow=true:=by kernel_rfl
def j14:(λ(P:Program) (f:FuncId) (fn:Func) (s:ChangeSpec) (c:OpenClaim)=>((c.ifaces==(fn.params.toList++s.plain.varTypes P).any (P.ifacesRec ·)):Bool)) Tryz.prog 3 Tryz.f3 Rows.traceNeverLostSpec Rows.traceNeverLostRow=true:=by kernel_rfl
def j15:(λ(P:Program) (f:FuncId) (fn:Func) (s:ChangeSpec) (c:OpenClaim)=>((c.mapsOut==P.mapsAmong fn.resultTypes.toList):Bool)) Tryz.prog 3 Tryz.f3 Rows.traceNeverLostSpec Rows.traceNeverLostRow=true:=by kernel_rfl
def j16:(λ(P:Program) (f:FuncId) (fn:Func) (s:ChangeSpec) (c:OpenClaim)=>((c.loops==(fn.params.toList++s.plain.varTypes P).any (P.loopsFrom ·)):Bool)) Tryz.prog 3 Tryz.f3 Rows.traceNeverLostSpec Rows.traceNeverLostRow=true:=by kernel_rfl
def j17:(λ(P:Program) (f:FuncId) (fn:Func) (s:ChangeSpec) (c:OpenClaim)=>((c.wideKeys==(fn.params.toList++s.plain.varTypes P++fn.resultTypes.toList).any (P.wideKeysFrom ·)):Bool)) Tryz.prog 3 Tryz.f3 Rows.traceNeverLostSpec Rows.traceNeverLostRow=true:=by kernel_rfl
def j18:(λ(P:Program) (f:FuncId) (fn:Func) (s:ChangeSpec) (c:OpenClaim)=>(s.vars.all (P.varReadable ·):Bool)) Tryz.prog 3 Tryz.f3 Rows.traceNeverLostSpec Rows.traceNeverLostRow=true:=by kernel_rfl
def j19:(λ(P:Program) (f:FuncId) (fn:Func) (s:ChangeSpec) (c:OpenClaim)=>(fn.resultTypes.all (λt=>P.readableRec t&&decide (t<P.types.size)):Bool)) Tryz.prog 3 Tryz.f3 Rows.traceNeverLostSpec Rows.traceNeverLostRow=true:=by kernel_rfl
def j20:(λ(P:Program) (f:FuncId) (fn:Func) (s:ChangeSpec) (c:OpenClaim)=>((c.ifacesOut==fn.resultTypes.toList.any (P.ifacesRec ·)):Bool)) Tryz.prog 3 Tryz.f3 Rows.traceNeverLostSpec Rows.traceNeverLostRow=true:=by kernel_rfl
def j21:(λ(P:Program) (f:FuncId) (fn:Func) (s:ChangeSpec) (c:OpenClaim)=>((c.loopsOut==fn.resultTypes.toList.any (P.loopsFrom ·)):Bool)) Tryz.prog 3 Tryz.f3 Rows.traceNeverLostSpec Rows.traceNeverLostRow=true:=by kernel_rfl
def j22:(λ(P:Program) (f:FuncId) (fn:Func) (s:ChangeSpec) (c:OpenClaim)=>((c.plainKeys==P.plainKeys):Bool)) Tryz.prog 3 Tryz.f3 Rows.traceNeverLostSpec Rows.traceNeverLostRow=true:=by kernel_rfl
def j23:(λ(P:Program) (f:FuncId) (fn:Func) (s:ChangeSpec) (c:OpenClaim)=>(c.shortTexts.isNone:Bool)) Tryz.prog 3 Tryz.f3 Rows.traceNeverLostSpec Rows.traceNeverLostRow=true:=by kernel_rfl
def j28:(λ(P:Program) (f:FuncId) (fn:Func) (s:ChangeSpec) (c:OpenClaim)=>((c.kinds==(if c.domain.isEmpty then[]else fn.params.toList.map λt=>match P.underlying t with|some (.int k)=>some k|_=>none)):Bool)) Tryz.prog 3 Tryz.f3 Rows.traceNeverLostSpec Rows.traceNeverLostRow=true:=by kernel_rfl
def j29:(λ(P:Program) (f:FuncId) (fn:Func) (s:ChangeSpec) (c:OpenClaim)=>((c.pinned==c.pinnedBy):Bool)) Tryz.prog 3 Tryz.f3 Rows.traceNeverLostSpec Rows.traceNeverLostRow=true:=by kernel_rfl
def j30:(λ(P:Program) (f:FuncId) (fn:Func) (s:ChangeSpec) (c:OpenClaim)=>((c.veiled==(fn.params.toList++s.plain.varTypes P++fn.resultTypes.toList).any (P.veiledRec ·)):Bool)) Tryz.prog 3 Tryz.f3 Rows.traceNeverLostSpec Rows.traceNeverLostRow=true:=by kernel_rfl
def j01:(λ(P:Program) (f:FuncId) (fn:Func) (s:ChangeSpec) (c:OpenClaim)=>(laidOutB P:Bool)) Tryz.prog 3 Tryz.f3 Rows.traceNeverLostSpec Rows.traceNeverLostRow=true:=by kernel_rfl
end Go.Proofs.YtjmjekcaifkboaaGreatDoor
end
section
set_option maxRecDepth 1000000
namespace Go.Proofs.YtjmjekcaifkboaaGreatDoor
open Go
def j02:(λ(P:Program) (f:FuncId) (fn:Func) (s:ChangeSpec) (c:OpenClaim)=>(mapsRowed P:Bool)) Tryz.prog 3 Tryz.f3 Rows.traceNeverLostSpec Rows.traceNeverLostRow=true:=by kernel_rfl
def j24:(λ(P:Program) (f:FuncId) (fn:Func) (s:ChangeSpec) (c:OpenClaim)=>(P.stopsHeard:Bool)) Tryz.prog 3 Tryz.f3 Rows.traceNeverLostSpec Rows.traceNeverLostRow=true:=by kernel_rfl
def j25:(λ(P:Program) (f:FuncId) (fn:Func) (s:ChangeSpec) (c:OpenClaim)=>(P.mayEnter:Bool)) Tryz.prog 3 Tryz.f3 Rows.traceNeverLostSpec Rows.traceNeverLostRow=true:=by kernel_rfl
end Go.Proofs.YtjmjekcaifkboaaGreatDoor
end
section
set_option maxRecDepth 1000000
namespace Go.Proofs.YtjmjekcaifkboaaGreatDoor.Em
open Go
def j00:(λ(P:Program) (f:FuncId) (fn:Func) (s:ChangeSpec) (c:OpenClaim)=>(c.wf (OpenSpec.ofChange s):Bool)) Tryz.prog 4 Tryz.f4 Rows.traceRemovedSpec Rows.traceRemovedRow=true:=by kernel_rfl
def j03:(λ(P:Program) (f:FuncId) (fn:Func) (s:ChangeSpec) (c:OpenClaim)=>(fn.params.all (P.readableRec ·):Bool)) Tryz.prog 4 Tryz.f4 Rows.traceRemovedSpec Rows.traceRemovedRow=true:=by kernel_rfl
def j04:(λ(P:Program) (f:FuncId) (fn:Func) (s:ChangeSpec) (c:OpenClaim)=>(namedTie P c.named s.vars:Bool)) Tryz.prog 4 Tryz.f4 Rows.traceRemovedSpec Rows.traceRemovedRow=true:=by kernel_rfl
def j05:(λ(P:Program) (f:FuncId) (fn:Func) (s:ChangeSpec) (c:OpenClaim)=>((c.stops==[]):Bool)) Tryz.prog 4 Tryz.f4 Rows.traceRemovedSpec Rows.traceRemovedRow=true:=by kernel_rfl
def j06:(λ(P:Program) (f:FuncId) (fn:Func) (s:ChangeSpec) (c:OpenClaim)=>((P.stops==[]):Bool)) Tryz.prog 4 Tryz.f4 Rows.traceRemovedSpec Rows.traceRemovedRow=true:=by kernel_rfl
def j07:(λ(P:Program) (f:FuncId) (fn:Func) (s:ChangeSpec) (c:OpenClaim)=>((c.knobs==[]):Bool)) Tryz.prog 4 Tryz.f4 Rows.traceRemovedSpec Rows.traceRemovedRow=true:=by kernel_rfl
def j08:(λ(P:Program) (f:FuncId) (fn:Func) (s:ChangeSpec) (c:OpenClaim)=>((P.stopKnobs==[]):Bool)) Tryz.prog 4 Tryz.f4 Rows.traceRemovedSpec Rows.traceRemovedRow=true:=by kernel_rfl
def j13:(λ(P:Program) (f:FuncId) (fn:Func) (s:ChangeSpec) (c:OpenClaim)=>((c.maps==(fn.params.toList++s.plain.varTypes P).any (P.mapsRec ·)):Bool)) Tryz.prog 4 Tryz.f4 Rows.traceRemovedSpec Rows.traceRemovedRow=true:=by kernel_rfl
def j14:(λ(P:Program) (f:FuncId) (fn:Func) (s:ChangeSpec) (c:OpenClaim)=>((c.ifaces==(fn.params.toList++s.plain.varTypes P).any (P.ifacesRec ·)):Bool)) Tryz.prog 4 Tryz.f4 Rows.traceRemovedSpec Rows.traceRemovedRow=true:=by kernel_rfl
def j15:(λ(P:Program) (f:FuncId) (fn:Func) (s:ChangeSpec) (c:OpenClaim)=>((c.mapsOut==P.mapsAmong fn.resultTypes.toList):Bool)) Tryz.prog 4 Tryz.f4 Rows.traceRemovedSpec Rows.traceRemovedRow=true:=by kernel_rfl
def j16:(λ(P:Program) (f:FuncId) (fn:Func) (s:ChangeSpec) (c:OpenClaim)=>((c.loops==(fn.params.toList++s.plain.varTypes P).any (P.loopsFrom ·)):Bool)) Tryz.prog 4 Tryz.f4 Rows.traceRemovedSpec Rows.traceRemovedRow=true:=by kernel_rfl
def j17:(λ(P:Program) (f:FuncId) (fn:Func) (s:ChangeSpec) (c:OpenClaim)=>((c.wideKeys==(fn.params.toList++s.plain.varTypes P++fn.resultTypes.toList).any (P.wideKeysFrom ·)):Bool)) Tryz.prog 4 Tryz.f4 Rows.traceRemovedSpec Rows.traceRemovedRow=true:=by kernel_rfl
def j18:(λ(P:Program) (f:FuncId) (fn:Func) (s:ChangeSpec) (c:OpenClaim)=>(s.vars.all (P.varReadable ·):Bool)) Tryz.prog 4 Tryz.f4 Rows.traceRemovedSpec Rows.traceRemovedRow=true:=by kernel_rfl
def j19:(λ(P:Program) (f:FuncId) (fn:Func) (s:ChangeSpec) (c:OpenClaim)=>(fn.resultTypes.all (λt=>P.readableRec t&&decide (t<P.types.size)):Bool)) Tryz.prog 4 Tryz.f4 Rows.traceRemovedSpec Rows.traceRemovedRow=true:=by kernel_rfl
def j20:(λ(P:Program) (f:FuncId) (fn:Func) (s:ChangeSpec) (c:OpenClaim)=>((c.ifacesOut==fn.resultTypes.toList.any (P.ifacesRec ·)):Bool)) Tryz.prog 4 Tryz.f4 Rows.traceRemovedSpec Rows.traceRemovedRow=true:=by kernel_rfl
def j21:(λ(P:Program) (f:FuncId) (fn:Func) (s:ChangeSpec) (c:OpenClaim)=>((c.loopsOut==fn.resultTypes.toList.any (P.loopsFrom ·)):Bool)) Tryz.prog 4 Tryz.f4 Rows.traceRemovedSpec Rows.traceRemovedRow=true:=by kernel_rfl
def j22:(λ(P:Program) (f:FuncId) (fn:Func) (s:ChangeSpec) (c:OpenClaim)=>((c.plainKeys==P.plainKeys):Bool)) Tryz.prog 4 Tryz.f4 Rows.traceRemovedSpec Rows.traceRemovedRow=true:=by kernel_rfl
def j23:(λ(P:Program) (f:FuncId) (fn:Func) (s:ChangeSpec) (c:OpenClaim)=>(c.shortTexts.isNone:Bool)) Tryz.prog 4 Tryz.f4 Rows.traceRemovedSpec Rows.traceRemovedRow=true:=by kernel_rfl
def j28:(λ(P:Program) (f:FuncId) (fn:Func) (s:ChangeSpec) (c:OpenClaim)=>((c.kinds==(if c.domain.isEmpty then[]else fn.params.toList.map λt=>match P.underlying t with|some (.int k)=>some k|_=>none)):Bool)) Tryz.prog 4 Tryz.f4 Rows.traceRemovedSpec Rows.traceRemovedRow=true:=by kernel_rfl
def j29:(λ(P:Program) (f:FuncId) (fn:Func) (s:ChangeSpec) (c:OpenClaim)=>((c.pinned==c.pinnedBy):Bool)) Tryz.prog 4 Tryz.f4 Rows.traceRemovedSpec Rows.traceRemovedRow=true:=by kernel_rfl
def j30:(λ(P:Program) (f:FuncId) (fn:Func) (s:ChangeSpec) (c:OpenClaim)=>((c.veiled==(fn.params.toList++s.plain.varTypes P++fn.resultTypes.toList).any (P.veiledRec ·)):Bool)) Tryz.prog 4 Tryz.f4 Rows.traceRemovedSpec Rows.traceRemovedRow=true:=by kernel_rfl
def j01:(λ(P:Program) (f:FuncId) (fn:Func) (s:ChangeSpec) (c:OpenClaim)=>(laidOutB P:Bool)) Tryz.prog 4 Tryz.f4 Rows.traceRemovedSpec Rows.traceRemovedRow=true:=by kernel_rfl
end Go.Proofs.YtjmjekcaifkboaaGreatDoor.Em
end
section
set_option maxRecDepth 1000000
namespace Go.Proofs.YtjmjekcaifkboaaGreatDoor.Em
open Go
def j02:(λ(P:Program) (f:FuncId) (fn:Func) (s:ChangeSpec) (c:OpenClaim)=>(mapsRowed P:Bool)) Tryz.prog 4 Tryz.f4 Rows.traceRemovedSpec Rows.traceRemovedRow=true:=by kernel_rfl
def j24:(λ(P:Program) (f:FuncId) (fn:Func) (s:ChangeSpec) (c:OpenClaim)=>(P.stopsHeard:Bool)) Tryz.prog 4 Tryz.f4 Rows.traceRemovedSpec Rows.traceRemovedRow=true:=by kernel_rfl
def j25:(λ(P:Program) (f:FuncId) (fn:Func) (s:ChangeSpec) (c:OpenClaim)=>(P.mayEnter:Bool)) Tryz.prog 4 Tryz.f4 Rows.traceRemovedSpec Rows.traceRemovedRow=true:=by kernel_rfl
end Go.Proofs.YtjmjekcaifkboaaGreatDoor.Em
end
