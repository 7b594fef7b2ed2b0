/- ChangeApplies of kingpostlaw58: part 14 of its proof (merged and shortened by program). -/
import Derived.Test.YtnepbjnlmkppmaaGreatDoorRows
import Derived.JoinedCond
import Derived.KernelRfl
import Derived.Test.YtnepbjnlmkppmaaGreatDoorP01
set_option linter.unusedVariables false
set_option linter.unusedSimpArgs false
set_option linter.defProp false
set_option maxHeartbeats 8000000
set_option maxRecDepth 100000
open Go.Proofs.Tryz
open Bool renaming true→Y
open Decidable renaming decide→YG
open Option renaming some→L
open Go.Proofs.YtnepbjnlmkppmaaGreatDoor
namespace Go.Proofs.YtnepbjnlmkppmaaGreatDoor
section
open Go.ChangeShapes Go.WideShapes Go.ChangeAt
def V0:(Rows.changeAppliesUptoRow.wf (OpenSpec.ofChange (Rows.OpenSpec.upto Rows.changeAppliesSpec).bare))=Y:=R
def Wm:(laidOutB Tryz.pinned.checked.prog)=Y:=R
def WC:(mapsRowed Tryz.pinned.checked.prog)=Y:=R
def WG:(Tryz.f3.params.all (Tryz.pinned.checked.prog.readableRec ·))=Y:=R
def Wo:(namedTie Tryz.pinned.checked.prog Rows.changeAppliesUptoRow.named (Rows.OpenSpec.upto Rows.changeAppliesSpec).bare.vars)=Y:=R
def WQ:((Rows.changeAppliesUptoRow.stops==[]))=Y:=R
def Wd:((Tryz.pinned.checked.prog.stops==[]))=Y:=R
def Wi:((Rows.changeAppliesUptoRow.knobs==[]))=Y:=R
def Wz:((Tryz.pinned.checked.prog.stopKnobs==[]))=Y:=R
def Wy:((Rows.changeAppliesUptoRow.inPlace==Tryz.pinned.checked.prog.inPlace 3))=Y:=R
def UO:((Rows.changeAppliesUptoRow.unfollowed==Tryz.pinned.checked.prog.unfollowed 3))=Y:=R
def UT:((Rows.changeAppliesUptoRow.recurses==Tryz.pinned.checked.prog.recurses 3))=Y:=R
def Vv:((Rows.changeAppliesUptoRow.named==Tryz.pinned.checked.prog.varsNamed 3))=Y:=R
def UE:((Rows.changeAppliesUptoRow.maps==(Tryz.f3.params.toList++(Rows.OpenSpec.upto Rows.changeAppliesSpec).bare.plain.varTypes Tryz.pinned.checked.prog).any (Tryz.pinned.checked.prog.mapsRec ·)))=Y:=R
def Uu:((Rows.changeAppliesUptoRow.ifaces==(Tryz.f3.params.toList++(Rows.OpenSpec.upto Rows.changeAppliesSpec).bare.plain.varTypes Tryz.pinned.checked.prog).any (Tryz.pinned.checked.prog.ifacesRec ·)))=Y:=R
def Vh:((Rows.changeAppliesUptoRow.mapsOut==Tryz.pinned.checked.prog.mapsAmong Tryz.f3.resultTypes.toList))=Y:=R
def Ve:((Rows.changeAppliesUptoRow.loops==(Tryz.f3.params.toList++(Rows.OpenSpec.upto Rows.changeAppliesSpec).bare.plain.varTypes Tryz.pinned.checked.prog).any (Tryz.pinned.checked.prog.loopsFrom ·)))=Y:=R
def VM:((Rows.changeAppliesUptoRow.wideKeys==(Tryz.f3.params.toList++(Rows.OpenSpec.upto Rows.changeAppliesSpec).bare.plain.varTypes Tryz.pinned.checked.prog++Tryz.f3.resultTypes.toList).any (Tryz.pinned.checked.prog.wideKeysFrom ·)))=Y:=R
def U1:((Rows.OpenSpec.upto Rows.changeAppliesSpec).bare.vars.all (Tryz.pinned.checked.prog.varReadable ·))=Y:=R
def Vx:(Tryz.f3.resultTypes.all (λt=>Tryz.pinned.checked.prog.readableRec t&&YG (t<Tryz.pinned.checked.prog.types.size)))=Y:=R
def UZ:((Rows.changeAppliesUptoRow.ifacesOut==Tryz.f3.resultTypes.toList.any (Tryz.pinned.checked.prog.ifacesRec ·)))=Y:=R
def Ut:((Rows.changeAppliesUptoRow.loopsOut==Tryz.f3.resultTypes.toList.any (Tryz.pinned.checked.prog.loopsFrom ·)))=Y:=R
def VO:((Rows.changeAppliesUptoRow.plainKeys==Tryz.pinned.checked.prog.plainKeys))=Y:=R
def VJ:(Rows.changeAppliesUptoRow.shortTexts.isNone)=Y:=R
def Us:(Tryz.pinned.checked.prog.stopsHeard)=Y:=R
def VL:(Tryz.pinned.checked.prog.mayEnter)=Y:=R
def UG:((Rows.changeAppliesUptoRow.lifted==Tryz.pinned.checked.prog.liftsFinal))=Y:=R
def UQ:((Tryz.pinned.checked.prog.make==L Rows.changeAppliesUptoRow.make))=Y:=R
def Vs:((Rows.changeAppliesUptoRow.kinds==(if Rows.changeAppliesUptoRow.domain.isEmpty then [] else Tryz.f3.params.toList.map λt=>match Tryz.pinned.checked.prog.underlying t with|some (.int k)=>L k|_=>Option.none)))=Y:=R
def Ur:((Rows.changeAppliesUptoRow.pinned==Rows.changeAppliesUptoRow.pinnedBy))=Y:=R
def UB:((Rows.changeAppliesUptoRow.veiled==(Tryz.f3.params.toList++(Rows.OpenSpec.upto Rows.changeAppliesSpec).bare.plain.varTypes Tryz.pinned.checked.prog++Tryz.f3.resultTypes.toList).any (Tryz.pinned.checked.prog.veiledRec ·)))=Y:=R
def Vp:(Rows.changeAppliesUptoRow.veiledFits Tryz.pinned.checked.prog Tryz.f3.params.toList (Tryz.f3.params.toList++(Rows.OpenSpec.upto Rows.changeAppliesSpec).bare.plain.varTypes Tryz.pinned.checked.prog++Tryz.f3.resultTypes.toList))=Y:=R
end
end Go.Proofs.YtnepbjnlmkppmaaGreatDoor

