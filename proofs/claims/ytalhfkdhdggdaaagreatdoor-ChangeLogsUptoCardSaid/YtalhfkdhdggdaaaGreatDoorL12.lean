/- ChangeLogs of kingpostlaw58: part 12 of its proof (merged and shortened by program). -/
import Derived.Test.YtalhfkdhdggdaaaGreatDoorRows
import Derived.JoinedCond
import Derived.Test.YtalhfkdhdggdaaaGreatDoorL01
set_option linter.unusedVariables false
set_option linter.unusedSimpArgs false
set_option linter.defProp false
set_option maxHeartbeats 8000000
set_option maxRecDepth 100000
open Go.Proofs.Tryz
open And renaming intro→Ci
open Array renaming replicate→E7
open Bool renaming false→AM,true→AL
open ByteArray renaming size→OY
open Decidable renaming decide→AQ
open Go renaming World→V,Value→AN,Calls→AZ,TypeId→Bb,Addr→An,maxLen→BM,undef→Ba,Ending→CI,wpList→CQ,MemPlace→Dw,KeepsOthers→GF,MapEntry→FG,DataW→D6,Operand→F0,Act→BV
open Go.Act renaming put→G7
open Go.Builtin renaming zeroCells→Is,append_→JN
open Go.DataW renaming trod→ET
open Go.Ending renaming returned→Ac
open Go.Fence renaming wide→Ha
open Go.IntKind renaming i64→G
open Go.Lib renaming hasPrefix→DH,cut→Bj,compareInt→Dv,itoa→CY,decDigits→ES,split→Da,byteCells→IV
open Go.MapKept renaming IsKey→MV
open Go.Proofs.Tryz renaming prog→AO,underlying54→Cc,underlying34→DV,underlying25→FD,underlying3→GQ
open Go.Region renaming wanted→Ir
open Go.RowKit renaming intOf→B8,Below→At
open Go.Value renaming agg→Ea,oneCell'→Ks,slice→FO,ownBlock→Hv,int→Gr,slice→AK,string→AT,bool→AU,pointer→Ap,int→M,agg→AW,tuple→BO
open Go.World renaming setCell→Di,cell?→Dx,setRow→F8,frozen?→Hb
open List renaming replicate→F7,range→G8,getD→Gs,length→ln
open Nat renaming gcd→DO,reduceAdd→Hw
open Option renaming none→O,some→Q,getD→FF
open Or renaming inl→Cf
open UInt8 renaming ofNat→GR
open Go.Proofs.YtalhfkdhdggdaaaGreatDoor
namespace Go.Proofs.YtalhfkdhdggdaaaGreatDoor
section
open Go.ChangeShapes Go.WideShapes Go.ChangeAt
def b4X:(Rows.changeLogsUptoRow.wf (OpenSpec.ofChange (Rows.OpenSpec.upto Rows.changeLogsSpec).bare))=AL:=U
def b4c:(laidOutB Tryz.pinned.checked.prog)=AL:=U
def b4h:(mapsRowed Tryz.pinned.checked.prog)=AL:=U
def b4n:(Tryz.f3.params.all (Tryz.pinned.checked.prog.readableRec ·))=AL:=U
def b4a:(namedTie Tryz.pinned.checked.prog Rows.changeLogsUptoRow.named (Rows.OpenSpec.upto Rows.changeLogsSpec).bare.vars)=AL:=U
def b4Y:((Rows.changeLogsUptoRow.stops==[]))=AL:=U
def b4p:((Tryz.pinned.checked.prog.stops==[]))=AL:=U
def b4z:((Rows.changeLogsUptoRow.knobs==[]))=AL:=U
def b4o:((Tryz.pinned.checked.prog.stopKnobs==[]))=AL:=U
def b4i:((Rows.changeLogsUptoRow.inPlace==Tryz.pinned.checked.prog.inPlace 3))=AL:=U
def b3t:((Rows.changeLogsUptoRow.unfollowed==Tryz.pinned.checked.prog.unfollowed 3))=AL:=U
def b3s:((Rows.changeLogsUptoRow.recurses==Tryz.pinned.checked.prog.recurses 3))=AL:=U
def b4M:((Rows.changeLogsUptoRow.named==Tryz.pinned.checked.prog.varsNamed 3))=AL:=U
def b4T:((Rows.changeLogsUptoRow.maps==(Tryz.f3.params.toList++(Rows.OpenSpec.upto Rows.changeLogsSpec).bare.plain.varTypes Tryz.pinned.checked.prog).any (Tryz.pinned.checked.prog.mapsRec ·)))=AL:=U
def b4S:((Rows.changeLogsUptoRow.ifaces==(Tryz.f3.params.toList++(Rows.OpenSpec.upto Rows.changeLogsSpec).bare.plain.varTypes Tryz.pinned.checked.prog).any (Tryz.pinned.checked.prog.ifacesRec ·)))=AL:=U
def b4L:((Rows.changeLogsUptoRow.mapsOut==Tryz.pinned.checked.prog.mapsAmong Tryz.f3.resultTypes.toList))=AL:=U
def b4F:((Rows.changeLogsUptoRow.loops==(Tryz.f3.params.toList++(Rows.OpenSpec.upto Rows.changeLogsSpec).bare.plain.varTypes Tryz.pinned.checked.prog).any (Tryz.pinned.checked.prog.loopsFrom ·)))=AL:=U
def b4y:((Rows.changeLogsUptoRow.wideKeys==(Tryz.f3.params.toList++(Rows.OpenSpec.upto Rows.changeLogsSpec).bare.plain.varTypes Tryz.pinned.checked.prog++Tryz.f3.resultTypes.toList).any (Tryz.pinned.checked.prog.wideKeysFrom ·)))=AL:=U
def b4H:((Rows.OpenSpec.upto Rows.changeLogsSpec).bare.vars.all (Tryz.pinned.checked.prog.varReadable ·))=AL:=U
def b4x:(Tryz.f3.resultTypes.all (λt=>Tryz.pinned.checked.prog.readableRec t&&AQ (t<Tryz.pinned.checked.prog.types.size)))=AL:=U
def b3r:((Rows.changeLogsUptoRow.ifacesOut==Tryz.f3.resultTypes.toList.any (Tryz.pinned.checked.prog.ifacesRec ·)))=AL:=U
def b4N:((Rows.changeLogsUptoRow.loopsOut==Tryz.f3.resultTypes.toList.any (Tryz.pinned.checked.prog.loopsFrom ·)))=AL:=U
def b4K:((Rows.changeLogsUptoRow.plainKeys==Tryz.pinned.checked.prog.plainKeys))=AL:=U
def b3c:(Rows.changeLogsUptoRow.shortTexts.isNone)=AL:=U
def b3S:(Tryz.pinned.checked.prog.stopsHeard)=AL:=U
def b3Z:(Tryz.pinned.checked.prog.mayEnter)=AL:=U
def b3Y:((Rows.changeLogsUptoRow.lifted==Tryz.pinned.checked.prog.liftsFinal))=AL:=U
def b43:((Tryz.pinned.checked.prog.make==Q Rows.changeLogsUptoRow.make))=AL:=U
def b3w:((Rows.changeLogsUptoRow.kinds==(if Rows.changeLogsUptoRow.domain.isEmpty then [] else Tryz.f3.params.toList.map λt=>match Tryz.pinned.checked.prog.underlying t with|some (.int k)=>Q k|_=>Option.none)))=AL:=U
def b46:((Rows.changeLogsUptoRow.pinned==Rows.changeLogsUptoRow.pinnedBy))=AL:=U
def b44:((Rows.changeLogsUptoRow.veiled==(Tryz.f3.params.toList++(Rows.OpenSpec.upto Rows.changeLogsSpec).bare.plain.varTypes Tryz.pinned.checked.prog++Tryz.f3.resultTypes.toList).any (Tryz.pinned.checked.prog.veiledRec ·)))=AL:=U
def b47:(Rows.changeLogsUptoRow.veiledFits Tryz.pinned.checked.prog Tryz.f3.params.toList (Tryz.f3.params.toList++(Rows.OpenSpec.upto Rows.changeLogsSpec).bare.plain.varTypes Tryz.pinned.checked.prog++Tryz.f3.resultTypes.toList))=AL:=U
end
end Go.Proofs.YtalhfkdhdggdaaaGreatDoor
