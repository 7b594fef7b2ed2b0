/- ChangeUndone of kingpostlaw58: part 22 of its proof (merged and shortened by program). -/
import Derived.Test.YtmliacdegmklaaaGreatDoorRows
import Derived.JoinedCond
import Derived.KernelRfl
import Derived.Test.YtmliacdegmklaaaGreatDoorN01
set_option linter.unusedVariables false
set_option linter.unusedSimpArgs false
set_option linter.defProp false
set_option maxHeartbeats 8000000
set_option maxRecDepth 100000
open Go.Proofs.Tryz
open Array renaming getElem?_eq_some_iff→VF
open Bool renaming false→Vw,true→VD
open Go renaming World→Vt,Value→Vy,undef→VB,wpOp_step→VE,Calls→VJ,maxLen→VP,TypeId→VR,Addr→VT
open Go.AllReady renaming cons→VO,nil→VU
open Go.Ending renaming returned→V0
open Go.IntKind renaming i64→VH
open Go.IntWalk renaming i64_in→VQ
open Go.Lib renaming hid→Vs
open Go.RowKit renaming intOf→VN,Below→VS
open Go.Value renaming slice→VV,string→VW,bool→VX,pointer→VY,int→VZ,agg→V5,tuple→V6
open Go.World renaming alloc_heap_new→VG,size_alloc→VK
open List renaming getD_eq_getElem?_getD→Vv,getElem?_eq_getElem→VA,length_map→VC,length_append→VM,length→ln
open Nat renaming le_refl→Vu,le_trans→VI,mul_comm→VL
open Option renaming none→Vx,some→Vz
open Go.Proofs.YtmliacdegmklaaaGreatDoor
namespace Go.Proofs.YtmliacdegmklaaaGreatDoor
section
open Go.ChangeShapes Go.WideShapes Go.ChangeAt
def Uj:(Rows.changeUndoneUptoRow.wf (OpenSpec.ofChange (Rows.OpenSpec.upto Rows.changeUndoneSpec).bare))=VD:=V8
def Ue:(laidOutB Tryz.pinned.checked.prog)=VD:=V8
def Uv:(mapsRowed Tryz.pinned.checked.prog)=VD:=V8
def Ur:(Tryz.f5.params.all (Tryz.pinned.checked.prog.readableRec ·))=VD:=V8
def Uy:(namedTie Tryz.pinned.checked.prog Rows.changeUndoneUptoRow.named (Rows.OpenSpec.upto Rows.changeUndoneSpec).bare.vars)=VD:=V8
def Uu:((Rows.changeUndoneUptoRow.stops==[]))=VD:=V8
def UL:((Tryz.pinned.checked.prog.stops==[]))=VD:=V8
def UH:((Rows.changeUndoneUptoRow.knobs==[]))=VD:=V8
def Uk:((Tryz.pinned.checked.prog.stopKnobs==[]))=VD:=V8
def UQ:((Rows.changeUndoneUptoRow.inPlace==Tryz.pinned.checked.prog.inPlace 5))=VD:=V8
def Tt:((Rows.changeUndoneUptoRow.unfollowed==Tryz.pinned.checked.prog.unfollowed 5))=VD:=V8
def T4:((Rows.changeUndoneUptoRow.recurses==Tryz.pinned.checked.prog.recurses 5))=VD:=V8
def SR:((Rows.changeUndoneUptoRow.named==Tryz.pinned.checked.prog.varsNamed 5))=VD:=V8
def TV:((Rows.changeUndoneUptoRow.maps==(Tryz.f5.params.toList++(Rows.OpenSpec.upto Rows.changeUndoneSpec).bare.plain.varTypes Tryz.pinned.checked.prog).any (Tryz.pinned.checked.prog.mapsRec ·)))=VD:=V8
def TY:((Rows.changeUndoneUptoRow.ifaces==(Tryz.f5.params.toList++(Rows.OpenSpec.upto Rows.changeUndoneSpec).bare.plain.varTypes Tryz.pinned.checked.prog).any (Tryz.pinned.checked.prog.ifacesRec ·)))=VD:=V8
def SQ:((Rows.changeUndoneUptoRow.mapsOut==Tryz.pinned.checked.prog.mapsAmong Tryz.f5.resultTypes.toList))=VD:=V8
def SJ:((Rows.changeUndoneUptoRow.loops==(Tryz.f5.params.toList++(Rows.OpenSpec.upto Rows.changeUndoneSpec).bare.plain.varTypes Tryz.pinned.checked.prog).any (Tryz.pinned.checked.prog.loopsFrom ·)))=VD:=V8
def TK:((Rows.changeUndoneUptoRow.wideKeys==(Tryz.f5.params.toList++(Rows.OpenSpec.upto Rows.changeUndoneSpec).bare.plain.varTypes Tryz.pinned.checked.prog++Tryz.f5.resultTypes.toList).any (Tryz.pinned.checked.prog.wideKeysFrom ·)))=VD:=V8
def T1:((Rows.OpenSpec.upto Rows.changeUndoneSpec).bare.vars.all (Tryz.pinned.checked.prog.varReadable ·))=VD:=V8
def SL:(Tryz.f5.resultTypes.all (λt=>Tryz.pinned.checked.prog.readableRec t&&decide (t<Tryz.pinned.checked.prog.types.size)))=VD:=V8
def Tu:((Rows.changeUndoneUptoRow.ifacesOut==Tryz.f5.resultTypes.toList.any (Tryz.pinned.checked.prog.ifacesRec ·)))=VD:=V8
def Tq:((Rows.changeUndoneUptoRow.loopsOut==Tryz.f5.resultTypes.toList.any (Tryz.pinned.checked.prog.loopsFrom ·)))=VD:=V8
def Tn:((Rows.changeUndoneUptoRow.plainKeys==Tryz.pinned.checked.prog.plainKeys))=VD:=V8
def Tz:(Rows.changeUndoneUptoRow.shortTexts.isNone)=VD:=V8
def SU:(Tryz.pinned.checked.prog.stopsHeard)=VD:=V8
def TD:(Tryz.pinned.checked.prog.mayEnter)=VD:=V8
def TP:((Rows.changeUndoneUptoRow.lifted==Tryz.pinned.checked.prog.liftsFinal))=VD:=V8
def To:((Tryz.pinned.checked.prog.make==Vz Rows.changeUndoneUptoRow.make))=VD:=V8
def TH:((Rows.changeUndoneUptoRow.kinds==(if Rows.changeUndoneUptoRow.domain.isEmpty then [] else Tryz.f5.params.toList.map λt=>match Tryz.pinned.checked.prog.underlying t with|some (.int k)=>Vz k|_=>Option.none)))=VD:=V8
def Td:((Rows.changeUndoneUptoRow.pinned==Rows.changeUndoneUptoRow.pinnedBy))=VD:=V8
def TU:((Rows.changeUndoneUptoRow.veiled==(Tryz.f5.params.toList++(Rows.OpenSpec.upto Rows.changeUndoneSpec).bare.plain.varTypes Tryz.pinned.checked.prog++Tryz.f5.resultTypes.toList).any (Tryz.pinned.checked.prog.veiledRec ·)))=VD:=V8
def Ty:(Rows.changeUndoneUptoRow.veiledFits Tryz.pinned.checked.prog Tryz.f5.params.toList (Tryz.f5.params.toList++(Rows.OpenSpec.upto Rows.changeUndoneSpec).bare.plain.varTypes Tryz.pinned.checked.prog++Tryz.f5.resultTypes.toList))=VD:=V8
end
end Go.Proofs.YtmliacdegmklaaaGreatDoor
