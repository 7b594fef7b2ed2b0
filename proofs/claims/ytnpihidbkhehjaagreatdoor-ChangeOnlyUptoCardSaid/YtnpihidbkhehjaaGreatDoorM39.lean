/- ChangeOnly of kingpostlaw58: part 39 of its proof (merged and shortened by program). -/
import Derived.Test.YtnpihidbkhehjaaGreatDoorRows
import Derived.JoinedCond
import Derived.KernelRfl
import Derived.Test.YtnpihidbkhehjaaGreatDoorM01
set_option linter.unusedVariables false
set_option linter.unusedSimpArgs false
set_option linter.defProp false
set_option maxHeartbeats 8000000
set_option maxRecDepth 100000
open Go.Proofs.Tryz
open Array renaming getElem?_eq_some_iff→Od
open Bool renaming false→N1,true→Oc
open Go renaming World→NY,Value→N2,undef→N7,wpOp_step→Ob,Calls→Of,maxLen→Ol,TypeId→Oo
open Go.AllReady renaming cons→Oj,nil→Oq
open Go.IntKind renaming i64→Oe
open Go.IntWalk renaming i64_in→Om
open Go.Lib renaming hid→NW
open Go.RowKit renaming intOf→Oh,Below→On
open Go.World renaming size_alloc→Oi
open List renaming getD_eq_getElem?_getD→N8,length_map→N9,getElem?_eq_getElem→Oa
open Nat renaming le_refl→NZ,mul_comm→Og,le_trans→Ok
open Option renaming none→N0,some→N3
open Go.Proofs.YtnpihidbkhehjaaGreatDoor
namespace Go.Proofs.YtnpihidbkhehjaaGreatDoor
section
open Go.ChangeShapes Go.WideShapes Go.ChangeAt
theorem MN:(Rows.changeOnlyUptoRow.wf (OpenSpec.ofChange (Rows.OpenSpec.upto Rows.changeOnlySpec).bare))=Oc:=Ou
theorem Nf:(laidOutB Tryz.pinned.checked.prog)=Oc:=Ou
theorem MY:(mapsRowed Tryz.pinned.checked.prog)=Oc:=Ou
theorem Nj:(Tryz.f3.params.all (Tryz.pinned.checked.prog.readableRec ·))=Oc:=Ou
theorem M7:(namedTie Tryz.pinned.checked.prog Rows.changeOnlyUptoRow.named (Rows.OpenSpec.upto Rows.changeOnlySpec).bare.vars)=Oc:=Ou
theorem Nc:((Rows.changeOnlyUptoRow.stops==[]))=Oc:=Ou
theorem Nn:((Tryz.pinned.checked.prog.stops==[]))=Oc:=Ou
theorem Nh:((Rows.changeOnlyUptoRow.knobs==[]))=Oc:=Ou
theorem Na:((Tryz.pinned.checked.prog.stopKnobs==[]))=Oc:=Ou
theorem M4:((Rows.changeOnlyUptoRow.inPlace==Tryz.pinned.checked.prog.inPlace 3))=Oc:=Ou
theorem K7:((Rows.changeOnlyUptoRow.unfollowed==Tryz.pinned.checked.prog.unfollowed 3))=Oc:=Ou
theorem Lw:((Rows.changeOnlyUptoRow.recurses==Tryz.pinned.checked.prog.recurses 3))=Oc:=Ou
theorem Lp:((Rows.changeOnlyUptoRow.named==Tryz.pinned.checked.prog.varsNamed 3))=Oc:=Ou
theorem LD:((Rows.changeOnlyUptoRow.maps==(Tryz.f3.params.toList++(Rows.OpenSpec.upto Rows.changeOnlySpec).bare.plain.varTypes Tryz.pinned.checked.prog).any (Tryz.pinned.checked.prog.mapsRec ·)))=Oc:=Ou
theorem K9:((Rows.changeOnlyUptoRow.ifaces==(Tryz.f3.params.toList++(Rows.OpenSpec.upto Rows.changeOnlySpec).bare.plain.varTypes Tryz.pinned.checked.prog).any (Tryz.pinned.checked.prog.ifacesRec ·)))=Oc:=Ou
theorem Mq:((Rows.changeOnlyUptoRow.mapsOut==Tryz.pinned.checked.prog.mapsAmong Tryz.f3.resultTypes.toList))=Oc:=Ou
theorem LL:((Rows.changeOnlyUptoRow.loops==(Tryz.f3.params.toList++(Rows.OpenSpec.upto Rows.changeOnlySpec).bare.plain.varTypes Tryz.pinned.checked.prog).any (Tryz.pinned.checked.prog.loopsFrom ·)))=Oc:=Ou
theorem LC:((Rows.changeOnlyUptoRow.wideKeys==(Tryz.f3.params.toList++(Rows.OpenSpec.upto Rows.changeOnlySpec).bare.plain.varTypes Tryz.pinned.checked.prog++Tryz.f3.resultTypes.toList).any (Tryz.pinned.checked.prog.wideKeysFrom ·)))=Oc:=Ou
theorem MC:((Rows.OpenSpec.upto Rows.changeOnlySpec).bare.vars.all (Tryz.pinned.checked.prog.varReadable ·))=Oc:=Ou
theorem Mb:(Tryz.f3.resultTypes.all (fun t=>Tryz.pinned.checked.prog.readableRec t&&decide (t<Tryz.pinned.checked.prog.types.size)))=Oc:=Ou
theorem Mx:((Rows.changeOnlyUptoRow.ifacesOut==Tryz.f3.resultTypes.toList.any (Tryz.pinned.checked.prog.ifacesRec ·)))=Oc:=Ou
theorem Mw:((Rows.changeOnlyUptoRow.loopsOut==Tryz.f3.resultTypes.toList.any (Tryz.pinned.checked.prog.loopsFrom ·)))=Oc:=Ou
theorem Mt:((Rows.changeOnlyUptoRow.plainKeys==Tryz.pinned.checked.prog.plainKeys))=Oc:=Ou
theorem LH:(Rows.changeOnlyUptoRow.shortTexts.isNone)=Oc:=Ou
theorem Lq:(Tryz.pinned.checked.prog.stopsHeard)=Oc:=Ou
theorem Mg:(Tryz.pinned.checked.prog.mayEnter)=Oc:=Ou
theorem MD:((Rows.changeOnlyUptoRow.lifted==Tryz.pinned.checked.prog.liftsFinal))=Oc:=Ou
theorem Mo:((Tryz.pinned.checked.prog.make==N3 Rows.changeOnlyUptoRow.make))=Oc:=Ou
theorem L8:((Rows.changeOnlyUptoRow.kinds==(if Rows.changeOnlyUptoRow.domain.isEmpty then [] else Tryz.f3.params.toList.map fun t=>match Tryz.pinned.checked.prog.underlying t with|some (.int k)=>N3 k|_=>Option.none)))=Oc:=Ou
theorem LX:((Rows.changeOnlyUptoRow.pinned==Rows.changeOnlyUptoRow.pinnedBy))=Oc:=Ou
theorem LI:((Rows.changeOnlyUptoRow.veiled==(Tryz.f3.params.toList++(Rows.OpenSpec.upto Rows.changeOnlySpec).bare.plain.varTypes Tryz.pinned.checked.prog++Tryz.f3.resultTypes.toList).any (Tryz.pinned.checked.prog.veiledRec ·)))=Oc:=Ou
theorem Le:(Rows.changeOnlyUptoRow.veiledFits Tryz.pinned.checked.prog Tryz.f3.params.toList (Tryz.f3.params.toList++(Rows.OpenSpec.upto Rows.changeOnlySpec).bare.plain.varTypes Tryz.pinned.checked.prog++Tryz.f3.resultTypes.toList))=Oc:=Ou
end
end Go.Proofs.YtnpihidbkhehjaaGreatDoor
