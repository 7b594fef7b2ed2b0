/- ChangeUndone of kingpostlaw58: part 7 of its proof (merged and shortened by program). -/
import Derived.Test.YtmliacdegmklaaaGreatDoorN04
set_option linter.unusedVariables false
set_option linter.unusedSimpArgs false
set_option linter.defProp false
set_option maxHeartbeats 8000000
set_option maxRecDepth 100000
open Go.RowKit Go.Shelf Go.Proofs.Tryz
open Array renaming getElem?_eq_some_iff→VF
open Bool renaming false→Vw,true→VD
open Go renaming World→Vt,Value→Vy,undef→VB,wpOp_step→VE,Calls→VJ,maxLen→VP,TypeId→VR,Addr→VT
open Go.AllReady renaming cons→VO,nil→VU
open Go.Ending renaming returned→V0
open Go.IntKind renaming i64→VH
open Go.IntWalk renaming i64_in→VQ
open Go.Lib renaming hid→Vs
open Go.RowKit renaming intOf→VN,Below→VS
open Go.Value renaming slice→VV,string→VW,bool→VX,pointer→VY,int→VZ,agg→V5,tuple→V6
open Go.World renaming alloc_heap_new→VG,size_alloc→VK
open List renaming getD_eq_getElem?_getD→Vv,getElem?_eq_getElem→VA,length_map→VC,length_append→VM,length→ln
open Nat renaming le_refl→Vu,le_trans→VI,mul_comm→VL
open Option renaming none→Vx,some→Vz
open Go.Proofs.YtmliacdegmklaaaGreatDoor
namespace Go.Proofs.YtmliacdegmklaaaGreatDoor
section
open Kp
attribute [local go_sem] aM fC fH iy gU iA ik gW gV im gY eP eN eV eK eY eR eQ er eu ey eh ej dY eT eO eU eS eI eM eJ eX fm fu ft fo dX eZ
set_option maxHeartbeats 80000000 in
def Q9(w:Vt)(a b:Ed)(ga gb:Option VT)(ca cb:Nat)(ha:bz w w.heap.size ga ca a.gaps)(hb:bz w w.heap.size gb cb b.gaps)(t0:(a.kind==b.kind)=VD)(t1:(a.index==b.index)=VD)(t2:(nc a b)=VD)(t3:(vB a b)=VD)(t4:(oo a b)=VD)(t5:(a.bwidth==b.bwidth)=VD)(t6:(a.bdepth==b.bdepth)=VD)(t7:(a.blength==b.blength)=VD)(t8:(a.bcount==b.bcount)=VD)(t9:(a.bcost==b.bcost)=VD)(t10:(a.gaps==b.gaps)=VD):
  VJ prog 85 #[V5 (aE a (VV ga (ln a.gaps) ca)),V5 (aE b (VV gb (ln b.gaps) cb))] w λe w'=>e=V0 (VX (gX a b))/\VS w.heap.size w w':=by
 have mixed:prog.follows .mixedOrders=VD:=V8;have HA:=Vs ha;have HB:=Vs hb;obtain⟨r,hr⟩:∃r,gX a b=r:=⟨_,rfl⟩;rw[hr];have HR:=Vs hr;clear ha hb hr;go_enter func85,ntmps85;go_upto_region 1 with fail
 go_cut [5,6] (λs5 s6 wx=>Gq w a b ga gb ca cb s5 s6 wx)
 case first =>
  go_region_o
  all_goals go_wp2_with fail
  all_goals go_meet
  ·exact a0D
  ·exact a0C
 case rest=>
  obtain⟨ea,eb,⟨p,q,rfl,rfl,ra,rb⟩,hlow⟩:=hcut;have EA:=Vs ea;have EB:=Vs eb;have eca:=λi=>EA.o.cell i
  have ecb:=λi=>EB.o.cell i
  have rca:=λi=>bZ.cell ra i
  have rcb:=λi=>bZ.cell rb i
  have lta:=ea.lt;have ltb:=eb.lt;have hlz:=hlow.size;have cg:=Vs (ma wc ga gb ca cb a.gaps b.gaps ((HA.o.below hlow).more hlz) ((HB.o.below hlow).more hlz));have HLOW:=Vs hlow;clear ea eb ra rb hlow;have hr:=HR.o;clear HR;unfold gX at hr;simp only[t0,t1,t2,t3,t4,t5,t6,t7,t8,t9,t10,Bool.true_and] at hr;cases t11:(tZ a b)<;>simp only[t11,Bool.false_and,Bool.true_and] at hr
  case' true=>cases t12:(Ep a b)<;>simp only[t12,Bool.false_and,Bool.true_and] at hr
  case' true=>cases t13:(vJ a b)<;>simp only[t13,Bool.false_and,Bool.true_and] at hr
  case' true=>cases t14:(a.number==b.number)<;>simp only[t14,Bool.false_and,Bool.true_and] at hr
  case' true=>cases t15:(a.text==b.text)<;>simp only[t15,Bool.false_and,Bool.true_and] at hr
  all_goals exact sU
end
end Go.Proofs.YtmliacdegmklaaaGreatDoor
