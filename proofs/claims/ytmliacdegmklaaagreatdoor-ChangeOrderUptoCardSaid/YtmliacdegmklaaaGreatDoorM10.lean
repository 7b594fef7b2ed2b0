/- ChangeReplays of kingpostlaw58: part 10 of its proof (merged and shortened by program). -/
import Derived.Test.YtmliacdegmklaaaGreatDoorM04
set_option linter.unusedVariables false
set_option linter.unusedSimpArgs false
set_option linter.defProp false
set_option maxHeartbeats 8000000
set_option maxRecDepth 100000
open Go.RowKit Go.Shelf Go.Proofs.Tryz
open Array renaming getElem?_eq_some_iff→Vz
open Bool renaming false→Vp,true→Vv,and_eq_true_iff→Vw
open Go renaming World→Vl,Value→Vr,undef→Vs,wpOp_step→Vx,Calls→VC,maxLen→VJ,TypeId→VK,Addr→VM,Rows→VP
open Go.AllReady renaming cons→VH,nil→VO
open Go.Ending renaming returned→VV
open Go.IntKind renaming i64→VA
open Go.IntWalk renaming i64_in→VI
open Go.Lib renaming hid→Vk
open Go.RowKit renaming intOf→VG,Below→VL
open Go.Value renaming slice→VQ,string→VR,bool→VS,pointer→VT,int→VU,agg→VW,tuple→VX
open Go.World renaming alloc_heap_new→Vy,size_alloc→VF
open List renaming getD_eq_getElem?_getD→Vn,getElem?_eq_getElem→Vt,length_map→Vu,length_append→VD
open Nat renaming le_refl→Vm,le_trans→VB,mul_comm→VE
open Option renaming none→Vo,some→Vq
open Option.some renaming inj→VN
open Go.Proofs.YtmliacdegmklaaaGreatDoor
namespace Go.Proofs.YtmliacdegmklaaaGreatDoor
section
open Kp
attribute [local go_sem] aS gO ia kp kv kE km kF kL kD ki fZ fW fX fV gx gy gw fD fu fG fF fL eQ gm gH gz gh gB gG gi gE iu gY gX iv eV gj
set_option maxHeartbeats 80000000 in
def a1g(w:Vl)(a b:Ed)(ga gb:Option VM)(ca cb:Nat)(ha:cj w w.heap.size ga ca a.gaps)(hb:cj w w.heap.size gb cb b.gaps)(t0:(a.kind==b.kind)=Vv)(t1:(a.index==b.index)=Vv)(t2:(uE a b)=Vv)(t3:(FL a b)=Vv)(t4:(vL a b)=Vv)(t5:(a.bwidth==b.bwidth)=Vv)(t6:(a.bdepth==b.bdepth)=Vv)(hF:((a.blength==b.blength)&&(a.bcount==b.bcount)&&(a.bcost==b.bcost)&&(a.gaps==b.gaps))=Vp):
  VC prog 85 #[VW (aL a (VQ ga a.gaps.length ca)),VW (aL b (VQ gb b.gaps.length cb))] w λe w'=>e=VV (VS (qF a b))/\VL w.heap.size w w':=by
 have mixed:prog.follows .mixedOrders=Vv:=VZ;have HA:=Vk ha;have HB:=Vk hb;obtain⟨r,hr⟩:∃r,qF a b=r:=⟨_,rfl⟩;rw[hr];have HR:=Vk hr;clear ha hb hr;go_enter func85,ntmps85;go_upto_region 1 with fail
 go_cut [5,6] (λs5 s6 wx=>TO w a b ga gb ca cb s5 s6 wx)
 case first =>
  go_region_o
  all_goals go_wp2_with fail
  all_goals go_meet
  ·exact⟨T6 _ _ _ _ _,TL _ _ _ _ _,⟨_,_,rfl,rfl,Tt _ _ _ _ _,TP _ _ _ _ _⟩,LP _ _ _ _ _⟩
  ·exact⟨T6 _ _ _ _ _,TL _ _ _ _ _,⟨_,_,rfl,rfl,TP _ _ _ _ _,Tt _ _ _ _ _⟩,LP _ _ _ _ _⟩
 case rest=>
  obtain⟨ea,eb,⟨p,q,rfl,rfl,ra,rb⟩,hlow⟩:=hcut;have EA:=Vk ea;have EB:=Vk eb;have eca:=λi=>EA.o.cell i
  have ecb:=λi=>EB.o.cell i
  have rca:=λi=>cK.cell ra i
  have rcb:=λi=>cK.cell rb i
  have lta:=ea.lt;have ltb:=eb.lt;have hlz:=hlow.size;have cg:=Vk (xQ wc ga gb ca cb a.gaps b.gaps ((HA.o.below hlow).more hlz) ((HB.o.below hlow).more hlz));have HLOW:=Vk hlow;clear ea eb ra rb hlow;have hr:=HR.o;clear HR;unfold qF at hr;simp only[t0,t1,t2,t3,t4,t5,t6,Bool.true_and] at hr;cases t7:(a.blength==b.blength)<;>simp only[t7,Bool.false_and,Bool.true_and] at hr hF
  case' true=>cases t8:(a.bcount==b.bcount)<;>simp only[t8,Bool.false_and,Bool.true_and] at hr hF
  case' true=>cases t9:(a.bcost==b.bcost)<;>simp only[t9,Bool.false_and,Bool.true_and] at hr hF
  case' true=>have t10:(a.gaps==b.gaps)=Vp:=hF
  case' true=>simp only[t10,Bool.false_and] at hr
  all_goals exact a1k
end
end Go.Proofs.YtmliacdegmklaaaGreatDoor
