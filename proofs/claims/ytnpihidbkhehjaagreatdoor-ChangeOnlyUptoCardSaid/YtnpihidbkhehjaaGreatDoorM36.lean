/- ChangeOnly of kingpostlaw58: part 36 of its proof (merged and shortened by program). -/
import Derived.Test.YtnpihidbkhehjaaGreatDoorM35
set_option linter.unusedVariables false
set_option linter.unusedSimpArgs false
set_option linter.defProp false
set_option maxHeartbeats 8000000
set_option maxRecDepth 100000
open Go.RowKit Go.Shelf Go.Proofs.Tryz
open Array renaming getElem?_eq_some_iff→Od
open Bool renaming false→N1,true→Oc
open Go renaming World→NY,Value→N2,undef→N7,wpOp_step→Ob,Calls→Of,maxLen→Ol,TypeId→Oo
open Go.AllReady renaming cons→Oj,nil→Oq
open Go.IntKind renaming i64→Oe
open Go.IntWalk renaming i64_in→Om
open Go.Lib renaming hid→NW
open Go.RowKit renaming intOf→Oh,Below→On
open Go.World renaming size_alloc→Oi
open List renaming getD_eq_getElem?_getD→N8,length_map→N9,getElem?_eq_getElem→Oa
open Nat renaming le_refl→NZ,mul_comm→Og,le_trans→Ok
open Option renaming none→N0,some→N3
open Go.Proofs.YtnpihidbkhehjaaGreatDoor
namespace Go.Proofs.YtnpihidbkhehjaaGreatDoor
section
open Kp
attribute [local go_sem] PT P6 Qv QL QJ Qy QH QD QC QO QB Qc Qa Qn Qk Qj P8 P9 P3 P5 PX PZ P4 PW Qm Qe Qg P7 Qp Qr Qb Ql Qs Qh Qf Qu PV PY
set_option maxHeartbeats 80000000 in
theorem ph(w:NY)(a b:Ed)(ga gb:Option Addr)(ca cb:Nat)(ha:cU w w.heap.size ga ca a.gaps)(hb:cU w w.heap.size gb cb b.gaps):
  Of prog 66 #[.agg (aG a (.slice ga a.gaps.length ca)),.agg (aG b (.slice gb b.gaps.length cb))] w fun e w'=>e= .returned (.bool (me a b))∧On w.heap.size w w':=by
 have mixed:prog.follows .mixedOrders=Oc:=Ou
 have HA:=NW ha
 have HB:=NW hb
 obtain⟨r,hr⟩:∃r,me a b=r:=⟨_,rfl⟩
 rw[hr]
 have HR:=NW hr
 clear ha hb hr
 go_enter func66,ntmps66
 go_upto_region 1 with fail
 go_cut [5,6] (fun s5 s6 wx=>LY w a b ga gb ca cb s5 s6 wx)
 case first =>
  go_region_o
  all_goals go_wp2_with fail
  all_goals go_meet
  ·exact⟨MB _ _ _ _ _,Lf _ _ _ _ _,⟨_,_,rfl,rfl,Mi _ _ _ _ _,LF _ _ _ _ _⟩,Fq _ _ _ _ _⟩
  ·exact⟨MB _ _ _ _ _,Lf _ _ _ _ _,⟨_,_,rfl,rfl,LF _ _ _ _ _,Mi _ _ _ _ _⟩,Fq _ _ _ _ _⟩
 case rest=>
  obtain⟨ea,eb,⟨p,q,rfl,rfl,ra,rb⟩,hlow⟩:=hcut
  have EA:=NW ea
  have EB:=NW eb
  have eca:=fun i=>EA.out.cell i
  have ecb:=fun i=>EB.out.cell i
  have rca:=fun i=>bO.cell ra i
  have rcb:=fun i=>bO.cell rb i
  have lta:=ea.lt
  have ltb:=eb.lt
  have hlz:=hlow.size
  have cg:=NW (qV wc ga gb ca cb a.gaps b.gaps ((HA.out.below hlow).more hlz) ((HB.out.below hlow).more hlz))
  have HLOW:=NW hlow
  clear ea eb ra rb hlow
  have qside:=fun W=>xW a b W
  have gside:prog.eqGuardType prog.depth 36=N1:=Ou
  have qopn:=fun W=>Ab a b W
  have gopn:prog.eqGuardType prog.depth 39=N1:=Ou
  have qsize:=fun W=>vU a b W
  have gsize:prog.eqGuardType prog.depth 41=N1:=Ou
  have qload:=fun W=>xC a b W
  have gload:prog.eqGuardType prog.depth 46=N1:=Ou
  have qalw:=fun W=>AM a b W
  have galw:prog.eqGuardType prog.depth 48=N1:=Ou
  have qtile:=fun W=>yf a b W
  have gtile:prog.eqGuardType prog.depth 30=N1:=Ou
  have hr:=HR.out
  clear HR
  unfold me at hr
  cases t:(a.kind==b.kind)<;>simp only[t,Bool.false_and,Bool.true_and] at hr
  case' true=>cases t:(a.index==b.index)<;>simp only[t,Bool.false_and,Bool.true_and] at hr
  case' true=>cases t:(oF a b)<;>simp only[t,Bool.false_and,Bool.true_and] at hr
  case' true=>cases t:(zQ a b)<;>simp only[t,Bool.false_and,Bool.true_and] at hr
  case' true=>cases t:(qd a b)<;>simp only[t,Bool.false_and,Bool.true_and] at hr
  case' true=>cases t:(a.bwidth==b.bwidth)<;>simp only[t,Bool.false_and,Bool.true_and] at hr
  case' true=>cases t:(a.bdepth==b.bdepth)<;>simp only[t,Bool.false_and,Bool.true_and] at hr
  case' true=>cases t:(a.blength==b.blength)<;>simp only[t,Bool.false_and,Bool.true_and] at hr
  case' true=>cases t:(a.bcount==b.bcount)<;>simp only[t,Bool.false_and,Bool.true_and] at hr
  case' true=>cases t:(a.bcost==b.bcost)<;>simp only[t,Bool.false_and,Bool.true_and] at hr
  case' true=>cases t:(a.gaps==b.gaps)<;>simp only[t,Bool.false_and,Bool.true_and] at hr
  case' true=>cases t:(ou a b)<;>simp only[t,Bool.false_and,Bool.true_and] at hr
  case' true=>cases t:(yP a b)<;>simp only[t,Bool.false_and,Bool.true_and] at hr
  case' true=>cases t:(pw a b)<;>simp only[t,Bool.false_and,Bool.true_and] at hr
  case' true=>cases t:(a.number==b.number)<;>simp only[t,Bool.false_and,Bool.true_and] at hr
  case' true=>cases t:(a.text==b.text)<;>simp only[t,Bool.false_and,Bool.true_and] at hr
  all_goals
   subst hr
   go_wp2_with(go_at_call 23;go_must(refine cg.out.mono ?_);rintro r W2 ⟨rfl,hB2⟩;have EA2:=NW (EA.out.below hB2 lta);have EB2:=NW (EB.out.below hB2 ltb);have eca2:=fun i=>EA2.out.cell i;have ecb2:=fun i=>EB2.out.cell i)
   go_ret
   first|exact⟨rfl,HLOW.out.trans (hB2.mono Ot)⟩|exact⟨rfl,HLOW.out⟩
end
end Go.Proofs.YtnpihidbkhehjaaGreatDoor
