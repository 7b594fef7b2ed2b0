/- ChangeUndone of kingpostlaw58 (P58.3): undoing the last edit of a log leads back to the state before it, and redoing it to the state behind it; inputs of bulk at most 1048576 (the Upto form of the card). -/
import Derived.Test.YtmliacdegmklaaaGreatDoorCards
import Derived.Test.YtmliacdegmklaaaGreatDoorTie
import Derived.ProofKit
import Derived.ChangeMaps5
import Derived.Deep.DeepHandedRow
import Derived.Lib.LaidU8
import Derived.Lay
import Derived.Carry
import Derived.Shelf.Vars
import Derived.MakeChecks
import Derived.SevenTiedAt
import Derived.Stop.Joined
import Derived.Test.YtmliacdegmklaaaGreatDoorN20
import Derived.Test.YtmliacdegmklaaaGreatDoorN21
import Derived.Test.YtmliacdegmklaaaGreatDoorN22
set_option linter.unusedVariables false
set_option linter.unusedSimpArgs false
set_option linter.defProp false
set_option maxHeartbeats 8000000
set_option maxRecDepth 100000
open Go.RowKit Go.Proofs.Tryz
open Array renaming getElem?_eq_some_iff→VF
open Bool renaming false→Vw,true→VD
open Go renaming World→Vt,Value→Vy,undef→VB,wpOp_step→VE,Calls→VJ,maxLen→VP,TypeId→VR,Addr→VT
open Go.AllReady renaming cons→VO,nil→VU
open Go.Ending renaming returned→V0
open Go.IntKind renaming i64→VH
open Go.IntWalk renaming i64_in→VQ
open Go.Lib renaming hid→Vs
open Go.RowKit renaming intOf→VN,Below→VS
open Go.Value renaming slice→VV,string→VW,bool→VX,pointer→VY,int→VZ,agg→V5,tuple→V6
open Go.World renaming alloc_heap_new→VG,size_alloc→VK
open List renaming getD_eq_getElem?_getD→Vv,getElem?_eq_getElem→VA,length_map→VC,length_append→VM,length→ln
open Nat renaming le_refl→Vu,le_trans→VI,mul_comm→VL
open Option renaming none→Vx,some→Vz
open Go.Proofs.YtmliacdegmklaaaGreatDoor
variable{cs:List Vy}{base fuel:Nat}{name:String}{H:Type}{t:VR}{w:Vt}
namespace Go.Proofs.YtmliacdegmklaaaGreatDoor
section
open Go.ChangeShapes Go.WideShapes Go.ChangeAt Kp
def own:ownKnob prog.godebug=Vx:=V8
def BL:laidOutB prog=VD:=V8
theorem iface_of_trod{enc:VR×Vy->H}{P:Program}{sp:Nat->Bool}{d:DataW H}{p:List MemPlace}
  {ms:_}(ht:P.underlying t=Vz (.interface ms))(h:DataW.trod enc P w base sp Vw fuel t cs=Vz (.iface name d,p)):∃u v,cs=[.iface u v]:=by
 cases fuel with
 |zero=>simp[DataW.trod] at h
 |succ n=>
  unfold DataW.trod at h;rw[ht] at h;split at h<;>simp_all
def UW:prog.globalNamed "internal/strconv.uint64pow10" =Vz 6:=V8
def US:prog.globalNamed "strconv.ErrSyntax" =Vz 4:=V8
def Ux:prog.globalNamed "strconv.ErrRange" =Vz 5:=V8
def St:prog.globalNamed "kingpost/timber.words" =Vz 0:=V8
def Ut:(prog.globals[4]?).map (·.type)=Vz 212:=V8
def UT:(prog.globals[5]?).map (·.type)=Vz 212:=V8
def Uq:(prog.globals[6]?).map (·.type)=Vz 352:=V8
def UP:(prog.globals[0]?).map (·.type)=Vz 158:=V8
def Rl:prog.cellsOf 314=1:=V8
def Sf:prog.cellsOf 352=20:=V8
def Q0:List (DataW Unit):= .lit (.string [])::mV.map λs=> .lit (.string s)
def RN(j:Nat)(hj:j<12):Q0[1+j]?=Vz (.lit (.string (mV.getD j []))):=by
 have hl:j<ln mV:=hj;unfold Q0;rw[Nat.add_comm,List.getElem?_cons_succ,List.getElem?_map,VA hl];simp[List.getD,VA hl]
def TC{W:Vt}(hL:laidMetH prog Rows.changeUndoneUptoRow.laid W)(hS:W.ShapedOpen prog):Gl W:=by
 rw[MakeChecks.laidMetH_plain _ _ _ V8] at hL;refine⟨?_,?_,?_,?_,?_⟩
 ·obtain⟨g,t,cs,fuel,p,h1,h2,h3,h4⟩:=Lib.laidMet.reads hL (n:= "internal/strconv.uint64pow10") (d:=Lib.tabData .u64 Lib.pow10Tab) (List.mem_of_getElem? (i:=2) V8);obtain rfl:=Option.some.inj (UW.symm.trans h1);obtain rfl:=Option.some.inj (Uq.symm.trans h2);have:=Lib.cells_of_tab underlying352 underlying314 Rl Sf h4;show W.var? prog _=Vz _;rw[h3,<-this]
 ·exact Go.Proofs.cell_of_shapedOpen_int (zero:=#[.int .i64 0]) (t:=3) hS (of_decide_eq_true V8) V8 rfl V8 V8 underlying3
 ·obtain⟨g,t,cs,fuel,p,h1,h2,h3,h4⟩:=Lib.laidMet.reads hL (n:= "strconv.ErrSyntax") (d:=Rows.laid_strconv_ErrSyntax) (List.mem_of_getElem? (i:=5) V8);obtain rfl:=Option.some.inj (US.symm.trans h1);obtain rfl:=Option.some.inj (Ut.symm.trans h2);exact a0Z
 ·obtain⟨g,t,cs,fuel,p,h1,h2,h3,h4⟩:=Lib.laidMet.reads hL (n:= "strconv.ErrRange") (d:=Rows.laid_strconv_ErrRange) (List.mem_of_getElem? (i:=4) V8);obtain rfl:=Option.some.inj (Ux.symm.trans h1);obtain rfl:=Option.some.inj (UT.symm.trans h2);exact a0Z
 ·obtain⟨g,t,cs,fuel,p,h1,h2,h3,h4⟩:=Lib.laidMet.reads hL (n:= "kingpost/timber.words") (d:= .agg Q0) (List.mem_of_getElem? (i:=6) V8);obtain rfl:=Option.some.inj (St.symm.trans h1);obtain rfl:=Option.some.inj (UP.symm.trans h2);intro j hj;obtain⟨f2,d,q,hd,ht⟩:=Lib.array_elem underlying158 h4 (1+j) V7;rw[RN j hj] at hd;obtain⟨s,hc,hx,_⟩:=DataW.trod_string underlying9 ht;have hds:(DataW.lit (.string (mV.getD j [])):DataW Unit)= .lit (.string s.data.toList):=(Option.some.inj hd).trans (Prod.mk.inj hx).1;have hs:mV.getD j []=s.data.toList:=by
   injection hds with h;injection h
  rw[uU,Nat.mul_one] at hc;rw[Vt.var?_cell St h3 (1+j),hs,oT];have h0:((cs.toList.drop (1+j)).take 1)[0]?=Vz (.string s):=by rw[hc];rfl
  simpa[List.getElem?_take,List.getElem?_drop] using h0
def O8{W:Vt}(hS:W.ShapedOpen prog):9<=W.heap.size:=by
 obtain⟨⟨z,t⟩,hz⟩:=Option.isSome_iff_exists.1 (show((((begin prog (λ_ _=>0) default).world.heap[8]?).bind Obj.row?).isSome=VD) from V8);obtain⟨cs,hc,_⟩:=hS.1 8 z t (of_decide_eq_true V8) hz;have:=(VF.1 hc).1;omega
def Lb(H:Type)(enc:VR×Vy->H)(W:Vt)(base:Nat)(args:Array Vy)(ds gs:List (DataW H))(before:List MemPlace)
  (hsm:Rows.uptoBulkAll (ds++gs)<=1048576)(hval:∀(j:Nat) t v,Tryz.f5.params[j]?=Vz t->args[j]?=Vz v->Vy.okWide prog W .any base t v)
  (hW:DataW.Whole enc prog Tryz.f5.params.toList Rows.changeUndoneSpec.vars Vw W args.toList ds gs before)(hL:laidMetH prog Rows.changeUndoneUptoRow.laid W)(hS:W.ShapedOpen prog):
  VJ prog 5 args W λe W'=>∃v,e= .returned v/\Rows.changeUndoneSpec.post enc prog Tryz.f5 Vw VD Vw Vw W args v W':=by
 have hW':=hW;obtain⟨p,q,hA0,hV,rfl,hfz,hnd⟩:=hW;have hA:DataW.TrodAll enc prog W 0 (λ_=>VD) VD Tryz.f5.params.toList args.toList ds p:=hA0;rw[params5] at hA hval;obtain⟨v0,vs0,d0,ds0,p0,q0,hargs,rfl,rfl,h0,r0⟩:=trodAll_cons hA;obtain⟨v1,vs1,d1,ds1,p1,q1,rfl,rfl,rfl,h1,r1⟩:=trodAll_cons r0;obtain⟨rfl,rfl,rfl⟩:=trodAll_nil r1;obtain rfl:args=#[v0,v1]:=by cases args;simp_all
 obtain⟨rfl,rfl⟩:=trodVars_none hV;obtain⟨l,a,hl,hlb,hbulk,hix⟩:=Lk (hval 0 38 v0 rfl rfl) h0;obtain⟨e,ga,gc,he,hgap,_,hie⟩:=IG (hval 1 68 v1 rfl rfl) h1;have hbig:ln l.start.rings.flatten<=4000000000:=by
  simp only[List.append_nil,Rows.uptoBulkAll] at hsm;omega
 have walk:=wy W l a e ga gc hlb hgap hbig hix hie.2 (TC hL hS) (O8 hS);rw[<-he,<-hl] at walk;clear hA0;have hlt:∀x∈p0++(p1++[])++[],x.block<W.heap.size:=λx hx=>hW'.lt x hx
 refine walk.mono λr W' ⟨hr,hb⟩=> ?_
 subst hr;refine⟨_,rfl,?_⟩;have hread:∀sp:Nat->Bool,(∀x∈p0++(p1++[])++[],sp x.block=VD)->DataW.TrodAll enc prog W' 0 sp VD Tryz.f5.params.toList #[v0,v1].toList [d0,d1] (p0++(p1++[])):=λsp hsp=>by
  rw[params5];exact trodAll_cons_mk (WideElems.Trod_stays BL V8 (of_decide_eq_true V8) h0 (λx hx=>hb.same (hlt x (by simp[hx]))) (λx hx=>hsp x (by simp[hx]))) (trodAll_cons_mk (WideElems.Trod_stays BL V8 (of_decide_eq_true V8) h1 (λx hx=>hb.same (hlt x (by simp[hx]))) (λx hx=>hsp x (by simp[hx]))) trodAll_mk0)
 have hold:∀x∈p0++(p1++[])++[],(λb=>decide (b<W.heap.size)) x.block=VD:=λx hx=>by simpa using hlt x hx
 refine⟨[d0,d1],[],p0++(p1++[])++[],[],p0++(p1++[]),[],hW',trodAll_cons_mk (shut_bool underlying4 _) trodAll_mk0,hread _ hold,rfl,Vt.keptBut_mono (λx hx=>⟨hx,?_⟩) (hb.frame (· ∈p0++(p1++[])++[])),λ_=> ?_⟩
 ·exact Or.inr (by simpa using hx)
 ·refine⟨ok_one V8 rfl (okWide_bool_mk underlying4 _),_,[],([]++(p0++(p1++[])))++[],⟨[]++(p0++(p1++[])),[],trodAll_append (hread _ (λ_ _=>rfl)) (trodAll_cons_mk (shut_bool underlying4 _) trodAll_mk0),rfl,rfl,?_,?_⟩,?_⟩
  ·intro b off hx;have hin2:MemPlace.cell b off∈p0++(p1++[])++[]:=by simpa using hx
   rw[hb.frozen (hlt _ hin2)];exact hfz b off hin2
  ·intro ha;cases ha
  ·intro x hx _;simpa using hx
theorem RV(os:Os)(enc:VR×Vy->H):∃x,DataW.whole enc prog ((Vt.laidAll prog os Rows.changeUndoneUptoRow.laid).forCall (λ_ _=>0) ⟨#[],#[.agg (dL nM nP),.agg (aE ef df)],[]⟩).memory Tryz.f5.params.toList Rows.changeUndoneSpec.vars Vw #[.agg (dL nM nP),.agg (aE ef df)].toList 8=Vz x/\Rows.uptoSmall H (x.1++x.2.1)=VD:=by
 have h:((DataW.whole enc prog ((Vt.laidAll prog os Rows.changeUndoneUptoRow.laid).forCall (λ_ _=>0) ⟨#[],#[.agg (dL nM nP),.agg (aE ef df)],[]⟩).memory Tryz.f5.params.toList Rows.changeUndoneSpec.vars Vw #[.agg (dL nM nP),.agg (aE ef df)].toList 8).map λx=>Rows.uptoSmall H (x.1++x.2.1))=Vz VD:=V8;exact Option.map_eq_some_iff.1 h
def lifted(os:Os)(started:os.Started)(H:Type)(enc:VR×Vy->H)(F:Stop.Interp):
  ReturnsInHanded {} Tryz.checked os 5 .any ((Rows.OpenSpec.upto Rows.changeUndoneSpec).preRow enc prog Tryz.f5 Rows.changeUndoneUptoRow.domain Vw Rows.changeUndoneUptoRow.laid) (((Rows.OpenSpec.upto Rows.changeUndoneSpec).at F).post enc prog Tryz.f5 Vw VD Vw Vw):=by
 obtain⟨x,hx,hxs⟩:=RV os enc;have hok:Input.okWideB prog ((Vt.laidAll prog os Rows.changeUndoneUptoRow.laid).forCall (λ_ _=>0) ⟨#[],#[.agg (dL nM nP),.agg (aE ef df)],[]⟩) 5 ⟨#[],#[.agg (dL nM nP),.agg (aE ef df)],[]⟩=VD:=V8;refine returnsInHanded_of_row (C:=Tryz.checked) (s:=Rows.OpenSpec.upto Rows.changeUndoneSpec) own started V8 func5
  ⟨Vt.laidAll prog os Rows.changeUndoneUptoRow.laid,λ_ _=>0,⟨#[],#[.agg (dL nM nP),.agg (aE ef df)],[]⟩,Vt.laidAll_os _ _ _,Vt.shaped_of_ZipB V8 V8,(Input.okWide_of_okWideB (base:=0) hok).1,(Input.okWide_of_okWideB hok).2,
   OpenSpec.preRow_of_cond 8 hx rfl (λk hk=>by cases hk;exact hxs) V8 (by rw[MakeChecks.laidMetH_plain _ _ _ V8];exact laidMet_laidAll _ V8 V8),by
   simp only[Assume.holds];exact⟨Wa,Wa,λ_=>Modest.zero,Wa,Wa⟩⟩ ?_
 intro W base args ds gs before hval hW _ hk _ hL hS _;exact Lb H enc W base args ds gs before (of_decide_eq_true (hk _ rfl)) hval hW hL hS
def facts:joinedFacts Tryz.pinned.checked.prog 5 Tryz.f5 (Rows.OpenSpec.upto Rows.changeUndoneSpec).bare Rows.changeUndoneUptoRow=VD:=
 (Bool.and_eq_true_iff.2 ⟨(Bool.and_eq_true_iff.2 ⟨(Bool.and_eq_true_iff.2 ⟨(Bool.and_eq_true_iff.2 ⟨(Bool.and_eq_true_iff.2 ⟨(Bool.and_eq_true_iff.2 ⟨(Bool.and_eq_true_iff.2 ⟨(Bool.and_eq_true_iff.2 ⟨(Bool.and_eq_true_iff.2 ⟨(Bool.and_eq_true_iff.2 ⟨(Bool.and_eq_true_iff.2 ⟨(Bool.and_eq_true_iff.2 ⟨(Bool.and_eq_true_iff.2 ⟨(Bool.and_eq_true_iff.2 ⟨(Bool.and_eq_true_iff.2 ⟨(Bool.and_eq_true_iff.2 ⟨(Bool.and_eq_true_iff.2 ⟨(Bool.and_eq_true_iff.2 ⟨(Bool.and_eq_true_iff.2 ⟨(Bool.and_eq_true_iff.2 ⟨(Bool.and_eq_true_iff.2 ⟨(Bool.and_eq_true_iff.2 ⟨(Bool.and_eq_true_iff.2 ⟨(Bool.and_eq_true_iff.2 ⟨(Bool.and_eq_true_iff.2 ⟨(Bool.and_eq_true_iff.2 ⟨(Bool.and_eq_true_iff.2 ⟨(Bool.and_eq_true_iff.2 ⟨(Bool.and_eq_true_iff.2 ⟨(Bool.and_eq_true_iff.2 ⟨(Bool.and_eq_true_iff.2 ⟨Uj,Ue⟩),Uv⟩),Ur⟩),Uy⟩),Uu⟩),UL⟩),UH⟩),Uk⟩),UQ⟩),Tt⟩),T4⟩),SR⟩),TV⟩),TY⟩),SQ⟩),SJ⟩),TK⟩),T1⟩),SL⟩),Tu⟩),Tq⟩),Tn⟩),Tz⟩),SU⟩),TD⟩),TP⟩),To⟩),TH⟩),Td⟩),TU⟩),Ty⟩)
def said:Rows.ChangeUndoneUptoSaid:=
 OpenClaim.holds_of_cond 5 Tryz.f5 rfl rfl rfl rfl rfl rfl rfl ⟨rfl,rfl,rfl,rfl,rfl⟩ rfl rfl rfl rfl rfl V8 func5 facts
  (of_decide_eq_true V8) (by unfold Func.isWrapper;first|(rw[if_pos Xf];kernel_rfl)|(rw[if_neg Xf];exact⟨rfl,rfl⟩))
  (λos started H enc _ F=>by rw[OpenClaim.pre_eq_preRow];exact lifted os started H enc F)
def Q2(f:FuncId)(fn:Func)(hf:Tryz.pinned.checked.prog.funcNamed "kingpost/kingpostlaw58.ChangeUndone" =Vz f)(hfn:Tryz.pinned.checked.prog.funcs[f]?=Vz fn):
  VD=Tryz.pinned.checked.prog.looks []/\∀(j:Nat) t,fn.params[j]?=Vz t->Tryz.pinned.checked.prog.wantsStandIn t=Vw:=by
 obtain rfl:f=5:=Option.some.inj ((show prog.funcNamed "kingpost/kingpostlaw58.ChangeUndone" =Vz 5 by kernel_rfl).symm.trans hf) |>.symm;obtain rfl:fn=Tryz.f5:=(Option.some.inj (func5.symm.trans hfn)).symm;refine⟨V8,λj t ht=> ?_⟩;rw[params5] at ht;have hm:t=38\/t=68:=by simpa using Array.mem_of_getElem? ht
 rcases hm with rfl|rfl
 ·exact(show prog.wantsStandIn 38=Vw by kernel_rfl)
 ·exact(show prog.wantsStandIn 68=Vw by kernel_rfl)
def Tg:OpenClaim.wfByText (Rows.OpenSpec.upto Rows.changeUndoneSpec) Rows.changeUndoneUptoRow=VD:=V8
def SE:Vw=Rows.changeUndoneUptoRow.goesBy Tryz.pinned.checked.prog:=V8
def changeUndoneUpto_card:Rows.ChangeUndoneUptoCardSaid:=
 Claim7.holds_tied_plain_at .later [] _ _ _ _ said (λ_ h=>Wb) Tg (λ_ h=>Wb) changeUndoneUpto_row_tie rfl ⟨rfl,rfl⟩ V8 rfl Q2 SE
end
end Go.Proofs.YtmliacdegmklaaaGreatDoor
