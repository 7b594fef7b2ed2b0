/- ChangeOnly of kingpostlaw58 (P58.2): applying an edit makes a valid job, in which nothing but the field of its kind is changed; slices of at most 1048576 elements (the Upto form of the card). -/
import Derived.Test.YtnpihidbkhehjaaGreatDoorCards
import Derived.Test.YtnpihidbkhehjaaGreatDoorTie
import Derived.ProofKit
import Derived.ChangeMaps5
import Derived.Deep.DeepHandedRow
import Derived.Lib.LaidU8
import Derived.Lay
import Derived.Carry
import Derived.Shelf.Vars
import Derived.MakeChecks
import Derived.SevenTiedAt
import Derived.Stop.Joined
import Derived.Test.YtnpihidbkhehjaaGreatDoorM38
import Derived.Test.YtnpihidbkhehjaaGreatDoorM39
set_option linter.unusedVariables false
set_option linter.unusedSimpArgs false
set_option linter.defProp false
set_option maxHeartbeats 8000000
set_option maxRecDepth 100000
open Go.RowKit Go.Proofs.Tryz
open Array renaming getElem?_eq_some_iff→Od
open Bool renaming false→N1,true→Oc
open Go renaming World→NY,Value→N2,undef→N7,wpOp_step→Ob,Calls→Of,maxLen→Ol,TypeId→Oo
open Go.AllReady renaming cons→Oj,nil→Oq
open Go.IntKind renaming i64→Oe
open Go.IntWalk renaming i64_in→Om
open Go.Lib renaming hid→NW
open Go.RowKit renaming intOf→Oh,Below→On
open Go.World renaming size_alloc→Oi
open List renaming getD_eq_getElem?_getD→N8,length_map→N9,getElem?_eq_getElem→Oa
open Nat renaming le_refl→NZ,mul_comm→Og,le_trans→Ok
open Option renaming none→N0,some→N3
open Go.Proofs.YtnpihidbkhehjaaGreatDoor
namespace Go.Proofs.YtnpihidbkhehjaaGreatDoor
section
open Go.ChangeShapes Go.WideShapes Go.ChangeAt Kp
theorem own:ownKnob prog.godebug=N0:=Ou
theorem xY:laidOutB prog=Oc:=Ou
theorem iface_of_trod{H:Type}{enc:Oo×N2→H}{P:Program}{w:NY}{base:Nat}{sp:Nat→Bool}{fuel:Nat}{t:Oo}{cs:List N2}{name:String}{d:DataW H}{p:List MemPlace}
  {ms:_}(ht:P.underlying t=N3 (.interface ms))(h:DataW.trod enc P w base sp N1 fuel t cs=N3 (.iface name d,p)):∃u v,cs=[.iface u v]:=by
 cases fuel with
 |zero=>simp[DataW.trod] at h
 |succ n=>
  unfold DataW.trod at h
  rw[ht] at h
  split at h<;>simp_all
theorem M0:prog.globalNamed "internal/strconv.uint64pow10" =N3 6:=Ou
theorem MX:prog.globalNamed "strconv.ErrSyntax" =N3 4:=Ou
theorem M6:prog.globalNamed "strconv.ErrRange" =N3 5:=Ou
theorem Mm:prog.globalNamed "kingpost/timber.words" =N3 0:=Ou
theorem Nk:(prog.globals[4]?).map (·.type)=N3 220:=Ou
theorem M2:(prog.globals[5]?).map (·.type)=N3 220:=Ou
theorem MW:(prog.globals[6]?).map (·.type)=N3 342:=Ou
theorem MO:(prog.globals[0]?).map (·.type)=N3 147:=Ou
theorem JW:prog.cellsOf 306=1:=Ou
theorem JZ:prog.cellsOf 342=20:=Ou
def JO:List (DataW Unit):= .lit (.string [])::jo.map fun s=> .lit (.string s)
theorem JR(j:Nat)(hj:j<12):JO[1+j]?=N3 (.lit (.string (jo.getD j []))):=by
 have hl:j<jo.length:=hj
 unfold JO
 rw[Nat.add_comm,List.getElem?_cons_succ,List.getElem?_map,Oa hl]
 simp[List.getD,Oa hl]
theorem L7{W:NY}(hL:laidMetH prog Rows.changeOnlyUptoRow.laid W)(hS:W.ShapedOpen prog):Gl W:=by
 rw[MakeChecks.laidMetH_plain _ _ _ Ou] at hL
 refine⟨?_,?_,?_,?_,?_⟩
 ·obtain⟨g,t,cs,fuel,p,h1,h2,h3,h4⟩:=Lib.laidMet.reads hL (n:= "internal/strconv.uint64pow10") (d:=Lib.tabData .u64 Lib.pow10Tab) (List.mem_of_getElem? (i:=2) Ou)
  obtain rfl:=Option.some.inj (M0.symm.trans h1)
  obtain rfl:=Option.some.inj (MW.symm.trans h2)
  have:=Lib.cells_of_tab underlying342 underlying306 JW JZ h4
  show W.var? prog _=N3 _
  rw[h3,←this]
 ·exact Go.Proofs.cell_of_shapedOpen_int (zero:=#[.int .i64 0]) (t:=3) hS (of_decide_eq_true Ou) Ou rfl Ou Ou underlying3
 ·obtain⟨g,t,cs,fuel,p,h1,h2,h3,h4⟩:=Lib.laidMet.reads hL (n:= "strconv.ErrSyntax") (d:=Rows.laid_strconv_ErrSyntax) (List.mem_of_getElem? (i:=5) Ou)
  obtain rfl:=Option.some.inj (MX.symm.trans h1)
  obtain rfl:=Option.some.inj (Nk.symm.trans h2)
  obtain⟨u,v,hc⟩:=iface_of_trod underlying220 h4
  exact⟨u,v,by rw[h3];cases cs;simp_all⟩
 ·obtain⟨g,t,cs,fuel,p,h1,h2,h3,h4⟩:=Lib.laidMet.reads hL (n:= "strconv.ErrRange") (d:=Rows.laid_strconv_ErrRange) (List.mem_of_getElem? (i:=4) Ou)
  obtain rfl:=Option.some.inj (M6.symm.trans h1)
  obtain rfl:=Option.some.inj (M2.symm.trans h2)
  obtain⟨u,v,hc⟩:=iface_of_trod underlying220 h4
  exact⟨u,v,by rw[h3];cases cs;simp_all⟩
 ·obtain⟨g,t,cs,fuel,p,h1,h2,h3,h4⟩:=Lib.laidMet.reads hL (n:= "kingpost/timber.words") (d:= .agg JO) (List.mem_of_getElem? (i:=6) Ou)
  obtain rfl:=Option.some.inj (Mm.symm.trans h1)
  obtain rfl:=Option.some.inj (MO.symm.trans h2)
  intro j hj
  obtain⟨f2,d,q,hd,ht⟩:=Lib.array_elem underlying147 h4 (1+j) Ot
  rw[JR j hj] at hd
  obtain⟨s,hc,hx,_⟩:=DataW.trod_string underlying9 ht
  have hds:(DataW.lit (.string (jo.getD j [])):DataW Unit)= .lit (.string s.data.toList):=(Option.some.inj hd).trans (Prod.mk.inj hx).1
  have hs:jo.getD j []=s.data.toList:=by
   injection hds with h;injection h
  rw[oE,Nat.mul_one] at hc
  rw[NY.var?_cell Mm h3 (1+j),hs,lz]
  have h0:((cs.toList.drop (1+j)).take 1)[0]?=N3 (.string s):=by rw[hc];rfl
  simpa[List.getElem?_take,List.getElem?_drop] using h0
theorem Gt{W:NY}(hS:W.ShapedOpen prog):9≤W.heap.size:=by
 obtain⟨⟨z,t⟩,hz⟩:=Option.isSome_iff_exists.1 (show((((begin prog (fun _ _=>0) default).world.heap[8]?).bind Obj.row?).isSome=Oc) from Ou)
 obtain⟨cs,hc,_⟩:=hS.1 8 z t (of_decide_eq_true Ou) hz
 have:=(Od.1 hc).1
 omega
theorem Ek(H:Type)(enc:Oo×N2→H)(W:NY)(base:Nat)(args:Array N2)(ds gs:List (DataW H))(before:List MemPlace)
  (hsm:Rows.uptoBulkAll (ds++gs)≤1048576)(hval:∀(j:Nat) t v,Tryz.f3.params[j]?=N3 t→args[j]?=N3 v→N2.okWide prog W .any base t v)
  (hW:DataW.Whole enc prog Tryz.f3.params.toList Rows.changeOnlySpec.vars N1 W args.toList ds gs before)(hL:laidMetH prog Rows.changeOnlyUptoRow.laid W)(hS:W.ShapedOpen prog):
  Of prog 3 args W fun e W'=>∃v,e= .returned v∧Rows.changeOnlySpec.post enc prog Tryz.f3 N1 Oc N1 N1 W args v W':=by
 have hW':=hW
 obtain⟨p,q,hA0,hV,rfl,hfz,hnd⟩:=hW
 have hA:DataW.TrodAll enc prog W 0 (fun _=>Oc) Oc Tryz.f3.params.toList args.toList ds p:=hA0
 rw[params3] at hA hval
 obtain⟨v0,vs0,d0,ds0,p0,q0,hargs,rfl,rfl,h0,r0⟩:=trodAll_cons hA
 obtain⟨v1,vs1,d1,ds1,p1,q1,rfl,rfl,rfl,h1,r1⟩:=trodAll_cons r0
 obtain⟨rfl,rfl,rfl⟩:=trodAll_nil r1
 obtain rfl:args=#[v0,v1]:=by cases args;simp_all
 obtain⟨rfl,rfl⟩:=trodVars_none hV
 obtain⟨j,a,hj,hjb,hbulk⟩:=Fb (hval 0 34 v0 rfl rfl) h0
 obtain⟨e,ga,gc,he,hgap,_,hix⟩:=CN (hval 1 50 v1 rfl rfl) h1
 have hbig:j.rings.flatten.length≤4000000000:=by
  simp only[List.append_nil,Rows.uptoBulkAll] at hsm
  omega
 have walk:=wh W j a e ga gc hjb hgap hbig hix.2 (L7 hL hS) (Gt hS)
 rw[←he,←hj] at walk
 clear hA0
 have hlt:∀x∈p0++(p1++[])++[],x.block<W.heap.size:=fun x hx=>hW'.lt x hx
 refine walk.mono fun r W' ⟨hr,hb⟩=> ?_
 subst hr
 refine⟨_,rfl,?_⟩
 have hread:∀sp:Nat→Bool,(∀x∈p0++(p1++[])++[],sp x.block=Oc)→DataW.TrodAll enc prog W' 0 sp Oc Tryz.f3.params.toList #[v0,v1].toList [d0,d1] (p0++(p1++[])):=fun sp hsp=>by
  rw[params3]
  exact trodAll_cons_mk (WideElems.Trod_stays xY Ou (of_decide_eq_true Ou) h0 (fun x hx=>hb.same (hlt x (by simp[hx]))) (fun x hx=>hsp x (by simp[hx])))
   (trodAll_cons_mk (WideElems.Trod_stays xY Ou (of_decide_eq_true Ou) h1 (fun x hx=>hb.same (hlt x (by simp[hx]))) (fun x hx=>hsp x (by simp[hx]))) trodAll_mk0)
 have hold:∀x∈p0++(p1++[])++[],(fun b=>decide (b<W.heap.size)) x.block=Oc:=fun x hx=>by simpa using hlt x hx
 refine⟨[d0,d1],[],p0++(p1++[])++[],[],p0++(p1++[]),[],hW',trodAll_cons_mk (shut_bool underlying4 _) trodAll_mk0,hread _ hold,rfl,NY.keptBut_mono (fun x hx=>⟨hx,?_⟩) (hb.frame (· ∈p0++(p1++[])++[])),fun _=> ?_⟩
 ·exact Or.inr (by simpa using hx)
 ·refine⟨ok_one Ou rfl (okWide_bool_mk underlying4 _),_,[],([]++(p0++(p1++[])))++[],⟨[]++(p0++(p1++[])),[],trodAll_append (hread _ (fun _ _=>rfl)) (trodAll_cons_mk (shut_bool underlying4 _) trodAll_mk0),rfl,rfl,?_,?_⟩,?_⟩
  ·intro b off hx
   have hin2:MemPlace.cell b off∈p0++(p1++[])++[]:=by simpa using hx
   rw[hb.frozen (hlt _ hin2)]
   exact hfz b off hin2
  ·intro ha;cases ha
  ·intro x hx _
   simpa using hx
theorem Kn(os:Os){H:Type}(enc:Oo×N2→H):∃x,DataW.whole enc prog ((NY.laidAll prog os Rows.changeOnlyUptoRow.laid).forCall (fun _ _=>0) ⟨#[],#[.agg (dy gC iS),.agg (aG kA cD)],[]⟩).memory Tryz.f3.params.toList Rows.changeOnlySpec.vars N1 #[.agg (dy gC iS),.agg (aG kA cD)].toList 8=N3 x∧Rows.uptoSmall H (x.1++x.2.1)=Oc:=by
 have h:((DataW.whole enc prog ((NY.laidAll prog os Rows.changeOnlyUptoRow.laid).forCall (fun _ _=>0) ⟨#[],#[.agg (dy gC iS),.agg (aG kA cD)],[]⟩).memory Tryz.f3.params.toList Rows.changeOnlySpec.vars N1 #[.agg (dy gC iS),.agg (aG kA cD)].toList 8).map fun x=>Rows.uptoSmall H (x.1++x.2.1))=N3 Oc:=Ou
 exact Option.map_eq_some_iff.1 h
theorem lifted(os:Os)(started:os.Started)(H:Type)(enc:Oo×N2→H)(F:Stop.Interp):
  ReturnsInHanded {} Tryz.checked os 3 .any ((Rows.OpenSpec.upto Rows.changeOnlySpec).preRow enc prog Tryz.f3 Rows.changeOnlyUptoRow.domain N1 Rows.changeOnlyUptoRow.laid) (((Rows.OpenSpec.upto Rows.changeOnlySpec).at F).post enc prog Tryz.f3 N1 Oc N1 N1):=by
 obtain⟨x,hx,hxs⟩:=Kn os enc
 have hok:Input.okWideB prog ((NY.laidAll prog os Rows.changeOnlyUptoRow.laid).forCall (fun _ _=>0) ⟨#[],#[.agg (dy gC iS),.agg (aG kA cD)],[]⟩) 3 ⟨#[],#[.agg (dy gC iS),.agg (aG kA cD)],[]⟩=Oc:=Ou
 refine returnsInHanded_of_row (C:=Tryz.checked) (s:=Rows.OpenSpec.upto Rows.changeOnlySpec) own started Ou func3
  ⟨NY.laidAll prog os Rows.changeOnlyUptoRow.laid,fun _ _=>0,⟨#[],#[.agg (dy gC iS),.agg (aG kA cD)],[]⟩,NY.laidAll_os _ _ _,NY.shaped_of_ZipB Ou Ou,(Input.okWide_of_okWideB (base:=0) hok).1,(Input.okWide_of_okWideB hok).2,
   OpenSpec.preRow_of_cond 8 hx rfl (fun k hk=>by cases hk;exact hxs) Ou (by rw[MakeChecks.laidMetH_plain _ _ _ Ou];exact laidMet_laidAll _ Ou Ou),by
   simp only[Assume.holds]
   exact⟨Ow,Ow,fun _=>Modest.zero,Ow,Ow⟩⟩ ?_
 intro W base args ds gs before hval hW _ hk _ hL hS _
 exact Ek H enc W base args ds gs before (of_decide_eq_true (hk _ rfl)) hval hW hL hS
theorem facts:joinedFacts Tryz.pinned.checked.prog 3 Tryz.f3 (Rows.OpenSpec.upto Rows.changeOnlySpec).bare Rows.changeOnlyUptoRow=Oc:=
 (Bool.and_eq_true_iff.2 ⟨(Bool.and_eq_true_iff.2 ⟨(Bool.and_eq_true_iff.2 ⟨(Bool.and_eq_true_iff.2 ⟨(Bool.and_eq_true_iff.2 ⟨(Bool.and_eq_true_iff.2 ⟨(Bool.and_eq_true_iff.2 ⟨(Bool.and_eq_true_iff.2 ⟨(Bool.and_eq_true_iff.2 ⟨(Bool.and_eq_true_iff.2 ⟨(Bool.and_eq_true_iff.2 ⟨(Bool.and_eq_true_iff.2 ⟨(Bool.and_eq_true_iff.2 ⟨(Bool.and_eq_true_iff.2 ⟨(Bool.and_eq_true_iff.2 ⟨(Bool.and_eq_true_iff.2 ⟨(Bool.and_eq_true_iff.2 ⟨(Bool.and_eq_true_iff.2 ⟨(Bool.and_eq_true_iff.2 ⟨(Bool.and_eq_true_iff.2 ⟨(Bool.and_eq_true_iff.2 ⟨(Bool.and_eq_true_iff.2 ⟨(Bool.and_eq_true_iff.2 ⟨(Bool.and_eq_true_iff.2 ⟨(Bool.and_eq_true_iff.2 ⟨(Bool.and_eq_true_iff.2 ⟨(Bool.and_eq_true_iff.2 ⟨(Bool.and_eq_true_iff.2 ⟨(Bool.and_eq_true_iff.2 ⟨(Bool.and_eq_true_iff.2 ⟨(Bool.and_eq_true_iff.2 ⟨MN,Nf⟩),MY⟩),Nj⟩),M7⟩),Nc⟩),Nn⟩),Nh⟩),Na⟩),M4⟩),K7⟩),Lw⟩),Lp⟩),LD⟩),K9⟩),Mq⟩),LL⟩),LC⟩),MC⟩),Mb⟩),Mx⟩),Mw⟩),Mt⟩),LH⟩),Lq⟩),Mg⟩),MD⟩),Mo⟩),L8⟩),LX⟩),LI⟩),Le⟩)
theorem said:Rows.ChangeOnlyUptoSaid:=
 OpenClaim.holds_of_cond 3 Tryz.f3 rfl rfl rfl rfl rfl rfl rfl ⟨rfl,rfl,rfl,rfl,rfl⟩ rfl rfl rfl rfl rfl Ou func3 facts
  (of_decide_eq_true Ou) (by unfold Func.isWrapper;first|(rw[if_pos PN];kernel_rfl)|(rw[if_neg PN];exact⟨rfl,rfl⟩))
  (fun os started H enc _ F=>by rw[OpenClaim.pre_eq_preRow];exact lifted os started H enc F)
theorem Kc(f:FuncId)(fn:Func)(hf:Tryz.pinned.checked.prog.funcNamed "kingpost/kingpostlaw58.ChangeOnly" =N3 f)(hfn:Tryz.pinned.checked.prog.funcs[f]?=N3 fn):
  Oc=Tryz.pinned.checked.prog.looks []∧∀(j:Nat) t,fn.params[j]?=N3 t→Tryz.pinned.checked.prog.wantsStandIn t=N1:=by
 obtain rfl:f=3:=Option.some.inj ((show prog.funcNamed "kingpost/kingpostlaw58.ChangeOnly" =N3 3 by kernel_rfl).symm.trans hf) |>.symm
 obtain rfl:fn=Tryz.f3:=(Option.some.inj (func3.symm.trans hfn)).symm
 refine⟨Ou,fun j t ht=> ?_⟩
 rw[params3] at ht
 have hm:t=34∨t=50:=by simpa using Array.mem_of_getElem? ht
 rcases hm with rfl|rfl
 ·exact(show prog.wantsStandIn 34=N1 by kernel_rfl)
 ·exact(show prog.wantsStandIn 50=N1 by kernel_rfl)
theorem changeOnlyUpto_card:Rows.ChangeOnlyUptoCardSaid:=
 Claim7.holds_tied_plain_at .later [] _ _ _ _ said (fun _ h=>Ox) Ou (fun _ h=>Ox) changeOnlyUpto_row_tie rfl ⟨rfl,rfl⟩ Ou rfl Kc Ou
end
end Go.Proofs.YtnpihidbkhehjaaGreatDoor
