/- ChangeOrder of kingpostlaw58 (P58.4): redoing what was undone makes the same log again; the order in which two edits are undone does not matter; inputs of bulk at most 1048576 (the Upto form of the card). -/
import Derived.Test.YtmliacdegmklaaaGreatDoorRows
import Derived.JoinedCond
import Derived.KernelRfl
import Derived.Test.YtmliacdegmklaaaGreatDoorCards
import Derived.Test.YtmliacdegmklaaaGreatDoorTie
import Derived.ProofKit
import Derived.OpenShut
import Derived.ChangeMaps5
import Derived.Deep.DeepHandedRow
import Derived.Lib.LaidU8
import Derived.Lay
import Derived.Carry
import Derived.Shelf.Vars
import Derived.MakeChecks
import Derived.SevenTiedAt
import Derived.Stop.Joined
import Derived.Test.YtmliacdegmklaaaGreatDoorM20
import Derived.Test.YtmliacdegmklaaaGreatDoorM30
set_option linter.unusedVariables false
set_option linter.unusedSimpArgs false
set_option linter.defProp false
set_option maxHeartbeats 8000000
set_option maxRecDepth 100000
open Go.RowKit Go.Proofs.Tryz
open Array renaming getElem?_eq_some_iff→Vz
open Bool renaming false→Vp,true→Vv,and_eq_true_iff→Vw
open Go renaming World→Vl,Value→Vr,undef→Vs,wpOp_step→Vx,Calls→VC,maxLen→VJ,TypeId→VK,Addr→VM,Rows→VP
open Go.AllReady renaming cons→VH,nil→VO
open Go.Ending renaming returned→VV
open Go.IntKind renaming i64→VA
open Go.IntWalk renaming i64_in→VI
open Go.Lib renaming hid→Vk
open Go.RowKit renaming intOf→VG,Below→VL
open Go.Value renaming slice→VQ,string→VR,bool→VS,pointer→VT,int→VU,agg→VW,tuple→VX
open Go.World renaming alloc_heap_new→Vy,size_alloc→VF
open List renaming getD_eq_getElem?_getD→Vn,getElem?_eq_getElem→Vt,length_map→Vu,length_append→VD
open Nat renaming le_refl→Vm,le_trans→VB,mul_comm→VE
open Option renaming none→Vo,some→Vq
open Option.some renaming inj→VN
open Go.Proofs.YtmliacdegmklaaaGreatDoor
namespace Go.Proofs.YtmliacdegmklaaaGreatDoor
section
open Go.ChangeShapes Go.WideShapes Go.ChangeAt
def Ma:(Rows.changeOrderUptoRow.wf (OpenSpec.ofChange (Rows.OpenSpec.upto Rows.changeOrderSpec).bare))=Vv:=VZ
def Mw:(laidOutB Tryz.pinned.checked.prog)=Vv:=VZ
def Ly:(mapsRowed Tryz.pinned.checked.prog)=Vv:=VZ
def LZ:(Tryz.f4.params.all (Tryz.pinned.checked.prog.readableRec ·))=Vv:=VZ
def Nn:(namedTie Tryz.pinned.checked.prog Rows.changeOrderUptoRow.named (Rows.OpenSpec.upto Rows.changeOrderSpec).bare.vars)=Vv:=VZ
def NQ:((Rows.changeOrderUptoRow.stops==[]))=Vv:=VZ
def Mm:((Tryz.pinned.checked.prog.stops==[]))=Vv:=VZ
def Lo:((Rows.changeOrderUptoRow.knobs==[]))=Vv:=VZ
def Of:((Tryz.pinned.checked.prog.stopKnobs==[]))=Vv:=VZ
def N0:((Rows.changeOrderUptoRow.inPlace==Tryz.pinned.checked.prog.inPlace 4))=Vv:=VZ
def Ce:((Rows.changeOrderUptoRow.unfollowed==Tryz.pinned.checked.prog.unfollowed 4))=Vv:=VZ
def Bk:((Rows.changeOrderUptoRow.recurses==Tryz.pinned.checked.prog.recurses 4))=Vv:=VZ
def Dl:((Rows.changeOrderUptoRow.named==Tryz.pinned.checked.prog.varsNamed 4))=Vv:=VZ
def BJ:((Rows.changeOrderUptoRow.maps==(Tryz.f4.params.toList++(Rows.OpenSpec.upto Rows.changeOrderSpec).bare.plain.varTypes Tryz.pinned.checked.prog).any (Tryz.pinned.checked.prog.mapsRec ·)))=Vv:=VZ
def Cl:((Rows.changeOrderUptoRow.ifaces==(Tryz.f4.params.toList++(Rows.OpenSpec.upto Rows.changeOrderSpec).bare.plain.varTypes Tryz.pinned.checked.prog).any (Tryz.pinned.checked.prog.ifacesRec ·)))=Vv:=VZ
def Dp:((Rows.changeOrderUptoRow.mapsOut==Tryz.pinned.checked.prog.mapsAmong Tryz.f4.resultTypes.toList))=Vv:=VZ
def Bb:((Rows.changeOrderUptoRow.loops==(Tryz.f4.params.toList++(Rows.OpenSpec.upto Rows.changeOrderSpec).bare.plain.varTypes Tryz.pinned.checked.prog).any (Tryz.pinned.checked.prog.loopsFrom ·)))=Vv:=VZ
def Dh:((Rows.changeOrderUptoRow.wideKeys==(Tryz.f4.params.toList++(Rows.OpenSpec.upto Rows.changeOrderSpec).bare.plain.varTypes Tryz.pinned.checked.prog++Tryz.f4.resultTypes.toList).any (Tryz.pinned.checked.prog.wideKeysFrom ·)))=Vv:=VZ
def BO:((Rows.OpenSpec.upto Rows.changeOrderSpec).bare.vars.all (Tryz.pinned.checked.prog.varReadable ·))=Vv:=VZ
def Cb:(Tryz.f4.resultTypes.all (λt=>Tryz.pinned.checked.prog.readableRec t&&decide (t<Tryz.pinned.checked.prog.types.size)))=Vv:=VZ
def AZ:((Rows.changeOrderUptoRow.ifacesOut==Tryz.f4.resultTypes.toList.any (Tryz.pinned.checked.prog.ifacesRec ·)))=Vv:=VZ
def B4:((Rows.changeOrderUptoRow.loopsOut==Tryz.f4.resultTypes.toList.any (Tryz.pinned.checked.prog.loopsFrom ·)))=Vv:=VZ
def Bn:((Rows.changeOrderUptoRow.plainKeys==Tryz.pinned.checked.prog.plainKeys))=Vv:=VZ
def Bf:(Rows.changeOrderUptoRow.shortTexts.isNone)=Vv:=VZ
def Dm:(Tryz.pinned.checked.prog.stopsHeard)=Vv:=VZ
def CE:(Tryz.pinned.checked.prog.mayEnter)=Vv:=VZ
def Cp:((Rows.changeOrderUptoRow.lifted==Tryz.pinned.checked.prog.liftsFinal))=Vv:=VZ
def D6:((Tryz.pinned.checked.prog.make==Vq Rows.changeOrderUptoRow.make))=Vv:=VZ
def Bl:((Rows.changeOrderUptoRow.kinds==(if Rows.changeOrderUptoRow.domain.isEmpty then [] else Tryz.f4.params.toList.map λt=>match Tryz.pinned.checked.prog.underlying t with|some (.int k)=>Vq k|_=>Option.none)))=Vv:=VZ
def BW:((Rows.changeOrderUptoRow.pinned==Rows.changeOrderUptoRow.pinnedBy))=Vv:=VZ
def Dz:((Rows.changeOrderUptoRow.veiled==(Tryz.f4.params.toList++(Rows.OpenSpec.upto Rows.changeOrderSpec).bare.plain.varTypes Tryz.pinned.checked.prog++Tryz.f4.resultTypes.toList).any (Tryz.pinned.checked.prog.veiledRec ·)))=Vv:=VZ
def DI:(Rows.changeOrderUptoRow.veiledFits Tryz.pinned.checked.prog Tryz.f4.params.toList (Tryz.f4.params.toList++(Rows.OpenSpec.upto Rows.changeOrderSpec).bare.plain.varTypes Tryz.pinned.checked.prog++Tryz.f4.resultTypes.toList))=Vv:=VZ
end
section
open Go.ChangeShapes Go.WideShapes Go.ChangeAt Kp
def own:ownKnob prog.godebug=Vo:=VZ
def iq:laidOutB prog=Vv:=VZ
def iface_of_trod{H:Type}{enc:VK×Vr->H}{P:Program}{w:Vl}{base:Nat}{sp:Nat->Bool}{fuel:Nat}{t:VK}{cs:List Vr}{name:String}{d:DataW H}{p:List MemPlace}
  {ms:_}(ht:P.underlying t=Vq (.interface ms))(h:DataW.trod enc P w base sp Vp fuel t cs=Vq (.iface name d,p)):∃u v,cs=[.iface u v]:=by
 cases fuel with
 |zero=>simp[DataW.trod] at h
 |succ n=>
  exact a05
def MY:prog.globalNamed "internal/strconv.uint64pow10" =Vq 6:=VZ
def Nx:prog.globalNamed "strconv.ErrSyntax" =Vq 4:=VZ
def NH:prog.globalNamed "strconv.ErrRange" =Vq 5:=VZ
def CO:prog.globalNamed "kingpost/timber.words" =Vq 0:=VZ
def MZ:(prog.globals[4]?).map (·.type)=Vq 212:=VZ
def MF:(prog.globals[5]?).map (·.type)=Vq 212:=VZ
def My:(prog.globals[6]?).map (·.type)=Vq 352:=VZ
def Na:(prog.globals[0]?).map (·.type)=Vq 158:=VZ
def tK:prog.cellsOf 314=1:=VZ
def vZ:prog.cellsOf 352=20:=VZ
def uV:List (DataW Unit):= .lit (.string [])::ew.map λs=> .lit (.string s)
def vj(j:Nat)(hj:j<12):uV[1+j]?=Vq (.lit (.string (ew.getD j []))):=by
 exact a06
def Cu{W:Vl}(hL:laidMetH prog Rows.changeOrderUptoRow.laid W)(hS:W.ShapedOpen prog):Gl W:=by
 rw[MakeChecks.laidMetH_plain _ _ _ VZ] at hL;refine⟨?_,?_,?_,?_,?_⟩
 ·obtain⟨g,t,cs,fuel,p,h1,h2,h3,h4⟩:=Lib.laidMet.reads hL (n:= "internal/strconv.uint64pow10") (d:=Lib.tabData .u64 Lib.pow10Tab) (List.mem_of_getElem? (i:=2) VZ);obtain rfl:=VN (MY.symm.trans h1);obtain rfl:=VN (My.symm.trans h2);have:=Lib.cells_of_tab underlying352 underlying314 tK vZ h4;show W.var? prog _=Vq _;rw[h3,<-this]
 ·exact Go.Proofs.cell_of_shapedOpen_int (zero:=#[.int .i64 0]) (t:=3) hS (of_decide_eq_true VZ) VZ rfl VZ VZ underlying3
 ·obtain⟨g,t,cs,fuel,p,h1,h2,h3,h4⟩:=Lib.laidMet.reads hL (n:= "strconv.ErrSyntax") (d:=Rows.laid_strconv_ErrSyntax) (List.mem_of_getElem? (i:=5) VZ);obtain rfl:=VN (Nx.symm.trans h1);obtain rfl:=VN (MZ.symm.trans h2);obtain⟨u,v,hc⟩:=iface_of_trod underlying212 h4;exact⟨u,v,Xt⟩
 ·obtain⟨g,t,cs,fuel,p,h1,h2,h3,h4⟩:=Lib.laidMet.reads hL (n:= "strconv.ErrRange") (d:=Rows.laid_strconv_ErrRange) (List.mem_of_getElem? (i:=4) VZ);obtain rfl:=VN (NH.symm.trans h1);obtain rfl:=VN (MF.symm.trans h2);obtain⟨u,v,hc⟩:=iface_of_trod underlying212 h4;exact⟨u,v,Xt⟩
 ·obtain⟨g,t,cs,fuel,p,h1,h2,h3,h4⟩:=Lib.laidMet.reads hL (n:= "kingpost/timber.words") (d:= .agg uV) (List.mem_of_getElem? (i:=6) VZ);obtain rfl:=VN (CO.symm.trans h1);obtain rfl:=VN (Na.symm.trans h2);intro j hj;obtain⟨f2,d,q,hd,ht⟩:=Lib.array_elem underlying158 h4 (1+j) VY;rw[vj j hj] at hd;obtain⟨s,hc,hx,_⟩:=DataW.trod_string underlying9 ht;have hds:(DataW.lit (.string (ew.getD j [])):DataW Unit)= .lit (.string s.data.toList):=(VN hd).trans (Prod.mk.inj hx).1;have hs:ew.getD j []=s.data.toList:=by
   injection hds with h;injection h
  rw[nM,Nat.mul_one] at hc;rw[Vl.var?_cell CO h3 (1+j),hs,lr];have h0:((cs.toList.drop (1+j)).take 1)[0]?=Vq (.string s):=by rw[hc];rfl
  simpa[List.getElem?_take,List.getElem?_drop] using h0
def qv{W:Vl}(hS:W.ShapedOpen prog):9<=W.heap.size:=by
 exact a08
def zv{n:Int}(h:(Lit.int .u8 n).wf=Vv):∃m:Nat,m<=255/\n=(m:Int):=by
 exact a09
def nB(H:Type)(enc:VK×Vr->H)(W:Vl)(base:Nat)(args:Array Vr)(ds gs:List (DataW H))(before:List MemPlace)
  (hsm:Rows.uptoBulkAll (ds++gs)<=1048576)(hval:∀(j:Nat) t v,Tryz.f4.params[j]?=Vq t->args[j]?=Vq v->Vr.okWide prog W .any base t v)
  (hW:DataW.Whole enc prog Tryz.f4.params.toList Rows.changeOrderSpec.vars Vp W args.toList ds gs before)(hL:laidMetH prog Rows.changeOrderUptoRow.laid W)(hS:W.ShapedOpen prog):
  VC prog 4 args W λe W'=>∃v,e= .returned v/\Rows.changeOrderSpec.post enc prog Tryz.f4 Vp Vv Vp Vp W args v W':=by
 have hW':=hW;obtain⟨p,q,hA0,hV,rfl,hfz,hnd⟩:=hW;have hA:DataW.TrodAll enc prog W 0 (λ_=>Vv) Vv Tryz.f4.params.toList args.toList ds p:=hA0;rw[params4] at hA hval;obtain⟨v0,vs0,d0,ds0,p0,q0,hargs,rfl,rfl,h0,r0⟩:=trodAll_cons hA;obtain⟨v1,vs1,d1,ds1,p1,q1,rfl,rfl,rfl,h1,r1⟩:=trodAll_cons r0;obtain⟨v2,vs2,d2,ds2,p2,q2,rfl,rfl,rfl,h2,r2⟩:=trodAll_cons r1;obtain⟨rfl,rfl,rfl⟩:=trodAll_nil r2;obtain rfl:args=#[v0,v1,v2]:=by cases args;simp_all
 obtain⟨rfl,rfl⟩:=trodVars_none hV;obtain⟨l,a,hl,hlb,hbulk,hix⟩:=ur (hval 0 38 v0 rfl rfl) h0;obtain⟨n1,hn1,_,_,hw1⟩:=open_int underlying5 (hval 1 5 v1 rfl rfl) h1;obtain⟨m1,hm1,rfl⟩:=zv hw1;obtain⟨n2,hn2,_,_,hw2⟩:=open_int underlying5 (hval 2 5 v2 rfl rfl) h2;obtain⟨m2,hm2,rfl⟩:=zv hw2;have hbig:l.start.rings.flatten.length<=4000000000:=by
  simp only[List.append_nil,Rows.uptoBulkAll] at hsm;omega
 have walk:=Au W l a m1 m2 hm1 hm2 hlb hbig hix (Cu hL hS) (qv hS);rw[<-hn1,<-hn2,<-hl] at walk;clear hA0;have hlt:∀x∈p0++(p1++(p2++[]))++[],x.block<W.heap.size:=λx hx=>hW'.lt x hx
 refine walk.mono λr W' ⟨hr,hb⟩=> ?_
 subst hr;refine⟨_,rfl,?_⟩;have hread:∀sp:Nat->Bool,(∀x∈p0++(p1++(p2++[]))++[],sp x.block=Vv)->DataW.TrodAll enc prog W' 0 sp Vv Tryz.f4.params.toList #[v0,v1,v2].toList [d0,d1,d2] (p0++(p1++(p2++[]))):=λsp hsp=>by
  rw[params4];exact trodAll_cons_mk (WideElems.Trod_stays iq VZ (of_decide_eq_true VZ) h0 (λx hx=>hb.same (hlt x Xw)) (λx hx=>hsp x Xw)) (trodAll_cons_mk (WideElems.Trod_stays iq VZ (of_decide_eq_true VZ) h1 (λx hx=>hb.same (hlt x Xw)) (λx hx=>hsp x Xw)) (trodAll_cons_mk (WideElems.Trod_stays iq VZ (of_decide_eq_true VZ) h2 (λx hx=>hb.same (hlt x Xw)) (λx hx=>hsp x Xw)) trodAll_mk0))
 have hold:∀x∈p0++(p1++(p2++[]))++[],(λb=>decide (b<W.heap.size)) x.block=Vv:=λx hx=>by simpa using hlt x hx
 refine⟨[d0,d1,d2],[],p0++(p1++(p2++[]))++[],[],p0++(p1++(p2++[])),[],hW',trodAll_cons_mk (shut_bool underlying4 _) trodAll_mk0,hread _ hold,rfl,Vl.keptBut_mono (λx hx=>⟨hx,?_⟩) (hb.frame (· ∈p0++(p1++(p2++[]))++[])),λ_=> ?_⟩
 ·exact Or.inr XK
 ·refine⟨ok_one VZ rfl (okWide_bool_mk underlying4 _),_,[],([]++(p0++(p1++(p2++[]))))++[],⟨[]++(p0++(p1++(p2++[]))),[],trodAll_append (hread _ (λ_ _=>rfl)) (trodAll_cons_mk (shut_bool underlying4 _) trodAll_mk0),rfl,rfl,?_,?_⟩,?_⟩
  ·intro b off hx;have hin2:MemPlace.cell b off∈p0++(p1++(p2++[]))++[]:=XK;rw[hb.frozen (hlt _ hin2)];exact hfz b off hin2
  ·intro ha;cases ha
  ·intro x hx _;simpa using hx
def ux(os:Os){H:Type}(enc:VK×Vr->H):∃x,DataW.whole enc prog ((Vl.laidAll prog os Rows.changeOrderUptoRow.laid).forCall (λ_ _=>0) ⟨#[],#[.agg (cW fH fo),.int .u8 0,.int .u8 0],[]⟩).memory Tryz.f4.params.toList Rows.changeOrderSpec.vars Vp #[.agg (cW fH fo),.int .u8 0,.int .u8 0].toList 8=Vq x/\Rows.uptoSmall H (x.1++x.2.1)=Vv:=by
 have h:((DataW.whole enc prog ((Vl.laidAll prog os Rows.changeOrderUptoRow.laid).forCall (λ_ _=>0) ⟨#[],#[.agg (cW fH fo),.int .u8 0,.int .u8 0],[]⟩).memory Tryz.f4.params.toList Rows.changeOrderSpec.vars Vp #[.agg (cW fH fo),.int .u8 0,.int .u8 0].toList 8).map λx=>Rows.uptoSmall H (x.1++x.2.1))=Vq Vv:=VZ;exact Option.map_eq_some_iff.1 h
def lifted(os:Os)(started:os.Started)(H:Type)(enc:VK×Vr->H)(F:Stop.Interp):
  ReturnsInHanded {} Tryz.checked os 4 .any ((Rows.OpenSpec.upto Rows.changeOrderSpec).preRow enc prog Tryz.f4 Rows.changeOrderUptoRow.domain Vp Rows.changeOrderUptoRow.laid) (((Rows.OpenSpec.upto Rows.changeOrderSpec).at F).post enc prog Tryz.f4 Vp Vv Vp Vp):=by
 obtain⟨x,hx,hxs⟩:=ux os enc;have hok:Input.okWideB prog ((Vl.laidAll prog os Rows.changeOrderUptoRow.laid).forCall (λ_ _=>0) ⟨#[],#[.agg (cW fH fo),.int .u8 0,.int .u8 0],[]⟩) 4 ⟨#[],#[.agg (cW fH fo),.int .u8 0,.int .u8 0],[]⟩=Vv:=VZ;refine returnsInHanded_of_row (C:=Tryz.checked) (s:=Rows.OpenSpec.upto Rows.changeOrderSpec) own started VZ func4
  ⟨Vl.laidAll prog os Rows.changeOrderUptoRow.laid,λ_ _=>0,⟨#[],#[.agg (cW fH fo),.int .u8 0,.int .u8 0],[]⟩,Vl.laidAll_os _ _ _,Vl.shaped_of_ZipB VZ VZ,(Input.okWide_of_okWideB (base:=0) hok).1,(Input.okWide_of_okWideB hok).2,
   OpenSpec.preRow_of_cond 8 hx rfl (λk hk=>by cases hk;exact hxs) VZ Wt,by
   simp only[Assume.holds];exact⟨V5,V5,λ_=>Modest.zero,V5,V5⟩⟩ ?_
 intro W base args ds gs before hval hW _ hk _ hL hS _;exact nB H enc W base args ds gs before (of_decide_eq_true (hk _ rfl)) hval hW hL hS
def facts:joinedFacts Tryz.pinned.checked.prog 4 Tryz.f4 (Rows.OpenSpec.upto Rows.changeOrderSpec).bare Rows.changeOrderUptoRow=Vv:=
 (Vw.2 ⟨(Vw.2 ⟨(Vw.2 ⟨(Vw.2 ⟨(Vw.2 ⟨(Vw.2 ⟨(Vw.2 ⟨(Vw.2 ⟨(Vw.2 ⟨(Vw.2 ⟨(Vw.2 ⟨(Vw.2 ⟨(Vw.2 ⟨(Vw.2 ⟨(Vw.2 ⟨(Vw.2 ⟨(Vw.2 ⟨(Vw.2 ⟨(Vw.2 ⟨(Vw.2 ⟨(Vw.2 ⟨(Vw.2 ⟨(Vw.2 ⟨(Vw.2 ⟨(Vw.2 ⟨(Vw.2 ⟨(Vw.2 ⟨(Vw.2 ⟨(Vw.2 ⟨(Vw.2 ⟨(Vw.2 ⟨Ma,Mw⟩),Ly⟩),LZ⟩),Nn⟩),NQ⟩),Mm⟩),Lo⟩),Of⟩),N0⟩),Ce⟩),Bk⟩),Dl⟩),BJ⟩),Cl⟩),Dp⟩),Bb⟩),Dh⟩),BO⟩),Cb⟩),AZ⟩),B4⟩),Bn⟩),Bf⟩),Dm⟩),CE⟩),Cp⟩),D6⟩),Bl⟩),BW⟩),Dz⟩),DI⟩)
def said:Rows.ChangeOrderUptoSaid:=
 OpenClaim.holds_of_cond 4 Tryz.f4 rfl rfl rfl rfl rfl rfl rfl ⟨rfl,rfl,rfl,rfl,rfl⟩ rfl rfl rfl rfl rfl VZ func4 facts
  (of_decide_eq_true VZ) Wp
  (λos started H enc _ F=>Xg)
def tV(f:FuncId)(fn:Func)(hf:Tryz.pinned.checked.prog.funcNamed "kingpost/kingpostlaw58.ChangeOrder" =Vq f)(hfn:Tryz.pinned.checked.prog.funcs[f]?=Vq fn):
  Vv=Tryz.pinned.checked.prog.looks []/\∀(j:Nat) t,fn.params[j]?=Vq t->Tryz.pinned.checked.prog.wantsStandIn t=Vp:=by
 obtain rfl:f=4:=VN ((show prog.funcNamed "kingpost/kingpostlaw58.ChangeOrder" =Vq 4 by kernel_rfl).symm.trans hf) |>.symm;obtain rfl:fn=Tryz.f4:=(VN (func4.symm.trans hfn)).symm;refine⟨VZ,λj t ht=> ?_⟩;rw[params4] at ht;have hm:t=38\/t=5:=by have:=Array.mem_of_getElem? ht;simp at this;omega
 rcases hm with rfl|rfl
 ·exact a1d
 ·exact(show prog.wantsStandIn 5=Vp by kernel_rfl)
def changeOrderUpto_card:Rows.ChangeOrderUptoCardSaid:=
 Claim7.holds_tied_plain_at .later [] _ _ _ _ said (λ_ h=>V6) VZ (λ_ h=>V6) changeOrderUpto_row_tie rfl ⟨rfl,rfl⟩ VZ rfl tV VZ
end
end Go.Proofs.YtmliacdegmklaaaGreatDoor
