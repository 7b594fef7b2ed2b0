/- ChangeApplies of kingpostlaw58 (P58.1): Check, Apply and Text return the results of the reference implementation for any job (up to 8 sides, sizes of the statements of its layers) and edit; inputs of bulk at most 1048576 (the Upto form of the card). -/
import Derived.Test.YtnepbjnlmkppmaaGreatDoorCards
import Derived.Test.YtnepbjnlmkppmaaGreatDoorTie
import Derived.ProofKit
import Derived.ChangeMaps5
import Derived.Deep.DeepHandedRow
import Derived.Lib.LaidU8
import Derived.Lay
import Derived.Carry
import Derived.Shelf.Vars
import Derived.MakeChecks
import Derived.SevenTiedAt
import Derived.Stop.Joined
import Derived.Test.YtnepbjnlmkppmaaGreatDoorP13
import Derived.Test.YtnepbjnlmkppmaaGreatDoorP14
set_option linter.unusedVariables false
set_option linter.unusedSimpArgs false
set_option linter.defProp false
set_option maxHeartbeats 8000000
set_option maxRecDepth 100000
open Go.RowKit Go.Proofs.Tryz
open Array renaming getElem?_eq_some_iff→XV
open Bool renaming false→O,true→Y
open Decidable renaming decide→YG
open Go renaming World→U,undef→M,Value→Z,Calls→XY,TypeId→Yj
open Go.IntKind renaming i64→F
open Go.Lib renaming hid→A
open Go.Proofs.Tryz renaming prog→Xz
open Go.Value renaming slice→V,int→G
open List renaming getElem?_eq_getElem→XO,length→ln
open Option renaming none→I,some→L
open Go.Proofs.YtnepbjnlmkppmaaGreatDoor
variable{cs:List Z}{base a:Nat}{name:String}{c:Type}{w:U}{t:Yj}
namespace Go.Proofs.YtnepbjnlmkppmaaGreatDoor
section
open Go.ChangeShapes Go.WideShapes Go.ChangeAt Kp
def own:ownKnob Xz.godebug=I:=R
def EK:laidOutB Xz=Y:=R
theorem iface_of_trod{b:Yj×Z->c}{P:Program}{g:Nat->Bool}{d:DataW c}{p:List MemPlace}
  {f:_}(e:P.underlying t=L (.interface f))(h:DataW.trod b P w base g O a t cs=L (.iface name d,p)):∃u v,cs=[.iface u v]:=by
 cases a with
 |zero=>simp[DataW.trod] at h
 |succ n=>
  unfold DataW.trod at h;rw[e] at h;split at h<;>simp_all
def WI:Xz.globalNamed "internal/strconv.uint64pow10" =L 6:=R
def Wv:Xz.globalNamed "strconv.ErrSyntax" =L 4:=R
def VZ:Xz.globalNamed "strconv.ErrRange" =L 5:=R
def Uo:Xz.globalNamed "kingpost/timber.words" =L 0:=R
def VY:(Xz.globals[4]?).map (·.type)=L 193:=R
def Wc:(Xz.globals[5]?).map (·.type)=L 193:=R
def Wj:(Xz.globals[6]?).map (·.type)=L 333:=R
def V8:(Xz.globals[0]?).map (·.type)=L 129:=R
def T5:Xz.cellsOf 299=1:=R
def Tu:Xz.cellsOf 333=20:=R
def TS:List (DataW Unit):= .lit (.string [])::dH.map λs=> .lit (.string s)
def TX(j:Nat)(b:j<12):TS[1+j]?=L (.lit (.string (dH.getD j []))):=by
 have a:j<ln dH:=b;unfold TS;rw[Nat.add_comm,List.getElem?_cons_succ,List.getElem?_map,XO a];simp[List.getD,XO a]
def UL{W:U}(e:laidMetH Xz Rows.changeAppliesUptoRow.laid W)(r:W.ShapedOpen Xz):Gl W:=by
 rw[MakeChecks.laidMetH_plain _ _ _ R] at e;refine⟨?_,?_,?_,?_,?_⟩
 ·obtain⟨g,t,cs,a,p,h1,h2,b,c⟩:=Lib.laidMet.reads e (n:= "internal/strconv.uint64pow10") (d:=Lib.tabData .u64 Lib.pow10Tab) (List.mem_of_getElem? (i:=2) R);obtain rfl:=Option.some.inj (WI.symm.trans h1);obtain rfl:=Option.some.inj (Wj.symm.trans h2);have:=Lib.cells_of_tab underlying333 underlying299 T5 Tu c;show W.var? Xz _=L _;rw[b,<-this]
 ·exact Go.Proofs.cell_of_shapedOpen_int (zero:=#[.int .i64 0]) (t:=3) r (Yq R) R H R R underlying3
 ·obtain⟨g,t,cs,a,p,h1,h2,b,c⟩:=Lib.laidMet.reads e (n:= "strconv.ErrSyntax") (d:=Rows.laid_strconv_ErrSyntax) (List.mem_of_getElem? (i:=5) R);obtain rfl:=Option.some.inj (Wv.symm.trans h1);obtain rfl:=Option.some.inj (VY.symm.trans h2);exact a3v
 ·obtain⟨g,t,cs,a,p,h1,h2,b,c⟩:=Lib.laidMet.reads e (n:= "strconv.ErrRange") (d:=Rows.laid_strconv_ErrRange) (List.mem_of_getElem? (i:=4) R);obtain rfl:=Option.some.inj (VZ.symm.trans h1);obtain rfl:=Option.some.inj (Wc.symm.trans h2);exact a3v
 ·obtain⟨g,t,cs,a,p,h1,h2,b,c⟩:=Lib.laidMet.reads e (n:= "kingpost/timber.words") (d:= .agg TS) (List.mem_of_getElem? (i:=6) R);obtain rfl:=Option.some.inj (Uo.symm.trans h1);obtain rfl:=Option.some.inj (V8.symm.trans h2);intro j m;obtain⟨y,d,q,k,w⟩:=Lib.array_elem underlying129 c (1+j) D;rw[TX j m] at k;obtain⟨s,f,hx,_⟩:=DataW.trod_string underlying9 w;have l:(DataW.lit (.string (dH.getD j [])):DataW Unit)= .lit (.string s.data.toList):=(Option.some.inj k).trans (Prod.mk.inj hx).1;have x:dH.getD j []=s.data.toList:=by
   injection l with h;injection h
  rw[vI,Nat.mul_one] at f;rw[U.var?_cell Uo b (1+j),x,o6];have o:((cs.toList.drop (1+j)).take 1)[0]?=L (.string s):=by rw[f];rfl
  simpa[List.getElem?_take,List.getElem?_drop] using o
def RE{W:U}(b:W.ShapedOpen Xz):9<=W.heap.size:=by
 obtain⟨⟨z,t⟩,c⟩:=Option.isSome_iff_exists.1 (show((((begin Xz (λ_ _=>0) default).world.heap[8]?).bind Obj.row?).isSome=Y) from R);obtain⟨cs,a,_⟩:=b.1 8 z t (Yq R) c;have:=(XV.1 a).1;omega
def Mg(c:Type)(i:Yj×Z->c)(W:U)(base:Nat)(args:Array Z)(m y:List (DataW c))(Q:List MemPlace)
  (K:Rows.uptoBulkAll (m++y)<=1048576)(o:∀(j:Nat) t v,Tryz.f3.params[j]?=L t->args[j]?=L v->Z.okWide Xz W .any base t v)
  (E:DataW.Whole i Xz Tryz.f3.params.toList Rows.changeAppliesSpec.vars O W args.toList m y Q)(hL:laidMetH Xz Rows.changeAppliesUptoRow.laid W)(z:W.ShapedOpen Xz):
  XY Xz 3 args W λe s=>∃v,e= .returned v/\Rows.changeAppliesSpec.post i Xz Tryz.f3 O Y O O W args v s:=by
 have A:=E;obtain⟨p,q,B,N,rfl,P,af⟩:=E;have w:DataW.TrodAll i Xz W 0 (λ_=>Y) Y Tryz.f3.params.toList args.toList m p:=B;rw[params3] at w o;obtain⟨l,ad,C,ah,f,q0,ae,rfl,rfl,G,J⟩:=trodAll_cons w;obtain⟨v1,ag,d1,aj,d,q1,rfl,rfl,rfl,h1,r1⟩:=trodAll_cons J;obtain⟨rfl,rfl,rfl⟩:=trodAll_nil r1;obtain rfl:args=#[l,v1]:=by cases args;simp_all
 obtain⟨rfl,rfl⟩:=trodVars_none N;obtain⟨j,a,X,ab,ai⟩:=Nx (o 0 34 l H H) G;obtain⟨e,ga,gc,T,ac,V,M⟩:=Jp (o 1 50 v1 H H) h1;have S:ln j.rings.flatten<=4000000000:=by
  simp only[List.append_nil,Rows.uptoBulkAll] at K;omega
 have F:=wP W j a e ga gc ab ac S V M.2 (UL hL z) (RE z);rw[<-T,<-X] at F;clear B;have g:∀x∈f++(d++[])++[],x.block<W.heap.size:=λx hx=>A.lt x hx
 refine F.mono λr s ⟨hr,k⟩=> ?_
 subst hr;refine⟨_,H,?_⟩;have I:∀n:Nat->Bool,(∀x∈f++(d++[])++[],n x.block=Y)->DataW.TrodAll i Xz s 0 n Y Tryz.f3.params.toList #[l,v1].toList [C,d1] (f++(d++[])):=λn D=>by
  rw[params3];exact trodAll_cons_mk (WideElems.Trod_stays EK R (Yq R) G (λx hx=>k.same (g x (by simp[hx]))) (λx hx=>D x (by simp[hx])))
   (trodAll_cons_mk (WideElems.Trod_stays EK R (Yq R) h1 (λx hx=>k.same (g x (by simp[hx]))) (λx hx=>D x (by simp[hx]))) trodAll_mk0)
 have aa:∀x∈f++(d++[])++[],(λb=>YG (b<W.heap.size)) x.block=Y:=λx hx=>by simpa using g x hx
 refine⟨[C,d1],[],f++(d++[])++[],[],f++(d++[]),[],A,trodAll_cons_mk (shut_bool underlying4 _) trodAll_mk0,I _ aa,H,U.keptBut_mono (λx hx=>⟨hx,?_⟩) (k.frame (· ∈f++(d++[])++[])),λ_=> ?_⟩
 ·exact Or.inr (by simpa using hx)
 ·refine⟨ok_one R H (okWide_bool_mk underlying4 _),_,[],([]++(f++(d++[])))++[],⟨[]++(f++(d++[])),[],trodAll_append (I _ (λ_ _=>rfl)) (trodAll_cons_mk (shut_bool underlying4 _) trodAll_mk0),H,H,?_,?_⟩,?_⟩
  ·intro b off hx;have u:MemPlace.cell b off∈f++(d++[])++[]:=by simpa using hx
   rw[k.frozen (g _ u)];exact P b off u
  ·intro ha;cases ha
  ·intro x hx _;simpa using hx
theorem TR(os:Os)(a:Yj×Z->c):∃x,DataW.whole a Xz ((U.laidAll Xz os Rows.changeAppliesUptoRow.laid).forCall (λ_ _=>0) ⟨#[],#[.agg (aM cn cT),.agg (P oK fg)],[]⟩).memory Tryz.f3.params.toList Rows.changeAppliesSpec.vars O #[.agg (aM cn cT),.agg (P oK fg)].toList 8=L x/\Rows.uptoSmall c (x.1++x.2.1)=Y:=by
 have h:((DataW.whole a Xz ((U.laidAll Xz os Rows.changeAppliesUptoRow.laid).forCall (λ_ _=>0) ⟨#[],#[.agg (aM cn cT),.agg (P oK fg)],[]⟩).memory Tryz.f3.params.toList Rows.changeAppliesSpec.vars O #[.agg (aM cn cT),.agg (P oK fg)].toList 8).map λx=>Rows.uptoSmall c (x.1++x.2.1))=L Y:=R;exact Option.map_eq_some_iff.1 h
def lifted(os:Os)(f:os.Started)(c:Type)(a:Yj×Z->c)(l:Stop.Interp):
  ReturnsInHanded {} Tryz.checked os 3 .any ((Rows.OpenSpec.upto Rows.changeAppliesSpec).preRow a Xz Tryz.f3 Rows.changeAppliesUptoRow.domain O Rows.changeAppliesUptoRow.laid) (((Rows.OpenSpec.upto Rows.changeAppliesSpec).at l).post a Xz Tryz.f3 O Y O O):=by
 obtain⟨x,hx,d⟩:=TR os a;have b:Input.okWideB Xz ((U.laidAll Xz os Rows.changeAppliesUptoRow.laid).forCall (λ_ _=>0) ⟨#[],#[.agg (aM cn cT),.agg (P oK fg)],[]⟩) 3 ⟨#[],#[.agg (aM cn cT),.agg (P oK fg)],[]⟩=Y:=R;refine returnsInHanded_of_row (C:=Tryz.checked) (s:=Rows.OpenSpec.upto Rows.changeAppliesSpec) own f R func3
  ⟨U.laidAll Xz os Rows.changeAppliesUptoRow.laid,λ_ _=>0,⟨#[],#[.agg (aM cn cT),.agg (P oK fg)],[]⟩,U.laidAll_os _ _ _,U.shaped_of_ZipB R R,(Input.okWide_of_okWideB (base:=0) b).1,(Input.okWide_of_okWideB b).2,
   OpenSpec.preRow_of_cond 8 hx rfl (λk hk=>by cases hk;exact d) R (by rw[MakeChecks.laidMetH_plain _ _ _ R];exact laidMet_laidAll _ R R),by
   simp only[Assume.holds];exact⟨YL,YL,λ_=>Modest.zero,YL,YL⟩⟩ ?_
 intro W base args o g j n e _ hk _ m i _;exact Mg c a W base args o g j (Yq (hk _ H)) n e m i
def facts:joinedFacts Tryz.pinned.checked.prog 3 Tryz.f3 (Rows.OpenSpec.upto Rows.changeAppliesSpec).bare Rows.changeAppliesUptoRow=Y:=
 (Bool.and_eq_true_iff.2 ⟨(Bool.and_eq_true_iff.2 ⟨(Bool.and_eq_true_iff.2 ⟨(Bool.and_eq_true_iff.2 ⟨(Bool.and_eq_true_iff.2 ⟨(Bool.and_eq_true_iff.2 ⟨(Bool.and_eq_true_iff.2 ⟨(Bool.and_eq_true_iff.2 ⟨(Bool.and_eq_true_iff.2 ⟨(Bool.and_eq_true_iff.2 ⟨(Bool.and_eq_true_iff.2 ⟨(Bool.and_eq_true_iff.2 ⟨(Bool.and_eq_true_iff.2 ⟨(Bool.and_eq_true_iff.2 ⟨(Bool.and_eq_true_iff.2 ⟨(Bool.and_eq_true_iff.2 ⟨(Bool.and_eq_true_iff.2 ⟨(Bool.and_eq_true_iff.2 ⟨(Bool.and_eq_true_iff.2 ⟨(Bool.and_eq_true_iff.2 ⟨(Bool.and_eq_true_iff.2 ⟨(Bool.and_eq_true_iff.2 ⟨(Bool.and_eq_true_iff.2 ⟨(Bool.and_eq_true_iff.2 ⟨(Bool.and_eq_true_iff.2 ⟨(Bool.and_eq_true_iff.2 ⟨(Bool.and_eq_true_iff.2 ⟨(Bool.and_eq_true_iff.2 ⟨(Bool.and_eq_true_iff.2 ⟨(Bool.and_eq_true_iff.2 ⟨(Bool.and_eq_true_iff.2 ⟨V0,Wm⟩),WC⟩),WG⟩),Wo⟩),WQ⟩),Wd⟩),Wi⟩),Wz⟩),Wy⟩),UO⟩),UT⟩),Vv⟩),UE⟩),Uu⟩),Vh⟩),Ve⟩),VM⟩),U1⟩),Vx⟩),UZ⟩),Ut⟩),VO⟩),VJ⟩),Us⟩),VL⟩),UG⟩),UQ⟩),Vs⟩),Ur⟩),UB⟩),Vp⟩)
def said:Rows.ChangeAppliesUptoSaid:=
 OpenClaim.holds_of_cond 3 Tryz.f3 rfl rfl rfl rfl rfl rfl rfl ⟨rfl,rfl,rfl,rfl,rfl⟩ rfl rfl rfl rfl rfl R func3 facts
  (Yq R) (by unfold Func.isWrapper;first|(rw[XT Zz];kernel_rfl)|(rw[XQ Zz];exact⟨H,H⟩))
  (λos b c a _ d=>by rw[OpenClaim.pre_eq_preRow];exact lifted os b c a d)
def TO(f:FuncId)(fn:Func)(d:Tryz.pinned.checked.prog.funcNamed "kingpost/kingpostlaw58.ChangeApplies" =L f)(c:Tryz.pinned.checked.prog.funcs[f]?=L fn):
  Y=Tryz.pinned.checked.prog.looks []/\∀(j:Nat) t,fn.params[j]?=L t->Tryz.pinned.checked.prog.wantsStandIn t=O:=by
 obtain rfl:f=3:=Option.some.inj ((show Xz.funcNamed "kingpost/kingpostlaw58.ChangeApplies" =L 3 by kernel_rfl).symm.trans d) |>.symm;obtain rfl:fn=Tryz.f3:=(Option.some.inj (func3.symm.trans c)).symm;refine⟨R,λj t a=> ?_⟩;rw[params3] at a;have b:t=34\/t=50:=by simpa using Array.mem_of_getElem? a
 rcases b with rfl|rfl
 ·exact(show Xz.wantsStandIn 34=O by kernel_rfl)
 ·exact(show Xz.wantsStandIn 50=O by kernel_rfl)
def changeAppliesUpto_card:Rows.ChangeAppliesUptoCardSaid:=
 Claim7.holds_tied_plain_at .later [] _ _ _ _ said (λ_ h=>YM) R (λ_ h=>YM) changeAppliesUpto_row_tie rfl ⟨rfl,rfl⟩ R rfl TO R
end
end Go.Proofs.YtnepbjnlmkppmaaGreatDoor

