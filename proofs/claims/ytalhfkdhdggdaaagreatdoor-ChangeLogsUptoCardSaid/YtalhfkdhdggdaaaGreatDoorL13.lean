/- ChangeLogs of kingpostlaw58 (P58.1): State, Do, Undo, Redo and Replay return the results of the reference implementation for any log (up to 6 edits), edit, number and string (up to 200 bytes, for Parse); inputs of bulk at most 1048576 (the Upto form of the card). -/
import Derived.Test.YtalhfkdhdggdaaaGreatDoorCards
import Derived.Test.YtalhfkdhdggdaaaGreatDoorTie
import Derived.ProofKit
import Derived.Deep.DeepHandedRow
import Derived.Lib.LaidU8
import Derived.Lay
import Derived.SevenTiedAt
import Derived.Test.YtalhfkdhdggdaaaGreatDoorL11
import Derived.Test.YtalhfkdhdggdaaaGreatDoorL12
set_option linter.unusedVariables false
set_option linter.unusedSimpArgs false
set_option linter.defProp false
set_option maxHeartbeats 8000000
set_option maxRecDepth 100000
open Go.RowKit Go.Proofs.Tryz
open And renaming intro→Ci
open Array renaming replicate→E7
open Bool renaming false→AM,true→AL
open ByteArray renaming size→OY
open Decidable renaming decide→AQ
open Go renaming World→V,Value→AN,Calls→AZ,TypeId→Bb,Addr→An,maxLen→BM,undef→Ba,Ending→CI,wpList→CQ,MemPlace→Dw,KeepsOthers→GF,MapEntry→FG,DataW→D6,Operand→F0,Act→BV
open Go.Act renaming put→G7
open Go.Builtin renaming zeroCells→Is,append_→JN
open Go.DataW renaming trod→ET
open Go.Ending renaming returned→Ac
open Go.Fence renaming wide→Ha
open Go.IntKind renaming i64→G
open Go.Lib renaming hasPrefix→DH,cut→Bj,compareInt→Dv,itoa→CY,decDigits→ES,split→Da,byteCells→IV
open Go.MapKept renaming IsKey→MV
open Go.Proofs.Tryz renaming prog→AO,underlying54→Cc,underlying34→DV,underlying25→FD,underlying3→GQ
open Go.Region renaming wanted→Ir
open Go.RowKit renaming intOf→B8,Below→At
open Go.Value renaming agg→Ea,oneCell'→Ks,slice→FO,ownBlock→Hv,int→Gr,slice→AK,string→AT,bool→AU,pointer→Ap,int→M,agg→AW,tuple→BO
open Go.World renaming setCell→Di,cell?→Dx,setRow→F8,frozen?→Hb
open List renaming replicate→F7,range→G8,getD→Gs,length→ln
open Nat renaming gcd→DO,reduceAdd→Hw
open Option renaming none→O,some→Q,getD→FF
open Or renaming inl→Cf
open UInt8 renaming ofNat→GR
open Go.Proofs.YtalhfkdhdggdaaaGreatDoor
variable{cs:List AN}{p:List Dw}{base a:Nat}{name:String}{H:Type}{w W:V}{t:Bb}
namespace Go.Proofs.YtalhfkdhdggdaaaGreatDoor
section
open Go.ChangeShapes Go.WideShapes Go.ChangeAt Kp
def Ag:ownKnob AO.godebug=O:=U
def cQ:laidOutB AO=AL:=U
theorem iface_of_trod{b:Bb×AN->H}{P:Program}{f:Nat->Bool}{d:D6 H}
  {e:_}(c:P.underlying t=Q (.interface e))(h:ET b P w base f AM a t cs=Q (.iface name d,p)):∃u v,cs=[.iface u v]:=by
 cases a with
 |zero=>simp[ET] at h
 |succ n=>
  unfold ET at h;rw[c] at h;split at h<;>simp_all
def b4Z:AO.globalNamed "internal/strconv.uint64pow10" =Q 6:=U
def b5A:AO.globalNamed "strconv.ErrSyntax" =Q 4:=U
def b5j:AO.globalNamed "strconv.ErrRange" =Q 5:=U
def xS:AO.globalNamed "kingpost/timber.words" =Q 0:=U
def b4V:(AO.globals[4]?).map (·.type)=Q 185:=U
def b5g:(AO.globals[5]?).map (·.type)=Q 185:=U
def b4j:(AO.globals[6]?).map (·.type)=Q 356:=U
def b4b:(AO.globals[0]?).map (·.type)=Q 151:=U
def b2x:AO.cellsOf 322=1:=U
def b2u:AO.cellsOf 356=20:=U
def lE:List (D6 Unit):= .lit (.string [])::Dy.map λs=> .lit (.string s)
def b2X(j:Nat)(b:j<12):lE[1+j]?=Q (.lit (.string (Dy.getD j []))):=by
 have a:j<ln Dy:=b;unfold lE;rw[Np,List.getElem?_cons_succ,Ku,Bv a];simp[Gs,Bv a]
theorem b3U(e:laidMetH AO Rows.changeLogsUptoRow.laid W)(m:W.ShapedOpen AO):Gl W:=by
 rw[MakeChecks.laidMetH_plain _ _ _ U] at e;refine⟨?_,?_,?_,?_,?_⟩
 .have⟨g,t,cs,a,p,h1,h2,b,c⟩:=Lib.laidMet.reads e (n:= "internal/strconv.uint64pow10") (d:=Lib.tabData .u64 Lib.pow10Tab) (SH (i:=2) U);obtain rfl:=Kr (b4Z.symm.trans h1);obtain rfl:=Kr (b4j.symm.trans h2);have:=Lib.cells_of_tab underlying356 underlying322 b2x b2u c;show W.var? AO _=Q _;rw[b,<-this]
 .exact Go.Proofs.cell_of_shapedOpen_int (zero:=#[.int .i64 0]) (t:=3) m (Jh U) U F U U GQ
 .have⟨g,t,cs,a,p,h1,h2,b,c⟩:=Lib.laidMet.reads e (n:= "strconv.ErrSyntax") (d:=Rows.laid_strconv_ErrSyntax) (SH (i:=5) U);obtain rfl:=Kr (b5A.symm.trans h1);obtain rfl:=Kr (b4V.symm.trans h2);exact a0C
 .have⟨g,t,cs,a,p,h1,h2,b,c⟩:=Lib.laidMet.reads e (n:= "strconv.ErrRange") (d:=Rows.laid_strconv_ErrRange) (SH (i:=4) U);obtain rfl:=Kr (b5j.symm.trans h1);obtain rfl:=Kr (b5g.symm.trans h2);exact a0C
 have⟨g,t,cs,a,p,h1,h2,b,c⟩:=Lib.laidMet.reads e (n:= "kingpost/timber.words") (d:= .agg lE) (SH (i:=6) U);obtain rfl:=Kr (xS.symm.trans h1);obtain rfl:=Kr (b4b.symm.trans h2);intro j r;have⟨y,d,q,k,x⟩:=Lib.array_elem underlying151 c (1+j) D;rw[b2X j r] at k;have⟨s,f,hx,_⟩:=lX underlying9 x;have o:(D6.lit (.string (Dy.getD j [])):D6 Unit)= .lit (.string s.data.toList):=(Kr k).trans (en hx).1;have w:Dy.getD j []=s.data.toList:=by
  injection o with h;injection h
 rw[fe,SJ] at f;rw[World.var?_cell xS b (1+j),w,Sy];have l:((cs.toList.drop (1+j)).take 1)[0]?=Q (.string s):=by rw[f];rfl
 simpa[Uk,Z8] using l
theorem b1J(a:W.ShapedOpen AO):9<=W.1.size:=by
 have⟨⟨z,t⟩,c⟩:=Option.isSome_iff_exists.1 (show((((begin AO (λ_ _=>0) default).world.1[8]?).bind Obj.row?).isSome=AL) from U);have⟨cs,b,_⟩:=a.1 8 z t (Jh U) c;have:=(Ee.1 b).1;omega
def a9G(H:Type)(n:Bb×AN->H)(W:V)(base:Nat)(args:Array AN)(u C:List (D6 H))(T:List Dw)
  (aj:Rows.uptoBulkAll (u++C)<=1048576)(m:∀(j:Nat) t v,Tryz.f3.params[j]?=Q t->args[j]?=Q v->Value.okWide AO W .any base t v)
  (L:D6.Whole n AO Tryz.f3.params.toList Rows.changeLogsSpec.vars AM W args.toList u C T)(Z:laidMetH AO Rows.changeLogsUptoRow.laid W)(K:W.ShapedOpen AO):
  AZ AO 3 args W λe s=>∃v,e= .returned v/\Rows.changeLogsSpec.post n AO Tryz.f3 AM AL AM AM W args v s:=by
 have N:=L;obtain⟨p,q,J,hV,rfl,ab,aq⟩:=L;have I:DataW.TrodAll n AO W 0 (λ_=>AL) AL Tryz.f3.params.toList args.toList u p:=J;rw[params3] at I m;obtain⟨y,ar,A,ak,c,q0,ao,rfl,rfl,D,r0⟩:=trodAll_cons I;obtain⟨v1,au,d1,al,d,q1,rfl,rfl,rfl,h1,r1⟩:=trodAll_cons r0;obtain⟨v2,av,d2,am,f,q2,rfl,rfl,rfl,h2,r2⟩:=trodAll_cons r1;obtain⟨z,aw,B,an,g,q3,rfl,rfl,rfl,E,r3⟩:=trodAll_cons r2;obtain⟨rfl,rfl,rfl⟩:=trodAll_nil r3;obtain rfl:args=#[y,v1,v2,z]:=by cases args;simp_all
 obtain⟨rfl,rfl⟩:=trodVars_none hV;have⟨l,a,hl,af,ap,ae⟩:=a7j (m 0 38 y F F) D;have⟨e,X,Y,he,ac,_,ad⟩:=a6m (m 1 54 v1 F F) h1;have⟨n2,ag,_,_,_⟩:=open_int GQ (m 2 3 v2 F F) h2;have⟨s3,ai,_,_,_⟩:=Go.ChangeMaps.open_string underlying9 (m 3 9 z F F) E;have aa:ln l.BI.BK.flatten<=4000000000:=by
  simp only[SK,Rows.uptoBulkAll] at aj;omega
 have S:=a3a W l a e X Y n2 s3.data.toList af ac aa ae ad.2 (b3U Z K) (b1J K);rw[Sy,<-he,<-hl,<-ag,<-ai] at S;clear J;have k:∀x∈c++(d++(f++(g++[])))++[],x.block<W.1.size:=λx hx=>N.lt x hx
 refine S.mono λr s ⟨hr,i⟩=> ?_
 subst hr;refine⟨_,F,?_⟩;have R:∀w:Nat->Bool,(∀x∈c++(d++(f++(g++[])))++[],w x.block=AL)->DataW.TrodAll n AO s 0 w AL Tryz.f3.params.toList #[y,v1,v2,z].toList [A,d1,d2,B] (c++(d++(f++(g++[])))):=λw o=>by
  rw[params3];exact trodAll_cons_mk (dy cQ U (Jh U) D (λx hx=>i.same (k x (by simp[hx]))) (λx hx=>o x (by simp[hx]))) (trodAll_cons_mk (dy cQ U (Jh U) h1 (λx hx=>i.same (k x (by simp[hx]))) (λx hx=>o x (by simp[hx]))) (trodAll_cons_mk (dy cQ U (Jh U) h2 (λx hx=>i.same (k x (by simp[hx]))) (λx hx=>o x (by simp[hx]))) (trodAll_cons_mk (dy cQ U (Jh U) E (λx hx=>i.same (k x (by simp[hx]))) (λx hx=>o x (by simp[hx]))) trodAll_mk0)))
 have ah:∀x∈c++(d++(f++(g++[])))++[],(λb=>AQ (b<W.1.size)) x.block=AL:=λx hx=>by simpa using k x hx
 refine⟨[A,d1,d2,B],[],c++(d++(f++(g++[])))++[],[],c++(d++(f++(g++[]))),[],N,trodAll_cons_mk (shut_bool underlying4 _) trodAll_mk0,R _ ah,F,World.keptBut_mono (λx hx=>⟨hx,?_⟩) (i.frame (· ∈c++(d++(f++(g++[])))++[])),λ_=> ?_⟩
 .exact Or.inr (by simpa using hx)
 refine⟨ok_one U F (okWide_bool_mk underlying4 _),_,[],([]++(c++(d++(f++(g++[])))))++[],⟨[]++(c++(d++(f++(g++[])))),[],trodAll_append (R _ (λ_ _=>rfl)) (trodAll_cons_mk (shut_bool underlying4 _) trodAll_mk0),F,F,?_,?_⟩,?_⟩
 .intro b off hx;have P:Dw.cell b off∈c++(d++(f++(g++[])))++[]:=by simpa using hx
  rw[i.frozen (k _ P)];exact ab b off P
 .intro ha;cases ha
 intro x hx _;simpa using hx
theorem b3l(os:Os)(a:Bb×AN->H):∃x,DataW.whole a AO ((V.laidAll AO os Rows.changeLogsUptoRow.laid).forCall (λ_ _=>0) ⟨#[],#[.agg (BQ IM IJ),.agg (Ah BZ Dk),.int .i64 0,.string ⟨#[]⟩],[]⟩).memory Tryz.f3.params.toList Rows.changeLogsSpec.vars AM #[.agg (BQ IM IJ),.agg (Ah BZ Dk),.int .i64 0,.string ⟨#[]⟩].toList 8=Q x/\Rows.uptoSmall H (x.1++x.2.1)=AL:=by
 have h:((DataW.whole a AO ((V.laidAll AO os Rows.changeLogsUptoRow.laid).forCall (λ_ _=>0) ⟨#[],#[.agg (BQ IM IJ),.agg (Ah BZ Dk),.int .i64 0,.string ⟨#[]⟩],[]⟩).memory Tryz.f3.params.toList Rows.changeLogsSpec.vars AM #[.agg (BQ IM IJ),.agg (Ah BZ Dk),.int .i64 0,.string ⟨#[]⟩].toList 8).map λx=>Rows.uptoSmall H (x.1++x.2.1))=Q AL:=U;exact mD.1 h
def lifted(os:Os)(n:os.Started)(H:Type)(a:Bb×AN->H)(c:Stop.Interp):
  ReturnsInHanded {} Tryz.checked os 3 .any ((Rows.OpenSpec.upto Rows.changeLogsSpec).preRow a AO Tryz.f3 Rows.changeLogsUptoRow.domain AM Rows.changeLogsUptoRow.laid) (((Rows.OpenSpec.upto Rows.changeLogsSpec).at c).post a AO Tryz.f3 AM AL AM AM):=by
 have⟨x,hx,m⟩:=b3l os a;have b:Input.okWideB AO ((V.laidAll AO os Rows.changeLogsUptoRow.laid).forCall (λ_ _=>0) ⟨#[],#[.agg (BQ IM IJ),.agg (Ah BZ Dk),.int .i64 0,.string ⟨#[]⟩],[]⟩) 3 ⟨#[],#[.agg (BQ IM IJ),.agg (Ah BZ Dk),.int .i64 0,.string ⟨#[]⟩],[]⟩=AL:=U;refine returnsInHanded_of_row (C:=Tryz.checked) (s:=Rows.OpenSpec.upto Rows.changeLogsSpec) Ag n U func3
  ⟨V.laidAll AO os Rows.changeLogsUptoRow.laid,λ_ _=>0,⟨#[],#[.agg (BQ IM IJ),.agg (Ah BZ Dk),.int .i64 0,.string ⟨#[]⟩],[]⟩,V.laidAll_os _ _ _,V.shaped_of_ZipB U U,(Input.okWide_of_okWideB (base:=0) b).1,(Input.okWide_of_okWideB b).2,
   OpenSpec.preRow_of_cond 8 hx rfl (λk hk=>by cases hk;exact m) U (by rw[MakeChecks.laidMetH_plain _ _ _ U];exact laidMet_laidAll _ U U),by
   simp only[Assume.holds];exact⟨AV,AV,λ_=>Modest.zero,AV,AV⟩⟩ ?_
 intro W base args e f d l j _ hk _ g i _;exact a9G H a W base args e f d (Jh (hk _ F)) l j g i
def GN{a b:Bool}(h:a=AL)(k:b=AL):(a&&b)=AL:=Bool.and_eq_true_iff.2 ⟨h,k⟩
def facts:joinedFacts Tryz.pinned.checked.prog 3 Tryz.f3 (Rows.OpenSpec.upto Rows.changeLogsSpec).bare Rows.changeLogsUptoRow=AL:=
 (GN (GN (GN (GN (GN (GN (GN (GN (GN (GN (GN (GN (GN (GN (GN (GN (GN (GN (GN (GN (GN (GN (GN (GN (GN (GN (GN (GN (GN (GN (GN b4X b4c) b4h) b4n) b4a) b4Y) b4p) b4z) b4o) b4i) b3t) b3s) b4M) b4T) b4S) b4L) b4F) b4y) b4H) b4x) b3r) b4N) b4K) b3c) b3S) b3Z) b3Y) b43) b3w) b46) b44) b47)
def said:Rows.ChangeLogsUptoSaid:=
 OpenClaim.holds_of_cond 3 Tryz.f3 rfl rfl rfl rfl rfl rfl rfl ⟨rfl,rfl,rfl,rfl,rfl⟩ rfl rfl rfl rfl rfl U func3 facts
  (Jh U) (by unfold Func.isWrapper;first|(rw[Aj GG];kernel_rfl)|(rw[Af GG];exact⟨F,F⟩))
  (λos c H b _ a=>by rw[OpenClaim.pre_eq_preRow];exact lifted os c H b a)
def b3p(f:FuncId)(fn:Func)(b:Tryz.pinned.checked.prog.funcNamed "kingpost/kingpostlaw58.ChangeLogs" =Q f)(c:Tryz.pinned.checked.prog.funcs[f]?=Q fn):
  AL=Tryz.pinned.checked.prog.looks []/\∀(j:Nat) t,fn.params[j]?=Q t->Tryz.pinned.checked.prog.wantsStandIn t=AM:=by
 obtain rfl:f=3:=Kr ((show AO.funcNamed "kingpost/kingpostlaw58.ChangeLogs" =Q 3 by kernel_rfl).symm.trans b) |>.symm;obtain rfl:fn=Tryz.f3:=(Kr (func3.symm.trans c)).symm;refine⟨U,λj t a=> ?_⟩;rw[params3] at a;have hm:t=38\/t=54\/t=3\/t=9:=by simpa using Array.mem_of_getElem? a
 rcases hm with rfl|rfl|rfl|rfl
 .exact(show AO.wantsStandIn 38=AM by kernel_rfl)
 .exact(show AO.wantsStandIn 54=AM by kernel_rfl)
 .exact(show AO.wantsStandIn 3=AM by kernel_rfl)
 exact(show AO.wantsStandIn 9=AM by kernel_rfl)
def b3b:OpenClaim.wfByText (Rows.OpenSpec.upto Rows.changeLogsSpec) Rows.changeLogsUptoRow=AL:=U
theorem qhF:Tryz.pinned.checked.prog.funcs.any Func.goes=false:=by kernel_rfl
theorem qno{P:Program}(h:P.funcs.any Func.goes=false)(f:FuncId):P.goes f=false:=by
 have q:∀g:FuncId,(P.funcs[g]?).any Func.goes=false:=fun g=>by
  cases e:P.funcs[g]? with
  |none=>rfl
  |some fn=>simp only[Option.any_some];rw[Array.any_eq_false] at h;obtain⟨i,hi⟩:=Array.getElem?_eq_some_iff.1 e;have:=h g i;rw[hi] at this;simpa using this
 unfold Program.goes;simp only[q,h,Bool.and_false,Bool.or_false];simp
theorem b4u:false=Rows.changeLogsUptoRow.goesBy Tryz.pinned.checked.prog:=by
 unfold OpenClaim.goesBy Program.goesAt Program.goesFrom;rw[show Tryz.pinned.checked.prog.goes=fun _=>false from funext (qno qhF)];simp
 try(split<;>simp)
def changeLogsUpto_card:Rows.ChangeLogsUptoCardSaid:=
 Claim7.holds_tied_plain_at .later [] _ _ _ _ said (λ_ h=>Aq) b3b (λ_ h=>Aq) changeLogsUpto_row_tie rfl ⟨rfl,rfl⟩ U rfl b3p b4u
end
end Go.Proofs.YtalhfkdhdggdaaaGreatDoor
