/- ChangeUndone of kingpostlaw58: part 17 of its proof (merged and shortened by program). -/
import Derived.Deep.Slices
import Derived.Deep.Fields
import Derived.OpenShut
import Derived.ChangeSame
import Derived.WideShapes
import Derived.Laws.ResultCell
import Derived.Test.YtmliacdegmklaaaGreatDoorN11
import Derived.Test.YtmliacdegmklaaaGreatDoorN12
import Derived.Test.YtmliacdegmklaaaGreatDoorN14
set_option linter.unusedVariables false
set_option linter.unusedSimpArgs false
set_option linter.defProp false
set_option maxHeartbeats 8000000
set_option maxRecDepth 100000
open Go.RowKit Go.Shelf Go.Proofs.Tryz
open Array renaming getElem?_eq_some_iff→VF
open Bool renaming false→Vw,true→VD
open Go renaming World→Vt,Value→Vy,undef→VB,wpOp_step→VE,Calls→VJ,maxLen→VP,TypeId→VR,Addr→VT
open Go.AllReady renaming cons→VO,nil→VU
open Go.Ending renaming returned→V0
open Go.IntKind renaming i64→VH
open Go.IntWalk renaming i64_in→VQ
open Go.Lib renaming hid→Vs
open Go.RowKit renaming intOf→VN,Below→VS
open Go.Value renaming slice→VV,string→VW,bool→VX,pointer→VY,int→VZ,agg→V5,tuple→V6
open Go.World renaming alloc_heap_new→VG,size_alloc→VK
open List renaming getD_eq_getElem?_getD→Vv,getElem?_eq_getElem→VA,length_map→VC,length_append→VM,length→ln
open Nat renaming le_refl→Vu,le_trans→VI,mul_comm→VL
open Option renaming none→Vx,some→Vz
open Go.Proofs.YtmliacdegmklaaaGreatDoor
variable{s:Bool}{b z a:ByteArray}{n k f:Nat}{ga gb:Option VT}{α:Type}{c c0 c1 c2 c3 c4:Vy}
namespace Go.Proofs.YtmliacdegmklaaaGreatDoor
section
open Kp Go.ChangeShapes Go.WideShapes Go.Deep
def aN:prog.cellsOf 3=1:=V8
def AK:prog.cellsOf 4=1:=V8
def lO:prog.cellsOf 55=1:=V8
def uU:prog.cellsOf 9=1:=V8
def IK:prog.cellsOf 60=1:=V8
def xM:prog.cellsOf 54=7:=V8
def xX:prog.cellsOf 57=5:=V8
def yd:prog.cellsOf 59=3:=V8
def yp:prog.cellsOf 64=3:=V8
def wY:prog.cellsOf 66=5:=V8
def xQ:prog.cellsOf 30=4:=V8
def Hl:prog.cellsOf 84=2:=V8
def yb:prog.cellsOf 62=6:=V8
def xg:prog.cellsOf 68=37:=V8
section
variable {H : Type} {enc : VR × Vy → H} {w : Vt} {base : Nat} {sp : Nat → Bool} {held : Bool}
def OZ{n:Int}(h:(Lit.int .i64 n).wf=VD):bj n:=by
 simp only[Lit.wf,Bool.and_eq_true,decide_eq_true_eq] at h;exact h
theorem cT{x:DataW H×List MemPlace}(h:DataW.trod enc prog w base sp held n 3 [c]=Vz x):∃k,c= .int .i64 k/\bj k:=by
 obtain⟨k,hc,_,hw⟩:=DataW.trod_int underlying3 h;exact⟨k,by simpa using hc,OZ hw⟩
theorem Ql{x:DataW H×List MemPlace}(h:DataW.trod enc prog w base sp held n 4 [c]=Vz x):∃k,c= .bool k:=by
 obtain⟨k,hc,_⟩:=DataW.trod_bool underlying4 h;exact⟨k,by simpa using hc⟩
theorem Dc{x:DataW H×List MemPlace}(h:DataW.trod enc prog w base sp held n 55 [c]=Vz x):∃k:By,c= .string (tx k):=by
 obtain⟨k,hc,_⟩:=DataW.trod_string underlying55 h;exact⟨k.data.toList,by rw[oT];simpa using hc⟩
theorem QF{x:DataW H×List MemPlace}(h:DataW.trod enc prog w base sp held n 9 [c]=Vz x):∃k:By,c= .string (tx k):=by
 obtain⟨k,hc,_⟩:=DataW.trod_string underlying9 h;exact⟨k.data.toList,by rw[oT];simpa using hc⟩
theorem N3{xs:List α}{n i:Nat}(h:ln xs=n)(hi:i<n):∃y,xs[i]?=Vz y:=⟨_,VA V7⟩
def gQ{t:VR}{m k:Nat}{fs:Array Field}{f:Field}{l:List Vy}{xs:List (DataW H×List MemPlace)}(hlen:ln xs=fs.size)
  (hg:∀(i:Nat) (f:Field),fs[i]?=Vz f->DataW.trod enc prog w base sp held m f.type ((l.drop f.offset).take (prog.cellsOf f.type))=xs[i]?)(i:Nat)(hk:prog.cellsOf t=k)(hf:fs[i]?=Vz f)(ht:f.type=t):
  ∃y,xs[i]?=Vz y/\DataW.trod enc prog w base sp held m t ((l.drop f.offset).take k)=Vz y:=by
 obtain⟨y,hy⟩:=N3 hlen (VF.1 hf).1;subst ht hk;exact⟨y,hy,(hg i f hf).trans hy⟩
theorem No{x:DataW H×List MemPlace}(h:DataW.trod enc prog w base sp held n 84 [c0,c1]=Vz x):∃(gf:Int) (gt:Int),c0= .int .i64 gf/\bj gf/\c1= .int .i64 gt/\bj gt:=by
 obtain⟨xs,m,_,_,_,hlen,hg⟩:=DataW.trod_struct underlying84 h;obtain⟨y0,hy0,g0⟩:=gQ hlen hg 0 aN rfl rfl;obtain⟨a0,e0,b0⟩:=cT g0;obtain⟨y1,hy1,g1⟩:=gQ hlen hg 1 aN rfl rfl;obtain⟨a1,e1,b1⟩:=cT g1;exact⟨a0,a1,e0,b0,e1,b1⟩
def addr_add(b o k:Nat):(⟨b,o,Vx⟩:VT).add k=⟨b,o+k,Vx⟩:=by unfold VT.add;split <;>simp_all
theorem Jb{x:DataW H×List MemPlace}(h:DataW.trod enc prog w base sp held n 60 [c]=Vz x):
  ∃(ga:Option VT) (gc:Nat) (gl:List (Int×Int)),c= .slice ga (ln gl) gc/\bz w w.heap.size ga gc gl/\∀p∈gl,bj p.1/\bj p.2:=by
 rcases open_slice underlying60 h with⟨hc,_⟩|⟨a,len,cap,m,n',D,Pl,hc,hb,hl,hm,hmm,hx,hi⟩
 ·obtain rfl:c= .slice Vx 0 0:=by simpa using hc
  exact⟨Vx,0,[],rfl,lU _ _,λp hp=>by cases hp⟩
 ·obtain rfl:c= .slice (Vz a) len cap:=by simpa using hc
  have hml:len<=m:=by rw[hmm];split <;>omega
  have each:∀i,i<len->∃p:Int×Int,w.cell? (a.add (i*2))=Vz (.int .i64 p.1)/\w.cell? ((a.add (i*2)).add 1)=Vz (.int .i64 p.2)/\bj p.1/\bj p.2:=by
   intro i hil;obtain⟨cs',hcs,ht⟩:=hi i V7;rw[Hl] at hcs;obtain⟨_,hlen,hat⟩:=Vt.cells?_some hcs
   match cs',hlen with
   |[u0,u1],_=>
    obtain⟨p,q,rfl,hp,rfl,hq⟩:=No ht;have h0:=hat 0 V7;have h1:=hat 1 V7;have e0:(a.add (i*2)).add 0=a.add (i*2):=by unfold VT.add;simp
    rw[e0] at h0;exact⟨(p,q),h0,h1,hp,hq⟩
  have hch:∃f:Nat->Int×Int,∀i,i<len->w.cell? (a.add (i*2))=Vz (.int .i64 (f i).1)/\w.cell? ((a.add (i*2)).add 1)=Vz (.int .i64 (f i).2)/\bj (f i).1/\bj (f i).2:=
   ⟨λi=>if h:i<len then Classical.choose (each i h) else(0,0),λi hil=>by
    have:=Classical.choose_spec (each i hil);simpa only[dif_pos hil] using this⟩
  obtain⟨f,hf⟩:=hch;refine⟨Vz a,cap,(List.range len).map f,Wa,⟨XI,hm,λh0=> ?_⟩,?_⟩
  ·have h0':0<len:=by simpa using h0
   obtain⟨b,o,s⟩:=a;cases s with
   |some k=>
    have:=(hf 0 h0').1;simp only[Nat.zero_mul,VT.add,if_true] at this;simp only[World.cell?] at this;split at this<;>simp at this
   |none=>
    refine⟨b,o,rfl,?_,λj hj=> ?_⟩
    ·have:=(hf 0 h0').1;rw[addr_add] at this;exact Vt.block_lt_of_cell? w _ this
    ·have hj':j<len:=by simpa using hj
     obtain⟨q1,q2,_⟩:=hf j hj';rw[addr_add] at q1 q2;rw[addr_add] at q2;rw[VL] at q1 q2;simp only[List.getElem_map,List.getElem_range];exact⟨q1,q2⟩
  ·intro p hp;obtain⟨i,hir,rfl⟩:=List.mem_map.1 hp;exact(hf i (by simpa using hir)).2.2
theorem xT{c0 c1 c2 c3 c4 c5 c6:Vy}{x:DataW H×List MemPlace}(h:DataW.trod enc prog w base sp held n 54 [c0,c1,c2,c3,c4,c5,c6]=Vz x):∃(sx:Int) (sy:Int) (srise:Int) (srun:Int) (gable:Bool) (splate:Int) (sover:Int),c0= .int .i64 sx/\bj sx/\c1= .int .i64 sy/\bj sy/\c2= .int .i64 srise/\bj srise/\c3= .int .i64 srun/\bj srun/\c4= .bool gable/\c5= .int .i64 splate/\bj splate/\c6= .int .i64 sover/\bj sover:=by
 obtain⟨xs,m,_,_,_,hlen,hg⟩:=DataW.trod_struct underlying54 h;obtain⟨y0,hy0,g0⟩:=gQ hlen hg 0 aN rfl rfl;obtain⟨a0,e0,b0⟩:=cT g0;obtain⟨y1,hy1,g1⟩:=gQ hlen hg 1 aN rfl rfl;obtain⟨a1,e1,b1⟩:=cT g1;obtain⟨y2,hy2,g2⟩:=gQ hlen hg 2 aN rfl rfl;obtain⟨a2,e2,b2⟩:=cT g2;obtain⟨y3,hy3,g3⟩:=gQ hlen hg 3 aN rfl rfl;obtain⟨a3,e3,b3⟩:=cT g3;obtain⟨y4,hy4,g4⟩:=gQ hlen hg 4 AK rfl rfl;obtain⟨a4,e4⟩:=Ql g4;obtain⟨y5,hy5,g5⟩:=gQ hlen hg 5 aN rfl rfl;obtain⟨a5,e5,b5⟩:=cT g5;obtain⟨y6,hy6,g6⟩:=gQ hlen hg 6 aN rfl rfl;obtain⟨a6,e6,b6⟩:=cT g6;exact⟨a0,a1,a2,a3,a4,a5,a6,e0,b0,e1,b1,e2,b2,e3,b3,e4,e5,b5,e6,b6⟩
theorem qy{x:DataW H×List MemPlace}(h:DataW.trod enc prog w base sp held n 57 [c0,c1,c2,c3,c4]=Vz x):∃(oside:Int) (oleft:By) (oright:By) (olow:By) (ohigh:By),c0= .int .i64 oside/\bj oside/\c1= .string (tx oleft)/\c2= .string (tx oright)/\c3= .string (tx olow)/\c4= .string (tx ohigh):=by
 obtain⟨xs,m,_,_,_,hlen,hg⟩:=DataW.trod_struct underlying57 h;obtain⟨y0,hy0,g0⟩:=gQ hlen hg 0 aN rfl rfl;obtain⟨a0,e0,b0⟩:=cT g0;obtain⟨y1,hy1,g1⟩:=gQ hlen hg 1 lO rfl rfl;obtain⟨a1,e1⟩:=Dc g1;obtain⟨y2,hy2,g2⟩:=gQ hlen hg 2 lO rfl rfl;obtain⟨a2,e2⟩:=Dc g2;obtain⟨y3,hy3,g3⟩:=gQ hlen hg 3 lO rfl rfl;obtain⟨a3,e3⟩:=Dc g3;obtain⟨y4,hy4,g4⟩:=gQ hlen hg 4 lO rfl rfl;obtain⟨a4,e4⟩:=Dc g4;exact⟨a0,a1,a2,a3,a4,e0,b0,e1,e2,e3,e4⟩
theorem ym{x:DataW H×List MemPlace}(h:DataW.trod enc prog w base sp held n 59 [c0,c1,c2]=Vz x):∃(zkind:Int) (zwidth:Int) (zdepth:Int),c0= .int .i64 zkind/\bj zkind/\c1= .int .i64 zwidth/\bj zwidth/\c2= .int .i64 zdepth/\bj zdepth:=by
 obtain⟨xs,m,_,_,_,hlen,hg⟩:=DataW.trod_struct underlying59 h;obtain⟨y0,hy0,g0⟩:=gQ hlen hg 0 aN rfl rfl;obtain⟨a0,e0,b0⟩:=cT g0;obtain⟨y1,hy1,g1⟩:=gQ hlen hg 1 aN rfl rfl;obtain⟨a1,e1,b1⟩:=cT g1;obtain⟨y2,hy2,g2⟩:=gQ hlen hg 2 aN rfl rfl;obtain⟨a2,e2,b2⟩:=cT g2;exact⟨a0,a1,a2,e0,b0,e1,b1,e2,b2⟩
theorem wW{x:DataW H×List MemPlace}(h:DataW.trod enc prog w base sp held n 64 [c0,c1,c2]=Vz x):∃(lkind:Int) (lside:Int) (lweight:By),c0= .int .i64 lkind/\bj lkind/\c1= .int .i64 lside/\bj lside/\c2= .string (tx lweight):=by
 obtain⟨xs,m,_,_,_,hlen,hg⟩:=DataW.trod_struct underlying64 h;obtain⟨y0,hy0,g0⟩:=gQ hlen hg 0 aN rfl rfl;obtain⟨a0,e0,b0⟩:=cT g0;obtain⟨y1,hy1,g1⟩:=gQ hlen hg 1 aN rfl rfl;obtain⟨a1,e1,b1⟩:=cT g1;obtain⟨y2,hy2,g2⟩:=gQ hlen hg 2 lO rfl rfl;obtain⟨a2,e2⟩:=Dc g2;exact⟨a0,a1,a2,e0,b0,e1,b1,e2⟩
theorem qE{x:DataW H×List MemPlace}(h:DataW.trod enc prog w base sp held n 66 [c0,c1,c2,c3,c4]=Vz x):∃(awidth:Int) (adepth:Int) (aspacing:Int) (aload:Int) (aspan:Int),c0= .int .i64 awidth/\bj awidth/\c1= .int .i64 adepth/\bj adepth/\c2= .int .i64 aspacing/\bj aspacing/\c3= .int .i64 aload/\bj aload/\c4= .int .i64 aspan/\bj aspan:=by
 obtain⟨xs,m,_,_,_,hlen,hg⟩:=DataW.trod_struct underlying66 h;obtain⟨y0,hy0,g0⟩:=gQ hlen hg 0 aN rfl rfl;obtain⟨a0,e0,b0⟩:=cT g0;obtain⟨y1,hy1,g1⟩:=gQ hlen hg 1 aN rfl rfl;obtain⟨a1,e1,b1⟩:=cT g1;obtain⟨y2,hy2,g2⟩:=gQ hlen hg 2 aN rfl rfl;obtain⟨a2,e2,b2⟩:=cT g2;obtain⟨y3,hy3,g3⟩:=gQ hlen hg 3 aN rfl rfl;obtain⟨a3,e3,b3⟩:=cT g3;obtain⟨y4,hy4,g4⟩:=gQ hlen hg 4 aN rfl rfl;obtain⟨a4,e4,b4⟩:=cT g4;exact⟨a0,a1,a2,a3,a4,e0,b0,e1,b1,e2,b2,e3,b3,e4,b4⟩
theorem xb{x:DataW H×List MemPlace}(h:DataW.trod enc prog w base sp held n 30 [c0,c1,c2,c3]=Vz x):∃(twidth:Int) (tlength:Int) (tlap:Int) (ttail:Int),c0= .int .i64 twidth/\bj twidth/\c1= .int .i64 tlength/\bj tlength/\c2= .int .i64 tlap/\bj tlap/\c3= .int .i64 ttail/\bj ttail:=by
 obtain⟨xs,m,_,_,_,hlen,hg⟩:=DataW.trod_struct underlying30 h;obtain⟨y0,hy0,g0⟩:=gQ hlen hg 0 aN rfl rfl;obtain⟨a0,e0,b0⟩:=cT g0;obtain⟨y1,hy1,g1⟩:=gQ hlen hg 1 aN rfl rfl;obtain⟨a1,e1,b1⟩:=cT g1;obtain⟨y2,hy2,g2⟩:=gQ hlen hg 2 aN rfl rfl;obtain⟨a2,e2,b2⟩:=cT g2;obtain⟨y3,hy3,g3⟩:=gQ hlen hg 3 aN rfl rfl;obtain⟨a3,e3,b3⟩:=cT g3;exact⟨a0,a1,a2,a3,e0,b0,e1,b1,e2,b2,e3,b3⟩
theorem C4{c0 c1 c2 c3 c4 c5:Vy}{x:DataW H×List MemPlace}(h:DataW.trod enc prog w base sp held n 62 [c0,c1,c2,c3,c4,c5]=Vz x):∃(bwidth:Int) (bdepth:Int) (blength:Int) (bcount:Int) (bcost:Int) (ga:Option VT) (gc:Nat) (gl:List (Int×Int)),c0= .int .i64 bwidth/\bj bwidth/\c1= .int .i64 bdepth/\bj bdepth/\c2= .int .i64 blength/\bj blength/\c3= .int .i64 bcount/\bj bcount/\c4= .int .i64 bcost/\bj bcost/\c5= .slice ga (ln gl) gc/\bz w w.heap.size ga gc gl/\∀p∈gl,bj p.1/\bj p.2:=by
 obtain⟨xs,m,_,_,_,hlen,hg⟩:=DataW.trod_struct underlying62 h;obtain⟨y0,hy0,g0⟩:=gQ hlen hg 0 aN rfl rfl;obtain⟨a0,e0,b0⟩:=cT g0;obtain⟨y1,hy1,g1⟩:=gQ hlen hg 1 aN rfl rfl;obtain⟨a1,e1,b1⟩:=cT g1;obtain⟨y2,hy2,g2⟩:=gQ hlen hg 2 aN rfl rfl;obtain⟨a2,e2,b2⟩:=cT g2;obtain⟨y3,hy3,g3⟩:=gQ hlen hg 3 aN rfl rfl;obtain⟨a3,e3,b3⟩:=cT g3;obtain⟨y4,hy4,g4⟩:=gQ hlen hg 4 aN rfl rfl;obtain⟨a4,e4,b4⟩:=cT g4;obtain⟨y5,hy5,g5⟩:=gQ hlen hg 5 IK rfl rfl;obtain⟨ga,gc,gl,e5,b5,d5⟩:=Jb g5;exact⟨a0,a1,a2,a3,a4,ga,gc,gl,e0,b0,e1,b1,e2,b2,e3,b3,e4,b4,e5,b5,d5⟩
def ig{P:Int->Prop}{p:Prop}[Decidable p]{a b:List Int}(h1:∀n∈a,P n)(h2:∀n∈b,P n):∀n∈(if p then a else b),P n:=by split <;>assumption
theorem ae{l:List Vy}(h:ln l=n+1):∃a t,l=a::t/\ln t=n:=by
 cases l with
 |nil=>simp at h
 |cons a t=>exact⟨a,t,rfl,WB⟩
def Np(b:Bool):bj (U9 b):=by cases b<;>exact⟨V9,V9⟩
def My{e:Ed}(hx:bj e.index)(h1:bj e.sx)(h2:bj e.sy)(h3:bj e.srise)(h4:bj e.srun)(h5:bj e.splate)(h6:bj e.sover)(h7:bj e.oside)(h8:bj e.zwidth)(h9:bj e.zdepth)
  (b1:bj e.bwidth)(b2:bj e.bdepth)(b3:bj e.blength)(b4:bj e.bcount)(b5:bj e.bcost)(bg:∀p∈e.gaps,bj p.1/\bj p.2)(l1:bj e.lkind)(l2:bj e.lside)
  (a1:bj e.awidth)(a2:bj e.adepth)(a3:bj e.aspacing)(a4:bj e.aload)(a5:bj e.aspan)(t1:bj e.twidth)(t2:bj e.tlength)(t3:bj e.tlap)(t4:bj e.ttail)(hn:bj e.number):∀n∈iO e,bj n:=by
 have hbar:∀n∈[e.index,e.bwidth,e.bdepth,e.blength,e.bcount,e.bcost]++RR e.gaps,bj n:=by
  intro n hm;rcases List.mem_append.1 hm with hm|hm
  ·exact(all_cons hx (all_cons b1 (all_cons b2 (all_cons b3 (all_cons b4 (all_cons b5 (all_nil _))))))) n hm
  ·unfold RR at hm;obtain⟨p,hp,hq⟩:=List.mem_flatMap.1 hm;have hg:=bg p hp;rcases List.mem_cons.1 hq with rfl|hq
   ·exact hg.1
   ·rcases List.mem_cons.1 hq with rfl|hq
    ·exact hg.2
    ·cases hq
 unfold iO;refine ig (all_nil _) (ig (all_cons hx (all_cons h1 (all_cons h2 (all_cons h3 (all_cons h4 (all_cons h5 (all_cons h6 (all_cons (Np _) (all_nil _)))))))))
  (ig (all_cons hx (all_cons hn (all_nil _))) (ig (all_cons hn (all_nil _)) (ig (all_cons hx (all_cons h7 (all_nil _))) (ig (all_cons h8 (all_cons h9 (all_nil _))) (ig hbar
  (ig (all_cons hn (all_nil _)) (ig (all_cons t1 (all_cons t2 (all_cons t3 (all_cons t4 (all_nil _))))) (ig (all_cons hx (all_cons l1 (all_cons l2 (all_nil _))))
  (ig (all_cons a1 (all_cons a2 (all_cons a3 (all_cons a4 (all_cons a5 (all_nil _)))))) (all_cons hx (all_nil _))))))))))))
theorem uo{l:List Vy}{x:DataW H×List MemPlace}(hl:ln l=37)(hf:DataW.trod enc prog w base sp held n 68 l=Vz x):
  ∃(e:Ed) (ga:Option VT) (gc:Nat),l=(aE e (.slice ga (ln e.gaps) gc)).toList/\bz w w.heap.size ga gc e.gaps/\(∀n∈iO e,bj n)/\bj e.index:=by
 obtain⟨c0,l0,rfl,h0⟩:=ae hl;obtain⟨c1,l1,rfl,h1⟩:=ae h0;obtain⟨c2,l2,rfl,h2⟩:=ae h1;obtain⟨c3,l3,rfl,h3⟩:=ae h2;obtain⟨c4,l4,rfl,h4⟩:=ae h3;obtain⟨c5,l5,rfl,h5⟩:=ae h4;obtain⟨c6,l6,rfl,h6⟩:=ae h5;obtain⟨c7,l7,rfl,h7⟩:=ae h6;obtain⟨c8,l8,rfl,h8⟩:=ae h7;obtain⟨c9,l9,rfl,h9⟩:=ae h8;obtain⟨c10,l10,rfl,h10⟩:=ae h9;obtain⟨c11,l11,rfl,h11⟩:=ae h10;obtain⟨c12,l12,rfl,h12⟩:=ae h11;obtain⟨c13,l13,rfl,h13⟩:=ae h12;obtain⟨c14,l14,rfl,h14⟩:=ae h13;obtain⟨c15,l15,rfl,h15⟩:=ae h14;obtain⟨c16,l16,rfl,h16⟩:=ae h15;obtain⟨c17,l17,rfl,h17⟩:=ae h16;obtain⟨c18,l18,rfl,h18⟩:=ae h17;obtain⟨c19,l19,rfl,h19⟩:=ae h18;obtain⟨c20,l20,rfl,h20⟩:=ae h19;obtain⟨c21,l21,rfl,h21⟩:=ae h20;obtain⟨c22,l22,rfl,h22⟩:=ae h21;obtain⟨c23,l23,rfl,h23⟩:=ae h22;obtain⟨c24,l24,rfl,h24⟩:=ae h23;obtain⟨c25,l25,rfl,h25⟩:=ae h24;obtain⟨c26,l26,rfl,h26⟩:=ae h25;obtain⟨c27,l27,rfl,h27⟩:=ae h26;obtain⟨c28,l28,rfl,h28⟩:=ae h27;obtain⟨c29,l29,rfl,h29⟩:=ae h28;obtain⟨c30,l30,rfl,h30⟩:=ae h29;obtain⟨c31,l31,rfl,h31⟩:=ae h30;obtain⟨c32,l32,rfl,h32⟩:=ae h31;obtain⟨c33,l33,rfl,h33⟩:=ae h32;obtain⟨c34,l34,rfl,h34⟩:=ae h33;obtain⟨c35,l35,rfl,h35⟩:=ae h34;obtain⟨c36,l36,rfl,h36⟩:=ae h35;obtain rfl:l36=[]:=List.length_eq_zero_iff.1 h36;clear h0 h1 h2 h3 h4 h5 h6 h7 h8 h9 h10 h11 h12 h13 h14 h15 h16 h17 h18 h19 h20 h21 h22 h23 h24 h25 h26 h27 h28 h29 h30 h31 h32 h33 h34 h35 h36;obtain⟨xs,m,_,_,_,hlen,hg⟩:=DataW.trod_struct underlying68 hf;obtain⟨y0,hy0,g0⟩:=gQ hlen hg 0 aN rfl rfl;obtain⟨y1,hy1,g1⟩:=gQ hlen hg 1 aN rfl rfl;obtain⟨y2,hy2,g2⟩:=gQ hlen hg 2 xM rfl rfl;obtain⟨y3,hy3,g3⟩:=gQ hlen hg 3 xX rfl rfl;obtain⟨y4,hy4,g4⟩:=gQ hlen hg 4 yd rfl rfl;obtain⟨y5,hy5,g5⟩:=gQ hlen hg 5 yb rfl rfl;obtain⟨y6,hy6,g6⟩:=gQ hlen hg 6 yp rfl rfl;obtain⟨y7,hy7,g7⟩:=gQ hlen hg 7 wY rfl rfl;obtain⟨y8,hy8,g8⟩:=gQ hlen hg 8 xQ rfl rfl;obtain⟨y9,hy9,g9⟩:=gQ hlen hg 9 aN rfl rfl;obtain⟨y10,hy10,g10⟩:=gQ hlen hg 10 uU rfl rfl;obtain⟨a0,rfl,b0⟩:=cT g0;obtain⟨a1,rfl,b1⟩:=cT g1;obtain⟨a2,a3,a4,a5,a6,a7,a8,rfl,b2,rfl,b3,rfl,b4,rfl,b5,rfl,rfl,b7,rfl,b8⟩:=xT g2;obtain⟨a9,a10,a11,a12,a13,rfl,b9,rfl,rfl,rfl,rfl⟩:=qy g3;obtain⟨a14,a15,a16,rfl,b14,rfl,b15,rfl,b16⟩:=ym g4;obtain⟨a17,a18,a19,a20,a21,ga,gc,gl,rfl,b17,rfl,b18,rfl,b19,rfl,b20,rfl,b21,rfl,hgap,hgl⟩:=C4 g5;obtain⟨a23,a24,a25,rfl,b23,rfl,b24,rfl⟩:=wW g6;obtain⟨a26,a27,a28,a29,a30,rfl,b26,rfl,b27,rfl,b28,rfl,b29,rfl,b30⟩:=qE g7;obtain⟨a31,a32,a33,a34,rfl,b31,rfl,b32,rfl,b33,rfl,b34⟩:=xb g8;obtain⟨a35,rfl,b35⟩:=cT g9;obtain⟨a36,rfl⟩:=QF g10;exact⟨⟨a0,a1,a2,a3,a4,a5,a6,a7,a8,a9,a10,a11,a12,a13,a14,a15,a16,a17,a18,a19,a20,a21,gl,a23,a24,a25,a26,a27,a28,a29,a30,a31,a32,a33,a34,a35,a36⟩,ga,gc,rfl,hgap,My b1 b2 b3 b4 b5 b7 b8 b9 b15 b16 b17 b18 b19 b20 b21 hgl b23 b24 b26 b27 b28 b29 b30 b31 b32 b33 b34 b35,b1⟩
def Gi(a:Array Vy):(⟨a.toList⟩:Array Vy)=a:=by cases a;rfl
def IG{r:Reach}{b0:Nat}{v:Vy}{d:DataW H}{p:List MemPlace}(hv:Vy.okWide prog w r b0 68 v)(h:DataW.Trod enc prog w base sp held 68 v d p):
  ∃(e:Ed) (ga:Option VT) (gc:Nat),v= .agg (aE e (.slice ga (ln e.gaps) gc))/\bz w w.heap.size ga gc e.gaps/\(∀n∈iO e,bj n)/\bj e.index:=by
 obtain⟨cs,rfl,hsz⟩:=okWide_struct underlying68 hv;obtain⟨l⟩:=cs;obtain⟨fuel,hf⟩:=h;obtain⟨e,ga,gc,rfl,hr⟩:=uo (hsz.trans xg) hf;exact⟨e,ga,gc,by rw[Gi],hr⟩
end
end
section
open Kp
def zY(w:Vt)(A:Option VT)(cap:Nat)(l:List Int)(hl:bJ 1 w w.heap.size A cap (bG l)):
  VJ prog 48 #[VV A (ln l) cap] w λe w'=>e=V0 (VZ VH (iT l))/\Ext w w':=by
 obtain⟨h1,h2,h3⟩:=hl;rw[VC] at h1 h3;unfold VP at h2;by_cases h16:16<ln l
 ·have HR:=Vs (show iT l=4 by rw[s7,if_pos h16]);clear h3;go_enter func48,ntmps48;go_wp2;go_ret;exact⟨We,WJ⟩
 have HR:=Vs (show iT l=aV (vh l) (ln l) by rw[s7,if_neg h16]);have H3:=Vs h3;clear h3;go_enter func48,ntmps48;go_wp2;go_loopw [3] (λi wr=>∃k:Nat,k<=ln l/\i=VZ VH (k:Int)/\Ext w wr/\∀j,j<k->vh l j=0) (λi _=>((ln l:Int)-VN i).toNat)
 case atStart=>exact⟨0,V7,rfl,Below.refl _ _,λj hj=>V7⟩
 case round=>
  obtain⟨k,hk,rfl,hX,hall⟩:=hrel;have HX:=Vs hX;have HA:=Vs hall;clear hall;by_cases hlt:k<ln l
  ·obtain⟨b,off,rfl,hB,hcell0⟩:=H3.o V7;have hcell:=λi hi j hj=>(hX.cell (p:=⟨b,off+1*i+j,Vx⟩) hB).trans (hcell0 i hi j hj)
   clear hcell0 hX;have c1:=hcell k hlt 0 V9;rw[gL hlt,Nat.one_mul,Nat.add_zero] at c1;have hpz:0<k->wr.cell? ⟨b,off+(k-1),Vx⟩=Vz (VZ VH (l.getD (k-1) 0)):=λh0=>by
    exact ZA
   have HF:=Vs (show vh l k=if !aP (l.getD k 0) 0 1048576 then 2 else if 0<k/\l.getD k 0<=l.getD (k-1) 0 then 10 else 0 from rfl);obtain⟨x,hx⟩:∃x,l.getD k 0=x:=⟨_,rfl⟩;obtain⟨y,hy⟩:∃y,l.getD (k-1) 0=y:=⟨_,rfl⟩;rw[hx] at c1 HF;rw[hy] at hpz HF;have HPZ:=Vs hpz;clear hx hy hcell hpz;cases tb:aP x 0 1048576
   ·have HE:=Vs (show iT l=2 by rw[HR.o,bS hlt HA.o (by rw[HF.o,tb,if_pos V9];decide),HF.o,tb,if_pos V9]);go_wp2_with(go_at_call 47;go_must(refine(gS _ _ _ _).mono ?_);rintro e W1 ⟨rfl,rfl⟩;rw[tb])
    go_ret;exact⟨Wq,WJ⟩
   by_cases h0:0<k
   ·have c2:=HPZ.o h0;have tk:decide (0<(k:Int))=VD:=Wn;have e1:((k:Int)-1).toNat=k-1:=V7;have e2:0<=(k:Int)-1:=V7;have e3:(k:Int)-1<(ln l:Int):=V7;have e4:(k:Int)<(ln l:Int):=V7;have e5:VH.wrap ((k:Int)-1)=(k:Int)-1:=VQ _ V7;by_cases hxy:x<=y
    ·have HE:=Vs (show iT l=10 by rw[HR.o,bS hlt HA.o (by rw[HF.o,tb,if_neg V9,if_pos ⟨h0,hxy⟩];decide),HF.o,tb,if_neg V9,if_pos ⟨h0,hxy⟩]);go_wp2_with(go_at_call 47;go_must(refine(gS _ _ _ _).mono ?_);rintro e W1 ⟨rfl,rfl⟩;rw[tb])
     go_quiet (fail)
     go_wp2;go_ret;exact⟨Wq,WJ⟩
    ·have HZ:=Vs (show vh l k=0 by rw[HF.o,tb,if_neg V9,if_neg (λh=>hxy h.2)]);have txy:decide (x<=y)=Vw:=by rw[decide_eq_false_iff_not];exact hxy
     exact a0B
   ·have tk:decide (0<(k:Int))=Vw:=Wd;have HZ:=Vs (show vh l k=0 by rw[HF.o,tb,if_neg V9,if_neg (λh=>h0 h.1)]);exact a0B
  ·have hlt':decide ((k:Int)<(ln l:Int))=Vw:=Wd;have HE:=Vs (show iT l=0 by rw[HR.o,be (λj hj=>HA.o j V7)]);go_wp2;go_ret;exact⟨Wq,WJ⟩
end
section
open Kp
attribute [local go_sem] aM fC fH iy gU iA ik gW gV im gY eP eN eV eK eY eR eQ er eu ey eh ej dY eT eO eU eS eI eM eJ eX fm fu ft fo dX eZ
structure TG(w:Vt)(e:Ed)(ga gb:Option VT)(ca cb:Nat)(i:Vy)(wr:Vt):Prop where
 ex:∃k:Nat,k<=ln e.gaps/\i=VZ VH (k:Int)
 ra:bZ wr w.heap.size 62 (wD e ga ca)
 rb:bZ wr (w.heap.size+1) 62 (wD e gb cb)
 low:VS w.heap.size w wr
theorem TG.Si{w wr:Vt}{e:Ed}{ca cb:Nat}{i:Vy}(h:TG w e ga gb ca cb i wr)(hk:k<=ln e.gaps)(n:Nat):TG w e ga gb ca cb (VZ VH (k:Int)) (wr.drewN n):=
 ⟨⟨k,hk,rfl⟩,h.ra.below (below_drewN (Below.refl wr.heap.size _) n) h.ra.lt,h.rb.below (below_drewN (Below.refl wr.heap.size _) n) h.rb.lt,below_drewN h.low n⟩
def Fu(w:Vt)(e:Ed)(ga gb:Option VT)(ca cb:Nat)(ha:bz w w.heap.size ga ca e.gaps)(hb:bz w w.heap.size gb cb e.gaps):
  VJ prog 62 #[V5 (wD e ga ca).toArray,V5 (wD e gb cb).toArray] w λr w'=>r=V0 (VX VD)/\VS w.heap.size w w':=by
 have la:=ha.1;have lb:=hb.1;have ca':=ha.2.1;have cb':=hb.2.1;unfold VP at ca' cb';have HA:=Vs ha;have HB:=Vs hb;have R0:=Vs (show TG w e ga gb ca cb (VZ VH 0) ((w.alloc (.cells (wD e ga ca).toArray 62)).alloc (.cells (wD e gb cb).toArray 62)) from
  ⟨⟨0,V7,rfl⟩,by unfold bZ;rw[heap_alloc_old _ _ Wa];exact VG _ _,by have:=VG (w.alloc (.cells (wD e ga ca).toArray 62)) (.cells (wD e gb cb).toArray 62);rw[VK] at this;exact this,((Below.refl _ _).alloc (Vu _) _).alloc Wa _⟩)
 clear ha hb;go_enter func62,ntmps62;go_wp2;go_loopw [5] (λi wr=>TG w e ga gb ca cb i wr) (λi _=>((ln e.gaps:Int)-VN i).toNat)
 case atStart=>exact R0.o
 case round=>
  have HREL:=Vs hrel;obtain⟨⟨k,hk,rfl⟩,hra,hrb,hBr⟩:=hrel;have rca:=λi=>bZ.cell hra i
  have rcb:=λi=>bZ.cell hrb i
  by_cases hlt:k<ln e.gaps
  ·obtain⟨_,_,hxa⟩:=HA.o.below hBr;obtain⟨_,_,hxb⟩:=HB.o.below hBr;obtain⟨ba,oa,rfl,_,cea⟩:=hxa V7;obtain⟨bb,ob,rfl,_,ceb⟩:=hxb V7;obtain⟨a1,a2⟩:=cea k hlt;obtain⟨b1,b2⟩:=ceb k hlt;rw[VL] at a1 a2 b1 b2;obtain⟨x,y,hxy⟩:∃x y,e.gaps[k]=(x,y):=⟨_,_,rfl⟩;rw[hxy] at a1 a2 b1 b2;have hnq:=λW=>FI x y x y W
   simp only[beq_self_eq_true,Bool.and_self,Bool.not_true] at hnq;have HN:=Vs (λn=>HREL.o.Si (k:=k+1) V7 n);clear hra hrb hBr cea ceb hxa hxb hxy;go_wp2;go_quiet (fail)
   go_wp2;refine⟨?_,Wc⟩;exact HN.o _
  ·have hlt':decide ((k:Int)<(ln e.gaps:Int))=Vw:=Wd;have HLOW:=Vs hBr;clear hra hrb hBr;go_wp2;go_ret;exact⟨rfl,HLOW.o⟩
def rM(w:Vt)(e:Ed)(ga gb:Option VT)(ca cb:Nat)(ha:bz w w.heap.size ga ca e.gaps)(hb:bz w w.heap.size gb cb e.gaps):
  VJ prog 24 #[V5 (aE e (VV ga (ln e.gaps) ca)),V5 (aE e (VV gb (ln e.gaps) cb))] w λr w'=>r=V0 (VX VD)/\VS w.heap.size w w':=by
 have hB0:VS w.heap.size w ((w.alloc (.cells (aE e (VV ga (ln e.gaps) ca)) 68)).alloc (.cells (aE e (VV gb (ln e.gaps) cb)) 68)):=((Below.refl _ _).alloc (Vu _) _).alloc Wa _;have HB0:=Vs hB0;have EA:=Vs ((iF.new w e (VV ga (ln e.gaps) ca)).alloc (.cells (aE e (VV gb (ln e.gaps) cb)) 68));have EB:=Vs (show iF ((w.alloc (.cells (aE e (VV ga (ln e.gaps) ca)) 68)).alloc (.cells (aE e (VV gb (ln e.gaps) cb)) 68)) (w.heap.size+1) e (VV gb (ln e.gaps) cb) by
  have:=iF.new (w.alloc (.cells (aE e (VV ga (ln e.gaps) ca)) 68)) e (VV gb (ln e.gaps) cb);rw[VK] at this;exact this)
 have cb':=Vs (Fu _ e ga gb ca cb ((ha.below hB0).more Wf) ((hb.below hB0).more Wf));have eca:=λi=>EA.o.cell i
 have ecb:=λi=>EB.o.cell i
 have ts:nc e e=VD:=by unfold nc;simp
 have tp:vB e e=VD:=by unfold vB;simp
 have tz:oo e e=VD:=by unfold oo;simp
 have tl:tZ e e=VD:=by unfold tZ;simp
 have ta:Ep e e=VD:=by unfold Ep;simp
 have tt:vJ e e=VD:=by unfold vJ;simp
 have qside:=λW=>Ck e e W
 have gside:prog.eqGuardType prog.depth 54=Vw:=V8;have qopn:=λW=>F7 e e W
 have gopn:prog.eqGuardType prog.depth 57=Vw:=V8;have qsize:=λW=>AQ e e W
 have gsize:prog.eqGuardType prog.depth 59=Vw:=V8;have qload:=λW=>CI e e W
 have gload:prog.eqGuardType prog.depth 64=Vw:=V8;have qalw:=λW=>FQ e e W
 have galw:prog.eqGuardType prog.depth 66=Vw:=V8;have qtile:=λW=>Cu e e W
 have gtile:prog.eqGuardType prog.depth 30=Vw:=V8;rw[ts] at qside;rw[tp] at qopn;rw[tz] at qsize;rw[tl] at qload;rw[ta] at qalw;rw[tt] at qtile;clear ha hb hB0 ts tp tz tl ta tt;go_enter func24,ntmps24;go_wp2_with(go_at_call 62;go_must(refine cb'.o.mono ?_);rintro r W2 ⟨rfl,hB2⟩;have EA2:=Vs (EA.o.below hB2 EA.o.lt);have EB2:=Vs (EB.o.below hB2 EB.o.lt);have eca2:=λi=>EA2.o.cell i;have ecb2:=λi=>EB2.o.cell i)
 go_ret;exact⟨rfl,HB0.o.trans (hB2.mono Wf)⟩
end
section
open Kp
def At(b:UInt8)(l:By):Lib.index (b::l) [47]=if b=47 then 0 else if Lib.index l [47]== -1 then -1 else Lib.index l [47]+1:=by
 rw[Lib.index];by_cases h:b=47
 ·subst h;simp[List.isPrefixOf]
 ·have:List.isPrefixOf [47] (b::l)=Vw:=by simp[List.isPrefixOf];exactλe=>h e.symm
  rw[this,if_neg h];rfl
def Pz(l:By):Lib.index l [47]=if l.findIdx (· ==47)<ln l then(l.findIdx (· ==47):Int) else -1:=by
 induction l with
 |nil=>rfl
 |cons b l ih=>
  rw[At,ih,List.findIdx_cons];by_cases h:b=47
  ·subst h;simp
  ·have hb:(b==47)=Vw:=WB;rw[if_neg h,hb];simp only[cond_false,List.length_cons,Nat.add_lt_add_iff_right];by_cases hk:l.findIdx (· ==47)<ln l
   ·rw[if_pos hk,if_pos hk,if_neg Wa];omega
   ·rw[if_neg hk,if_neg hk];rfl
def xz(l:By):Lib.cut l [47]=if l.findIdx (· ==47)<ln l then(l.take (l.findIdx (· ==47)),l.drop (l.findIdx (· ==47)+1),VD) else(l,[],Vw):=by
 unfold Lib.cut;rw[Pz];by_cases hk:l.findIdx (· ==47)<ln l
 ·rw[if_pos hk,if_pos hk,if_pos V7];rfl
 ·rw[if_neg hk,if_neg hk,if_neg V7]
def fO(a:By):own a=if a.head?==Vz 45 then a.drop 1 else a:=by
 unfold own Lib.trimPrefix Lib.hasPrefix;cases a with
 |nil=>rfl
 |cons b l=>
  by_cases h:b=45
  ·subst h;simp
  ·have e1:List.isPrefixOf [45] (b::l)=Vw:=by simp[List.isPrefixOf];exactλe=>h e.symm
   have e2:((b::l).head?==Vz 45)=Vw:=WB;simp only[e1,e2]
   rfl
def kZ(a:By):Lib.hasPrefix a [45]=(a.head?==Vz 45):=by
 unfold Lib.hasPrefix;cases a with
 |nil=>rfl
 |cons b l=>
  by_cases h:b=45
  ·subst h;simp
  ·have e1:List.isPrefixOf [45] (b::l)=Vw:=by simp[List.isPrefixOf];exactλe=>h e.symm
   have e2:((b::l).head?==Vz 45)=Vw:=WB;rw[e1,e2]
def tE(a:By):(own (Lib.cut a [47]).1=(Lib.cut (own a) [47]).1)/\(Lib.cut a [47]).2=(Lib.cut (own a) [47]).2/\Lib.hasPrefix (Lib.cut a [47]).1 [45]=(a.head?==Vz 45):=by
 cases a with
 |nil=>exact⟨rfl,rfl,rfl⟩
 |cons b l=>
  by_cases h:b=45
  ·subst h;have ho:own (45::l)=l:=by rw[fO];rfl
   rw[ho];have hc:Lib.cut (45::l) [47]=(45::(Lib.cut l [47]).1,(Lib.cut l [47]).2):=by
    rw[xz,xz,List.findIdx_cons];have e:((45:UInt8)==47)=Vw:=V9;rw[e];simp only[cond_false,List.length_cons,Nat.add_lt_add_iff_right];by_cases hk:l.findIdx (· ==47)<ln l
    ·rw[if_pos hk,if_pos hk];rfl
    ·rw[if_neg hk,if_neg hk]
   rw[hc];refine⟨by rw[fO];rfl,rfl,by rw[kZ];rfl⟩
  ·have e2:((b::l).head?==Vz 45)=Vw:=WB;have ho:own (b::l)=b::l:=by rw[fO,e2];rfl
   have hh:((Lib.cut (b::l) [47]).1.head?==Vz 45)=Vw:=by
    rw[xz,List.findIdx_cons];by_cases h7:b=47
    ·subst h7;rfl
    ·have e:(b==47)=Vw:=by simpa using h7
     rw[e];simp only[cond_false];split
     ·simpa using h
     ·exact e2
   rw[ho,e2];exact⟨by rw[fO,hh];rfl,rfl,by rw[kZ];exact hh⟩
def PC(s:By)(k:Nat):(tx s).extract 0 k=tx (s.take k):=by
 apply ByteArray.ext;apply Array.ext';rw[ByteArray.data_extract,Array.toList_extract];simp
def kc(a:By):aL (tx a)=(a.head?==Vz 45,tx (Lib.cut (own a) [47]).1,tx (Lib.cut (own a) [47]).2.1,(Lib.cut (own a) [47]).2.2):=by
 have hy:(if((tx a).data.toList.head?==Vz 45)=VD then(tx a).extract 1 (tx a).size else tx a)=tx (own a):=by
  rw[bf,fO];cases h:(a.head?==Vz 45) with
  |true=>rw[if_pos rfl,if_pos rfl,ak];exact lg a 1
  |false=>rfl
 have hm:((tx a).data.toList.head?==Vz 45)=(a.head?==Vz 45):=by rw[bf]
 unfold aL;dsimp only;rw[hy,hm];unfold nK;rw[bf,ak,xz];by_cases hk:(own a).findIdx (· ==47)<(own a).length
 ·rw[if_pos hk,if_pos hk,PC _ _,lg]
 ·rw[if_neg hk,if_neg hk]
def pH(l:By):(tx l).toList=l:=by rw[ByteArray.toList_eq,bf]
def iS(l:By)(m:Nat)(h:m<(tx l).size):(tx l)[m]'h=l[m]'(by rw[ak] at h;exact h):=by
 simp[ByteArray.getElem_eq_getElem_data]
def xW{l:By}(h:l.all gh=VD):lead l=l:=by
 unfold lead
 induction l with
 |nil=>rfl
 |cons b l ih=>
  simp only[List.all_cons,Bool.and_eq_true] at h;rw[List.takeWhile_cons,if_pos h.1,ih h.2]
def Ae{l:By}(h:Dg (tx l)):pQ l=VD/\l.all gh=VD:=by
 have hall:l.all gh=VD:=by
  rw[List.all_eq_true];intro b hb;obtain⟨m,hm,rfl⟩:=List.mem_iff_getElem.1 hb;have:=h.all m (by rw[ak];exact hm);rw[iS] at this;rw[yM];simp[this]
 have hl:lead l=l:=xW hall;have hp:=h.pos;rw[ak] at hp;have hr:jW l=ln l:=by
  unfold jW;rw[hl];split
  ·rename_i hc;exfalso;have:=h.lead (by rw[ak];exact hp) (by rw[ak];exact hc.1);rw[iS] at this;cases l with
   |nil=>simp at hp
   |cons b l=>simp at hc;simp[hc.2] at this
  ·rfl
 refine⟨?_,hall⟩;exact gR V7 V7
def Oa(l:By):∀k,k<=ln l->cJ (tx l) k=aw (l.take k):=by
 intro k hk
 induction k with
 |zero=>simp[cJ,aw]
 |succ k ih=>
  rw[cJ,ih V7,mE (show k<ln l by omega),bf,Vv,VA V7];simp only[Option.getD_some];unfold iL;omega
def jl(l:By):cJ (tx l) (tx l).size=aw l:=by
 rw[ak,Oa l _ (Vu _),List.take_length]
def Gw{n:By}(h1:pQ (own n)=VD)(h2:(own n).all gh=VD)(h3:¬(Lib.hasPrefix n [45]=VD/\own n=[48])):aT n=VD:=by
 unfold aT;rw[h2,Bool.true_and];unfold pQ at h1;simp only[Bool.and_eq_true,decide_eq_true_eq] at h1;cases ho:own n with
 |nil=>rw[ho] at h1;exact absurd rfl h1.1
 |cons b l=>
  simp only[List.isEmpty_cons,Bool.not_false,Bool.true_and,List.head?_cons];by_cases hb:b=48
  ·subst hb;have hl:l=[]:=by
    rw[ho] at h1 h2;have hld:lead (48::l)=48::l:=xW h2;have:=h1.1;unfold jW at this;rw[hld] at this;cases l with
    |nil=>rfl
    |cons c l=>exact absurd (by rw[if_pos ⟨Wa,rfl⟩]) this
   subst hl;have hnp:Lib.hasPrefix n [45]=Vw:=by
    cases hq:Lib.hasPrefix n [45] with
    |false=>rfl
    |true=>exact absurd ⟨hq,ho⟩ h3
   have:own n=n:=by rw[fO,<-kZ,hnp];rfl
   rw[<-this,ho];rfl
  ·have:(Vz b==Vz (48:UInt8))=Vw:=by simpa using hb
   rw[this];rfl
def Kw:Ic (cI 1)=([49],0):=by
 have hc:cI 1=[1]:=mQ (l:=[1]) ⟨λd hd=>by rw[List.mem_singleton.1 hd];decide,by unfold pR;decide⟩ V9;rw[hc];decide+kernel
def tU{a:By}(h:jB (tx a)):bU a=0:=by
 unfold jB at h;rw[kc] at h;dsimp only at h;obtain⟨h1,h2,h3⟩:=h;obtain⟨co,c2,cp⟩:=tE a;rw[jl,jl,ak,ak,pH,pH] at h3;obtain⟨gn,an⟩:=Ae h1;have hcut:dP a=(if(Lib.cut a [47]).2.2=Vw then Vz ((Lib.cut a [47]).1,[49]) else Vz ((Lib.cut a [47]).1,(Lib.cut a [47]).2.1))/\((Lib.cut a [47]).2.2=VD->pQ (Lib.cut a [47]).2.1=VD/\(Lib.cut a [47]).2.1.all gh=VD/\(Lib.cut a [47]).2.1≠[48]/\(Lib.cut a [47]).2.1≠[49]/\Nat.gcd (aw (own (Lib.cut a [47]).1)) (aw (Lib.cut a [47]).2.1)=1)/\(own (Lib.cut a [47]).1).length<=300/\(Lib.cut a [47]).2.1.length<=300/\¬(Lib.hasPrefix (Lib.cut a [47]).1 [45]=VD/\own (Lib.cut a [47]).1=[48]):=by
  rw[cp,co,c2];unfold vm at h3;simp only[Bool.and_eq_true,Bool.not_eq_true',decide_eq_false_iff_not,Bool.or_eq_true,Bool.and_eq_false_iff,Bool.or_eq_false_iff,beq_eq_false_iff_ne,beq_iff_eq] at h3;obtain⟨⟨⟨⟨q1,q2⟩,q3⟩,q4⟩,q5⟩:=h3;have hsl:(Lib.cut (own a) [47]).2.2=VD->pQ (Lib.cut (own a) [47]).2.1=VD/\(Lib.cut (own a) [47]).2.1.all gh=VD/\(Lib.cut (own a) [47]).2.1≠[48]/\(Lib.cut (own a) [47]).2.1≠[49]/\Nat.gcd (aw (Lib.cut (own a) [47]).1) (aw (Lib.cut (own a) [47]).2.1)=1:=by
   intro hs;obtain⟨g2,a2⟩:=Ae (h2 hs);rw[hs] at q1 q5;simp at q1 q5;exact⟨g2,a2,q1.1,q1.2,q5⟩
  have hno:¬((a.head?==Vz 45)=VD/\(Lib.cut (own a) [47]).1=[48]):=by
   rintro⟨e1,e2⟩;rcases q2 with q|q
   ·exact q (beq_iff_eq.1 e1)
   ·exact q e2
  refine⟨?_,hsl,V7,V7,hno⟩;unfold dP;dsimp only;rw[cp,co,c2,gn];rw[if_neg (λe=>by rcases e with e|e<;>first|exact hno e|cases e)];cases hs:(Lib.cut (own a) [47]).2.2 with
  |false=>rfl
  |true=>
   obtain⟨g2,a2,n48,n49,_⟩:=hsl hs;rw[if_neg Wa,if_neg (by rw[g2];simp[n48,n49]),if_neg Wa]
 obtain⟨hc,hsl,l1,l2,hno⟩:=hcut;unfold bU;rw[hc];cases hs:(Lib.cut a [47]).2.2 with
 |false=>
  rw[if_pos rfl];dsimp only;split
  ·rfl
  ·rw[if_neg Wf,if_pos rfl]
 |true=>
  obtain⟨g2,a2,n48,n49,hg⟩:=hsl hs;rw[if_neg Wa];dsimp only;split
  ·rfl
  ·rw[if_neg V7];have f1:aT (Lib.cut a [47]).1=VD:=Gw (by rw[co];exact gn) (by rw[co];exact an) hno;have hod:own (Lib.cut a [47]).2.1=(Lib.cut a [47]).2.1:=by
    rw[fO];cases hd:(Lib.cut a [47]).2.1 with
    |nil=>rfl
    |cons b l=>
     rw[hd] at a2;simp only[List.all_cons,Bool.and_eq_true] at a2;have hb:=kx a2.1;have:((b::l).head?==Vz 45)=Vw:=by
      rw[List.head?_cons,beq_eq_false_iff_ne];intro e;injection e with e
      subst e;exact absurd hb.2.1 V9
     rw[this];rfl
   have f2:aT (Lib.cut a [47]).2.1=VD:=Gw (by rw[hod];exact g2) (by rw[hod];exact a2) (by rw[hod];exactλh=>n48 h.2);have k1:jC (Lib.cut a [47]).1=0:=by unfold jC;rw[if_pos f1,if_neg V7]
   have k2:jC (Lib.cut a [47]).2.1=0:=by unfold jC;rw[if_pos f2,hod,if_neg V7]
   have hgt:pS (Lib.cut a [47]).1 (Lib.cut a [47]).2.1=([49],0):=by
    unfold pS du;rw[k1,k2,hod,hg,if_pos rfl,if_pos rfl,Kw];split
    ·decide+kernel
    ·rfl
   rw[hgt,if_neg Wa]
end
section
open Kp
structure xZ(a:By):Prop where
 all:a.all gh=VD
 ne:a≠[]
 lead:a.head?≠Vz 48\/a=[48]
def RH{b:UInt8}(h:gh b=VD):(Vz b==Vz (45:UInt8))=Vw:=by
 rw[beq_eq_false_iff_ne];intro e;injection e with e
 subst e;exact absurd (kx h).2.1 V9
def xZ.head{a:By}(h:xZ a):(a.head?==Vz 45)=Vw:=by
 cases a with
 |nil=>rfl
 |cons b r=>
  have:=h.all;simp only[List.all_cons,Bool.and_eq_true] at this;exact RH this.1
def xZ.own{a:By}(h:xZ a):own a=a:=by rw[fO,h.head];rfl
def xZ.pre{a:By}(h:xZ a):Lib.hasPrefix a [45]=Vw:=by rw[kZ,h.head]
def xZ.form{a:By}(h:xZ a):aT a=VD:=by
 unfold aT;rw[h.own,h.all,Bool.true_and];have hne:a.isEmpty=Vw:=by cases a with|nil=>exact absurd rfl h.ne|cons b r=>rfl
 rw[hne];rcases h.lead with h1|h1
 ·exact a0J
 ·rw[h1];rfl
def jd(a:By):own (45::a)=a:=by rw[fO];rfl
def qa(a:By):Lib.hasPrefix (45::a) [45]=VD:=by rw[kZ];rfl
def xZ.neg{a:By}(h:xZ a)(h0:a≠[48]):aT (45::a)=VD:=by
 unfold aT;rw[jd,h.all,Bool.true_and];have hne:a.isEmpty=Vw:=by cases a with|nil=>exact absurd rfl h.ne|cons b r=>rfl
 rw[hne];have h1:a.head?≠Vz 48:=h.lead.resolve_right h0;exact a0J
def lX{a:By}(h:aT a=VD):xZ a\/∃r,a=45::r/\xZ r/\r≠[48]:=by
 unfold aT at h;simp only[Bool.and_eq_true,Bool.not_eq_true',Bool.or_eq_true,beq_iff_eq,beq_eq_false_iff_ne] at h;obtain⟨⟨h1,h2⟩,h3⟩:=h;have hne:own a≠[]:=by intro e;rw[e] at h2;cases h2
 by_cases hd:(a.head?==Vz 45)=VD
 ·cases a with
  |nil=>cases hd
  |cons b r=>
   have hb:b=45:=by simpa using hd
   subst hb;rw[jd] at h1 hne h3;have h48:r.head?≠Vz 48:=by
    rcases h3 with h3|h3
    ·exact h3
    ·injection h3 with h3 _;exact absurd h3 V9
   exact .inr ⟨r,rfl,⟨h1,hne,.inl h48⟩,λe=>h48 XB⟩
 ·have ho:own a=a:=by rw[fO,if_neg hd]
  rw[ho] at h1 hne h3;exact .inl ⟨h1,hne,h3⟩
def oK(t:ByteArray)(v:Int):Prop:=∃a:By,t=tx a/\aT a=VD/\(own a).length<=300/\num a=v
def rA{a:By}(h:xZ a)(hl:ln a<=300):oK (tx a) (aw a):=
 ⟨a,rfl,h.form,by rw[h.own];exact hl,by unfold num;rw[h.pre,h.own];rfl⟩
def Fw{a:By}(h:xZ a)(hl:ln a<=300)(h0:aw a≠0):oK (tx (45::a)) (-(aw a:Int)):=
 ⟨45::a,rfl,h.neg (by rintro rfl;exact h0 V9),by rw[jd];exact hl,by unfold num;rw[qa,jd];rfl⟩
def TS{a:By}(h:xZ a)(hl:ln a<=300)(s:Bool)(hs:s=VD->aw a≠0):oK (if s then⟨#[45]⟩++tx a else tx a) (if s then -(aw a:Int) else aw a):=by
 cases s with
 |false=>exact rA h hl
 |true=>exact Fw h hl (hs rfl)
def O1:oK ⟨#[48]⟩ 0:=rA (a:=[48]) ⟨V9,V9,.inr rfl⟩ V9
theorem oK.size{t:ByteArray}{v:Int}(h:oK t v):0<t.size∧t.size≤301:=by
 obtain⟨a,rfl,h1,h2,_⟩:=h
 rw[ak]
 have:=Dj a
 refine⟨?_,by omega⟩
 rcases lX h1 with h|⟨r,rfl,_⟩
 ·exact List.length_pos_iff.2 h.ne
 ·simp
def oP{a:By}(h:aT a=VD)(hl:(own a).length<=300):jC a=0:=by unfold jC;rw[if_pos h,if_neg V7]
def yu(x y:By):aw (x++y)=aw x*10^ln y+aw y:=by
 induction x with
 |nil=>simp[aw]
 |cons b x ih=>rw[List.cons_append,gE,gE,ih,VM,Nat.pow_add,Nat.add_mul,Nat.mul_assoc];omega
def xK(u:Nat)(h:u≠0):(Lib.decDigits u).head?≠Vz 48:=by
 induction u using Nat.strongRecOn with
 |_ u ih=>
  rw[Lib.decDigits];split
  ·rename_i h10;intro e;have:=(j8 h10).2;simp only[List.head?_cons,Option.some.injEq] at e;rw[e] at this;have h48:iL 48=0:=V9;omega
  ·rename_i h10;have:=ih (u/10) V7 V7;obtain⟨_,_,c⟩:=dB (u/10);cases hd:Lib.decDigits (u/10) with
   |nil=>exact absurd hd c
   |cons b r=>rw[hd] at this;simpa using this
def Ca(u:Nat):xZ (Lib.decDigits u):=by
 obtain⟨a,b,c⟩:=dB u;refine⟨a,c,?_⟩;by_cases h:u=0
 ·subst h;exact .inr Xf
 ·exact .inl (xK u h)
def FG{z:Int}(h0: -9223372036854775808<=z)(h1:z<=9223372036854775807):oK (tx (Lib.itoa z)) z:=by
 have hl:∀u:Nat,u<10^20->(Lib.decDigits u).length<=300:=λu hu=>by
  rw[Lib.decDigits_length];exact VI (zj u 20 V9 hu) V9
 have hv:∀u:Nat,aw (Lib.decDigits u)=u:=λu=>(dB u).2.1
 unfold Lib.itoa;split
 ·rename_i h;have:=Fw (Ca z.natAbs) (hl _ V7) (by rw[hv];omega);rw[hv,show -(z.natAbs:Int)=z by omega] at this;exact this
 ·rename_i h;have:=rA (Ca z.toNat) (hl _ V7);rw[hv,show(z.toNat:Int)=z by omega] at this;exact this
def Bb{l:List Nat}(h:kL l):∀q,iG l q=al l/10^q%10:=by
 induction l with
 |nil=>intro q;unfold iG;simp[fv,al,S6]
 |cons x l ih=>
  intro q;have hx:x<1000000:=h x Wa;have ih:=ih (λd hd=>h d (by simp[hd]));rw[oH];by_cases hq:q<6
  ·unfold iG;rw[Nat.div_eq_of_lt hq,Nat.mod_eq_of_lt hq];show x/10^q%10=_;have e:(1000000:Nat)=10^q*(10*10^(5-q)):=by
    rw[<-Nat.pow_succ',<-Nat.pow_add,show q+(5-q+1)=6 by omega]
   rw[e,Nat.mul_assoc,Nat.add_mul_div_left _ _ (Nat.pow_pos V9),Nat.mul_assoc 10,Nat.add_mul_mod_self_left]
  ·obtain⟨r,rfl⟩:∃r,q=r+6:=⟨q-6,V7⟩;have e:iG (x::l) (r+6)=iG l r:=by
    unfold iG;rw[show(r+6)/6=r/6+1 by omega,show(r+6)%6=r%6 by omega];rfl
   have e6:(10:Nat)^6=1000000:=V9;rw[e,ih,Nat.pow_add,VL (10^r),<-Nat.div_div_eq_div_mul,e6,Nat.add_mul_div_left _ _ V9,Nat.div_eq_of_lt hx,Nat.zero_add]
def Cq{v z:Nat}:∀n,z<=n->v<10^n->(∀q,z<=q->q<n->v/10^q%10=0)->v<10^z:=by
 intro n
 induction n with
 |zero=>
  intro h1 h2 _;obtain rfl:z=0:=V7;exact h2
 |succ m ih=>
  intro h1 h2 h3;by_cases e:z=m+1
  ·rw[e];exact h2
  ·refine ih V7 ?_ (λq a b=>h3 q a V7);have h4:=h3 m V7 V7;have h5:v/10^m<10:=by
    rw[Nat.div_lt_iff_lt_mul (Nat.pow_pos V9),<-Nat.pow_succ'];exact h2
   have h6:v/10^m=0:=(Nat.mod_eq_of_lt h5).symm.trans h4;rcases Nat.div_eq_zero_iff.1 h6 with h|h
   ·exact absurd h (Nat.ne_of_gt (Nat.pow_pos V9))
   ·exact h
def Ps{l xs:List Nat}{o z:Nat}{S:ByteArray}(hc:aY l)(hz:6*ln l-o=z)(hd:∀q,q<6*ln l->fv xs (6*ln l-1-q)=48+iG l q)(hb:∀j,j<o->fv xs j=48)(ho:o<6*ln l)(hne:fv xs o≠48)
  (hS:strOfNums ((List.range z).map λj=>((fv xs (o+j):Nat):Int))=S):∃a:By,S=tx a/\xZ a/\aw a=al l/\ln a=z:=by
 have hat:∀k,k<z->fv xs (o+k)=48+iG l (z-1-k):=λk hk=>by
  rw[<-hd (z-1-k) V7,show 6*ln l-1-(z-1-k)=o+k by omega]
 have hlt:∀q,iG l q<10:=λq=>Nat.mod_lt _ V9
 obtain⟨a,ha⟩:∃a:By,(List.range z).map (λj=>UInt8.ofNat (48+iG l (z-1-j)))=a:=⟨_,rfl⟩;have hl:ln a=z:=by rw[<-ha];simp
 have hgt:∀k (h:k<ln a),a[k]=UInt8.ofNat (48+iG l (z-1-k)):=λk h=>by
  subst ha;simp
 have hSa:S=tx a:=by
  rw[<-hS,<-ha];apply ByteArray.ext;apply Array.toList_inj.1;rw[strOfNums_data,bf,List.map_map];apply List.map_congr_left;intro j hj;simp only[List.mem_range] at hj;show UInt8.ofNat ((fv xs (o+j):Nat):Int).toNat=_;rw[Int.toNat_natCast,hat j hj]
 have hzp:0<z:=V7;refine⟨a,hSa,⟨?_,?_,?_⟩,?_,hl⟩
 ·rw[List.all_eq_true];intro b hb;obtain⟨m,hm,rfl⟩:=List.mem_iff_getElem.1 hb;rw[hgt m hm];exact(j8 (hlt _)).1
 ·intro e;rw[e] at hl;simp at hl;omega
 ·left
  rw[List.head?_eq_getElem?,VA V7,hgt 0 V7];intro e;injection e with e
  have h2:=(j8 (hlt (z-1-0))).2;rw[e] at h2;have h3:iL 48=0:=V9;have h4:=hat 0 hzp;rw[Nat.add_zero] at h4;omega
 ·have hV:al l<10^z:=by
   refine Cq (6*ln l) V7 ?_ (λq h1 h2=> ?_)
   ·have:=tj hc.small;have e:B6=10^6:=V9;rw[e,<-Nat.pow_mul] at this;exact this
   ·rw[<-Bb hc.small];have h3:=hd q h2;rw[hb _ V7] at h3;omega
  have key:∀k,k<=z->aw (a.take k)=al l/10^(z-k):=by
   intro k
   induction k with
   |zero=>intro _;rw[Nat.sub_zero,Nat.div_eq_of_lt hV];rfl
   |succ k ih=>
    intro hk;rw[mE (show k<ln a by omega),ih V7,hgt k V7,(j8 (hlt _)).2,Bb hc.small,show z-k=(z-1-k)+1 by omega,Nat.pow_succ,<-Nat.div_div_eq_div_mul,show z-(k+1)=z-1-k by omega];omega
  have:=key z (Vu _);rw[<-hl,List.take_length,hl,Nat.sub_self,Nat.pow_zero,Nat.div_one] at this;exact this
structure wG(z:ByteArray)(f:Nat):Prop where
 f1:f<=1
 pos:f<z.size
 len:z.size-f<=300
 all:Sp z f z.size
 minus:f=1↔∃h:0<z.size,((z[0]'h).toNat:Int)=45
 lead:∀h:f<z.size,1<z.size->((z[f]'h).toNat:Int)≠48
theorem wG.G7(h:wG z f):Kh z:=⟨⟨f,h.f1,h.pos,h.all,h.len,h.minus⟩⟩
def zf{a:By}(h:a.all gh=VD)(m:Nat)(hm:m<ln a):48<=((a[m]).toNat:Int)/\((a[m]).toNat:Int)<=57:=by
 rw[List.all_eq_true] at h;have:=kx (h _ (List.getElem_mem hm));omega
def zk{a:By}(h:aT a=VD)(hl:(own a).length<=300):wG (tx a) (if Lib.hasPrefix a [45] then 1 else 0):=by
 rcases lX h with h|⟨r,rfl,h,h48⟩
 ·rw[h.own] at hl;rw[h.pre];have hp:=List.length_pos_iff.2 h.ne;refine⟨V9,by rw[ak];exact hp,by rw[ak];exact hl,λm _ _ hm=> ?_,⟨λe=>absurd e V9,λ⟨hp,e⟩=> ?_⟩,λhp h1=> ?_⟩
  ·rw[iS];exact zf h.all m _
  ·rw[iS] at e;have:=zf h.all 0 (by rwa[ak] at hp);omega
  ·rw[ak] at h1;show((tx a)[0].toNat:Int)≠48;rw[iS];rcases h.lead with h2|h2
   ·exact a0K
   ·rw[h2] at h1;simp at h1
 ·rw[jd] at hl;rw[qa];have hp:=List.length_pos_iff.2 h.ne;refine⟨V9,by rw[ak];simp;omega,by rw[ak];simp;omega,λm h1 _ hm=> ?_,⟨λ_=>⟨by rw[ak];simp,by rw[iS];rfl⟩,λ_=>rfl⟩,λqw h1=> ?_⟩
  ·rw[iS];simp only[if_true] at h1;obtain⟨k,rfl⟩:∃k,m=k+1:=⟨m-1,V7⟩;rw[ak] at hm;simp only[List.length_cons] at hm;rw[List.getElem_cons_succ];exact zf h.all k V7
  ·show((tx (45::r))[1].toNat:Int)≠48;rw[iS,List.getElem_cons_succ];have h2:=h.lead.resolve_right h48;exact a0K
def Tm{a:By}(h:aT a=VD):EK (tx a)=Lib.hasPrefix a [45]/\Kc (tx a)=aw (own a):=by
 have h1:EK (tx a)=Lib.hasPrefix a [45]:=by unfold EK;rw[bf,kZ]
 refine⟨h1,?_⟩;unfold Kc;rw[h1];rcases lX h with h|⟨r,rfl,h,h48⟩
 ·rw[h.pre,h.own];exact jl a
 ·rw[qa,jd,if_pos rfl,ak,lg];exact jl r
def sD(z:ByteArray):Nat->Nat
 |0=>0
 |k+1=>if z.data.toList.getD k 0=45 then sD z k else 10*sD z k+((z.data.toList.getD k 0).toNat-48)
theorem F5(h:k<z.size)(hg:((z[k]'h).toNat:Int)=45):sD z (k+1)=sD z k:=by
 have e:z.data.toList.getD k 0=z[k]'h:=by
  exact a0c
 show(if z.data.toList.getD k 0=45 then _ else _)=_;rw[e,if_pos (by apply UInt8.toNat_inj.1;show _=45;omega)]
theorem sN{k g:Nat}(h:k<z.size)(hg:((z[k]'h).toNat:Int)=((48+g:Nat):Int)):sD z (k+1)=10*sD z k+g:=by
 have e:z.data.toList.getD k 0=z[k]'h:=by
  exact a0c
 show(if z.data.toList.getD k 0=45 then _ else 10*sD z k+((z.data.toList.getD k 0).toNat-48))=_;rw[e,if_neg (by intro e2;rw[e2] at hg;have:(45:UInt8).toNat=45:=rfl;omega)];omega
def Mt{a:By}(h:a.all gh=VD):∀k,k<=ln a->sD (tx a) k=aw (a.take k)/\sD (tx (45::a)) (k+1)=aw (a.take k):=by
 intro k
 induction k with
 |zero=>intro _;exact⟨rfl,rfl⟩
 |succ k ih=>
  intro hk;obtain⟨h1,h2⟩:=ih V7;have hd:=zf h k V7;have hg:((a[k]'V7).toNat:Int)=((48+iL a[k]:Nat):Int):=by unfold iL;omega
  rw[mE (show k<ln a by omega)];refine⟨?_,?_⟩
  ·rw[sN (g:=iL a[k]) XC (by rw[iS];exact hg),h1];omega
  ·rw[sN (g:=iL a[k]) (by rw[ak];simp;omega) (by rw[iS];exact hg),h2];omega
def Rp{a:By}(h:aT a=VD):sD (tx a) (tx a).size=aw (own a):=by
 rw[ak];rcases lX h with h|⟨r,rfl,h,_⟩
 ·rw[(Mt h.all _ (Vu _)).1,List.take_length,h.own]
 ·rw[List.length_cons,(Mt h.all _ (Vu _)).2,List.take_length,jd]
end
section
open Kp
def Up(v:Int)(w:Vt)(e:Ending)(w':Vt):Prop:=∃t:ByteArray,e=V0 (VW t)/\oK t v/\Ext w w'
def EI(w:Vt)(s:Bool)(v:Vy)(l:List Nat)(hs:bB w w.heap.size v l)(hc:aY l)(hl:ln l<=50):
  VJ prog 284 #[V5 #[VX s,v]] w (Up (kO s l) w):=by
 obtain⟨A,ca,rfl,ha1,ha2,hac⟩:=id hs;unfold VP at ha2;by_cases h0:ln l=0
 ·obtain rfl:l=[]:=List.length_eq_zero_iff.1 h0;clear hac;go_enter func284,ntmps284;go_wp2_with fail
  go_ret;exact⟨_,rfl,by rw[show kO s []=0 by cases s<;>rfl];exact O1,(Below.refl _ _).alloc (Vu _) _⟩
 obtain⟨b,off,rfl,hbw,_⟩:=hac V7;obtain⟨i0,hi,hz0,hz1,hz2⟩:=info_parts GO;obtain⟨p,hp,hpd⟩:=GI hc V7;have HV0:=Vs (show al l≠0 from Nat.ne_of_gt (nQ hc.trim (by rintro rfl;exact h0 rfl)));obtain⟨n,hn⟩:∃n,ln l=n:=⟨_,rfl⟩;have HN:=Vs hn;have HPD:=Vs hpd;have HP:=Vs hp;rw[hn] at ha1 hl h0⊢;have HS:=Vs hs;clear hs hn hpd hp hac;go_enter func284,ntmps284;go_wp2_with(at_make;refine wpList_make_full _ rfl _ _ 119 rfl (w.heap.size+1) 5 i0 (VZ .u8 0) 1 underlying119 hi hz0 hz1 .i64 .i64 _ _ (6*n) rfl rfl V7 V7 XE Wh Wa ?_;intro w1 hown hgrow)
 have hrow:=ai.new w 308 [VX s,VV (Vz ⟨b,off,Vx⟩) n ca];have hb1:VS (w.heap.size+1) (w.alloc (Obj.cells #[VX s,VV (Vz ⟨b,off,Vx⟩) n ca] 308)) w1:=(Below.refl _ _).grown hgrow Wa (λ_ h=>Wb);simp only[VK] at hown⊢;have HBX:=Vs (show ai (w.alloc (Obj.cells #[VX s,VV (Vz ⟨b,off,Vx⟩) n ca] 308)) w.heap.size 308 [VX s,VV (Vz ⟨b,off,Vx⟩) n ca] from hrow);have HX0:=Vs (show VS w.heap.size w (w.alloc (Obj.cells #[VX s,VV (Vz ⟨b,off,Vx⟩) n ca] 308)) from(Below.refl _ _).alloc (Vu _) _);obtain⟨w0,hw0⟩:∃w0,w.alloc (Obj.cells #[VX s,VV (Vz ⟨b,off,Vx⟩) n ca] 308)=w0:=⟨_,rfl⟩;rw[hw0] at hb1 HBX HX0;have ST:=Vs (show yL w0 (w.heap.size+1) l (6*0) (List.replicate (6*n) 0) w1 from⟨xc hown,by rw[List.length_replicate,HN.o],λq hq=>V7,hb1⟩);clear hown hgrow hrow hb1 hw0 hi hz0 hz1 hz2;go_loopw [4] (λi wr=>∃(k:Nat) (xs:List Nat),k<=n/\i=VZ VH (k:Int)/\yL w0 (w.heap.size+1) l (6*k) xs wr) (λi _=>n-(VN i).toNat)
 case atStart=>exact⟨0,_,V7,rfl,ST.o⟩
 case round=>
  obtain⟨i,xs,hi,rfl,hW⟩:=hrel;have hbx:=HBX.o.below hW.ext (Nat.lt_succ_self _);have hc1:=hbx.cell 1;have HW:=Vs hW;by_cases hlt:i<n
  ·exact a0m
  ·obtain rfl:i=n:=V7;have hc0:=hbx.cell 0;have hxw:Ext w wr:=HX0.o.trans (hW.ext.mono V7);have HXW:=Vs hxw;obtain⟨P,hP⟩:∃P,6*i-1-p=P:=⟨_,rfl⟩;have hPl:P<6*i:=by have:=HP.o;rw[HN.o] at this;omega
   have HPV:=Vs (show fv xs P≠48 by
    have:=hW.iL p (by have:=HP.o;rwa[HN.o] at this);rw[HN.o,hP] at this;rw[this];have:=HPD.o;omega)
   clear hW hbx hxw hP;go_wp2_with fail
   go_loopw [3] (λv wi=>∃o:Nat,o<=P/\v=VV (Vz ⟨w.heap.size+1,o,Vx⟩) (6*i-o) (6*i-o)/\(∀j,j<o->fv xs j=48)/\wi=wr) (λv _=>Jh v)
   case atStart=>exact⟨0,V7,rfl,λj hj=>V7,rfl⟩
   case round=>
    obtain⟨o,ho,rfl,hbo,rfl⟩:=hrel;have HBO:=Vs hbo;clear hbo;have hol:o<ln xs:=by rw[HW.o.len,HN.o];omega
    have hco:=HW.o.row.cell hol;obtain⟨y,hy⟩:∃y,fv xs o=y:=⟨_,rfl⟩;rw[hy] at hco;have HO:=Vs hy;obtain⟨z,hz⟩:∃z,6*i-o=z:=⟨_,rfl⟩;have HZ:=Vs hz;rw[hz];have hz1:1<=z:=V7;clear hol hy;by_cases h48:y=48
    ·exact a0l
    ·obtain⟨ns,hns⟩:∃ns,(List.range z).map (λj=>((fv xs (o+j):Nat):Int))=ns:=⟨_,rfl⟩;have hnl:ln ns=z:=by rw[<-hns];simp
     have hcv:=run_convert_bytes_arg (P:=prog) wr 119 5 underlying119 underlying5 (w.heap.size+1) o z z ns hnl (λj hj=>by
      rw[HW.o.row.cell (by rw[HW.o.len,HN.o];omega),<-hns];simp[List.getD,hj]) 9 underlying9
     obtain⟨S,hS⟩:∃S,strOfNums ns=S:=⟨_,rfl⟩;have HSZ:=Vs (show S.size=z by rw[<-hS,strOfNums_size,hnl]);rw[hS] at hcv;have HZB:=Vs (show z<=6*i by omega);have HON:=Vs (show∃a:By,S=tx a/\xZ a/\aw a=al l/\ln a=z from Ps (o:=o) hc (by rw[HN.o];exact hz) (λq hq=>HW.o.iL q (by rwa[HN.o] at hq)) HBO.o (by rw[HN.o];omega) (by rw[HO.o];exact h48) (by rw[hns];exact hS));clear hz hns hnl hS;cases s with
     |false=>
      go_wp2;refine bodyPost_ret (v:= VW S) (by simp[results,results284,go_sem]) rfl ?_;obtain⟨a,e1,e2,e3,e4⟩:=HON.o;exact⟨S,rfl,by rw[e1,show kO Vw l=(aw a:Int) by rw[e3];rfl];exact rA e2 (by have:=HZB.o;omega),HXW.o⟩
     |true=>
      have hsz:=HSZ.o;have hzb:z<=600000:=by have:=HZB.o;omega
      go_wp2;refine bodyPost_ret (v:= VW (⟨#[45]⟩++S)) (by simp[results,results284,go_sem]) rfl ?_;obtain⟨a,e1,e2,e3,e4⟩:=HON.o;exact⟨_,rfl,by rw[e1,show kO VD l= -(aw a:Int) by rw[e3];rfl];exact Fw (a:=a) e2 (by have:=HZB.o;omega) (by rw[e3];exact HV0.o),HXW.o⟩
end
section
open Kp
theorem wG.iL(h:wG z f)(hk:k<z.size):(((z[k]'hk).toNat:Int)=45/\f=1/\k=0)\/∃g:Nat,g<=9/\((z[k]'hk).toNat:Int)=((48+g:Nat):Int):=by
 by_cases hf:f<=k
 ·have:=h.all k hf hk hk;exact .inr ⟨(z[k]'hk).toNat-48,V7,V7⟩
 ·have h1:=h.f1;have e1:f=1:=V7;have e2:k=0:=V7;subst e2;obtain⟨_,e⟩:=h.minus.1 e1;exact .inl ⟨e,e1,rfl⟩
theorem wG.SH(h:wG z 0):DI z:=⟨h.pos,by have:=h.len;omega,h.all,h.lead⟩
theorem TL(h:wG z f)(hk:k<=z.size):sD z k<10^k:=by
 induction k with
 |zero=>exact Nat.one_pos
 |succ k ih=>
  have:=ih V7;rcases h.iL (show k<z.size by omega) with⟨e,_,_⟩|⟨g,hg,e⟩
  ·rw[F5 V7 e,Nat.pow_succ];omega
  ·rw[sN V7 e,Nat.pow_succ];omega
def Fp(z:ByteArray)(f:Nat)(w:Vt)(h:wG z f):VJ prog 309 #[VW z] w λx w'=>x=V0 (VZ VH 0)/\Ext w w':=by
 have hf:=h.f1;by_cases h0:f=0
 ·subst h0;exact nB z w h.SH
 obtain rfl:f=1:=V7;obtain⟨n,hn⟩:∃n,z.size=n:=⟨_,rfl⟩;have hp:0<z.size:=by have:=h.pos;omega
 have lA:1<z.size:=h.pos;have hn3:n<=301:=by have:=h.len;omega
 have hn1:1<n:=V7;have t1:(((z[0]'hp).toNat:Int)==45)=VD:=by
  obtain⟨_,e⟩:=h.minus.1 rfl;exact beq_iff_eq.2 e
 have t2:(((z[1]'lA).toNat:Int)==48)=Vw:=beq_eq_false_iff_ne.2 (h.lead lA lA);have h00:((1:Int)==(n:Int))=Vw:=beq_eq_false_iff_ne.2 V7;have t3:decide ((n:Int)>1)=VD:=decide_eq_true V7;have H:=Vs h.all;have HN:=Vs hn;clear h hf h0;go_enter func309,ntmps309;go_wp2;go_loopw [4] (λi wr=>∃k:Nat,1<=k/\i=VZ VH (k:Int)/\k<=n/\Ext w wr) (λi _=>((n:Int)-VN i).toNat)
 case atStart=>exact⟨1,Vu _,rfl,V7,Below.refl _ _⟩
 case round=>
  obtain⟨k,hk0,rfl,hk,hX⟩:=hrel;have HX:=Vs hX;clear hX;by_cases hlt:k<n
  ·have hb:k<z.size:=V7;have hd:=H.o k hk0 hb hb;have q1:decide (((z[k]'hb).toNat:Int)<48)=Vw:=decide_eq_false V7;have q2:decide (((z[k]'hb).toNat:Int)>57)=Vw:=decide_eq_false V7;clear hd;go_wp2;exact⟨⟨k+1,V7,by go_num,V7,HX.o⟩,Wc⟩
  ·obtain rfl:k=n:=V7;have t9:¬300<(k:Int)-1:=V7;exact ZR
def Te(z:ByteArray)(f:Nat):Int:=if f=1 then -(sD z z.size:Int) else sD z z.size
def Ml(v:Int)(x:Ending):Prop:=∃(u:Int) (ok:Bool),x=V0 (V6 #[VZ VH u,VX ok])/\(ok=VD->u=v)/\u.natAbs<3000000000000000000
def Ev(z:ByteArray)(f:Nat)(w:Vt)(h:wG z f):VJ prog 310 #[VW z] w λx w'=>Ml (Te z f) x/\Ext w w':=by
 have hf:=h.f1;have hp:0<z.size:=by have:=h.pos;omega
 have hs:z.size<=1000000:=by have:=h.len;omega
 by_cases h17:17<z.size
 ·exact a0t
 have H:=Vs h;obtain⟨p1,t1⟩:∃p,(((z[0]'hp).toNat:Int)==45)=p:=⟨_,rfl⟩;have HV:=Vs (show Te z f=if p1 then -(sD z z.size:Int) else sD z z.size by
  unfold Te;cases p1 with
  |true=>rw[if_pos (h.minus.2 ⟨hp,beq_iff_eq.1 t1⟩)];rfl
  |false=>rw[if_neg (λe=>by obtain⟨_,e2⟩:=h.minus.1 e;exact beq_eq_false_iff_ne.1 t1 e2)];rfl)
 clear h;cases p1;all_goals
  go_enter func310,ntmps310;go_wp2;go_loopw [4,5] (λn i wr=>∃(k:Nat),n=VZ VH (sD z k:Nat)/\i=VZ VH (k:Int)/\k<=z.size/\Ext w wr) (λ_ i _=>((z.size:Int)-VN i).toNat)
  case atStart=>exact⟨0,rfl,rfl,V7,Below.refl _ _⟩
  case round=>
   obtain⟨k,rfl,rfl,hk,hX⟩:=hrel;have HX:=Vs hX;have hv:=Nat.lt_of_lt_of_le (TL H.o hk) (FX V7);obtain⟨v,hvv⟩:∃v,sD z k=v:=⟨_,rfl⟩;rw[hvv] at hv⊢;have HS0:=Vs hvv;clear hX hvv;by_cases hlt:k<z.size
   ·by_cases h45:((z[k]'hlt).toNat:Int)=45
    ·have HS:=Vs (F5 hlt h45);have q:(((z[k]'hlt).toNat:Int) !=45)=Vw:=by rw[bne_eq_false_iff_eq];exact h45
     clear h45;go_wp2;exact⟨⟨k+1,by rw[HS.o,HS0.o],by go_num,V7,HX.o⟩,Wc⟩
    ·obtain⟨g,hg,e⟩:=(H.o.iL hlt).resolve_left (λh=>h45 h.1);have HS:=Vs (sN hlt e);have hd:(((z[k]'hlt).toNat:Int)-48)%256=(g:Int):=by rw[e];omega
     have q:(((z[k]'hlt).toNat:Int) !=45)=VD:=WX;have hu:VH.wrap (g:Int)=g:=VQ _ V7;clear e h45;go_wp2;exact⟨⟨k+1,by rw[HS.o,HS0.o];simp,by go_num,V7,HX.o⟩,Wc⟩
   ·obtain rfl:k=z.size:=V7;have w3:VH.wrap (-(v:Int))= -(v:Int):=VQ _ V7;go_wp2;go_ret2;exact⟨⟨_,_,rfl,λ_=>by rw[HV.o,HS0.o];rfl,V7⟩,HX.o⟩
theorem pM{v:Int}(w:Vt)(h:oK z v):VJ prog 309 #[VW z] w λx w'=>x=V0 (VZ VH 0)/\Ext w w':=by
 obtain⟨a,rfl,h1,h2,_⟩:=h;exact Fp _ _ w (zk h1 h2)
theorem vR{v:Int}(w:Vt)(h:oK z v):VJ prog 310 #[VW z] w λx w'=>Ml v x/\Ext w w':=by
 obtain⟨a,rfl,h1,h2,rfl⟩:=h;have e:Te (tx a) (if Lib.hasPrefix a [45] then 1 else 0)=num a:=by
  unfold Te num;rw[Rp h1];cases Lib.hasPrefix a [45]<;>rfl
 rw[<-e];exact Ev _ _ w (zk h1 h2)
theorem oK.G7{v:Int}(h:oK z v):Kh z:=by
 obtain⟨a,rfl,h1,h2,_⟩:=h;exact(zk h1 h2).G7
theorem ou{v:Int}(w:Vt)(h:oK z v):VJ prog 282 #[VW z] w (pO v 51 w):=by
 refine(Ig w z h.G7).mono ?_;rintro e w' ⟨u,l,rfl,h1,h2,h3,h4,h5⟩;obtain⟨a,rfl,k1,k2,rfl⟩:=h;obtain⟨s1,s2⟩:=Tm k1;refine⟨_,_,_,rfl,h1,h2,h3,?_,h4⟩;unfold kO num;rw[h5,s1,s2]
theorem xR{u v:Int}(w:Vt)(ha:oK a u)(hb:oK b v):VJ prog 280 #[VW a,VW b] w λx w'=>x=V0 (VZ VH 0)/\Ext w w':=by
 have KA:=Vs (pM w ha);have KB:=Vs (λW=>pM W hb);clear ha hb;exact a0r
def Us(u v:Int)(x:Ending):Prop:=∃(p q:Int) (ok:Bool),x=V0 (V6 #[VZ VH p,VZ VH q,VX ok])/\p.natAbs<3000000000000000000/\q.natAbs<3000000000000000000/\(ok=VD->p=u/\q=v)
def CQ {a b : ByteArray} {u v : Int} (w : Vt) (ha : oK a u) (hb : oK b v) : VJ prog 281 #[VW a, VW b] w λx w' => Us u v x /\ Ext w w' := by
  have KA := Vs (vR w ha);have KB := Vs (λW => vR W hb);clear ha hb;exact a0u
end
section
open Kp
def Dh(w:Vt)(s:Bool)(v:Vy)(l:List Nat)(hs:bB w w.heap.size v l)(hc:aY l)(hl:ln l<=50):
  VJ prog 339 #[V5 #[VX s,v]] w λe w'=>(∃t:ByteArray,e=V0 (V6 #[VW t,VZ VH 0])/\oK t (kO s l))/\Ext w w':=by
 obtain⟨A,ca,rfl,ha1,ha2,hac⟩:=id hs;have HS:=Vs (λo=>EI (w.alloc o) s _ l (hs.new o) hc hl);clear hac hs;go_enter func339,ntmps339;go_wp2_with(first
  |(go_at_call 309;go_loud (refine(pM W1 HI.o).mono ?_);rintro e W2 ⟨rfl,hX2⟩;have HX2:=Vs (HX1.o.tr hX2);clear hX2)
  |(go_at_call 284;go_loud (refine(HS.o _).mono ?_);rintro e W1 ⟨t,rfl,hi,hX1⟩;have HI:=Vs hi;have HX1:=Vs (Ext.tr ((Below.refl _ _).alloc (Vu _) _) hX1);clear hX1 hi))
 go_ret2;exact⟨⟨_,rfl,HI.o⟩,HX2.o⟩
theorem Ot{l:List Nat}{z:Int}(hc:aY l)(h:kO s l=z)(hz:z.natAbs<10^60):ln l<=50:=by
 rcases Nat.lt_or_ge 50 (ln l) with h1|h1
 ·have hne:l≠[]:=by rintro rfl;simp at h1
  have h2:=sQ hc.trim hne;have h3:al l=z.natAbs:=by rw[<-h];unfold kO;split <;>simp
  have h4:B6^10<=B6^(ln l-1):=Nat.pow_le_pow_right V9 V7;have h5:B6^10=10^60:=Xf;omega
 ·exact h1
theorem Aj{u v:Int}(ha:oK a u)(hb:oK b v)(h:a.size+b.size<=18): -1000000000000000000<=u*v/\u*v<=1000000000000000000:=by
 obtain⟨a,rfl,f1,_,rfl⟩:=ha;obtain⟨b,rfl,f2,_,rfl⟩:=hb;rw[ak,ak] at h;exact jg f1 f2 h
theorem xP{u v:Int}(w:Vt)(ha:oK a u)(hb:oK b v)(hz:(u*v).natAbs<10^60)(ht:aW w):VJ prog 306 #[VW a,VW b] w λe w'=>(∃t:ByteArray,e=V0 (V6 #[VW t,VZ VH 0])/\oK t (u*v))/\Ext w w':=by
 have KB:=Vs (xR w ha hb);have KT:=Vs (λW=>CQ W ha hb);have HT:=Vs ht;have HA:=Vs ha;have HB:=Vs hb;have HZ:=Vs hz;have HM:=Vs (Aj ha hb);have hsa:=ha.size;have hsb:=hb.size;clear ht ha hb hz;obtain⟨p18,h18⟩:∃p,decide ((a.size:Int)+(b.size:Int)<=18)=p:=⟨_,rfl⟩;have H18:=Vs h18;go_enter func306,ntmps306;go_wp2_with(first
  |(go_at_call 281;fail)
  |(go_at_call 280;go_loud (refine KB.o.mono ?_);rintro e W1 ⟨rfl,hX1⟩;have X1:=Vs hX1;clear hX1))
 refine(KT.o W1).mono ?_;rintro e W2 ⟨⟨x,y,ok,rfl,hx,hy,hv⟩,hX2⟩;have X2:=Vs (X1.o.tr hX2);have HV:=Vs hv;clear hX2 hv;obtain⟨z,hz⟩:∃z,VH.wrap (x*y)=z:=⟨_,rfl⟩;have hzb:=Pe (x*y);rw[hz] at hzb;obtain⟨hz0,hz1⟩:=hzb;have HZV:=Vs (show ok=VD->p18=VD->z=u*v fromλh1 h2=>by
  obtain⟨rfl,rfl⟩:=HV.o h1;have:=HM.o (by have:=H18.o;rw[h2,decide_eq_true_eq] at this;omega);rw[<-hz];exact VQ _ V7)
 cases ok<;>cases p18
 all_goals go_wp2_with(first
 |(go_at_call 339;go_loud (refine(Dh W5 s5 v5 l5 hs5 hc5 (Ot hc5 hl5v HZ.o)).mono ?_);rintro e W6 ⟨⟨t,rfl,ht6⟩,hX6⟩;have HX6:=Vs (((X4.o.tr hX5)).tr hX6))
 |(go_at_call 340;go_loud (refine(K7 W4 s3 s4 l3 l4 v3 v4 51 (hs3.grow hX4) hs4 hc3 hc4 hl3 hl4 V9).mono ?_);rintro e W5 ⟨s5,v5,l5,rfl,hs5,hc5,hl5,hl5v,hX5⟩;rw[hv3,hv4] at hl5v)
 |(go_at_call 282;go_loud (refine(ou W3 HB.o).mono ?_);rintro e W4 ⟨s4,v4,l4,rfl,hs4,hc4,hl4,hv4,hX4⟩;have X4:=Vs (X3.o.tr hX4))
 |(go_at_call 282;go_loud (refine(ou W2 HA.o).mono ?_);rintro e W3 ⟨s3,v3,l3,rfl,hs3,hc3,hl3,hv3,hX3⟩;have X3:=Vs (X2.o.tr hX3))
 |(go_at_call 182;go_loud (refine(jq z W2 hz0 hz1 (HT.o.below X2.o (Vu _))).mono ?_);rintro e W3 ⟨rfl,hX3⟩;have X3:=Vs (X2.o.tr hX3)))
 all_goals go_ret2
 all_goals first
  |exact⟨⟨_,rfl,by rw[hl5v] at ht6;exact ht6⟩,HX6.o⟩
  |exact⟨⟨_,rfl,by rw[<-HZV.o WW WW];exact FG hz0 hz1⟩,X3.o⟩
theorem Kr{l:List Nat}{u v:Int}(hc:aY l)(h:kO s l=u+ -v):lr u v=if ln l=0 then 0 else if s then -1 else 1:=by
 unfold lr;by_cases h0:ln l=0
 ·obtain rfl:l=[]:=List.length_eq_zero_iff.1 h0;have:kO s []=0:=by cases s<;>rfl
  have e1:([]:List Nat).length=0:=rfl;rw[if_neg V7,if_neg V7,if_pos e1]
 ·have hp:=nQ hc.trim (by rintro rfl;exact h0 rfl);rw[if_neg h0];cases s with
  |true=>
   have:kO VD l= -(al l:Int):=rfl;rw[if_pos V7];rfl
  |false=>
   have:kO Vw l=(al l:Int):=rfl;rw[if_neg V7,if_pos V7];rfl
theorem zd{u v:Int}(w:Vt)(ha:oK a u)(hb:oK b v):VJ prog 279 #[VW a,VW b] w λe w'=>e=V0 (V6 #[VZ VH (lr u v),VZ VH 0])/\Ext w w':=by
 have KB:=Vs (xR w ha hb);have KT:=Vs (λW=>CQ W ha hb);have HA:=Vs ha;have HB:=Vs hb;clear ha hb;obtain⟨c,hc⟩:∃c,lr u v=c:=⟨_,rfl⟩;rw[hc];have HC:=Vs hc;clear hc;go_enter func279,ntmps279;go_wp2_with(first
  |(go_at_call 281;fail)
  |(go_at_call 280;go_loud (refine KB.o.mono ?_);rintro e W1 ⟨rfl,hX1⟩;have X1:=Vs hX1;clear hX1))
 refine(KT.o W1).mono ?_;rintro e W2 ⟨⟨x,y,ok,rfl,hx,hy,hv⟩,hX2⟩;have X2:=Vs (X1.o.tr hX2);have HV:=Vs hv;clear hX2 hv;cases ok
 ·go_wp2_with(first
   |(go_at_call 307;go_loud (refine(M0 W5 s3 s5 l3 l5 v3 v5 51 (hs3.grow (hX4.trans (hX5.mono hX4.size))) hs5 hc3 hc5 hl3 hl5 V9).mono ?_);rintro e W6 ⟨s6,v6,l6,rfl,hs6,hc6,hl6,hv6,hX6⟩;rw[hv3,hv5,hv4] at hv6;have HR:=Vs (Kr hc6 hv6);clear hv6;obtain⟨A6,c6,e6,_,_,_⟩:=id hs6;subst e6;have X6:=Vs ((X4.o.tr hX5).tr hX6))
   |(go_at_call 308;go_loud (refine(wk W4 s4 v4 l4 51 hs4 hc4 hl4).mono ?_);rintro e W5 ⟨s5,v5,l5,rfl,hs5,hc5,hl5,hv5,hX5⟩)
   |(go_at_call 282;go_loud (refine(ou W3 HB.o).mono ?_);rintro e W4 ⟨s4,v4,l4,rfl,hs4,hc4,hl4,hv4,hX4⟩;have X4:=Vs (X3.o.tr hX4))
   |(go_at_call 282;go_loud (refine(ou W2 HA.o).mono ?_);rintro e W3 ⟨s3,v3,l3,rfl,hs3,hc3,hl3,hv3,hX3⟩;have X3:=Vs (X2.o.tr hX3)))
  all_goals go_ret2
  all_goals refine⟨?_,X6.o.alloc X6.o.size _⟩
  all_goals rw[<-HC.o,HR.o]
  all_goals first
   |rfl
   |(simp_all;done)
   |trace_state
 ·obtain⟨rfl,rfl⟩:=HV.o rfl;have hcc:=HC.o;unfold lr at hcc;by_cases h1:x<y
  ·rw[if_pos h1] at hcc;exact a0L
  ·rw[if_neg h1] at hcc;by_cases h2:y<x
   ·rw[if_pos h2] at hcc;exact a0L
   ·rw[if_neg h2] at hcc;exact a0L
end
section
open Kp
def Nv{l:By}(h:Dg (tx l)):xZ l:=by
 obtain⟨_,h2⟩:=Ae h;have hp:=h.pos;rw[ak] at hp;refine⟨h2,List.length_pos_iff.1 hp,?_⟩;by_cases h1:1<ln l
 ·left
  have:=h.lead (by rw[ak];exact hp) (by rw[ak];exact h1);rw[iS] at this;rw[List.head?_eq_getElem?,VA hp];intro e;injection e with e
  rw[e] at this;exact this rfl
 ·obtain⟨b,rfl⟩:∃b,l=[b]:=List.length_eq_one_iff.1 V7;by_cases e:b=48
  ·right;rw[e]
  ·left;simpa using e
def A8(z:ByteArray):Int:=if(aL z).1 then -(cJ (aL z).2.1 (aL z).2.1.size:Int) else cJ (aL z).2.1 (aL z).2.1.size
def CF(z:ByteArray):Nat:=if(aL z).2.2.2 then cJ (aL z).2.2.1 (aL z).2.2.1.size else 1
theorem nS(h:jB z):oK (pN (aL z)) (A8 z)/\oK (pD (aL z)) (CF z:Nat):=by
 unfold jB at h;unfold pN pD A8 CF;obtain⟨⟨g,n,d,sl⟩,hv⟩:∃v,aL z=v:=⟨_,rfl⟩;rw[hv] at h⊢;dsimp only at h⊢;obtain⟨h1,h2,h3⟩:=h;unfold vm at h3;simp only[Bool.and_eq_true,Bool.not_eq_true',decide_eq_false_iff_not,Bool.or_eq_true,Bool.and_eq_false_iff,beq_eq_false_iff_ne,beq_iff_eq] at h3;obtain⟨⟨⟨⟨q1,q2⟩,q3⟩,q4⟩,q5⟩:=h3;rw[<-oT n] at h1 q2 q3⊢;rw[<-oT d] at h2 q4⊢;obtain⟨a,ha⟩:∃a:By,n.data.toList=a:=⟨_,rfl⟩;obtain⟨b,hb⟩:∃a:By,d.data.toList=a:=⟨_,rfl⟩;rw[ha] at h1 q2 q3⊢;rw[hb] at h2 q4⊢;rw[ak] at q3 q4;have da:=Nv h1;refine⟨?_,?_⟩
 ·rw[jl];refine TS da V7 g (λhg h0=> ?_);rcases q2 with q|q
  ·rw[hg] at q;cases q
  ·apply q;rw[pH];rcases da.lead with h|h
   ·exfalso;have:=da.all;have hne:=da.ne
    match a,hne with
    |c::r,_=>
     simp only[List.all_cons,Bool.and_eq_true] at this;rw[gE] at h0;have h5:=kx this.1;have h6:iL c=0:=by
      rcases Nat.eq_zero_or_pos (iL c) with h|h
      ·exact h
      ·have:=Nat.mul_pos h (Nat.pow_pos (a:=10) (n:=ln r) V9);omega
     apply h;exact a0M
   ·exact h
 ·cases sl with
  |false=>exact rA (a:=[49]) ⟨V9,V9,.inl V9⟩ V9
  |true=>
   rw[if_pos rfl,if_pos rfl,jl];exact rA (Nv (h2 rfl)) V7
def QQ(u v:Int)(x:Ending):Prop:=∃(a b:Int) (ok:Bool),x=V0 (V6 #[VZ VH a,VZ VH b,VX ok])/\(ok=VD->a=u/\b=v/\a.natAbs<1000000000/\b.natAbs<1000000000)
def Qu(z:ByteArray)(x:Ending):Prop:=QQ (A8 z) ((CF z:Nat):Int) x
def xe(z:ByteArray)(w:Vt)(hs:z.size<=1000000)(h:jB z):VJ prog 277 #[VW z] w λx w'=>Qu z x/\Ext w w':=by
 have KS:=Vs (nT z w hs);unfold jB at h;show VJ prog _ _ _ (λx w'=>QQ (A8 z) ((CF z:Nat):Int) x/\Ext w w');unfold A8 CF;obtain⟨⟨g,n,d,sl⟩,hv⟩:∃v,aL z=v:=⟨_,rfl⟩;rw[hv] at h KS⊢;dsimp only at h⊢;obtain⟨h1,h2,h3⟩:=h;clear h3 hv;have D1:=Vs h1;have D2:=Vs h2;clear h1 h2;obtain⟨p,hp⟩:∃p,cJ n n.size=p:=⟨_,rfl⟩;obtain⟨q,hq⟩:∃q,cJ d d.size=q:=⟨_,rfl⟩;have HP:=Vs (show n.size<=9->p<1000000000 fromλh9=>by rw[<-hp];exact Nat.lt_of_lt_of_le (qd (D1.o.iL V7) (Vu _)) (Au h9));have HQ:=Vs (show sl=VD->d.size<=9->q<1000000000 fromλhs h9=>by rw[<-hq];exact Nat.lt_of_lt_of_le (qd ((D2.o hs).iL V7) (Vu _)) (Au h9));have S1:=Vs (λW (h9:n.size<=9)=>show VJ prog 253 #[VW n] W (λx w'=>x=V0 (VZ VH (p:Nat))/\Ext W w') by rw[<-hp];exact kP n W (D1.o.iL V7) h9);have S2:=Vs (λW (hs:sl=VD) (h9:d.size<=9)=>show VJ prog 253 #[VW d] W (λx w'=>x=V0 (VZ VH (q:Nat))/\Ext W w') by rw[<-hq];exact kP d W ((D2.o hs).iL V7) h9);rw[hp,hq];clear hp hq;by_cases h9n:n.size<=9
 case neg=>
  have t9:(n.size:Int)>9:=V7;exact a0N
 by_cases h9d:d.size<=9
 case neg=>
  have t9:(d.size:Int)>9:=V7;have t8:¬(n.size:Int)>9:=V7;exact a0N
 have t9:¬(d.size:Int)>9:=V7;have t8:¬(n.size:Int)>9:=V7;have hpb:=HP.o h9n;have w1:VH.wrap (-(p:Int))= -(p:Int):=VQ _ V7;cases sl with
 |false=>
  cases g;all_goals
   go_enter func277,ntmps277;go_wp2_with(first
    |(go_at_call 253;go_loud (refine(S1.o _ h9n).mono ?_);rintro e W2 ⟨rfl,hX2⟩;have HX2:=Vs (HX1.o.tr hX2);clear hX2)
    |(go_at_call 250;go_must(refine KS.o.mono ?_);unfold pT;rintro e W1 ⟨rfl,hX1⟩;have HX1:=Vs hX1;clear hX1))
   go_ret3
   exact⟨⟨_,_,_,rfl,λ_=>⟨rfl,rfl,V7,V9⟩⟩,HX2.o⟩
 |true=>
  have hqb:=HQ.o rfl h9d;cases g;all_goals
   go_enter func277,ntmps277;go_wp2_with(first
    |(go_at_call 253;have hX:=HX2;clear HX2;go_loud (refine(S2.o _ WW h9d).mono ?_);rintro e W3 ⟨rfl,hX3⟩;have HX3:=Vs (hX.o.tr hX3);clear hX3)
    |(go_at_call 253;go_loud (refine(S1.o _ h9n).mono ?_);rintro e W2 ⟨rfl,hX2⟩;have HX2:=Vs (HX1.o.tr hX2);clear hX2)
    |(go_at_call 250;go_must(refine KS.o.mono ?_);unfold pT;rintro e W1 ⟨rfl,hX1⟩;have HX1:=Vs hX1;clear hX1))
   go_ret3
   exact⟨⟨_,_,_,rfl,λ_=>⟨rfl,rfl,V7,V7⟩⟩,HX3.o⟩
def LF(a b:ByteArray)(w:Vt)(ha:a.size<=1000000)(hb:b.size<=1000000)(oa:jB a)(ob:jB b)(ht:aW w):VJ prog 276 #[VW a,VW b] w λe w'=>e=V0 (VZ VH 0)/\Ext w w':=by
 have KA:=Vs (js a w ha ht);have HT:=Vs ht;have OA:=Vs oa;have OB:=Vs ob;clear oa ob;go_enter func276,ntmps276;go_wp2_with(first
  |(go_at_call 227;have hX:=X1;clear X1;go_loud (refine(js b _ hb (HT.o.below hX.o (Vu _))).mono ?_);rintro e W2 ⟨⟨k2,rfl,hk2⟩,hX2⟩;obtain rfl:=hk2.2 OB.o;clear hk2;have X2:=Vs (hX.o.tr hX2))
  |(go_at_call 227;go_loud (refine KA.o.mono ?_);rintro e W1 ⟨⟨k,rfl,hk⟩,hX1⟩;obtain rfl:=hk.2 OA.o;clear hk;have X1:=Vs hX1;clear hX1))
 go_ret;exact⟨rfl,X2.o⟩
def wQ{a b c d:ByteArray}{u v x y:Int}(w:Vt)(ha:oK a u)(hb:oK b v)(hc:oK c x)(hd:oK d y)(h1:(u*v).natAbs<10^60)(h2:(x*y).natAbs<10^60)(ht:aW w):VJ prog 278 #[VW a,VW b,VW c,VW d] w λe w'=>(∃s t:ByteArray,e=V0 (V6 #[VW s,VW t,VZ VH 0])/\oK s (u*v)/\oK t (x*y))/\Ext w w':=by
 have KA:=Vs (xP w ha hb h1 ht);have HT:=Vs ht;have KB:=Vs (λW (h:Ext w W)=>xP W hc hd h2 (HT.o.below h (Vu _)));clear ha hb hc hd h1 h2;go_enter func278,ntmps278;go_wp2_with(first
  |(go_at_call 306;have hX:=X1;clear X1;go_loud (refine(KB.o _ hX.o).mono ?_);rintro e W2 ⟨⟨t2,rfl,ht2⟩,hX2⟩;have HT2:=Vs ht2;clear ht2;have X2:=Vs (hX.o.tr hX2))
  |(go_at_call 306;go_loud (refine KA.o.mono ?_);rintro e W1 ⟨⟨t1,rfl,ht1⟩,hX1⟩;have HT1:=Vs ht1;clear ht1;have X1:=Vs hX1;clear hX1))
 go_ret3
 exact⟨⟨_,_,rfl,HT1.o,HT2.o⟩,X2.o⟩
def lW(a b:ByteArray):Int:=lr (A8 a*(CF b:Nat)) (A8 b*(CF a:Nat))
def wU{x y:Int}(hx:x.natAbs<1000000000)(hy:y.natAbs<1000000000): -1000000000000000000<=x*y/\x*y<=1000000000000000000:=by
 have h:(x*y).natAbs<=1000000000*1000000000:=by rw[Int.natAbs_mul];exact Nat.mul_le_mul V7 V7
 omega
def yE(a b:ByteArray)(w:Vt)(ha:a.size<=100000)(hb:b.size<=100000)(oa:jB a)(ob:jB b)(h1:(A8 a*(CF b:Nat)).natAbs<10^60)(h2:(A8 b*(CF a:Nat)).natAbs<10^60)(ht:aW w):VJ prog 249 #[VW a,VW b] w λe w'=>e=V0 (V6 #[VZ VH (lW a b),VZ VH 0])/\Ext w w':=by
 have KC:=Vs (LF a b w V7 V7 oa ob ht);have IA:=Vs (λW=>xe a W V7 oa);have IB:=Vs (λW=>xe b W V7 ob);have PA:=Vs (λW=>nA a W V7);have PB:=Vs (λW=>nA b W V7);obtain⟨i1,i2⟩:=nS oa;obtain⟨i3,i4⟩:=nS ob;obtain⟨c,hc⟩:∃c,lW a b=c:=⟨_,rfl⟩;rw[hc];unfold lW at hc;unfold Qu at IA IB;obtain⟨na,hna'⟩:∃x,pN (aL a)=x:=⟨_,rfl⟩;obtain⟨da,hda'⟩:∃x,pD (aL a)=x:=⟨_,rfl⟩;obtain⟨nb,hnb'⟩:∃x,pN (aL b)=x:=⟨_,rfl⟩;obtain⟨db,hdb'⟩:∃x,pD (aL b)=x:=⟨_,rfl⟩;rw[hna'] at PA i1;rw[hda'] at PA i2;rw[hnb'] at PB i3;rw[hdb'] at PB i4;obtain⟨n1,e1⟩:∃x,A8 a=x:=⟨_,rfl⟩;obtain⟨n2,e2⟩:∃x,A8 b=x:=⟨_,rfl⟩;obtain⟨d1,e3⟩:∃x:Int,((CF a:Nat):Int)=x:=⟨_,rfl⟩;obtain⟨d2,e4⟩:∃x:Int,((CF b:Nat):Int)=x:=⟨_,rfl⟩;rw[e1] at i1 h1 hc IA;rw[e2] at i3 h2 hc IB;rw[e3] at i2 h2 hc IA;rw[e4] at i4 h1 hc IB;have PP:=Vs (λW (h:Ext w W)=>wQ W i1 i4 i3 i2 h1 h2 (ht.below h (Vu _)));have HC:=Vs hc;clear hna' hda' hnb' hdb' ht i1 i2 i3 i4 e1 e2 e3 e4 h1 h2 hc oa ob;go_enter func249,ntmps249;go_wp2_with(go_at_call 276;go_loud (refine KC.o.mono ?_);rintro e W1 ⟨rfl,hX1⟩;have X1:=Vs hX1;clear hX1)
 refine(IA.o W1).mono ?_;rintro e W2 ⟨⟨x1,y1,ok1,rfl,ha2⟩,hX2⟩;have X2:=Vs (X1.o.tr hX2);have HA2:=Vs ha2;clear hX2 ha2;go_wp2_with(fail)
 refine(IB.o W2).mono ?_;rintro e W3 ⟨⟨x2,y2,ok2,rfl,hb2⟩,hX3⟩;have X3:=Vs (X2.o.tr hX3);have HB2:=Vs hb2;clear hX3 hb2;by_cases hok:ok1=VD/\ok2=VD
 ·obtain⟨rfl,rfl⟩:=hok;obtain⟨rfl,rfl,b1,b2⟩:=HA2.o rfl;obtain⟨rfl,rfl,b3,b4⟩:=HB2.o rfl;have m1:=wU b1 b4;have m2:=wU b3 b2;have w1:VH.wrap (x1*y2)=x1*y2:=VQ _ V7;have w2:VH.wrap (x2*y1)=x2*y1:=VQ _ V7;have hcc:=HC.o;unfold lr at hcc;obtain⟨u,hu⟩:∃u,x1*y2=u:=⟨_,rfl⟩;obtain⟨v,hv⟩:∃v,x2*y1=v:=⟨_,rfl⟩;rw[hu,hv] at hcc;rw[hu] at w1;rw[hv] at w2;by_cases g1:u<v
  ·rw[if_pos g1] at hcc;exact a0O
  ·rw[if_neg g1] at hcc;by_cases g2:v<u
   ·rw[if_pos g2] at hcc;exact a0O
   ·rw[if_neg g2] at hcc;exact a0O
 ·have HK:=Vs hok;obtain⟨u,hu⟩:∃u,VH.wrap (x1*y2)=u:=⟨_,rfl⟩;obtain⟨v,hv⟩:∃v,VH.wrap (x2*y1)=v:=⟨_,rfl⟩;clear hok;cases ok1<;>cases ok2
  case true.true=>exact absurd ⟨rfl,rfl⟩ HK.o
  all_goals go_wp2_with(first
   |(go_at_call 279;go_loud (refine(zd _ hs.o ht.o).mono ?_);rw[HC.o];rintro e W7 ⟨rfl,hX7⟩;have X7:=Vs (X6.o.tr hX7))
   |(go_at_call 278;go_loud (refine(PP.o _ X5.o).mono ?_);rintro e W6 ⟨⟨s,t,rfl,hs,ht⟩,hX6⟩;have hs:=Vs hs;have ht:=Vs ht;have X6:=Vs (X5.o.tr hX6))
   |(go_at_call 255;with_reducible refine(PB.o _).mono ?_;rintro e W5 ⟨rfl,hX5⟩;have X5:=Vs (X4.o.tr hX5))
   |(go_at_call 255;go_loud (refine(PA.o _).mono ?_);rintro e W4 ⟨rfl,hX4⟩;have X4:=Vs (X3.o.tr hX4)))
  all_goals go_ret2
  all_goals exact⟨rfl,X7.o⟩
end
section
open Kp
def Dv(s:By)(w:Vt)(hs:ln s<=1000000):
  VJ prog 45 #[VW (tx s)] w λe w'=>e=V0 (VX (pX s))/\w'=w:=by
 go_enter func45,ntmps45;go_wp2
 go_loop [3] (λi=>F4 s i) (λi=>((ln s:Int)-VN i).toNat)
 case atStart=>exact⟨0,V7,rfl,rfl⟩
 case round=>
  exact YC
end
section
open Kp
def xx(s:By):Lib.splitB (tx [32]) 0 (Lib.countB (tx s) (tx [32])) (tx s)=(Lib.split s [32]).map tx:=by
 have h:=Lib.splitB_data (tx [32]) 0 (Lib.countB (tx s) (tx [32])) (tx s);rw[bf,bf] at h;have hc:Lib.countB (tx s) (tx [32])=Lib.count s [32]:=by unfold Lib.countB;rw[bf,bf]
 rw[hc] at h⊢;have h2:Lib.split s [32]=(Lib.splitB (tx [32]) 0 (Lib.count s [32]) (tx s)).map (·.data.toList):=h.symm;rw[h2,List.map_map];have:(tx∘λx:ByteArray=>x.data.toList)=id:=by funext x;exact oT x
 rw[this,List.map_id]
def yc(s:By):(Lib.split s [32]).length=Lib.countB (tx s) (tx [32])+1:=by
 have h:=Lib.splitB_all (tx [32]) V9 0 _ (tx s) rfl;rw[xx,VC] at h;exact h
def G9(s:By)(w:Vt)(hs:ln s<=65536)(hm:fG w):
  VJ prog 60 #[VW (tx s),VW ⟨#[32]⟩] w λe w'=>e=V0 (VV (Vz ⟨w.heap.size,0,Vx⟩) (Lib.split s [32]).length (Lib.split s [32]).length)/\w'=w.alloc (.cells (wm (Lib.split s [32])).toArray 9):=by
 obtain⟨m,hm⟩:=hm;refine(strings_Split (tx s) (tx [32]) m w XC hm V9).mono ?_;rintro e w' ⟨rfl,rfl⟩;rw[yc];refine⟨rfl,?_⟩;rw[xx,List.map_map]
 rfl
end
section
open Kp
attribute [local go_sem] aM fC fH iy gU iA ik gW gV im gY eP eN eV eK eY eR eQ er eu ey eh ej dY eT eO eU eS eI eM eJ eX fm fu ft fo dX eZ Dt fN kU kR jV
structure Sh(e:Ed):Prop where
 kind:e.kind=8\/e.kind=12/\xt e.number=VD
 used:gx e=e
 gaps:e.gaps=[]
 wide:pj 0 (iO e)=0
 num:numsOf e=[]
 sized:MW e
 ne:fk [] (jc e)≠[]
def P4(w:Vt)(e:Ed)(he:Sh e):VJ prog 42 #[V5 (aE e df)] w λr w'=>r=V0 (VZ VH 0)/\VS w.heap.size w w':=by
 have h:=B7 w e Vx 0 (by rw[he.gaps];exact lU _ _);have hz:fx e=0:=by
  unfold fx;rw[if_neg (by have:=he.kind;omega),he.used,(Hu e e).2 rfl];rfl
 rw[hz,he.gaps] at h;exact h
def Md(B b:Nat)(e:Ed)(w:Vt)(he:Sh e)(h:oR B b 0 0 [] w)(hg:Gl w)(hB:9<=B)(hBw:B<=w.heap.size):VJ prog 58 #[sV b,V5 (aE e df)] w (sY B b 0 0 (fk [] (jc e)) w):=by
 have h:VJ prog 58 #[sV b,V5 (aE e df)] w (F8 B b e w):=by
  rcases he.kind with k|k
  ·exact O9 B b e Vx 0 0 w h he.sized k hg hB hBw
  ·exact LW B b e Vx 0 0 w h he.sized k.1 hg hB hBw
 unfold F8 at h;rwa[he.wide,he.num] at h
structure U4(w:Vt)(e:Ed)(wx:Vt):Prop where
 ed:iF wx w.heap.size e df
 low:VS w.heap.size w wx
def oR.fresh(w:Vt)(B:Nat)(hB:B<=w.heap.size):oR B w.heap.size 0 0 [] (w.alloc (.cells #[VY Vx,VV Vx 0 0,VZ VH 0,VZ VH 0] 123)):=
 ⟨VY Vx,.inl rfl,hB,VV Vx 0 0,VG w _,World.ownsRow_nil _ _ _ _,by simp[Value.ownBlock]⟩
theorem yF(w:Vt)(e:Ed)(he:Sh e)(hgl:Gl w)(hB:9≤w.heap.size):VJ prog 22 #[.agg (aE e df)] w fun r w'=>r= .returned (.tuple #[.string (tx (fk [] (jc e))),.int .i64 0])∧VS w.heap.size w w':=by
 have HB0:=Vs (show VS w.heap.size w (w.alloc (.cells (aE e df) 68)) from(Below.refl _ _).alloc (Vu _) _)
 have cf:=Vs (P4 (w.alloc (.cells (aE e df) 68)) e he)
 have E0:=Vs (iF.new w e df)
 have HE:=Vs he
 have HGL:=Vs hgl
 have k1:(e.kind==1)=Vw:=by rw[beq_eq_false_iff_ne];have:=he.kind;omega
 have k6:(e.kind==6)=Vw:=by rw[beq_eq_false_iff_ne];have:=he.kind;omega
 have hr:e.kind=12→xt e.number=VD:=fun h=>by rcases he.kind with k|k;omega;exact k.2
 obtain⟨b,k12⟩:∃b,(e.kind==12)=b:=⟨_,rfl⟩
 obtain⟨c,kr⟩:∃c,xt e.number=c:=⟨_,rfl⟩
 have hbc:b=Vw∨c=VD:=by
  cases b
  ·exact .inl rfl
  ·exact .inr (by rw[←kr];exact hr (by simpa using k12))
 clear he hgl hr
 go_enter func22,ntmps22
 go_upto_region 4 with(first
  |(refine wpList_load_row rfl 68 _ rfl _ rfl 68 _ (0,0) _ E0.out underlying68 rfl (by kernel_rfl) ?_)
  |(go_at_call 42;refine cf.out.mono ?_;rintro r W1 ⟨rfl,hB1⟩;have E1:=Vs (E0.out.below hB1 E0.out.lt);have ec1:=fun i=>E1.out.cell i;have hz1:=hB1.size;simp only[VK] at hz1;have HB1:=Vs (HB0.out.trans (hB1.mono HB0.out.size));clear hB1))
 go_cut [6] (fun s6 wx=>s6= .bool c∧U4 w e wx)
 case first =>
  go_region_with (go_at_call 55;go_loud (refine(sq _).mono ?_;rintro r W2 ⟨rfl,hW2⟩;have HB2:=Vs (show VS W1.heap.size W1 W2 by rw[hW2];exact(Below.refl _ W1).drew.alloc (Vu _) _);have hlk:=Bz W2 W1.heap.size 6 (by rw[hW2];exact VG W1.drew _) e.number VD;have E2:=Vs (E1.out.below HB2.out E1.out.lt);have ec2:=fun i=>E2.out.cell i;simp only[if_true] at hlk;rw[kr] at hlk;clear hW2))
  all_goals go_wp2_with fail
  all_goals go_meet
  all_goals exact⟨rfl,E2.out,HB1.out.trans (HB2.out.mono (by omega))⟩
 case rest=>
  obtain⟨rfl,ed,hlow⟩:=hcut
  have ED:=Vs ed
  have ec:=fun i=>ED.out.cell i
  have HLOW:=Vs hlow
  have hlz:=hlow.size
  have HN:=Vs (fun n=>(show iF (wc.drewN n) w.heap.size e df from ED.out))
  clear ed hlow ec1
  go_upto_block 0 with(fail)
  go_cut [] (fun wz=>U4 w e wz)
  case first =>
   rcases hbc with rfl|rfl<;>(try cases b)<;>(go_wp2;go_quiet (fail);go_wp2;go_meet;exact⟨HN.out _,below_drewN HLOW.out _⟩)
  case rest=>
   obtain⟨ed2,low2⟩:=hcut
   have hz2:=low2.size
   have L2:=Vs low2
   have WF:=Vs (oR.fresh wc w.heap.size hz2)
   have B2:=Vs (L2.out.alloc hz2 (.cells #[.pointer Vx,.slice Vx 0 0,.int .i64 0,.int .i64 0] 123))
   have E3:=Vs (ed2.alloc (.cells #[.pointer Vx,.slice Vx 0 0,.int .i64 0,.int .i64 0] 123))
   have cw:=Vs (Md w.heap.size wc.heap.size e _ HE.out WF.out (HGL.out.keep B2.out hB) hB (by simp;omega))
   clear ed2 low2 ec hlz E0 hbc
   go_wp2_with(first
    |(refine wpList_load_row rfl 68 _ rfl _ rfl 68 _ (0,0) _ E3.out underlying68 rfl (by kernel_rfl) ?_)
    |(go_at_call 58;go_must(refine cw.out.mono ?_);rintro r W5 ⟨rfl,hw5,hk5⟩;have c2:=hw5.Qy;have c3:=hw5.S8;obtain⟨p5,_,hb5⟩:=hw5;have HB5:=Vs hb5;have K5:=Vs hk5;clear hb5 hk5)
    |(go_at_call 59;go_must(refine(nz _ _ _ _ _ _ _ HB5.out HE.out.ne).mono ?_);rintro r W6 ⟨rfl,hk6⟩;have K6:=Vs (K5.out.trans hk6);clear hk6))
   go_ret2
   exact⟨rfl,B2.out.trans K6.out.low⟩
def PW(B b:Nat)(r:sF)(w:Vt)(h:gI B w.heap.size b r w)(hk:kindOf (rW r).1=8)(hg:Gl w)(hB:9<=B)(hBw:B<=w.heap.size):
  VJ prog 61 #[sV b] w λe w'=>e=V0 (V5 (aE (rE r).1 df))/\gI B w.heap.size b (rE r).2 w'/\bK B b w w':=by
 have hbl:=h.hi;have H0:=Vs h;have HG:=Vs hg;have HK:=Vs hk;have HE:=Vs (show rE r=({J9 8 with number:=(rI (rW r).2).1},(rI (rW r).2).2) by simp only[rE,hk];rfl);clear h hg hk;go_enter func61,ntmps61;go_wp2_with(first
  |(go_at_call 125;refine(Hb B w.heap.size b _ _ H1.o (HG.o.keep (bK.low K1.o) hB) hB Xt).mono ?_;rintro e W2 ⟨rfl,h2,k2⟩;have H2:=Vs h2;have C2:=Vs (EC.keep (C:=_) C1.o k2 V7);have Z2:=Vs (EC.keep (C:=_) Z1.o k2 V7);have K2:=Vs (bK.trans K1.o k2);have z2:=k2.low.size;(try simp only[VK,Vt.size_setCell] at z2);have cc2:=λi=>C2.o.cell i;have cf2:=λi=>C2.o.frozen i;clear h2 k2)
  |(go_at_call 123;refine(FA _).mono ?_;rintro e W0 ⟨rfl,hW0⟩;have H00:=Vs (show gI B w.heap.size b r W0 by rw[hW0];exact(H0.o.alloc _).alloc _);have K00:=Vs (show bK B b w W0 by rw[hW0];exact((bK.refl B b w).alloc hBw _).alloc Wf _);have M00:=Vs (show W0.heap[w.heap.size+1]?=Vz (.map uM 12) by rw[hW0];have:=VG (w.alloc (.cells (aE ef df) 68)) (.map uM 12);rw[VK] at this;exact this);have Z00:=Vs (show EC W0 w.heap.size (aE ef df) by rw[hW0];exact(EC.new w _).alloc _);have zz0:W0.heap.size=w.heap.size+1+1:=(by rw[hW0];simp);clear hW0)
  |(go_at_call 124;refine(vg B w.heap.size b _ _ H00.o).mono ?_;rintro e W1 ⟨rfl,h1,k1⟩;have z1:=k1.low.size;have hlk:=ML W1 (w.heap.size+1) 12 ((k1.others _ V7 V7).trans M00.o) (rW r).1;rw[HK.o] at hlk;have H1:=Vs (h1.alloc (.cells (aE (J9 8) df) 68));have C1:=Vs (EC.new W1 (aE (J9 8) df));have Z1:=Vs ((Z00.o.keep k1 V7).alloc (.cells (aE (J9 8) df) 68));have K1:=Vs ((K00.o.trans k1).alloc V7 (.cells (aE (J9 8) df) 68));clear h1 k1)
  |(refine wpList_build rfl 68 _ rfl V8 ?_;rw[show Value.agg (Option.getD (prog.built 68 _) #[])=V5 (aE (J9 8) df) from V8])
  |(refine wpList_load_row rfl 68 _ rfl _ rfl 68 _ (0,0) _ (EC.heap (C2.o.put 35 (VZ VH (rI (rW r).2).1))) underlying68 rfl V8 ?_)
  |(refine wpList_store_row rfl 68 _ _ rfl _ _ rfl rfl 68 _ (by first|exact(EC.heap (Z2.o.dz (p:=⟨W1.heap.size,35,Vx⟩) Xt (VZ VH (rI (rW r).2).1)))|exact VG W1 _) V8 V8 V8 ?_))
 refine bodyPost_ret (results_cell_row rfl _ _ _ _ _ (0,0) _ rfl (setRow_heap (EC.heap (Z2.o.dz (p:=⟨W1.heap.size,35,Vx⟩) Xt (VZ VH (rI (rW r).2).1))) _) underlying68 rfl V8) rfl ⟨congrArg (λc=>Ending.returned (V5 c)) ?_,?_,?_⟩
 ·rw[HE.o];kernel_rfl
 ·rw[HE.o];exact gI.row (H2.o.dz (p:=⟨W1.heap.size,35,Vx⟩) Xt (VZ VH (rI (rW r).2).1)) (Vu _) _
 ·exact bK.row (K2.o.dz (p:=⟨W1.heap.size,35,Vx⟩) Xt Xt (VZ VH (rI (rW r).2).1)) (Vu _) V7 _
def wj{fn:Func}{p u:Tmp}(h:fn.results=#[.cell p 68,.tmp u])(tmps:Array Vy)(w:Vt)(g:Nat)(cs:Array Vy)
  (hp:tmps.getD p VB=VY (Vz ⟨g,0,Vx⟩))(hg:w.heap[g]?=Vz (.cells cs 68 (0,0)))(hi:(prog.info? 68).map (·.size)=Vz cs.size):
  (results fn tmps).run prog w= .ok (V6 #[V5 cs,tmps.getD u VB]) w:=by
 have hp':tmps[p]?.getD VB=VY (Vz ⟨g,0,Vx⟩):=by simpa using hp
 have hl:=run_loadVar_row (P:=prog) w g 68 68 cs (0,0) _ hg underlying68 rfl hi;simp[results,h,hp',asAddr,hl,Result.andThen]
def En(s:By)(hs:ln s<=65536):(Lib.split s [32]).length<=65537:=by
 have hc:Lib.countB (tx s) (tx [32])=Lib.count s [32]:=by unfold Lib.countB;rw[bf,bf]
 rw[yc,hc,Lib.count_one];have:=List.count_le_length (a:=(32:UInt8)) (l:=s);omega
def Rf(w:Vt)(ws:List By)(h1:ln ws<=1000000)(h2:∀x∈ws,ln x<=100000):
  gI w.heap.size (((w.alloc (.cells (aE ef df) 68)).alloc (.cells (wm ws).toArray 9)).alloc (.cells #[VV (Vz ⟨w.heap.size+1,0,Vx⟩) (ws).length (ws).length,VX Vw] 128)).heap.size (w.heap.size+1+1) (ws,Vw) (((w.alloc (.cells (aE ef df) 68)).alloc (.cells (wm ws).toArray 9)).alloc (.cells #[VV (Vz ⟨w.heap.size+1,0,Vx⟩) (ws).length (ws).length,VX Vw] 128)):=by
 have hb:=VG ((w.alloc (.cells (aE ef df) 68)).alloc (.cells (wm ws).toArray 9)) (.cells #[VV (Vz ⟨w.heap.size+1,0,Vx⟩) (ln ws) (ln ws),VX Vw] 128);have hc:(((w.alloc (.cells (aE ef df) 68)).alloc (.cells (wm ws).toArray 9)).alloc (.cells #[VV (Vz ⟨w.heap.size+1,0,Vx⟩) (ws).length (ws).length,VX Vw] 128)).heap[w.heap.size+1]?=Vz (.cells (wm ws).toArray 9):=by
  rw[heap_alloc_old _ _ Wa];have:=VG (w.alloc (.cells (aE ef df) 68)) (.cells (wm ws).toArray 9);exact YG
 simp only[VK] at hb;refine⟨V7,Wa,⟨w.heap.size+1,0,ln ws,hb,V7,Wa,Vu _,h1,⟨_,hc⟩,λj hj=> ?_⟩,h2⟩;have hj':j<ln ws:=hj;rw[Nat.zero_add,bZ.cell (l:=wm ws) hc j];simp[hj']
def Kb(s:By)(E:Ed)(w:Vt)(he:Sh E)(hs:ln s<=65536)(hER:rE (Lib.split s [32],Vw)=(E,([],Vw)))(hk:kindOf (rW (Lib.split s [32],Vw)).1=8)(ht:fk [] (jc E)=s)(hx:∀x∈Lib.split s [32],ln x<=1000)(hg:Gl w)(hB:9<=w.heap.size):
  VJ prog 23 #[VW (tx s)] w λr w'=>r=V0 (V6 #[V5 (aE E df),VZ VH 0])/\VS w.heap.size w w':=by
 have hB0:VS w.heap.size w (w.alloc (.cells (aE ef df) 68)):=(Below.refl _ _).alloc (Vu _) _;have hB2:VS w.heap.size w (((w.alloc (.cells (aE ef df) 68)).alloc (.cells (wm (Lib.split s [32])).toArray 9)).alloc (.cells #[VV (Vz ⟨w.heap.size+1,0,Vx⟩) ((Lib.split s [32])).length ((Lib.split s [32])).length,VX Vw] 128)):=(hB0.alloc Wa _).alloc Wf _;have csp:=Vs (G9 s (w.alloc (.cells (aE ef df) 68)) hs (hg.keep hB0 hB).maxl);have CR:=PW w.heap.size (w.heap.size+1+1) (Lib.split s [32],Vw) _ (Rf w _ (by have:=En s hs;omega) (λx h=>by have:=hx x h;omega)) hk (hg.keep hB2 hB) hB Wf;rw[hER] at CR;have CR:=Vs CR;have HG:=Vs hg;have HE:=Vs he;have HT:=Vs ht;have Z2:=Vs (show EC (((w.alloc (.cells (aE ef df) 68)).alloc (.cells (wm (Lib.split s [32])).toArray 9)).alloc (.cells #[VV (Vz ⟨w.heap.size+1,0,Vx⟩) ((Lib.split s [32])).length ((Lib.split s [32])).length,VX Vw] 128)) w.heap.size (aE ef df) from((EC.new w _).alloc _).alloc _);have HB2:=Vs hB2;clear hg hB0 hx hB2 hER hk he ht;go_enter func23,ntmps23;go_wp2_with(first
  |(go_at_call 60;refine csp.o.mono ?_;rintro e W1 ⟨rfl,hW1⟩;subst hW1)
  |(go_at_call 61;go_must(refine CR.o.mono ?_);rintro e W3 ⟨rfl,hrd,hkp⟩;obtain⟨c1,_,A,cp,c0⟩:=(hrd.alloc (.cells (aE E df) 68)).cells;have hz3:=hkp.low.size;simp only[VK] at hz3;have Z3:=Vs ((Z2.o.keep hkp V7).alloc (.cells (aE E df) 68));have C3:=Vs (EC.new W3 (aE E df));have L3:=Vs ((HB2.o.trans hkp.low).alloc V7 (.cells (aE E df) 68));simp only[] at c1;simp only[List.length_nil] at c0;have ctx:=Vs (yF (W3.alloc (.cells (aE E df) 68)) E HE.o (HG.o.keep L3.o hB) Wf);clear hrd hkp)
  |(go_at_call 22;go_must(refine ctx.o.mono ?_);rintro r W5 ⟨rfl,hB5⟩;rw[HT.o];have Z5:=Vs (show EC W5 w.heap.size (aE ef df) from(hB5.block _ Z3.o.lt).trans Z3.o);have C5:=Vs (show EC W5 W3.heap.size (aE E df) from(hB5.block _ C3.o.lt).trans C3.o);have L5:=Vs (L3.o.trans (hB5.mono L3.o.size));have hz5:=hB5.size;simp only[VK] at hz5;clear hB5)
  |(refine wpList_store_row rfl 68 _ _ rfl _ _ rfl rfl 68 _ (EC.heap Z5.o) V8 V8 V8 ?_)
  |(refine wpList_load_row rfl 68 _ rfl _ rfl 68 _ (0,0) _ (EC.heap C5.o) underlying68 rfl V8 ?_)
  |(refine wpList_load_row rfl 68 _ rfl _ rfl 68 _ (0,0) _ (EC.heap C3.o) underlying68 rfl V8 ?_)
  |(refine wpList_store_row rfl 68 _ _ rfl _ _ rfl rfl 68 _ (VG W3 _) V8 V8 V8 ?_))
 refine bodyPost_ret (wj rfl _ _ _ _ rfl (setRow_heap (EC.heap Z5.o) _) V8) rfl ?_;exact⟨rfl,ah L5.o (Vu _) _⟩
def ew{ops:Array Oper}{rest:List Oper}{o:Oper}{a:Act}{w:Vt}{Q:Exit->Act->Vt->Prop}(hw:Region.wanted o (yielded ops a.tmps)=VD)(x:Operand)(ho:o.op= .load 68 x)
  (g:Nat)(hx:a.eval x=VY (Vz ⟨g,0,Vx⟩))(cs:Array Vy)(hg:w.heap[g]?=Vz (.cells cs 68 (0,0)))(hi:(prog.info? 68).map (·.size)=Vz cs.size)
  (h:wpList prog ops Q rest (a.put o.dst (V5 cs)) w):wpList prog ops Q (o::rest) a w:=
 wpList_step λ_ hK=>by
  rw[if_pos hw];exact wp_load_row 68 x ho g hx 68 cs (0,0) _ hg underlying68 rfl hi (hK _ _ h)
def o9{ops:Array Oper}{rest:List Oper}{o:Oper}{a:Act}{w:Vt}{Q:Exit->Act->Vt->Prop}(hw:Region.wanted o (yielded ops a.tmps)=VD)(t:VR)(parts:Array (Nat×Operand))(ho:o.op= .build t parts)
  (hf:(prog.built t (parts.map λ(i,x)=>(i,a.eval x)).toList).isSome=VD)
  (h:wpList prog ops Q rest (a.put o.dst (V5 ((prog.built t (parts.map λ(i,x)=>(i,a.eval x)).toList).getD #[]))) w):wpList prog ops Q (o::rest) a w:=
 wpList_step λ_ hK=>by
  rw[if_pos hw];exact wp_build t parts ho hf (hK _ _ h)
def qP:Ed:={J9 8 with number:=3}
def PN:Ed:={J9 12 with number:=5,index:=1}
abbrev Qx:By:=[107,101,114,102,32,51]
abbrev UF:By:=[114,101,109,111,118,101,32,111,112,101,110,105,110,103,32,49]
def vk:fk [] (jc qP)=Qx:=Xf
def GK:fk [] (jc PN)=UF:=Xf
def LS{e:Ed}{n:Int}(hk:e.kind=8\/e.kind=12/\xt e.number=VD)(h2:gx e=e)(h3:e.gaps=[])(h4:iO e=[n])(h5:numsOf e=[])(h6:e.text=[])(hn:0<=n/\n<=9)(h7:fk [] (jc e)≠[]):Sh e:=
 ⟨hk,h2,h3,by rw[h4];rcases(show n=0\/n=1\/n=2\/n=3\/n=4\/n=5\/n=6\/n=7\/n=8\/n=9 by omega) with rfl|rfl|rfl|rfl|rfl|rfl|rfl|rfl|rfl|rfl<;>rfl,h5,
  ⟨(by rw[h4];intro m hm;obtain rfl:=List.mem_singleton.1 hm;exact⟨V7,V7⟩),(by rw[h5];intro a ha;cases ha),(by rw[h6];exact Nat.zero_le _)⟩,h7⟩
def Gn:Sh qP:=LS (.inl rfl) rfl rfl (n:=3) rfl rfl rfl V9 (by rw[vk];decide)
def QY:Sh PN:=LS (.inr ⟨rfl,rfl⟩) rfl rfl (n:=1) rfl rfl rfl V9 (by rw[GK];decide)
def Iw(w:Vt)(hg:Gl w)(hB:9<=w.heap.size):VJ prog 7 #[] w λr w'=>r=V0 (VX VD)/\VS w.heap.size w w':=by
 have c1:=yF w qP Gn hg hB;rw[vk] at c1;have c1:=Vs c1;have HG:=Vs hg;have n2:bz w w.heap.size Vx 0 qP.gaps:=lU _ _;clear hg n2;go_enter func7,ntmps7;go_wp2_with(first
  |(go_at_call 24;refine(rM _ qP Vx Vx 0 0 (lU _ _) (lU _ _)).mono ?_;rintro r W4 ⟨rfl,hB4⟩;have L4:=Vs (L3.o.trans (hB4.mono L3.o.size));clear hB4)
  |(go_at_call 23;refine(Kb Qx qP W2 Gn V9 V8 V8 vk Xf (HG.o.keep L2.o hB) V7).mono ?_;rintro r W3 ⟨rfl,hB3⟩;have C3:=Vs (EC.new W3 (aE qP df));have L3:=Vs ((L2.o.trans (hB3.mono L2.o.size)).alloc (by have:=hB3.size;omega) (.cells (aE qP df) 68));clear hB3)
  |(go_at_call 22;refine(yF W1 PN QY (HG.o.keep L1.o hB) V7).mono ?_;rw[GK];rintro r W2 ⟨rfl,hB2⟩;have hz2:=hB2.size;have L2:=Vs (L1.o.trans (hB2.mono L1.o.size));clear hB2)
  |(go_at_call 22;go_must(refine c1.o.mono ?_);rintro r W1 ⟨rfl,hB1⟩;have hz1:=hB1.size;have L1:=Vs hB1;clear hB1)
  |(refine ew Wl _ rfl _ rfl _ (EC.heap C3.o) V8 ?_)
  |(refine wpList_store_row rfl 68 _ _ rfl _ _ rfl rfl 68 _ (VG W3 _) V8 V8 V8 ?_)
  |(refine o9 Wl 68 #[(0,.const (VZ VH 12)),(9,.const (VZ VH 5)),(1,.const (VZ VH 1))] rfl V8 ?_;go_must(rw[show Value.agg (Option.getD (prog.built 68 _) #[])=V5 (aE PN df) from V8]))
  |(refine o9 Wl 68 #[(0,.const (VZ VH 8)),(9,.const (VZ VH 3))] rfl V8 ?_;go_must(rw[show Value.agg (Option.getD (prog.built 68 _) #[])=V5 (aE qP df) from V8])))
 go_ret;exact⟨rfl,L4.o⟩
end
end Go.Proofs.YtmliacdegmklaaaGreatDoor
