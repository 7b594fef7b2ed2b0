/- ChangeReplays of kingpostlaw58: part 17 of its proof (merged and shortened by program). -/
import Derived.Deep.Slices
import Derived.Deep.Fields
import Derived.OpenShut
import Derived.ChangeSame
import Derived.WideShapes
import Derived.Laws.ResultCell
import Derived.Test.YtmliacdegmklaaaGreatDoorM05
import Derived.Test.YtmliacdegmklaaaGreatDoorM11
set_option linter.unusedVariables false
set_option linter.unusedSimpArgs false
set_option linter.defProp false
set_option maxHeartbeats 8000000
set_option maxRecDepth 100000
open Go.RowKit Go.Shelf Go.Proofs.Tryz
open Array renaming getElem?_eq_some_iff→Vz
open Bool renaming false→Vp,true→Vv,and_eq_true_iff→Vw
open Go renaming World→Vl,Value→Vr,undef→Vs,wpOp_step→Vx,Calls→VC,maxLen→VJ,TypeId→VK,Addr→VM,Rows→VP
open Go.AllReady renaming cons→VH,nil→VO
open Go.Ending renaming returned→VV
open Go.IntKind renaming i64→VA
open Go.IntWalk renaming i64_in→VI
open Go.Lib renaming hid→Vk
open Go.RowKit renaming intOf→VG,Below→VL
open Go.Value renaming slice→VQ,string→VR,bool→VS,pointer→VT,int→VU,agg→VW,tuple→VX
open Go.World renaming alloc_heap_new→Vy,size_alloc→VF
open List renaming getD_eq_getElem?_getD→Vn,getElem?_eq_getElem→Vt,length_map→Vu,length_append→VD
open Nat renaming le_refl→Vm,le_trans→VB,mul_comm→VE
open Option renaming none→Vo,some→Vq
open Option.some renaming inj→VN
open Go.Proofs.YtmliacdegmklaaaGreatDoor
namespace Go.Proofs.YtmliacdegmklaaaGreatDoor
section
open Kp Go.ChangeShapes Go.WideShapes Go.Deep
def aN:prog.cellsOf 3=1:=VZ
def B9:prog.cellsOf 4=1:=VZ
def lL:prog.cellsOf 55=1:=VZ
def nM:prog.cellsOf 9=1:=VZ
def Ih:prog.cellsOf 60=1:=VZ
def xU:prog.cellsOf 54=7:=VZ
def xt:prog.cellsOf 57=5:=VZ
def yx:prog.cellsOf 59=3:=VZ
def yA:prog.cellsOf 64=3:=VZ
def yt:prog.cellsOf 66=5:=VZ
def yz:prog.cellsOf 30=4:=VZ
def JZ:prog.cellsOf 84=2:=VZ
def yI:prog.cellsOf 62=6:=VZ
def xK:prog.cellsOf 68=37:=VZ
section
variable {H : Type} {enc : VK × Vr → H} {w : Vl} {base : Nat} {sp : Nat → Bool} {held : Bool}
def QF{n:Int}(h:(Lit.int .i64 n).wf=Vv):bj n:=by
 simp only[Lit.wf,Bool.and_eq_true,decide_eq_true_eq] at h;exact h
def cZ{n:Nat}{c:Vr}{x:DataW H×List MemPlace}(h:DataW.trod enc prog w base sp held n 3 [c]=Vq x):∃k,c= .int .i64 k/\bj k:=by
 obtain⟨k,hc,_,hw⟩:=DataW.trod_int underlying3 h;exact⟨k,by simpa using hc,QF hw⟩
def Rk{n:Nat}{c:Vr}{x:DataW H×List MemPlace}(h:DataW.trod enc prog w base sp held n 4 [c]=Vq x):∃k,c= .bool k:=by
 obtain⟨k,hc,_⟩:=DataW.trod_bool underlying4 h;exact⟨k,by simpa using hc⟩
def Ck{n:Nat}{c:Vr}{x:DataW H×List MemPlace}(h:DataW.trod enc prog w base sp held n 55 [c]=Vq x):∃k:By,c= .string (tx k):=by
 obtain⟨k,hc,_⟩:=DataW.trod_string underlying55 h;exact⟨k.data.toList,by rw[lr];simpa using hc⟩
def Rm{n:Nat}{c:Vr}{x:DataW H×List MemPlace}(h:DataW.trod enc prog w base sp held n 9 [c]=Vq x):∃k:By,c= .string (tx k):=by
 obtain⟨k,hc,_⟩:=DataW.trod_string underlying9 h;exact⟨k.data.toList,by rw[lr];simpa using hc⟩
def QB{α:Type}{xs:List α}{n i:Nat}(h:xs.length=n)(hi:i<n):∃y,xs[i]?=Vq y:=⟨_,Vt VY⟩
def gK{t:VK}{m k:Nat}{fs:Array Field}{f:Field}{l:List Vr}{xs:List (DataW H×List MemPlace)}(hlen:xs.length=fs.size)
  (hg:∀(i:Nat) (f:Field),fs[i]?=Vq f->DataW.trod enc prog w base sp held m f.type ((l.drop f.offset).take (prog.cellsOf f.type))=xs[i]?)(i:Nat)(hk:prog.cellsOf t=k)(hf:fs[i]?=Vq f)(ht:f.type=t):
  ∃y,xs[i]?=Vq y/\DataW.trod enc prog w base sp held m t ((l.drop f.offset).take k)=Vq y:=by
 obtain⟨y,hy⟩:=QB hlen (Vz.1 hf).1;subst ht hk;exact⟨y,hy,(hg i f hf).trans hy⟩
def LD{n:Nat}{c0 c1:Vr}{x:DataW H×List MemPlace}(h:DataW.trod enc prog w base sp held n 84 [c0,c1]=Vq x):∃(gf:Int) (gt:Int),c0= .int .i64 gf/\bj gf/\c1= .int .i64 gt/\bj gt:=by
 obtain⟨xs,m,_,_,_,hlen,hg⟩:=DataW.trod_struct underlying84 h;obtain⟨y0,hy0,g0⟩:=gK hlen hg 0 aN rfl rfl;obtain⟨a0,e0,b0⟩:=cZ g0;obtain⟨y1,hy1,g1⟩:=gK hlen hg 1 aN rfl rfl;obtain⟨a1,e1,b1⟩:=cZ g1;exact⟨a0,a1,e0,b0,e1,b1⟩
def addr_add(b o k:Nat):(⟨b,o,Vo⟩:VM).add k=⟨b,o+k,Vo⟩:=by unfold VM.add;split <;>simp_all
def IZ{n:Nat}{c:Vr}{x:DataW H×List MemPlace}(h:DataW.trod enc prog w base sp held n 60 [c]=Vq x):
  ∃(ga:Option VM) (gc:Nat) (gl:List (Int×Int)),c= .slice ga gl.length gc/\cj w w.heap.size ga gc gl/\∀p∈gl,bj p.1/\bj p.2:=by
 rcases open_slice underlying60 h with⟨hc,_⟩|⟨a,len,cap,m,n',D,Pl,hc,hb,hl,hm,hmm,hx,hi⟩
 ·obtain rfl:c= .slice Vo 0 0:=by simpa using hc
  exact⟨Vo,0,[],rfl,lM _ _,λp hp=>by cases hp⟩
 ·obtain rfl:c= .slice (Vq a) len cap:=by simpa using hc
  have hml:len<=m:=by rw[hmm];split <;>omega
  have each:∀i,i<len->∃p:Int×Int,w.cell? (a.add (i*2))=Vq (.int .i64 p.1)/\w.cell? ((a.add (i*2)).add 1)=Vq (.int .i64 p.2)/\bj p.1/\bj p.2:=by
   intro i hil;obtain⟨cs',hcs,ht⟩:=hi i VY;rw[JZ] at hcs;obtain⟨_,hlen,hat⟩:=Vl.cells?_some hcs
   match cs',hlen with
   |[u0,u1],_=>
    obtain⟨p,q,rfl,hp,rfl,hq⟩:=LD ht;have h0:=hat 0 VY;have h1:=hat 1 VY;have e0:(a.add (i*2)).add 0=a.add (i*2):=by unfold VM.add;simp
    rw[e0] at h0;exact⟨(p,q),h0,h1,hp,hq⟩
  have hch:∃f:Nat->Int×Int,∀i,i<len->w.cell? (a.add (i*2))=Vq (.int .i64 (f i).1)/\w.cell? ((a.add (i*2)).add 1)=Vq (.int .i64 (f i).2)/\bj (f i).1/\bj (f i).2:=
   ⟨λi=>if h:i<len then Classical.choose (each i h) else(0,0),λi hil=>by
    have:=Classical.choose_spec (each i hil);simpa only[dif_pos hil] using this⟩
  obtain⟨f,hf⟩:=hch;refine⟨Vq a,cap,(List.range len).map f,V5,⟨XJ,hm,λh0=> ?_⟩,?_⟩
  ·have h0':0<len:=by simpa using h0
   obtain⟨b,o,s⟩:=a;cases s with
   |some k=>
    have:=(hf 0 h0').1;simp only[Nat.zero_mul,VM.add,if_true] at this;simp only[World.cell?] at this;split at this<;>simp at this
   |none=>
    refine⟨b,o,rfl,?_,λj hj=> ?_⟩
    ·have:=(hf 0 h0').1;rw[addr_add] at this;exact Vl.block_lt_of_cell? w _ this
    ·have hj':j<len:=by simpa using hj
     obtain⟨q1,q2,_⟩:=hf j hj';rw[addr_add] at q1 q2;rw[addr_add] at q2;rw[VE] at q1 q2;simp only[List.getElem_map,List.getElem_range];exact⟨q1,q2⟩
  ·intro p hp;obtain⟨i,hir,rfl⟩:=List.mem_map.1 hp;exact(hf i (by simpa using hir)).2.2
def xV{n:Nat}{c0 c1 c2 c3 c4 c5 c6:Vr}{x:DataW H×List MemPlace}(h:DataW.trod enc prog w base sp held n 54 [c0,c1,c2,c3,c4,c5,c6]=Vq x):∃(sx:Int) (sy:Int) (srise:Int) (srun:Int) (gable:Bool) (splate:Int) (sover:Int),c0= .int .i64 sx/\bj sx/\c1= .int .i64 sy/\bj sy/\c2= .int .i64 srise/\bj srise/\c3= .int .i64 srun/\bj srun/\c4= .bool gable/\c5= .int .i64 splate/\bj splate/\c6= .int .i64 sover/\bj sover:=by
 obtain⟨xs,m,_,_,_,hlen,hg⟩:=DataW.trod_struct underlying54 h;obtain⟨y0,hy0,g0⟩:=gK hlen hg 0 aN rfl rfl;obtain⟨a0,e0,b0⟩:=cZ g0;obtain⟨y1,hy1,g1⟩:=gK hlen hg 1 aN rfl rfl;obtain⟨a1,e1,b1⟩:=cZ g1;obtain⟨y2,hy2,g2⟩:=gK hlen hg 2 aN rfl rfl;obtain⟨a2,e2,b2⟩:=cZ g2;obtain⟨y3,hy3,g3⟩:=gK hlen hg 3 aN rfl rfl;obtain⟨a3,e3,b3⟩:=cZ g3;obtain⟨y4,hy4,g4⟩:=gK hlen hg 4 B9 rfl rfl;obtain⟨a4,e4⟩:=Rk g4;obtain⟨y5,hy5,g5⟩:=gK hlen hg 5 aN rfl rfl;obtain⟨a5,e5,b5⟩:=cZ g5;obtain⟨y6,hy6,g6⟩:=gK hlen hg 6 aN rfl rfl;obtain⟨a6,e6,b6⟩:=cZ g6;exact⟨a0,a1,a2,a3,a4,a5,a6,e0,b0,e1,b1,e2,b2,e3,b3,e4,e5,b5,e6,b6⟩
def pV{n:Nat}{c0 c1 c2 c3 c4:Vr}{x:DataW H×List MemPlace}(h:DataW.trod enc prog w base sp held n 57 [c0,c1,c2,c3,c4]=Vq x):∃(oside:Int) (oleft:By) (oright:By) (olow:By) (ohigh:By),c0= .int .i64 oside/\bj oside/\c1= .string (tx oleft)/\c2= .string (tx oright)/\c3= .string (tx olow)/\c4= .string (tx ohigh):=by
 obtain⟨xs,m,_,_,_,hlen,hg⟩:=DataW.trod_struct underlying57 h;obtain⟨y0,hy0,g0⟩:=gK hlen hg 0 aN rfl rfl;obtain⟨a0,e0,b0⟩:=cZ g0;obtain⟨y1,hy1,g1⟩:=gK hlen hg 1 lL rfl rfl;obtain⟨a1,e1⟩:=Ck g1;obtain⟨y2,hy2,g2⟩:=gK hlen hg 2 lL rfl rfl;obtain⟨a2,e2⟩:=Ck g2;obtain⟨y3,hy3,g3⟩:=gK hlen hg 3 lL rfl rfl;obtain⟨a3,e3⟩:=Ck g3;obtain⟨y4,hy4,g4⟩:=gK hlen hg 4 lL rfl rfl;obtain⟨a4,e4⟩:=Ck g4;exact⟨a0,a1,a2,a3,a4,e0,b0,e1,e2,e3,e4⟩
def xj{n:Nat}{c0 c1 c2:Vr}{x:DataW H×List MemPlace}(h:DataW.trod enc prog w base sp held n 59 [c0,c1,c2]=Vq x):∃(zkind:Int) (zwidth:Int) (zdepth:Int),c0= .int .i64 zkind/\bj zkind/\c1= .int .i64 zwidth/\bj zwidth/\c2= .int .i64 zdepth/\bj zdepth:=by
 obtain⟨xs,m,_,_,_,hlen,hg⟩:=DataW.trod_struct underlying59 h;obtain⟨y0,hy0,g0⟩:=gK hlen hg 0 aN rfl rfl;obtain⟨a0,e0,b0⟩:=cZ g0;obtain⟨y1,hy1,g1⟩:=gK hlen hg 1 aN rfl rfl;obtain⟨a1,e1,b1⟩:=cZ g1;obtain⟨y2,hy2,g2⟩:=gK hlen hg 2 aN rfl rfl;obtain⟨a2,e2,b2⟩:=cZ g2;exact⟨a0,a1,a2,e0,b0,e1,b1,e2,b2⟩
def ym{n:Nat}{c0 c1 c2:Vr}{x:DataW H×List MemPlace}(h:DataW.trod enc prog w base sp held n 64 [c0,c1,c2]=Vq x):∃(lkind:Int) (lside:Int) (lweight:By),c0= .int .i64 lkind/\bj lkind/\c1= .int .i64 lside/\bj lside/\c2= .string (tx lweight):=by
 obtain⟨xs,m,_,_,_,hlen,hg⟩:=DataW.trod_struct underlying64 h;obtain⟨y0,hy0,g0⟩:=gK hlen hg 0 aN rfl rfl;obtain⟨a0,e0,b0⟩:=cZ g0;obtain⟨y1,hy1,g1⟩:=gK hlen hg 1 aN rfl rfl;obtain⟨a1,e1,b1⟩:=cZ g1;obtain⟨y2,hy2,g2⟩:=gK hlen hg 2 lL rfl rfl;obtain⟨a2,e2⟩:=Ck g2;exact⟨a0,a1,a2,e0,b0,e1,b1,e2⟩
def pX{n:Nat}{c0 c1 c2 c3 c4:Vr}{x:DataW H×List MemPlace}(h:DataW.trod enc prog w base sp held n 66 [c0,c1,c2,c3,c4]=Vq x):∃(awidth:Int) (adepth:Int) (aspacing:Int) (aload:Int) (aspan:Int),c0= .int .i64 awidth/\bj awidth/\c1= .int .i64 adepth/\bj adepth/\c2= .int .i64 aspacing/\bj aspacing/\c3= .int .i64 aload/\bj aload/\c4= .int .i64 aspan/\bj aspan:=by
 obtain⟨xs,m,_,_,_,hlen,hg⟩:=DataW.trod_struct underlying66 h;obtain⟨y0,hy0,g0⟩:=gK hlen hg 0 aN rfl rfl;obtain⟨a0,e0,b0⟩:=cZ g0;obtain⟨y1,hy1,g1⟩:=gK hlen hg 1 aN rfl rfl;obtain⟨a1,e1,b1⟩:=cZ g1;obtain⟨y2,hy2,g2⟩:=gK hlen hg 2 aN rfl rfl;obtain⟨a2,e2,b2⟩:=cZ g2;obtain⟨y3,hy3,g3⟩:=gK hlen hg 3 aN rfl rfl;obtain⟨a3,e3,b3⟩:=cZ g3;obtain⟨y4,hy4,g4⟩:=gK hlen hg 4 aN rfl rfl;obtain⟨a4,e4,b4⟩:=cZ g4;exact⟨a0,a1,a2,a3,a4,e0,b0,e1,b1,e2,b2,e3,b3,e4,b4⟩
def yl{n:Nat}{c0 c1 c2 c3:Vr}{x:DataW H×List MemPlace}(h:DataW.trod enc prog w base sp held n 30 [c0,c1,c2,c3]=Vq x):∃(twidth:Int) (tlength:Int) (tlap:Int) (ttail:Int),c0= .int .i64 twidth/\bj twidth/\c1= .int .i64 tlength/\bj tlength/\c2= .int .i64 tlap/\bj tlap/\c3= .int .i64 ttail/\bj ttail:=by
 obtain⟨xs,m,_,_,_,hlen,hg⟩:=DataW.trod_struct underlying30 h;obtain⟨y0,hy0,g0⟩:=gK hlen hg 0 aN rfl rfl;obtain⟨a0,e0,b0⟩:=cZ g0;obtain⟨y1,hy1,g1⟩:=gK hlen hg 1 aN rfl rfl;obtain⟨a1,e1,b1⟩:=cZ g1;obtain⟨y2,hy2,g2⟩:=gK hlen hg 2 aN rfl rfl;obtain⟨a2,e2,b2⟩:=cZ g2;obtain⟨y3,hy3,g3⟩:=gK hlen hg 3 aN rfl rfl;obtain⟨a3,e3,b3⟩:=cZ g3;exact⟨a0,a1,a2,a3,e0,b0,e1,b1,e2,b2,e3,b3⟩
def Da{n:Nat}{c0 c1 c2 c3 c4 c5:Vr}{x:DataW H×List MemPlace}(h:DataW.trod enc prog w base sp held n 62 [c0,c1,c2,c3,c4,c5]=Vq x):∃(bwidth:Int) (bdepth:Int) (blength:Int) (bcount:Int) (bcost:Int) (ga:Option VM) (gc:Nat) (gl:List (Int×Int)),c0= .int .i64 bwidth/\bj bwidth/\c1= .int .i64 bdepth/\bj bdepth/\c2= .int .i64 blength/\bj blength/\c3= .int .i64 bcount/\bj bcount/\c4= .int .i64 bcost/\bj bcost/\c5= .slice ga gl.length gc/\cj w w.heap.size ga gc gl/\∀p∈gl,bj p.1/\bj p.2:=by
 obtain⟨xs,m,_,_,_,hlen,hg⟩:=DataW.trod_struct underlying62 h;obtain⟨y0,hy0,g0⟩:=gK hlen hg 0 aN rfl rfl;obtain⟨a0,e0,b0⟩:=cZ g0;obtain⟨y1,hy1,g1⟩:=gK hlen hg 1 aN rfl rfl;obtain⟨a1,e1,b1⟩:=cZ g1;obtain⟨y2,hy2,g2⟩:=gK hlen hg 2 aN rfl rfl;obtain⟨a2,e2,b2⟩:=cZ g2;obtain⟨y3,hy3,g3⟩:=gK hlen hg 3 aN rfl rfl;obtain⟨a3,e3,b3⟩:=cZ g3;obtain⟨y4,hy4,g4⟩:=gK hlen hg 4 aN rfl rfl;obtain⟨a4,e4,b4⟩:=cZ g4;obtain⟨y5,hy5,g5⟩:=gK hlen hg 5 Ih rfl rfl;obtain⟨ga,gc,gl,e5,b5,d5⟩:=IZ g5;exact⟨a0,a1,a2,a3,a4,ga,gc,gl,e0,b0,e1,b1,e2,b2,e3,b3,e4,b4,e5,b5,d5⟩
def gV{P:Int->Prop}{p:Prop}[Decidable p]{a b:List Int}(h1:∀n∈a,P n)(h2:∀n∈b,P n):∀n∈(if p then a else b),P n:=by split <;>assumption
def ae{l:List Vr}{n:Nat}(h:l.length=n+1):∃a t,l=a::t/\t.length=n:=by
 cases l with
 |nil=>simp at h
 |cons a t=>exact⟨a,t,rfl,Wy⟩
def MG(b:Bool):bj (U0 b):=by cases b<;>exact⟨V0,V0⟩
def NK{e:Ed}(hx:bj e.index)(h1:bj e.sx)(h2:bj e.sy)(h3:bj e.srise)(h4:bj e.srun)(h5:bj e.splate)(h6:bj e.sover)(h7:bj e.oside)(h8:bj e.zwidth)(h9:bj e.zdepth)
  (b1:bj e.bwidth)(b2:bj e.bdepth)(b3:bj e.blength)(b4:bj e.bcount)(b5:bj e.bcost)(bg:∀p∈e.gaps,bj p.1/\bj p.2)(l1:bj e.lkind)(l2:bj e.lside)
  (a1:bj e.awidth)(a2:bj e.adepth)(a3:bj e.aspacing)(a4:bj e.aload)(a5:bj e.aspan)(t1:bj e.twidth)(t2:bj e.tlength)(t3:bj e.tlap)(t4:bj e.ttail)(hn:bj e.number):∀n∈iN e,bj n:=by
 have hbar:∀n∈[e.index,e.bwidth,e.bdepth,e.blength,e.bcount,e.bcost]++Sr e.gaps,bj n:=by
  intro n hm;rcases List.mem_append.1 hm with hm|hm
  ·exact(all_cons hx (all_cons b1 (all_cons b2 (all_cons b3 (all_cons b4 (all_cons b5 (all_nil _))))))) n hm
  ·unfold Sr at hm;obtain⟨p,hp,hq⟩:=List.mem_flatMap.1 hm;have hg:=bg p hp;rcases List.mem_cons.1 hq with rfl|hq
   ·exact hg.1
   ·rcases List.mem_cons.1 hq with rfl|hq
    ·exact hg.2
    ·cases hq
 unfold iN;refine gV (all_nil _) (gV (all_cons hx (all_cons h1 (all_cons h2 (all_cons h3 (all_cons h4 (all_cons h5 (all_cons h6 (all_cons (MG _) (all_nil _)))))))))
  (gV (all_cons hx (all_cons hn (all_nil _))) (gV (all_cons hn (all_nil _)) (gV (all_cons hx (all_cons h7 (all_nil _))) (gV (all_cons h8 (all_cons h9 (all_nil _))) (gV hbar
  (gV (all_cons hn (all_nil _)) (gV (all_cons t1 (all_cons t2 (all_cons t3 (all_cons t4 (all_nil _))))) (gV (all_cons hx (all_cons l1 (all_cons l2 (all_nil _))))
  (gV (all_cons a1 (all_cons a2 (all_cons a3 (all_cons a4 (all_cons a5 (all_nil _)))))) (all_cons hx (all_nil _))))))))))))
def vk{n:Nat}{l:List Vr}{x:DataW H×List MemPlace}(hl:l.length=37)(hf:DataW.trod enc prog w base sp held n 68 l=Vq x):
  ∃(e:Ed) (ga:Option VM) (gc:Nat),l=(aL e (.slice ga e.gaps.length gc)).toList/\cj w w.heap.size ga gc e.gaps/\(∀n∈iN e,bj n)/\bj e.index:=by
 obtain⟨c0,l0,rfl,h0⟩:=ae hl;obtain⟨c1,l1,rfl,h1⟩:=ae h0;obtain⟨c2,l2,rfl,h2⟩:=ae h1;obtain⟨c3,l3,rfl,h3⟩:=ae h2;obtain⟨c4,l4,rfl,h4⟩:=ae h3;obtain⟨c5,l5,rfl,h5⟩:=ae h4;obtain⟨c6,l6,rfl,h6⟩:=ae h5;obtain⟨c7,l7,rfl,h7⟩:=ae h6;obtain⟨c8,l8,rfl,h8⟩:=ae h7;obtain⟨c9,l9,rfl,h9⟩:=ae h8;obtain⟨c10,l10,rfl,h10⟩:=ae h9;obtain⟨c11,l11,rfl,h11⟩:=ae h10;obtain⟨c12,l12,rfl,h12⟩:=ae h11;obtain⟨c13,l13,rfl,h13⟩:=ae h12;obtain⟨c14,l14,rfl,h14⟩:=ae h13;obtain⟨c15,l15,rfl,h15⟩:=ae h14;obtain⟨c16,l16,rfl,h16⟩:=ae h15;obtain⟨c17,l17,rfl,h17⟩:=ae h16;obtain⟨c18,l18,rfl,h18⟩:=ae h17;obtain⟨c19,l19,rfl,h19⟩:=ae h18;obtain⟨c20,l20,rfl,h20⟩:=ae h19;obtain⟨c21,l21,rfl,h21⟩:=ae h20;obtain⟨c22,l22,rfl,h22⟩:=ae h21;obtain⟨c23,l23,rfl,h23⟩:=ae h22;obtain⟨c24,l24,rfl,h24⟩:=ae h23;obtain⟨c25,l25,rfl,h25⟩:=ae h24;obtain⟨c26,l26,rfl,h26⟩:=ae h25;obtain⟨c27,l27,rfl,h27⟩:=ae h26;obtain⟨c28,l28,rfl,h28⟩:=ae h27;obtain⟨c29,l29,rfl,h29⟩:=ae h28;obtain⟨c30,l30,rfl,h30⟩:=ae h29;obtain⟨c31,l31,rfl,h31⟩:=ae h30;obtain⟨c32,l32,rfl,h32⟩:=ae h31;obtain⟨c33,l33,rfl,h33⟩:=ae h32;obtain⟨c34,l34,rfl,h34⟩:=ae h33;obtain⟨c35,l35,rfl,h35⟩:=ae h34;obtain⟨c36,l36,rfl,h36⟩:=ae h35;obtain rfl:l36=[]:=List.length_eq_zero_iff.1 h36;clear h0 h1 h2 h3 h4 h5 h6 h7 h8 h9 h10 h11 h12 h13 h14 h15 h16 h17 h18 h19 h20 h21 h22 h23 h24 h25 h26 h27 h28 h29 h30 h31 h32 h33 h34 h35 h36;obtain⟨xs,m,_,_,_,hlen,hg⟩:=DataW.trod_struct underlying68 hf;obtain⟨y0,hy0,g0⟩:=gK hlen hg 0 aN rfl rfl;obtain⟨y1,hy1,g1⟩:=gK hlen hg 1 aN rfl rfl;obtain⟨y2,hy2,g2⟩:=gK hlen hg 2 xU rfl rfl;obtain⟨y3,hy3,g3⟩:=gK hlen hg 3 xt rfl rfl;obtain⟨y4,hy4,g4⟩:=gK hlen hg 4 yx rfl rfl;obtain⟨y5,hy5,g5⟩:=gK hlen hg 5 yI rfl rfl;obtain⟨y6,hy6,g6⟩:=gK hlen hg 6 yA rfl rfl;obtain⟨y7,hy7,g7⟩:=gK hlen hg 7 yt rfl rfl;obtain⟨y8,hy8,g8⟩:=gK hlen hg 8 yz rfl rfl;obtain⟨y9,hy9,g9⟩:=gK hlen hg 9 aN rfl rfl;obtain⟨y10,hy10,g10⟩:=gK hlen hg 10 nM rfl rfl;obtain⟨a0,rfl,b0⟩:=cZ g0;obtain⟨a1,rfl,b1⟩:=cZ g1;obtain⟨a2,a3,a4,a5,a6,a7,a8,rfl,b2,rfl,b3,rfl,b4,rfl,b5,rfl,rfl,b7,rfl,b8⟩:=xV g2;obtain⟨a9,a10,a11,a12,a13,rfl,b9,rfl,rfl,rfl,rfl⟩:=pV g3;obtain⟨a14,a15,a16,rfl,b14,rfl,b15,rfl,b16⟩:=xj g4;obtain⟨a17,a18,a19,a20,a21,ga,gc,gl,rfl,b17,rfl,b18,rfl,b19,rfl,b20,rfl,b21,rfl,hgap,hgl⟩:=Da g5;obtain⟨a23,a24,a25,rfl,b23,rfl,b24,rfl⟩:=ym g6;obtain⟨a26,a27,a28,a29,a30,rfl,b26,rfl,b27,rfl,b28,rfl,b29,rfl,b30⟩:=pX g7;obtain⟨a31,a32,a33,a34,rfl,b31,rfl,b32,rfl,b33,rfl,b34⟩:=yl g8;obtain⟨a35,rfl,b35⟩:=cZ g9;obtain⟨a36,rfl⟩:=Rm g10;exact⟨⟨a0,a1,a2,a3,a4,a5,a6,a7,a8,a9,a10,a11,a12,a13,a14,a15,a16,a17,a18,a19,a20,a21,gl,a23,a24,a25,a26,a27,a28,a29,a30,a31,a32,a33,a34,a35,a36⟩,ga,gc,rfl,hgap,NK b1 b2 b3 b4 b5 b7 b8 b9 b15 b16 b17 b18 b19 b20 b21 hgl b23 b24 b26 b27 b28 b29 b30 b31 b32 b33 b34 b35,b1⟩
def Hp(a:Array Vr):(⟨a.toList⟩:Array Vr)=a:=by cases a;rfl
def JM{r:Reach}{b0:Nat}{v:Vr}{d:DataW H}{p:List MemPlace}(hv:Vr.okWide prog w r b0 68 v)(h:DataW.Trod enc prog w base sp held 68 v d p):
  ∃(e:Ed) (ga:Option VM) (gc:Nat),v= .agg (aL e (.slice ga e.gaps.length gc))/\cj w w.heap.size ga gc e.gaps/\(∀n∈iN e,bj n)/\bj e.index:=by
 obtain⟨cs,rfl,hsz⟩:=okWide_struct underlying68 hv;obtain⟨l⟩:=cs;obtain⟨fuel,hf⟩:=h;obtain⟨e,ga,gc,rfl,hr⟩:=vk (hsz.trans xK) hf;exact⟨e,ga,gc,by rw[Hp],hr⟩
end
end
section
open Kp
def DE(s:By)(w:Vl)(hs:s.length<=1000000):
  VC prog 45 #[VR (tx s)] w λe w'=>e=VV (VS (pH s))/\w'=w:=by
 go_enter func45,ntmps45;go_wp2
 go_loop [3] (λi=>Gk s i) (λi=>((s.length:Int)-VG i).toNat)
 case atStart=>exact⟨0,VY,rfl,rfl⟩
 case round=>
  exact YF
end
section
open Kp
def yb(s:By):Lib.splitB (tx [32]) 0 (Lib.countB (tx s) (tx [32])) (tx s)=(Lib.split s [32]).map tx:=by
 have h:=Lib.splitB_data (tx [32]) 0 (Lib.countB (tx s) (tx [32])) (tx s);rw[bn,bn] at h;have hc:Lib.countB (tx s) (tx [32])=Lib.count s [32]:=by unfold Lib.countB;rw[bn,bn]
 rw[hc] at h⊢;have h2:Lib.split s [32]=(Lib.splitB (tx [32]) 0 (Lib.count s [32]) (tx s)).map (·.data.toList):=h.symm;rw[h2,List.map_map];have:(tx∘λx:ByteArray=>x.data.toList)=id:=by funext x;exact lr x
 rw[this,List.map_id]
def ya(s:By):(Lib.split s [32]).length=Lib.countB (tx s) (tx [32])+1:=by
 have h:=Lib.splitB_all (tx [32]) V0 0 _ (tx s) rfl;rw[yb,Vu] at h;exact h
def IE(s:By)(w:Vl)(hs:s.length<=65536)(hm:eO w):
  VC prog 60 #[VR (tx s),VR ⟨#[32]⟩] w λe w'=>e=VV (VQ (Vq ⟨w.heap.size,0,Vo⟩) (Lib.split s [32]).length (Lib.split s [32]).length)/\w'=w.alloc (.cells (wC (Lib.split s [32])).toArray 9):=by
 obtain⟨m,hm⟩:=hm;refine(strings_Split (tx s) (tx [32]) m w XD hm V0).mono ?_;rintro e w' ⟨rfl,rfl⟩;rw[ya];refine⟨rfl,?_⟩;rw[yb,List.map_map]
 rfl
end
section
open Kp
attribute [local go_sem] aS gO ia kp kv kE km kF kL kD ki fZ fW fX fV gx gy gw fD fu fG fF fL eQ gm gH gz gh gB gG gi gE iu gY gX iv eV gj
structure TV(w:Vl)(e:Ed)(ga gb:Option VM)(ca cb:Nat)(i:Vr)(wr:Vl):Prop where
 ex:∃k:Nat,k<=e.gaps.length/\i=VU VA (k:Int)
 ra:cK wr w.heap.size 62 (wW e ga ca)
 rb:cK wr (w.heap.size+1) 62 (wW e gb cb)
 low:VL w.heap.size w wr
def TV.Rz{w wr:Vl}{e:Ed}{ga gb:Option VM}{ca cb:Nat}{i:Vr}(h:TV w e ga gb ca cb i wr){k:Nat}(hk:k<=e.gaps.length)(n:Nat):TV w e ga gb ca cb (VU VA (k:Int)) (wr.drewN n):=
 ⟨⟨k,hk,rfl⟩,h.ra.below (below_drewN (Below.refl wr.heap.size _) n) h.ra.lt,h.rb.below (below_drewN (Below.refl wr.heap.size _) n) h.rb.lt,below_drewN h.low n⟩
def FZ(w:Vl)(e:Ed)(ga gb:Option VM)(ca cb:Nat)(ha:cj w w.heap.size ga ca e.gaps)(hb:cj w w.heap.size gb cb e.gaps):
  VC prog 62 #[VW (wW e ga ca).toArray,VW (wW e gb cb).toArray] w λr w'=>r=VV (VS Vv)/\VL w.heap.size w w':=by
 have la:=ha.1;have lb:=hb.1;have ca':=ha.2.1;have cb':=hb.2.1;unfold VJ at ca' cb';have HA:=Vk ha;have HB:=Vk hb;have R0:=Vk (show TV w e ga gb ca cb (VU VA 0) ((w.alloc (.cells (wW e ga ca).toArray 62)).alloc (.cells (wW e gb cb).toArray 62)) from
  ⟨⟨0,VY,rfl⟩,by unfold cK;rw[heap_alloc_old _ _ V5];exact Vy _ _,by have:=Vy (w.alloc (.cells (wW e ga ca).toArray 62)) (.cells (wW e gb cb).toArray 62);rw[VF] at this;exact this,((Below.refl _ _).alloc (Vm _) _).alloc V5 _⟩)
 clear ha hb;go_enter func62,ntmps62;go_wp2;go_loopw [5] (λi wr=>TV w e ga gb ca cb i wr) (λi _=>((e.gaps.length:Int)-VG i).toNat)
 case atStart=>exact R0.o
 case round=>
  have HREL:=Vk hrel;obtain⟨⟨k,hk,rfl⟩,hra,hrb,hBr⟩:=hrel;have rca:=λi=>cK.cell hra i
  have rcb:=λi=>cK.cell hrb i
  by_cases hlt:k<e.gaps.length
  ·obtain⟨_,_,hxa⟩:=HA.o.below hBr;obtain⟨_,_,hxb⟩:=HB.o.below hBr;obtain⟨ba,oa,rfl,_,cea⟩:=hxa VY;obtain⟨bb,ob,rfl,_,ceb⟩:=hxb VY;obtain⟨a1,a2⟩:=cea k hlt;obtain⟨b1,b2⟩:=ceb k hlt;rw[VE] at a1 a2 b1 b2;obtain⟨x,y,hxy⟩:∃x y,e.gaps[k]=(x,y):=⟨_,_,rfl⟩;rw[hxy] at a1 a2 b1 b2;have hnq:=λW=>Hn x y x y W
   simp only[beq_self_eq_true,Bool.and_self,Bool.not_true] at hnq;have HN:=Vk (λn=>HREL.o.Rz (k:=k+1) VY n);clear hra hrb hBr cea ceb hxa hxb hxy;go_wp2;go_quiet (fail)
   go_wp2;refine⟨?_,V7⟩;exact HN.o _
  ·have hlt':decide ((k:Int)<(e.gaps.length:Int))=Vp:=V8;have HLOW:=Vk hBr;clear hra hrb hBr;go_wp2;go_ret;exact⟨rfl,HLOW.o⟩
def rP(w:Vl)(e:Ed)(ga gb:Option VM)(ca cb:Nat)(ha:cj w w.heap.size ga ca e.gaps)(hb:cj w w.heap.size gb cb e.gaps):
  VC prog 24 #[VW (aL e (VQ ga e.gaps.length ca)),VW (aL e (VQ gb e.gaps.length cb))] w λr w'=>r=VV (VS Vv)/\VL w.heap.size w w':=by
 have hB0:VL w.heap.size w ((w.alloc (.cells (aL e (VQ ga e.gaps.length ca)) 68)).alloc (.cells (aL e (VQ gb e.gaps.length cb)) 68)):=((Below.refl _ _).alloc (Vm _) _).alloc V5 _;have HB0:=Vk hB0;have EA:=Vk ((iA.new w e (VQ ga e.gaps.length ca)).alloc (.cells (aL e (VQ gb e.gaps.length cb)) 68));have EB:=Vk (show iA ((w.alloc (.cells (aL e (VQ ga e.gaps.length ca)) 68)).alloc (.cells (aL e (VQ gb e.gaps.length cb)) 68)) (w.heap.size+1) e (VQ gb e.gaps.length cb) by
  have:=iA.new (w.alloc (.cells (aL e (VQ ga e.gaps.length ca)) 68)) e (VQ gb e.gaps.length cb);rw[VF] at this;exact this)
 have cb':=Vk (FZ _ e ga gb ca cb ((ha.below hB0).more Wa) ((hb.below hB0).more Wa));have eca:=λi=>EA.o.cell i
 have ecb:=λi=>EB.o.cell i
 have ts:uE e e=Vv:=by unfold uE;simp
 have tp:FL e e=Vv:=by unfold FL;simp
 have tz:vL e e=Vv:=by unfold vL;simp
 have tl:uz e e=Vv:=by unfold uz;simp
 have ta:F7 e e=Vv:=by unfold F7;simp
 have tt:vE e e=Vv:=by unfold vE;simp
 have qside:=λW=>CP e e W
 have gside:prog.eqGuardType prog.depth 54=Vp:=VZ;have qopn:=λW=>GN e e W
 have gopn:prog.eqGuardType prog.depth 57=Vp:=VZ;have qsize:=λW=>CL e e W
 have gsize:prog.eqGuardType prog.depth 59=Vp:=VZ;have qload:=λW=>CV e e W
 have gload:prog.eqGuardType prog.depth 64=Vp:=VZ;have qalw:=λW=>Gv e e W
 have galw:prog.eqGuardType prog.depth 66=Vp:=VZ;have qtile:=λW=>BH e e W
 have gtile:prog.eqGuardType prog.depth 30=Vp:=VZ;rw[ts] at qside;rw[tp] at qopn;rw[tz] at qsize;rw[tl] at qload;rw[ta] at qalw;rw[tt] at qtile;clear ha hb hB0 ts tp tz tl ta tt;go_enter func24,ntmps24;go_wp2_with(go_at_call 62;go_must(refine cb'.o.mono ?_);rintro r W2 ⟨rfl,hB2⟩;have EA2:=Vk (EA.o.below hB2 EA.o.lt);have EB2:=Vk (EB.o.below hB2 EB.o.lt);have eca2:=λi=>EA2.o.cell i;have ecb2:=λi=>EB2.o.cell i)
 go_ret;exact⟨rfl,HB0.o.trans (hB2.mono Wa)⟩
end
section
open Kp
attribute [local go_sem] aS gO ia kp kv kE km kF kL kD ki fZ fW fX fV gx gy gw fD fu fG fF fL eQ gm gH gz gh gB gG gi gE iu gY gX iv eV gj Eh fg kX kW jZ
structure Sm(e:Ed):Prop where
 kind:e.kind=8\/e.kind=12/\yn e.number=Vv
 used:fN e=e
 gaps:e.gaps=[]
 wide:o8 0 (iN e)=0
 num:numsOf e=[]
 sized:NU e
 ne:eD [] (iY e)≠[]
def QN(w:Vl)(e:Ed)(he:Sm e):VC prog 42 #[VW (aL e df)] w λr w'=>r=VV (VU VA 0)/\VL w.heap.size w w':=by
 have h:=BS w e Vo 0 (by rw[he.gaps];exact lM _ _);have hz:eJ e=0:=by
  unfold eJ;rw[if_neg (by have:=he.kind;omega),he.used,(Jb e e).2 rfl];rfl
 rw[hz,he.gaps] at h;exact h
def Ml(B b:Nat)(e:Ed)(w:Vl)(he:Sm e)(h:oI B b 0 0 [] w)(hg:Gl w)(hB:9<=B)(hBw:B<=w.heap.size):VC prog 58 #[sY b,VW (aL e df)] w (tD B b 0 0 (eD [] (iY e)) w):=by
 have h:VC prog 58 #[sY b,VW (aL e df)] w (Gf B b e w):=by
  rcases he.kind with k|k
  ·exact PO B b e Vo 0 0 w h he.sized k hg hB hBw
  ·exact Mt B b e Vo 0 0 w h he.sized k.1 hg hB hBw
 unfold Gf at h;rwa[he.wide,he.num] at h
structure UY(w:Vl)(e:Ed)(wx:Vl):Prop where
 ed:iA wx w.heap.size e df
 low:VL w.heap.size w wx
def oI.fresh(w:Vl)(B:Nat)(hB:B<=w.heap.size):oI B w.heap.size 0 0 [] (w.alloc (.cells #[VT Vo,VQ Vo 0 0,VU VA 0,VU VA 0] 123)):=
 ⟨VT Vo,.inl rfl,hB,VQ Vo 0 0,Vy w _,World.ownsRow_nil _ _ _ _,by simp[Value.ownBlock]⟩
def AB(w:Vl)(e:Ed)(he:Sm e)(hgl:Gl w)(hB:9<=w.heap.size):VC prog 22 #[VW (aL e df)] w λr w'=>r=VV (VX #[VR (tx (eD [] (iY e))),VU VA 0])/\VL w.heap.size w w':=by
 have HB0:=Vk (show VL w.heap.size w (w.alloc (.cells (aL e df) 68)) from(Below.refl _ _).alloc (Vm _) _);have cf:=Vk (QN (w.alloc (.cells (aL e df) 68)) e he);have E0:=Vk (iA.new w e df);have HE:=Vk he;have HGL:=Vk hgl;have k1:(e.kind==1)=Vp:=by rw[beq_eq_false_iff_ne];have:=he.kind;omega
 have k6:(e.kind==6)=Vp:=by rw[beq_eq_false_iff_ne];have:=he.kind;omega
 have hr:e.kind=12->yn e.number=Vv:=λh=>by rcases he.kind with k|k;omega;exact k.2
 obtain⟨b,k12⟩:∃b,(e.kind==12)=b:=⟨_,rfl⟩;obtain⟨c,kr⟩:∃c,yn e.number=c:=⟨_,rfl⟩;have hbc:b=Vp\/c=Vv:=by
  cases b
  ·exact .inl rfl
  ·exact .inr (by rw[<-kr];exact hr (by simpa using k12))
 clear he hgl hr;go_enter func22,ntmps22;go_upto_region 4 with(first
  |(refine wpList_load_row rfl 68 _ rfl _ rfl 68 _ (0,0) _ E0.o underlying68 rfl VZ ?_)
  |(go_at_call 42;refine cf.o.mono ?_;rintro r W1 ⟨rfl,hB1⟩;have E1:=Vk (E0.o.below hB1 E0.o.lt);have ec1:=λi=>E1.o.cell i;have hz1:=hB1.size;simp only[VF] at hz1;have HB1:=Vk (HB0.o.trans (hB1.mono HB0.o.size));clear hB1))
 go_cut [6] (λs6 wx=>s6=VS c/\UY w e wx)
 case first =>
  go_region_with (go_at_call 55;go_loud (refine(sn _).mono ?_;rintro r W2 ⟨rfl,hW2⟩;have HB2:=Vk (show VL W1.heap.size W1 W2 by rw[hW2];exact(Below.refl _ W1).drew.alloc (Vm _) _);have hlk:=D8 W2 W1.heap.size 6 (by rw[hW2];exact Vy W1.drew _) e.number Vv;have E2:=Vk (E1.o.below HB2.o E1.o.lt);have ec2:=λi=>E2.o.cell i;simp only[if_true] at hlk;rw[kr] at hlk;clear hW2))
  all_goals go_wp2_with fail
  all_goals go_meet
  all_goals exact⟨rfl,E2.o,HB1.o.trans (HB2.o.mono VY)⟩
 case rest=>
  obtain⟨rfl,ed,hlow⟩:=hcut;have ED:=Vk ed;have ec:=λi=>ED.o.cell i
  have HLOW:=Vk hlow;have hlz:=hlow.size;have HN:=Vk (λn=>(show iA (wc.drewN n) w.heap.size e df from ED.o));clear ed hlow ec1
  go_upto_block 0 with(fail)
  go_cut [] (λwz=>UY w e wz)
  case first =>
   rcases hbc with rfl|rfl<;>(try cases b)<;>(go_wp2;go_quiet (fail);go_wp2;go_meet;exact⟨HN.o _,below_drewN HLOW.o _⟩)
  case rest=>
   obtain⟨ed2,low2⟩:=hcut;have hz2:=low2.size;have L2:=Vk low2;have WF:=Vk (oI.fresh wc w.heap.size hz2);have B2:=Vk (L2.o.alloc hz2 (.cells #[VT Vo,VQ Vo 0 0,VU VA 0,VU VA 0] 123));have E3:=Vk (ed2.alloc (.cells #[VT Vo,VQ Vo 0 0,VU VA 0,VU VA 0] 123));have cw:=Vk (Ml w.heap.size wc.heap.size e _ HE.o WF.o (HGL.o.keep B2.o hB) hB Wa);clear ed2 low2 ec hlz E0 hbc;go_wp2_with(first
    |(refine wpList_load_row rfl 68 _ rfl _ rfl 68 _ (0,0) _ E3.o underlying68 rfl VZ ?_)
    |(go_at_call 58;go_must(refine cw.o.mono ?_);rintro r W5 ⟨rfl,hw5,hk5⟩;have c2:=hw5.Q0;have c3:=hw5.T8;obtain⟨p5,_,hb5⟩:=hw5;have HB5:=Vk hb5;have K5:=Vk hk5;clear hb5 hk5)
    |(go_at_call 59;go_must(refine(nC _ _ _ _ _ _ _ HB5.o HE.o.ne).mono ?_);rintro r W6 ⟨rfl,hk6⟩;have K6:=Vk (K5.o.trans hk6);clear hk6))
   go_ret2;exact⟨rfl,B2.o.trans K6.o.low⟩
def Pu(B b:Nat)(r:sH)(w:Vl)(h:fY B w.heap.size b r w)(hk:kindOf (rW r).1=8)(hg:Gl w)(hB:9<=B)(hBw:B<=w.heap.size):
  VC prog 61 #[sY b] w λe w'=>e=VV (VW (aL (rE r).1 df))/\fY B w.heap.size b (rE r).2 w'/\bO B b w w':=by
 have hbl:=h.hi;have H0:=Vk h;have HG:=Vk hg;have HK:=Vk hk;have HE:=Vk (show rE r=({Ng 8 with number:=(rI (rW r).2).1},(rI (rW r).2).2) by simp only[rE,hk];rfl);clear h hg hk;go_enter func61,ntmps61;go_wp2_with(first
  |(go_at_call 125;refine(JW B w.heap.size b _ _ H1.o (HG.o.keep (bO.low K1.o) hB) hB Xs).mono ?_;rintro e W2 ⟨rfl,h2,k2⟩;have H2:=Vk h2;have C2:=Vk (EC.keep (C:=_) C1.o k2 VY);have Z2:=Vk (EC.keep (C:=_) Z1.o k2 VY);have K2:=Vk (bO.trans K1.o k2);have z2:=k2.low.size;(try simp only[VF,Vl.size_setCell] at z2);have cc2:=λi=>C2.o.cell i;have cf2:=λi=>C2.o.frozen i;clear h2 k2)
  |(go_at_call 123;refine(F5 _).mono ?_;rintro e W0 ⟨rfl,hW0⟩;have H00:=Vk (show fY B w.heap.size b r W0 by rw[hW0];exact(H0.o.alloc _).alloc _);have K00:=Vk (show bO B b w W0 by rw[hW0];exact((bO.refl B b w).alloc hBw _).alloc Wa _);have M00:=Vk (show W0.heap[w.heap.size+1]?=Vq (.map uG 12) by rw[hW0];have:=Vy (w.alloc (.cells (aL dM df) 68)) (.map uG 12);rw[VF] at this;exact this);have Z00:=Vk (show EC W0 w.heap.size (aL dM df) by rw[hW0];exact(EC.new w _).alloc _);have zz0:W0.heap.size=w.heap.size+1+1:=(by rw[hW0];simp);clear hW0)
  |(go_at_call 124;refine(uj B w.heap.size b _ _ H00.o).mono ?_;rintro e W1 ⟨rfl,h1,k1⟩;have z1:=k1.low.size;have hlk:=LL W1 (w.heap.size+1) 12 ((k1.others _ VY VY).trans M00.o) (rW r).1;rw[HK.o] at hlk;have H1:=Vk (h1.alloc (.cells (aL (Ng 8) df) 68));have C1:=Vk (EC.new W1 (aL (Ng 8) df));have Z1:=Vk ((Z00.o.keep k1 VY).alloc (.cells (aL (Ng 8) df) 68));have K1:=Vk ((K00.o.trans k1).alloc VY (.cells (aL (Ng 8) df) 68));clear h1 k1)
  |(refine wpList_build rfl 68 _ rfl VZ ?_;rw[show Value.agg (Option.getD (prog.built 68 _) #[])=VW (aL (Ng 8) df) from VZ])
  |(refine wpList_load_row rfl 68 _ rfl _ rfl 68 _ (0,0) _ (EC.heap (C2.o.put 35 (VU VA (rI (rW r).2).1))) underlying68 rfl VZ ?_)
  |(refine wpList_store_row rfl 68 _ _ rfl _ _ rfl rfl 68 _ (by first|exact(EC.heap (Z2.o.dx (p:=⟨W1.heap.size,35,Vo⟩) Xs (VU VA (rI (rW r).2).1)))|exact Vy W1 _) VZ VZ VZ ?_))
 refine bodyPost_ret (results_cell_row rfl _ _ _ _ _ (0,0) _ rfl (setRow_heap (EC.heap (Z2.o.dx (p:=⟨W1.heap.size,35,Vo⟩) Xs (VU VA (rI (rW r).2).1))) _) underlying68 rfl VZ) rfl ⟨congrArg (λc=>Ending.returned (VW c)) ?_,?_,?_⟩
 ·rw[HE.o];kernel_rfl
 ·rw[HE.o];exact fY.row (H2.o.dx (p:=⟨W1.heap.size,35,Vo⟩) Xs (VU VA (rI (rW r).2).1)) (Vm _) _
 ·exact bO.row (K2.o.dx (p:=⟨W1.heap.size,35,Vo⟩) Xs Xs (VU VA (rI (rW r).2).1)) (Vm _) VY _
def wV{fn:Func}{p u:Tmp}(h:fn.results=#[.cell p 68,.tmp u])(tmps:Array Vr)(w:Vl)(g:Nat)(cs:Array Vr)
  (hp:tmps.getD p Vs=VT (Vq ⟨g,0,Vo⟩))(hg:w.heap[g]?=Vq (.cells cs 68 (0,0)))(hi:(prog.info? 68).map (·.size)=Vq cs.size):
  (results fn tmps).run prog w= .ok (VX #[VW cs,tmps.getD u Vs]) w:=by
 have hp':tmps[p]?.getD Vs=VT (Vq ⟨g,0,Vo⟩):=by simpa using hp
 have hl:=run_loadVar_row (P:=prog) w g 68 68 cs (0,0) _ hg underlying68 rfl hi;simp[results,h,hp',asAddr,hl,Result.andThen]
def F3(s:By)(hs:s.length<=65536):(Lib.split s [32]).length<=65537:=by
 have hc:Lib.countB (tx s) (tx [32])=Lib.count s [32]:=by unfold Lib.countB;rw[bn,bn]
 rw[ya,hc,Lib.count_one];have:=List.count_le_length (a:=(32:UInt8)) (l:=s);omega
def Rw(w:Vl)(ws:List By)(h1:ws.length<=1000000)(h2:∀x∈ws,x.length<=100000):
  fY w.heap.size (((w.alloc (.cells (aL dM df) 68)).alloc (.cells (wC ws).toArray 9)).alloc (.cells #[VQ (Vq ⟨w.heap.size+1,0,Vo⟩) (ws).length (ws).length,VS Vp] 128)).heap.size (w.heap.size+1+1) (ws,Vp) (((w.alloc (.cells (aL dM df) 68)).alloc (.cells (wC ws).toArray 9)).alloc (.cells #[VQ (Vq ⟨w.heap.size+1,0,Vo⟩) (ws).length (ws).length,VS Vp] 128)):=by
 have hb:=Vy ((w.alloc (.cells (aL dM df) 68)).alloc (.cells (wC ws).toArray 9)) (.cells #[VQ (Vq ⟨w.heap.size+1,0,Vo⟩) ws.length ws.length,VS Vp] 128);have hc:(((w.alloc (.cells (aL dM df) 68)).alloc (.cells (wC ws).toArray 9)).alloc (.cells #[VQ (Vq ⟨w.heap.size+1,0,Vo⟩) (ws).length (ws).length,VS Vp] 128)).heap[w.heap.size+1]?=Vq (.cells (wC ws).toArray 9):=by
  rw[heap_alloc_old _ _ V5];have:=Vy (w.alloc (.cells (aL dM df) 68)) (.cells (wC ws).toArray 9);rw[VF] at this;exact this
 simp only[VF] at hb;refine⟨VY,V5,⟨w.heap.size+1,0,ws.length,hb,VY,V5,Vm _,h1,⟨_,hc⟩,λj hj=> ?_⟩,h2⟩;have hj':j<ws.length:=hj;rw[Nat.zero_add,cK.cell (l:=wC ws) hc j];simp[hj']
def LX(s:By)(E:Ed)(w:Vl)(he:Sm E)(hs:s.length<=65536)(hER:rE (Lib.split s [32],Vp)=(E,([],Vp)))(hk:kindOf (rW (Lib.split s [32],Vp)).1=8)(ht:eD [] (iY E)=s)(hx:∀x∈Lib.split s [32],x.length<=1000)(hg:Gl w)(hB:9<=w.heap.size):
  VC prog 23 #[VR (tx s)] w λr w'=>r=VV (VX #[VW (aL E df),VU VA 0])/\VL w.heap.size w w':=by
 have hB0:VL w.heap.size w (w.alloc (.cells (aL dM df) 68)):=(Below.refl _ _).alloc (Vm _) _;have hB2:VL w.heap.size w (((w.alloc (.cells (aL dM df) 68)).alloc (.cells (wC (Lib.split s [32])).toArray 9)).alloc (.cells #[VQ (Vq ⟨w.heap.size+1,0,Vo⟩) ((Lib.split s [32])).length ((Lib.split s [32])).length,VS Vp] 128)):=(hB0.alloc V5 _).alloc Wa _;have csp:=Vk (IE s (w.alloc (.cells (aL dM df) 68)) hs (hg.keep hB0 hB).maxl);have CR:=Pu w.heap.size (w.heap.size+1+1) (Lib.split s [32],Vp) _ (Rw w _ (by have:=F3 s hs;omega) (λx h=>by have:=hx x h;omega)) hk (hg.keep hB2 hB) hB Wa;rw[hER] at CR;have CR:=Vk CR;have HG:=Vk hg;have HE:=Vk he;have HT:=Vk ht;have Z2:=Vk (show EC (((w.alloc (.cells (aL dM df) 68)).alloc (.cells (wC (Lib.split s [32])).toArray 9)).alloc (.cells #[VQ (Vq ⟨w.heap.size+1,0,Vo⟩) ((Lib.split s [32])).length ((Lib.split s [32])).length,VS Vp] 128)) w.heap.size (aL dM df) from((EC.new w _).alloc _).alloc _);have HB2:=Vk hB2;clear hg hB0 hx hB2 hER hk he ht;go_enter func23,ntmps23;go_wp2_with(first
  |(go_at_call 60;refine csp.o.mono ?_;rintro e W1 ⟨rfl,hW1⟩;subst hW1)
  |(go_at_call 61;go_must(refine CR.o.mono ?_);rintro e W3 ⟨rfl,hrd,hkp⟩;obtain⟨c1,_,A,cp,c0⟩:=(hrd.alloc (.cells (aL E df) 68)).cells;have hz3:=hkp.low.size;simp only[VF] at hz3;have Z3:=Vk ((Z2.o.keep hkp VY).alloc (.cells (aL E df) 68));have C3:=Vk (EC.new W3 (aL E df));have L3:=Vk ((HB2.o.trans hkp.low).alloc VY (.cells (aL E df) 68));simp only[] at c1;simp only[List.length_nil] at c0;have ctx:=Vk (AB (W3.alloc (.cells (aL E df) 68)) E HE.o (HG.o.keep L3.o hB) Wa);clear hrd hkp)
  |(go_at_call 22;go_must(refine ctx.o.mono ?_);rintro r W5 ⟨rfl,hB5⟩;rw[HT.o];have Z5:=Vk (show EC W5 w.heap.size (aL dM df) from(hB5.block _ Z3.o.lt).trans Z3.o);have C5:=Vk (show EC W5 W3.heap.size (aL E df) from(hB5.block _ C3.o.lt).trans C3.o);have L5:=Vk (L3.o.trans (hB5.mono L3.o.size));have hz5:=hB5.size;simp only[VF] at hz5;clear hB5)
  |(refine wpList_store_row rfl 68 _ _ rfl _ _ rfl rfl 68 _ (EC.heap Z5.o) VZ VZ VZ ?_)
  |(refine wpList_load_row rfl 68 _ rfl _ rfl 68 _ (0,0) _ (EC.heap C5.o) underlying68 rfl VZ ?_)
  |(refine wpList_load_row rfl 68 _ rfl _ rfl 68 _ (0,0) _ (EC.heap C3.o) underlying68 rfl VZ ?_)
  |(refine wpList_store_row rfl 68 _ _ rfl _ _ rfl rfl 68 _ (Vy W3 _) VZ VZ VZ ?_))
 refine bodyPost_ret (wV rfl _ _ _ _ rfl (setRow_heap (EC.heap Z5.o) _) VZ) rfl ?_;exact⟨rfl,af L5.o (Vm _) _⟩
def qY{ops:Array Oper}{rest:List Oper}{o:Oper}{a:Act}{w:Vl}{Q:Exit->Act->Vl->Prop}(hw:Region.wanted o (yielded ops a.tmps)=Vv)(x:Operand)(ho:o.op= .load 68 x)
  (g:Nat)(hx:a.eval x=VT (Vq ⟨g,0,Vo⟩))(cs:Array Vr)(hg:w.heap[g]?=Vq (.cells cs 68 (0,0)))(hi:(prog.info? 68).map (·.size)=Vq cs.size)
  (h:wpList prog ops Q rest (a.put o.dst (VW cs)) w):wpList prog ops Q (o::rest) a w:=
 wpList_step λ_ hK=>by
  rw[if_pos hw];exact wp_load_row 68 x ho g hx 68 cs (0,0) _ hg underlying68 rfl hi (hK _ _ h)
def pf{ops:Array Oper}{rest:List Oper}{o:Oper}{a:Act}{w:Vl}{Q:Exit->Act->Vl->Prop}(hw:Region.wanted o (yielded ops a.tmps)=Vv)(t:VK)(parts:Array (Nat×Operand))(ho:o.op= .build t parts)
  (hf:(prog.built t (parts.map λ(i,x)=>(i,a.eval x)).toList).isSome=Vv)
  (h:wpList prog ops Q rest (a.put o.dst (VW ((prog.built t (parts.map λ(i,x)=>(i,a.eval x)).toList).getD #[]))) w):wpList prog ops Q (o::rest) a w:=
 wpList_step λ_ hK=>by
  rw[if_pos hw];exact wp_build t parts ho hf (hK _ _ h)
def qm:Ed:={Ng 8 with number:=3}
def QL:Ed:={Ng 12 with number:=5,index:=1}
abbrev QV:By:=[107,101,114,102,32,51]
abbrev Uu:By:=[114,101,109,111,118,101,32,111,112,101,110,105,110,103,32,49]
def uI:eD [] (iY qm)=QV:=WN
def Hq:eD [] (iY QL)=Uu:=WN
def NG{e:Ed}{n:Int}(hk:e.kind=8\/e.kind=12/\yn e.number=Vv)(h2:fN e=e)(h3:e.gaps=[])(h4:iN e=[n])(h5:numsOf e=[])(h6:e.text=[])(hn:0<=n/\n<=9)(h7:eD [] (iY e)≠[]):Sm e:=
 ⟨hk,h2,h3,by rw[h4];rcases(show n=0\/n=1\/n=2\/n=3\/n=4\/n=5\/n=6\/n=7\/n=8\/n=9 by omega) with rfl|rfl|rfl|rfl|rfl|rfl|rfl|rfl|rfl|rfl<;>rfl,h5,
  ⟨(by rw[h4];intro m hm;obtain rfl:=List.mem_singleton.1 hm;exact⟨VY,VY⟩),(by rw[h5];intro a ha;cases ha),(by rw[h6];exact Nat.zero_le _)⟩,h7⟩
def G2:Sm qm:=NG (.inl rfl) rfl rfl (n:=3) rfl rfl rfl V0 (by rw[uI];decide)
def Sw:Sm QL:=NG (.inr ⟨rfl,rfl⟩) rfl rfl (n:=1) rfl rfl rfl V0 (by rw[Hq];decide)
def xe(w:Vl)(hg:Gl w)(hB:9<=w.heap.size):VC prog 7 #[] w λr w'=>r=VV (VS Vv)/\VL w.heap.size w w':=by
 have c1:=AB w qm G2 hg hB;rw[uI] at c1;have c1:=Vk c1;have HG:=Vk hg;have n2:cj w w.heap.size Vo 0 qm.gaps:=lM _ _;clear hg n2;go_enter func7,ntmps7;go_wp2_with(first
  |(go_at_call 24;refine(rP _ qm Vo Vo 0 0 (lM _ _) (lM _ _)).mono ?_;rintro r W4 ⟨rfl,hB4⟩;have L4:=Vk (L3.o.trans (hB4.mono L3.o.size));clear hB4)
  |(go_at_call 23;refine(LX QV qm W2 G2 V0 VZ VZ uI WN (HG.o.keep L2.o hB) VY).mono ?_;rintro r W3 ⟨rfl,hB3⟩;have C3:=Vk (EC.new W3 (aL qm df));have L3:=Vk ((L2.o.trans (hB3.mono L2.o.size)).alloc (by have:=hB3.size;omega) (.cells (aL qm df) 68));clear hB3)
  |(go_at_call 22;refine(AB W1 QL Sw (HG.o.keep L1.o hB) VY).mono ?_;rw[Hq];rintro r W2 ⟨rfl,hB2⟩;have hz2:=hB2.size;have L2:=Vk (L1.o.trans (hB2.mono L1.o.size));clear hB2)
  |(go_at_call 22;go_must(refine c1.o.mono ?_);rintro r W1 ⟨rfl,hB1⟩;have hz1:=hB1.size;have L1:=Vk hB1;clear hB1)
  |(refine qY Wn _ rfl _ rfl _ (EC.heap C3.o) VZ ?_)
  |(refine wpList_store_row rfl 68 _ _ rfl _ _ rfl rfl 68 _ (Vy W3 _) VZ VZ VZ ?_)
  |(refine pf Wn 68 #[(0,.const (VU VA 12)),(9,.const (VU VA 5)),(1,.const (VU VA 1))] rfl VZ ?_;go_must(rw[show Value.agg (Option.getD (prog.built 68 _) #[])=VW (aL QL df) from VZ]))
  |(refine pf Wn 68 #[(0,.const (VU VA 8)),(9,.const (VU VA 3))] rfl VZ ?_;go_must(rw[show Value.agg (Option.getD (prog.built 68 _) #[])=VW (aL qm df) from VZ])))
 go_ret;exact⟨rfl,L4.o⟩
end
end Go.Proofs.YtmliacdegmklaaaGreatDoor
