/- ChangeOnly of kingpostlaw58: part 11 of its proof (merged and shortened by program). -/
import Derived.Test.YtnpihidbkhehjaaGreatDoorM10
set_option linter.unusedVariables false
set_option linter.unusedSimpArgs false
set_option linter.defProp false
set_option maxHeartbeats 8000000
set_option maxRecDepth 100000
open Go.RowKit Go.Shelf Go.Proofs.Tryz
open Array renaming getElem?_eq_some_iff→Od
open Bool renaming false→N1,true→Oc
open Go renaming World→NY,Value→N2,undef→N7,wpOp_step→Ob,Calls→Of,maxLen→Ol,TypeId→Oo
open Go.AllReady renaming cons→Oj,nil→Oq
open Go.IntKind renaming i64→Oe
open Go.IntWalk renaming i64_in→Om
open Go.Lib renaming hid→NW
open Go.RowKit renaming intOf→Oh,Below→On
open Go.World renaming size_alloc→Oi
open List renaming getD_eq_getElem?_getD→N8,length_map→N9,getElem?_eq_getElem→Oa
open Nat renaming le_refl→NZ,mul_comm→Og,le_trans→Ok
open Option renaming none→N0,some→N3
open Go.Proofs.YtnpihidbkhehjaaGreatDoor
namespace Go.Proofs.YtnpihidbkhehjaaGreatDoor
section
open Kp
attribute [local go_sem] Oper.semAt_some
def bC(k:Nat)(w:NY)(B:Nat)(A:Option Addr)(cap:Nat)(rows:List (List N2)):Prop:=
 rows.length≤cap∧cap≤Ol∧(0<rows.length→∃b off,A=N3 ⟨b,off,N0⟩∧b<B∧∀i,i<rows.length→∀j,j<k→w.cell? ⟨b,off+k*i+j,N0⟩=(rows.getD i [])[j]?)
theorem bC.below{k:Nat}{w w':NY}{B:Nat}{A:Option Addr}{cap:Nat}{rows:List (List N2)}(h:bC k w B A cap rows)(hb:On B w w'):bC k w' B A cap rows:=by
 obtain⟨h1,h2,h3⟩:=h
 refine⟨h1,h2,fun hn=> ?_⟩
 obtain⟨b,off,e,hB,hc⟩:=h3 hn
 exact⟨b,off,e,hB,fun i hi j hj=>(hb.cell hB).trans (hc i hi j hj)⟩
theorem bC.more{k:Nat}{w:NY}{B B':Nat}{A:Option Addr}{cap:Nat}{rows:List (List N2)}(h:bC k w B A cap rows)(hb:B≤B'):bC k w B' A cap rows:=by
 obtain⟨h1,h2,h3⟩:=h
 refine⟨h1,h2,fun hn=> ?_⟩
 obtain⟨b,off,e,hB,hc⟩:=h3 hn
 exact⟨b,off,e,Ot,hc⟩
abbrev ak(r:List Sd):List (List N2):=r.map jF
theorem gJ{r:List Sd}{i:Nat}(hi:i<r.length):(ak r).getD i []=jF (az r i):=by
 unfold az
 simp[List.getD,Oa hi]
def Nr(Bs:Nat)(A:Option Addr)(cap:Nat)(r:List Sd)(W:NY):Prop:=
 W.cell? ⟨Bs,0,N0⟩=N3 (.slice A r.length cap)∧∃B,bC 7 W B A cap (ak r)
def MU(r:List Sd)(k:Nat)(x:Array N2):Prop:=x=#[.int .i64 (k:Int),.agg (fZ (dL r k) (az r k) (bj r k)).toArray]
def nh(r:List Sd)(k p1 p2 lp b off:Nat)(A:Option Addr)(cap:Nat):Nat→N2
 |0=> .func (.yield lp) #[] #[]
 |1=> .int .i64 (k:Int)
 |2=> .slice A r.length cap
 |3=> .int .i64 (k:Int)
 |4=> .int .i64 (r.length:Int)
 |5=> .int .i64 ((k:Int)+r.length)
 |6=> .int .i64 ((k:Int)+r.length-1)
 |7=> .int .i64 (r.length:Int)
 |8=> .int .i64 (p1:Int)
 |9=> .pointer (N3 ⟨b,off+7*p1,N0⟩)
 |10=> .agg (jF (az r p1)).toArray
 |11=> .slice A r.length cap
 |12=> .int .i64 (k:Int)
 |13=> .pointer (N3 ⟨b,off+7*k,N0⟩)
 |14=> .agg (jF (az r k)).toArray
 |15=> .slice A r.length cap
 |16=> .int .i64 (k:Int)
 |17=> .int .i64 ((k:Int)+1)
 |18=> .int .i64 (r.length:Int)
 |19=> .int .i64 (p2:Int)
 |20=> .pointer (N3 ⟨b,off+7*p2,N0⟩)
 |21=> .agg (jF (az r p2)).toArray
 |_=> .agg (fZ (az r p1) (az r k) (az r p2)).toArray
theorem fR(Bs:Nat)(A:Option Addr)(cap:Nat)(r:List Sd)(hn:r.length≤1000000):
  wv prog 200 #[.pointer (N3 ⟨Bs,0,N0⟩)] (MU r) (Nr Bs A cap r) r.length:=by
 intro m lp J Jx W hM hJ hJx hY h0
 refine callsIn_of_wp func200 rfl trivial ?_ rfl
 have hc0:=(hM 0 W h0).1
 simp only[ntmps200,List.size_toArray,List.length_cons,List.length_nil,Nat.reduceAdd,Nat.reduceSub,Array.replicate_succ,Array.replicate_zero,List.push_toArray,List.append_toArray,List.nil_append,List.cons_append]
 gi_wp2
 gi_loopw [9] (fun i wr=>∃k:Nat,k≤r.length∧i= .int .i64 (k:Int)∧J k wr) (fun i _=>((r.length:Int)-Oh i).toNat)
 case atStart=>exact⟨0,Ot,Ow,h0⟩
 case round=>
  obtain⟨k,hk,rfl,hj⟩:=hrel
  obtain⟨hc,B,hsl⟩:=hM k wr hj
  by_cases hlt:k<r.length
  ·skip
   obtain⟨h1,h2,h3⟩:=hsl
   rw[N9] at h1 h3
   obtain⟨b,off,rfl,hB,hcell⟩:=h3 Ot
   obtain⟨p1,ja⟩:∃p1,(k+r.length-1)%r.length=p1:=⟨_,rfl⟩
   obtain⟨p2,nl⟩:∃p2,(k+1)%r.length=p2:=⟨_,rfl⟩
   have m1:p1<r.length:=by rw[←ja];exact Nat.mod_lt _ Ot
   have m2:p2<r.length:=by rw[←nl];exact Nat.mod_lt _ Ot
   have q1:((k:Int)+r.length-1).tmod (r.length:Int)=(p1:Int):=by rw[Int.tmod_eq_emod_of_nonneg Ot,show((k:Int)+r.length-1)=((k+r.length-1:Nat):Int) by omega,←ja];rfl
   have q2:((k:Int)+1).tmod (r.length:Int)=(p2:Int):=by rw[Int.tmod_eq_emod_of_nonneg Ot,←nl];rfl
   have HX:=NW (show MU r k #[.int .i64 (k:Int),.agg (fZ (az r p1) (az r k) (az r p2)).toArray] by unfold MU dL bj;rw[ja,nl];rfl)
   clear ja nl
   clear hcell h3
   unfold Ol at h2
   gi_wp2
   refine wpIn_region_any Ou (jg (wN _) Ou 23 (fun vs=>⟨#[.func (.yield lp) #[] #[],.pointer (N3 ⟨Bs,0,N0⟩),N7,.int .i64 (r.length:Int),.int .i64 (k:Int),.slice (N3 ⟨b,off,N0⟩) r.length cap,.int .i64 (r.length:Int),.slice (N3 ⟨b,off,N0⟩) r.length cap,.int .i64 (r.length:Int),.int .i64 (k:Int),.bool Oc,.int .i64 (k:Int),vs 0,vs 1,vs 2,vs 3,vs 4,vs 5,vs 6,vs 7,vs 8,vs 9,vs 10,vs 11,vs 12,vs 13,vs 14,vs 15,vs 16,vs 17,vs 18,vs 19,vs 20,vs 21,vs 22,u35,u36,u37],[]⟩)
    (fun w'=>Ext wr w') (fun i v _=>v=nh r k p1 p2 lp b off (N3 ⟨b,off,N0⟩) cap i) (fun _=>N1) Ou (fun _ _ h k=>h.tr k) (fun _ _ _ _ h _=>h) (fun _ _ _ _ h=>Ox) ?step ?tail (fun i=>match i with|0=>u12|1=>u13|2=>u14|3=>u15|4=>u16|5=>u17|6=>u18|7=>u19|8=>u20|9=>u21|10=>u22|11=>u23|12=>u24|13=>u25|14=>u26|15=>u27|16=>u28|17=>u29|18=>u30|19=>u31|20=>u32|21=>u33|_=>u34) _ (Ext.dr wr))
   case step=>
    intro i vs w' hi hD hd
    have w1:Oe.wrap ((k:Int)+r.length)=(k:Int)+r.length:=Om _ Ot
    have w2:Oe.wrap ((k:Int)+r.length-1)=(k:Int)+r.length-1:=Om _ Ot
    have w3:Oe.wrap ((k:Int)+1)=(k:Int)+1:=Om _ Ot
    have q4:¬r=[]:=by intro h;rw[h] at hlt;simp at hlt
    have q3:((r.length:Int)==0)=N1:=OF
    obtain⟨hcw,B2,_,_,h4⟩:=hM k w' (hJ _ _ _ hj hD)
    obtain⟨b2,off2,e2,_,hcell⟩:=h4 (by rw[N9];omega)
    rw[N9] at hcell
    obtain⟨rfl,rfl⟩:b2=b∧off2=off:=by injection e2 with e2;injection e2 with e3 e4;exact⟨e3.symm,e4.symm⟩
    have c1:=fun j (hj:j<7)=>(hcell _ m1 j hj).trans (by rw[gJ m1])
    have c2:=fun j (hj:j<7)=>(hcell _ hlt j hj).trans (by rw[gJ hlt])
    have c3:=fun j (hj:j<7)=>(hcell _ m2 j hj).trans (by rw[gJ m2])
    have c10:=c1 0 Ov
    have c20:=c2 0 Ov
    have c30:=c3 0 Ov
    rw[Nat.add_zero] at c10 c20 c30
    clear hcell h4 e2
    rcases(show i=0∨i=1∨i=2∨i=3∨i=4∨i=5∨i=6∨i=7∨i=8∨i=9∨i=10∨i=11∨i=12∨i=13∨i=14∨i=15∨i=16∨i=17∨i=18∨i=19∨i=20∨i=21∨i=22 by omega) with rfl|rfl|rfl|rfl|rfl|rfl|rfl|rfl|rfl|rfl|rfl|rfl|rfl|rfl|rfl|rfl|rfl|rfl|rfl|rfl|rfl|rfl|rfl<;>clear hi
    ·refine Ob rfl (fun K hK=> ?_)
     go_simp
     exact hK _ _ ⟨_,rfl,Ext.an _,rfl,fun h=>Ox⟩
    ·refine Ob rfl (fun K hK=> ?_)
     go_simp
     exact hK _ _ ⟨_,rfl,Ext.an _,rfl,fun h=>Ox⟩
    ·refine Ob rfl (fun K hK=> ?_)
     go_simp
     exact hK _ _ ⟨_,rfl,Ext.an _,rfl,fun h=>Ox⟩
    ·refine Ob rfl (fun K hK=> ?_)
     go_simp
     exact hK _ _ ⟨_,rfl,Ext.an _,rfl,fun h=>Ox⟩
    ·refine Ob rfl (fun K hK=> ?_)
     go_simp
     exact hK _ _ ⟨_,rfl,Ext.an _,rfl,fun h=>Ox⟩
    ·refine Ob rfl (fun K hK=> ?_)
     have d3:=hd 3 Ou
     have d4:=hd 4 Ou
     simp only[nh] at d3 d4
     go_simp
     exact hK _ _ ⟨_,by simp[d3,d4,nh],Ext.an _,rfl,fun h=>Ox⟩
    ·refine Ob rfl (fun K hK=> ?_)
     have d5:=hd 5 Ou
     simp only[nh] at d5
     go_simp
     exact hK _ _ ⟨_,by simp[d5,nh],Ext.an _,rfl,fun h=>Ox⟩
    ·refine Ob rfl (fun K hK=> ?_)
     go_simp
     exact hK _ _ ⟨_,rfl,Ext.an _,rfl,fun h=>Ox⟩
    ·refine Ob rfl (fun K hK=> ?_)
     have d6:=hd 6 Ou
     have d7:=hd 7 Ou
     simp only[nh] at d6 d7
     go_simp
     exact hK _ _ ⟨_,by simp[d6,d7,nh],Ext.an _,rfl,fun h=>Ox⟩
    ·refine Ob rfl (fun K hK=> ?_)
     have d2:=hd 2 Ou
     have d8:=hd 8 Ou
     simp only[nh] at d2 d8
     go_simp
     exact hK _ _ ⟨_,by simp[d2,d8,nh],Ext.an _,rfl,fun h=>Ox⟩
    ·refine Ob rfl (fun K hK=> ?_)
     have d9:=hd 9 Ou
     simp only[nh] at d9
     go_simp
     exact hK _ _ ⟨_,by simp[d9,nh],Ext.an _,rfl,fun h=>Ox⟩
    ·refine Ob rfl (fun K hK=> ?_)
     go_simp
     exact hK _ _ ⟨_,rfl,Ext.an _,rfl,fun h=>Ox⟩
    ·refine Ob rfl (fun K hK=> ?_)
     go_simp
     exact hK _ _ ⟨_,rfl,Ext.an _,rfl,fun h=>Ox⟩
    ·refine Ob rfl (fun K hK=> ?_)
     have d11:=hd 11 Ou
     have d12:=hd 12 Ou
     simp only[nh] at d11 d12
     go_simp
     exact hK _ _ ⟨_,by simp[d11,d12,nh],Ext.an _,rfl,fun h=>Ox⟩
    ·refine Ob rfl (fun K hK=> ?_)
     have d13:=hd 13 Ou
     simp only[nh] at d13
     go_simp
     exact hK _ _ ⟨_,by simp[d13,nh],Ext.an _,rfl,fun h=>Ox⟩
    ·refine Ob rfl (fun K hK=> ?_)
     go_simp
     exact hK _ _ ⟨_,rfl,Ext.an _,rfl,fun h=>Ox⟩
    ·refine Ob rfl (fun K hK=> ?_)
     go_simp
     exact hK _ _ ⟨_,rfl,Ext.an _,rfl,fun h=>Ox⟩
    ·refine Ob rfl (fun K hK=> ?_)
     have d16:=hd 16 Ou
     simp only[nh] at d16
     go_simp
     exact hK _ _ ⟨_,by simp[d16,nh],Ext.an _,rfl,fun h=>Ox⟩
    ·refine Ob rfl (fun K hK=> ?_)
     go_simp
     exact hK _ _ ⟨_,rfl,Ext.an _,rfl,fun h=>Ox⟩
    ·refine Ob rfl (fun K hK=> ?_)
     have d17:=hd 17 Ou
     have d18:=hd 18 Ou
     simp only[nh] at d17 d18
     go_simp
     exact hK _ _ ⟨_,by simp[d17,d18,nh],Ext.an _,rfl,fun h=>Ox⟩
    ·refine Ob rfl (fun K hK=> ?_)
     have d15:=hd 15 Ou
     have d19:=hd 19 Ou
     simp only[nh] at d15 d19
     go_simp
     exact hK _ _ ⟨_,by simp[d15,d19,nh],Ext.an _,rfl,fun h=>Ox⟩
    ·refine Ob rfl (fun K hK=> ?_)
     have d20:=hd 20 Ou
     simp only[nh] at d20
     go_simp
     exact hK _ _ ⟨_,by simp[d20,nh],Ext.an _,rfl,fun h=>Ox⟩
    ·refine Ob rfl (fun K hK=> ?_)
     have d10:=hd 10 Ou
     have d14:=hd 14 Ou
     have d21:=hd 21 Ou
     simp only[nh] at d10 d14 d21
     go_simp
     exact hK _ _ ⟨_,by simp[d10,d14,d21,nh],Ext.an _,rfl,fun h=>Ox⟩
   case tail=>
    intro vs w' hD hv _
    have v0:=hv 0 Ov
    have v1:=hv 1 Ov
    have v22:=hv 22 Ov
    simp only[nh] at v0 v1 v22
    clear hv
    obtain⟨fn,tmps,assign,body,hy,hR⟩:=hY k _ w' hlt HX.out (hJ _ _ _ hj hD)
    simp only[List.drop_succ_cons,List.drop_zero,v0,v1,v22]
    gi_wp2
    refine⟨fun h=>Ox,hR.mono ?_⟩
    rintro e W3 (⟨rfl,hJ3⟩|⟨rfl,hJx3⟩)
    ·gi_wp2
     go_roundw
     case rel=>exact⟨k+1,Ot,Ow,hJ3⟩
     case measure=>simp[Oh];omega
    ·gi_wp2
     refine bodyPost_ret (results_none rfl _ _ _) rfl ?_
     exact⟨⟨_,rfl⟩,.inr ⟨k,hlt,hJx3⟩⟩
  ·obtain rfl:k=r.length:=Ot
   gi_wp2
   go_end0
   exact⟨⟨_,rfl⟩,.inl hj⟩
theorem gW(w:NY)(A:Option Addr)(n cap:Nat):
  Of prog 150 #[.slice A n cap] w fun e w'=>e= .returned (.func (.func 200) #[] #[.pointer (N3 ⟨w.heap.size,0,N0⟩)])∧w'=w.alloc (.cells #[.slice A n cap] 73):=by
 go_enter func150,ntmps150
 go_wp2
 go_ret
 exact⟨rfl,rfl⟩
end
section
variable {P : Program}
theorem er{n:Nat}{g:Operand}{ps:Array Tmp}{assign body:Code}{Q:Exit→Act→NY→Prop}{a:Act}{w:NY}
  {gf:Nat}{lb:Array N2}(hg:a.eval g= .func (.func gf) #[] lb)(eg:∀args w,(callFunc gf args).run P w= .ok (.enter gf args) w)
  {X:Nat→Array N2→Prop}{M:NY→Prop}{N:Nat}(hseq:wv P gf lb X M N)(hps:∀k x,X k x→x.size=ps.size)
  (I:Nat→NY→Prop)(Ix:Code→Nat→NY→Prop)(hI:∀k W W',I k W→al w.heap.size W W'→I k W')(hIx:∀c k W W',Ix c k W→al w.heap.size W W'→Ix c k W')
  (hM:∀k W,I k W→M W)(h0:I 0 w)
  (hround:∀(l k:Nat) (x:Array N2) (W:NY) (K:Act→NY→Prop),k<N→X k x→I k W→
   (∀a' W1,Ext W W1→(∀W2,al w.heap.size W1 W2→w.heap.size<W2.heap.size→body.wpIn (Fence.wide.inRound l) (n-1-1) P (iV I Ix k W2) a' W2)→K a' W1)→
   assign.wpIn (Fence.wide.inRound l) (n-1-1) P (Exit.then K (fun _ _ _=>False)) {tmps:=(ps.zip x).foldl (fun t (p,v)=>t.setIfInBounds p v) a.tmps,defers:=[]} W)
  (hdone:∀(D:Nat) (W:NY),w.heap.size≤D→I N W→W.heap[D]?=N3 (.deferred (N3 []))→Q .normal {a with defers:={target:= .collected D,args:=#[]}::a.defers} W)
  (hstop:∀(D:Nat) (c:Code) (k:Nat) (W:NY),w.heap.size≤D→k<N→Ix c k W→W.heap[D]?=N3 (.deferred (N3 []))→c.wpIn Fence.wide n P Q {a with defers:={target:= .collected D,args:=#[]}::a.defers} W):
  (Code.rangeFunc g ps assign body).wpIn Fence.wide n P Q a w:=by
 refine wpIn_rangeFunc ?_
 intro fn hfn
 obtain⟨R,hR⟩:∃R:LoopState→Option Code→Loop,R=fun st pe=>{state:=st,pending:=pe,fn,tmps:=a.tmps,params:=ps,assign,body,defers:=w.heap.size}:=⟨_,rfl⟩
 obtain⟨W1,hW1⟩:∃W1,(w.alloc (.deferred (N3 []))).alloc (.loop (R .ready N0))=W1:=⟨_,rfl⟩
 have hL:W1.heap[w.heap.size+1]?=N3 (.loop (R .ready N0)):=by
  have:=NY.alloc_heap_new (w.alloc (.deferred (N3 []))) (.loop (R .ready N0))
  rwa[Oi,hW1] at this
 have hD:W1.heap[w.heap.size]?=N3 (.deferred (N3 [])):=by
  rw[←hW1];exact(Below.heap_alloc _ _ _ Ow).trans (NY.alloc_heap_new w _)
 have hb1:On w.heap.size w W1:=by rw[←hW1];exact((Below.refl _ w).alloc (NZ _) _).alloc Ow _
 have hI1:I 0 W1:=hI 0 _ _ h0 (al.aH hb1 (NZ _))
 refine⟨w.heap.size+1,[{target:= .collected w.heap.size,args:=#[]}],W1,{target:= .fn (.func gf) lb,args:=#[.func (.yield (w.heap.size+1)) #[] #[]]},W1,gf,
  #[.func (.yield (w.heap.size+1)) #[] #[]]++lb,W1,?_,?_,?_,?_,?_,?_⟩
 ·rw[←hW1,hR];exact run_enterLoop_outer _ _ _ _ _
 ·simp only[resolve,hg];simp[go_sem]
 ·intro _ _;trivial
 ·simp[invoke,go_sem,eg]
 ·intro h;cases h
 ·have recKeep:∀{A C:NY} {st:LoopState} {pe:Option Code},A.heap[w.heap.size+1]?=N3 (.loop (R st pe))→On A.heap.size A C→C.heap[w.heap.size+1]?=N3 (.loop (R st pe)):=
   fun h hb=>(hb.block _ (Od.1 h).1).trans h
  have defKeep:∀{A C:NY},A.heap[w.heap.size]?=N3 (.deferred (N3 []))→On A.heap.size A C→C.heap[w.heap.size]?=N3 (.deferred (N3 [])):=
   fun h hb=>(hb.block _ (Od.1 h).1).trans h
  refine(hseq (n-1) (w.heap.size+1)
   (fun k W=>I k W∧W.heap[w.heap.size+1]?=N3 (.loop (R .ready N0))∧W.heap[w.heap.size]?=N3 (.deferred (N3 [])))
   (fun k W=>∃c,Ix c k W∧W.heap[w.heap.size+1]?=N3 (.loop (R .done (N3 c)))∧W.heap[w.heap.size]?=N3 (.deferred (N3 [])))
   W1 (fun k W h=>hM k W h.1)
   (fun k A C h hb=>⟨hI k _ _ h.1 (al.aH hb (by have:=(Od.1 h.2.2).1;omega)),recKeep h.2.1 hb,defKeep h.2.2 hb⟩)
   (fun k A C h hb=>by
    obtain⟨c,h1,h2,h3⟩:=h
    exact⟨c,hIx c k _ _ h1 (al.aH hb (by have:=(Od.1 h3).1;omega)),recKeep h2 hb,defKeep h3 hb⟩)
   ?_ ⟨hI1,hL,hD⟩).mono ?_
  ·rintro k x W hk hx ⟨hi,hl,hd⟩
   have hlt:w.heap.size+1<W.heap.size:=(Od.1 hl).1
   have hy:=run_yield (P:=P) (args:=x) hl (by rw[hR];exact hps k x hx)
   rw[hR] at hy
   refine⟨fn,_,assign,body,hy,roundIn_of_wpIn hfn (hround _ k x W _ hk hx hi fun a' V1 hV1 hbody=>⟨_,run_beginRound (recKeep hl hV1) (by rw[hR]),?_⟩)⟩
   have hlv:=recKeep hl hV1
   have hdv:=defKeep hd hV1
   have hltv:w.heap.size+1<V1.heap.size:=(Od.1 hlv).1
   obtain⟨W2,hW2⟩:∃W2,V1.putObj (w.heap.size+1) (.loop {R .ready N0 with state:= .busy})=W2:=⟨_,rfl⟩
   rw[hW2]
   have hl2:W2.heap[w.heap.size+1]?=N3 (.loop {R .ready N0 with state:= .busy}):=by rw[←hW2];exact NY.putObj_heap_same hltv
   have hd2:W2.heap[w.heap.size]?=N3 (.deferred (N3 [])):=by rw[←hW2];exact(NY.putObj_heap_other Ot).trans hdv
   have hi2:al w.heap.size V1 W2:=by rw[←hW2];exact al.putObj _ hlv rfl Ot
   refine wpIn_mono (hbody W2 hi2 (by have:=(Od.1 hl2).1;omega)) ?_
   have fin:∀(jump:Option Code) (W3:NY),KeepsOthers W2 W3→∃W4,(Instr.endRound (w.heap.size+1) jump).run P W3= .ok (.bool jump.isNone) W4∧al w.heap.size W3 W4∧
     W4.heap[w.heap.size+1]?=N3 (.loop (R (if jump.isNone then .ready else .done) jump))∧W4.heap[w.heap.size]?=N3 (.deferred (N3 [])):=fun jump W3 hk3=>by
    have hl3:=hk3.same _ _ hl2 rfl
    have hr:=run_endRound (P:=P) jump hl3
    refine⟨_,hr,al.putObj _ hl3 rfl Ot,?_,(NY.putObj_heap_other Ot).trans (hk3.same _ _ hd2 rfl)⟩
    rw[NY.putObj_heap_same (Od.1 hl3).1,hR]
   rintro e a3 W3 hp
   cases e with
   |normal=>
    obtain⟨hk3,hi3⟩:=hp
    obtain⟨W4,hr,hs,hl4,hd4⟩:=fin N0 W3 hk3
    exact⟨_,_,hr,.inl ⟨rfl,hI _ _ _ hi3 hs,hl4,hd4⟩⟩
   |ret=>
    obtain⟨hk3,hi3⟩:=hp
    obtain⟨W4,hr,hs,hl4,hd4⟩:=fin (N3 .ret) W3 hk3
    exact⟨_,_,hr,.inr ⟨rfl,.ret,hIx _ _ _ _ hi3 hs,hl4,hd4⟩⟩
   |exit id=>
    obtain⟨hk3,hi3⟩:=hp
    obtain⟨W4,hr,hs,hl4,hd4⟩:=fin (N3 (.exit id)) W3 hk3
    exact⟨_,_,hr,.inr ⟨rfl,.exit id,hIx _ _ _ _ hi3 hs,hl4,hd4⟩⟩
   |goto t=>
    obtain⟨hk3,hi3⟩:=hp
    obtain⟨W4,hr,hs,hl4,hd4⟩:=fin (N3 (.goto t)) W3 hk3
    exact⟨_,_,hr,.inr ⟨rfl,.goto t,hIx _ _ _ _ hi3 hs,hl4,hd4⟩⟩
   |panic ch=>exact hp.elim
   |outgrown=>exact hp.elim
  ·rintro e W2 ⟨⟨v,rfl⟩,(⟨hi,hl,hd⟩|⟨k,hk,c,hi,hl,hd⟩)⟩
   ·have hr:=run_endLoop (P:=P) hl (by rw[hR];simp)
    exact⟨N0,_,by rw[hr,hR],hdone _ _ (NZ _) (hI _ _ _ hi (al.putObj _ hl rfl Ot)) ((NY.putObj_heap_other Ot).trans hd)⟩
   ·have hr:=run_endLoop (P:=P) hl (by rw[hR];simp)
    exact⟨N3 c,_,by rw[hr,hR],hstop _ c k _ (NZ _) hk (hIx _ _ _ _ hi (al.putObj _ hl rfl Ot)) ((NY.putObj_heap_other Ot).trans hd)⟩
end
section
open Kp
attribute [local go_sem] Oper.semAt_some
def cG(k:Nat)(rows:List (List N2)):Prop:=∀r∈rows,r.length=k
theorem bz{α:Type}{k:Nat}{f:α→List N2}(h:∀x,(f x).length=k)(l:List α):cG k (l.map f):=fun r hr=>by
 obtain⟨x,_,rfl⟩:=List.mem_map.1 hr;exact h x
theorem bC.stays{k n0:Nat}{w w':NY}{B:Nat}{A:Option Addr}{cap:Nat}{rows:List (List N2)}(h:bC k w B A cap rows)(hw:cG k rows)(hs:al n0 w w'):bC k w' B A cap rows:=by
 obtain⟨h1,h2,h3⟩:=h
 refine⟨h1,h2,fun hn=> ?_⟩
 obtain⟨b,off,e,hB,hc⟩:=h3 hn
 refine⟨b,off,e,hB,fun i hi j hj=> ?_⟩
 have h5:=hc i hi j hj
 have h6:(rows.getD i []).length=k:=by
  rw[N8,Oa hi];exact hw _ (List.getElem_mem hi)
 rw[Oa (by rw[h6];exact hj)] at h5⊢
 exact hs.cell h5
theorem cL(r:List Sd):cG 7 (ak r):=bz (f:=jF) (fun _=>rfl) r
def Eo(r:List Sd):Prop:=∀s∈r,co s.x∧co s.y
theorem gy{r:List Sd}(h:Eo r)(i:Nat):co (az r i).x∧co (az r i).y:=by
 unfold az
 by_cases hi:i<r.length
 ·rw[N8,Oa hi];exact h _ (List.getElem_mem hi)
 ·rw[N8,List.getElem?_eq_none Ot];decide
theorem AP(r:List Sd)(i:Nat):dL r i=az r ((i+r.length-1)%r.length):=rfl
theorem j6(r:List Sd)(i:Nat):bj r i=az r ((i+1)%r.length):=rfl
theorem oM{W:NY}{Bs B:Nat}{A:Option Addr}{cap:Nat}{r:List Sd}(h:Bx W Bs 73 (.slice A r.length cap))(hs:bC 7 W B A cap (ak r)):Nr Bs A cap r W:=⟨h.cell,B,hs⟩
theorem Ext.stays{n0:Nat}{w w':NY}(h:Ext w w')(hn:n0≤w.heap.size):al n0 w w':=al.aH h hn
theorem Ext.keeps{w w':NY}(h:Ext w w'):KeepsOthers w w':=⟨h.size,fun b o hb _=>(h.block b (Od.1 hb).1).trans hb⟩
structure MF(w:NY)(A:Option Addr)(cap:Nat)(r:List Sd)(k:Nat)(W:NY):Prop where
 sum:Bx W w.heap.size 3 (.int .i64 (oP (fun i=>(az r i).x*(bj r i).y-(az r i).y*(bj r i).x) k))
 it:Bx W (w.heap.size+1) 73 (.slice A r.length cap)
 sl:bC 7 W w.heap.size A cap (ak r)
 low:On w.heap.size w W
theorem MF.stays{w:NY}{A:Option Addr}{cap:Nat}{r:List Sd}{k n0:Nat}{W W':NY}(h:MF w A cap r k W)(hs:al n0 W W')(hn:w.heap.size≤n0):MF w A cap r k W':=
 ⟨h.sum.stays hs,h.it.stays hs,h.sl.stays (cL r) hs,h.low.trans (hs.below.mono hn)⟩
def AL(s c:Int)(own beh:Sd)(bl:Nat):Nat→N2
 |0=> .int .i64 s
 |1=> .pointer (N3 ⟨bl,7,N0⟩)
 |2=> .agg (jF own).toArray
 |3=> .agg (iE own.x own.y).toArray
 |4=> .pointer (N3 ⟨bl,14,N0⟩)
 |5=> .agg (jF beh).toArray
 |6=> .agg (iE beh.x beh.y).toArray
 |7=> .int .i64 c
 |_=> .int .i64 (s+c)
theorem Cq(w:NY)(A:Option Addr)(cap:Nat)(r:List Sd)(hr:bC 7 w w.heap.size A cap (ak r))(hc:Eo r)(hn:r.length≤1000):
  Of prog 156 #[.slice A r.length cap] w fun e w'=>e= .returned (.int .i64 (mW r))∧Ext w w':=by
 refine(callsIn_wide (n:=9)).1 (callsIn_of_wp_marks func156 rfl trivial ?_)
 simp only[ntmps156,List.size_toArray,List.length_cons,List.length_nil,Nat.reduceAdd,Nat.reduceSub,Array.replicate_succ,Array.replicate_zero,List.push_toArray,List.append_toArray,List.nil_append,List.cons_append]
 gi_wp2_with(refine⟨trivial,?_⟩;gi_at_call 150;refine(callsIn_wide.2 (gW _ _ _ _)).mono ?_;rintro e w' ⟨rfl,rfl⟩)
 refine er (gf:=200) (lb:=#[.pointer (N3 ⟨w.heap.size+1,0,N0⟩)]) rfl (enters_of func200 Ou rfl)
  (fR (w.heap.size+1) A cap r Ot) (fun k x e=>PS)
  (MF w A cap r) (fun _ _ _=>False) (fun k W W' h hs=>h.stays hs OB) (fun c k W W' h hs=>h) (fun k W h=>oM h.it h.sl) ?start ?round ?done ?stop
 case stop=>intro D c k W hD hk h;exact h.elim
 case start=>exact⟨(Bx.at_ rfl).alloc _,Bx.at_ Ow,hr.below (dI _ _ _),dI _ _ _⟩
 case done=>
  intro D W hD hi hK
  have c0:=hi.sum.cell
  have HL:=NW hi.low
  clear hi
  gi_wp2
  refine⟨Ow,.inl ⟨_,_,rfl,run_takeDeferred hK,?_⟩⟩
  have hs:=al.putObj (n0:=w.heap.size) (.deferred N0) hK rfl Pp
  exact⟨.int .i64 (mW r),by simp[results,results156,go_sem,mW],rfl,HL.out.trans hs.below⟩
 case round=>
  intro l k x W K hk hx hi hK
  obtain rfl:=hx
  have HK:=NW hK
  have RA:=NW (af.new W 190 (fZ (dL r k) (az r k) (bj r k)))
  have EA:=NW (show Ext W (W.alloc (.cells (fZ (dL r k) (az r k) (bj r k)).toArray 190)) from(Below.refl _ _).alloc (NZ _) _)
  have HI:=NW hi
  clear hK hi
  refine bQ (aJ _ _) Ou ?_
  go_wp2_with(refine wpList_store_row rfl 190 (.tmp 5) (.tmp 9) rfl W.heap.size (fZ (dL r k) (az r k) (bj r k)).toArray rfl rfl 190 _ (NY.alloc_heap_new _ _) Ou Ou Ou ?_;rw[eh _ _ _ _ rfl])
  refine bR (HK.out _ _ EA.out (fun W2 hs2 hlt2=> ?_))
  have hi2:=(HI.out.stays (EA.out.stays (n0:=w.heap.size) (by have:=HI.out.low.size;omega)) (NZ _)).stays hs2 OB
  have R2:af W2 W.heap.size 190 (fZ (dL r k) (az r k) (bj r k)):=hs2.cells _ _ _ _ RA.out
  clear HK HI EA RA hs2
  obtain⟨hox,hoy⟩:=gy hc k
  obtain⟨hbx,hby⟩:=gy hc ((k+1)%r.length)
  rw[←j6] at hbx hby
  obtain⟨own,hown⟩:∃o,az r k=o:=⟨_,rfl⟩
  obtain⟨beh,hbeh⟩:∃o,bj r k=o:=⟨_,rfl⟩
  have HS:=NW (show oP (fun i=>(az r i).x*(bj r i).y-(az r i).y*(bj r i).x) (k+1)=oP (fun i=>(az r i).x*(bj r i).y-(az r i).y*(bj r i).x) k+(own.x*beh.y-own.y*beh.x) by rw[oP,hown,hbeh])
  have hsb:=yq (n:=k) (m:=8589934592) (f:=fun i=>(az r i).x*(bj r i).y-(az r i).y*(bj r i).x) (fun i _=>by
   obtain⟨a1,a2⟩:=gy hc i
   obtain⟨b1,b2⟩:=gy hc ((i+1)%r.length)
   rw[←j6] at b1 b2
   have m1:=tT (a:=(az r i).x) (b:=(bj r i).y) (m:=65536) (n:=65536) Ot Ot
   have m2:=tT (a:=(az r i).y) (b:=(bj r i).x) (m:=65536) (n:=65536) Ot Ot
   simp only[Int.reduceMul] at m1 m2
   show _≤(az r i).x*(bj r i).y-(az r i).y*(bj r i).x∧(az r i).x*(bj r i).y-(az r i).y*(bj r i).x≤_
   omega)
  have hcb: -8589934592≤own.x*beh.y-own.y*beh.x∧own.x*beh.y-own.y*beh.x≤8589934592:=by
   rw[hown] at hox hoy;rw[hbeh] at hbx hby
   have m1:=tT (a:=own.x) (b:=beh.y) (m:=65536) (n:=65536) Ot Ot
   have m2:=tT (a:=own.y) (b:=beh.x) (m:=65536) (n:=65536) Ot Ot
   simp only[Int.reduceMul] at m1 m2
   omega
  have S2:=hi2.sum
  obtain⟨s,hs⟩:∃s,oP (fun i=>(az r i).x*(bj r i).y-(az r i).y*(bj r i).x) k=s:=⟨_,rfl⟩
  rw[hs] at HS hsb S2
  have hsw:Oe.wrap (s+(own.x*beh.y-own.y*beh.x))=s+(own.x*beh.y-own.y*beh.x):=Om _ Ot
  rw[hown] at hox hoy
  rw[hbeh] at hbx hby
  rw[hown,hbeh] at R2
  obtain⟨c,hcc⟩:∃c,own.x*beh.y-own.y*beh.x=c:=⟨_,rfl⟩
  rw[hcc] at HS hsw
  rw[hown,hbeh]
  have I2:=NW hi2
  clear hsb hcb hs hi2 hn
  gi_wp2
  refine wpIn_region_any Ou (jg (aJ _ _) Ou 9 (fun vs=>⟨#[.slice A r.length cap,N7,.int .i64 0,.pointer (N3 ⟨w.heap.size,0,N0⟩),N7,.pointer (N3 ⟨W.heap.size,0,N0⟩),.slice A r.length cap,.func (.func 200) #[] #[.pointer (N3 ⟨w.heap.size+1,0,N0⟩)],.int .i64 (k:Int),.agg (fZ (dL r k) own beh).toArray,vs 0,vs 1,vs 2,vs 3,vs 4,vs 5,vs 6,vs 7,vs 8,N7],[]⟩)
   (fun w'=>Ext W2 w') (fun i v _=>v=AL s c own beh W.heap.size i) (fun _=>N1) Ou (fun _ _ h k=>h.tr k) (fun _ _ _ _ h _=>h) (fun _ _ _ _ h=>Ox) ?step ?tail (fun _=>N7) _ (Ext.dr W2))
  case step=>
   intro i vs w' hi hD hd
   have cA:=fun i=>(R2.ext hD).cell i
   have cS:=(S2.stays (hD.stays (n0:=0) (Nat.zero_le _))).cell
   rcases(show i=0∨i=1∨i=2∨i=3∨i=4∨i=5∨i=6∨i=7∨i=8 by omega) with rfl|rfl|rfl|rfl|rfl|rfl|rfl|rfl|rfl<;>clear hi
   ·refine Ob rfl (fun K hK=> ?_)
    go_simp
    exact hK _ _ ⟨_,rfl,Ext.an _,rfl,fun h=>Ox⟩
   ·refine Ob rfl (fun K hK=> ?_)
    go_simp
    exact hK _ _ ⟨_,rfl,Ext.an _,rfl,fun h=>Ox⟩
   ·refine Ob rfl (fun K hK=> ?_)
    have d1:=hd 1 Ou
    simp only[AL] at d1
    go_simp
    exact hK _ _ ⟨_,by simp[d1,AL],Ext.an _,rfl,fun h=>Ox⟩
   ·refine Ob rfl (fun K hK=> ?_)
    have d2:=hd 2 Ou
    simp only[AL] at d2
    go_simp
    refine(aU own _).mono ?_
    rintro e W1 ⟨rfl,hX⟩
    exact hK _ _ ⟨_,by simp[d2,AL],hX,rfl,fun h=>Ox⟩
   ·refine Ob rfl (fun K hK=> ?_)
    go_simp
    exact hK _ _ ⟨_,rfl,Ext.an _,rfl,fun h=>Ox⟩
   ·refine Ob rfl (fun K hK=> ?_)
    have d4:=hd 4 Ou
    simp only[AL] at d4
    go_simp
    exact hK _ _ ⟨_,by simp[d4,AL],Ext.an _,rfl,fun h=>Ox⟩
   ·refine Ob rfl (fun K hK=> ?_)
    have d5:=hd 5 Ou
    simp only[AL] at d5
    go_simp
    refine(aU beh _).mono ?_
    rintro e W1 ⟨rfl,hX⟩
    exact hK _ _ ⟨_,by simp[d5,AL],hX,rfl,fun h=>Ox⟩
   ·refine Ob rfl (fun K hK=> ?_)
    have d3:=hd 3 Ou
    have d6:=hd 6 Ou
    simp only[AL] at d3 d6
    go_simp
    refine(mX own.x own.y beh.x beh.y _ Ot Ot Ot Ot).mono ?_
    rintro e W1 ⟨rfl,hX⟩
    rw[hcc]
    exact hK _ _ ⟨_,by simp[d3,d6,AL],hX,rfl,fun h=>Ox⟩
   ·refine Ob rfl (fun K hK=> ?_)
    have d0:=hd 0 Ou
    have d7:=hd 7 Ou
    simp only[AL] at d0 d7
    go_simp
    exact hK _ _ ⟨_,by simp[d0,d7,AL],Ext.an _,rfl,fun h=>Ox⟩
  case tail=>
   intro vs w' hD hv _
   have v8:=hv 8 Ov
   simp only[AL] at v8
   clear hv
   have S3:=S2.stays (hD.stays (n0:=0) (Nat.zero_le _))
   have cS:=S3.cell
   have fS:=S3.frozen
   simp only[List.drop_succ_cons,List.drop_zero,v8]
   have HD:=NW hD
   clear hD
   gi_wp2
   have I3:=I2.out.stays (HD.out.stays (n0:=w.heap.size) (by have:=I2.out.low.size;omega)) (NZ _)
   refine⟨HD.out.keeps.trans (KeepsOthers.setCell _ _ _),?_,?_,?_,?_⟩
   ·rw[HS.out];exact S3.put _
   ·exact I3.it.cI Ow _
   ·exact I3.sl.below ((Below.refl _ _).setCell (p:=⟨w.heap.size,0,N0⟩) (NZ _) _)
   ·exact I3.low.setCell (p:=⟨w.heap.size,0,N0⟩) (NZ _) _
end
section
open Kp
attribute [local go_sem] Oper.semAt_some
structure Kw(w:NY)(A:Option Addr)(cap:Nat)(r:List Sd)(x y:Int)(k:Nat)(W:NY):Prop where
 p:af W w.heap.size 192 (iE x y)
 odd:Bx W (w.heap.size+1) 4 (.bool (xq (jy r x y) k))
 it:Bx W (w.heap.size+2) 73 (.slice A r.length cap)
 sl:bC 7 W w.heap.size A cap (ak r)
 low:On w.heap.size w W
theorem af.stays{n0:Nat}{W W':NY}{b:Nat}{t:Oo}{l:List N2}(h:af W b t l)(hs:al n0 W W'):af W' b t l:=hs.cells _ _ _ _ h
theorem Kw.stays{w:NY}{A:Option Addr}{cap:Nat}{r:List Sd}{x y:Int}{k n0:Nat}{W W':NY}(h:Kw w A cap r x y k W)(hs:al n0 W W')(hn:w.heap.size≤n0):Kw w A cap r x y k W':=
 ⟨h.p.stays hs,h.odd.stays hs,h.it.stays hs,h.sl.stays (cL r) hs,h.low.trans (hs.below.mono hn)⟩
theorem oi{w:NY}{A:Option Addr}{cap:Nat}{r:List Sd}{x y:Int}{k:Nat}{W W':NY}(h:Kw w A cap r x y k W)(hp:jy r x y k=N1)(hx:Ext W W'):Kw w A cap r x y (k+1) W':=by
 have h':=h.stays (hx.stays (n0:=w.heap.size) (by have:=h.low.size;omega)) (NZ _)
 refine⟨h'.p,?_,h'.it,h'.sl,h'.low⟩
 rw[xq,hp,if_neg Ov];exact h'.odd
theorem CU(a b:Int)(W:NY):Sem.run prog (Instr.field 192 (.agg (iE a b).toArray) 0) W= .ok (.int .i64 a) W:=Ou
theorem nB(w:NY)(A:Option Addr)(cap:Nat)(r:List Sd)(x y:Int)(hr:bC 7 w w.heap.size A cap (ak r))(hc:Eo r)(hn:r.length≤1000):
  Of prog 157 #[.slice A r.length cap,.agg (iE x y).toArray] w fun e w'=>e= .returned (.bool (ik r x y))∧Ext w w':=by
 refine(callsIn_wide (n:=9)).1 (callsIn_of_wp_marks func157 rfl trivial ?_)
 simp only[ntmps157,List.size_toArray,List.length_cons,List.length_nil,Nat.reduceAdd,Nat.reduceSub,Array.replicate_succ,Array.replicate_zero,List.push_toArray,List.append_toArray,List.nil_append,List.cons_append]
 gi_wp2_with(refine⟨trivial,?_⟩;gi_at_call 150;refine(callsIn_wide.2 (gW _ _ _ _)).mono ?_;rintro e w' ⟨rfl,rfl⟩)
 refine er (gf:=200) (lb:=#[.pointer (N3 ⟨w.heap.size+2,0,N0⟩)]) rfl (enters_of func200 Ou rfl)
  (fR (w.heap.size+2) A cap r Ot) (fun k x e=>PS)
  (Kw w A cap r x y) (fun _ _ _=>False) (fun k W W' h hs=>h.stays hs OB) (fun c k W W' h hs=>h) (fun k W h=>oM h.it h.sl) ?start ?round ?done ?stop
 case stop=>intro D c k W hD hk h;exact h.elim
 case start=>exact⟨((af.new _ _ _).ext (dI _ _ _)),((Bx.at_ Ow).alloc _),Bx.at_ Ow,hr.below (wK _ _ _ _),wK _ _ _ _⟩
 case done=>
  intro D W hD hi hK
  have c0:=hi.odd.cell
  have HL:=NW hi.low
  clear hi
  gi_wp2
  refine⟨Ow,.inl ⟨_,_,rfl,run_takeDeferred hK,?_⟩⟩
  have hs:=al.putObj (n0:=w.heap.size) (.deferred N0) hK rfl Pp
  exact⟨.bool (ik r x y),by simp[results,results157,go_sem,ik],rfl,HL.out.trans hs.below⟩
 case round=>
  intro l k z W K hk hx hi hK
  obtain rfl:=hx
  have HK:=NW hK
  have RA:=NW (af.new W 190 (fZ (dL r k) (az r k) (bj r k)))
  have EA:=NW (show Ext W (W.alloc (.cells (fZ (dL r k) (az r k) (bj r k)).toArray 190)) from(Below.refl _ _).alloc (NZ _) _)
  have HI:=NW hi
  clear hK hi
  refine bQ (aJ _ _) Ou ?_
  go_wp2_with(refine wpList_store_row rfl 190 (.tmp 7) (.tmp 12) rfl W.heap.size (fZ (dL r k) (az r k) (bj r k)).toArray rfl rfl 190 _ (NY.alloc_heap_new _ _) Ou Ou Ou ?_;rw[eh _ _ _ _ rfl])
  refine bR (HK.out _ _ EA.out (fun W2 hs2 hlt2=> ?_))
  have hi2:=(HI.out.stays (EA.out.stays (n0:=w.heap.size) (by have:=HI.out.low.size;omega)) (NZ _)).stays hs2 OB
  have R2:af W2 W.heap.size 190 (fZ (dL r k) (az r k) (bj r k)):=hs2.cells _ _ _ _ RA.out
  have hWl:=HI.out.it.lt
  clear HK HI EA RA hs2
  obtain⟨hox,hoy⟩:=gy hc k
  obtain⟨hbx,hby⟩:=gy hc ((k+1)%r.length)
  rw[←j6] at hbx hby
  obtain⟨own,hown⟩:∃o,az r k=o:=⟨_,rfl⟩
  obtain⟨beh,hbeh⟩:∃o,bj r k=o:=⟨_,rfl⟩
  have HO:=NW (show jy r x y k=(((beh.x-own.x)==0)&&decide (x<own.x)&&(decide (y<own.y) !=decide (y<beh.y))) by unfold jy zg;rw[hown,hbeh])
  rw[hown] at hox hoy
  rw[hbeh] at hbx hby
  rw[hown,hbeh] at R2
  rw[hown,hbeh]
  have I2:=NW hi2
  obtain⟨o,ho⟩:∃o,xq (jy r x y) k=o:=⟨_,rfl⟩
  have HOD:=NW ho
  have S2:=hi2.odd
  rw[ho] at S2
  have P2:=hi2.p
  clear hi2 ho hn
  have cA:=fun i=>R2.cell i
  have hf:=fun W=>CU (beh.x-own.x) (beh.y-own.y) W
  cases t1:((beh.x-own.x)==0)
  ·have HP:=NW (show jy r x y k=N1 by rw[HO.out,t1];rfl)
   gi_wp2_with(first
    |(refine⟨trivial,?_⟩;gi_at_call 151;refine(CallsIn.inRound l (callsIn_wide.2 (aU own _))).mono ?_;rintro e W3 ⟨rfl,hX3⟩;have E3:Ext W2 (W3.alloc (.cells (iE own.x own.y).toArray 192)):=hX3.tr ((Below.refl _ _).alloc (NZ _) _);have Q3:=af.new W3 192 (iE own.x own.y))
    |(refine aZ (aJ _ _) rfl 190 (.tmp 7) rfl W.heap.size rfl 190 _ (0,0) _ (R2.ext E3) underlying190 rfl Ou ?_)
    |(refine⟨trivial,?_⟩;gi_at_call 153;refine(CallsIn.inRound l (callsIn_wide.2 (fX (dL r k) own beh _ hox hoy hbx hby))).mono ?_;rintro e W5 ⟨rfl,hX5⟩;have E5:=E3.tr hX5;have cA5:=fun i=>(R2.ext E5).cell i;have cP5:=fun i=>(P2.ext E5).cell i;have cQ5:=fun i=>(Q3.ext hX5).cell i;have S5:=S2.stays (E5.stays (n0:=0) (Nat.zero_le _));have cS5:=S5.cell;have fS5:=S5.frozen))
   exact⟨E5.keeps,oi I2.out HP.out E5⟩
  cases t2:decide (x<own.x)
  ·have HP:=NW (show jy r x y k=N1 by rw[HO.out,t1,t2];rfl)
   gi_wp2_with(first
    |(refine⟨trivial,?_⟩;gi_at_call 151;refine(CallsIn.inRound l (callsIn_wide.2 (aU own _))).mono ?_;rintro e W3 ⟨rfl,hX3⟩;have E3:Ext W2 (W3.alloc (.cells (iE own.x own.y).toArray 192)):=hX3.tr ((Below.refl _ _).alloc (NZ _) _);have Q3:=af.new W3 192 (iE own.x own.y))
    |(refine aZ (aJ _ _) rfl 190 (.tmp 7) rfl W.heap.size rfl 190 _ (0,0) _ (R2.ext E3) underlying190 rfl Ou ?_)
    |(refine⟨trivial,?_⟩;gi_at_call 153;refine(CallsIn.inRound l (callsIn_wide.2 (fX (dL r k) own beh _ hox hoy hbx hby))).mono ?_;rintro e W5 ⟨rfl,hX5⟩;have E5:=E3.tr hX5;have cA5:=fun i=>(R2.ext E5).cell i;have cP5:=fun i=>(P2.ext E5).cell i;have cQ5:=fun i=>(Q3.ext hX5).cell i;have S5:=S2.stays (E5.stays (n0:=0) (Nat.zero_le _));have cS5:=S5.cell;have fS5:=S5.frozen))
   exact⟨E5.keeps,oi I2.out HP.out E5⟩
  cases t3:decide (y<own.y)<;>cases t4:decide (y<beh.y)
  ·have HP:=NW (show jy r x y k=N1 by rw[HO.out,t1,t2,t3,t4];rfl)
   gi_wp2_with(first
    |(refine⟨trivial,?_⟩;gi_at_call 151;refine(CallsIn.inRound l (callsIn_wide.2 (aU own _))).mono ?_;rintro e W3 ⟨rfl,hX3⟩;have E3:Ext W2 (W3.alloc (.cells (iE own.x own.y).toArray 192)):=hX3.tr ((Below.refl _ _).alloc (NZ _) _);have Q3:=af.new W3 192 (iE own.x own.y))
    |(refine aZ (aJ _ _) rfl 190 (.tmp 7) rfl W.heap.size rfl 190 _ (0,0) _ (R2.ext E3) underlying190 rfl Ou ?_)
    |(refine⟨trivial,?_⟩;gi_at_call 153;refine(CallsIn.inRound l (callsIn_wide.2 (fX (dL r k) own beh _ hox hoy hbx hby))).mono ?_;rintro e W5 ⟨rfl,hX5⟩;have E5:=E3.tr hX5;have cA5:=fun i=>(R2.ext E5).cell i;have cP5:=fun i=>(P2.ext E5).cell i;have cQ5:=fun i=>(Q3.ext hX5).cell i;have S5:=S2.stays (E5.stays (n0:=0) (Nat.zero_le _));have cS5:=S5.cell;have fS5:=S5.frozen))
   exact⟨E5.keeps,oi I2.out HP.out E5⟩
  ·have HP:=NW (show jy r x y k=Oc by rw[HO.out,t1,t2,t3,t4];rfl)
   gi_wp2_with(first
    |(refine⟨trivial,?_⟩;gi_at_call 151;refine(CallsIn.inRound l (callsIn_wide.2 (aU own _))).mono ?_;rintro e W3 ⟨rfl,hX3⟩;have E3:Ext W2 (W3.alloc (.cells (iE own.x own.y).toArray 192)):=hX3.tr ((Below.refl _ _).alloc (NZ _) _);have Q3:=af.new W3 192 (iE own.x own.y))
    |(refine aZ (aJ _ _) rfl 190 (.tmp 7) rfl W.heap.size rfl 190 _ (0,0) _ (R2.ext E3) underlying190 rfl Ou ?_)
    |(refine⟨trivial,?_⟩;gi_at_call 153;refine(CallsIn.inRound l (callsIn_wide.2 (fX (dL r k) own beh _ hox hoy hbx hby))).mono ?_;rintro e W5 ⟨rfl,hX5⟩;have E5:=E3.tr hX5;have cA5:=fun i=>(R2.ext E5).cell i;have cP5:=fun i=>(P2.ext E5).cell i;have cQ5:=fun i=>(Q3.ext hX5).cell i;have S5:=S2.stays (E5.stays (n0:=0) (Nat.zero_le _));have cS5:=S5.cell;have fS5:=S5.frozen))
   refine⟨E5.keeps.trans (KeepsOthers.setCell _ _ _),?_⟩
   have I5:=I2.out.stays (E5.stays (n0:=w.heap.size) (by have:=I2.out.low.size;omega)) (NZ _)
   refine⟨I5.p.cI Ow _,?_,I5.it.cI Ow _,?_,?_⟩
   ·rw[xq,if_pos HP.out,HOD.out];exact S5.put _
   ·exact I5.sl.below ((Below.refl _ _).setCell (p:=⟨w.heap.size+1,0,N0⟩) Ow _)
   ·exact I5.low.setCell (p:=⟨w.heap.size+1,0,N0⟩) Ow _
  ·have HP:=NW (show jy r x y k=Oc by rw[HO.out,t1,t2,t3,t4];rfl)
   gi_wp2_with(first
    |(refine⟨trivial,?_⟩;gi_at_call 151;refine(CallsIn.inRound l (callsIn_wide.2 (aU own _))).mono ?_;rintro e W3 ⟨rfl,hX3⟩;have E3:Ext W2 (W3.alloc (.cells (iE own.x own.y).toArray 192)):=hX3.tr ((Below.refl _ _).alloc (NZ _) _);have Q3:=af.new W3 192 (iE own.x own.y))
    |(refine aZ (aJ _ _) rfl 190 (.tmp 7) rfl W.heap.size rfl 190 _ (0,0) _ (R2.ext E3) underlying190 rfl Ou ?_)
    |(refine⟨trivial,?_⟩;gi_at_call 153;refine(CallsIn.inRound l (callsIn_wide.2 (fX (dL r k) own beh _ hox hoy hbx hby))).mono ?_;rintro e W5 ⟨rfl,hX5⟩;have E5:=E3.tr hX5;have cA5:=fun i=>(R2.ext E5).cell i;have cP5:=fun i=>(P2.ext E5).cell i;have cQ5:=fun i=>(Q3.ext hX5).cell i;have S5:=S2.stays (E5.stays (n0:=0) (Nat.zero_le _));have cS5:=S5.cell;have fS5:=S5.frozen))
   refine⟨E5.keeps.trans (KeepsOthers.setCell _ _ _),?_⟩
   have I5:=I2.out.stays (E5.stays (n0:=w.heap.size) (by have:=I2.out.low.size;omega)) (NZ _)
   refine⟨I5.p.cI Ow _,?_,I5.it.cI Ow _,?_,?_⟩
   ·rw[xq,if_pos HP.out,HOD.out];exact S5.put _
   ·exact I5.sl.below ((Below.refl _ _).setCell (p:=⟨w.heap.size+1,0,N0⟩) Ow _)
   ·exact I5.low.setCell (p:=⟨w.heap.size+1,0,N0⟩) Ow _
  ·have HP:=NW (show jy r x y k=N1 by rw[HO.out,t1,t2,t3,t4];rfl)
   gi_wp2_with(first
    |(refine⟨trivial,?_⟩;gi_at_call 151;refine(CallsIn.inRound l (callsIn_wide.2 (aU own _))).mono ?_;rintro e W3 ⟨rfl,hX3⟩;have E3:Ext W2 (W3.alloc (.cells (iE own.x own.y).toArray 192)):=hX3.tr ((Below.refl _ _).alloc (NZ _) _);have Q3:=af.new W3 192 (iE own.x own.y))
    |(refine aZ (aJ _ _) rfl 190 (.tmp 7) rfl W.heap.size rfl 190 _ (0,0) _ (R2.ext E3) underlying190 rfl Ou ?_)
    |(refine⟨trivial,?_⟩;gi_at_call 153;refine(CallsIn.inRound l (callsIn_wide.2 (fX (dL r k) own beh _ hox hoy hbx hby))).mono ?_;rintro e W5 ⟨rfl,hX5⟩;have E5:=E3.tr hX5;have cA5:=fun i=>(R2.ext E5).cell i;have cP5:=fun i=>(P2.ext E5).cell i;have cQ5:=fun i=>(Q3.ext hX5).cell i;have S5:=S2.stays (E5.stays (n0:=0) (Nat.zero_le _));have cS5:=S5.cell;have fS5:=S5.frozen))
   exact⟨E5.keeps,oi I2.out HP.out E5⟩
end
end Go.Proofs.YtnpihidbkhehjaaGreatDoor
