/- ChangeReplays of kingpostlaw58: part 5 of its proof (merged and shortened by program). -/
import Derived.Lib.AppendZeros
import Derived.Test.YtmliacdegmklaaaGreatDoorM02
import Derived.Test.YtmliacdegmklaaaGreatDoorM03
set_option linter.unusedVariables false
set_option linter.unusedSimpArgs false
set_option linter.defProp false
set_option maxHeartbeats 8000000
set_option maxRecDepth 100000
open Go.RowKit Go.Shelf Go.Proofs.Tryz
open Array renaming getElem?_eq_some_iff→Vz
open Bool renaming false→Vp,true→Vv,and_eq_true_iff→Vw
open Go renaming World→Vl,Value→Vr,undef→Vs,wpOp_step→Vx,Calls→VC,maxLen→VJ,TypeId→VK,Addr→VM,Rows→VP
open Go.AllReady renaming cons→VH,nil→VO
open Go.Ending renaming returned→VV
open Go.IntKind renaming i64→VA
open Go.IntWalk renaming i64_in→VI
open Go.Lib renaming hid→Vk
open Go.RowKit renaming intOf→VG,Below→VL
open Go.Value renaming slice→VQ,string→VR,bool→VS,pointer→VT,int→VU,agg→VW,tuple→VX
open Go.World renaming alloc_heap_new→Vy,size_alloc→VF
open List renaming getD_eq_getElem?_getD→Vn,getElem?_eq_getElem→Vt,length_map→Vu,length_append→VD
open Nat renaming le_refl→Vm,le_trans→VB,mul_comm→VE
open Option renaming none→Vo,some→Vq
open Option.some renaming inj→VN
open Go.Proofs.YtmliacdegmklaaaGreatDoor
namespace Go.Proofs.YtmliacdegmklaaaGreatDoor
section
open Kp
attribute [local go_sem] Oper.semAt_some
def bK(k:Nat)(w:Vl)(B:Nat)(A:Option VM)(cap:Nat)(rows:List (List Vr)):Prop:=
 rows.length<=cap/\cap<=VJ/\(0<rows.length->∃b off,A=Vq ⟨b,off,Vo⟩/\b<B/\∀i,i<rows.length->∀j,j<k->w.cell? ⟨b,off+k*i+j,Vo⟩=(rows.getD i [])[j]?)
def bK.below{k:Nat}{w w':Vl}{B:Nat}{A:Option VM}{cap:Nat}{rows:List (List Vr)}(h:bK k w B A cap rows)(hb:VL B w w'):bK k w' B A cap rows:=by
 obtain⟨h1,h2,h3⟩:=h;refine⟨h1,h2,λhn=> ?_⟩;obtain⟨b,off,e,hB,hc⟩:=h3 hn;exact⟨b,off,e,hB,λi hi j hj=>(hb.cell hB).trans (hc i hi j hj)⟩
def bK.more{k:Nat}{w:Vl}{B B':Nat}{A:Option VM}{cap:Nat}{rows:List (List Vr)}(h:bK k w B A cap rows)(hb:B<=B'):bK k w B' A cap rows:=by
 obtain⟨h1,h2,h3⟩:=h;refine⟨h1,h2,λhn=> ?_⟩;obtain⟨b,off,e,hB,hc⟩:=h3 hn;exact⟨b,off,e,VY,hc⟩
abbrev aD(r:List Sd):List (List Vr):=r.map nt
def iJ{r:List Sd}{i:Nat}(hi:i<r.length):(aD r).getD i []=nt (aq r i):=by
 unfold aq;exact Y5
def UT(Bs:Nat)(A:Option VM)(cap:Nat)(r:List Sd)(W:Vl):Prop:=
 W.cell? ⟨Bs,0,Vo⟩=Vq (VQ A r.length cap)/\∃B,bK 7 W B A cap (aD r)
def UI(r:List Sd)(k:Nat)(x:Array Vr):Prop:=x=#[VU VA (k:Int),VW (jx (er r k) (aq r k) (aP r k)).toArray]
def sj(r:List Sd)(k p1 p2 lp b off:Nat)(A:Option VM)(cap:Nat):Nat->Vr
 |0=> .func (.yield lp) #[] #[]
 |1=> VU VA (k:Int)
 |2=> VQ A r.length cap
 |3=> VU VA (k:Int)
 |4=> VU VA (r.length:Int)
 |5=> VU VA ((k:Int)+r.length)
 |6=> VU VA ((k:Int)+r.length-1)
 |7=> VU VA (r.length:Int)
 |8=> VU VA (p1:Int)
 |9=> VT (Vq ⟨b,off+7*p1,Vo⟩)
 |10=> VW (nt (aq r p1)).toArray
 |11=> VQ A r.length cap
 |12=> VU VA (k:Int)
 |13=> VT (Vq ⟨b,off+7*k,Vo⟩)
 |14=> VW (nt (aq r k)).toArray
 |15=> VQ A r.length cap
 |16=> VU VA (k:Int)
 |17=> VU VA ((k:Int)+1)
 |18=> VU VA (r.length:Int)
 |19=> VU VA (p2:Int)
 |20=> VT (Vq ⟨b,off+7*p2,Vo⟩)
 |21=> VW (nt (aq r p2)).toArray
 |_=> VW (jx (aq r p1) (aq r k) (aq r p2)).toArray
def jj(Bs:Nat)(A:Option VM)(cap:Nat)(r:List Sd)(hn:r.length<=1000000):
  DX prog 238 #[VT (Vq ⟨Bs,0,Vo⟩)] (UI r) (UT Bs A cap r) r.length:=by
 intro m lp J Jx W hM hJ hJx hY h0;refine callsIn_of_wp func238 rfl trivial ?_ rfl;have hc0:=(hM 0 W h0).1;simp only[ntmps238,List.size_toArray,List.length_cons,List.length_nil,Nat.reduceAdd,Nat.reduceSub,Array.replicate_succ,Array.replicate_zero,List.push_toArray,List.append_toArray,List.nil_append,List.cons_append]
 gi_wp2
 gi_loopw [9] (λi wr=>∃k:Nat,k<=r.length/\i=VU VA (k:Int)/\J k wr) (λi _=>((r.length:Int)-VG i).toNat)
 case atStart=>exact⟨0,VY,V5,h0⟩
 case round=>
  obtain⟨k,hk,rfl,hj⟩:=hrel;obtain⟨hc,B,hsl⟩:=hM k wr hj;by_cases hlt:k<r.length
  ·skip;obtain⟨h1,h2,h3⟩:=hsl;rw[Vu] at h1 h3;obtain⟨b,off,rfl,hB,hcell⟩:=h3 VY;obtain⟨p1,lD⟩:∃p1,(k+r.length-1)%r.length=p1:=⟨_,rfl⟩;obtain⟨p2,qG⟩:∃p2,(k+1)%r.length=p2:=⟨_,rfl⟩;have m1:p1<r.length:=by rw[<-lD];exact Nat.mod_lt _ VY
   have m2:p2<r.length:=by rw[<-qG];exact Nat.mod_lt _ VY
   have q1:((k:Int)+r.length-1).tmod (r.length:Int)=(p1:Int):=by rw[Int.tmod_eq_emod_of_nonneg VY,show((k:Int)+r.length-1)=((k+r.length-1:Nat):Int) by omega,<-lD];rfl
   have q2:((k:Int)+1).tmod (r.length:Int)=(p2:Int):=by rw[Int.tmod_eq_emod_of_nonneg VY,<-qG];rfl
   have HX:=Vk (show UI r k #[VU VA (k:Int),VW (jx (aq r p1) (aq r k) (aq r p2)).toArray] by unfold UI er aP;rw[lD,qG];rfl);clear lD qG;clear hcell h3;unfold VJ at h2
   gi_wp2
   refine wpIn_region_any VZ (mW (Cs _) VZ 23 (λvs=>⟨#[.func (.yield lp) #[] #[],VT (Vq ⟨Bs,0,Vo⟩),Vs,VU VA (r.length:Int),VU VA (k:Int),VQ (Vq ⟨b,off,Vo⟩) r.length cap,VU VA (r.length:Int),VQ (Vq ⟨b,off,Vo⟩) r.length cap,VU VA (r.length:Int),VU VA (k:Int),VS Vv,VU VA (k:Int),vs 0,vs 1,vs 2,vs 3,vs 4,vs 5,vs 6,vs 7,vs 8,vs 9,vs 10,vs 11,vs 12,vs 13,vs 14,vs 15,vs 16,vs 17,vs 18,vs 19,vs 20,vs 21,vs 22,u35,u36,u37],[]⟩)
    (λw'=>Ext wr w') (λi v _=>v=sj r k p1 p2 lp b off (Vq ⟨b,off,Vo⟩) cap i) (λ_=>Vp) VZ (λ_ _ h k=>h.tr k) (λ_ _ _ _ h _=>h) (λ_ _ _ _ h=>V6) ?step ?tail (λi=>match i with|0=>u12|1=>u13|2=>u14|3=>u15|4=>u16|5=>u17|6=>u18|7=>u19|8=>u20|9=>u21|10=>u22|11=>u23|12=>u24|13=>u25|14=>u26|15=>u27|16=>u28|17=>u29|18=>u30|19=>u31|20=>u32|21=>u33|_=>u34) _ (Ext.dr wr))
   case step=>
    intro i vs w' hi hD hd;have w1:VA.wrap ((k:Int)+r.length)=(k:Int)+r.length:=VI _ VY;have w2:VA.wrap ((k:Int)+r.length-1)=(k:Int)+r.length-1:=VI _ VY;have w3:VA.wrap ((k:Int)+1)=(k:Int)+1:=VI _ VY;have q4:¬r=[]:=by intro h;rw[h] at hlt;simp at hlt
    have q3:((r.length:Int)==0)=Vp:=We;obtain⟨hcw,B2,_,_,h4⟩:=hM k w' (hJ _ _ _ hj hD);obtain⟨b2,off2,e2,_,hcell⟩:=h4 (by rw[Vu];omega);rw[Vu] at hcell;obtain⟨rfl,rfl⟩:b2=b/\off2=off:=by injection e2 with e2;injection e2 with e3 e4;exact⟨e3.symm,e4.symm⟩
    have c1:=λj (hj:j<7)=>(hcell _ m1 j hj).trans (by rw[iJ m1])
    have c2:=λj (hj:j<7)=>(hcell _ hlt j hj).trans (by rw[iJ hlt])
    have c3:=λj (hj:j<7)=>(hcell _ m2 j hj).trans (by rw[iJ m2])
    have c10:=c1 0 V0;have c20:=c2 0 V0;have c30:=c3 0 V0;rw[Nat.add_zero] at c10 c20 c30;clear hcell h4 e2;rcases(show i=0\/i=1\/i=2\/i=3\/i=4\/i=5\/i=6\/i=7\/i=8\/i=9\/i=10\/i=11\/i=12\/i=13\/i=14\/i=15\/i=16\/i=17\/i=18\/i=19\/i=20\/i=21\/i=22 by omega) with rfl|rfl|rfl|rfl|rfl|rfl|rfl|rfl|rfl|rfl|rfl|rfl|rfl|rfl|rfl|rfl|rfl|rfl|rfl|rfl|rfl|rfl|rfl<;>clear hi
    ·exact Y1
    ·exact Y1
    ·exact Y1
    ·exact Y1
    ·exact Y1
    ·refine Vx rfl (λK hK=> ?_);have d3:=hd 3 VZ;have d4:=hd 4 VZ;simp only[sj] at d3 d4;go_simp;exact hK _ _ ⟨_,by simp[d3,d4,sj],Ext.aB _,rfl,λh=>V6⟩
    ·refine Vx rfl (λK hK=> ?_);have d5:=hd 5 VZ;simp only[sj] at d5;go_simp;exact hK _ _ ⟨_,by simp[d5,sj],Ext.aB _,rfl,λh=>V6⟩
    ·exact Y1
    ·refine Vx rfl (λK hK=> ?_);have d6:=hd 6 VZ;have d7:=hd 7 VZ;simp only[sj] at d6 d7;go_simp;exact hK _ _ ⟨_,by simp[d6,d7,sj],Ext.aB _,rfl,λh=>V6⟩
    ·refine Vx rfl (λK hK=> ?_);have d2:=hd 2 VZ;have d8:=hd 8 VZ;simp only[sj] at d2 d8;go_simp;exact hK _ _ ⟨_,by simp[d2,d8,sj],Ext.aB _,rfl,λh=>V6⟩
    ·refine Vx rfl (λK hK=> ?_);have d9:=hd 9 VZ;simp only[sj] at d9;go_simp;exact hK _ _ ⟨_,by simp[d9,sj],Ext.aB _,rfl,λh=>V6⟩
    ·exact Y1
    ·exact Y1
    ·refine Vx rfl (λK hK=> ?_);have d11:=hd 11 VZ;have d12:=hd 12 VZ;simp only[sj] at d11 d12;go_simp;exact hK _ _ ⟨_,by simp[d11,d12,sj],Ext.aB _,rfl,λh=>V6⟩
    ·refine Vx rfl (λK hK=> ?_);have d13:=hd 13 VZ;simp only[sj] at d13;go_simp;exact hK _ _ ⟨_,by simp[d13,sj],Ext.aB _,rfl,λh=>V6⟩
    ·exact Y1
    ·exact Y1
    ·refine Vx rfl (λK hK=> ?_);have d16:=hd 16 VZ;simp only[sj] at d16;go_simp;exact hK _ _ ⟨_,by simp[d16,sj],Ext.aB _,rfl,λh=>V6⟩
    ·exact Y1
    ·refine Vx rfl (λK hK=> ?_);have d17:=hd 17 VZ;have d18:=hd 18 VZ;simp only[sj] at d17 d18;go_simp;exact hK _ _ ⟨_,by simp[d17,d18,sj],Ext.aB _,rfl,λh=>V6⟩
    ·refine Vx rfl (λK hK=> ?_);have d15:=hd 15 VZ;have d19:=hd 19 VZ;simp only[sj] at d15 d19;go_simp;exact hK _ _ ⟨_,by simp[d15,d19,sj],Ext.aB _,rfl,λh=>V6⟩
    ·refine Vx rfl (λK hK=> ?_);have d20:=hd 20 VZ;simp only[sj] at d20;go_simp;exact hK _ _ ⟨_,by simp[d20,sj],Ext.aB _,rfl,λh=>V6⟩
    ·refine Vx rfl (λK hK=> ?_);have d10:=hd 10 VZ;have d14:=hd 14 VZ;have d21:=hd 21 VZ;simp only[sj] at d10 d14 d21;go_simp;exact hK _ _ ⟨_,by simp[d10,d14,d21,sj],Ext.aB _,rfl,λh=>V6⟩
   case tail=>
    intro vs w' hD hv _;have v0:=hv 0 V0;have v1:=hv 1 V0;have v22:=hv 22 V0;simp only[sj] at v0 v1 v22;clear hv;obtain⟨fn,tmps,assign,body,hy,hR⟩:=hY k _ w' hlt HX.o (hJ _ _ _ hj hD);simp only[List.drop_succ_cons,List.drop_zero,v0,v1,v22];exact Ym
  ·obtain rfl:k=r.length:=VY;exact Yi
def kO(w:Vl)(A:Option VM)(n cap:Nat):
  VC prog 192 #[VQ A n cap] w λe w'=>e=VV (.func (.func 238) #[] #[VT (Vq ⟨w.heap.size,0,Vo⟩)])/\w'=w.alloc (.cells #[VQ A n cap] 80):=by
 go_enter func192,ntmps192;go_wp2;go_ret;exact⟨rfl,rfl⟩
end
section
open Kp
attribute [local go_sem] Oper.semAt_some
def dj(k:Nat)(rows:List (List Vr)):Prop:=∀r∈rows,r.length=k
def bw{α:Type}{k:Nat}{f:α->List Vr}(h:∀x,(f x).length=k)(l:List α):dj k (l.map f):=λr hr=>by
 obtain⟨x,_,rfl⟩:=List.mem_map.1 hr;exact h x
def bK.stays{k n0:Nat}{w w':Vl}{B:Nat}{A:Option VM}{cap:Nat}{rows:List (List Vr)}(h:bK k w B A cap rows)(hw:dj k rows)(hs:aE n0 w w'):bK k w' B A cap rows:=by
 obtain⟨h1,h2,h3⟩:=h;refine⟨h1,h2,λhn=> ?_⟩;obtain⟨b,off,e,hB,hc⟩:=h3 hn;refine⟨b,off,e,hB,λi hi j hj=> ?_⟩;have h5:=hc i hi j hj;have h6:(rows.getD i []).length=k:=by
  rw[Vn,Vt hi];exact hw _ (List.getElem_mem hi)
 rw[Vt (by rw[h6];exact hj)] at h5⊢;exact hs.cell h5
def dI(r:List Sd):dj 7 (aD r):=bw (f:=nt) (λ_=>rfl) r
def K9(r:List Sd):Prop:=∀s∈r,co s.x/\co s.y
def jy{r:List Sd}(h:K9 r)(i:Nat):co (aq r i).x/\co (aq r i).y:=by
 unfold aq;by_cases hi:i<r.length
 ·rw[Vn,Vt hi];exact h _ (List.getElem_mem hi)
 ·rw[Vn,List.getElem?_eq_none VY];decide
def zE(r:List Sd)(i:Nat):er r i=aq r ((i+r.length-1)%r.length):=rfl
def iZ(r:List Sd)(i:Nat):aP r i=aq r ((i+1)%r.length):=rfl
def vA{W:Vl}{Bs B:Nat}{A:Option VM}{cap:Nat}{r:List Sd}(h:Bx W Bs 80 (VQ A r.length cap))(hs:bK 7 W B A cap (aD r)):UT Bs A cap r W:=⟨h.cell,B,hs⟩
def Ext.stays{n0:Nat}{w w':Vl}(h:Ext w w')(hn:n0<=w.heap.size):aE n0 w w':=aE.be h hn
def Ext.keeps{w w':Vl}(h:Ext w w'):KeepsOthers w w':=⟨h.size,λb o hb _=>(h.block b (Vz.1 hb).1).trans hb⟩
structure Ue(w:Vl)(A:Option VM)(cap:Nat)(r:List Sd)(k:Nat)(W:Vl):Prop where
 sum:Bx W w.heap.size 3 (VU VA (qZ (λi=>(aq r i).x*(aP r i).y-(aq r i).y*(aP r i).x) k))
 it:Bx W (w.heap.size+1) 80 (VQ A r.length cap)
 sl:bK 7 W w.heap.size A cap (aD r)
 low:VL w.heap.size w W
def Ue.stays{w:Vl}{A:Option VM}{cap:Nat}{r:List Sd}{k n0:Nat}{W W':Vl}(h:Ue w A cap r k W)(hs:aE n0 W W')(hn:w.heap.size<=n0):Ue w A cap r k W':=
 ⟨h.sum.stays hs,h.it.stays hs,h.sl.stays (dI r) hs,h.low.trans (hs.below.mono hn)⟩
def Hj(s c:Int)(own beh:Sd)(bl:Nat):Nat->Vr
 |0=> VU VA s
 |1=> VT (Vq ⟨bl,7,Vo⟩)
 |2=> VW (nt own).toArray
 |3=> VW (lI own.x own.y).toArray
 |4=> VT (Vq ⟨bl,14,Vo⟩)
 |5=> VW (nt beh).toArray
 |6=> VW (lI beh.x beh.y).toArray
 |7=> VU VA c
 |_=> VU VA (s+c)
def Jn(w:Vl)(A:Option VM)(cap:Nat)(r:List Sd)(hr:bK 7 w w.heap.size A cap (aD r))(hc:K9 r)(hn:r.length<=1000):
  VC prog 198 #[VQ A r.length cap] w λe w'=>e=VV (VU VA (qp r))/\Ext w w':=by
 refine(callsIn_wide (n:=9)).1 (callsIn_of_wp_marks func198 rfl trivial ?_);simp only[ntmps198,List.size_toArray,List.length_cons,List.length_nil,Nat.reduceAdd,Nat.reduceSub,Array.replicate_succ,Array.replicate_zero,List.push_toArray,List.append_toArray,List.nil_append,List.cons_append];gi_wp2_with(refine⟨trivial,?_⟩;gi_at_call 192;refine(callsIn_wide.2 (kO _ _ _ _)).mono ?_;rintro e w' ⟨rfl,rfl⟩)
 refine fO (gf:=238) (lb:=#[VT (Vq ⟨w.heap.size+1,0,Vo⟩)]) rfl (enters_of func238 VZ rfl)
  (jj (w.heap.size+1) A cap r VY) (λk x e=>XC)
  (Ue w A cap r) (λ_ _ _=>False) (λk W W' h hs=>h.stays hs Wa) (λc k W W' h hs=>h) (λk W h=>vA h.it h.sl) ?start ?round ?done ?stop
 case stop=>intro D c k W hD hk h;exact h.elim
 case start=>exact⟨(Bx.at_ rfl).alloc _,Bx.at_ V5,hr.below (eH _ _ _),eH _ _ _⟩
 case done=>
  intro D W hD hi hK;have c0:=hi.sum.cell;have HL:=Vk hi.low;clear hi
  gi_wp2
  refine⟨V5,.inl ⟨_,_,rfl,run_takeDeferred hK,?_⟩⟩;have hs:=aE.putObj (n0:=w.heap.size) (.deferred Vo) hK rfl Xj;exact⟨VU VA (qp r),by simp[results,results198,go_sem,qp],rfl,HL.o.trans hs.below⟩
 case round=>
  intro l k x W K hk hx hi hK;obtain rfl:=hx;have HK:=Vk hK;have RA:=Vk (ah.new W 227 (jx (er r k) (aq r k) (aP r k)));have EA:=Vk (show Ext W (W.alloc (.cells (jx (er r k) (aq r k) (aP r k)).toArray 227)) from(Below.refl _ _).alloc (Vm _) _);have HI:=Vk hi;clear hK hi;refine cM (aY _ _) VZ ?_;go_wp2_with(refine wpList_store_row rfl 227 (.tmp 5) (.tmp 9) rfl W.heap.size (jx (er r k) (aq r k) (aP r k)).toArray rfl rfl 227 _ (Vy _ _) VZ VZ VZ ?_;rw[fg _ _ _ _ rfl])
  refine cL (HK.o _ _ EA.o (λW2 hs2 hlt2=> ?_));have hi2:=(HI.o.stays (EA.o.stays (n0:=w.heap.size) (by have:=HI.o.low.size;omega)) (Vm _)).stays hs2 Wa;have R2:ah W2 W.heap.size 227 (jx (er r k) (aq r k) (aP r k)):=hs2.cells _ _ _ _ RA.o;clear HK HI EA RA hs2;obtain⟨hox,hoy⟩:=jy hc k;obtain⟨hbx,hby⟩:=jy hc ((k+1)%r.length);rw[<-iZ] at hbx hby;obtain⟨own,hown⟩:∃o,aq r k=o:=⟨_,rfl⟩;obtain⟨beh,hbeh⟩:∃o,aP r k=o:=⟨_,rfl⟩;have HS:=Vk (show qZ (λi=>(aq r i).x*(aP r i).y-(aq r i).y*(aP r i).x) (k+1)=qZ (λi=>(aq r i).x*(aP r i).y-(aq r i).y*(aP r i).x) k+(own.x*beh.y-own.y*beh.x) by rw[qZ,hown,hbeh]);have hsb:=Ex (n:=k) (m:=8589934592) (f:=λi=>(aq r i).x*(aP r i).y-(aq r i).y*(aP r i).x) (λi _=>by
   obtain⟨a1,a2⟩:=jy hc i;obtain⟨b1,b2⟩:=jy hc ((i+1)%r.length);rw[<-iZ] at b1 b2;have m1:=AQ (a:=(aq r i).x) (b:=(aP r i).y) (m:=65536) (n:=65536) VY VY;have m2:=AQ (a:=(aq r i).y) (b:=(aP r i).x) (m:=65536) (n:=65536) VY VY;simp only[Int.reduceMul] at m1 m2;show _<=(aq r i).x*(aP r i).y-(aq r i).y*(aP r i).x/\(aq r i).x*(aP r i).y-(aq r i).y*(aP r i).x<=_;omega)
  have hcb: -8589934592<=own.x*beh.y-own.y*beh.x/\own.x*beh.y-own.y*beh.x<=8589934592:=by
   rw[hown] at hox hoy;rw[hbeh] at hbx hby;have m1:=AQ (a:=own.x) (b:=beh.y) (m:=65536) (n:=65536) VY VY;have m2:=AQ (a:=own.y) (b:=beh.x) (m:=65536) (n:=65536) VY VY;simp only[Int.reduceMul] at m1 m2;omega
  have S2:=hi2.sum;obtain⟨s,hs⟩:∃s,qZ (λi=>(aq r i).x*(aP r i).y-(aq r i).y*(aP r i).x) k=s:=⟨_,rfl⟩;rw[hs] at HS hsb S2;have hsw:VA.wrap (s+(own.x*beh.y-own.y*beh.x))=s+(own.x*beh.y-own.y*beh.x):=VI _ VY;rw[hown] at hox hoy;rw[hbeh] at hbx hby;rw[hown,hbeh] at R2;obtain⟨c,hcc⟩:∃c,own.x*beh.y-own.y*beh.x=c:=⟨_,rfl⟩;rw[hcc] at HS hsw;rw[hown,hbeh];have I2:=Vk hi2;clear hsb hcb hs hi2 hn
  gi_wp2
  refine wpIn_region_any VZ (mW (aY _ _) VZ 9 (λvs=>⟨#[VQ A r.length cap,Vs,VU VA 0,VT (Vq ⟨w.heap.size,0,Vo⟩),Vs,VT (Vq ⟨W.heap.size,0,Vo⟩),VQ A r.length cap,.func (.func 238) #[] #[VT (Vq ⟨w.heap.size+1,0,Vo⟩)],VU VA (k:Int),VW (jx (er r k) own beh).toArray,vs 0,vs 1,vs 2,vs 3,vs 4,vs 5,vs 6,vs 7,vs 8,Vs],[]⟩)
   (λw'=>Ext W2 w') (λi v _=>v=Hj s c own beh W.heap.size i) (λ_=>Vp) VZ (λ_ _ h k=>h.tr k) (λ_ _ _ _ h _=>h) (λ_ _ _ _ h=>V6) ?step ?tail (λ_=>Vs) _ (Ext.dr W2))
  case step=>
   intro i vs w' hi hD hd;have cA:=λi=>(R2.ext hD).cell i
   have cS:=(S2.stays (hD.stays (n0:=0) (Nat.zero_le _))).cell;rcases(show i=0\/i=1\/i=2\/i=3\/i=4\/i=5\/i=6\/i=7\/i=8 by omega) with rfl|rfl|rfl|rfl|rfl|rfl|rfl|rfl|rfl<;>clear hi
   ·exact Y1
   ·exact Y1
   ·refine Vx rfl (λK hK=> ?_);have d1:=hd 1 VZ;simp only[Hj] at d1;go_simp;exact hK _ _ ⟨_,by simp[d1,Hj],Ext.aB _,rfl,λh=>V6⟩
   ·refine Vx rfl (λK hK=> ?_);have d2:=hd 2 VZ;simp only[Hj] at d2;go_simp;refine(bH own _).mono ?_;rintro e W1 ⟨rfl,hX⟩;exact hK _ _ ⟨_,by simp[d2,Hj],hX,rfl,λh=>V6⟩
   ·exact Y1
   ·refine Vx rfl (λK hK=> ?_);have d4:=hd 4 VZ;simp only[Hj] at d4;go_simp;exact hK _ _ ⟨_,by simp[d4,Hj],Ext.aB _,rfl,λh=>V6⟩
   ·refine Vx rfl (λK hK=> ?_);have d5:=hd 5 VZ;simp only[Hj] at d5;go_simp;refine(bH beh _).mono ?_;rintro e W1 ⟨rfl,hX⟩;exact hK _ _ ⟨_,by simp[d5,Hj],hX,rfl,λh=>V6⟩
   ·refine Vx rfl (λK hK=> ?_);have d3:=hd 3 VZ;have d6:=hd 6 VZ;simp only[Hj] at d3 d6;go_simp;refine(rJ own.x own.y beh.x beh.y _ VY VY VY VY).mono ?_;rintro e W1 ⟨rfl,hX⟩;rw[hcc];exact hK _ _ ⟨_,by simp[d3,d6,Hj],hX,rfl,λh=>V6⟩
   ·refine Vx rfl (λK hK=> ?_);have d0:=hd 0 VZ;have d7:=hd 7 VZ;simp only[Hj] at d0 d7;go_simp;exact hK _ _ ⟨_,by simp[d0,d7,Hj],Ext.aB _,rfl,λh=>V6⟩
  case tail=>
   intro vs w' hD hv _;have v8:=hv 8 V0;simp only[Hj] at v8;clear hv;have S3:=S2.stays (hD.stays (n0:=0) (Nat.zero_le _));have cS:=S3.cell;have fS:=S3.frozen;simp only[List.drop_succ_cons,List.drop_zero,v8];have HD:=Vk hD;clear hD
   gi_wp2
   have I3:=I2.o.stays (HD.o.stays (n0:=w.heap.size) (by have:=I2.o.low.size;omega)) (Vm _);refine⟨HD.o.keeps.trans (KeepsOthers.setCell _ _ _),?_,?_,?_,?_⟩
   ·rw[HS.o];exact S3.put _
   ·exact I3.it.dx V5 _
   ·exact I3.sl.below ((Below.refl _ _).setCell (p:=⟨w.heap.size,0,Vo⟩) (Vm _) _)
   ·exact I3.low.setCell (p:=⟨w.heap.size,0,Vo⟩) (Vm _) _
end
section
open Kp
attribute [local go_sem] Oper.semAt_some
structure SU(w:Vl)(A:Option VM)(cap:Nat)(r:List Sd)(x y:Int)(k:Nat)(W:Vl):Prop where
 p:ah W w.heap.size 229 (lI x y)
 odd:Bx W (w.heap.size+1) 4 (VS (np (lh r x y) k))
 it:Bx W (w.heap.size+2) 80 (VQ A r.length cap)
 sl:bK 7 W w.heap.size A cap (aD r)
 low:VL w.heap.size w W
def ah.stays{n0:Nat}{W W':Vl}{b:Nat}{t:VK}{l:List Vr}(h:ah W b t l)(hs:aE n0 W W'):ah W' b t l:=hs.cells _ _ _ _ h
def SU.stays{w:Vl}{A:Option VM}{cap:Nat}{r:List Sd}{x y:Int}{k n0:Nat}{W W':Vl}(h:SU w A cap r x y k W)(hs:aE n0 W W')(hn:w.heap.size<=n0):SU w A cap r x y k W':=
 ⟨h.p.stays hs,h.odd.stays hs,h.it.stays hs,h.sl.stays (dI r) hs,h.low.trans (hs.below.mono hn)⟩
def sQ{w:Vl}{A:Option VM}{cap:Nat}{r:List Sd}{x y:Int}{k:Nat}{W W':Vl}(h:SU w A cap r x y k W)(hp:lh r x y k=Vp)(hx:Ext W W'):SU w A cap r x y (k+1) W':=by
 have h':=h.stays (hx.stays (n0:=w.heap.size) (by have:=h.low.size;omega)) (Vm _);refine⟨h'.p,?_,h'.it,h'.sl,h'.low⟩;rw[np,hp,if_neg V0];exact h'.odd
def Ib(a b:Int)(W:Vl):Sem.run prog (Instr.field 229 (VW (lI a b).toArray) 0) W= .ok (VU VA a) W:=VZ
def rQ(w:Vl)(A:Option VM)(cap:Nat)(r:List Sd)(x y:Int)(hr:bK 7 w w.heap.size A cap (aD r))(hc:K9 r)(hn:r.length<=1000):
  VC prog 199 #[VQ A r.length cap,VW (lI x y).toArray] w λe w'=>e=VV (VS (j1 r x y))/\Ext w w':=by
 refine(callsIn_wide (n:=9)).1 (callsIn_of_wp_marks func199 rfl trivial ?_);simp only[ntmps199,List.size_toArray,List.length_cons,List.length_nil,Nat.reduceAdd,Nat.reduceSub,Array.replicate_succ,Array.replicate_zero,List.push_toArray,List.append_toArray,List.nil_append,List.cons_append];gi_wp2_with(refine⟨trivial,?_⟩;gi_at_call 192;refine(callsIn_wide.2 (kO _ _ _ _)).mono ?_;rintro e w' ⟨rfl,rfl⟩)
 refine fO (gf:=238) (lb:=#[VT (Vq ⟨w.heap.size+2,0,Vo⟩)]) rfl (enters_of func238 VZ rfl)
  (jj (w.heap.size+2) A cap r VY) (λk x e=>XC)
  (SU w A cap r x y) (λ_ _ _=>False) (λk W W' h hs=>h.stays hs Wa) (λc k W W' h hs=>h) (λk W h=>vA h.it h.sl) ?start ?round ?done ?stop
 case stop=>intro D c k W hD hk h;exact h.elim
 case start=>exact⟨((ah.new _ _ _).ext (eH _ _ _)),((Bx.at_ V5).alloc _),Bx.at_ V5,hr.below (BD _ _ _ _),BD _ _ _ _⟩
 case done=>
  intro D W hD hi hK;have c0:=hi.odd.cell;have HL:=Vk hi.low;clear hi
  gi_wp2
  refine⟨V5,.inl ⟨_,_,rfl,run_takeDeferred hK,?_⟩⟩;have hs:=aE.putObj (n0:=w.heap.size) (.deferred Vo) hK rfl Xj;exact⟨VS (j1 r x y),by simp[results,results199,go_sem,j1],rfl,HL.o.trans hs.below⟩
 case round=>
  intro l k z W K hk hx hi hK;obtain rfl:=hx;have HK:=Vk hK;have RA:=Vk (ah.new W 227 (jx (er r k) (aq r k) (aP r k)));have EA:=Vk (show Ext W (W.alloc (.cells (jx (er r k) (aq r k) (aP r k)).toArray 227)) from(Below.refl _ _).alloc (Vm _) _);have HI:=Vk hi;clear hK hi;refine cM (aY _ _) VZ ?_;go_wp2_with(refine wpList_store_row rfl 227 (.tmp 7) (.tmp 12) rfl W.heap.size (jx (er r k) (aq r k) (aP r k)).toArray rfl rfl 227 _ (Vy _ _) VZ VZ VZ ?_;rw[fg _ _ _ _ rfl])
  refine cL (HK.o _ _ EA.o (λW2 hs2 hlt2=> ?_));have hi2:=(HI.o.stays (EA.o.stays (n0:=w.heap.size) (by have:=HI.o.low.size;omega)) (Vm _)).stays hs2 Wa;have R2:ah W2 W.heap.size 227 (jx (er r k) (aq r k) (aP r k)):=hs2.cells _ _ _ _ RA.o;have hWl:=HI.o.it.lt;clear HK HI EA RA hs2;obtain⟨hox,hoy⟩:=jy hc k;obtain⟨hbx,hby⟩:=jy hc ((k+1)%r.length);rw[<-iZ] at hbx hby;obtain⟨own,hown⟩:∃o,aq r k=o:=⟨_,rfl⟩;obtain⟨beh,hbeh⟩:∃o,aP r k=o:=⟨_,rfl⟩;have HO:=Vk (show lh r x y k=(((beh.x-own.x)==0)&&decide (x<own.x)&&(decide (y<own.y) !=decide (y<beh.y))) by unfold lh mS;rw[hown,hbeh]);rw[hown] at hox hoy;rw[hbeh] at hbx hby;rw[hown,hbeh] at R2;rw[hown,hbeh];have I2:=Vk hi2;obtain⟨o,ho⟩:∃o,np (lh r x y) k=o:=⟨_,rfl⟩;have HOD:=Vk ho;have S2:=hi2.odd;rw[ho] at S2;have P2:=hi2.p;clear hi2 ho hn;have cA:=λi=>R2.cell i
  have hf:=λW=>Ib (beh.x-own.x) (beh.y-own.y) W
  cases t1:((beh.x-own.x)==0)
  ·have HP:=Vk (show lh r x y k=Vp by rw[HO.o,t1];rfl);exact Y9
  cases t2:decide (x<own.x)
  ·have HP:=Vk (show lh r x y k=Vp by rw[HO.o,t1,t2];rfl);exact Y9
  cases t3:decide (y<own.y)<;>cases t4:decide (y<beh.y)
  ·exact Y6
  ·exact Y7
  ·exact Y7
  ·exact Y6
end
section
open Kp
attribute [local go_sem] Oper.semAt_some
structure Q9(w:Vl)(A:Option VM)(cap:Nat)(r:List Sd)(k:Nat)(W:Vl):Prop where
 res:Bx W w.heap.size 4 (VS Vp)
 it:Bx W (w.heap.size+1) 80 (VQ A r.length cap)
 sl:bK 7 W w.heap.size A cap (aD r)
 low:VL w.heap.size w W
 ok:∀j,j<k->nI r j=Vp
def Q9.stays{w:Vl}{A:Option VM}{cap:Nat}{r:List Sd}{k n0:Nat}{W W':Vl}(h:Q9 w A cap r k W)(hs:aE n0 W W')(hn:w.heap.size<=n0):Q9 w A cap r k W':=
 ⟨h.res.stays hs,h.it.stays hs,h.sl.stays (dI r) hs,h.low.trans (hs.below.mono hn),h.ok⟩
structure SN(w:Vl)(r:List Sd)(c:Code)(k:Nat)(W:Vl):Prop where
 ret:c= .ret
 res:Bx W w.heap.size 4 (VS Vp)
 low:VL w.heap.size w W
 bad:nI r k=Vv
def SN.stays{w:Vl}{r:List Sd}{c:Code}{k n0:Nat}{W W':Vl}(h:SN w r c k W)(hs:aE n0 W W')(hn:w.heap.size<=n0):SN w r c k W':=
 ⟨h.ret,h.res.stays hs,h.low.trans (hs.below.mono hn),h.bad⟩
def BV(bef own beh:Sd)(bl lo:Nat):Nat->Vr->Vl->Prop
 |0,v,_=>v=VT (Vq ⟨bl,0,Vo⟩)
 |1,v,_=>v=VW (nt bef).toArray
 |2,v,_=>v=VW (lI bef.x bef.y).toArray
 |3,v,_=>v=VT (Vq ⟨bl,7,Vo⟩)
 |4,v,_=>v=VW (nt own).toArray
 |5,v,_=>v=VW (lI own.x own.y).toArray
 |6,v,_=>v=VW (lI (own.x-bef.x) (own.y-bef.y)).toArray
 |7,v,_=>v=VW (jx bef own beh).toArray
 |8,v,_=>v=VW (lI (beh.x-own.x) (beh.y-own.y)).toArray
 |_,v,w=>il lo v w
def ON{bef own beh:Sd}{bl lo i:Nat}{v:Vr}{w w':Vl}(h:BV bef own beh bl lo i v w)(hx:Ext w w'):BV bef own beh bl lo i v w':=by
 unfold BV at *;split at h<;>first|exact h|exact il.ext h hx
abbrev four(W:Vl)(p q:Nat)(a b c d:Vr):Vl:=(((W.setCell ⟨p,0,Vo⟩ a).setCell ⟨p,1,Vo⟩ b).setCell ⟨q,0,Vo⟩ c).setCell ⟨q,1,Vo⟩ d
def vM(W:Vl)(p q:Nat)(a b c d:Vr):KeepsOthers W (four W p q a b c d):=((((KeepsOthers.setCell _ _ _).trans (KeepsOthers.setCell _ _ _)).trans (KeepsOthers.setCell _ _ _)).trans (KeepsOthers.setCell _ _ _))
def pC{B:Nat}{W:Vl}{p q:Nat}(hp:B<=p)(hq:B<=q)(a b c d:Vr):VL B W (four W p q a b c d):=
 ((((Below.refl _ _).setCell (p:=⟨p,0,Vo⟩) hp _).setCell (p:=⟨p,1,Vo⟩) hp _).setCell (p:=⟨q,0,Vo⟩) hq _).setCell (p:=⟨q,1,Vo⟩) hq _
def zJ{W:Vl}{b:Nat}{t:VK}{v:Vr}(h:Bx W b t v){p q:Nat}(hp:b<p)(hq:b<q)(x y z u:Vr):Bx (four W p q x y z u) b t v:=
 (((h.dx (p:=⟨p,0,Vo⟩) Wa _).dx (p:=⟨p,1,Vo⟩) Wa _).dx (p:=⟨q,0,Vo⟩) Wa _).dx (p:=⟨q,1,Vo⟩) Wa _
def PN{w:Vl}{A:Option VM}{cap:Nat}{r:List Sd}{k:Nat}{W2 W:Vl}{p q:Nat}{a b c d:Vr}{act:Act}(h:Q9 w A cap r k W)(hx:Ext W2 W)(hs:nI r k=Vp)(hp:W2.heap.size<=p)(hq:W2.heap.size<=q)(hz:w.heap.size+1<W2.heap.size):
  mf (Q9 w A cap r) (SN w r) k W2 .normal act (four W p q a b c d):=by
 refine⟨hx.keeps.trans (vM _ _ _ _ _ _ _),zJ h.res VY VY _ _ _ _,zJ h.it VY VY _ _ _ _,h.sl.below (pC VY VY _ _ _ _),h.low.trans (pC VY VY _ _ _ _),λj hj=> ?_⟩;by_cases hjk:j=k
 ·rw[hjk];exact hs
 ·exact h.ok j VY
def OO{w:Vl}{A:Option VM}{cap:Nat}{r:List Sd}{k:Nat}{W2 W:Vl}{p q:Nat}{a b c d:Vr}{act:Act}(h:Q9 w A cap r k W)(hx:Ext W2 W)(hs:nI r k=Vv)(hp:W2.heap.size<=p)(hq:W2.heap.size<=q)(hz:w.heap.size+1<W2.heap.size):
  mf (Q9 w A cap r) (SN w r) k W2 .ret act ((four W p q a b c d).setCell ⟨w.heap.size,0,Vo⟩ (VS Vp)):=by
 refine⟨(hx.keeps.trans (vM _ _ _ _ _ _ _)).trans (KeepsOthers.setCell _ _ _),rfl,(zJ h.res VY VY _ _ _ _).put _,(h.low.trans (pC VY VY _ _ _ _)).setCell (p:=⟨w.heap.size,0,Vo⟩) (Vm _) _,hs⟩
def wy(w:Vl)(A:Option VM)(cap:Nat)(r:List Sd)(hn:r.length<4):
  VC prog 134 #[VQ A r.length cap] w λe w'=>e=VV (VS (cI r))/\Ext w w':=by
 have HR:=Vk (show cI r=Vp by unfold cI;rw[show decide (4<=r.length)=Vp by rw[decide_eq_false_iff_not];omega];rfl);go_enter func134,ntmps134;go_wp2;exact bodyPost_ret (v:= VS Vp) (by simp[results,results134,go_sem]) rfl ⟨by rw[HR.o],(Below.refl _ _).alloc (Vm _) _⟩
def zo (w : Vl) (A : Option VM) (cap : Nat) (r : List Sd) (hr : bK 7 w w.heap.size A cap (aD r)) (hc : K9 r) (hn : r.length <= 1000) (h4 : 4 <= r.length) :
    VC prog 134 #[VQ A r.length cap] w λe w' => e =VV (VS (cI r)) /\ Ext w w' := by
  have HR := Vk (show cI r = !cC (nI r) r.length by unfold cI; rw [show decide (4 <= r.length) = Vv by rw [decide_eq_true_eq]; omega]; rfl);refine (callsIn_wide (n := 9)).1 (callsIn_of_wp_marks func134 rfl trivial ?_);simp only [ntmps134, List.size_toArray, List.length_cons, List.length_nil, Nat.reduceAdd, Nat.reduceSub, Array.replicate_succ, Array.replicate_zero, List.push_toArray, List.append_toArray, List.nil_append, List.cons_append];gi_wp2_with (refine ⟨trivial, ?_⟩; gi_at_call 192; refine (callsIn_wide.2 (kO _ _ _ _)).mono ?_; rintro e w' ⟨rfl, rfl⟩)
  refine fO (gf := 238) (lb := #[VT (Vq ⟨w.heap.size + 1, 0, Vo⟩)]) rfl (enters_of func238 VZ rfl)
    (jj (w.heap.size + 1) A cap r VY) (λk x e => by rw [e]; rfl)
    (Q9 w A cap r) (SN w r) (λk W W' h hs => h.stays hs Wj) (λc k W W' h hs => h.stays hs Wj) (λk W h => vA h.it h.sl) ?start ?round ?done ?stop
  case start => exact ⟨(Bx.at_ rfl).alloc _, Bx.at_ V5, hr.below (eH _ _ _), eH _ _ _, λj hj => VY⟩
  case done =>
    intro D W hD hi hK;have c0 := hi.res.cell;have f0 := hi.res.frozen;have HI := Vk hi;have HA := Vk (show cI r = Vv by rw [HR.o, bt hi.ok]; rfl);clear hi
    gi_wp2
    have hk2 := (KeepsOthers.setCell W ⟨w.heap.size, 0, Vo⟩ (VS Vv)).same D _ hK rfl;refine ⟨V5, .inl ⟨_, _, rfl, run_takeDeferred hk2, ?_⟩⟩;have hs := aE.putObj (n0 := w.heap.size) (.deferred Vo) hk2 rfl (by simp at hD; omega);have hb := ((HI.o.res.put (VS Vv)).stays hs).cell;exact ⟨VS Vv, by simp [results, results134, go_sem, hb], by rw [HA.o], (HI.o.low.setCell (p := ⟨w.heap.size, 0, Vo⟩) (Vm _) _).trans hs.below⟩
  case stop =>
    rintro D c k W hD hk ⟨rfl, hres, hlow, hbad⟩ hK;have HA := Vk (show cI r = Vp by rw [HR.o, dH hk hbad]; rfl)
    gi_wp2
    refine ⟨V5, .inl ⟨_, _, rfl, run_takeDeferred hK, ?_⟩⟩;have hs := aE.putObj (n0 := w.heap.size) (.deferred Vo) hK rfl (by simp at hD; omega);have hb := (hres.stays hs).cell;exact ⟨VS Vp, by simp [results, results134, go_sem, hb], by rw [HA.o], hlow.trans hs.below⟩
  case round =>
    intro l k x W K hk hx hi hK;obtain rfl := hx;have HK := Vk hK;have RA := Vk (ah.new W 227 (jx (er r k) (aq r k) (aP r k)));have EA := Vk (show Ext W (W.alloc (.cells (jx (er r k) (aq r k) (aP r k)).toArray 227)) from (Below.refl _ _).alloc (Vm _) _);have HI := Vk hi;clear hK hi;refine cM (aY _ _) VZ ?_;go_wp2_with (refine wpList_store_row rfl 227 (.tmp 4) (.tmp 13) rfl W.heap.size (jx (er r k) (aq r k) (aP r k)).toArray rfl rfl 227 _ (Vy _ _) VZ VZ VZ ?_; rw [fg _ _ _ _ rfl])
    refine cL (HK.o _ _ EA.o (λW2 hs2 hlt2 => ?_));have hi2 := (HI.o.stays (EA.o.stays (n0 := w.heap.size) (by have := HI.o.low.size; omega)) (Vm _)).stays hs2 Wj;have R2 : ah W2 W.heap.size 227 (jx (er r k) (aq r k) (aP r k)) := hs2.cells _ _ _ _ RA.o;clear HK HI EA RA hs2;obtain ⟨hpx, hpy⟩ := jy hc ((k + r.length - 1) % r.length);obtain ⟨hox, hoy⟩ := jy hc k;obtain ⟨hbx, hby⟩ := jy hc ((k + 1) % r.length);rw [<- iZ] at hbx hby;rw [<- zE] at hpx hpy;obtain ⟨own, hown⟩ : ∃ o, aq r k = o := ⟨_, rfl⟩;obtain ⟨beh, hbeh⟩ : ∃ o, aP r k = o := ⟨_, rfl⟩;obtain ⟨bef, hbef⟩ : ∃ o, er r k = o := ⟨_, rfl⟩;have HO := Vk (show nI r k = ((((beh.x - own.x) == 0) == ((beh.y - own.y) == 0)) || (((own.x - bef.x) == 0) == ((beh.x - own.x) == 0))) by unfold nI mS pR uU; rw [hown, hbeh, hbef]);rw [hown] at hox hoy;rw [hbeh] at hbx hby;rw [hbef] at hpx hpy;rw [hown, hbeh, hbef] at R2;rw [hown, hbeh, hbef];have I2 := Vk hi2;have hz := hi2.it.lt;clear hi2 hn
    gi_wp2
    refine wpIn_region_any VZ (mW (aY _ _) VZ 11 (λvs => ⟨#[VQ A r.length cap, Vs, VT (Vq ⟨w.heap.size, 0, Vo⟩), Vs, VT (Vq ⟨W.heap.size, 0, Vo⟩), vs 9, vs 10, VQ A r.length cap, VU VA (r.length : Int), VS (decide ((r.length : Int) < 4)), VQ A r.length cap, .func (.func 238) #[] #[VT (Vq ⟨w.heap.size + 1, 0, Vo⟩)], VU VA (k : Int), VW (jx bef own beh).toArray, vs 0, vs 1, vs 2, vs 3, vs 4, vs 5, vs 6, vs 7, vs 8, Vs, Vs, Vs, Vs, Vs, Vs, Vs, Vs, Vs, Vs, Vs, Vs, Vs, Vs, Vs, Vs], []⟩)
      (λw' => Ext W2 w') (BV bef own beh W.heap.size W2.heap.size) (λi => i == 9 || i == 10) VZ (λ_ _ h k => h.tr k) (λ_ _ _ _ h k => ON h k) ?fr ?step ?tail (λ_ => Vs) _ (Ext.dr W2))
    case fr =>
      intro i v w' hi hf hv;simp only [Bool.or_eq_true, beq_iff_eq] at hf;rcases hf with rfl | rfl <;> exact il.lt hv
    case step =>
      intro i vs w' hi hD hd;have cA := λi => (R2.ext hD).cell i
      rcases (show i = 0 \/ i = 1 \/ i = 2 \/ i = 3 \/ i = 4 \/ i = 5 \/ i = 6 \/ i = 7 \/ i = 8 \/ i = 9 \/ i = 10 by omega) with rfl | rfl | rfl | rfl | rfl | rfl | rfl | rfl | rfl | rfl | rfl <;> clear hi
      ·exact Zb
      · refine Vx rfl (λK hK => ?_)
        have d0 := hd 0 VZ;simp only [BV] at d0;go_simp;exact hK _ _ ⟨_, by simp [d0, BV], Ext.aB _, rfl, λh => V6⟩
      · refine Vx rfl (λK hK => ?_)
        have d1 := hd 1 VZ;simp only [BV] at d1;go_simp;refine (bH bef _).mono ?_;rintro e W1 ⟨rfl, hX⟩;exact hK _ _ ⟨_, by simp [d1, BV], hX, rfl, λh => V6⟩
      ·exact Zb
      · refine Vx rfl (λK hK => ?_)
        have d3 := hd 3 VZ;simp only [BV] at d3;go_simp;exact hK _ _ ⟨_, by simp [d3, BV], Ext.aB _, rfl, λh => V6⟩
      · refine Vx rfl (λK hK => ?_)
        have d4 := hd 4 VZ;simp only [BV] at d4;go_simp;refine (bH own _).mono ?_;rintro e W1 ⟨rfl, hX⟩;exact hK _ _ ⟨_, by simp [d4, BV], hX, rfl, λh => V6⟩
      · refine Vx rfl (λK hK => ?_)
        have d2 := hd 2 VZ;have d5 := hd 5 VZ;simp only [BV] at d2 d5;go_simp;refine (vP _ _ _ _ _ hpx hpy hox hoy).mono ?_;rintro e W1 ⟨rfl, hX⟩;exact hK _ _ ⟨_, by simp [d2, d5, BV], hX, rfl, λh => V6⟩
      · refine ks rfl rfl ?_
        exact wp_load_row 227 (.tmp 4) rfl W.heap.size rfl 227 (jx bef own beh).toArray (0, 0) _ (R2.ext hD) underlying227 rfl VZ ⟨_, rfl, Ext.aB _, rfl, λh => V6⟩
      · refine Vx rfl (λK hK => ?_)
        have d7 := hd 7 VZ;simp only [BV] at d7;go_simp;refine (jh bef own beh _ hox hoy hbx hby).mono ?_;rintro e W1 ⟨rfl, hX⟩;exact hK _ _ ⟨_, by simp [d7, BV], hX, rfl, λh => V6⟩
      ·exact Za
      ·exact Za
    case tail =>
      intro vs w' hD hv hne;have v6 := hv 6 V0;have v8 := hv 8 V0;obtain ⟨p, e9, l9, r9⟩ := hv 9 V0;obtain ⟨q, e10, l10, r10⟩ := hv 10 V0;have hpq := hne 9 10 V0 V0 V0 rfl rfl;simp only [BV] at v6 v8;clear hv hne;rw [e9, e10] at hpq;have hpq' : p ≠ q := λh => hpq (by rw [h])
      have n1 : ¬ q = p := λh => hpq' h.symm
      clear hpq;have I3 := Vk (I2.o.stays (hD.stays (n0 := w.heap.size) (by have := I2.o.low.size; omega)) (Vm _));have hE := Vk hD;have cp := λi => r9.cell i
      have cq := λi => r10.cell i
      have fp := λi => r9.frozen i
      have fq := λi => r10.frozen i
      have cr := I3.o.res.cell;have fr := I3.o.res.frozen;have n2 : ¬ w.heap.size = p := VY;have n3 : ¬ w.heap.size = q := VY;have n4 : ¬ p = w.heap.size := VY;have n5 : ¬ q = w.heap.size := VY;have n6 : ¬ w.heap.size + 1 = p := VY;have n7 : ¬ w.heap.size + 1 = q := VY;simp only [List.drop_succ_cons, List.drop_zero, e9, e10, v6, v8];clear e9 e10 v6 v8 hD;cases t1 : ((beh.x - own.x) == 0) <;> cases t2 : ((beh.y - own.y) == 0) <;> cases t3 : ((own.x - bef.x) == 0)
      all_goals first
        | (have HP := Vk (show nI r k = Vp by rw [HO.o, t1, t2, t3]; rfl)
           gi_wp2
           exact PN I3.o hE.o HP.o l9 l10 hz)
        | (have HP := Vk (show nI r k = Vv by rw [HO.o, t1, t2, t3]; rfl)
           gi_wp2
           exact OO I3.o hE.o HP.o l9 l10 hz)
end
section
open Kp
def Cg(w:Vl)(A:Option VM)(cap:Nat)(r:List Sd)(hr:bK 7 w w.heap.size A cap (aD r))(hc:K9 r)(hn:r.length<=1000):
  VC prog 134 #[VQ A r.length cap] w λe w'=>e=VV (VS (cI r))/\Ext w w':=by
 by_cases h4:4<=r.length
 ·exact zo w A cap r hr hc hn h4
 ·exact wy w A cap r VY
def eB(w:Vl)(B:Nat)(A:Option VM)(cap:Nat)(rs:List (List Sd)):Prop:=
 rs.length<=cap/\cap<=VJ/\(0<rs.length->∃b off,A=Vq ⟨b,off,Vo⟩/\b<B/\∀i,i<rs.length->∃Ai ci,w.cell? ⟨b,off+i,Vo⟩=Vq (VQ Ai (rs.getD i []).length ci)/\bK 7 w B Ai ci (aD (rs.getD i [])))
def eB.below{w w':Vl}{B:Nat}{A:Option VM}{cap:Nat}{rs:List (List Sd)}(h:eB w B A cap rs)(hb:VL B w w'):eB w' B A cap rs:=by
 obtain⟨h1,h2,h3⟩:=h;refine⟨h1,h2,λhn=> ?_⟩;obtain⟨b,off,e,hB,hc⟩:=h3 hn;refine⟨b,off,e,hB,λi hi=> ?_⟩;obtain⟨Ai,ci,h4,h5⟩:=hc i hi;exact⟨Ai,ci,(hb.cell hB).trans h4,h5.below hb⟩
def eB.more{w:Vl}{B B':Nat}{A:Option VM}{cap:Nat}{rs:List (List Sd)}(h:eB w B A cap rs)(hb:B<=B'):eB w B' A cap rs:=by
 exact Zc
structure Bt(rs:List (List Sd)):Prop where
 ne:∀r∈rs,r≠[]
 co:∀r∈rs,K9 r
 len:rs.flatten.length<=24
def Bt.ring{rs:List (List Sd)}(h:Bt rs){i:Nat}(hi:i<rs.length):rs.getD i []≠[]/\K9 (rs.getD i [])/\(rs.getD i []).length<=24:=by
 have e:rs.getD i []=rs[i]:=by rw[Vn,Vt hi];rfl
 rw[e];refine⟨h.ne _ (List.getElem_mem hi),h.co _ (List.getElem_mem hi),VB ?_ h.len⟩;exact(List.sublist_flatten_of_mem (List.getElem_mem hi)).length_le
def Bt.count{rs:List (List Sd)}(h:Bt rs):rs.length<=24:=by
 have key:∀l:List (List Sd),(∀r∈l,r≠[])->l.length<=l.flatten.length:=by
  intro l
  induction l with
  |nil=>intro _;simp
  |cons a l ih=>
   intro hl;have h1:=ih λr hr=>hl r (List.mem_cons_of_mem _ hr)
   have h2:0<a.length:=List.length_pos_iff.2 (hl a V5);rw[List.flatten_cons,VD,List.length_cons];omega
 exact VB (key rs h.ne) h.len
def zm(rs:List (List Sd))(i k:Nat):Bool:= !(k==i||i==0)&&(j1 (rs.getD k []) (aq (rs.getD i []) 0).x (aq (rs.getD i []) 0).y !=(k==0))
def Qv(rs:List (List Sd))(i:Nat):IU rs i=((decide (0<qp (rs.getD i [])) !=(i==0))||cC (zm rs i) rs.length):=rfl
structure Ve(w:Vl)(rs:List (List Sd))(i:Vr)(wr:Vl):Prop where
 ex:∃k:Nat,k<=rs.length/\i=VU VA (k:Int)/\∀j,j<k->IU rs j=Vp
 low:Ext w wr
structure Tb(w:Vl)(rs:List (List Sd))(i:Nat)(k:Vr)(wr:Vl):Prop where
 ex:∃m:Nat,m<=rs.length/\k=VU VA (m:Int)/\∀j,j<m->zm rs i j=Vp
 low:Ext w wr
def BM(w:Vl)(A:Option VM)(cap:Nat)(rs:List (List Sd))(hr:eB w w.heap.size A cap rs)(hok:Bt rs):
  VC prog 136 #[VQ A rs.length cap] w λe w'=>e=VV (VS (eI rs))/\Ext w w':=by
 have h1:=hr.1;have h2:=hr.2.1;unfold VJ at h2;have hcnt:=hok.count;have HR:=Vk hr;clear hr;go_enter func136,ntmps136;go_wp2;go_loopw [9] (λi wr=>Ve w rs i wr) (λi _=>((rs.length:Int)-VG i).toNat)
 case atStart=>exact⟨⟨0,VY,rfl,λj hj=>VY⟩,Below.refl _ _⟩
 case round=>
  obtain⟨⟨i,hi,rfl,hall⟩,hlow⟩:=hrel;have HLOW:=Vk hlow;have HALL:=Vk hall;clear hlow hall;by_cases hlt:i<rs.length
  ·obtain⟨b,off,rfl,hB,hcell⟩:=(HR.o.below HLOW.o).2.2 VY;obtain⟨Ai,ci,hc1,hsl⟩:=hcell i hlt;obtain⟨hne,hco,hlen⟩:=hok.ring hlt;have hz:=HLOW.o.size;obtain⟨ring,hring⟩:∃ring,rs.getD i []=ring:=⟨_,rfl⟩;rw[hring] at hc1 hsl hne hco hlen;have HRG:=Vk hring;have HOR:=Vk (show IU rs i=((decide (0<qp ring) !=(i==0))||cC (zm rs i) rs.length) by rw[Qv,hring]);clear hring;have ca:=Vk (Jn wr Ai ci ring (hsl.more hz) hco VY);clear hcell;obtain⟨d,hd⟩:∃d,decide (0<qp ring)=d:=⟨_,rfl⟩;obtain⟨e,he⟩:∃e,(i==0)=e:=⟨_,rfl⟩;have tz:((i:Int)==0)=e:=by rw[<-he,Bool.eq_iff_iff];simp only[beq_iff_eq];omega
   have HE:=Vk he;clear he;by_cases hde:d=e
   ·have HF:=Vk (show(decide (0<qp ring) !=(i==0))=Vp by rw[hd,HE.o,hde];simp);subst hde;go_wp2_with(go_at_call 198;go_must(refine ca.o.mono ?_);rintro e W1 ⟨rfl,hX1⟩)
    go_loopw [22] (λk wq=>Tb wr rs i k wq) (λk _=>((rs.length:Int)-VG k).toNat)
    case atStart=>exact⟨⟨0,VY,rfl,λj hj=>VY⟩,hX1⟩
    case round=>
     obtain⟨⟨k,hk,rfl,hall2⟩,hlow2⟩:=hrel;have HA2:=Vk hall2;have HL2:=Vk hlow2;clear hall2 hlow2;have HWL:=Vk (HLOW.o.tr HL2.o);by_cases hlk:k<rs.length
     ·obtain⟨b',off',e',hB',hcell⟩:=(HR.o.below HWL.o).2.2 VY;obtain⟨rfl,rfl⟩:b'=b/\off'=off:=by injection e' with e';injection e' with e3 e4;exact⟨e3.symm,e4.symm⟩
      obtain⟨Ak,ck,hc2,hsl2⟩:=hcell k hlk;obtain⟨hne2,hco2,hlen2⟩:=hok.ring hlk;have hz2:=HWL.o.size;obtain⟨oth,hoth⟩:∃oth,rs.getD k []=oth:=⟨_,rfl⟩;rw[hoth] at hc2 hsl2 hne2 hco2 hlen2;have HOP:=Vk (show zm rs i k=(!(k==i||i==0)&&(j1 oth (aq ring 0).x (aq ring 0).y !=(k==0))) by unfold zm;rw[hoth,HRG.o]);have hpos:0<ring.length:=List.length_pos_iff.2 hne;obtain⟨ba,oa,rfl,_,hca⟩:=(hsl.below (HL2.o.mono hz)).2.2 (by rw[Vu];exact hpos);have c0:=λj (hj:j<7)=>(hca 0 (by rw[Vu];exact hpos) j hj).trans (by rw[iJ hpos])
      clear hoth hcell e' hca;simp only[Nat.mul_zero,Nat.add_zero] at c0;have c00:=c0 0 V0;rw[Nat.add_zero] at c00;obtain⟨f,hf⟩:∃f,(k==i)=f:=⟨_,rfl⟩;have tf:((k:Int)==(i:Int))=f:=by rw[<-hf,Bool.eq_iff_iff];simp only[beq_iff_eq];omega
      obtain⟨g,hg⟩:∃g,(k==0)=g:=⟨_,rfl⟩;have tg:((k:Int)==0)=g:=by rw[<-hg,Bool.eq_iff_iff];simp only[beq_iff_eq];omega
      rw[hf,HE.o,hg] at HOP;clear hf hg;have HNX:=Vk (λ(hz:zm rs i k=Vp) (W:Vl) (hW:Ext wr W)=>show Tb _ rs i (VU VA ((k:Int)+1)) W from⟨⟨k+1,VY,V5,λj hj=>by
       by_cases hjk:j=k
       ·rw[hjk];exact hz
       ·exact HA2.o j VY⟩,HL2.o.tr hW⟩)
      cases f with
      |true=>
       exact Ze
      |false=>
       cases d with
       |true=>
        exact Ze
       |false=>
        obtain⟨o,ho⟩:∃o,aq ring 0=o:=⟨_,rfl⟩;rw[ho] at c0 c00 HOP;clear ho;by_cases hin:j1 oth o.x o.y=g
        ·have HZ:=Vk (show zm rs i k=Vp by rw[HOP.o,hin];simp);clear HOP;go_wp2_with(first
          |(go_at_call 193;go_must(refine(bH o _).mono ?_);rintro e V1 ⟨rfl,hV1⟩;have ci2:=Vk (rQ V1 Ak ck oth o.x o.y ((hsl2.below (hV1.mono hz2)).more (VB hz2 hV1.size)) hco2 VY);rw[hin] at ci2)
          |(go_at_call 199;go_must(refine ci2.o.mono ?_);rintro e V2 ⟨rfl,hV2⟩))
         refine⟨HNX.o HZ.o _ (hV1.tr hV2),V7⟩
        ·have HP:=Vk (show eI rs=Vp by unfold eI;rw[dH hlt (by rw[HOR.o,HF.o,dH hlk (by rw[HOP.o];simpa using hin)];rfl)];rfl);obtain⟨q,hq⟩:∃q,j1 oth o.x o.y=q:=⟨_,rfl⟩;rw[hq] at hin;cases q<;>cases g<;>first|exact absurd rfl hin|skip
         all_goals
          clear hin HOP;go_wp2_with(first
           |(go_at_call 193;go_must(refine(bH o _).mono ?_);rintro e V1 ⟨rfl,hV1⟩;have ci2:=Vk (rQ V1 Ak ck oth o.x o.y ((hsl2.below (hV1.mono hz2)).more (VB hz2 hV1.size)) hco2 VY);rw[hq] at ci2)
           |(go_at_call 199;go_must(refine ci2.o.mono ?_);rintro e V2 ⟨rfl,hV2⟩))
          go_ret;exact⟨by rw[HP.o];rfl,HWL.o.tr (hV1.tr hV2)⟩
     ·have HZ:=Vk (show IU rs i=Vp by rw[HOR.o,HF.o,bt (λj hj=>HA2.o j VY)];rfl);have hlk':decide ((k:Int)<(rs.length:Int))=Vp:=V8;go_wp2;refine⟨⟨⟨i+1,VY,V5,λj hj=> ?_⟩,HWL.o⟩,V7⟩;by_cases hji:j=i
      ·rw[hji];exact HZ.o
      ·exact HALL.o j VY
   ·have hde':(d !=e)=Vv:=by simpa using hde
    have HP:=Vk (show eI rs=Vp by unfold eI;rw[dH hlt (by rw[HOR.o,hd,HE.o,hde'];rfl)];rfl);clear hde;cases d with
    |false=>
     cases e with
     |false=>cases hde'
     |true=>
      exact Zd
    |true=>
     cases e with
     |true=>cases hde'
     |false=>
      exact Zd
  ·have HA:=Vk (show eI rs=Vv by unfold eI;rw[bt (λj hj=>HALL.o j VY)];rfl);have hlt':decide ((i:Int)<(rs.length:Int))=Vp:=V8;go_wp2;go_ret;exact⟨by rw[HA.o];rfl,HLOW.o⟩
end
section
open Kp
def bB{k:Nat}{rows:List (List Vr)}(hw:dj k rows):rows.flatten.length=rows.length*k:=by
 induction rows with
 |nil=>simp
 |cons r rows ih=>
  rw[List.flatten_cons,VD,ih (λx hx=>hw x (List.mem_cons_of_mem _ hx)),hw r V5,List.length_cons,Nat.add_mul,Nat.one_mul,Nat.add_comm]
def Hk{k:Nat}{rows:List (List Vr)}(hw:dj k rows){i j:Nat}(hi:i<rows.length)(hj:j<k):rows.flatten[k*i+j]?=(rows.getD i [])[j]?:=by
 induction rows generalizing i with
 |nil=>simp at hi
 |cons r rows ih=>
  have hr:r.length=k:=hw r V5;rw[List.flatten_cons];cases i with
  |zero=>
   rw[Nat.mul_zero,Nat.zero_add,List.getElem?_append_left VY];rfl
  |succ i=>
   have e:k*(i+1)+j=r.length+(k*i+j):=by rw[hr,Nat.mul_add,Nat.mul_one];omega
   rw[e,List.getElem?_append_right VY,Nat.add_sub_cancel_left,ih (λx hx=>hw x (List.mem_cons_of_mem _ hx)) Xl]
   rfl
def Fz{k n:Nat}(hk:0<k){j:Nat}(hj:j<n*k):∃i m,i<n/\m<k/\j=k*i+m:=
 ⟨j/k,j%k,(Nat.div_lt_iff_lt_mul hk).2 hj,Nat.mod_lt _ hk,(Nat.div_add_mod j k).symm⟩
def bK.cells{k:Nat}{w:Vl}{B:Nat}{b off cap:Nat}{rows:List (List Vr)}(h:bK k w B (Vq ⟨b,off,Vo⟩) cap rows)(hw:dj k rows)(hk:0<k):
  ∀j u,rows.flatten[j]?=Vq u->w.cell? ((⟨b,off,Vo⟩:VM).add j)=Vq u:=by
 intro j u hj;have hlt:j<rows.flatten.length:=(List.getElem?_eq_some_iff.1 hj).1;rw[bB hw] at hlt;obtain⟨i,m,hi,hm,rfl⟩:=Fz hk hlt;obtain⟨b',off',e,_,hc⟩:=h.2.2 VY;obtain⟨rfl,rfl⟩:b=b'/\off=off':=Xh;have:=hc i hi m hm;rw[<-Hk hw hi hm,hj] at this;rw[Addr.add_lit,<-Nat.add_assoc];exact this
def aG{k:Nat}{w:Vl}{base n:Nat}{e:VK}{v:Vr}{rows:List (List Vr)}(h:w.ownsRow base e k v n rows.flatten)(hn:rows.length=n)(hw:dj k rows):
  ∃A cap,v=VQ A n cap/\bK k w w.heap.size A cap rows:=by
 subst hn;obtain⟨hl,⟨rfl,h0⟩|⟨g,cap,cur,rfl,hb,hh,h1,h2,h3,h4⟩⟩:=h
 ·exact YQ
 ·refine⟨_,cap,rfl,h1,h2,λhp=>⟨g,0,rfl,(Vz.1 hh).1,λi hi j hj=> ?_⟩⟩;rw[<-Hk hw hi hj,<-h4];have hlt:k*i+j<rows.length*k:=by
   have:k*(i+1)<=k*rows.length:=Nat.mul_le_mul_left _ hi;rw[Nat.mul_add,Nat.mul_one] at this;rw[VE rows.length k];omega
  rw[List.getElem?_take,if_pos hlt,Nat.zero_add];simp[World.cell?,hh]
end
section
open Kp
def jE(p:Nat->Bool):Nat->Int
 |0=> -1
 |n+1=>if jE p n= -1 then(if p n then(n:Int) else -1) else jE p n
def xZ{p:Nat->Bool}{n:Nat}(h:∀i,i<n->p i=Vp):jE p n= -1:=by
 induction n with
 |zero=>rfl
 |succ n ih=>rw[jE,if_pos (ih λi hi=>h i VY),h n VY];rfl
def Pf{p:Nat->Bool}{n k:Nat}(hk:k<n)(h:∀i,i<k->p i=Vp)(hp:p k=Vv):jE p n=(k:Int):=by
 induction n with
 |zero=>omega
 |succ n ih=>
  rw[jE];by_cases hkn:k=n
  ·subst hkn;rw[if_pos (xZ h),if_pos hp]
  ·rw[ih VY,if_neg VY]
def Lv(p:Nat->Bool)(n:Nat):decide (0<=jE p n)=cC p n:=by
 induction n with
 |zero=>rfl
 |succ n ih=>
  rw[jE,cC,<-ih];by_cases h:jE p n= -1
  ·rw[if_pos h,h];cases p n
   ·rfl
   ·show decide ((0:Int)<=(n:Int))=Vv;rw[decide_eq_true_eq];omega
  ·rw[if_neg h];have:∀m,jE p m= -1\/0<=jE p m:=by
    intro m
    induction m with
    |zero=>exact .inl rfl
    |succ m ih=>
     rw[jE];by_cases hm:jE p m= -1
     ·rw[if_pos hm];cases p m
      ·exact .inl rfl
      ·exact .inr (by show(0:Int)<=(m:Int);omega)
     ·rw[if_neg hm];exact ih
   have h0:0<=jE p n:=(this n).resolve_left h;simp[h0]
def US(l:List Vr):Nat->Vr
 |1=>l.headD Vs
 |_=> VW l.toArray
def xc(g:Nat)(lb:Array Vr)(k:Nat)(rows:List (List Vr))(p:Nat->Bool)(w:Vl):Prop:=
 ∀(W:Vl) (i:Nat),i<rows.length->Ext w W->VC prog g (#[US (rows.getD i []) k]++lb) W λe w'=>e=VV (VS (p i))/\Ext W w'
def Vg(w:Vl)(p:Nat->Bool)(n:Nat)(i:Vr)(wr:Vl):Prop:=∃k:Nat,k<=n/\i=VU VA (k:Int)/\Ext w wr/\∀j,j<k->p j=Vp
def Qn{w wr:Vl}{b o:Nat}{v:Option Vr}(hX:Ext w wr)(hB:b<w.heap.size)(h:w.cell? ⟨b,o,Vo⟩=v):wr.cell? ⟨b,o,Vo⟩=v:=(hX.cell (p:=⟨b,o,Vo⟩) hB).trans h
def PM(f k:Nat):Prop:=∀(w:Vl) (A:Option VM) (cap n:Nat) (rows:List (List Vr)),rows.length=n->bK k w w.heap.size A cap rows->dj k rows->∀(p:Nat->Bool) (g:Nat) (lb:Array Vr),
  (∀args w,(callFunc g args).run prog w= .ok (.enter g args) w)->xc g lb k rows p w->
  VC prog f #[VQ A n cap,.func (.func g) #[] lb] w λe w'=>e=VV (VU VA (jE p n))/\Ext w w'
def RY(f k:Nat):Prop:=∀(w:Vl) (A:Option VM) (cap n:Nat) (rows:List (List Vr)),rows.length=n->bK k w w.heap.size A cap rows->dj k rows->∀(p:Nat->Bool) (g:Nat) (lb:Array Vr),
  (∀args w,(callFunc g args).run prog w= .ok (.enter g args) w)->xc g lb k rows p w->
  VC prog f #[VQ A n cap,.func (.func g) #[] lb] w λe w'=>e=VV (VS (cC p n))/\Ext w w'
def sK{p:Prop}(h:p:=by
  obtain⟨h1,h2,h3⟩:=hl;rw[hn] at h1 h3;unfold VJ at h2;have H3:=Vk h3;have HN:=Vk hn;have HP:=Vk hp;clear h3 hn hp;go_wp2;go_loopw [5,8] (λ_ i wr=>Vg w p n i wr) (λ_ i _=>((n:Int)-VG i).toNat)
  case atStart=>exact⟨0,VY,rfl,Below.refl _ _,λj hj=>VY⟩
  case round=>
   obtain⟨i,hi,rfl,hX,hall⟩:=hrel;have HX:=Vk hX;have HA:=Vk hall;clear hX hall;by_cases hlt:i<n
   ·obtain⟨b,off,rfl,hB,hcell0⟩:=H3.o VY;have hcell:=λi hi j hj=>Qn HX.o hB (hcell0 i hi j hj)
    have hcall:=HP.o wr i (by rw[HN.o];exact hlt) HX.o;have hi':i<rows.length:=by rw[HN.o];exact hlt
    have hw1:=hwd _ (List.getElem_mem hi');obtain⟨row,hrow⟩:∃row,rows.getD i []=row:=⟨_,rfl⟩;rw[show rows[i]=row by rw[<-hrow,Vn,Vt hi'];rfl] at hw1;rw[hrow] at hcall
    try(have c0:=hcell i hlt 0 V0;rw[hrow,VE] at c0)
    try(have c1:=hcell i hlt 1 V0;rw[hrow,VE] at c1)
    try(have c2:=hcell i hlt 2 V0;rw[hrow,VE] at c2)
    try(have c3:=hcell i hlt 3 V0;rw[hrow,VE] at c3)
    try(have c4:=hcell i hlt 4 V0;rw[hrow,VE] at c4)
    try(have c5:=hcell i hlt 5 V0;rw[hrow,VE] at c5)
    try(have c6:=hcell i hlt 6 V0;rw[hrow,VE] at c6)
    simp only[Nat.mul_one,Nat.add_zero] at c0;clear hcell hcell0 hrow hi';rcases row with _|⟨x0,_|⟨x1,_|⟨x2,_|⟨x3,_|⟨x4,_|⟨x5,_|⟨x6,_|⟨x7,r⟩⟩⟩⟩⟩⟩⟩⟩<;>first|(exfalso;simp only[List.length_cons,List.length_nil] at hw1;omega)|skip
    simp only[US,List.headD_cons] at hcall;have HC:=Vk hcall;clear hcall hw1;cases hq:p i
    ·rw[hq] at HC;have HQ:=Vk hq;clear hq;go_wp2_with(go_at_fn g;refine HC.o.mono ?_;rintro e w' ⟨rfl,hb'⟩)
     refine⟨⟨i+1,VY,V5,HX.o.tr hb',λj hj=> ?_⟩,V7⟩;by_cases hjk:j=i
     ·rw[hjk];exact HQ.o
     ·exact HA.o j VY
    ·rw[hq] at HC;have HR:=Vk (Pf hlt HA.o hq);clear hq;go_wp2_with(go_at_fn g;refine HC.o.mono ?_;rintro e w' ⟨rfl,hb'⟩)
     go_ret;exact⟨V9,HX.o.tr hb'⟩
   ·have hlt':decide ((i:Int)<(n:Int))=Vp:=V8;have HR:=Vk (xZ (p:=p) (n:=n) (λj hj=>HA.o j VY));go_wp2;go_ret;exact⟨V9,HX.o⟩):p:=h
def uY{p:Prop}(h:p:=by
  have HR:=Vk (Lv p n);clear hn hl hwd hp;obtain⟨x,hx⟩:∃x,jE p n=x:=⟨_,rfl⟩;rw[hx] at HC HR;clear hx;go_wp2_with(refine HC.o.mono ?_;rintro e w' ⟨rfl,hb'⟩)
  go_ret;exact⟨by rw[<-HR.o];rfl,hb'⟩):p:=h
def Ap:PM 188 7:=by
 intro w A cap n rows hn hl hwd p g lb eg hp;go_enter func188,ntmps188;exact sK
def zi:RY 128 7:=by
 intro w A cap n rows hn hl hwd p g lb eg hp;have HC:=Vk (Ap w A cap n rows hn hl hwd p g lb eg hp);go_enter func128,ntmps128;exact uY
def AH:PM 191 1:=by
 intro w A cap n rows hn hl hwd p g lb eg hp;go_enter func191,ntmps191;exact sK
def zf:RY 132 1:=by
 intro w A cap n rows hn hl hwd p g lb eg hp;have HC:=Vk (AH w A cap n rows hn hl hwd p g lb eg hp);go_enter func132,ntmps132;exact uY
def yK:PM 203 5:=by
 intro w A cap n rows hn hl hwd p g lb eg hp;go_enter func203,ntmps203;exact sK
def z8:RY 140 5:=by
 intro w A cap n rows hn hl hwd p g lb eg hp;have HC:=Vk (yK w A cap n rows hn hl hwd p g lb eg hp);go_enter func140,ntmps140;exact uY
def zX:PM 154 3:=by
 intro w A cap n rows hn hl hwd p g lb eg hp;go_enter func154,ntmps154;exact sK
end
section
open Kp
def rm:(prog.info? 54).map (λi=>(i.zero,i.size,i.bytes))=Vq (Vq (VW #[VU VA 0,VU VA 0,VU VA 0,VU VA 0,VS Vp,VU VA 0,VU VA 0]),7,56):=VZ
def Ja(n:Nat)(w:Vl)(hn:n<=1000000):VC prog 189 #[VQ Vo 0 0,VU VA (n:Int)] w λe w'=>∃v,e=VV v/\w'.ownsRow w.heap.size 54 7 v 0 []/\Ext w w':=by
 obtain⟨i0,hi0,hz0,hz1,hz2⟩:=info_parts rm;by_cases h0:0<n
 ·have hr:=λty=>Lib.run_append_nil_zeros (P:=prog) w 80 3 ty 54 i0 _ .i64 .i64 underlying80 underlying3 hi0 hz0 n h0 VY VY XF
  have HO:=Vk (Vl.ownsRow_made (base:=w.heap.size) (e:=54) (size:=7) w.drew (Builtin.zeroCells (Value.agg #[VU VA 0,VU VA 0,VU VA 0,VU VA 0,VS Vp,VU VA 0,VU VA 0]).cells n++Builtin.zeroCells (Value.agg #[VU VA 0,VU VA 0,VU VA 0,VU VA 0,VS Vp,VU VA 0,VU VA 0]).cells (grownCap w n 0 54-n)) (grownCap w n 0 54) (Vm _) (grownCap_le_maxLen _ _ _ _ Wc) (by
   have:=grownCap_ge w n 0 54;rw[Array.size_append,size_zeroCells,size_zeroCells,<-Nat.add_mul];have e:n+(grownCap w n 0 54-n)=grownCap w n 0 54:=VY;rw[e];rfl))
  have HX:=Vk (show Ext w (w.drew.alloc (.cells (Builtin.zeroCells (Value.agg #[VU VA 0,VU VA 0,VU VA 0,VU VA 0,VS Vp,VU VA 0,VU VA 0]).cells n++Builtin.zeroCells (Value.agg #[VU VA 0,VU VA 0,VU VA 0,VU VA 0,VS Vp,VU VA 0,VU VA 0]).cells (grownCap w n 0 54-n)) 54)) from((Below.refl _ _).drew).alloc (Vm _) _);obtain⟨W1,hW1⟩:∃W1,w.drew.alloc (.cells (Builtin.zeroCells (Value.agg #[VU VA 0,VU VA 0,VU VA 0,VU VA 0,VS Vp,VU VA 0,VU VA 0]).cells n++Builtin.zeroCells (Value.agg #[VU VA 0,VU VA 0,VU VA 0,VU VA 0,VS Vp,VU VA 0,VU VA 0]).cells (grownCap w n 0 54-n)) 54)=W1:=⟨_,rfl⟩;have hge:=grownCap_ge w n 0 54;obtain⟨cp,hcp⟩:∃cp,grownCap w n 0 54=cp:=⟨_,rfl⟩;rw[hcp] at hge;simp only[hcp] at HO HX hW1 hr;simp only[hW1] at HO HX hr;have HH:=Vk hr;clear hr hi0 hz0 hz1 hz2 hcp hW1;go_enter func189,ntmps189;go_wp2_with(at_builtin;refine Lib.wpList_append_run _ rfl _ _ _ _ rfl _ _ rfl rfl _ _ (HH.o _) ?_)
  go_ret;exact⟨_,rfl,HO.o,HX.o⟩
 ·obtain rfl:n=0:=VY;have HO:=Vk (World.ownsRow_nil w w.heap.size 54 7);clear hi0 hz0 hz1 hz2 h0 hn;go_enter func189,ntmps189;go_wp2;go_ret;exact⟨_,rfl,HO.o,Ext.aB _⟩
def dB{rs:List (List Sd)}{k:Nat}(hk:k<rs.length):(rs.take (k+1)).flatten=(rs.take k).flatten++rs.getD k []:=by
 rw[List.take_succ_eq_append_getElem hk,List.flatten_append];simp[List.getD,Vt hk]
def eo(rs:List (List Sd))(k:Nat):(rs.take k).flatten.length<=rs.flatten.length:=by
 have:rs.flatten=(rs.take k).flatten++(rs.drop k).flatten:=Xv;rw[this,VD];omega
def UZ(w:Vl)(rs:List (List Sd))(v i:Vr)(wr:Vl):Prop:=
 ∃k:Nat,k<=rs.length/\i=VU VA (k:Int)/\wr.ownsRow w.heap.size 54 7 v (rs.take k).flatten.length (aD (rs.take k).flatten).flatten/\Ext w wr
def U7(rs:List (List Sd))(s i:Vr):Prop:=∃k:Nat,k<=rs.length/\i=VU VA (k:Int)/\s=VU VA ((rs.take k).flatten.length:Int)
def rB(w:Vl)(A:Option VM)(cap:Nat)(rs:List (List Sd))(hr:eB w w.heap.size A cap rs)(hne:∀r∈rs,r≠[])(hlen:rs.flatten.length<=1000):
  VC prog 129 #[VQ A rs.length cap] w λe w'=>∃A' cap',e=VV (VQ A' rs.flatten.length cap')/\bK 7 w' w'.heap.size A' cap' (aD rs.flatten)/\Ext w w':=by
 have h1:=hr.1;have h2:=hr.2.1;unfold VJ at h2;obtain⟨i0,hi0,hz0,hz1,hz2⟩:=info_parts rm;have I0:=Vk hi0;have I1:=Vk hz0;have I2:=Vk hz1;have I3:=Vk hz2;have HR:=Vk hr;clear hr hi0 hz0 hz1 hz2;go_enter func129,ntmps129;go_wp2
 go_loop [3,11] (λs i=>U7 rs s i) (λ_ i=>((rs.length:Int)-VG i).toNat)
 case atStart=>exact⟨0,VY,rfl,V5⟩
 case round=>
  obtain⟨k,hk,rfl,rfl⟩:=hrel;by_cases hlt:k<rs.length
  ·obtain⟨b,off,rfl,hB,hcell⟩:=HR.o.2.2 VY;obtain⟨Ai,ci,c1,hsl⟩:=hcell k hlt;have hq:=dB hlt;have hle:=eo rs (k+1);have hq2:((rs.take (k+1)).flatten.length:Int)=((rs.take k).flatten.length:Int)+((rs.getD k []).length:Int):=by rw[hq];simp
   obtain⟨m,hm⟩:∃m,(rs.take k).flatten.length=m:=⟨_,rfl⟩;obtain⟨d,hd⟩:∃d,(rs.getD k []).length=d:=⟨_,rfl⟩;rw[hd] at c1;have hs:m+d<=1000:=by rw[hm,hd] at hq2;omega
   exact Zj
  ·obtain rfl:k=rs.length:=VY;have ht:(rs.take rs.length).flatten.length=rs.flatten.length:=by rw[List.take_length]
   rw[ht];clear ht;obtain⟨m,hm⟩:∃m,rs.flatten.length=m:=⟨_,rfl⟩;rw[hm] at hlen⊢;have HM:=Vk hm;clear hm;go_wp2_with(go_at_call 189;go_must(refine(Ja m _ VY).mono ?_);rintro e W1 ⟨v,rfl,ho,hx⟩;have HO:=Vk ho;have HX:=Vk hx;clear ho hx)
   go_loopw [6,27] (λv i wr=>UZ w rs v i wr) (λ_ i _=>((rs.length:Int)-VG i).toNat)
   case atStart=>exact⟨0,VY,rfl,by simpa using HO.o,HX.o⟩
   case round=>
    obtain⟨k,hk,rfl,hown,hX⟩:=hrel;have HOW:=Vk hown;have HXW:=Vk hX;clear hown hX;by_cases hlt:k<rs.length
    ·obtain⟨b,off,rfl,hB,hcell⟩:=(HR.o.below HXW.o).2.2 VY;obtain⟨Ai,ci,c1,hsl⟩:=hcell k hlt;have hrne:rs.getD k []≠[]:=by
      have e:rs.getD k []=rs[k]:=by rw[Vn,Vt hlt];rfl
      rw[e];exact hne _ (List.getElem_mem hlt)
     have hq:=dB hlt;have hle:=eo rs (k+1);obtain⟨ring,hring⟩:∃ring,rs.getD k []=ring:=⟨_,rfl⟩;rw[hring] at c1 hsl hrne hq;have hpos:0<ring.length:=List.length_pos_iff.2 hrne;obtain⟨ba,oa,rfl,_,_⟩:=id (hsl.2.2 (by rw[Vu];exact hpos));have hnews:=Vk (hsl.cells (dI ring) V0);have hfl:=Vk (show(aD ring).flatten.length=ring.length*7 by rw[bB (dI ring),Vu]);have hlen2:(rs.take k).flatten.length+ring.length<=1000:=by rw[hq,VD] at hle;rw[HM.o] at hle;omega
     have hone:=Vk (show∀u∈(aD ring).flatten,u.oneCell'=Vv by
      intro u hu;obtain⟨r,hr,hur⟩:=List.mem_flatten.1 hu;obtain⟨s,_,rfl⟩:=List.mem_map.1 hr;simp only[List.mem_cons,List.not_mem_nil,or_false] at hur;rcases hur with rfl|rfl|rfl|rfl|rfl|rfl|rfl<;>rfl)
     have HQ:=Vk hq;have hbase:=HXW.o.size;clear hcell hsl hrne hq hle hring;go_wp2_with(at_builtin;(refine wpList_append_own _ rfl _ _ _ rfl w.heap.size 54 i0 _ 7 56 underlying80 I0.o I1.o I2.o I3.o rfl VY _ _ _ rfl HOW.o ⟨ba,oa,Vo⟩ ring.length ci (aD ring).flatten rfl hfl.o hnews.o hone.o Wc VY hbase ?_);intro v' w' hown' hgr' hnil)
     exact Zi
    ·obtain rfl:k=rs.length:=VY;have ho:=HOW.o;rw[List.take_length] at ho;obtain⟨A',cap',rfl,hsl⟩:=aG ho (by rw[Vu]) (dI _);have HS:=Vk hsl;have hmm:=HM.o;clear ho hsl;go_wp2;go_ret;exact⟨A',cap',by rw[hmm];rfl,HS.o,HXW.o⟩
end
section
open Kp
def Bx.grown{w w':Vl}{b:Nat}{t:VK}{u:Vr}(h:Bx w b t u){base n s:Nat}{e:VK}{v:Vr}{xs:List Vr}(ho:w.ownsRow base e s v n xs)(hg:w.grownBy w' v.ownBlock)(hne:t≠e):Bx w' b t u:=by
 refine(hg.block b h.lt (λhb=> ?_)).trans h;obtain⟨_,⟨rfl,_⟩|⟨g,cap,cur,rfl,_,hh,_⟩⟩:=ho
 ·cases hb
 ·have hbg:b=g:=by simpa[Value.ownBlock] using hb
  subst hbg;unfold Bx at h;exact Zl
def ah.grown{w w':Vl}{b:Nat}{t:VK}{l:List Vr}(h:ah w b t l){base n s:Nat}{e:VK}{v:Vr}{xs:List Vr}(ho:w.ownsRow base e s v n xs)(hg:w.grownBy w' v.ownBlock)(hne:t≠e):ah w' b t l:=by
 refine(hg.block b h.lt (λhb=> ?_)).trans h;obtain⟨_,⟨rfl,_⟩|⟨g,cap,cur,rfl,_,hh,_⟩⟩:=ho
 ·cases hb
 ·have hbg:b=g:=by simpa[Value.ownBlock] using hb
  subst hbg;unfold ah at h;exact Zl
def kq{w w':Vl}{base' n' s':Nat}{e':VK}{v':Vr}{xs':List Vr}(h:w.ownsRow base' e' s' v' n' xs'){base n s:Nat}{e:VK}{v:Vr}{xs:List Vr}(ho:w.ownsRow base e s v n xs)(hg:w.grownBy w' v.ownBlock)(hne:e'≠e):w'.ownsRow base' e' s' v' n' xs':=by
 obtain⟨hl,h0|⟨g',cap',cur',rfl,hb',hh',h1'⟩⟩:=h
 ·exact YO
 ·refine⟨hl,.inr ⟨g',cap',cur',rfl,hb',(hg.block g' (Vz.1 hh').1 (λhb=> ?_)).trans hh',h1'⟩⟩;obtain⟨_,⟨rfl,_⟩|⟨g,cap,cur,rfl,_,hh,_⟩⟩:=ho
  ·cases hb
  ·have hbg:g'=g:=by simpa[Value.ownBlock] using hb
   subst hbg;rw[hh'] at hh;injection hh with hh;injection hh with _ h2 _
   exact hne h2
def sq{w w':Vl}{base n s:Nat}{e:VK}{v:Vr}{xs:List Vr}(ho:w.ownsRow base e s v n xs)(hg:w.grownBy w' v.ownBlock):KeepsOthers w w':=by
 refine⟨hg.size,λb o hb hc=>(hg.block b (Vz.1 hb).1 (λe'=> ?_)).trans hb⟩;obtain⟨_,⟨rfl,_⟩|⟨g,cap,cur,rfl,_,hh,_⟩⟩:=ho
 ·cases e'
 ·have hbg:b=g:=by simpa[Value.ownBlock] using e'
  subst hbg;rw[hb] at hh;injection hh with hh;subst hh;cases hc
def rH{B:Nat}{w0 w w':Vl}{base n s:Nat}{e:VK}{v:Vr}{xs:List Vr}(h:VL B w0 w)(ho:w.ownsRow base e s v n xs)(hg:w.grownBy w' v.ownBlock)(hB:B<=base)(hw:B<=w.heap.size):VL B w0 w':=
 h.grown hg hw (λk hk=>VB hB (ak ho k hk).1)
def uF{w:Vl}{base n s:Nat}{e:VK}{v:Vr}{xs:List Vr}(h:w.ownsRow base e s v n xs):∃A m c,v=VQ A m c:=by
 exact YP
abbrev Jv(r i:Nat):List Vr:=[VU VA (r:Int),VU VA (i:Int)]
abbrev lH(l:List (Nat×Nat×o7)):List (List Vr):=l.map λx=>wG x.2.2
abbrev lC(l:List (Nat×Nat×o7)):List (List Vr):=l.map λx=>Jv x.1 x.2.1
def Pk(l:List (Nat×Nat×o7)):dj 4 (lH l):=bw (f:=λx:Nat×Nat×o7=>wG x.2.2) (λ_=>rfl) l
def PF(l:List (Nat×Nat×o7)):dj 2 (lC l):=bw (f:=λx:Nat×Nat×o7=>Jv x.1 x.2.1) (λ_=>rfl) l
def Nc:(prog.info? 236).map (λi=>(i.zero,i.size,i.bytes))=Vq (Vq (VW #[VU VA 0,VU VA 0,VU VA 0,VU VA 0]),4,32):=VZ
def Gd:(prog.info? 239).map (λi=>(i.zero,i.size,i.bytes))=Vq (Vq (VW #[VU VA 0,VU VA 0]),2,16):=VZ
structure QT(b:Nat)(l:List (Nat×Nat×o7))(X Y:Vr)(W:Vl):Prop where
 ba:Bx W b 233 X
 bp:Bx W (b+1) 234 Y
 a:W.ownsRow (b+2) 236 4 X l.length (lH l).flatten
 p:W.ownsRow (b+2) 239 2 Y l.length (lC l).flatten
def QT.stays{b:Nat}{l:List (Nat×Nat×o7)}{X Y:Vr}{n0:Nat}{W W':Vl}(h:QT b l X Y W)(hs:aE n0 W W'):QT b l X Y W':=
 ⟨h.ba.stays hs,h.bp.stays hs,uM h.a hs,uM h.p hs⟩
def QT.ext{b:Nat}{l:List (Nat×Nat×o7)}{X Y:Vr}{W W':Vl}(h:QT b l X Y W)(hx:Ext W W'):QT b l X Y W':=h.stays (hx.stays (n0:=0) (Nat.zero_le _))
structure U1(w:Vl)(A:Option VM)(cap:Nat)(rs:List (List Sd))(k:Nat)(W:Vl):Prop where
 ex:∃X Y,QT w.heap.size (kB rs k) X Y W
 rg:eB W w.heap.size A cap rs
 low:VL w.heap.size w W
structure Uk(w:Vl)(it rb k:Nat)(ds:List Deferred)(Ai:Option VM)(ci:Nat)(l:List (Nat×Nat×o7))(ring:List Sd)(j:Nat)(W:Vl):Prop where
 ex:∃X Y,QT w.heap.size (l++iE k ring j) X Y W
 r:Bx W rb 3 (VU VA (k:Int))
 it:Bx W it 80 (VQ Ai ring.length ci)
 sl:bK 7 W w.heap.size Ai ci (aD ring)
 mks:Mk w.heap.size ds W
 low:VL w.heap.size w W
def Uk.stays{w w1:Vl}{it rb k:Nat}{ds:List Deferred}{Ai:Option VM}{ci:Nat}{l:List (Nat×Nat×o7)}{ring:List Sd}{j:Nat}{W W':Vl}(h:Uk w it rb k ds Ai ci l ring j W)(hw:∀D,Oz D∈ds->D<w1.heap.size)(hs:aE w1.heap.size W W')(hn:w.heap.size<=w1.heap.size):Uk w it rb k ds Ai ci l ring j W':=
 ⟨by obtain⟨X,Y,h⟩:=h.ex;exact⟨X,Y,h.stays hs⟩,h.r.stays hs,h.it.stays hs,h.sl.stays (dI ring) hs,h.mks.stays hw hs,h.low.trans (hs.below.mono hn)⟩
def UU(X Y:Vr)(k j:Nat)(ar rc:List Vr):Nat->Vr
 |0=>X
 |1=> VW ar.toArray
 |2=> VW rc.toArray
 |5=>Y
 |6=> VU VA (k:Int)
 |7=> VU VA (j:Int)
 |_=> VW (Jv k j).toArray
structure Hr(b it rb ab:Nat)(k j:Nat)(Ai:Option VM)(ci:Nat)(ring:List Sd)(B0:Nat)(W0 W2:Vl)(l:List (Nat×Nat×o7))(ar rc:List Vr)(X Y:Vr)(L:Nat->Bool)(vs:Nat->Vr)(w:Vl):Prop where
 ba:Bx w b 233 X
 bp:Bx w (b+1) 234 Y
 r:Bx w rb 3 (VU VA (k:Int))
 it:Bx w it 80 (VQ Ai ring.length ci)
 rar:ah w ab 227 ar
 low:VL B0 W0 w
 keep:KeepsOthers W2 w
 v:∀i,i<11->L i=Vv->i≠3->i≠4->i≠9->i≠10->vs i=UU X Y k j ar rc i
 s3:L 3=Vv->L 4=Vp->∃g,vs 3=VQ (Vq ⟨g,0,Vo⟩) 1 1/\ah w g 236 rc
 s9:L 9=Vv->L 10=Vp->∃g,vs 9=VQ (Vq ⟨g,0,Vo⟩) 1 1/\ah w g 239 (Jv k j)
 a:w.ownsRow (b+2) 236 4 (if L 4 then vs 4 else X) (if L 4 then l.length+1 else l.length) (if L 4 then(lH l).flatten++rc else(lH l).flatten)
 p:w.ownsRow (b+2) 239 2 (if L 10 then vs 10 else Y) (if L 10 then l.length+1 else l.length) (if L 10 then(lC l).flatten++Jv k j else(lC l).flatten)
def Hr.sz{b it rb ab k j:Nat}{Ai:Option VM}{ci:Nat}{ring:List Sd}{B0:Nat}{W0 W2:Vl}{l:List (Nat×Nat×o7)}{ar rc:List Vr}{X Y:Vr}{L:Nat->Bool}{vs:Nat->Vr}{w:Vl}(h:Hr b it rb ab k j Ai ci ring B0 W0 W2 l ar rc X Y L vs w):b+2<=w.heap.size:=h.bp.lt
def Hr.step{b it rb ab k j:Nat}{Ai:Option VM}{ci:Nat}{ring:List Sd}{B0:Nat}{W0 W2:Vl}{l:List (Nat×Nat×o7)}{ar rc:List Vr}{X Y:Vr}{L:Nat->Bool}{vs:Nat->Vr}{w w':Vl}(h:Hr b it rb ab k j Ai ci ring B0 W0 W2 l ar rc X Y L vs w)
  (hx:Ext w w'){i:Nat}(hB:B0<=b){v:Vr}(h4:i≠4)(h10:i≠10)(hv:i≠3->i≠9->v=UU X Y k j ar rc i)
  (h3:i=3->∃g,v=VQ (Vq ⟨g,0,Vo⟩) 1 1/\ah w' g 236 rc)(h9:i=9->∃g,v=VQ (Vq ⟨g,0,Vo⟩) 1 1/\ah w' g 239 (Jv k j)):
  Hr b it rb ab k j Ai ci ring B0 W0 W2 l ar rc X Y (fx L i) (aW vs i v) w':=by
 have hs:=hx.stays (n0:=0) (Nat.zero_le _);have hz:=h.sz;have e4:fx L i 4=L 4:=by unfold fx;rw[if_neg (Ne.symm h4)]
 have e10:fx L i 10=L 10:=by unfold fx;rw[if_neg (Ne.symm h10)]
 have v4:aW vs i v 4=vs 4:=by unfold aW;rw[if_neg (Ne.symm h4)]
 have v10:aW vs i v 10=vs 10:=by unfold aW;rw[if_neg (Ne.symm h10)]
 refine⟨h.ba.stays hs,h.bp.stays hs,h.r.stays hs,h.it.stays hs,h.rar.ext hx,h.low.trans (hx.mono VY),h.keep.trans hx.keeps,λm hm hL n3 n4 n9 n10=> ?_,λhL hL4=> ?_,λhL hL10=> ?_,?_,?_⟩
 ·by_cases hmi:m=i
  ·subst hmi;simp only[aW,if_pos];exact hv n3 n9
  ·simp only[fx,if_neg hmi] at hL;simp only[aW,if_neg hmi];exact h.v m hm hL n3 n4 n9 n10
 ·by_cases hmi:3=i
  ·subst hmi;simp only[aW,if_pos];exact h3 rfl
  ·simp only[fx,if_neg hmi] at hL;simp only[aW,if_neg hmi];rw[e4] at hL4;obtain⟨g,e,hr⟩:=h.s3 hL hL4;exact⟨g,e,hr.ext hx⟩
 ·by_cases hmi:9=i
  ·subst hmi;simp only[aW,if_pos];exact h9 rfl
  ·simp only[fx,if_neg hmi] at hL;simp only[aW,if_neg hmi];rw[e10] at hL10;obtain⟨g,e,hr⟩:=h.s9 hL hL10;exact⟨g,e,hr.ext hx⟩
 ·rw[e4,v4];exact aF h.a hx
 ·rw[e10,v10];exact aF h.p hx
def Hr.TY{b it rb ab k j:Nat}{Ai:Option VM}{ci:Nat}{ring:List Sd}{B0:Nat}{W0 W2:Vl}{l:List (Nat×Nat×o7)}{ar rc:List Vr}{X Y:Vr}{L:Nat->Bool}{vs:Nat->Vr}{w w':Vl}(h:Hr b it rb ab k j Ai ci ring B0 W0 W2 l ar rc X Y L vs w)
  (hB:B0<=b)(hL4:L 4=Vp){v:Vr}(ho:w'.ownsRow (b+2) 236 4 v (l.length+1) ((lH l).flatten++rc))(hg:w.grownBy w' X.ownBlock):
  Hr b it rb ab k j Ai ci ring B0 W0 W2 l ar rc X Y (fx L 4) (aW vs 4 v) w':=by
 have hz:=h.sz;have ha:=h.a;rw[hL4] at ha;simp only[if_neg (by decide:¬Vp=Vv)] at ha;refine⟨h.ba.grown ha hg V0,h.bp.grown ha hg V0,h.r.grown ha hg V0,h.it.grown ha hg V0,h.rar.grown ha hg V0,rH h.low ha hg VY VY,h.keep.trans (sq ha hg),λm hm hL n3 n4 n9 n10=> ?_,λ_ hL=> ?_,λhL hL10=> ?_,?_,?_⟩
 ·simp only[fx,if_neg n4] at hL;simp only[aW,if_neg n4];exact h.v m hm hL n3 n4 n9 n10
 ·simp[fx] at hL
 ·obtain⟨g,e,hr⟩:=h.s9 (by simpa[fx] using hL) (by simpa[fx] using hL10);exact⟨g,by simpa[aW] using e,hr.grown ha hg V0⟩
 ·simpa[fx,aW] using ho
 ·have:=kq h.p ha hg V0;simpa[fx,aW] using this
def Hr.SH{b it rb ab k j:Nat}{Ai:Option VM}{ci:Nat}{ring:List Sd}{B0:Nat}{W0 W2:Vl}{l:List (Nat×Nat×o7)}{ar rc:List Vr}{X Y:Vr}{L:Nat->Bool}{vs:Nat->Vr}{w w':Vl}(h:Hr b it rb ab k j Ai ci ring B0 W0 W2 l ar rc X Y L vs w)
  (hB:B0<=b)(hL4:L 10=Vp){v:Vr}(ho:w'.ownsRow (b+2) 239 2 v (l.length+1) ((lC l).flatten++Jv k j))(hg:w.grownBy w' Y.ownBlock):
  Hr b it rb ab k j Ai ci ring B0 W0 W2 l ar rc X Y (fx L 10) (aW vs 10 v) w':=by
 have hz:=h.sz;have ha:=h.p;rw[hL4] at ha;simp only[if_neg (by decide:¬Vp=Vv)] at ha;refine⟨h.ba.grown ha hg V0,h.bp.grown ha hg V0,h.r.grown ha hg V0,h.it.grown ha hg V0,h.rar.grown ha hg V0,rH h.low ha hg VY VY,h.keep.trans (sq ha hg),λm hm hL n3 n4 n9 n10=> ?_,λhL hL10=> ?_,λ_ hL=> ?_,?_,?_⟩
 ·simp only[fx,if_neg n10] at hL;simp only[aW,if_neg n10];exact h.v m hm hL n3 n4 n9 n10
 ·obtain⟨g,e,hr⟩:=h.s3 (by simpa[fx] using hL) (by simpa[fx] using hL10);exact⟨g,by simpa[aW] using e,hr.grown ha hg V0⟩
 ·simp[fx] at hL
 ·have:=kq h.a ha hg V0;simpa[fx,aW] using this
 ·simpa[fx,aW] using ho
def BT(rs:List (List Sd))(n:Nat)(hn:n<=rs.length):(kB rs n).length=(rs.take n).flatten.length:=by
 induction n with
 |zero=>rfl
 |succ n ih=>
  rw[kB,VD,ih VY,dB VY,VD];unfold iE;rw[Vu,List.length_range]
def JF(k:Nat)(ring:List Sd)(j:Nat):(iE k ring j).length=j:=by unfold iE;rw[Vu,List.length_range]
def Es(k:Nat)(ring:List Sd)(j:Nat):iE k ring (j+1)=iE k ring j++[(k,j,lA ring j)]:=by
 unfold iE;rw[List.range_succ,List.map_append];rfl
def Oi{rs:List (List Sd)}{n:Nat}(hn:n<=rs.length){x:Nat×Nat×o7}(h:x∈kB rs n):x.1<rs.length/\x.2.1<(rs.getD x.1 []).length:=by
 induction n with
 |zero=>cases h
 |succ n ih=>
  rw[kB] at h;rcases List.mem_append.1 h with h|h
  ·exact ih VY h
  ·unfold iE at h;obtain⟨i,hi,rfl⟩:=List.mem_map.1 h;exact⟨by show n<_;omega,List.mem_range.1 hi⟩
def xP{l:List (Nat×Nat×o7)}{i:Nat}(hi:i<l.length):(lH l).getD i []=wG (l.getD i sI).2.2:=by
 exact Y5
def yw{l:List (Nat×Nat×o7)}{i:Nat}(hi:i<l.length):(lC l).getD i []=Jv (l.getD i sI).1 (l.getD i sI).2.1:=by
 exact Y5
end
section
open Kp
attribute [local go_sem] Oper.semAt_some
def lQ(r:List Sd)(j:Nat):Bool:=cC (λi=> !(aq r i).gable) j
def kN(rs:List (List Sd))(k:Nat):Bool:=cC (λm=>lQ (rs.getD m []) (rs.getD m []).length) k
structure U9(w:Vl)(A:Option VM)(cap:Nat)(rs:List (List Sd))(k:Nat)(W:Vl):Prop where
 res:Bx W w.heap.size 4 (VS Vp)
 sm:Bx W (w.heap.size+1) 4 (VS (kN rs k))
 rg:eB W w.heap.size A cap rs
 low:VL w.heap.size w W
 ok:∀j,j<k->cC (sG (rs.getD j [])) (rs.getD j []).length=Vp
structure QH(w:Vl)(it:Nat)(ds:List Deferred)(Ai:Option VM)(ci:Nat)(ring:List Sd)(pv:Bool)(j:Nat)(W:Vl):Prop where
 res:Bx W w.heap.size 4 (VS Vp)
 sm:Bx W (w.heap.size+1) 4 (VS (pv||lQ ring j))
 it:Bx W it 80 (VQ Ai ring.length ci)
 sl:bK 7 W w.heap.size Ai ci (aD ring)
 mks:Mk w.heap.size ds W
 low:VL w.heap.size w W
 ok:∀i,i<j->sG ring i=Vp
def QH.stays{w w1:Vl}{it:Nat}{ds:List Deferred}{Ai:Option VM}{ci:Nat}{ring:List Sd}{pv:Bool}{j:Nat}{W W':Vl}(h:QH w it ds Ai ci ring pv j W)(hw:∀D,Oz D∈ds->D<w1.heap.size)(hs:aE w1.heap.size W W')(hn:w.heap.size<=w1.heap.size):QH w it ds Ai ci ring pv j W':=
 ⟨h.res.stays hs,h.sm.stays hs,h.it.stays hs,h.sl.stays (dI ring) hs,h.mks.stays hw hs,h.low.trans (hs.below.mono hn),h.ok⟩
structure SV(w:Vl)(ds:List Deferred)(ring:List Sd)(c:Code)(j:Nat)(W:Vl):Prop where
 ret:c= .ret
 res:Bx W w.heap.size 4 (VS Vp)
 mks:Mk w.heap.size ds W
 low:VL w.heap.size w W
 bad:sG ring j=Vv
def SV.stays{w w1:Vl}{ds:List Deferred}{ring:List Sd}{c:Code}{j:Nat}{W W':Vl}(h:SV w ds ring c j W)(hw:∀D,Oz D∈ds->D<w1.heap.size)(hs:aE w1.heap.size W W')(hn:w.heap.size<=w1.heap.size):SV w ds ring c j W':=
 ⟨h.ret,h.res.stays hs,h.mks.stays hw hs,h.low.trans (hs.below.mono hn),h.bad⟩
def QW{w:Vl}{it:Nat}{ds:List Deferred}{Ai:Option VM}{ci:Nat}{ring:List Sd}{pv:Bool}{j:Nat}{W2 W3:Vl}{v:Bool}(h:QH w it ds Ai ci ring pv j W2)(hx:Ext (W2.setCell ⟨w.heap.size+1,0,Vo⟩ (VS v)) W3)(hit:it≠w.heap.size+1):
  Bx W3 w.heap.size 4 (VS Vp)/\Bx W3 (w.heap.size+1) 4 (VS v)/\Bx W3 it 80 (VQ Ai ring.length ci)/\bK 7 W3 w.heap.size Ai ci (aD ring)/\Mk w.heap.size ds W3/\VL w.heap.size w W3/\KeepsOthers W2 W3:=by
 have hb:VL w.heap.size W2 (W2.setCell ⟨w.heap.size+1,0,Vo⟩ (VS v)):=(Below.refl _ _).setCell (p:=⟨w.heap.size+1,0,Vo⟩) V5 _;have hz:=h.low.size;have hb2:VL w.heap.size W2 W3:=hb.trans (hx.mono (by simpa[World.setCell] using hz));have hk:KeepsOthers W2 W3:=(KeepsOthers.setCell _ _ _).trans hx.keeps;have hs:=hx.stays (n0:=0) (Nat.zero_le _);exact⟨(h.res.dx V5 _).stays hs,(h.sm.put _).stays hs,(h.it.dx (by simpa using hit) _).stays hs,h.sl.below hb2,h.mks.keeps hk,h.low.trans hb2,hk⟩
def PI{w:Vl}{it:Nat}{ds:List Deferred}{Ai:Option VM}{ci:Nat}{ring:List Sd}{pv:Bool}{j:Nat}{W2 W3:Vl}{v:Bool}{a:Act}(h:QH w it ds Ai ci ring pv j W2)(hx:Ext (W2.setCell ⟨w.heap.size+1,0,Vo⟩ (VS v)) W3)(hit:it≠w.heap.size+1)(hv:(pv||lQ ring (j+1))=v)(hb:sG ring j=Vp):
  mf (QH w it ds Ai ci ring pv) (SV w ds ring) j W2 .normal a W3:=by
 obtain⟨h1,h2,h3,h4,h5,h6,h7⟩:=QW h hx hit;refine⟨h7,h1,by rw[hv];exact h2,h3,h4,h5,h6,λi hi=> ?_⟩;by_cases hij:i=j
 ·rw[hij];exact hb
 ·exact h.ok i VY
def P9{w:Vl}{it:Nat}{ds:List Deferred}{Ai:Option VM}{ci:Nat}{ring:List Sd}{pv:Bool}{j:Nat}{W2 W3:Vl}{v:Bool}{a:Act}(h:QH w it ds Ai ci ring pv j W2)(hx:Ext (W2.setCell ⟨w.heap.size+1,0,Vo⟩ (VS v)) W3)(hit:it≠w.heap.size+1)(hb:sG ring j=Vv):
  mf (QH w it ds Ai ci ring pv) (SV w ds ring) j W2 .ret a (W3.setCell ⟨w.heap.size,0,Vo⟩ (VS Vp)):=by
 obtain⟨h1,h2,h3,h4,h5,h6,h7⟩:=QW h hx hit;exact⟨h7.trans (KeepsOthers.setCell _ _ _),rfl,h1.put _,h5.keeps (KeepsOthers.setCell _ _ _),h6.setCell (p:=⟨w.heap.size,0,Vo⟩) (Vm _) _,hb⟩
def DC (w : Vl) (A : Option VM) (cap : Nat) (rs : List (List Sd)) (hr : eB w w.heap.size A cap rs) (hok : Bt rs) :
    VC prog 137 #[VQ A rs.length cap] w λe w' => e =VV (VS (fU rs)) /\ Ext w w' := by
  have h1 := hr.1;have h2 := hr.2.1;unfold VJ at h2;have hcnt := hok.count;refine (callsIn_wide (n := 9)).1 (callsIn_of_wp_marks func137 rfl trivial ?_);simp only [ntmps137, List.size_toArray, List.length_cons, List.length_nil, Nat.reduceAdd, Nat.reduceSub, Array.replicate_succ, Array.replicate_zero, List.push_toArray, List.append_toArray, List.nil_append, List.cons_append]
  gi_wp2
  refine wpIn_loop (λa W => ∃ (u : Nat -> Vr) (k : Nat) (ds : List Deferred), k <= rs.length /\ a = ⟨#[VQ A rs.length cap, u 1, VT (Vq ⟨w.heap.size, 0, Vo⟩), VT (Vq ⟨w.heap.size + 1, 0, Vo⟩), u 4, u 5, u 6, u 7, VQ A rs.length cap, VU VA (rs.length : Int), VU VA (k : Int), u 11, u 12, u 13, u 14, u 15, u 16, u 17, u 18, u 19, u 20, u 21, u 22, u 23, u 24, u 25, u 26, u 27, u 28, u 29, u 30, u 31, u 32, u 33, u 34, u 35, u 36, u 37, u 38, u 39, u 40, u 41, u 42, u 43, u 44, u 45, u 46, u 47, u 48], ds⟩ /\ U9 w A cap rs k W /\ Mk w.heap.size ds W)
    (λa _ => ((rs.length : Int) - VG (a.tmps.getD 10 Vs)).toNat) ?start ?round
  case start =>
    exact ⟨λ_ => Vs, 0, [], VY, rfl, ⟨(Bx.at_ rfl).alloc _, Bx.at_ V5, hr.below (eH _ _ _), eH _ _ _, λj hj => VY⟩, Mk.nil _ _⟩
  case round =>
    rintro a W ⟨u, k, ds, hk, rfl, hJ, hM⟩;by_cases hlt : k < rs.length
    · obtain ⟨b, off, rfl, hB, hcell⟩ := hJ.rg.2.2 VY
      obtain ⟨Ai, ci, hc1, hsl⟩ := hcell k hlt;obtain ⟨hne, hco, hlen⟩ := hok.ring hlt;obtain ⟨ring, hring⟩ : ∃ ring, rs.getD k [] = ring := ⟨_, rfl⟩;rw [hring] at hc1 hsl hne hco hlen;have HRG := Vk hring;have HJ := Vk hJ;have HM := Vk hM;clear hring hcell hJ hM;gi_wp2_with (refine ⟨trivial, ?_⟩; gi_at_call 192; refine (callsIn_wide.2 (kO _ _ _ _)).mono ?_; rintro e w' ⟨rfl, rfl⟩)
      have hzW := HJ.o.sm.lt;have hds : ∀ D, Oz D ∈ ds -> D < (W.alloc (.cells #[VQ Ai ring.length ci] 80)).heap.size := λD hD => by have := HM.o.lt hD; simp; omega
      have hlw : w.heap.size <= (W.alloc (.cells #[VQ Ai ring.length ci] 80)).heap.size := Wj;refine fO (gf := 238) (lb := #[VT (Vq ⟨W.heap.size, 0, Vo⟩)]) rfl (enters_of func238 VZ rfl)
        (jj W.heap.size Ai ci ring VY) (λk x e => by rw [e]; rfl)
        (QH w W.heap.size ds Ai ci ring (kN rs k)) (SV w ds ring) (λj V V' h hs => h.stays hds hs hlw) (λc j V V' h hs => h.stays hds hs hlw) (λj V h => vA h.it h.sl) ?start ?round ?done ?stop
      case start =>
        have hA : Ext W (W.alloc (.cells #[VQ Ai ring.length ci] 80)) := (Below.refl _ _).alloc (Vm _) _;exact ⟨HJ.o.res.alloc _, by rw [show (kN rs k || lQ ring 0) = kN rs k by unfold lQ cC; simp]; exact HJ.o.sm.alloc _, Bx.at_ rfl, hsl.below (hA.mono VY), HM.o.keeps hA.keeps, HJ.o.low.trans (hA.mono VY), λi hi => VY⟩
      case done =>
        intro D V hD hi hK;have hmk := Vk (hi.mks.cons hds hD VY hK);have HI := Vk hi;clear hi hK
        gi_wp2
        refine ⟨⟨λi => match i with | 1 => _ | 4 => _ | 5 => _ | 6 => _ | 7 => _ | 11 => _ | 12 => _ | 13 => _ | 14 => _ | 15 => _ | 16 => _ | 17 => _ | 18 => _ | 19 => _ | 20 => _ | 21 => _ | 22 => _ | 23 => _ | 24 => _ | 25 => _ | 26 => _ | 27 => _ | 28 => _ | 29 => _ | 30 => _ | 31 => _ | 32 => _ | 33 => _ | 34 => _ | 35 => _ | 36 => _ | 37 => _ | 38 => _ | 39 => _ | 40 => _ | 41 => _ | 42 => _ | 43 => _ | 44 => _ | 45 => _ | 46 => _ | 47 => _ | _ => _, k + 1, _, VY, rfl, ⟨HI.o.res, ?_, ?_, HI.o.low, ?_⟩, hmk.o⟩, WC⟩
        · have e : kN rs (k + 1) = (kN rs k || lQ ring ring.length) := by unfold kN; rw [cC, HRG.o]
          rw [e]; exact HI.o.sm
        · exact hr.below HI.o.low
        · intro j hj
          by_cases hjk : j = k
          · rw [hjk, HRG.o]; exact bt HI.o.ok
          · exact HJ.o.ok j VY
      case stop =>
        rintro D c j V hD hj ⟨rfl, hres, hmks, hlow, hbad⟩ hK;have HA := Vk (show fU rs = Vp by
          unfold fU;rw [dH hlt (by rw [HRG.o]; exact dH hj hbad)]; rfl)
        gi_wp2
        refine (hmks.cons hds hD VY hK).leaves (λW' hW' => ?_);have hb := (hres.stays hW').cell;exact ⟨VS Vp, by simp [results, results137, go_sem, hb], by rw [HA.o], hlow.trans hW'.below⟩
      case round =>
        intro l j x V K hj hx hi hK;obtain rfl := hx;have HK := Vk hK;have RA := Vk (ah.new V 227 (jx (er ring j) (aq ring j) (aP ring j)));have EA := Vk (show Ext V (V.alloc (.cells (jx (er ring j) (aq ring j) (aP ring j)).toArray 227)) from (Below.refl _ _).alloc (Vm _) _);have hzv : (W.alloc (.cells #[VQ Ai ring.length ci] 80)).heap.size <= V.heap.size := by have := hi.it.lt; simp; omega
        have HI := Vk hi;clear hK hi;refine cM (aY _ _) VZ ?_;go_wp2_with (refine wpList_store_row rfl 227 (.tmp 7) (.tmp 17) rfl V.heap.size (jx (er ring j) (aq ring j) (aP ring j)).toArray rfl rfl 227 _ (Vy _ _) VZ VZ VZ ?_; rw [fg _ _ _ _ rfl])
        refine cL (HK.o _ _ EA.o (λW2 hs2 hlt2 => ?_));have hi2 := (HI.o.stays hds (EA.o.stays hzv) hlw).stays hds hs2 hlw;have R2 : ah W2 V.heap.size 227 (jx (er ring j) (aq ring j) (aP ring j)) := hs2.cells _ _ _ _ RA.o;have hVl := HI.o.it.lt;clear HK HI EA RA hs2;obtain ⟨hpx, hpy⟩ := jy hco ((j + ring.length - 1) % ring.length);obtain ⟨hox, hoy⟩ := jy hco j;obtain ⟨hbx, hby⟩ := jy hco ((j + 1) % ring.length);rw [<- iZ] at hbx hby;rw [<- zE] at hpx hpy;obtain ⟨own, hown⟩ : ∃ o, aq ring j = o := ⟨_, rfl⟩;obtain ⟨beh, hbeh⟩ : ∃ o, aP ring j = o := ⟨_, rfl⟩;obtain ⟨bef, hbef⟩ : ∃ o, er ring j = o := ⟨_, rfl⟩;have HO := Vk (show sG ring j = (!decide (0 < (own.x - bef.x) * (beh.y - own.y) - (own.y - bef.y) * (beh.x - own.x)) && (own.gable || bef.gable || own.plate != bef.plate)) by unfold sG Gh uU AP mS pR; rw [hown, hbeh, hbef]);have HS := Vk (show (kN rs k || lQ ring (j + 1)) = ((kN rs k || lQ ring j) || !own.gable) by unfold lQ; rw [cC, hown, Bool.or_assoc]);rw [hown] at hox hoy;rw [hbeh] at hbx hby;rw [hbef] at hpx hpy;rw [hown, hbeh, hbef] at R2;rw [hown, hbeh, hbef];have I2 := Vk hi2;obtain ⟨sv, hsv⟩ : ∃ sv, (kN rs k || lQ ring j) = sv := ⟨_, rfl⟩;rw [hsv] at HS;have S2 := hi2.sm;rw [hsv] at S2;have cS := S2.cell;have fS := S2.frozen;have cA := λi => R2.cell i
        have n1 : ¬ V.heap.size = w.heap.size + 1 := VY;have n2 : ¬ w.heap.size + 1 = V.heap.size := VY;have cl := Vk (λW => IM bef own beh W hpx hpy hox hoy hbx hby);obtain ⟨lf, hlf⟩ : ∃ lf, decide (0 < (own.x - bef.x) * (beh.y - own.y) - (own.y - bef.y) * (beh.x - own.x)) = lf := ⟨_, rfl⟩;rw [hlf] at HO;simp only [hlf] at cl;clear hi2 hsv hlf;obtain ⟨g, hg⟩ : ∃ g, own.gable = g := ⟨_, rfl⟩;obtain ⟨bg, hbg⟩ : ∃ g, bef.gable = g := ⟨_, rfl⟩;obtain ⟨pl, hpl⟩ : ∃ g, (own.plate != bef.plate) = g := ⟨_, rfl⟩;rw [hg, hbg, hpl] at HO;rw [hg] at HS;have RF := Vk (λv => R2.dx (p := ⟨w.heap.size + 1, 0, Vo⟩) n2 v);have hit : W.heap.size ≠ w.heap.size + 1 := VY;cases lf <;> cases g <;> cases bg <;> cases pl <;> cases sv
        all_goals first
          | (have HP := Vk (show sG ring j = Vp by rw [HO.o]; rfl)
             gi_wp2_with (first
               | (refine bL (aY _ _) rfl 227 (.tmp 7) rfl V.heap.size rfl 227 _ (0, 0) _ (RF.o _) underlying227 rfl VZ ?_)
               | (refine ⟨trivial, ?_⟩; gi_at_call 200; refine (CallsIn.inRound l (callsIn_wide.2 (cl.o _))).mono ?_; rintro e W3 ⟨rfl, hX3⟩; have cA3 := λi => ((RF.o _).ext hX3).cell i; have RS := (I2.o.res.dx (p := ⟨w.heap.size + 1, 0, Vo⟩) V5 _).stays (hX3.stays (n0 := 0) (Nat.zero_le _)); have c0 := RS.cell; have f0 := RS.frozen))
             exact PI I2.o hX3 hit HS.o HP.o)
          | (have HP := Vk (show sG ring j = Vv by rw [HO.o]; rfl)
             gi_wp2_with (first
               | (refine bL (aY _ _) rfl 227 (.tmp 7) rfl V.heap.size rfl 227 _ (0, 0) _ (RF.o _) underlying227 rfl VZ ?_)
               | (refine ⟨trivial, ?_⟩; gi_at_call 200; refine (CallsIn.inRound l (callsIn_wide.2 (cl.o _))).mono ?_; rintro e W3 ⟨rfl, hX3⟩; have cA3 := λi => ((RF.o _).ext hX3).cell i; have RS := (I2.o.res.dx (p := ⟨w.heap.size + 1, 0, Vo⟩) V5 _).stays (hX3.stays (n0 := 0) (Nat.zero_le _)); have c0 := RS.cell; have f0 := RS.frozen))
             exact P9 I2.o hX3 hit HP.o)
    · have hlt' : decide ((k : Int) < (rs.length : Int)) = Vp := by rw [decide_eq_false_iff_not]; omega
      have c1 := hJ.sm.cell;have c0 := hJ.res.cell;have f0 := hJ.res.frozen;have HJ := Vk hJ;have HM := Vk hM;clear hJ hM;have HE := Vk (show fU rs = kN rs k by
        unfold fU;obtain rfl : k = rs.length := VY;rw [bt HJ.o.ok]; rfl)
      gi_wp2
      refine (HM.o.keeps (KeepsOthers.setCell _ _ _)).leaves (λW' hW' => ?_);have hb := ((HJ.o.res.put (VS (kN rs k))).stays hW').cell;exact ⟨VS (kN rs k), by simp [results, results137, go_sem, hb], by rw [HE.o], (HJ.o.low.setCell (p := ⟨w.heap.size, 0, Vo⟩) (Vm _) _).trans hW'.below⟩
end
section
open Kp
def Jc{w W:Vl}{a b:Nat}(h:Ext ((w.drewN a).drewN b) W):Ext w W:=
 (below_drewN (below_drewN (Below.refl w.heap.size w) a) b).trans h
def dy{P:Program}{Q:Exit->Act->Vl->Prop}{ol:List Oper}{id:Nat}{a:Act}{w:Vl}(n:Nat)(hm:P.follows .mixedOrders=Vv)(hB:Region.lexTailB .any ol.toArray n=Vv)
  (h:∀w2,Ext w w2->wpStill P ol.toArray w2 (λa'=>wpList P ol.toArray Q (ol.drop n) a' w2) (ol.take n) a):(Code.region id ol.toArray Vv).wp P Q a w:=
 wp_region_still_tail n hm hB (h _ (Ext.dr w))
def FY{w W:Vl}{o:Obj}(h:Ext (w.alloc o) W):Ext w W:=((Below.refl _ _).alloc (Vm _) o).trans (h.mono V5)
def rK{P:Program}{ops:Array Oper}{w:Vl}{Q:Act->Prop}{l:List Oper}{a:Act}(h:∀OPS:Array Oper,OPS=ops->wpStill P OPS w Q l a):wpStill P ops w Q l a:=h ops rfl
def xm{OPS:Array Oper}{tmps:Array Vr}{o:Oper}{j d:Nat}{b x:Bool}(hg:o.guard=Vq (j,b))(hd:(OPS[j]?).bind (·.dst)=Vq d)(ht:tmps[d]?=Vq (VS x)):Region.wanted o (yielded OPS tmps)=(x==b):=by
 unfold Region.wanted;rw[hg];have hy:yielded OPS tmps j=Vq x:=by unfold yielded;rw[hd];simp[ht]
 simp[hy]
def qX{OPS:Array Oper}{tmps:Array Vr}{o:Oper}{j d:Nat}{b x:Bool}(hg:o.guard=Vq (j,b))(hd:(OPS[j]?).bind (·.dst)=Vq d)(ht:tmps[d]?=Vq (VS x))(hx:(x==b)=Vp):¬Region.wanted o (yielded OPS tmps)=Vv:=by
 rw[xm hg hd ht,hx];decide
def eP{OPS:Array Oper}{tmps:Array Vr}{o:Oper}{j d:Nat}{b x:Bool}(hg:o.guard=Vq (j,b))(hd:(OPS[j]?).bind (·.dst)=Vq d)(ht:tmps[d]?=Vq (VS x))(hx:(x==b)=Vv):Region.wanted o (yielded OPS tmps)=Vv:=by
 rw[xm hg hd ht,hx]
end
section
open Kp
abbrev Uh(t:Tl):List Vr:=[VU VA t.width,VU VA t.length,VU VA t.lap,VU VA t.tail]
def Fi(t:Tl)(w:Vl):VC prog 73 #[VW (Uh t).toArray] w λe w'=>e=VV (VU VA (dL t))/\Ext w w':=by
 have E0:=Vk (show Ext w (w.alloc (.cells (Uh t).toArray 30)) from(Below.refl _ _).alloc (Vm _) _);cases t1:aO t.width 1 2000
 ·have HR:=Vk (show dL t=2 by unfold dL;rw[t1];rfl);go_enter func73,ntmps73;go_wp2_with(go_at_call 143;go_must(refine(je _ _ _ _).mono ?_);rintro e W1 ⟨rfl,rfl⟩;first|rw[t1]|skip)
  exact Zm
 cases t2:aO t.length 1 2000
 ·have HR:=Vk (show dL t=2 by unfold dL;rw[t1,t2];rfl);go_enter func73,ntmps73;go_wp2_with(go_at_call 143;go_must(refine(je _ _ _ _).mono ?_);rintro e W1 ⟨rfl,rfl⟩;first|rw[t1]|rw[t2]|skip)
  exact Zm
 have hb:1<=t.length/\t.length<=2000:=by unfold aO at t2;simpa using t2
 obtain⟨b1,b2⟩:=hb;cases t3:aO t.lap 0 (t.length-1)
 ·have HR:=Vk (show dL t=2 by unfold dL;rw[t1,t2,t3];rfl);go_enter func73,ntmps73;go_wp2_with(go_at_call 143;go_must(refine(je _ _ _ _).mono ?_);rintro e W1 ⟨rfl,rfl⟩;first|rw[t1]|rw[t2]|rw[t3]|skip)
  exact Zm
 cases t4:aO t.tail 0 1000
 ·have HR:=Vk (show dL t=2 by unfold dL;rw[t1,t2,t3,t4];rfl);exact Zz
 ·have HR:=Vk (show dL t=0 by unfold dL;rw[t1,t2,t3,t4];rfl);exact Zz
end
end Go.Proofs.YtmliacdegmklaaaGreatDoor
