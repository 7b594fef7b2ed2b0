/- ChangeUndone of kingpostlaw58: part 5 of its proof (merged and shortened by program). -/
import Derived.Lib.AppendZeros
import Derived.Test.YtmliacdegmklaaaGreatDoorN02
import Derived.Test.YtmliacdegmklaaaGreatDoorN03
set_option linter.unusedVariables false
set_option linter.unusedSimpArgs false
set_option linter.defProp false
set_option maxHeartbeats 8000000
set_option maxRecDepth 100000
open Go.RowKit Go.Shelf Go.Proofs.Tryz
open Array renaming getElem?_eq_some_iff→VF
open Bool renaming false→Vw,true→VD
open Go renaming World→Vt,Value→Vy,undef→VB,wpOp_step→VE,Calls→VJ,maxLen→VP,TypeId→VR,Addr→VT
open Go.AllReady renaming cons→VO,nil→VU
open Go.Ending renaming returned→V0
open Go.IntKind renaming i64→VH
open Go.IntWalk renaming i64_in→VQ
open Go.Lib renaming hid→Vs
open Go.RowKit renaming intOf→VN,Below→VS
open Go.Value renaming slice→VV,string→VW,bool→VX,pointer→VY,int→VZ,agg→V5,tuple→V6
open Go.World renaming alloc_heap_new→VG,size_alloc→VK
open List renaming getD_eq_getElem?_getD→Vv,getElem?_eq_getElem→VA,length_map→VC,length_append→VM,length→ln
open Nat renaming le_refl→Vu,le_trans→VI,mul_comm→VL
open Option renaming none→Vx,some→Vz
open Go.Proofs.YtmliacdegmklaaaGreatDoor
variable{tmps:Array Vy}{pv:Bool}{xs xs' ar rc:List Vy}{k cap i n0 b p q d j n base s it rb ci ab B0:Nat}{A Ai:Option VT}{α:Type}{t e e':VR}{w w' W W' W2 w1 W0 W3:Vt}{u v' X Y:Vy}
namespace Go.Proofs.YtmliacdegmklaaaGreatDoor
section
open Kp
attribute [local go_sem] Oper.semAt_some
def bJ(k:Nat)(w:Vt)(B:Nat)(A:Option VT)(cap:Nat)(rows:List (List Vy)):Prop:=
 ln rows<=cap/\cap<=VP/\(0<ln rows->∃b off,A=Vz ⟨b,off,Vx⟩/\b<B/\∀i,i<ln rows->∀j,j<k->w.cell? ⟨b,off+k*i+j,Vx⟩=(rows.getD i [])[j]?)
theorem bJ.below{B:Nat}{rows:List (List Vy)}(h:bJ k w B A cap rows)(hb:VS B w w'):bJ k w' B A cap rows:=by
 obtain⟨h1,h2,h3⟩:=h;refine⟨h1,h2,λhn=> ?_⟩;obtain⟨b,off,e,hB,hc⟩:=h3 hn;exact⟨b,off,e,hB,λi hi j hj=>(hb.cell hB).trans (hc i hi j hj)⟩
theorem bJ.more{B B':Nat}{rows:List (List Vy)}(h:bJ k w B A cap rows)(hb:B<=B'):bJ k w B' A cap rows:=by
 obtain⟨h1,h2,h3⟩:=h;refine⟨h1,h2,λhn=> ?_⟩;obtain⟨b,off,e,hB,hc⟩:=h3 hn;exact⟨b,off,e,V7,hc⟩
abbrev aD(r:List Sd):List (List Vy):=r.map ni
theorem ke{r:List Sd}(hi:i<ln r):(aD r).getD i []=ni (aq r i):=by
 unfold aq;exact Y4
def U2(Bs:Nat)(A:Option VT)(cap:Nat)(r:List Sd)(W:Vt):Prop:=
 W.cell? ⟨Bs,0,Vx⟩=Vz (VV A (ln r) cap)/\∃B,bJ 7 W B A cap (aD r)
def UG(r:List Sd)(k:Nat)(x:Array Vy):Prop:=x=#[VZ VH (k:Int),V5 (jz (eL r k) (aq r k) (aQ r k)).toArray]
def rZ(r:List Sd)(k p1 p2 lp b off:Nat)(A:Option VT)(cap:Nat):Nat->Vy
 |0=> .func (.yield lp) #[] #[]
 |1=> VZ VH (k:Int)
 |2=> VV A (ln r) cap
 |3=> VZ VH (k:Int)
 |4=> VZ VH (ln r:Int)
 |5=> VZ VH ((k:Int)+ln r)
 |6=> VZ VH ((k:Int)+ln r-1)
 |7=> VZ VH (ln r:Int)
 |8=> VZ VH (p1:Int)
 |9=> VY (Vz ⟨b,off+7*p1,Vx⟩)
 |10=> V5 (ni (aq r p1)).toArray
 |11=> VV A (ln r) cap
 |12=> VZ VH (k:Int)
 |13=> VY (Vz ⟨b,off+7*k,Vx⟩)
 |14=> V5 (ni (aq r k)).toArray
 |15=> VV A (ln r) cap
 |16=> VZ VH (k:Int)
 |17=> VZ VH ((k:Int)+1)
 |18=> VZ VH (ln r:Int)
 |19=> VZ VH (p2:Int)
 |20=> VY (Vz ⟨b,off+7*p2,Vx⟩)
 |21=> V5 (ni (aq r p2)).toArray
 |_=> V5 (jz (aq r p1) (aq r k) (aq r p2)).toArray
def jy(Bs:Nat)(A:Option VT)(cap:Nat)(r:List Sd)(hn:ln r<=1000000):
  CE prog 238 #[VY (Vz ⟨Bs,0,Vx⟩)] (UG r) (U2 Bs A cap r) (ln r):=by
 intro m lp J Jx W hM hJ hJx hY h0;refine callsIn_of_wp func238 rfl trivial ?_ rfl;have hc0:=(hM 0 W h0).1;simp only[ntmps238,List.size_toArray,List.length_cons,List.length_nil,Nat.reduceAdd,Nat.reduceSub,Array.replicate_succ,Array.replicate_zero,List.push_toArray,List.append_toArray,List.nil_append,List.cons_append]
 gi_wp2
 gi_loopw [9] (λi wr=>∃k:Nat,k<=ln r/\i=VZ VH (k:Int)/\J k wr) (λi _=>((ln r:Int)-VN i).toNat)
 case atStart=>exact⟨0,V7,Wa,h0⟩
 case round=>
  obtain⟨k,hk,rfl,hj⟩:=hrel;obtain⟨hc,B,hsl⟩:=hM k wr hj;by_cases hlt:k<ln r
  ·skip;obtain⟨h1,h2,h3⟩:=hsl;rw[VC] at h1 h3;obtain⟨b,off,rfl,hB,hcell⟩:=h3 V7;obtain⟨p1,lA⟩:∃p1,(k+ln r-1)%ln r=p1:=⟨_,rfl⟩;obtain⟨p2,qw⟩:∃p2,(k+1)%ln r=p2:=⟨_,rfl⟩;have m1:p1<ln r:=by rw[<-lA];exact Nat.mod_lt _ V7
   have m2:p2<ln r:=by rw[<-qw];exact Nat.mod_lt _ V7
   have q1:((k:Int)+ln r-1).tmod (ln r:Int)=(p1:Int):=by rw[Int.tmod_eq_emod_of_nonneg V7,show((k:Int)+ln r-1)=((k+ln r-1:Nat):Int) by omega,<-lA];rfl
   have q2:((k:Int)+1).tmod (ln r:Int)=(p2:Int):=by rw[Int.tmod_eq_emod_of_nonneg V7,<-qw];rfl
   have HX:=Vs (show UG r k #[VZ VH (k:Int),V5 (jz (aq r p1) (aq r k) (aq r p2)).toArray] by unfold UG eL aQ;rw[lA,qw];rfl);clear lA qw;clear hcell h3;unfold VP at h2
   gi_wp2
   refine wpIn_region_any V8 (mR (Ct _) V8 23 (λvs=>⟨#[.func (.yield lp) #[] #[],VY (Vz ⟨Bs,0,Vx⟩),VB,VZ VH (ln r:Int),VZ VH (k:Int),VV (Vz ⟨b,off,Vx⟩) (ln r) cap,VZ VH (ln r:Int),VV (Vz ⟨b,off,Vx⟩) (ln r) cap,VZ VH (ln r:Int),VZ VH (k:Int),VX VD,VZ VH (k:Int),vs 0,vs 1,vs 2,vs 3,vs 4,vs 5,vs 6,vs 7,vs 8,vs 9,vs 10,vs 11,vs 12,vs 13,vs 14,vs 15,vs 16,vs 17,vs 18,vs 19,vs 20,vs 21,vs 22,u35,u36,u37],[]⟩)
    (λw'=>Ext wr w') (λi v _=>v=rZ r k p1 p2 lp b off (Vz ⟨b,off,Vx⟩) cap i) (λ_=>Vw) V8 (λ_ _ h k=>h.tr k) (λ_ _ _ _ h _=>h) (λ_ _ _ _ h=>Wb) ?step ?tail (λi=>match i with|0=>u12|1=>u13|2=>u14|3=>u15|4=>u16|5=>u17|6=>u18|7=>u19|8=>u20|9=>u21|10=>u22|11=>u23|12=>u24|13=>u25|14=>u26|15=>u27|16=>u28|17=>u29|18=>u30|19=>u31|20=>u32|21=>u33|_=>u34) _ (Ext.dr wr))
   case step=>
    intro i vs w' hi hD hd;have w1:VH.wrap ((k:Int)+ln r)=(k:Int)+ln r:=VQ _ V7;have w2:VH.wrap ((k:Int)+ln r-1)=(k:Int)+ln r-1:=VQ _ V7;have w3:VH.wrap ((k:Int)+1)=(k:Int)+1:=VQ _ V7;have q4:¬r=[]:=by intro h;rw[h] at hlt;simp at hlt
    have q3:((ln r:Int)==0)=Vw:=Wj;obtain⟨hcw,B2,_,_,h4⟩:=hM k w' (hJ _ _ _ hj hD);obtain⟨b2,off2,e2,_,hcell⟩:=h4 (by rw[VC];omega);rw[VC] at hcell;obtain⟨rfl,rfl⟩:b2=b/\off2=off:=by injection e2 with e2;injection e2 with e3 e4;exact⟨e3.symm,e4.symm⟩
    have c1:=λj (hj:j<7)=>(hcell _ m1 j hj).trans (by rw[ke m1])
    have c2:=λj (hj:j<7)=>(hcell _ hlt j hj).trans (by rw[ke hlt])
    have c3:=λj (hj:j<7)=>(hcell _ m2 j hj).trans (by rw[ke m2])
    have c10:=c1 0 V9;have c20:=c2 0 V9;have c30:=c3 0 V9;rw[Nat.add_zero] at c10 c20 c30;clear hcell h4 e2;rcases(show i=0\/i=1\/i=2\/i=3\/i=4\/i=5\/i=6\/i=7\/i=8\/i=9\/i=10\/i=11\/i=12\/i=13\/i=14\/i=15\/i=16\/i=17\/i=18\/i=19\/i=20\/i=21\/i=22 by omega) with rfl|rfl|rfl|rfl|rfl|rfl|rfl|rfl|rfl|rfl|rfl|rfl|rfl|rfl|rfl|rfl|rfl|rfl|rfl|rfl|rfl|rfl|rfl<;>clear hi
    ·exact YZ
    ·exact YZ
    ·exact YZ
    ·exact YZ
    ·exact YZ
    ·refine VE rfl (λK hK=> ?_);have d3:=hd 3 V8;have d4:=hd 4 V8;simp only[rZ] at d3 d4;go_simp;exact hK _ _ ⟨_,by simp[d3,d4,rZ],Ext.aC _,rfl,λh=>Wb⟩
    ·refine VE rfl (λK hK=> ?_);have d5:=hd 5 V8;simp only[rZ] at d5;go_simp;exact hK _ _ ⟨_,by simp[d5,rZ],Ext.aC _,rfl,λh=>Wb⟩
    ·exact YZ
    ·refine VE rfl (λK hK=> ?_);have d6:=hd 6 V8;have d7:=hd 7 V8;simp only[rZ] at d6 d7;go_simp;exact hK _ _ ⟨_,by simp[d6,d7,rZ],Ext.aC _,rfl,λh=>Wb⟩
    ·refine VE rfl (λK hK=> ?_);have d2:=hd 2 V8;have d8:=hd 8 V8;simp only[rZ] at d2 d8;go_simp;exact hK _ _ ⟨_,by simp[d2,d8,rZ],Ext.aC _,rfl,λh=>Wb⟩
    ·refine VE rfl (λK hK=> ?_);have d9:=hd 9 V8;simp only[rZ] at d9;go_simp;exact hK _ _ ⟨_,by simp[d9,rZ],Ext.aC _,rfl,λh=>Wb⟩
    ·exact YZ
    ·exact YZ
    ·refine VE rfl (λK hK=> ?_);have d11:=hd 11 V8;have d12:=hd 12 V8;simp only[rZ] at d11 d12;go_simp;exact hK _ _ ⟨_,by simp[d11,d12,rZ],Ext.aC _,rfl,λh=>Wb⟩
    ·refine VE rfl (λK hK=> ?_);have d13:=hd 13 V8;simp only[rZ] at d13;go_simp;exact hK _ _ ⟨_,by simp[d13,rZ],Ext.aC _,rfl,λh=>Wb⟩
    ·exact YZ
    ·exact YZ
    ·refine VE rfl (λK hK=> ?_);have d16:=hd 16 V8;simp only[rZ] at d16;go_simp;exact hK _ _ ⟨_,by simp[d16,rZ],Ext.aC _,rfl,λh=>Wb⟩
    ·exact YZ
    ·refine VE rfl (λK hK=> ?_);have d17:=hd 17 V8;have d18:=hd 18 V8;simp only[rZ] at d17 d18;go_simp;exact hK _ _ ⟨_,by simp[d17,d18,rZ],Ext.aC _,rfl,λh=>Wb⟩
    ·refine VE rfl (λK hK=> ?_);have d15:=hd 15 V8;have d19:=hd 19 V8;simp only[rZ] at d15 d19;go_simp;exact hK _ _ ⟨_,by simp[d15,d19,rZ],Ext.aC _,rfl,λh=>Wb⟩
    ·refine VE rfl (λK hK=> ?_);have d20:=hd 20 V8;simp only[rZ] at d20;go_simp;exact hK _ _ ⟨_,by simp[d20,rZ],Ext.aC _,rfl,λh=>Wb⟩
    ·refine VE rfl (λK hK=> ?_);have d10:=hd 10 V8;have d14:=hd 14 V8;have d21:=hd 21 V8;simp only[rZ] at d10 d14 d21;go_simp;exact hK _ _ ⟨_,by simp[d10,d14,d21,rZ],Ext.aC _,rfl,λh=>Wb⟩
   case tail=>
    intro vs w' hD hv _;have v0:=hv 0 V9;have v1:=hv 1 V9;have v22:=hv 22 V9;simp only[rZ] at v0 v1 v22;clear hv;obtain⟨fn,tmps,assign,body,hy,hR⟩:=hY k _ w' hlt HX.o (hJ _ _ _ hj hD);simp only[List.drop_succ_cons,List.drop_zero,v0,v1,v22];exact Yk
  ·obtain rfl:k=ln r:=V7;exact Yg
def kn(w:Vt)(A:Option VT)(n cap:Nat):
  VJ prog 192 #[VV A n cap] w λe w'=>e=V0 (.func (.func 238) #[] #[VY (Vz ⟨w.heap.size,0,Vx⟩)])/\w'=w.alloc (.cells #[VV A n cap] 80):=by
 go_enter func192,ntmps192;go_wp2;go_ret;exact⟨rfl,rfl⟩
end
section
open Kp
attribute [local go_sem] Oper.semAt_some
def de(k:Nat)(rows:List (List Vy)):Prop:=∀r∈rows,ln r=k
theorem bC{f:α->List Vy}(h:∀x,(f x).length=k)(l:List α):de k (l.map f):=λr hr=>by
 obtain⟨x,_,rfl⟩:=List.mem_map.1 hr;exact h x
theorem bJ.stays{B:Nat}{rows:List (List Vy)}(h:bJ k w B A cap rows)(hw:de k rows)(hs:aF n0 w w'):bJ k w' B A cap rows:=by
 obtain⟨h1,h2,h3⟩:=h;refine⟨h1,h2,λhn=> ?_⟩;obtain⟨b,off,e,hB,hc⟩:=h3 hn;refine⟨b,off,e,hB,λi hi j hj=> ?_⟩;have h5:=hc i hi j hj;have h6:(rows.getD i []).length=k:=by
  rw[Vv,VA hi];exact hw _ (List.getElem_mem hi)
 rw[VA (by rw[h6];exact hj)] at h5⊢;exact hs.cell h5
def dG(r:List Sd):de 7 (aD r):=bC (f:=ni) (λ_=>rfl) r
def Ms(r:List Sd):Prop:=∀s∈r,co s.x/\co s.y
def jD{r:List Sd}(h:Ms r)(i:Nat):co (aq r i).x/\co (aq r i).y:=by
 unfold aq;by_cases hi:i<ln r
 ·rw[Vv,VA hi];exact h _ (List.getElem_mem hi)
 ·rw[Vv,List.getElem?_eq_none V7];decide
def yV(r:List Sd)(i:Nat):eL r i=aq r ((i+ln r-1)%ln r):=rfl
def je(r:List Sd)(i:Nat):aQ r i=aq r ((i+1)%ln r):=rfl
theorem tX{Bs B:Nat}{r:List Sd}(h:Bx W Bs 80 (VV A (ln r) cap))(hs:bJ 7 W B A cap (aD r)):U2 Bs A cap r W:=⟨h.cell,B,hs⟩
theorem Ext.stays(h:Ext w w')(hn:n0<=w.heap.size):aF n0 w w':=aF.aZ h hn
theorem Ext.keeps(h:Ext w w'):KeepsOthers w w':=⟨h.size,λb o hb _=>(h.block b (VF.1 hb).1).trans hb⟩
structure T7(w:Vt)(A:Option VT)(cap:Nat)(r:List Sd)(k:Nat)(W:Vt):Prop where
 sum:Bx W w.heap.size 3 (VZ VH (rj (λi=>(aq r i).x*(aQ r i).y-(aq r i).y*(aQ r i).x) k))
 it:Bx W (w.heap.size+1) 80 (VV A (ln r) cap)
 sl:bJ 7 W w.heap.size A cap (aD r)
 low:VS w.heap.size w W
theorem T7.stays{r:List Sd}(h:T7 w A cap r k W)(hs:aF n0 W W')(hn:w.heap.size<=n0):T7 w A cap r k W':=
 ⟨h.sum.stays hs,h.it.stays hs,h.sl.stays (dG r) hs,h.low.trans (hs.below.mono hn)⟩
def FN(s c:Int)(own beh:Sd)(bl:Nat):Nat->Vy
 |0=> VZ VH s
 |1=> VY (Vz ⟨bl,7,Vx⟩)
 |2=> V5 (ni own).toArray
 |3=> V5 (lF own.x own.y).toArray
 |4=> VY (Vz ⟨bl,14,Vx⟩)
 |5=> V5 (ni beh).toArray
 |6=> V5 (lF beh.x beh.y).toArray
 |7=> VZ VH c
 |_=> VZ VH (s+c)
def Jd(w:Vt)(A:Option VT)(cap:Nat)(r:List Sd)(hr:bJ 7 w w.heap.size A cap (aD r))(hc:Ms r)(hn:ln r<=1000):
  VJ prog 198 #[VV A (ln r) cap] w λe w'=>e=V0 (VZ VH (qx r))/\Ext w w':=by
 refine(callsIn_wide (n:=9)).1 (callsIn_of_wp_marks func198 rfl trivial ?_);simp only[ntmps198,List.size_toArray,List.length_cons,List.length_nil,Nat.reduceAdd,Nat.reduceSub,Array.replicate_succ,Array.replicate_zero,List.push_toArray,List.append_toArray,List.nil_append,List.cons_append];gi_wp2_with(refine⟨trivial,?_⟩;gi_at_call 192;refine(callsIn_wide.2 (kn _ _ _ _)).mono ?_;rintro e w' ⟨rfl,rfl⟩)
 refine gy (gf:=238) (lb:=#[VY (Vz ⟨w.heap.size+1,0,Vx⟩)]) rfl (enters_of func238 V8 rfl)
  (jy (w.heap.size+1) A cap r V7) (λk x e=>XB)
  (T7 w A cap r) (λ_ _ _=>False) (λk W W' h hs=>h.stays hs Wf) (λc k W W' h hs=>h) (λk W h=>tX h.it h.sl) ?start ?round ?done ?stop
 case stop=>intro D c k W hD hk h;exact h.elim
 case start=>exact⟨(Bx.at_ rfl).alloc _,Bx.at_ Wa,hr.below (fh _ _ _),fh _ _ _⟩
 case done=>
  intro D W hD hi hK;have c0:=hi.sum.cell;have HL:=Vs hi.low;clear hi
  gi_wp2
  refine⟨Wa,.inl ⟨_,_,rfl,run_takeDeferred hK,?_⟩⟩;have hs:=aF.putObj (n0:=w.heap.size) (.deferred Vx) hK rfl Xj;exact⟨VZ VH (qx r),by simp[results,results198,go_sem,qx],rfl,HL.o.trans hs.below⟩
 case round=>
  intro l k x W K hk hx hi hK;obtain rfl:=hx;have HK:=Vs hK;have RA:=Vs (ai.new W 227 (jz (eL r k) (aq r k) (aQ r k)));have EA:=Vs (show Ext W (W.alloc (.cells (jz (eL r k) (aq r k) (aQ r k)).toArray 227)) from(Below.refl _ _).alloc (Vu _) _);have HI:=Vs hi;clear hK hi;refine cK (aX _ _) V8 ?_;go_wp2_with(refine wpList_store_row rfl 227 (.tmp 5) (.tmp 9) rfl W.heap.size (jz (eL r k) (aq r k) (aQ r k)).toArray rfl rfl 227 _ (VG _ _) V8 V8 V8 ?_;rw[fN _ _ _ _ rfl])
  refine cL (HK.o _ _ EA.o (λW2 hs2 hlt2=> ?_));have hi2:=(HI.o.stays (EA.o.stays (n0:=w.heap.size) (by have:=HI.o.low.size;omega)) (Vu _)).stays hs2 Wf;have R2:ai W2 W.heap.size 227 (jz (eL r k) (aq r k) (aQ r k)):=hs2.cells _ _ _ _ RA.o;clear HK HI EA RA hs2;obtain⟨hox,hoy⟩:=jD hc k;obtain⟨hbx,hby⟩:=jD hc ((k+1)%ln r);rw[<-je] at hbx hby;obtain⟨own,hown⟩:∃o,aq r k=o:=⟨_,rfl⟩;obtain⟨beh,hbeh⟩:∃o,aQ r k=o:=⟨_,rfl⟩;have HS:=Vs (show rj (λi=>(aq r i).x*(aQ r i).y-(aq r i).y*(aQ r i).x) (k+1)=rj (λi=>(aq r i).x*(aQ r i).y-(aq r i).y*(aQ r i).x) k+(own.x*beh.y-own.y*beh.x) by rw[rj,hown,hbeh]);have hsb:=Fv (n:=k) (m:=8589934592) (f:=λi=>(aq r i).x*(aQ r i).y-(aq r i).y*(aQ r i).x) (λi _=>by
   obtain⟨a1,a2⟩:=jD hc i;obtain⟨b1,b2⟩:=jD hc ((i+1)%ln r);rw[<-je] at b1 b2;have m1:=zE (a:=(aq r i).x) (b:=(aQ r i).y) (m:=65536) (n:=65536) V7 V7;have m2:=zE (a:=(aq r i).y) (b:=(aQ r i).x) (m:=65536) (n:=65536) V7 V7;simp only[Int.reduceMul] at m1 m2;show _<=(aq r i).x*(aQ r i).y-(aq r i).y*(aQ r i).x/\(aq r i).x*(aQ r i).y-(aq r i).y*(aQ r i).x<=_;omega)
  have hcb: -8589934592<=own.x*beh.y-own.y*beh.x/\own.x*beh.y-own.y*beh.x<=8589934592:=by
   rw[hown] at hox hoy;rw[hbeh] at hbx hby;have m1:=zE (a:=own.x) (b:=beh.y) (m:=65536) (n:=65536) V7 V7;have m2:=zE (a:=own.y) (b:=beh.x) (m:=65536) (n:=65536) V7 V7;simp only[Int.reduceMul] at m1 m2;omega
  have S2:=hi2.sum;obtain⟨s,hs⟩:∃s,rj (λi=>(aq r i).x*(aQ r i).y-(aq r i).y*(aQ r i).x) k=s:=⟨_,rfl⟩;rw[hs] at HS hsb S2;have hsw:VH.wrap (s+(own.x*beh.y-own.y*beh.x))=s+(own.x*beh.y-own.y*beh.x):=VQ _ V7;rw[hown] at hox hoy;rw[hbeh] at hbx hby;rw[hown,hbeh] at R2;obtain⟨c,hcc⟩:∃c,own.x*beh.y-own.y*beh.x=c:=⟨_,rfl⟩;rw[hcc] at HS hsw;rw[hown,hbeh];have I2:=Vs hi2;clear hsb hcb hs hi2 hn
  gi_wp2
  refine wpIn_region_any V8 (mR (aX _ _) V8 9 (λvs=>⟨#[VV A (ln r) cap,VB,VZ VH 0,VY (Vz ⟨w.heap.size,0,Vx⟩),VB,VY (Vz ⟨W.heap.size,0,Vx⟩),VV A (ln r) cap,.func (.func 238) #[] #[VY (Vz ⟨w.heap.size+1,0,Vx⟩)],VZ VH (k:Int),V5 (jz (eL r k) own beh).toArray,vs 0,vs 1,vs 2,vs 3,vs 4,vs 5,vs 6,vs 7,vs 8,VB],[]⟩)
   (λw'=>Ext W2 w') (λi v _=>v=FN s c own beh W.heap.size i) (λ_=>Vw) V8 (λ_ _ h k=>h.tr k) (λ_ _ _ _ h _=>h) (λ_ _ _ _ h=>Wb) ?step ?tail (λ_=>VB) _ (Ext.dr W2))
  case step=>
   intro i vs w' hi hD hd;have cA:=λi=>(R2.ext hD).cell i
   have cS:=(S2.stays (hD.stays (n0:=0) (Nat.zero_le _))).cell;rcases(show i=0\/i=1\/i=2\/i=3\/i=4\/i=5\/i=6\/i=7\/i=8 by omega) with rfl|rfl|rfl|rfl|rfl|rfl|rfl|rfl|rfl<;>clear hi
   ·exact YZ
   ·exact YZ
   ·refine VE rfl (λK hK=> ?_);have d1:=hd 1 V8;simp only[FN] at d1;go_simp;exact hK _ _ ⟨_,by simp[d1,FN],Ext.aC _,rfl,λh=>Wb⟩
   ·refine VE rfl (λK hK=> ?_);have d2:=hd 2 V8;simp only[FN] at d2;go_simp;refine(bE own _).mono ?_;rintro e W1 ⟨rfl,hX⟩;exact hK _ _ ⟨_,by simp[d2,FN],hX,rfl,λh=>Wb⟩
   ·exact YZ
   ·refine VE rfl (λK hK=> ?_);have d4:=hd 4 V8;simp only[FN] at d4;go_simp;exact hK _ _ ⟨_,by simp[d4,FN],Ext.aC _,rfl,λh=>Wb⟩
   ·refine VE rfl (λK hK=> ?_);have d5:=hd 5 V8;simp only[FN] at d5;go_simp;refine(bE beh _).mono ?_;rintro e W1 ⟨rfl,hX⟩;exact hK _ _ ⟨_,by simp[d5,FN],hX,rfl,λh=>Wb⟩
   ·refine VE rfl (λK hK=> ?_);have d3:=hd 3 V8;have d6:=hd 6 V8;simp only[FN] at d3 d6;go_simp;refine(rD own.x own.y beh.x beh.y _ V7 V7 V7 V7).mono ?_;rintro e W1 ⟨rfl,hX⟩;rw[hcc];exact hK _ _ ⟨_,by simp[d3,d6,FN],hX,rfl,λh=>Wb⟩
   ·refine VE rfl (λK hK=> ?_);have d0:=hd 0 V8;have d7:=hd 7 V8;simp only[FN] at d0 d7;go_simp;exact hK _ _ ⟨_,by simp[d0,d7,FN],Ext.aC _,rfl,λh=>Wb⟩
  case tail=>
   intro vs w' hD hv _;have v8:=hv 8 V9;simp only[FN] at v8;clear hv;have S3:=S2.stays (hD.stays (n0:=0) (Nat.zero_le _));have cS:=S3.cell;have fS:=S3.frozen;simp only[List.drop_succ_cons,List.drop_zero,v8];have HD:=Vs hD;clear hD
   gi_wp2
   have I3:=I2.o.stays (HD.o.stays (n0:=w.heap.size) (by have:=I2.o.low.size;omega)) (Vu _);refine⟨HD.o.keeps.trans (KeepsOthers.setCell _ _ _),?_,?_,?_,?_⟩
   ·rw[HS.o];exact S3.put _
   ·exact I3.it.dz Wa _
   ·exact I3.sl.below ((Below.refl _ _).setCell (p:=⟨w.heap.size,0,Vx⟩) (Vu _) _)
   ·exact I3.low.setCell (p:=⟨w.heap.size,0,Vx⟩) (Vu _) _
end
section
open Kp
attribute [local go_sem] Oper.semAt_some
theorem Y5x{p:Prop}(h:p:=by
 have HP:=Vs (show Kp.kS r x y k=Vw by rw[HO.o,t1,t2,t3,t4];rfl)
 gi_wp2_with(first
  |(refine⟨trivial,?_⟩;gi_at_call 193;refine(CallsIn.inRound l (callsIn_wide.2 (bE own _))).mono ?_;rintro e W3 ⟨rfl,hX3⟩;have E3:Ext W2 (W3.alloc (.cells (lF own.x own.y).toArray 229)):=hX3.tr ((Below.refl _ _).alloc (Vu _) _);have Q3:=ai.new W3 229 (lF own.x own.y))
  |(refine bN (aX _ _) rfl 227 (.tmp 7) rfl W.heap.size rfl 227 _ (0,0) _ (R2.ext E3) underlying227 rfl V8 ?_)
  |(refine⟨trivial,?_⟩;gi_at_call 195;refine(CallsIn.inRound l (callsIn_wide.2 (jm (eL r k) own beh _ hox hoy hbx hby))).mono ?_;rintro e W5 ⟨rfl,hX5⟩;have E5:=E3.tr hX5;have cA5:=λi=>(R2.ext E5).cell i;have cP5:=λi=>(P2.ext E5).cell i;have cQ5:=λi=>(Q3.ext hX5).cell i;have S5:=S2.stays (E5.stays (n0:=0) (Nat.zero_le _));have cS5:=S5.cell;have fS5:=S5.frozen))
 exact⟨E5.keeps,tJ I2.o HP.o E5⟩):p:=h
theorem Y6x{p:Prop}(h:p:=by
 have HP:=Vs (show Kp.kS r x y k=VD by rw[HO.o,t1,t2,t3,t4];rfl)
 gi_wp2_with(first
  |(refine⟨trivial,?_⟩;gi_at_call 193;refine(CallsIn.inRound l (callsIn_wide.2 (bE own _))).mono ?_;rintro e W3 ⟨rfl,hX3⟩;have E3:Ext W2 (W3.alloc (.cells (lF own.x own.y).toArray 229)):=hX3.tr ((Below.refl _ _).alloc (Vu _) _);have Q3:=ai.new W3 229 (lF own.x own.y))
  |(refine bN (aX _ _) rfl 227 (.tmp 7) rfl W.heap.size rfl 227 _ (0,0) _ (R2.ext E3) underlying227 rfl V8 ?_)
  |(refine⟨trivial,?_⟩;gi_at_call 195;refine(CallsIn.inRound l (callsIn_wide.2 (jm (eL r k) own beh _ hox hoy hbx hby))).mono ?_;rintro e W5 ⟨rfl,hX5⟩;have E5:=E3.tr hX5;have cA5:=λi=>(R2.ext E5).cell i;have cP5:=λi=>(P2.ext E5).cell i;have cQ5:=λi=>(Q3.ext hX5).cell i;have S5:=S2.stays (E5.stays (n0:=0) (Nat.zero_le _));have cS5:=S5.cell;have fS5:=S5.frozen))
 refine⟨E5.keeps.trans (KeepsOthers.setCell _ _ _),?_⟩
 have I5:=I2.o.stays (E5.stays (n0:=w.heap.size) (by have:=I2.o.low.size;omega)) (Vu _)
 refine⟨I5.p.dz Wa _,?_,I5.it.dz Wa _,?_,?_⟩
 ·rw[nf,if_pos HP.o,HOD.o];exact S5.put _
 ·exact I5.sl.below ((Below.refl _ _).setCell (p:=⟨w.heap.size+1,0,Vx⟩) Wa _)
 ·exact I5.low.setCell (p:=⟨w.heap.size+1,0,Vx⟩) Wa _):p:=h
structure Sq(w:Vt)(A:Option VT)(cap:Nat)(r:List Sd)(x y:Int)(k:Nat)(W:Vt):Prop where
 p:ai W w.heap.size 229 (lF x y)
 odd:Bx W (w.heap.size+1) 4 (VX (nf (Kp.kS r x y) k))
 it:Bx W (w.heap.size+2) 80 (VV A r.length cap)
 sl:bJ 7 W w.heap.size A cap (aD r)
 low:VS w.heap.size w W
theorem ai.stays{l:List Vy}(h:ai W b t l)(hs:aF n0 W W'):ai W' b t l:=hs.cells _ _ _ _ h
def Sq.stays{w:Vt}{A:Option VT}{cap:Nat}{r:List Sd}{x y:Int}{k n0:Nat}{W W':Vt}(h:Sq w A cap r x y k W)(hs:aF n0 W W')(hn:w.heap.size<=n0):Sq w A cap r x y k W':=
 ⟨h.p.stays hs,h.odd.stays hs,h.it.stays hs,h.sl.stays (dG r) hs,h.low.trans (hs.below.mono hn)⟩
def tJ{w:Vt}{A:Option VT}{cap:Nat}{r:List Sd}{x y:Int}{k:Nat}{W W':Vt}(h:Sq w A cap r x y k W)(hp:Kp.kS r x y k=Vw)(hx:Ext W W'):Sq w A cap r x y (k+1) W':=by
 have h':=h.stays (hx.stays (n0:=w.heap.size) (by have:=h.low.size;omega)) (Vu _);refine⟨h'.p,?_,h'.it,h'.sl,h'.low⟩;rw[nf,hp,if_neg V9];exact h'.odd
def Jt(a b:Int)(W:Vt):Sem.run prog (Instr.field 229 (V5 (lF a b).toArray) 0) W= .ok (VZ VH a) W:=V8
def rB(w:Vt)(A:Option VT)(cap:Nat)(r:List Sd)(x y:Int)(hr:bJ 7 w w.heap.size A cap (aD r))(hc:Ms r)(hn:r.length<=1000):
  VJ prog 199 #[VV A r.length cap,V5 (lF x y).toArray] w λe w'=>e=V0 (VX (jY r x y))/\Ext w w':=by
 refine(callsIn_wide (n:=9)).1 (callsIn_of_wp_marks func199 rfl trivial ?_);simp only[ntmps199,List.size_toArray,List.length_cons,List.length_nil,Nat.reduceAdd,Nat.reduceSub,Array.replicate_succ,Array.replicate_zero,List.push_toArray,List.append_toArray,List.nil_append,List.cons_append];gi_wp2_with(refine⟨trivial,?_⟩;gi_at_call 192;refine(callsIn_wide.2 (kn _ _ _ _)).mono ?_;rintro e w' ⟨rfl,rfl⟩)
 refine gy (gf:=238) (lb:=#[VY (Vz ⟨w.heap.size+2,0,Vx⟩)]) rfl (enters_of func238 V8 rfl)
  (jy (w.heap.size+2) A cap r V7) (λk x e=>XB)
  (Sq w A cap r x y) (λ_ _ _=>False) (λk W W' h hs=>h.stays hs Wf) (λc k W W' h hs=>h) (λk W h=>tX h.it h.sl) ?start ?round ?done ?stop
 case stop=>intro D c k W hD hk h;exact h.elim
 case start=>exact⟨((ai.new _ _ _).ext (fh _ _ _)),((Bx.at_ Wa).alloc _),Bx.at_ Wa,hr.below (AU _ _ _ _),AU _ _ _ _⟩
 case done=>
  intro D W hD hi hK;have c0:=hi.odd.cell;have HL:=Vs hi.low;clear hi
  gi_wp2
  refine⟨Wa,.inl ⟨_,_,rfl,run_takeDeferred hK,?_⟩⟩;have hs:=aF.putObj (n0:=w.heap.size) (.deferred Vx) hK rfl Xj;exact⟨VX (jY r x y),by simp[results,results199,go_sem,jY],rfl,HL.o.trans hs.below⟩
 case round=>
  intro l k z W K hk hx hi hK;obtain rfl:=hx;have HK:=Vs hK;have RA:=Vs (ai.new W 227 (jz (eL r k) (aq r k) (aQ r k)));have EA:=Vs (show Ext W (W.alloc (.cells (jz (eL r k) (aq r k) (aQ r k)).toArray 227)) from(Below.refl _ _).alloc (Vu _) _);have HI:=Vs hi;clear hK hi;refine cK (aX _ _) V8 ?_;go_wp2_with(refine wpList_store_row rfl 227 (.tmp 7) (.tmp 12) rfl W.heap.size (jz (eL r k) (aq r k) (aQ r k)).toArray rfl rfl 227 _ (VG _ _) V8 V8 V8 ?_;rw[fN _ _ _ _ rfl])
  refine cL (HK.o _ _ EA.o (λW2 hs2 hlt2=> ?_));have hi2:=(HI.o.stays (EA.o.stays (n0:=w.heap.size) (by have:=HI.o.low.size;omega)) (Vu _)).stays hs2 Wf;have R2:ai W2 W.heap.size 227 (jz (eL r k) (aq r k) (aQ r k)):=hs2.cells _ _ _ _ RA.o;have hWl:=HI.o.it.lt;clear HK HI EA RA hs2;obtain⟨hox,hoy⟩:=jD hc k;obtain⟨hbx,hby⟩:=jD hc ((k+1)%r.length);rw[<-je] at hbx hby;obtain⟨own,hown⟩:∃o,aq r k=o:=⟨_,rfl⟩;obtain⟨beh,hbeh⟩:∃o,aQ r k=o:=⟨_,rfl⟩;have HO:=Vs (show Kp.kS r x y k=(((beh.x-own.x)==0)&&decide (x<own.x)&&(decide (y<own.y) !=decide (y<beh.y))) by unfold Kp.kS mT;rw[hown,hbeh]);rw[hown] at hox hoy;rw[hbeh] at hbx hby;rw[hown,hbeh] at R2;rw[hown,hbeh];have I2:=Vs hi2;obtain⟨o,ho⟩:∃o,nf (Kp.kS r x y) k=o:=⟨_,rfl⟩;have HOD:=Vs ho;have S2:=hi2.odd;rw[ho] at S2;have P2:=hi2.p;clear hi2 ho hn;have cA:=λi=>R2.cell i
  have hf:=λW=>Jt (beh.x-own.x) (beh.y-own.y) W
  cases t1:((beh.x-own.x)==0)
  ·have HP:=Vs (show Kp.kS r x y k=Vw by rw[HO.o,t1];rfl);exact Y7
  cases t2:decide (x<own.x)
  ·have HP:=Vs (show Kp.kS r x y k=Vw by rw[HO.o,t1,t2];rfl);exact Y7
  cases t3:decide (y<own.y)<;>cases t4:decide (y<beh.y)
  ·exact Y5x
  ·exact Y6x
  ·exact Y6x
  ·exact Y5x
end
section
open Kp
attribute [local go_sem] Oper.semAt_some
structure QA(w:Vt)(A:Option VT)(cap:Nat)(r:List Sd)(k:Nat)(W:Vt):Prop where
 res:Bx W w.heap.size 4 (VX Vw)
 it:Bx W (w.heap.size+1) 80 (VV A (ln r) cap)
 sl:bJ 7 W w.heap.size A cap (aD r)
 low:VS w.heap.size w W
 ok:∀j,j<k->nW r j=Vw
theorem QA.stays{r:List Sd}(h:QA w A cap r k W)(hs:aF n0 W W')(hn:w.heap.size<=n0):QA w A cap r k W':=
 ⟨h.res.stays hs,h.it.stays hs,h.sl.stays (dG r) hs,h.low.trans (hs.below.mono hn),h.ok⟩
structure Sj(w:Vt)(r:List Sd)(c:Code)(k:Nat)(W:Vt):Prop where
 ret:c= .ret
 res:Bx W w.heap.size 4 (VX Vw)
 low:VS w.heap.size w W
 bad:nW r k=VD
theorem Sj.stays{r:List Sd}{c:Code}(h:Sj w r c k W)(hs:aF n0 W W')(hn:w.heap.size<=n0):Sj w r c k W':=
 ⟨h.ret,h.res.stays hs,h.low.trans (hs.below.mono hn),h.bad⟩
def CB(bef own beh:Sd)(bl lo:Nat):Nat->Vy->Vt->Prop
 |0,v,_=>v=VY (Vz ⟨bl,0,Vx⟩)
 |1,v,_=>v=V5 (ni bef).toArray
 |2,v,_=>v=V5 (lF bef.x bef.y).toArray
 |3,v,_=>v=VY (Vz ⟨bl,7,Vx⟩)
 |4,v,_=>v=V5 (ni own).toArray
 |5,v,_=>v=V5 (lF own.x own.y).toArray
 |6,v,_=>v=V5 (lF (own.x-bef.x) (own.y-bef.y)).toArray
 |7,v,_=>v=V5 (jz bef own beh).toArray
 |8,v,_=>v=V5 (lF (beh.x-own.x) (beh.y-own.y)).toArray
 |_,v,w=>gZ lo v w
theorem N9{bef own beh:Sd}{bl lo i:Nat}{v:Vy}(h:CB bef own beh bl lo i v w)(hx:Ext w w'):CB bef own beh bl lo i v w':=by
 unfold CB at *;split at h<;>first|exact h|exact gZ.ext h hx
abbrev four(W:Vt)(p q:Nat)(a b c d:Vy):Vt:=(((W.setCell ⟨p,0,Vx⟩ a).setCell ⟨p,1,Vx⟩ b).setCell ⟨q,0,Vx⟩ c).setCell ⟨q,1,Vx⟩ d
def vT(W:Vt)(p q:Nat)(a b c d:Vy):KeepsOthers W (four W p q a b c d):=((((KeepsOthers.setCell _ _ _).trans (KeepsOthers.setCell _ _ _)).trans (KeepsOthers.setCell _ _ _)).trans (KeepsOthers.setCell _ _ _))
theorem pB{B:Nat}(hp:B<=p)(hq:B<=q)(a b c d:Vy):VS B W (four W p q a b c d):=
 ((((Below.refl _ _).setCell (p:=⟨p,0,Vx⟩) hp _).setCell (p:=⟨p,1,Vx⟩) hp _).setCell (p:=⟨q,0,Vx⟩) hq _).setCell (p:=⟨q,1,Vx⟩) hq _
theorem Ab{v:Vy}(h:Bx W b t v)(hp:b<p)(hq:b<q)(x y z u:Vy):Bx (four W p q x y z u) b t v:=
 (((h.dz (p:=⟨p,0,Vx⟩) Wf _).dz (p:=⟨p,1,Vx⟩) Wf _).dz (p:=⟨q,0,Vx⟩) Wf _).dz (p:=⟨q,1,Vx⟩) Wf _
theorem P8{r:List Sd}{a b c d:Vy}{act:Act}(h:QA w A cap r k W)(hx:Ext W2 W)(hs:nW r k=Vw)(hp:W2.heap.size<=p)(hq:W2.heap.size<=q)(hz:w.heap.size+1<W2.heap.size):
  mu (QA w A cap r) (Sj w r) k W2 .normal act (four W p q a b c d):=by
 refine⟨hx.keeps.trans (vT _ _ _ _ _ _ _),Ab h.res V7 V7 _ _ _ _,Ab h.it V7 V7 _ _ _ _,h.sl.below (pB V7 V7 _ _ _ _),h.low.trans (pB V7 V7 _ _ _ _),λj hj=> ?_⟩;by_cases hjk:j=k
 ·rw[hjk];exact hs
 ·exact h.ok j V7
theorem Pt{r:List Sd}{a b c d:Vy}{act:Act}(h:QA w A cap r k W)(hx:Ext W2 W)(hs:nW r k=VD)(hp:W2.heap.size<=p)(hq:W2.heap.size<=q)(hz:w.heap.size+1<W2.heap.size):
  mu (QA w A cap r) (Sj w r) k W2 .ret act ((four W p q a b c d).setCell ⟨w.heap.size,0,Vx⟩ (VX Vw)):=by
 refine⟨(hx.keeps.trans (vT _ _ _ _ _ _ _)).trans (KeepsOthers.setCell _ _ _),rfl,(Ab h.res V7 V7 _ _ _ _).put _,(h.low.trans (pB V7 V7 _ _ _ _)).setCell (p:=⟨w.heap.size,0,Vx⟩) (Vu _) _,hs⟩
def wC(w:Vt)(A:Option VT)(cap:Nat)(r:List Sd)(hn:ln r<4):
  VJ prog 134 #[VV A (ln r) cap] w λe w'=>e=V0 (VX (cH r))/\Ext w w':=by
 have HR:=Vs (show cH r=Vw by unfold cH;rw[show decide (4<=ln r)=Vw by rw[decide_eq_false_iff_not];omega];rfl);go_enter func134,ntmps134;go_wp2;exact bodyPost_ret (v:= VX Vw) (by simp[results,results134,go_sem]) rfl ⟨by rw[HR.o],(Below.refl _ _).alloc (Vu _) _⟩
def yz (w : Vt) (A : Option VT) (cap : Nat) (r : List Sd) (hr : bJ 7 w w.heap.size A cap (aD r)) (hc : Ms r) (hn : ln r <= 1000) (h4 : 4 <= ln r) :
    VJ prog 134 #[VV A (ln r) cap] w λe w' => e =V0 (VX (cH r)) /\ Ext w w' := by
  have HR := Vs (show cH r = !cz (nW r) (ln r) by unfold cH; rw [show decide (4 <= ln r) = VD by rw [decide_eq_true_eq]; omega]; rfl);refine (callsIn_wide (n := 9)).1 (callsIn_of_wp_marks func134 rfl trivial ?_);simp only [ntmps134, List.size_toArray, List.length_cons, List.length_nil, Nat.reduceAdd, Nat.reduceSub, Array.replicate_succ, Array.replicate_zero, List.push_toArray, List.append_toArray, List.nil_append, List.cons_append];gi_wp2_with (refine ⟨trivial, ?_⟩; gi_at_call 192; refine (callsIn_wide.2 (kn _ _ _ _)).mono ?_; rintro e w' ⟨rfl, rfl⟩)
  refine gy (gf := 238) (lb := #[VY (Vz ⟨w.heap.size + 1, 0, Vx⟩)]) rfl (enters_of func238 V8 rfl)
    (jy (w.heap.size + 1) A cap r V7) (λk x e => by rw [e]; rfl)
    (QA w A cap r) (Sj w r) (λk W W' h hs => h.stays hs Wp) (λc k W W' h hs => h.stays hs Wp) (λk W h => tX h.it h.sl) ?start ?round ?done ?stop
  case start => exact ⟨(Bx.at_ rfl).alloc _, Bx.at_ Wa, hr.below (fh _ _ _), fh _ _ _, λj hj => V7⟩
  case done =>
    intro D W hD hi hK;have c0 := hi.res.cell;have f0 := hi.res.frozen;have HI := Vs hi;have HA := Vs (show cH r = VD by rw [HR.o, bh hi.ok]; rfl);clear hi
    gi_wp2
    have hk2 := (KeepsOthers.setCell W ⟨w.heap.size, 0, Vx⟩ (VX VD)).same D _ hK rfl;refine ⟨Wa, .inl ⟨_, _, rfl, run_takeDeferred hk2, ?_⟩⟩;have hs := aF.putObj (n0 := w.heap.size) (.deferred Vx) hk2 rfl (by simp at hD; omega);have hb := ((HI.o.res.put (VX VD)).stays hs).cell;exact ⟨VX VD, by simp [results, results134, go_sem, hb], by rw [HA.o], (HI.o.low.setCell (p := ⟨w.heap.size, 0, Vx⟩) (Vu _) _).trans hs.below⟩
  case stop =>
    rintro D c k W hD hk ⟨rfl, hres, hlow, hbad⟩ hK;have HA := Vs (show cH r = Vw by rw [HR.o, dI hk hbad]; rfl)
    gi_wp2
    refine ⟨Wa, .inl ⟨_, _, rfl, run_takeDeferred hK, ?_⟩⟩;have hs := aF.putObj (n0 := w.heap.size) (.deferred Vx) hK rfl (by simp at hD; omega);have hb := (hres.stays hs).cell;exact ⟨VX Vw, by simp [results, results134, go_sem, hb], by rw [HA.o], hlow.trans hs.below⟩
  case round =>
    intro l k x W K hk hx hi hK;obtain rfl := hx;have HK := Vs hK;have RA := Vs (ai.new W 227 (jz (eL r k) (aq r k) (aQ r k)));have EA := Vs (show Ext W (W.alloc (.cells (jz (eL r k) (aq r k) (aQ r k)).toArray 227)) from (Below.refl _ _).alloc (Vu _) _);have HI := Vs hi;clear hK hi;refine cK (aX _ _) V8 ?_;go_wp2_with (refine wpList_store_row rfl 227 (.tmp 4) (.tmp 13) rfl W.heap.size (jz (eL r k) (aq r k) (aQ r k)).toArray rfl rfl 227 _ (VG _ _) V8 V8 V8 ?_; rw [fN _ _ _ _ rfl])
    refine cL (HK.o _ _ EA.o (λW2 hs2 hlt2 => ?_));have hi2 := (HI.o.stays (EA.o.stays (n0 := w.heap.size) (by have := HI.o.low.size; omega)) (Vu _)).stays hs2 Wp;have R2 : ai W2 W.heap.size 227 (jz (eL r k) (aq r k) (aQ r k)) := hs2.cells _ _ _ _ RA.o;clear HK HI EA RA hs2;obtain ⟨hpx, hpy⟩ := jD hc ((k + ln r - 1) % ln r);obtain ⟨hox, hoy⟩ := jD hc k;obtain ⟨hbx, hby⟩ := jD hc ((k + 1) % ln r);rw [<- je] at hbx hby;rw [<- yV] at hpx hpy;obtain ⟨own, hown⟩ : ∃ o, aq r k = o := ⟨_, rfl⟩;obtain ⟨beh, hbeh⟩ : ∃ o, aQ r k = o := ⟨_, rfl⟩;obtain ⟨bef, hbef⟩ : ∃ o, eL r k = o := ⟨_, rfl⟩;have HO := Vs (show nW r k = ((((beh.x - own.x) == 0) == ((beh.y - own.y) == 0)) || (((own.x - bef.x) == 0) == ((beh.x - own.x) == 0))) by unfold nW mT pF uX; rw [hown, hbeh, hbef]);rw [hown] at hox hoy;rw [hbeh] at hbx hby;rw [hbef] at hpx hpy;rw [hown, hbeh, hbef] at R2;rw [hown, hbeh, hbef];have I2 := Vs hi2;have hz := hi2.it.lt;clear hi2 hn
    gi_wp2
    refine wpIn_region_any V8 (mR (aX _ _) V8 11 (λvs => ⟨#[VV A (ln r) cap, VB, VY (Vz ⟨w.heap.size, 0, Vx⟩), VB, VY (Vz ⟨W.heap.size, 0, Vx⟩), vs 9, vs 10, VV A (ln r) cap, VZ VH (ln r : Int), VX (decide ((ln r : Int) < 4)), VV A (ln r) cap, .func (.func 238) #[] #[VY (Vz ⟨w.heap.size + 1, 0, Vx⟩)], VZ VH (k : Int), V5 (jz bef own beh).toArray, vs 0, vs 1, vs 2, vs 3, vs 4, vs 5, vs 6, vs 7, vs 8, VB, VB, VB, VB, VB, VB, VB, VB, VB, VB, VB, VB, VB, VB, VB, VB], []⟩)
      (λw' => Ext W2 w') (CB bef own beh W.heap.size W2.heap.size) (λi => i == 9 || i == 10) V8 (λ_ _ h k => h.tr k) (λ_ _ _ _ h k => N9 h k) ?fr ?step ?tail (λ_ => VB) _ (Ext.dr W2))
    case fr =>
      intro i v w' hi hf hv;simp only [Bool.or_eq_true, beq_iff_eq] at hf;rcases hf with rfl | rfl <;> exact gZ.lt hv
    case step =>
      intro i vs w' hi hD hd;have cA := λi => (R2.ext hD).cell i
      rcases (show i = 0 \/ i = 1 \/ i = 2 \/ i = 3 \/ i = 4 \/ i = 5 \/ i = 6 \/ i = 7 \/ i = 8 \/ i = 9 \/ i = 10 by omega) with rfl | rfl | rfl | rfl | rfl | rfl | rfl | rfl | rfl | rfl | rfl <;> clear hi
      ·exact Y9
      · refine VE rfl (λK hK => ?_)
        have d0 := hd 0 V8;simp only [CB] at d0;go_simp;exact hK _ _ ⟨_, by simp [d0, CB], Ext.aC _, rfl, λh => Wb⟩
      · refine VE rfl (λK hK => ?_)
        have d1 := hd 1 V8;simp only [CB] at d1;go_simp;refine (bE bef _).mono ?_;rintro e W1 ⟨rfl, hX⟩;exact hK _ _ ⟨_, by simp [d1, CB], hX, rfl, λh => Wb⟩
      ·exact Y9
      · refine VE rfl (λK hK => ?_)
        have d3 := hd 3 V8;simp only [CB] at d3;go_simp;exact hK _ _ ⟨_, by simp [d3, CB], Ext.aC _, rfl, λh => Wb⟩
      · refine VE rfl (λK hK => ?_)
        have d4 := hd 4 V8;simp only [CB] at d4;go_simp;refine (bE own _).mono ?_;rintro e W1 ⟨rfl, hX⟩;exact hK _ _ ⟨_, by simp [d4, CB], hX, rfl, λh => Wb⟩
      · refine VE rfl (λK hK => ?_)
        have d2 := hd 2 V8;have d5 := hd 5 V8;simp only [CB] at d2 d5;go_simp;refine (uS _ _ _ _ _ hpx hpy hox hoy).mono ?_;rintro e W1 ⟨rfl, hX⟩;exact hK _ _ ⟨_, by simp [d2, d5, CB], hX, rfl, λh => Wb⟩
      · refine kG rfl rfl ?_
        exact wp_load_row 227 (.tmp 4) rfl W.heap.size rfl 227 (jz bef own beh).toArray (0, 0) _ (R2.ext hD) underlying227 rfl V8 ⟨_, rfl, Ext.aC _, rfl, λh => Wb⟩
      · refine VE rfl (λK hK => ?_)
        have d7 := hd 7 V8;simp only [CB] at d7;go_simp;refine (jm bef own beh _ hox hoy hbx hby).mono ?_;rintro e W1 ⟨rfl, hX⟩;exact hK _ _ ⟨_, by simp [d7, CB], hX, rfl, λh => Wb⟩
      ·exact Y8
      ·exact Y8
    case tail =>
      intro vs w' hD hv hne;have v6 := hv 6 V9;have v8 := hv 8 V9;obtain ⟨p, e9, l9, r9⟩ := hv 9 V9;obtain ⟨q, e10, l10, r10⟩ := hv 10 V9;have hpq := hne 9 10 V9 V9 V9 rfl rfl;simp only [CB] at v6 v8;clear hv hne;rw [e9, e10] at hpq;have hpq' : p ≠ q := λh => hpq (by rw [h])
      have n1 : ¬ q = p := λh => hpq' h.symm
      clear hpq;have I3 := Vs (I2.o.stays (hD.stays (n0 := w.heap.size) (by have := I2.o.low.size; omega)) (Vu _));have hE := Vs hD;have cp := λi => r9.cell i
      have cq := λi => r10.cell i
      have fp := λi => r9.frozen i
      have fq := λi => r10.frozen i
      have cr := I3.o.res.cell;have fr := I3.o.res.frozen;have n2 : ¬ w.heap.size = p := V7;have n3 : ¬ w.heap.size = q := V7;have n4 : ¬ p = w.heap.size := V7;have n5 : ¬ q = w.heap.size := V7;have n6 : ¬ w.heap.size + 1 = p := V7;have n7 : ¬ w.heap.size + 1 = q := V7;simp only [List.drop_succ_cons, List.drop_zero, e9, e10, v6, v8];clear e9 e10 v6 v8 hD;cases t1 : ((beh.x - own.x) == 0) <;> cases t2 : ((beh.y - own.y) == 0) <;> cases t3 : ((own.x - bef.x) == 0)
      all_goals first
        | (have HP := Vs (show nW r k = Vw by rw [HO.o, t1, t2, t3]; rfl)
           gi_wp2
           exact P8 I3.o hE.o HP.o l9 l10 hz)
        | (have HP := Vs (show nW r k = VD by rw [HO.o, t1, t2, t3]; rfl)
           gi_wp2
           exact Pt I3.o hE.o HP.o l9 l10 hz)
end
section
open Kp
def CZ(w:Vt)(A:Option VT)(cap:Nat)(r:List Sd)(hr:bJ 7 w w.heap.size A cap (aD r))(hc:Ms r)(hn:ln r<=1000):
  VJ prog 134 #[VV A (ln r) cap] w λe w'=>e=V0 (VX (cH r))/\Ext w w':=by
 by_cases h4:4<=ln r
 ·exact yz w A cap r hr hc hn h4
 ·exact wC w A cap r V7
def fj(w:Vt)(B:Nat)(A:Option VT)(cap:Nat)(rs:List (List Sd)):Prop:=
 ln rs<=cap/\cap<=VP/\(0<ln rs->∃b off,A=Vz ⟨b,off,Vx⟩/\b<B/\∀i,i<ln rs->∃Ai ci,w.cell? ⟨b,off+i,Vx⟩=Vz (VV Ai (rs.getD i []).length ci)/\bJ 7 w B Ai ci (aD (rs.getD i [])))
theorem fj.below{B:Nat}{rs:List (List Sd)}(h:fj w B A cap rs)(hb:VS B w w'):fj w' B A cap rs:=by
 obtain⟨h1,h2,h3⟩:=h;refine⟨h1,h2,λhn=> ?_⟩;obtain⟨b,off,e,hB,hc⟩:=h3 hn;refine⟨b,off,e,hB,λi hi=> ?_⟩;obtain⟨Ai,ci,h4,h5⟩:=hc i hi;exact⟨Ai,ci,(hb.cell hB).trans h4,h5.below hb⟩
theorem fj.more{B B':Nat}{rs:List (List Sd)}(h:fj w B A cap rs)(hb:B<=B'):fj w B' A cap rs:=by
 exact Za
structure BE(rs:List (List Sd)):Prop where
 ne:∀r∈rs,r≠[]
 co:∀r∈rs,Ms r
 len:ln rs.flatten<=24
theorem BE.ring{rs:List (List Sd)}(h:BE rs)(hi:i<ln rs):rs.getD i []≠[]/\Ms (rs.getD i [])/\(rs.getD i []).length<=24:=by
 have e:rs.getD i []=rs[i]:=by rw[Vv,VA hi];rfl
 rw[e];refine⟨h.ne _ (List.getElem_mem hi),h.co _ (List.getElem_mem hi),VI ?_ h.len⟩;exact(List.sublist_flatten_of_mem (List.getElem_mem hi)).length_le
def BE.count{rs:List (List Sd)}(h:BE rs):ln rs<=24:=by
 have key:∀l:List (List Sd),(∀r∈l,r≠[])->ln l<=ln l.flatten:=by
  intro l
  induction l with
  |nil=>intro _;simp
  |cons a l ih=>
   intro hl;have h1:=ih λr hr=>hl r (List.mem_cons_of_mem _ hr)
   have h2:0<ln a:=List.length_pos_iff.2 (hl a Wa);rw[List.flatten_cons,VM,List.length_cons];omega
 exact VI (key rs h.ne) h.len
def zO(rs:List (List Sd))(i k:Nat):Bool:= !(k==i||i==0)&&(jY (rs.getD k []) (aq (rs.getD i []) 0).x (aq (rs.getD i []) 0).y !=(k==0))
def OS(rs:List (List Sd))(i:Nat):Ib rs i=((decide (0<qx (rs.getD i [])) !=(i==0))||cz (zO rs i) (ln rs)):=rfl
structure Vl(w:Vt)(rs:List (List Sd))(i:Vy)(wr:Vt):Prop where
 ex:∃k:Nat,k<=ln rs/\i=VZ VH (k:Int)/\∀j,j<k->Ib rs j=Vw
 low:Ext w wr
structure Ta(w:Vt)(rs:List (List Sd))(i:Nat)(k:Vy)(wr:Vt):Prop where
 ex:∃m:Nat,m<=ln rs/\k=VZ VH (m:Int)/\∀j,j<m->zO rs i j=Vw
 low:Ext w wr
def Bi(w:Vt)(A:Option VT)(cap:Nat)(rs:List (List Sd))(hr:fj w w.heap.size A cap rs)(hok:BE rs):
  VJ prog 136 #[VV A (ln rs) cap] w λe w'=>e=V0 (VX (fD rs))/\Ext w w':=by
 have h1:=hr.1;have h2:=hr.2.1;unfold VP at h2;have hcnt:=hok.count;have HR:=Vs hr;clear hr;go_enter func136,ntmps136;go_wp2;go_loopw [9] (λi wr=>Vl w rs i wr) (λi _=>((ln rs:Int)-VN i).toNat)
 case atStart=>exact⟨⟨0,V7,rfl,λj hj=>V7⟩,Below.refl _ _⟩
 case round=>
  obtain⟨⟨i,hi,rfl,hall⟩,hlow⟩:=hrel;have HLOW:=Vs hlow;have HALL:=Vs hall;clear hlow hall;by_cases hlt:i<ln rs
  ·obtain⟨b,off,rfl,hB,hcell⟩:=(HR.o.below HLOW.o).2.2 V7;obtain⟨Ai,ci,hc1,hsl⟩:=hcell i hlt;obtain⟨hne,hco,hlen⟩:=hok.ring hlt;have hz:=HLOW.o.size;obtain⟨ring,hring⟩:∃ring,rs.getD i []=ring:=⟨_,rfl⟩;rw[hring] at hc1 hsl hne hco hlen;have HRG:=Vs hring;have HOR:=Vs (show Ib rs i=((decide (0<qx ring) !=(i==0))||cz (zO rs i) (ln rs)) by rw[OS,hring]);clear hring;have ca:=Vs (Jd wr Ai ci ring (hsl.more hz) hco V7);clear hcell;obtain⟨d,hd⟩:∃d,decide (0<qx ring)=d:=⟨_,rfl⟩;obtain⟨e,he⟩:∃e,(i==0)=e:=⟨_,rfl⟩;have tz:((i:Int)==0)=e:=by rw[<-he,Bool.eq_iff_iff];simp only[beq_iff_eq];omega
   have HE:=Vs he;clear he;by_cases hde:d=e
   ·have HF:=Vs (show(decide (0<qx ring) !=(i==0))=Vw by rw[hd,HE.o,hde];simp);subst hde;go_wp2_with(go_at_call 198;go_must(refine ca.o.mono ?_);rintro e W1 ⟨rfl,hX1⟩)
    go_loopw [22] (λk wq=>Ta wr rs i k wq) (λk _=>((ln rs:Int)-VN k).toNat)
    case atStart=>exact⟨⟨0,V7,rfl,λj hj=>V7⟩,hX1⟩
    case round=>
     obtain⟨⟨k,hk,rfl,hall2⟩,hlow2⟩:=hrel;have HA2:=Vs hall2;have HL2:=Vs hlow2;clear hall2 hlow2;have HWL:=Vs (HLOW.o.tr HL2.o);by_cases hlk:k<ln rs
     ·obtain⟨b',off',e',hB',hcell⟩:=(HR.o.below HWL.o).2.2 V7;obtain⟨rfl,rfl⟩:b'=b/\off'=off:=by injection e' with e';injection e' with e3 e4;exact⟨e3.symm,e4.symm⟩
      obtain⟨Ak,ck,hc2,hsl2⟩:=hcell k hlk;obtain⟨hne2,hco2,hlen2⟩:=hok.ring hlk;have hz2:=HWL.o.size;obtain⟨oth,hoth⟩:∃oth,rs.getD k []=oth:=⟨_,rfl⟩;rw[hoth] at hc2 hsl2 hne2 hco2 hlen2;have HOP:=Vs (show zO rs i k=(!(k==i||i==0)&&(jY oth (aq ring 0).x (aq ring 0).y !=(k==0))) by unfold zO;rw[hoth,HRG.o]);have hpos:0<ln ring:=List.length_pos_iff.2 hne;obtain⟨ba,oa,rfl,_,hca⟩:=(hsl.below (HL2.o.mono hz)).2.2 (by rw[VC];exact hpos);have c0:=λj (hj:j<7)=>(hca 0 (by rw[VC];exact hpos) j hj).trans (by rw[ke hpos])
      clear hoth hcell e' hca;simp only[Nat.mul_zero,Nat.add_zero] at c0;have c00:=c0 0 V9;rw[Nat.add_zero] at c00;obtain⟨f,hf⟩:∃f,(k==i)=f:=⟨_,rfl⟩;have tf:((k:Int)==(i:Int))=f:=by rw[<-hf,Bool.eq_iff_iff];simp only[beq_iff_eq];omega
      obtain⟨g,hg⟩:∃g,(k==0)=g:=⟨_,rfl⟩;have tg:((k:Int)==0)=g:=by rw[<-hg,Bool.eq_iff_iff];simp only[beq_iff_eq];omega
      rw[hf,HE.o,hg] at HOP;clear hf hg;have HNX:=Vs (λ(hz:zO rs i k=Vw) (W:Vt) (hW:Ext wr W)=>show Ta _ rs i (VZ VH ((k:Int)+1)) W from⟨⟨k+1,V7,Wa,λj hj=>by
       by_cases hjk:j=k
       ·rw[hjk];exact hz
       ·exact HA2.o j V7⟩,HL2.o.tr hW⟩)
      cases f with
      |true=>
       exact Zc
      |false=>
       cases d with
       |true=>
        exact Zc
       |false=>
        obtain⟨o,ho⟩:∃o,aq ring 0=o:=⟨_,rfl⟩;rw[ho] at c0 c00 HOP;clear ho;by_cases hin:jY oth o.x o.y=g
        ·have HZ:=Vs (show zO rs i k=Vw by rw[HOP.o,hin];simp);clear HOP;go_wp2_with(first
          |(go_at_call 193;go_must(refine(bE o _).mono ?_);rintro e V1 ⟨rfl,hV1⟩;have ci2:=Vs (rB V1 Ak ck oth o.x o.y ((hsl2.below (hV1.mono hz2)).more (VI hz2 hV1.size)) hco2 V7);rw[hin] at ci2)
          |(go_at_call 199;go_must(refine ci2.o.mono ?_);rintro e V2 ⟨rfl,hV2⟩))
         refine⟨HNX.o HZ.o _ (hV1.tr hV2),Wc⟩
        ·have HP:=Vs (show fD rs=Vw by unfold fD;rw[dI hlt (by rw[HOR.o,HF.o,dI hlk (by rw[HOP.o];simpa using hin)];rfl)];rfl);obtain⟨q,hq⟩:∃q,jY oth o.x o.y=q:=⟨_,rfl⟩;rw[hq] at hin;cases q<;>cases g<;>first|exact absurd rfl hin|skip
         all_goals
          clear hin HOP;go_wp2_with(first
           |(go_at_call 193;go_must(refine(bE o _).mono ?_);rintro e V1 ⟨rfl,hV1⟩;have ci2:=Vs (rB V1 Ak ck oth o.x o.y ((hsl2.below (hV1.mono hz2)).more (VI hz2 hV1.size)) hco2 V7);rw[hq] at ci2)
           |(go_at_call 199;go_must(refine ci2.o.mono ?_);rintro e V2 ⟨rfl,hV2⟩))
          go_ret;exact⟨by rw[HP.o];rfl,HWL.o.tr (hV1.tr hV2)⟩
     ·have HZ:=Vs (show Ib rs i=Vw by rw[HOR.o,HF.o,bh (λj hj=>HA2.o j V7)];rfl);have hlk':decide ((k:Int)<(ln rs:Int))=Vw:=Wd;go_wp2;refine⟨⟨⟨i+1,V7,Wa,λj hj=> ?_⟩,HWL.o⟩,Wc⟩;by_cases hji:j=i
      ·rw[hji];exact HZ.o
      ·exact HALL.o j V7
   ·have hde':(d !=e)=VD:=by simpa using hde
    have HP:=Vs (show fD rs=Vw by unfold fD;rw[dI hlt (by rw[HOR.o,hd,HE.o,hde'];rfl)];rfl);clear hde;cases d with
    |false=>
     cases e with
     |false=>cases hde'
     |true=>
      exact Zb
    |true=>
     cases e with
     |true=>cases hde'
     |false=>
      exact Zb
  ·have HA:=Vs (show fD rs=VD by unfold fD;rw[bh (λj hj=>HALL.o j V7)];rfl);have hlt':decide ((i:Int)<(ln rs:Int))=Vw:=Wd;go_wp2;go_ret;exact⟨by rw[HA.o];rfl,HLOW.o⟩
end
section
open Kp
theorem bt{rows:List (List Vy)}(hw:de k rows):ln rows.flatten=ln rows*k:=by
 induction rows with
 |nil=>simp
 |cons r rows ih=>
  rw[List.flatten_cons,VM,ih (λx hx=>hw x (List.mem_cons_of_mem _ hx)),hw r Wa,List.length_cons,Nat.add_mul,Nat.one_mul,Nat.add_comm]
theorem Gr{rows:List (List Vy)}(hw:de k rows)(hi:i<ln rows)(hj:j<k):rows.flatten[k*i+j]?=(rows.getD i [])[j]?:=by
 induction rows generalizing i with
 |nil=>simp at hi
 |cons r rows ih=>
  have hr:ln r=k:=hw r Wa;rw[List.flatten_cons];cases i with
  |zero=>
   rw[Nat.mul_zero,Nat.zero_add,List.getElem?_append_left V7];rfl
  |succ i=>
   have e:k*(i+1)+j=ln r+(k*i+j):=by rw[hr,Nat.mul_add,Nat.mul_one];omega
   rw[e,List.getElem?_append_right V7,Nat.add_sub_cancel_left,ih (λx hx=>hw x (List.mem_cons_of_mem _ hx)) Xl]
   rfl
theorem Fm(hk:0<k)(hj:j<n*k):∃i m,i<n/\m<k/\j=k*i+m:=
 ⟨j/k,j%k,(Nat.div_lt_iff_lt_mul hk).2 hj,Nat.mod_lt _ hk,(Nat.div_add_mod j k).symm⟩
theorem bJ.cells{B:Nat}{b off cap:Nat}{rows:List (List Vy)}(h:bJ k w B (Vz ⟨b,off,Vx⟩) cap rows)(hw:de k rows)(hk:0<k):
  ∀j u,rows.flatten[j]?=Vz u->w.cell? ((⟨b,off,Vx⟩:VT).add j)=Vz u:=by
 intro j u hj;have hlt:j<ln rows.flatten:=(List.getElem?_eq_some_iff.1 hj).1;rw[bt hw] at hlt;obtain⟨i,m,hi,hm,rfl⟩:=Fm hk hlt;obtain⟨b',off',e,_,hc⟩:=h.2.2 V7;obtain⟨rfl,rfl⟩:b=b'/\off=off':=Xh;have:=hc i hi m hm;rw[<-Gr hw hi hm,hj] at this;rw[Addr.add_lit,<-Nat.add_assoc];exact this
theorem aK{v:Vy}{rows:List (List Vy)}(h:w.ownsRow base e k v n rows.flatten)(hn:ln rows=n)(hw:de k rows):
  ∃A cap,v=VV A n cap/\bJ k w w.heap.size A cap rows:=by
 subst hn;obtain⟨hl,⟨rfl,h0⟩|⟨g,cap,cur,rfl,hb,hh,h1,h2,h3,h4⟩⟩:=h
 ·exact YP
 ·refine⟨_,cap,rfl,h1,h2,λhp=>⟨g,0,rfl,(VF.1 hh).1,λi hi j hj=> ?_⟩⟩;rw[<-Gr hw hi hj,<-h4];have hlt:k*i+j<ln rows*k:=by
   have:k*(i+1)<=k*ln rows:=Nat.mul_le_mul_left _ hi;rw[Nat.mul_add,Nat.mul_one] at this;rw[VL (ln rows) k];omega
  rw[List.getElem?_take,if_pos hlt,Nat.zero_add];simp[World.cell?,hh]
end
section
open Kp
def jF(p:Nat->Bool):Nat->Int
 |0=> -1
 |n+1=>if jF p n= -1 then(if p n then(n:Int) else -1) else jF p n
theorem xn{p:Nat->Bool}(h:∀i,i<n->p i=Vw):jF p n= -1:=by
 induction n with
 |zero=>rfl
 |succ n ih=>rw[jF,if_pos (ih λi hi=>h i V7),h n V7];rfl
theorem PI{p:Nat->Bool}(hk:k<n)(h:∀i,i<k->p i=Vw)(hp:p k=VD):jF p n=(k:Int):=by
 induction n with
 |zero=>omega
 |succ n ih=>
  rw[jF];by_cases hkn:k=n
  ·subst hkn;rw[if_pos (xn h),if_pos hp]
  ·rw[ih V7,if_neg V7]
def Mq(p:Nat->Bool)(n:Nat):decide (0<=jF p n)=cz p n:=by
 induction n with
 |zero=>rfl
 |succ n ih=>
  rw[jF,cz,<-ih];by_cases h:jF p n= -1
  ·rw[if_pos h,h];cases p n
   ·rfl
   ·show decide ((0:Int)<=(n:Int))=VD;rw[decide_eq_true_eq];omega
  ·rw[if_neg h];have:∀m,jF p m= -1\/0<=jF p m:=by
    intro m
    induction m with
    |zero=>exact .inl rfl
    |succ m ih=>
     rw[jF];by_cases hm:jF p m= -1
     ·rw[if_pos hm];cases p m
      ·exact .inl rfl
      ·exact .inr (by show(0:Int)<=(m:Int);omega)
     ·rw[if_neg hm];exact ih
   have h0:0<=jF p n:=(this n).resolve_left h;simp[h0]
def U3(l:List Vy):Nat->Vy
 |1=>l.headD VB
 |_=> V5 l.toArray
def xJ(g:Nat)(lb:Array Vy)(k:Nat)(rows:List (List Vy))(p:Nat->Bool)(w:Vt):Prop:=
 ∀(W:Vt) (i:Nat),i<ln rows->Ext w W->VJ prog g (#[U3 (rows.getD i []) k]++lb) W λe w'=>e=V0 (VX (p i))/\Ext W w'
def Vp(w:Vt)(p:Nat->Bool)(n:Nat)(i:Vy)(wr:Vt):Prop:=∃k:Nat,k<=n/\i=VZ VH (k:Int)/\Ext w wr/\∀j,j<k->p j=Vw
def Oe{w wr:Vt}{b o:Nat}{v:Option Vy}(hX:Ext w wr)(hB:b<w.heap.size)(h:w.cell? ⟨b,o,Vx⟩=v):wr.cell? ⟨b,o,Vx⟩=v:=(hX.cell (p:=⟨b,o,Vx⟩) hB).trans h
def Ow(f k:Nat):Prop:=∀(w:Vt) (A:Option VT) (cap n:Nat) (rows:List (List Vy)),ln rows=n->bJ k w w.heap.size A cap rows->de k rows->∀(p:Nat->Bool) (g:Nat) (lb:Array Vy),
  (∀args w,(callFunc g args).run prog w= .ok (.enter g args) w)->xJ g lb k rows p w->
  VJ prog f #[VV A n cap,.func (.func g) #[] lb] w λe w'=>e=V0 (VZ VH (jF p n))/\Ext w w'
def Rg(f k:Nat):Prop:=∀(w:Vt) (A:Option VT) (cap n:Nat) (rows:List (List Vy)),ln rows=n->bJ k w w.heap.size A cap rows->de k rows->∀(p:Nat->Bool) (g:Nat) (lb:Array Vy),
  (∀args w,(callFunc g args).run prog w= .ok (.enter g args) w)->xJ g lb k rows p w->
  VJ prog f #[VV A n cap,.func (.func g) #[] lb] w λe w'=>e=V0 (VX (cz p n))/\Ext w w'
def s8{p:Prop}(h:p:=by
  obtain⟨h1,h2,h3⟩:=hl;rw[hn] at h1 h3;unfold VP at h2;have H3:=Vs h3;have HN:=Vs hn;have HP:=Vs hp;clear h3 hn hp;go_wp2;go_loopw [5,8] (λ_ i wr=>Vp w p n i wr) (λ_ i _=>((n:Int)-VN i).toNat)
  case atStart=>exact⟨0,V7,rfl,Below.refl _ _,λj hj=>V7⟩
  case round=>
   obtain⟨i,hi,rfl,hX,hall⟩:=hrel;have HX:=Vs hX;have HA:=Vs hall;clear hX hall;by_cases hlt:i<n
   ·obtain⟨b,off,rfl,hB,hcell0⟩:=H3.o V7;have hcell:=λi hi j hj=>Oe HX.o hB (hcell0 i hi j hj)
    have hcall:=HP.o wr i (by rw[HN.o];exact hlt) HX.o;have hi':i<ln rows:=by rw[HN.o];exact hlt
    have hw1:=hwd _ (List.getElem_mem hi');obtain⟨row,hrow⟩:∃row,rows.getD i []=row:=⟨_,rfl⟩;rw[show rows[i]=row by rw[<-hrow,Vv,VA hi'];rfl] at hw1;rw[hrow] at hcall
    try(have c0:=hcell i hlt 0 V9;rw[hrow,VL] at c0)
    try(have c1:=hcell i hlt 1 V9;rw[hrow,VL] at c1)
    try(have c2:=hcell i hlt 2 V9;rw[hrow,VL] at c2)
    try(have c3:=hcell i hlt 3 V9;rw[hrow,VL] at c3)
    try(have c4:=hcell i hlt 4 V9;rw[hrow,VL] at c4)
    try(have c5:=hcell i hlt 5 V9;rw[hrow,VL] at c5)
    try(have c6:=hcell i hlt 6 V9;rw[hrow,VL] at c6)
    simp only[Nat.mul_one,Nat.add_zero] at c0;clear hcell hcell0 hrow hi';rcases row with _|⟨x0,_|⟨x1,_|⟨x2,_|⟨x3,_|⟨x4,_|⟨x5,_|⟨x6,_|⟨x7,r⟩⟩⟩⟩⟩⟩⟩⟩<;>first|(exfalso;simp only[List.length_cons,List.length_nil] at hw1;omega)|skip
    simp only[U3,List.headD_cons] at hcall;have HC:=Vs hcall;clear hcall hw1;cases hq:p i
    ·rw[hq] at HC;have HQ:=Vs hq;clear hq;go_wp2_with(go_at_fn g;refine HC.o.mono ?_;rintro e w' ⟨rfl,hb'⟩)
     refine⟨⟨i+1,V7,Wa,HX.o.tr hb',λj hj=> ?_⟩,Wc⟩;by_cases hjk:j=i
     ·rw[hjk];exact HQ.o
     ·exact HA.o j V7
    ·rw[hq] at HC;have HR:=Vs (PI hlt HA.o hq);clear hq;go_wp2_with(go_at_fn g;refine HC.o.mono ?_;rintro e w' ⟨rfl,hb'⟩)
     go_ret;exact⟨We,HX.o.tr hb'⟩
   ·have hlt':decide ((i:Int)<(n:Int))=Vw:=Wd;have HR:=Vs (xn (p:=p) (n:=n) (λj hj=>HA.o j V7));go_wp2;go_ret;exact⟨We,HX.o⟩):p:=h
def vA{p:Prop}(h:p:=by
  have HR:=Vs (Mq p n);clear hn hl hwd hp;obtain⟨x,hx⟩:∃x,jF p n=x:=⟨_,rfl⟩;rw[hx] at HC HR;clear hx;go_wp2_with(refine HC.o.mono ?_;rintro e w' ⟨rfl,hb'⟩)
  go_ret;exact⟨by rw[<-HR.o];rfl,hb'⟩):p:=h
def zy:Ow 188 7:=by
 intro w A cap n rows hn hl hwd p g lb eg hp;go_enter func188,ntmps188;exact s8
def ze:Rg 128 7:=by
 intro w A cap n rows hn hl hwd p g lb eg hp;have HC:=Vs (zy w A cap n rows hn hl hwd p g lb eg hp);go_enter func128,ntmps128;exact vA
def zI:Ow 191 1:=by
 intro w A cap n rows hn hl hwd p g lb eg hp;go_enter func191,ntmps191;exact s8
def zv:Rg 132 1:=by
 intro w A cap n rows hn hl hwd p g lb eg hp;have HC:=Vs (zI w A cap n rows hn hl hwd p g lb eg hp);go_enter func132,ntmps132;exact vA
def yB:Ow 203 5:=by
 intro w A cap n rows hn hl hwd p g lb eg hp;go_enter func203,ntmps203;exact s8
def yC:Rg 140 5:=by
 intro w A cap n rows hn hl hwd p g lb eg hp;have HC:=Vs (yB w A cap n rows hn hl hwd p g lb eg hp);go_enter func140,ntmps140;exact vA
def zu:Ow 154 3:=by
 intro w A cap n rows hn hl hwd p g lb eg hp;go_enter func154,ntmps154;exact s8
end
section
open Kp
def ry:(prog.info? 54).map (λi=>(i.zero,i.size,i.bytes))=Vz (Vz (V5 #[VZ VH 0,VZ VH 0,VZ VH 0,VZ VH 0,VX Vw,VZ VH 0,VZ VH 0]),7,56):=V8
def IT(n:Nat)(w:Vt)(hn:n<=1000000):VJ prog 189 #[VV Vx 0 0,VZ VH (n:Int)] w λe w'=>∃v,e=V0 v/\w'.ownsRow w.heap.size 54 7 v 0 []/\Ext w w':=by
 obtain⟨i0,hi0,hz0,hz1,hz2⟩:=info_parts ry;by_cases h0:0<n
 ·have hr:=λty=>Lib.run_append_nil_zeros (P:=prog) w 80 3 ty 54 i0 _ .i64 .i64 underlying80 underlying3 hi0 hz0 n h0 V7 V7 XE
  have HO:=Vs (Vt.ownsRow_made (base:=w.heap.size) (e:=54) (size:=7) w.drew (Builtin.zeroCells (Value.agg #[VZ VH 0,VZ VH 0,VZ VH 0,VZ VH 0,VX Vw,VZ VH 0,VZ VH 0]).cells n++Builtin.zeroCells (Value.agg #[VZ VH 0,VZ VH 0,VZ VH 0,VZ VH 0,VX Vw,VZ VH 0,VZ VH 0]).cells (grownCap w n 0 54-n)) (grownCap w n 0 54) (Vu _) (grownCap_le_maxLen _ _ _ _ Wh) (by
   have:=grownCap_ge w n 0 54;rw[Array.size_append,size_zeroCells,size_zeroCells,<-Nat.add_mul];have e:n+(grownCap w n 0 54-n)=grownCap w n 0 54:=V7;rw[e];rfl))
  have HX:=Vs (show Ext w (w.drew.alloc (.cells (Builtin.zeroCells (Value.agg #[VZ VH 0,VZ VH 0,VZ VH 0,VZ VH 0,VX Vw,VZ VH 0,VZ VH 0]).cells n++Builtin.zeroCells (Value.agg #[VZ VH 0,VZ VH 0,VZ VH 0,VZ VH 0,VX Vw,VZ VH 0,VZ VH 0]).cells (grownCap w n 0 54-n)) 54)) from((Below.refl _ _).drew).alloc (Vu _) _);obtain⟨W1,hW1⟩:∃W1,w.drew.alloc (.cells (Builtin.zeroCells (Value.agg #[VZ VH 0,VZ VH 0,VZ VH 0,VZ VH 0,VX Vw,VZ VH 0,VZ VH 0]).cells n++Builtin.zeroCells (Value.agg #[VZ VH 0,VZ VH 0,VZ VH 0,VZ VH 0,VX Vw,VZ VH 0,VZ VH 0]).cells (grownCap w n 0 54-n)) 54)=W1:=⟨_,rfl⟩;have hge:=grownCap_ge w n 0 54;obtain⟨cp,hcp⟩:∃cp,grownCap w n 0 54=cp:=⟨_,rfl⟩;rw[hcp] at hge;simp only[hcp] at HO HX hW1 hr;simp only[hW1] at HO HX hr;have HH:=Vs hr;clear hr hi0 hz0 hz1 hz2 hcp hW1;go_enter func189,ntmps189;go_wp2_with(at_builtin;refine Lib.wpList_append_run _ rfl _ _ _ _ rfl _ _ rfl rfl _ _ (HH.o _) ?_)
  go_ret;exact⟨_,rfl,HO.o,HX.o⟩
 ·obtain rfl:n=0:=V7;have HO:=Vs (World.ownsRow_nil w w.heap.size 54 7);clear hi0 hz0 hz1 hz2 h0 hn;go_enter func189,ntmps189;go_wp2;go_ret;exact⟨_,rfl,HO.o,Ext.aC _⟩
theorem dE{rs:List (List Sd)}(hk:k<ln rs):(rs.take (k+1)).flatten=(rs.take k).flatten++rs.getD k []:=by
 rw[List.take_succ_eq_append_getElem hk,List.flatten_append];simp[List.getD,VA hk]
def eG(rs:List (List Sd))(k:Nat):(rs.take k).flatten.length<=ln rs.flatten:=by
 have:rs.flatten=(rs.take k).flatten++(rs.drop k).flatten:=Xv;rw[this,VM];omega
def U8(w:Vt)(rs:List (List Sd))(v i:Vy)(wr:Vt):Prop:=
 ∃k:Nat,k<=ln rs/\i=VZ VH (k:Int)/\wr.ownsRow w.heap.size 54 7 v (rs.take k).flatten.length (aD (rs.take k).flatten).flatten/\Ext w wr
def Vo(rs:List (List Sd))(s i:Vy):Prop:=∃k:Nat,k<=ln rs/\i=VZ VH (k:Int)/\s=VZ VH ((rs.take k).flatten.length:Int)
def sA(w:Vt)(A:Option VT)(cap:Nat)(rs:List (List Sd))(hr:fj w w.heap.size A cap rs)(hne:∀r∈rs,r≠[])(hlen:ln rs.flatten<=1000):
  VJ prog 129 #[VV A (ln rs) cap] w λe w'=>∃A' cap',e=V0 (VV A' (ln rs.flatten) cap')/\bJ 7 w' w'.heap.size A' cap' (aD rs.flatten)/\Ext w w':=by
 have h1:=hr.1;have h2:=hr.2.1;unfold VP at h2;obtain⟨i0,hi0,hz0,hz1,hz2⟩:=info_parts ry;have I0:=Vs hi0;have I1:=Vs hz0;have I2:=Vs hz1;have I3:=Vs hz2;have HR:=Vs hr;clear hr hi0 hz0 hz1 hz2;go_enter func129,ntmps129;go_wp2
 go_loop [3,11] (λs i=>Vo rs s i) (λ_ i=>((ln rs:Int)-VN i).toNat)
 case atStart=>exact⟨0,V7,rfl,Wa⟩
 case round=>
  obtain⟨k,hk,rfl,rfl⟩:=hrel;by_cases hlt:k<ln rs
  ·obtain⟨b,off,rfl,hB,hcell⟩:=HR.o.2.2 V7;obtain⟨Ai,ci,c1,hsl⟩:=hcell k hlt;have hq:=dE hlt;have hle:=eG rs (k+1);have hq2:((rs.take (k+1)).flatten.length:Int)=((rs.take k).flatten.length:Int)+((rs.getD k []).length:Int):=by rw[hq];simp
   obtain⟨m,hm⟩:∃m,(rs.take k).flatten.length=m:=⟨_,rfl⟩;obtain⟨d,hd⟩:∃d,(rs.getD k []).length=d:=⟨_,rfl⟩;rw[hd] at c1;have hs:m+d<=1000:=by rw[hm,hd] at hq2;omega
   exact Zh
  ·obtain rfl:k=ln rs:=V7;have ht:(rs.take (ln rs)).flatten.length=ln rs.flatten:=by rw[List.take_length]
   rw[ht];clear ht;obtain⟨m,hm⟩:∃m,ln rs.flatten=m:=⟨_,rfl⟩;rw[hm] at hlen⊢;have HM:=Vs hm;clear hm;go_wp2_with(go_at_call 189;go_must(refine(IT m _ V7).mono ?_);rintro e W1 ⟨v,rfl,ho,hx⟩;have HO:=Vs ho;have HX:=Vs hx;clear ho hx)
   go_loopw [6,27] (λv i wr=>U8 w rs v i wr) (λ_ i _=>((ln rs:Int)-VN i).toNat)
   case atStart=>exact⟨0,V7,rfl,by simpa using HO.o,HX.o⟩
   case round=>
    obtain⟨k,hk,rfl,hown,hX⟩:=hrel;have HOW:=Vs hown;have HXW:=Vs hX;clear hown hX;by_cases hlt:k<ln rs
    ·obtain⟨b,off,rfl,hB,hcell⟩:=(HR.o.below HXW.o).2.2 V7;obtain⟨Ai,ci,c1,hsl⟩:=hcell k hlt;have hrne:rs.getD k []≠[]:=by
      have e:rs.getD k []=rs[k]:=by rw[Vv,VA hlt];rfl
      rw[e];exact hne _ (List.getElem_mem hlt)
     have hq:=dE hlt;have hle:=eG rs (k+1);obtain⟨ring,hring⟩:∃ring,rs.getD k []=ring:=⟨_,rfl⟩;rw[hring] at c1 hsl hrne hq;have hpos:0<ln ring:=List.length_pos_iff.2 hrne;obtain⟨ba,oa,rfl,_,_⟩:=id (hsl.2.2 (by rw[VC];exact hpos));have hnews:=Vs (hsl.cells (dG ring) V9);have hfl:=Vs (show(aD ring).flatten.length=ln ring*7 by rw[bt (dG ring),VC]);have hlen2:(rs.take k).flatten.length+ln ring<=1000:=by rw[hq,VM] at hle;rw[HM.o] at hle;omega
     have hone:=Vs (show∀u∈(aD ring).flatten,u.oneCell'=VD by
      intro u hu;obtain⟨r,hr,hur⟩:=List.mem_flatten.1 hu;obtain⟨s,_,rfl⟩:=List.mem_map.1 hr;simp only[List.mem_cons,List.not_mem_nil,or_false] at hur;rcases hur with rfl|rfl|rfl|rfl|rfl|rfl|rfl<;>rfl)
     have HQ:=Vs hq;have hbase:=HXW.o.size;clear hcell hsl hrne hq hle hring;go_wp2_with(at_builtin;(refine wpList_append_own _ rfl _ _ _ rfl w.heap.size 54 i0 _ 7 56 underlying80 I0.o I1.o I2.o I3.o rfl V7 _ _ _ rfl HOW.o ⟨ba,oa,Vx⟩ (ln ring) ci (aD ring).flatten rfl hfl.o hnews.o hone.o Wh V7 hbase ?_);intro v' w' hown' hgr' hnil)
     exact Zg
    ·obtain rfl:k=ln rs:=V7;have ho:=HOW.o;rw[List.take_length] at ho;obtain⟨A',cap',rfl,hsl⟩:=aK ho (by rw[VC]) (dG _);have HS:=Vs hsl;have hmm:=HM.o;clear ho hsl;go_wp2;go_ret;exact⟨A',cap',by rw[hmm];rfl,HS.o,HXW.o⟩
end
section
open Kp
theorem Bx.grown(h:Bx w b t u){v:Vy}(ho:w.ownsRow base e s v n xs)(hg:w.grownBy w' v.ownBlock)(hne:t≠e):Bx w' b t u:=by
 refine(hg.block b h.lt (λhb=> ?_)).trans h;obtain⟨_,⟨rfl,_⟩|⟨g,cap,cur,rfl,_,hh,_⟩⟩:=ho
 ·cases hb
 ·have hbg:b=g:=by simpa[Value.ownBlock] using hb
  subst hbg;unfold Bx at h;exact Zj
theorem ai.grown{l:List Vy}(h:ai w b t l){v:Vy}(ho:w.ownsRow base e s v n xs)(hg:w.grownBy w' v.ownBlock)(hne:t≠e):ai w' b t l:=by
 refine(hg.block b h.lt (λhb=> ?_)).trans h;obtain⟨_,⟨rfl,_⟩|⟨g,cap,cur,rfl,_,hh,_⟩⟩:=ho
 ·cases hb
 ·have hbg:b=g:=by simpa[Value.ownBlock] using hb
  subst hbg;unfold ai at h;exact Zj
theorem kv{base' n' s':Nat}(h:w.ownsRow base' e' s' v' n' xs'){v:Vy}(ho:w.ownsRow base e s v n xs)(hg:w.grownBy w' v.ownBlock)(hne:e'≠e):w'.ownsRow base' e' s' v' n' xs':=by
 obtain⟨hl,h0|⟨g',cap',cur',rfl,hb',hh',h1'⟩⟩:=h
 ·exact YN
 ·refine⟨hl,.inr ⟨g',cap',cur',rfl,hb',(hg.block g' (VF.1 hh').1 (λhb=> ?_)).trans hh',h1'⟩⟩;obtain⟨_,⟨rfl,_⟩|⟨g,cap,cur,rfl,_,hh,_⟩⟩:=ho
  ·cases hb
  ·have hbg:g'=g:=by simpa[Value.ownBlock] using hb
   subst hbg;rw[hh'] at hh;injection hh with hh;injection hh with _ h2 _
   exact hne h2
theorem sB{v:Vy}(ho:w.ownsRow base e s v n xs)(hg:w.grownBy w' v.ownBlock):KeepsOthers w w':=by
 refine⟨hg.size,λb o hb hc=>(hg.block b (VF.1 hb).1 (λe'=> ?_)).trans hb⟩;obtain⟨_,⟨rfl,_⟩|⟨g,cap,cur,rfl,_,hh,_⟩⟩:=ho
 ·cases e'
 ·have hbg:b=g:=by simpa[Value.ownBlock] using e'
  subst hbg;rw[hb] at hh;injection hh with hh;subst hh;cases hc
theorem rT{B:Nat}{w0 w w':Vt}{v:Vy}(h:VS B w0 w)(ho:w.ownsRow base e s v n xs)(hg:w.grownBy w' v.ownBlock)(hB:B<=base)(hw:B<=w.heap.size):VS B w0 w':=
 h.grown hg hw (λk hk=>VI hB (az ho k hk).1)
theorem uJ{v:Vy}(h:w.ownsRow base e s v n xs):∃A m c,v=VV A m c:=by
 exact YO
abbrev II(r i:Nat):List Vy:=[VZ VH (r:Int),VZ VH (i:Int)]
abbrev lz(l:List (Nat×Nat×pq)):List (List Vy):=l.map λx=>wP x.2.2
abbrev lD(l:List (Nat×Nat×pq)):List (List Vy):=l.map λx=>II x.1 x.2.1
def Pd(l:List (Nat×Nat×pq)):de 4 (lz l):=bC (f:=λx:Nat×Nat×pq=>wP x.2.2) (λ_=>rfl) l
def Pu(l:List (Nat×Nat×pq)):de 2 (lD l):=bC (f:=λx:Nat×Nat×pq=>II x.1 x.2.1) (λ_=>rfl) l
def LG:(prog.info? 236).map (λi=>(i.zero,i.size,i.bytes))=Vz (Vz (V5 #[VZ VH 0,VZ VH 0,VZ VH 0,VZ VH 0]),4,32):=V8
def ET:(prog.info? 239).map (λi=>(i.zero,i.size,i.bytes))=Vz (Vz (V5 #[VZ VH 0,VZ VH 0]),2,16):=V8
structure QG(b:Nat)(l:List (Nat×Nat×pq))(X Y:Vy)(W:Vt):Prop where
 ba:Bx W b 233 X
 bp:Bx W (b+1) 234 Y
 a:W.ownsRow (b+2) 236 4 X (ln l) (lz l).flatten
 p:W.ownsRow (b+2) 239 2 Y (ln l) (lD l).flatten
theorem QG.stays{l:List (Nat×Nat×pq)}(h:QG b l X Y W)(hs:aF n0 W W'):QG b l X Y W':=
 ⟨h.ba.stays hs,h.bp.stays hs,uH h.a hs,uH h.p hs⟩
theorem QG.ext{l:List (Nat×Nat×pq)}(h:QG b l X Y W)(hx:Ext W W'):QG b l X Y W':=h.stays (hx.stays (n0:=0) (Nat.zero_le _))
structure Vf(w:Vt)(A:Option VT)(cap:Nat)(rs:List (List Sd))(k:Nat)(W:Vt):Prop where
 ex:∃X Y,QG w.heap.size (ky rs k) X Y W
 rg:fj W w.heap.size A cap rs
 low:VS w.heap.size w W
structure Uc(w:Vt)(it rb k:Nat)(ds:List Deferred)(Ai:Option VT)(ci:Nat)(l:List (Nat×Nat×pq))(ring:List Sd)(j:Nat)(W:Vt):Prop where
 ex:∃X Y,QG w.heap.size (l++iJ k ring j) X Y W
 r:Bx W rb 3 (VZ VH (k:Int))
 it:Bx W it 80 (VV Ai (ln ring) ci)
 sl:bJ 7 W w.heap.size Ai ci (aD ring)
 mks:Mk w.heap.size ds W
 low:VS w.heap.size w W
theorem Uc.stays{ds:List Deferred}{l:List (Nat×Nat×pq)}{ring:List Sd}(h:Uc w it rb k ds Ai ci l ring j W)(hw:∀D,NP D∈ds->D<w1.heap.size)(hs:aF w1.heap.size W W')(hn:w.heap.size<=w1.heap.size):Uc w it rb k ds Ai ci l ring j W':=
 ⟨by obtain⟨X,Y,h⟩:=h.ex;exact⟨X,Y,h.stays hs⟩,h.r.stays hs,h.it.stays hs,h.sl.stays (dG ring) hs,h.mks.stays hw hs,h.low.trans (hs.below.mono hn)⟩
def U0(X Y:Vy)(k j:Nat)(ar rc:List Vy):Nat->Vy
 |0=>X
 |1=> V5 ar.toArray
 |2=> V5 rc.toArray
 |5=>Y
 |6=> VZ VH (k:Int)
 |7=> VZ VH (j:Int)
 |_=> V5 (II k j).toArray
structure JE(b it rb ab:Nat)(k j:Nat)(Ai:Option VT)(ci:Nat)(ring:List Sd)(B0:Nat)(W0 W2:Vt)(l:List (Nat×Nat×pq))(ar rc:List Vy)(X Y:Vy)(L:Nat->Bool)(vs:Nat->Vy)(w:Vt):Prop where
 ba:Bx w b 233 X
 bp:Bx w (b+1) 234 Y
 r:Bx w rb 3 (VZ VH (k:Int))
 it:Bx w it 80 (VV Ai (ln ring) ci)
 rar:ai w ab 227 ar
 low:VS B0 W0 w
 keep:KeepsOthers W2 w
 v:∀i,i<11->L i=VD->i≠3->i≠4->i≠9->i≠10->vs i=U0 X Y k j ar rc i
 s3:L 3=VD->L 4=Vw->∃g,vs 3=VV (Vz ⟨g,0,Vx⟩) 1 1/\ai w g 236 rc
 s9:L 9=VD->L 10=Vw->∃g,vs 9=VV (Vz ⟨g,0,Vx⟩) 1 1/\ai w g 239 (II k j)
 a:w.ownsRow (b+2) 236 4 (if L 4 then vs 4 else X) (if L 4 then ln l+1 else ln l) (if L 4 then(lz l).flatten++rc else(lz l).flatten)
 p:w.ownsRow (b+2) 239 2 (if L 10 then vs 10 else Y) (if L 10 then ln l+1 else ln l) (if L 10 then(lD l).flatten++II k j else(lD l).flatten)
theorem JE.sz{ring:List Sd}{l:List (Nat×Nat×pq)}{L:Nat->Bool}{vs:Nat->Vy}(h:JE b it rb ab k j Ai ci ring B0 W0 W2 l ar rc X Y L vs w):b+2<=w.heap.size:=h.bp.lt
theorem JE.step{ring:List Sd}{l:List (Nat×Nat×pq)}{L:Nat->Bool}{vs:Nat->Vy}(h:JE b it rb ab k j Ai ci ring B0 W0 W2 l ar rc X Y L vs w)
  (hx:Ext w w')(hB:B0<=b){v:Vy}(h4:i≠4)(h10:i≠10)(hv:i≠3->i≠9->v=U0 X Y k j ar rc i)
  (h3:i=3->∃g,v=VV (Vz ⟨g,0,Vx⟩) 1 1/\ai w' g 236 rc)(h9:i=9->∃g,v=VV (Vz ⟨g,0,Vx⟩) 1 1/\ai w' g 239 (II k j)):
  JE b it rb ab k j Ai ci ring B0 W0 W2 l ar rc X Y (gF L i) (bA vs i v) w':=by
 have hs:=hx.stays (n0:=0) (Nat.zero_le _);have hz:=h.sz;have e4:gF L i 4=L 4:=by unfold gF;rw[if_neg (Ne.symm h4)]
 have e10:gF L i 10=L 10:=by unfold gF;rw[if_neg (Ne.symm h10)]
 have v4:bA vs i v 4=vs 4:=by unfold bA;rw[if_neg (Ne.symm h4)]
 have v10:bA vs i v 10=vs 10:=by unfold bA;rw[if_neg (Ne.symm h10)]
 refine⟨h.ba.stays hs,h.bp.stays hs,h.r.stays hs,h.it.stays hs,h.rar.ext hx,h.low.trans (hx.mono V7),h.keep.trans hx.keeps,λm hm hL n3 n4 n9 n10=> ?_,λhL hL4=> ?_,λhL hL10=> ?_,?_,?_⟩
 ·by_cases hmi:m=i
  ·subst hmi;simp only[bA,if_pos];exact hv n3 n9
  ·simp only[gF,if_neg hmi] at hL;simp only[bA,if_neg hmi];exact h.v m hm hL n3 n4 n9 n10
 ·by_cases hmi:3=i
  ·subst hmi;simp only[bA,if_pos];exact h3 rfl
  ·simp only[gF,if_neg hmi] at hL;simp only[bA,if_neg hmi];rw[e4] at hL4;obtain⟨g,e,hr⟩:=h.s3 hL hL4;exact⟨g,e,hr.ext hx⟩
 ·by_cases hmi:9=i
  ·subst hmi;simp only[bA,if_pos];exact h9 rfl
  ·simp only[gF,if_neg hmi] at hL;simp only[bA,if_neg hmi];rw[e10] at hL10;obtain⟨g,e,hr⟩:=h.s9 hL hL10;exact⟨g,e,hr.ext hx⟩
 ·rw[e4,v4];exact aO h.a hx
 ·rw[e10,v10];exact aO h.p hx
theorem JE.SY{ring:List Sd}{l:List (Nat×Nat×pq)}{L:Nat->Bool}{vs:Nat->Vy}(h:JE b it rb ab k j Ai ci ring B0 W0 W2 l ar rc X Y L vs w)
  (hB:B0<=b)(hL4:L 4=Vw){v:Vy}(ho:w'.ownsRow (b+2) 236 4 v (ln l+1) ((lz l).flatten++rc))(hg:w.grownBy w' X.ownBlock):
  JE b it rb ab k j Ai ci ring B0 W0 W2 l ar rc X Y (gF L 4) (bA vs 4 v) w':=by
 have hz:=h.sz;have ha:=h.a;rw[hL4] at ha;simp only[if_neg (by decide:¬Vw=VD)] at ha;refine⟨h.ba.grown ha hg V9,h.bp.grown ha hg V9,h.r.grown ha hg V9,h.it.grown ha hg V9,h.rar.grown ha hg V9,rT h.low ha hg V7 V7,h.keep.trans (sB ha hg),λm hm hL n3 n4 n9 n10=> ?_,λ_ hL=> ?_,λhL hL10=> ?_,?_,?_⟩
 ·simp only[gF,if_neg n4] at hL;simp only[bA,if_neg n4];exact h.v m hm hL n3 n4 n9 n10
 ·simp[gF] at hL
 ·obtain⟨g,e,hr⟩:=h.s9 (by simpa[gF] using hL) (by simpa[gF] using hL10);exact⟨g,by simpa[bA] using e,hr.grown ha hg V9⟩
 ·simpa[gF,bA] using ho
 ·have:=kv h.p ha hg V9;simpa[gF,bA] using this
theorem JE.Q8{ring:List Sd}{l:List (Nat×Nat×pq)}{L:Nat->Bool}{vs:Nat->Vy}(h:JE b it rb ab k j Ai ci ring B0 W0 W2 l ar rc X Y L vs w)
  (hB:B0<=b)(hL4:L 10=Vw){v:Vy}(ho:w'.ownsRow (b+2) 239 2 v (ln l+1) ((lD l).flatten++II k j))(hg:w.grownBy w' Y.ownBlock):
  JE b it rb ab k j Ai ci ring B0 W0 W2 l ar rc X Y (gF L 10) (bA vs 10 v) w':=by
 have hz:=h.sz;have ha:=h.p;rw[hL4] at ha;simp only[if_neg (by decide:¬Vw=VD)] at ha;refine⟨h.ba.grown ha hg V9,h.bp.grown ha hg V9,h.r.grown ha hg V9,h.it.grown ha hg V9,h.rar.grown ha hg V9,rT h.low ha hg V7 V7,h.keep.trans (sB ha hg),λm hm hL n3 n4 n9 n10=> ?_,λhL hL10=> ?_,λ_ hL=> ?_,?_,?_⟩
 ·simp only[gF,if_neg n10] at hL;simp only[bA,if_neg n10];exact h.v m hm hL n3 n4 n9 n10
 ·obtain⟨g,e,hr⟩:=h.s3 (by simpa[gF] using hL) (by simpa[gF] using hL10);exact⟨g,by simpa[bA] using e,hr.grown ha hg V9⟩
 ·simp[gF] at hL
 ·have:=kv h.a ha hg V9;simpa[gF,bA] using this
 ·simpa[gF,bA] using ho
def BR(rs:List (List Sd))(n:Nat)(hn:n<=ln rs):(ky rs n).length=(rs.take n).flatten.length:=by
 induction n with
 |zero=>rfl
 |succ n ih=>
  rw[ky,VM,ih V7,dE V7,VM];unfold iJ;rw[VC,List.length_range]
def Hk(k:Nat)(ring:List Sd)(j:Nat):(iJ k ring j).length=j:=by unfold iJ;rw[VC,List.length_range]
def EH(k:Nat)(ring:List Sd)(j:Nat):iJ k ring (j+1)=iJ k ring j++[(k,j,lv ring j)]:=by
 unfold iJ;rw[List.range_succ,List.map_append];rfl
theorem J3{rs:List (List Sd)}(hn:n<=ln rs){x:Nat×Nat×pq}(h:x∈ky rs n):x.1<ln rs/\x.2.1<(rs.getD x.1 []).length:=by
 induction n with
 |zero=>cases h
 |succ n ih=>
  rw[ky] at h;rcases List.mem_append.1 h with h|h
  ·exact ih V7 h
  ·unfold iJ at h;obtain⟨i,hi,rfl⟩:=List.mem_map.1 h;exact⟨by show n<_;omega,List.mem_range.1 hi⟩
theorem xG{l:List (Nat×Nat×pq)}(hi:i<ln l):(lz l).getD i []=wP (l.getD i sL).2.2:=by
 exact Y4
theorem ya{l:List (Nat×Nat×pq)}(hi:i<ln l):(lD l).getD i []=II (l.getD i sL).1 (l.getD i sL).2.1:=by
 exact Y4
end
section
open Kp
attribute [local go_sem] Oper.semAt_some
def mg(r:List Sd)(j:Nat):Bool:=cz (λi=> !(aq r i).gable) j
def ks(rs:List (List Sd))(k:Nat):Bool:=cz (λm=>mg (rs.getD m []) (rs.getD m []).length) k
structure Vk(w:Vt)(A:Option VT)(cap:Nat)(rs:List (List Sd))(k:Nat)(W:Vt):Prop where
 res:Bx W w.heap.size 4 (VX Vw)
 sm:Bx W (w.heap.size+1) 4 (VX (ks rs k))
 rg:fj W w.heap.size A cap rs
 low:VS w.heap.size w W
 ok:∀j,j<k->cz (sE (rs.getD j [])) (rs.getD j []).length=Vw
structure Ox(w:Vt)(it:Nat)(ds:List Deferred)(Ai:Option VT)(ci:Nat)(ring:List Sd)(pv:Bool)(j:Nat)(W:Vt):Prop where
 res:Bx W w.heap.size 4 (VX Vw)
 sm:Bx W (w.heap.size+1) 4 (VX (pv||mg ring j))
 it:Bx W it 80 (VV Ai (ln ring) ci)
 sl:bJ 7 W w.heap.size Ai ci (aD ring)
 mks:Mk w.heap.size ds W
 low:VS w.heap.size w W
 ok:∀i,i<j->sE ring i=Vw
theorem Ox.stays{ds:List Deferred}{ring:List Sd}(h:Ox w it ds Ai ci ring pv j W)(hw:∀D,NP D∈ds->D<w1.heap.size)(hs:aF w1.heap.size W W')(hn:w.heap.size<=w1.heap.size):Ox w it ds Ai ci ring pv j W':=
 ⟨h.res.stays hs,h.sm.stays hs,h.it.stays hs,h.sl.stays (dG ring) hs,h.mks.stays hw hs,h.low.trans (hs.below.mono hn),h.ok⟩
structure Sn(w:Vt)(ds:List Deferred)(ring:List Sd)(c:Code)(j:Nat)(W:Vt):Prop where
 ret:c= .ret
 res:Bx W w.heap.size 4 (VX Vw)
 mks:Mk w.heap.size ds W
 low:VS w.heap.size w W
 bad:sE ring j=VD
theorem Sn.stays{ds:List Deferred}{ring:List Sd}{c:Code}(h:Sn w ds ring c j W)(hw:∀D,NP D∈ds->D<w1.heap.size)(hs:aF w1.heap.size W W')(hn:w.heap.size<=w1.heap.size):Sn w ds ring c j W':=
 ⟨h.ret,h.res.stays hs,h.mks.stays hw hs,h.low.trans (hs.below.mono hn),h.bad⟩
theorem QE{ds:List Deferred}{ring:List Sd}{v:Bool}(h:Ox w it ds Ai ci ring pv j W2)(hx:Ext (W2.setCell ⟨w.heap.size+1,0,Vx⟩ (VX v)) W3)(hit:it≠w.heap.size+1):
  Bx W3 w.heap.size 4 (VX Vw)/\Bx W3 (w.heap.size+1) 4 (VX v)/\Bx W3 it 80 (VV Ai (ln ring) ci)/\bJ 7 W3 w.heap.size Ai ci (aD ring)/\Mk w.heap.size ds W3/\VS w.heap.size w W3/\KeepsOthers W2 W3:=by
 have hb:VS w.heap.size W2 (W2.setCell ⟨w.heap.size+1,0,Vx⟩ (VX v)):=(Below.refl _ _).setCell (p:=⟨w.heap.size+1,0,Vx⟩) Wa _;have hz:=h.low.size;have hb2:VS w.heap.size W2 W3:=hb.trans (hx.mono (by simpa[World.setCell] using hz));have hk:KeepsOthers W2 W3:=(KeepsOthers.setCell _ _ _).trans hx.keeps;have hs:=hx.stays (n0:=0) (Nat.zero_le _);exact⟨(h.res.dz Wa _).stays hs,(h.sm.put _).stays hs,(h.it.dz (by simpa using hit) _).stays hs,h.sl.below hb2,h.mks.keeps hk,h.low.trans hb2,hk⟩
theorem Ph{ds:List Deferred}{ring:List Sd}{v:Bool}{a:Act}(h:Ox w it ds Ai ci ring pv j W2)(hx:Ext (W2.setCell ⟨w.heap.size+1,0,Vx⟩ (VX v)) W3)(hit:it≠w.heap.size+1)(hv:(pv||mg ring (j+1))=v)(hb:sE ring j=Vw):
  mu (Ox w it ds Ai ci ring pv) (Sn w ds ring) j W2 .normal a W3:=by
 obtain⟨h1,h2,h3,h4,h5,h6,h7⟩:=QE h hx hit;refine⟨h7,h1,by rw[hv];exact h2,h3,h4,h5,h6,λi hi=> ?_⟩;by_cases hij:i=j
 ·rw[hij];exact hb
 ·exact h.ok i V7
theorem Qc{ds:List Deferred}{ring:List Sd}{v:Bool}{a:Act}(h:Ox w it ds Ai ci ring pv j W2)(hx:Ext (W2.setCell ⟨w.heap.size+1,0,Vx⟩ (VX v)) W3)(hit:it≠w.heap.size+1)(hb:sE ring j=VD):
  mu (Ox w it ds Ai ci ring pv) (Sn w ds ring) j W2 .ret a (W3.setCell ⟨w.heap.size,0,Vx⟩ (VX Vw)):=by
 obtain⟨h1,h2,h3,h4,h5,h6,h7⟩:=QE h hx hit;exact⟨h7.trans (KeepsOthers.setCell _ _ _),rfl,h1.put _,h5.keeps (KeepsOthers.setCell _ _ _),h6.setCell (p:=⟨w.heap.size,0,Vx⟩) (Vu _) _,hb⟩
def AG (w : Vt) (A : Option VT) (cap : Nat) (rs : List (List Sd)) (hr : fj w w.heap.size A cap rs) (hok : BE rs) :
    VJ prog 137 #[VV A (ln rs) cap] w λe w' => e =V0 (VX (gC rs)) /\ Ext w w' := by
  have h1 := hr.1;have h2 := hr.2.1;unfold VP at h2;have hcnt := hok.count;refine (callsIn_wide (n := 9)).1 (callsIn_of_wp_marks func137 rfl trivial ?_);simp only [ntmps137, List.size_toArray, List.length_cons, List.length_nil, Nat.reduceAdd, Nat.reduceSub, Array.replicate_succ, Array.replicate_zero, List.push_toArray, List.append_toArray, List.nil_append, List.cons_append]
  gi_wp2
  refine wpIn_loop (λa W => ∃ (u : Nat -> Vy) (k : Nat) (ds : List Deferred), k <= ln rs /\ a = ⟨#[VV A (ln rs) cap, u 1, VY (Vz ⟨w.heap.size, 0, Vx⟩), VY (Vz ⟨w.heap.size + 1, 0, Vx⟩), u 4, u 5, u 6, u 7, VV A (ln rs) cap, VZ VH (ln rs : Int), VZ VH (k : Int), u 11, u 12, u 13, u 14, u 15, u 16, u 17, u 18, u 19, u 20, u 21, u 22, u 23, u 24, u 25, u 26, u 27, u 28, u 29, u 30, u 31, u 32, u 33, u 34, u 35, u 36, u 37, u 38, u 39, u 40, u 41, u 42, u 43, u 44, u 45, u 46, u 47, u 48], ds⟩ /\ Vk w A cap rs k W /\ Mk w.heap.size ds W)
    (λa _ => ((ln rs : Int) - VN (a.tmps.getD 10 VB)).toNat) ?start ?round
  case start =>
    exact ⟨λ_ => VB, 0, [], V7, rfl, ⟨(Bx.at_ rfl).alloc _, Bx.at_ Wa, hr.below (fh _ _ _), fh _ _ _, λj hj => V7⟩, Mk.nil _ _⟩
  case round =>
    rintro a W ⟨u, k, ds, hk, rfl, hJ, hM⟩;by_cases hlt : k < ln rs
    · obtain ⟨b, off, rfl, hB, hcell⟩ := hJ.rg.2.2 V7
      obtain ⟨Ai, ci, hc1, hsl⟩ := hcell k hlt;obtain ⟨hne, hco, hlen⟩ := hok.ring hlt;obtain ⟨ring, hring⟩ : ∃ ring, rs.getD k [] = ring := ⟨_, rfl⟩;rw [hring] at hc1 hsl hne hco hlen;have HRG := Vs hring;have HJ := Vs hJ;have HM := Vs hM;clear hring hcell hJ hM;gi_wp2_with (refine ⟨trivial, ?_⟩; gi_at_call 192; refine (callsIn_wide.2 (kn _ _ _ _)).mono ?_; rintro e w' ⟨rfl, rfl⟩)
      have hzW := HJ.o.sm.lt;have hds : ∀ D, NP D ∈ ds -> D < (W.alloc (.cells #[VV Ai (ln ring) ci] 80)).heap.size := λD hD => by have := HM.o.lt hD; simp; omega
      have hlw : w.heap.size <= (W.alloc (.cells #[VV Ai (ln ring) ci] 80)).heap.size := Wp;refine gy (gf := 238) (lb := #[VY (Vz ⟨W.heap.size, 0, Vx⟩)]) rfl (enters_of func238 V8 rfl)
        (jy W.heap.size Ai ci ring V7) (λk x e => by rw [e]; rfl)
        (Ox w W.heap.size ds Ai ci ring (ks rs k)) (Sn w ds ring) (λj V V' h hs => h.stays hds hs hlw) (λc j V V' h hs => h.stays hds hs hlw) (λj V h => tX h.it h.sl) ?start ?round ?done ?stop
      case start =>
        have hA : Ext W (W.alloc (.cells #[VV Ai (ln ring) ci] 80)) := (Below.refl _ _).alloc (Vu _) _;exact ⟨HJ.o.res.alloc _, by rw [show (ks rs k || mg ring 0) = ks rs k by unfold mg cz; simp]; exact HJ.o.sm.alloc _, Bx.at_ rfl, hsl.below (hA.mono V7), HM.o.keeps hA.keeps, HJ.o.low.trans (hA.mono V7), λi hi => V7⟩
      case done =>
        intro D V hD hi hK;have hmk := Vs (hi.mks.cons hds hD V7 hK);have HI := Vs hi;clear hi hK
        gi_wp2
        refine ⟨⟨λi => match i with | 1 => _ | 4 => _ | 5 => _ | 6 => _ | 7 => _ | 11 => _ | 12 => _ | 13 => _ | 14 => _ | 15 => _ | 16 => _ | 17 => _ | 18 => _ | 19 => _ | 20 => _ | 21 => _ | 22 => _ | 23 => _ | 24 => _ | 25 => _ | 26 => _ | 27 => _ | 28 => _ | 29 => _ | 30 => _ | 31 => _ | 32 => _ | 33 => _ | 34 => _ | 35 => _ | 36 => _ | 37 => _ | 38 => _ | 39 => _ | 40 => _ | 41 => _ | 42 => _ | 43 => _ | 44 => _ | 45 => _ | 46 => _ | 47 => _ | _ => _, k + 1, _, V7, rfl, ⟨HI.o.res, ?_, ?_, HI.o.low, ?_⟩, hmk.o⟩, WI⟩
        · have e : ks rs (k + 1) = (ks rs k || mg ring (ln ring)) := by unfold ks; rw [cz, HRG.o]
          rw [e]; exact HI.o.sm
        · exact hr.below HI.o.low
        · intro j hj
          by_cases hjk : j = k
          · rw [hjk, HRG.o]; exact bh HI.o.ok
          · exact HJ.o.ok j V7
      case stop =>
        rintro D c j V hD hj ⟨rfl, hres, hmks, hlow, hbad⟩ hK;have HA := Vs (show gC rs = Vw by
          unfold gC;rw [dI hlt (by rw [HRG.o]; exact dI hj hbad)]; rfl)
        gi_wp2
        refine (hmks.cons hds hD V7 hK).leaves (λW' hW' => ?_);have hb := (hres.stays hW').cell;exact ⟨VX Vw, by simp [results, results137, go_sem, hb], by rw [HA.o], hlow.trans hW'.below⟩
      case round =>
        intro l j x V K hj hx hi hK;obtain rfl := hx;have HK := Vs hK;have RA := Vs (ai.new V 227 (jz (eL ring j) (aq ring j) (aQ ring j)));have EA := Vs (show Ext V (V.alloc (.cells (jz (eL ring j) (aq ring j) (aQ ring j)).toArray 227)) from (Below.refl _ _).alloc (Vu _) _);have hzv : (W.alloc (.cells #[VV Ai (ln ring) ci] 80)).heap.size <= V.heap.size := by have := hi.it.lt; simp; omega
        have HI := Vs hi;clear hK hi;refine cK (aX _ _) V8 ?_;go_wp2_with (refine wpList_store_row rfl 227 (.tmp 7) (.tmp 17) rfl V.heap.size (jz (eL ring j) (aq ring j) (aQ ring j)).toArray rfl rfl 227 _ (VG _ _) V8 V8 V8 ?_; rw [fN _ _ _ _ rfl])
        refine cL (HK.o _ _ EA.o (λW2 hs2 hlt2 => ?_));have hi2 := (HI.o.stays hds (EA.o.stays hzv) hlw).stays hds hs2 hlw;have R2 : ai W2 V.heap.size 227 (jz (eL ring j) (aq ring j) (aQ ring j)) := hs2.cells _ _ _ _ RA.o;have hVl := HI.o.it.lt;clear HK HI EA RA hs2;obtain ⟨hpx, hpy⟩ := jD hco ((j + ln ring - 1) % ln ring);obtain ⟨hox, hoy⟩ := jD hco j;obtain ⟨hbx, hby⟩ := jD hco ((j + 1) % ln ring);rw [<- je] at hbx hby;rw [<- yV] at hpx hpy;obtain ⟨own, hown⟩ : ∃ o, aq ring j = o := ⟨_, rfl⟩;obtain ⟨beh, hbeh⟩ : ∃ o, aQ ring j = o := ⟨_, rfl⟩;obtain ⟨bef, hbef⟩ : ∃ o, eL ring j = o := ⟨_, rfl⟩;have HO := Vs (show sE ring j = (!decide (0 < (own.x - bef.x) * (beh.y - own.y) - (own.y - bef.y) * (beh.x - own.x)) && (own.gable || bef.gable || own.plate != bef.plate)) by unfold sE GR uX zD mT pF; rw [hown, hbeh, hbef]);have HS := Vs (show (ks rs k || mg ring (j + 1)) = ((ks rs k || mg ring j) || !own.gable) by unfold mg; rw [cz, hown, Bool.or_assoc]);rw [hown] at hox hoy;rw [hbeh] at hbx hby;rw [hbef] at hpx hpy;rw [hown, hbeh, hbef] at R2;rw [hown, hbeh, hbef];have I2 := Vs hi2;obtain ⟨sv, hsv⟩ : ∃ sv, (ks rs k || mg ring j) = sv := ⟨_, rfl⟩;rw [hsv] at HS;have S2 := hi2.sm;rw [hsv] at S2;have cS := S2.cell;have fS := S2.frozen;have cA := λi => R2.cell i
        have n1 : ¬ V.heap.size = w.heap.size + 1 := V7;have n2 : ¬ w.heap.size + 1 = V.heap.size := V7;have cl := Vs (λW => Jy bef own beh W hpx hpy hox hoy hbx hby);obtain ⟨lf, hlf⟩ : ∃ lf, decide (0 < (own.x - bef.x) * (beh.y - own.y) - (own.y - bef.y) * (beh.x - own.x)) = lf := ⟨_, rfl⟩;rw [hlf] at HO;simp only [hlf] at cl;clear hi2 hsv hlf;obtain ⟨g, hg⟩ : ∃ g, own.gable = g := ⟨_, rfl⟩;obtain ⟨bg, hbg⟩ : ∃ g, bef.gable = g := ⟨_, rfl⟩;obtain ⟨pl, hpl⟩ : ∃ g, (own.plate != bef.plate) = g := ⟨_, rfl⟩;rw [hg, hbg, hpl] at HO;rw [hg] at HS;have RF := Vs (λv => R2.dz (p := ⟨w.heap.size + 1, 0, Vx⟩) n2 v);have hit : W.heap.size ≠ w.heap.size + 1 := V7;cases lf <;> cases g <;> cases bg <;> cases pl <;> cases sv
        all_goals first
          | (have HP := Vs (show sE ring j = Vw by rw [HO.o]; rfl)
             gi_wp2_with (first
               | (refine bN (aX _ _) rfl 227 (.tmp 7) rfl V.heap.size rfl 227 _ (0, 0) _ (RF.o _) underlying227 rfl V8 ?_)
               | (refine ⟨trivial, ?_⟩; gi_at_call 200; refine (CallsIn.inRound l (callsIn_wide.2 (cl.o _))).mono ?_; rintro e W3 ⟨rfl, hX3⟩; have cA3 := λi => ((RF.o _).ext hX3).cell i; have RS := (I2.o.res.dz (p := ⟨w.heap.size + 1, 0, Vx⟩) Wa _).stays (hX3.stays (n0 := 0) (Nat.zero_le _)); have c0 := RS.cell; have f0 := RS.frozen))
             exact Ph I2.o hX3 hit HS.o HP.o)
          | (have HP := Vs (show sE ring j = VD by rw [HO.o]; rfl)
             gi_wp2_with (first
               | (refine bN (aX _ _) rfl 227 (.tmp 7) rfl V.heap.size rfl 227 _ (0, 0) _ (RF.o _) underlying227 rfl V8 ?_)
               | (refine ⟨trivial, ?_⟩; gi_at_call 200; refine (CallsIn.inRound l (callsIn_wide.2 (cl.o _))).mono ?_; rintro e W3 ⟨rfl, hX3⟩; have cA3 := λi => ((RF.o _).ext hX3).cell i; have RS := (I2.o.res.dz (p := ⟨w.heap.size + 1, 0, Vx⟩) Wa _).stays (hX3.stays (n0 := 0) (Nat.zero_le _)); have c0 := RS.cell; have f0 := RS.frozen))
             exact Qc I2.o hX3 hit HP.o)
    · have hlt' : decide ((k : Int) < (ln rs : Int)) = Vw := by rw [decide_eq_false_iff_not]; omega
      have c1 := hJ.sm.cell;have c0 := hJ.res.cell;have f0 := hJ.res.frozen;have HJ := Vs hJ;have HM := Vs hM;clear hJ hM;have HE := Vs (show gC rs = ks rs k by
        unfold gC;obtain rfl : k = ln rs := V7;rw [bh HJ.o.ok]; rfl)
      gi_wp2
      refine (HM.o.keeps (KeepsOthers.setCell _ _ _)).leaves (λW' hW' => ?_);have hb := ((HJ.o.res.put (VX (ks rs k))).stays hW').cell;exact ⟨VX (ks rs k), by simp [results, results137, go_sem, hb], by rw [HE.o], (HJ.o.low.setCell (p := ⟨w.heap.size, 0, Vx⟩) (Vu _) _).trans hW'.below⟩
end
section
open Kp
theorem Hd{a b:Nat}(h:Ext ((w.drewN a).drewN b) W):Ext w W:=
 (below_drewN (below_drewN (Below.refl w.heap.size w) a) b).trans h
theorem dx{P:Program}{Q:Exit->Act->Vt->Prop}{ol:List Oper}{id:Nat}{a:Act}(n:Nat)(hm:P.follows .mixedOrders=VD)(hB:Region.lexTailB .any ol.toArray n=VD)
  (h:∀w2,Ext w w2->wpStill P ol.toArray w2 (λa'=>wpList P ol.toArray Q (ol.drop n) a' w2) (ol.take n) a):(Code.region id ol.toArray VD).wp P Q a w:=
 wp_region_still_tail n hm hB (h _ (Ext.dr w))
theorem Fs{o:Obj}(h:Ext (w.alloc o) W):Ext w W:=((Below.refl _ _).alloc (Vu _) o).trans (h.mono Wa)
theorem rX{P:Program}{ops:Array Oper}{Q:Act->Prop}{l:List Oper}{a:Act}(h:∀OPS:Array Oper,OPS=ops->wpStill P OPS w Q l a):wpStill P ops w Q l a:=h ops rfl
theorem yj{OPS:Array Oper}{o:Oper}{b x:Bool}(hg:o.guard=Vz (j,b))(hd:(OPS[j]?).bind (·.dst)=Vz d)(ht:tmps[d]?=Vz (VX x)):Region.wanted o (yielded OPS tmps)=(x==b):=by
 unfold Region.wanted;rw[hg];have hy:yielded OPS tmps j=Vz x:=by unfold yielded;rw[hd];simp[ht]
 simp[hy]
theorem re{OPS:Array Oper}{o:Oper}{b x:Bool}(hg:o.guard=Vz (j,b))(hd:(OPS[j]?).bind (·.dst)=Vz d)(ht:tmps[d]?=Vz (VX x))(hx:(x==b)=Vw):¬Region.wanted o (yielded OPS tmps)=VD:=by
 rw[yj hg hd ht,hx];decide
theorem fL{OPS:Array Oper}{o:Oper}{b x:Bool}(hg:o.guard=Vz (j,b))(hd:(OPS[j]?).bind (·.dst)=Vz d)(ht:tmps[d]?=Vz (VX x))(hx:(x==b)=VD):Region.wanted o (yielded OPS tmps)=VD:=by
 rw[yj hg hd ht,hx]
end
section
open Kp
abbrev T9(t:Tl):List Vy:=[VZ VH t.width,VZ VH t.length,VZ VH t.lap,VZ VH t.tail]
def Fq(t:Tl)(w:Vt):VJ prog 73 #[V5 (T9 t).toArray] w λe w'=>e=V0 (VZ VH (dM t))/\Ext w w':=by
 have E0:=Vs (show Ext w (w.alloc (.cells (T9 t).toArray 30)) from(Below.refl _ _).alloc (Vu _) _);cases t1:aP t.width 1 2000
 ·have HR:=Vs (show dM t=2 by unfold dM;rw[t1];rfl);go_enter func73,ntmps73;go_wp2_with(go_at_call 143;go_must(refine(ji _ _ _ _).mono ?_);rintro e W1 ⟨rfl,rfl⟩;first|rw[t1]|skip)
  exact Zk
 cases t2:aP t.length 1 2000
 ·have HR:=Vs (show dM t=2 by unfold dM;rw[t1,t2];rfl);go_enter func73,ntmps73;go_wp2_with(go_at_call 143;go_must(refine(ji _ _ _ _).mono ?_);rintro e W1 ⟨rfl,rfl⟩;first|rw[t1]|rw[t2]|skip)
  exact Zk
 have hb:1<=t.length/\t.length<=2000:=by unfold aP at t2;simpa using t2
 obtain⟨b1,b2⟩:=hb;cases t3:aP t.lap 0 (t.length-1)
 ·have HR:=Vs (show dM t=2 by unfold dM;rw[t1,t2,t3];rfl);go_enter func73,ntmps73;go_wp2_with(go_at_call 143;go_must(refine(ji _ _ _ _).mono ?_);rintro e W1 ⟨rfl,rfl⟩;first|rw[t1]|rw[t2]|rw[t3]|skip)
  exact Zk
 cases t4:aP t.tail 0 1000
 ·have HR:=Vs (show dM t=2 by unfold dM;rw[t1,t2,t3,t4];rfl);exact Zx
 ·have HR:=Vs (show dM t=0 by unfold dM;rw[t1,t2,t3,t4];rfl);exact Zx
end
end Go.Proofs.YtmliacdegmklaaaGreatDoor
