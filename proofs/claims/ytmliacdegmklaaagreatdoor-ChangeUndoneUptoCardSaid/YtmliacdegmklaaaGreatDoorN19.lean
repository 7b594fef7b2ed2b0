/- ChangeUndone of kingpostlaw58: part 19 of its proof (merged and shortened by program). -/
import Derived.Test.YtmliacdegmklaaaGreatDoorN15
import Derived.Test.YtmliacdegmklaaaGreatDoorN16
set_option linter.unusedVariables false
set_option linter.unusedSimpArgs false
set_option linter.defProp false
set_option maxHeartbeats 8000000
set_option maxRecDepth 100000
open Go.RowKit Go.Shelf Go.Proofs.Tryz
open Array renaming getElem?_eq_some_iff→VF
open Bool renaming false→Vw,true→VD
open Go renaming World→Vt,Value→Vy,undef→VB,wpOp_step→VE,Calls→VJ,maxLen→VP,TypeId→VR,Addr→VT
open Go.AllReady renaming cons→VO,nil→VU
open Go.Ending renaming returned→V0
open Go.IntKind renaming i64→VH
open Go.IntWalk renaming i64_in→VQ
open Go.Lib renaming hid→Vs
open Go.RowKit renaming intOf→VN,Below→VS
open Go.Value renaming slice→VV,string→VW,bool→VX,pointer→VY,int→VZ,agg→V5,tuple→V6
open Go.World renaming alloc_heap_new→VG,size_alloc→VK
open List renaming getD_eq_getElem?_getD→Vv,getElem?_eq_getElem→VA,length_map→VC,length_append→VM,length→ln
open Nat renaming le_refl→Vu,le_trans→VI,mul_comm→VL
open Option renaming none→Vx,some→Vz
open Go.Proofs.YtmliacdegmklaaaGreatDoor
variable{p:Prop}
namespace Go.Proofs.YtmliacdegmklaaaGreatDoor
section
open Kp
def Oz(b:Br)(k:Nat):uO b k=(if decide ((b.gaps.getD k (0,0)).1<0)||decide ((b.gaps.getD k (0,0)).1>=(b.gaps.getD k (0,0)).2)||decide ((b.gaps.getD k (0,0)).2>b.length) then 2 else if decide (0<k)&&decide ((b.gaps.getD k (0,0)).1<=(b.gaps.getD (k-1) (0,0)).2) then 10 else 0):=by
 unfold uO;dsimp only;have e1:((b.gaps.getD k (0,0)).1<0\/b.length<(b.gaps.getD k (0,0)).2\/(b.gaps.getD k (0,0)).2<=(b.gaps.getD k (0,0)).1)↔(decide ((b.gaps.getD k (0,0)).1<0)||decide ((b.gaps.getD k (0,0)).1>=(b.gaps.getD k (0,0)).2)||decide ((b.gaps.getD k (0,0)).2>b.length))=VD:=by
  simp only[Bool.or_eq_true,decide_eq_true_eq];omega
 have e2:(0<k/\(b.gaps.getD k (0,0)).1<=(b.gaps.getD (k-1) (0,0)).2)↔(decide (0<k)&&decide ((b.gaps.getD k (0,0)).1<=(b.gaps.getD (k-1) (0,0)).2))=VD:=by
  simp only[Bool.and_eq_true,decide_eq_true_eq]
 simp only[e1,e2]
theorem qL(h:p:=by
  have hv:=HV.o;simp at hv;subst hv;go_enter func113,ntmps113;go_wp2_with(go_at_call 177;go_must(refine(qZ _ _ _ _).mono ?_);rintro e W1 ⟨rfl,rfl⟩)
  go_ret;exact⟨rfl,E0.o⟩):p:=h
theorem zi(h:p:=by
  have he:=HE.o;simp at he;have hv:=HF.o _ he V9;subst hv;clear he;go_wp2;go_ret;exact⟨rfl,HXw.o.tr EG.o⟩):p:=h
def Mr(b:Br)(ga:Option VT)(gc:Nat)(w:Vt)(hs:bJ 2 w w.heap.size ga gc (di b.gaps)):
  VJ prog 113 #[V5 (qU b ga gc).toArray] w λx w'=>x=V0 (VZ VH (qH b))/\Ext w w':=by
 have h1:=hs.1;have h2:=hs.2.1;rw[VC] at h1;unfold VP at h2;have R0:=Vs (ai.new w 62 (qU b ga gc));have E0:=Vs (show Ext w (w.alloc (.cells (qU b ga gc).toArray 62)) from(Below.refl _ _).alloc (Vu _) _);have HL:=Vs (λ(W:Vt) (hx:Ext w W)=>((hs.below hx).more hx.size:bJ 2 W W.heap.size ga gc (di b.gaps)));have c:=λi=>R0.o.cell i
 clear hs;obtain⟨v,hv⟩:∃v,qH b=v:=⟨_,rfl⟩;rw[hv];have hv0:v=(if !(aP b.width 1 1000&&aP b.depth 1 1000&&aP b.length 1 65536&&aP b.count 0 4096&&aP b.cost 0 1073741824) then 2 else if 16<b.gaps.length then 4 else aV (uO b) b.gaps.length):=hv.symm;clear hv;obtain⟨FE,hFE⟩:∃F:Nat->Int,uO b=F:=⟨_,rfl⟩;rw[hFE] at hv0;have HGE:=Vs (λk=>hFE▸Oz b k);clear hFE;obtain⟨wd,dp,ln,ct,co,gaps⟩:=b;dsimp only at h1 HL hv0 HGE;obtain⟨b0,t0⟩:∃b,aP wd 1 1000=b:=⟨_,rfl⟩;obtain⟨b1,t1⟩:∃b,aP dp 1 1000=b:=⟨_,rfl⟩;obtain⟨b2,t2⟩:∃b,aP ln 1 65536=b:=⟨_,rfl⟩;obtain⟨b3,t3⟩:∃b,aP ct 0 4096=b:=⟨_,rfl⟩;obtain⟨b4,t4⟩:∃b,aP co 0 1073741824=b:=⟨_,rfl⟩;rw[t0,t1,t2,t3,t4] at hv0;have HV:=Vs hv0;clear hv0;cases b0
 ·exact qL
 cases b1
 ·exact qL
 cases b2
 ·exact qL
 cases b3
 ·exact qL
 cases b4
 ·exact qL
 have hv1:v=(if 16<gaps.length then 4 else aV FE gaps.length):=HV.o;clear HV;by_cases h16:16<gaps.length
 case pos=>
  have t5:decide ((gaps.length:Int)>16)=VD:=decide_eq_true V7;rw[if_pos h16] at hv1;subst hv1;clear h16;go_enter func113,ntmps113;go_wp2_with(go_at_call 177;go_must(refine(qZ _ _ _ _).mono ?_);rintro e W1 ⟨rfl,rfl⟩)
  go_ret;exact⟨rfl,E0.o⟩
 have t5:decide ((gaps.length:Int)>16)=Vw:=decide_eq_false V7;rw[if_neg h16] at hv1;have HV1:=Vs hv1;clear h16 hv1;go_enter func113,ntmps113;go_wp2_with(go_at_call 177;go_must(refine(qZ _ _ _ _).mono ?_);rintro e W1 ⟨rfl,rfl⟩)
 clear c;go_loopw [3] (λi wr=>∃k:Nat,i=VZ VH (k:Int)/\k<=gaps.length/\Ext (w.alloc (.cells (qU ⟨wd,dp,ln,ct,co,gaps⟩ ga gc).toArray 62)) wr/\∀j,j<k->FE j=0) (λi _=>((gaps.length:Int)-VN i).toNat)
 case atStart=>exact⟨0,rfl,V7,Below.refl _ _,λj h=>V7⟩
 case round=>
  obtain⟨k,rfl,hk,hX,hA1⟩:=hrel;have HX:=Vs hX;have HXw:=Vs (E0.o.tr hX);have A1:=Vs hA1;have c:=λi=>(R0.o.ext hX).cell i
  clear hA1;by_cases hlt:k<gaps.length
  ·obtain⟨bk,ok,rfl,hb,hc⟩:=MK (HL.o _ HXw.o) V7;obtain⟨y0,y1⟩:=hc k hlt;have HF:=Vs (λ(z:Int) (h:FE k=z) (hz:z≠0)=>show v=z by rw[HV1.o,<-h];exact bS hlt A1.o (by rw[h];exact hz));have HOK:=Vs (λh:FE k=0=>jh (P:=λj=>FE j=0) A1.o h);have he:=HGE.o k;obtain⟨fr,hfr⟩:∃x,(gaps.getD k (0,0)).1=x:=⟨_,rfl⟩;obtain⟨tw,hto⟩:∃x,(gaps.getD k (0,0)).2=x:=⟨_,rfl⟩;rw[hfr,hto] at he;rw[hfr] at y0;rw[hto] at y1;have HC:=Vs hc;have HB:=Vs hb;obtain⟨p1,q1⟩:∃p,decide (fr<0)=p:=⟨_,rfl⟩;obtain⟨p2,q2⟩:∃p,decide (fr>=tw)=p:=⟨_,rfl⟩;obtain⟨p3,q3⟩:∃p,decide (tw>ln)=p:=⟨_,rfl⟩;rw[q1,q2,q3] at he;have HE:=Vs he;have RG:=ai.new wr 84 [VZ VH fr,VZ VH tw];have EG:=Vs (show Ext wr (wr.alloc (.cells #[VZ VH fr,VZ VH tw] 84)) from(Below.refl _ _).alloc (Vu _) _);have cg:=λi=>RG.cell i
   have cb:=λi=>(R0.o.ext (hX.tr EG.o)).cell i
   clear hX hc hb hfr hto RG he;cases p1
   case true=>exact zi
   cases p2
   case true=>exact zi
   cases p3
   case true=>exact zi
   have he2:FE k=(if decide (0<k)&&decide (fr<=(gaps.getD (k-1) (0,0)).2) then 10 else 0):=HE.o;by_cases hk0:k=0
   ·subst hk0;have HO:=Vs (HOK.o he2);rw[Nat.zero_mul,Nat.add_zero] at y0 y1;clear he2;go_wp2_with fail
    go_quiet (fail)
    go_wp2;exact⟨⟨1,by go_num,V7,below_drewN (HX.o.tr EG.o) _,HO.o⟩,Wc⟩
   ·have t5:decide ((k:Int)>0)=VD:=decide_eq_true V7;have t6:0<k:=V7;rw[decide_eq_true t6,Bool.true_and] at he2;have w1:VH.wrap ((k:Int)-1)=((k-1:Nat):Int):=by rw[VQ _ V7];omega
    have hkl:k-1<gaps.length:=V7;obtain⟨z0,z1⟩:=HC.o (k-1) hkl;have z1':=(EG.o.cell (p:=⟨bk,ok+(k-1)*2+1,Vx⟩) HB.o).trans z1;have z0':=(EG.o.cell (p:=⟨bk,ok+(k-1)*2,Vx⟩) HB.o).trans z0;obtain⟨pt,hpt⟩:∃x,(gaps.getD (k-1) (0,0)).2=x:=⟨_,rfl⟩;rw[hpt] at z1' he2;obtain⟨k1,hk1⟩:∃q,k-1=q:=⟨_,rfl⟩;rw[hk1] at w1 hkl z0' z1';clear z0 z1 hpt hk1;obtain⟨p5,q5⟩:∃p,decide (fr<=pt)=p:=⟨_,rfl⟩;rw[q5] at he2;have HE2:=Vs he2;clear he2;cases p5
    ·have HO:=Vs (HOK.o HE2.o);go_wp2_with fail
     go_quiet (fail)
     go_wp2;exact⟨⟨k+1,by go_num,V7,below_drewN (HX.o.tr EG.o) _,HO.o⟩,Wc⟩
    ·have hv:=HF.o 10 HE2.o V9;subst hv;go_wp2_with fail
     go_quiet (fail)
     go_wp2;go_ret;exact⟨rfl,below_drewN (HXw.o.tr EG.o) _⟩
  ·obtain rfl:k=gaps.length:=V7;have hv:v=0:=by rw[HV1.o];exact be A1.o
   subst hv;go_wp2;go_ret;exact⟨rfl,HXw.o⟩
def DW(w:Vt)(A:Option VT)(cap:Nat)(l:List Br)(hl:fT w w.heap.size A cap l):
  VJ prog 51 #[VV A (ln l) cap] w λx w'=>x=V0 (VZ VH (iM l))/\Ext w w':=by
 have h1:=hl.1;have h2:=hl.2.1;unfold VP at h2;have HL:=Vs (λ(W:Vt) (hx:Ext w W)=>((hl.below hx).more hx.size:fT W W.heap.size A cap l));clear hl;obtain⟨v,hv⟩:∃v,iM l=v:=⟨_,rfl⟩;rw[hv];have hv0:v=(if 64<ln l then 4 else aV (λi=>qH (l.getD i oN)) (ln l)):=hv.symm;clear hv;by_cases h64:64<ln l
 case pos=>
  have t5:decide ((ln l:Int)>64)=VD:=decide_eq_true V7;rw[if_pos h64] at hv0;subst hv0;clear h64;go_enter func51,ntmps51;go_wp2;go_ret;exact⟨rfl,Below.refl _ _⟩
 have t5:decide ((ln l:Int)>64)=Vw:=decide_eq_false V7;rw[if_neg h64] at hv0;have HV:=Vs hv0;clear h64 hv0;go_enter func51,ntmps51;go_wp2;go_loopw [3] (λi wr=>∃k:Nat,i=VZ VH (k:Int)/\k<=ln l/\Ext w wr/\∀j,j<k->qH (l.getD j oN)=0) (λi _=>((ln l:Int)-VN i).toNat)
 case atStart=>exact⟨0,rfl,V7,Below.refl _ _,λj h=>V7⟩
 case round=>
  obtain⟨k,rfl,hk,hX,hA1⟩:=hrel;have HX:=Vs hX;have A1:=Vs hA1;clear hA1;by_cases hlt:k<ln l
  ·obtain⟨b,off,f,rfl,hb,hc⟩:=oI (HL.o _ hX) V7;obtain⟨hq,hs⟩:=hc k hlt;have KB:=Vs (Mr (l.getD k oN) (f k).1 (f k).2 wr hs);have HF:=Vs (λ(z:Int) (h:qH (l.getD k oN)=z) (hz:z≠0)=>show v=z by rw[HV.o,<-h];exact bS (f:=λi=>qH (l.getD i oN)) hlt A1.o (by rw[h];exact hz));have HOK:=Vs (λh:qH (l.getD k oN)=0=>jh (P:=λj=>qH (l.getD j oN)=0) A1.o h);obtain⟨x,hx⟩:∃x,l.getD k oN=x:=⟨_,rfl⟩;obtain⟨ga,hga⟩:∃x,(f k).1=x:=⟨_,rfl⟩;obtain⟨gc,hgc⟩:∃x,(f k).2=x:=⟨_,rfl⟩;rw[hx,hga,hgc] at hq KB;rw[hx] at HF HOK;obtain⟨z,hz⟩:∃z,qH x=z:=⟨_,rfl⟩;rw[hz] at KB HF HOK;clear hz;obtain⟨wd,dp,ln,ct,co,gaps⟩:=x;have y0:=hq 0 V9;have y1:=hq 1 V9;have y2:=hq 2 V9;have y3:=hq 3 V9;have y4:=hq 4 V9;have y5:=hq 5 V9;rw[Nat.add_zero] at y0;clear hq hs hX hc hx hga hgc;by_cases hz:z=0
   ·subst hz;have HO:=Vs (HOK.o rfl);go_wp2_with(go_at_call 113;go_must(refine KB.o.mono ?_);rintro e W1 ⟨rfl,hX1⟩;have HX1:=Vs (Ext.tr HX.o hX1);clear hX1)
    exact⟨⟨k+1,by go_num,V7,HX1.o,HO.o⟩,Wc⟩
   ·have tz:(z !=0)=VD:=bne_iff_ne.2 hz;have hv:=HF.o z rfl hz;subst hv;clear hz;go_wp2_with(go_at_call 113;go_must(refine KB.o.mono ?_);rintro e W1 ⟨rfl,hX1⟩;have HX1:=Vs (Ext.tr HX.o hX1);clear hX1)
    go_ret;exact⟨rfl,HX1.o⟩
  ·exact a0U
end
end Go.Proofs.YtmliacdegmklaaaGreatDoor
