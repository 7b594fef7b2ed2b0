/- ChangeUndone of kingpostlaw58: part 6 of its proof (merged and shortened by program). -/
import Derived.Test.YtmliacdegmklaaaGreatDoorN02
import Derived.Test.YtmliacdegmklaaaGreatDoorN03
set_option linter.unusedVariables false
set_option linter.unusedSimpArgs false
set_option linter.defProp false
set_option maxHeartbeats 8000000
set_option maxRecDepth 100000
open Go.RowKit Go.Shelf Go.Proofs.Tryz
open Array renaming getElem?_eq_some_iff→VF
open Bool renaming false→Vw,true→VD
open Go renaming World→Vt,Value→Vy,undef→VB,wpOp_step→VE,Calls→VJ,maxLen→VP,TypeId→VR,Addr→VT
open Go.AllReady renaming cons→VO,nil→VU
open Go.Ending renaming returned→V0
open Go.IntKind renaming i64→VH
open Go.IntWalk renaming i64_in→VQ
open Go.Lib renaming hid→Vs
open Go.RowKit renaming intOf→VN,Below→VS
open Go.Value renaming slice→VV,string→VW,bool→VX,pointer→VY,int→VZ,agg→V5,tuple→V6
open Go.World renaming alloc_heap_new→VG,size_alloc→VK
open List renaming getD_eq_getElem?_getD→Vv,getElem?_eq_getElem→VA,length_map→VC,length_append→VM,length→ln
open Nat renaming le_refl→Vu,le_trans→VI,mul_comm→VL
open Option renaming none→Vx,some→Vz
open Go.Proofs.YtmliacdegmklaaaGreatDoor
variable{z:ByteArray}{a b:List Nat}
namespace Go.Proofs.YtmliacdegmklaaaGreatDoor
section
open Kp
def vN{k:IntKind}{a b a' b':Int}(h1:a=a')(h2:b=b'):Ending.returned (V6 #[.int k a,.int k b])=V0 (V6 #[.int k a',.int k b']):=by rw[h1,h2]
def It(x y c:Nat)(w:Vt)(hx:x<1000000000)(hy:y<1000000000)(hc:c<=1):
  VJ prog 350 #[VZ VH (x:Int),VZ VH (y:Int),VZ VH (c:Int)] w λe w'=>e=V0 (V6 #[VZ VH (((x+y+c)%1000000000:Nat):Int),VZ VH (((x+y+c)/1000000000:Nat):Int)])/\w'=w:=by
 have e1:((x:Int)+(y:Int)+(c:Int))%1000000000=(((x+y+c)%1000000000:Nat):Int):=V7;have e2:((x:Int)+(y:Int)+(c:Int))/1000000000=(((x+y+c)/1000000000:Nat):Int):=V7;have E1:=Vs e1;have E2:=Vs e2;clear e1 e2;go_enter func350,ntmps350;go_wp2;go_ret2;exact⟨vN E1.o E2.o,rfl⟩
def Ee(x y c:Nat)(w:Vt)(hx:x<1000000000)(hy:y<1000000000)(hc:c<=1):
  VJ prog 351 #[VZ VH (x:Int),VZ VH (y:Int),VZ VH (c:Int)] w λe w'=>e=V0 (V6 #[VZ VH ((if y+c<=x then x-(y+c) else x+1000000000-(y+c):Nat):Int),VZ VH ((if y+c<=x then 0 else 1:Nat):Int)])/\w'=w:=by
 by_cases h:y+c<=x
 ·have E1:=Vs (show(x:Int)-y-c=((x-(y+c):Nat):Int) by omega);have t:decide (0<=(x:Int)-y-c)=VD:=Wn;exact YQ
 ·have E1:=Vs (show(x:Int)-y-c+1000000000=((x+1000000000-(y+c):Nat):Int) by omega);have t:decide (0<=(x:Int)-y-c)=Vw:=Wd;exact YQ
def oV(a b:List Nat):Nat->Nat×Nat
 |0=>(0,0)
 |k+1=>((fv a k+fv b k+(oV a b k).2)%1000000000,(fv a k+fv b k+(oV a b k).2)/1000000000)
def mY(a b:List Nat):Nat->Nat×Nat
 |0=>(0,0)
 |k+1=>(if fv b k+(mY a b k).2<=fv a k then fv a k-(fv b k+(mY a b k).2) else fv a k+1000000000-(fv b k+(mY a b k).2),if fv b k+(mY a b k).2<=fv a k then 0 else 1)
theorem JS(ha:Small a)(hb:Small b)(k:Nat):(oV a b k).2<=1/\(oV a b (k+1)).1<1000000000:=by
 have key:∀k,(oV a b k).2<=1:=by
  intro k;cases k with
  |zero=>exact Nat.zero_le _
  |succ k=>
   induction k with
   |zero=>
    have h1:=aB ha 0;have h2:=aB hb 0;show(fv a 0+fv b 0+0)/1000000000<=1;have h1':fv a 0<1000000000:=h1;have h2':fv b 0<1000000000:=h2;omega
   |succ k ih=>
    have h1:fv a (k+1)<1000000000:=aB ha _;have h2:fv b (k+1)<1000000000:=aB hb _;show(fv a (k+1)+fv b (k+1)+(oV a b (k+1)).2)/1000000000<=1;omega
 exact⟨key k,Nat.mod_lt _ V9⟩
theorem Fg(ha:Small a)(hb:Small b)(k:Nat):(mY a b k).2<=1/\(mY a b (k+1)).1<1000000000:=by
 have key:∀k,(mY a b k).2<=1:=by
  intro k;cases k with
  |zero=>exact Nat.zero_le _
  |succ k=>show(if _ then 0 else 1)<=1;split <;>omega
 refine⟨key k,?_⟩;have h1:fv a k<1000000000:=aB ha _;have h2:fv b k<1000000000:=aB hb _;have h3:=key k;rw[mY];dsimp only;by_cases h:fv b k+(mY a b k).2<=fv a k
 ·rw[if_pos h];omega
 ·rw[if_neg h];omega
theorem PD(k:Nat):S (fv (bV (oV a b) k)) k+(oV a b k).2*B^k=S (fv a) k+S (fv b) k:=by
 induction k with
 |zero=>rfl
 |succ k ih=>
  have e:S (fv (bV (oV a b) (k+1))) k=S (fv (bV (oV a b) k)) k:=dU λi hi=>by
   exact YS
  have e2:fv (bV (oV a b) (k+1)) k=(oV a b (k+1)).1:=by
   exact YR
  rw[bR,bR,bR,e,e2,Nat.pow_succ];have h:=Nat.div_add_mod (fv a k+fv b k+(oV a b k).2) 1000000000;have h1:(oV a b (k+1)).1=(fv a k+fv b k+(oV a b k).2)%1000000000:=rfl;have h2:(oV a b (k+1)).2=(fv a k+fv b k+(oV a b k).2)/1000000000:=rfl;rw[<-h1,<-h2] at h;have h3:=congrArg (· *B^k) h;simp only[Nat.add_mul] at h3;have h4:(oV a b (k+1)).2*(B^k*B)=1000000000*(oV a b (k+1)).2*B^k:=by
   show _=B*(oV a b (k+1)).2*B^k;rw[VL (B^k) B,<-Nat.mul_assoc,VL _ B]
  rw[h4];generalize 1000000000*(oV a b (k+1)).2*B^k=u at *;generalize(oV a b (k+1)).1*B^k=v at *;generalize fv a k*B^k=p at *;generalize fv b k*B^k=q at *;generalize(oV a b k).2*B^k=r at *;omega
theorem PG(ha:Small a)(hb:Small b)(k:Nat):S (fv (bV (mY a b) k)) k+S (fv b) k=S (fv a) k+(mY a b k).2*B^k:=by
 induction k with
 |zero=>rfl
 |succ k ih=>
  have e:S (fv (bV (mY a b) (k+1))) k=S (fv (bV (mY a b) k)) k:=dU λi hi=>by
   exact YS
  have e2:fv (bV (mY a b) (k+1)) k=(mY a b (k+1)).1:=by
   exact YR
  rw[bR,bR,bR,e,e2,Nat.pow_succ];have h1:fv a k<1000000000:=aB ha _;have h2:fv b k<1000000000:=aB hb _;have hc:=(Fg ha hb k).1;have h:(mY a b (k+1)).1+fv b k+(mY a b k).2=fv a k+(mY a b (k+1)).2*1000000000:=by
   rw[mY];dsimp only;by_cases h:fv b k+(mY a b k).2<=fv a k
   ·rw[if_pos h,if_pos h];omega
   ·rw[if_neg h,if_neg h];omega
  have h3:=congrArg (· *B^k) h;simp only[Nat.add_mul] at h3;have h4:(mY a b (k+1)).2*(B^k*B)=(mY a b (k+1)).2*1000000000*B^k:=by
   show _=(mY a b (k+1)).2*B*B^k;rw[VL (B^k) B,<-Nat.mul_assoc]
  rw[h4];generalize(mY a b (k+1)).2*1000000000*B^k=u at *;generalize(mY a b (k+1)).1*B^k=v at *;generalize fv a k*B^k=p at *;generalize fv b k*B^k=q at *;generalize(mY a b k).2*B^k=r at *;omega
end
section
open Kp
def vf(a:List UInt8)(w:Vt)(hs:ln a<=300000)(hm:fG w)(ht:aW w):VJ prog 242 #[VW (tx a)] w λe w'=>
  ∃x y:ByteArray,e=V0 (V6 #[VW x,VW y,VZ VH (bU a)])/\(bU a=0->∃n d,dP a=Vz (n,d)/\x=tx n/\y=tx d)/\Ext w w':=by
 have cr:=Vs (oz a w hs hm ht);obtain⟨c,hc⟩:∃c,bU a=c:=⟨_,rfl⟩;unfold yA at cr;rw[hc] at cr⊢;clear hm ht hc;go_enter func242,ntmps242;go_wp2_with(go_at_call 231;go_must(refine cr.o.mono ?_);rintro e W1 ⟨x,y,rfl,hp,hX1⟩;have HP:=Vs hp;clear hp)
 go_quiet (fail)
 go_wp2;refine bodyPost_ret (v:= V6 #[VW x,VW y,VZ VH c]) ?_ rfl ⟨x,y,rfl,HP.o,?_⟩
 ·simp[results,results242,go_sem]
 ·exact below_drewN (hX1.alloc hX1.size _) _
end
section
open Kp
noncomputable def ml(a:List UInt8):Int:=if bU a=0 then(match dP a with|none=>0|some (n,d)=>if 12<(own n).length\/12<ln d then 4 else 0) else bU a
def Ba(a:List UInt8)(w:Vt)(hs:ln a<=300000)(hm:fG w)(ht:aW w):VJ prog 271 #[VW (tx a)] w λe w'=>e=V0 (VZ VH (ml a))/\Ext w w':=by
 have cr:=Vs (vf a w hs hm ht);clear hm ht;by_cases h0:bU a=0
 ·rw[h0] at cr;cases hcu:dP a with
  |none=>
   have HX:=Vs hcu;refine absurd hcu ?_;intro _;obtain⟨n,d,hnd⟩:∃n d,dP a=Vz (n,d):=by
    unfold bU at h0;rw[hcu] at h0;cases h0
   rw[hnd] at hcu;cases hcu
  |some p=>
   obtain⟨n,d⟩:=p;have HN:=Vs (show ml a=if 12<(own n).length\/12<ln d then 4 else 0 by unfold ml;rw[if_pos h0,hcu]);have HC:=Vs hcu;clear h0 hcu;obtain⟨o,ho⟩:∃o,own n=o:=⟨_,rfl⟩;rw[ho] at HN;have HO:=Vs ho;clear ho;by_cases h1:12<ln o
   ·have HR:=Vs (show ml a=4 by rw[HN.o,if_pos (.inl h1)]);exact Ze
   by_cases h2:12<ln d
   ·have HR:=Vs (show ml a=4 by rw[HN.o,if_pos (.inr h2)]);exact Ze
   ·have HR:=Vs (show ml a=0 by rw[HN.o,if_neg V7]);exact Ze
 ·have HR:=Vs (show ml a=bU a by unfold ml;rw[if_neg h0]);obtain⟨c,hc⟩:∃c,bU a=c:=⟨_,rfl⟩;rw[hc] at cr HR h0;have h0':(c !=0)=VD:=by rw[bne_iff_ne];exact h0
  clear hc h0;go_enter func271,ntmps271;go_wp2_with(go_at_call 242;go_must(refine cr.o.mono ?_);rintro e W1 ⟨x,y,rfl,hp,hX1⟩;clear hp)
  go_ret;exact⟨We,hX1⟩
end
section
open Kp
def EK(z:ByteArray):Bool:=z.data.toList.head?==Vz 45
def Kc(z:ByteArray):Nat:=if EK z then cJ (z.extract 1 z.size) (z.extract 1 z.size).size else cJ z z.size
theorem PK(h:0<z.size):EK z=(((z[0]'h).toNat:Int)==45):=by
 unfold EK;rw[List.head?_eq_getElem?,VA Xp];have e:z.data.toList[0]'Xp=z[0]'h:=WY;rw[e];generalize z[0]'h=b;by_cases hb:b=45
 ·subst hb;rfl
 ·have h1:(Vz b==Vz (45:UInt8))=Vw:=by simpa using hb
  rw[h1,eq_comm,beq_eq_false_iff_ne];intro e;exact hb (UInt8.toNat_inj.1 (by show b.toNat=45;omega))
def MT(z:ByteArray)(w:Vt)(e:Ending)(w':Vt):Prop:=∃v l,e=V0 (V5 #[VX (EK z),v])/\bB w' w'.heap.size v l/\aY l/\ln l<=51/\Ext w w'/\al l=Kc z
def Ig(w:Vt)(z:ByteArray)(hz:Kh z):VJ prog 282 #[VW z] w (MT z w):=by
 obtain⟨i0,hi,hz0,hz1,hz2⟩:=info_parts eA;have I0:=Vs hi;have I1:=Vs hz0;have I2:=Vs hz1;have I3:=Vs hz2;obtain⟨f,hf1,hfz,hd,h300,h45⟩:=hz.ex;have hp:0<z.size:=V7;obtain⟨y,hy⟩:∃y:ByteArray,z.extract f z.size=y:=⟨_,rfl⟩;have hys:y.size=z.size-f:=by rw[<-hy,ByteArray.size_extract,Nat.min_self]
 have hyd:Sp y 0 y.size:=by
  exact a0k
 obtain⟨p,hpp⟩:∃p,(((z[0]'hp).toNat:Int)==45)=p:=⟨_,rfl⟩;have hpf:p=decide (f=1):=by
  exact a0j
 have hfy:f=0->z=y:=by
  intro e;subst e;rw[<-hy];simp[ByteArray.extract_zero_size]
 clear hi hz0 hz1 hz2 hz h45;have YD:=Vs hyd;have HYS:=Vs hys;have hyl:y.size<=300:=V7;have hy0:0<y.size:=V7;have HFY:=Vs hfy;have START:=Vs (show∀s,xA w s y (VZ VH (y.size:Int)) ((w.alloc (Obj.cells #[VX Vw,VV Vx 0 0] 308)).alloc (Obj.cells #[VX s,VV Vx 0 0] 308)) fromλs=>
  ⟨_,_,[],rfl,Wa,V7,by simp[al,S6],(ai.new w _ _).ext ((Below.refl _ _).alloc (Vu _) _),Xa,⟨rfl,.inl ⟨rfl,rfl⟩⟩,(λ_ h=>Wb),((Below.refl _ _).alloc (Vu _) _).alloc Wa _⟩)
 have hsg:=PK hp;rw[hpp] at hsg;have hmg:Kc z=cJ y y.size:=by
  unfold Kc;rw[hsg,hpf];by_cases e:f=1
  ·subst e;rw[decide_eq_true rfl,if_pos rfl,hy]
  ·rw[decide_eq_false e];obtain rfl:=hfy V7
   rfl
 have HSG:=Vs hsg;have HMG:=Vs hmg;clear hyd hfy hsg hmg;clear hys;cases p with
 |true=>
  obtain rfl:f=1:=by simpa using hpf.symm
  have HY:=Vs hy;clear hpf hy h300 hd;go_enter func282,ntmps282;go_wp2_with fail
  rw[HY.o,<-HYS.o];have ST:=Vs (START.o VD);go_loopw [4] (λe wr=>xA w VD y e wr) (λe _=>(VN e+6).toNat)
  case atStart=>exact ST.o
  case round=>
   obtain⟨k,v,l,rfl,hk,hk6,hV,hM⟩:=hrel;have HVV:=Vs hV;clear hV;have HM:=Vs hM;have HK:=Vs hk;have HYL:=Vs hyl;by_cases hpos:0<k
   ·exact a0i
   ·have hM2:=HM.o;obtain⟨A4,n4,c4,e4⟩:=ng.of hM2.own;subst e4;have hsl:=dd hM2.own rfl;have CT:=Vs (show VJ prog 311 #[VV A4 n4 c4] wr λe w'=>e=V0 (VV A4 (aA l).length c4)/\wr=w' from dF wr _ _ l hsl);have hst:=hsl.trimmed;obtain⟨q,hq⟩:∃q,(aA l).length=q:=⟨_,rfl⟩;have hl51:(aA l).length<=51:=VI (aR _) XA;have hcl:=hM2.num.cell 1;have r1:=hM2.num.p8 (VV A4 q c4);have r2:=hM2.res.dz (p:=⟨w.heap.size+1,1,Vx⟩) Wa (VV A4 q c4);have f1:=hM2.num.frozen 1;have c0:=r1.cell 0;have c1:=r1.cell 1;have d0:=r2.cell 0;have d1:=r2.cell 1;have g0:=r2.frozen 0;have g1:=r2.frozen 1;have r3:=r2.fV (VX VD) (VV A4 q c4);have HQ0:=Vs (r3.cell 0);have HQ1:=Vs (r3.cell 1);have hxx:Ext w (((wr.setCell ⟨w.heap.size+1,1,Vx⟩ (VV A4 q c4)).setCell ⟨w.heap.size,0,Vx⟩ (VX VD)).setCell ⟨w.heap.size,1,Vx⟩ (VV A4 q c4)):=((hM2.ext.setCell (p:=⟨w.heap.size+1,1,Vx⟩) Wa _).setCell (p:=⟨w.heap.size,0,Vx⟩) Wa _).setCell (p:=⟨w.heap.size,1,Vx⟩) Wa _;have hfin:MT z w (V0 (V5 #[VX VD,VV A4 q c4])) (((wr.setCell ⟨w.heap.size+1,1,Vx⟩ (VV A4 q c4)).setCell ⟨w.heap.size,0,Vx⟩ (VX VD)).setCell ⟨w.heap.size,1,Vx⟩ (VV A4 q c4)):=by
     refine⟨_,aA l,by rw[HSG.o],?_,dq hM2.small,hl51,hxx,by rw[eH,HMG.o];have h:=HVV.o;rw[show k.toNat=0 by omega] at h;simpa[cJ] using h⟩;exact a0h
    exact a0g
 |false=>
  have h0:f=0:=by
   have:¬f=1:=by simpa using hpf.symm
   omega
  obtain rfl:=HFY.o h0;clear hpf hy h300 hd HFY;have ST:=Vs (START.o Vw);go_enter func282,ntmps282;go_wp2_with fail
  go_loopw [4] (λe wr=>xA w Vw z e wr) (λe _=>(VN e+6).toNat)
  case atStart=>exact ST.o
  case round=>
   obtain⟨k,v,l,rfl,hk,hk6,hV,hM⟩:=hrel;have HVV:=Vs hV;clear hV;have HM:=Vs hM;have HK:=Vs hk;have HYL:=Vs hyl;by_cases hpos:0<k
   ·exact a0f
   ·have hM2:=HM.o;obtain⟨A4,n4,c4,e4⟩:=ng.of hM2.own;subst e4;have hsl:=dd hM2.own rfl;have CT:=Vs (show VJ prog 311 #[VV A4 n4 c4] wr λe w'=>e=V0 (VV A4 (aA l).length c4)/\wr=w' from dF wr _ _ l hsl);have hst:=hsl.trimmed;obtain⟨q,hq⟩:∃q,(aA l).length=q:=⟨_,rfl⟩;have hl51:(aA l).length<=51:=VI (aR _) XA;have hcl:=hM2.num.cell 1;have r1:=hM2.num.p8 (VV A4 q c4);have r2:=hM2.res.dz (p:=⟨w.heap.size+1,1,Vx⟩) Wa (VV A4 q c4);have f1:=hM2.num.frozen 1;have c0:=r1.cell 0;have c1:=r1.cell 1;have d0:=r2.cell 0;have d1:=r2.cell 1;have g0:=r2.frozen 0;have g1:=r2.frozen 1;have r3:=r2.fV (VX Vw) (VV A4 q c4);have HQ0:=Vs (r3.cell 0);have HQ1:=Vs (r3.cell 1);have hxx:Ext w (((wr.setCell ⟨w.heap.size+1,1,Vx⟩ (VV A4 q c4)).setCell ⟨w.heap.size,0,Vx⟩ (VX Vw)).setCell ⟨w.heap.size,1,Vx⟩ (VV A4 q c4)):=((hM2.ext.setCell (p:=⟨w.heap.size+1,1,Vx⟩) Wa _).setCell (p:=⟨w.heap.size,0,Vx⟩) Wa _).setCell (p:=⟨w.heap.size,1,Vx⟩) Wa _;have hfin:MT z w (V0 (V5 #[VX Vw,VV A4 q c4])) (((wr.setCell ⟨w.heap.size+1,1,Vx⟩ (VV A4 q c4)).setCell ⟨w.heap.size,0,Vx⟩ (VX Vw)).setCell ⟨w.heap.size,1,Vx⟩ (VV A4 q c4)):=by
     refine⟨_,aA l,by rw[HSG.o],?_,dq hM2.small,hl51,hxx,by rw[eH,HMG.o];have h:=HVV.o;rw[show k.toNat=0 by omega] at h;simpa[cJ] using h⟩;exact a0e
    exact a0d
end
end Go.Proofs.YtmliacdegmklaaaGreatDoor
