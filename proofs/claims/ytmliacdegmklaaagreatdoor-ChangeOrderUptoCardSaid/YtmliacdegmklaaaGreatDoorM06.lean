/- ChangeReplays of kingpostlaw58: part 6 of its proof (merged and shortened by program). -/
import Derived.Test.YtmliacdegmklaaaGreatDoorM02
import Derived.Test.YtmliacdegmklaaaGreatDoorM03
set_option linter.unusedVariables false
set_option linter.unusedSimpArgs false
set_option linter.defProp false
set_option maxHeartbeats 8000000
set_option maxRecDepth 100000
open Go.RowKit Go.Shelf Go.Proofs.Tryz
open Array renaming getElem?_eq_some_iff→Vz
open Bool renaming false→Vp,true→Vv,and_eq_true_iff→Vw
open Go renaming World→Vl,Value→Vr,undef→Vs,wpOp_step→Vx,Calls→VC,maxLen→VJ,TypeId→VK,Addr→VM,Rows→VP
open Go.AllReady renaming cons→VH,nil→VO
open Go.Ending renaming returned→VV
open Go.IntKind renaming i64→VA
open Go.IntWalk renaming i64_in→VI
open Go.Lib renaming hid→Vk
open Go.RowKit renaming intOf→VG,Below→VL
open Go.Value renaming slice→VQ,string→VR,bool→VS,pointer→VT,int→VU,agg→VW,tuple→VX
open Go.World renaming alloc_heap_new→Vy,size_alloc→VF
open List renaming getD_eq_getElem?_getD→Vn,getElem?_eq_getElem→Vt,length_map→Vu,length_append→VD
open Nat renaming le_refl→Vm,le_trans→VB,mul_comm→VE
open Option renaming none→Vo,some→Vq
open Option.some renaming inj→VN
open Go.Proofs.YtmliacdegmklaaaGreatDoor
namespace Go.Proofs.YtmliacdegmklaaaGreatDoor
section
open Kp
def vU{k:IntKind}{a b a' b':Int}(h1:a=a')(h2:b=b'):Ending.returned (VX #[.int k a,.int k b])=VV (VX #[.int k a',.int k b']):=by rw[h1,h2]
def Iq(x y c:Nat)(w:Vl)(hx:x<1000000000)(hy:y<1000000000)(hc:c<=1):
  VC prog 350 #[VU VA (x:Int),VU VA (y:Int),VU VA (c:Int)] w λe w'=>e=VV (VX #[VU VA (((x+y+c)%1000000000:Nat):Int),VU VA (((x+y+c)/1000000000:Nat):Int)])/\w'=w:=by
 have e1:((x:Int)+(y:Int)+(c:Int))%1000000000=(((x+y+c)%1000000000:Nat):Int):=VY;have e2:((x:Int)+(y:Int)+(c:Int))/1000000000=(((x+y+c)/1000000000:Nat):Int):=VY;have E1:=Vk e1;have E2:=Vk e2;clear e1 e2;go_enter func350,ntmps350;go_wp2;go_ret2;exact⟨vU E1.o E2.o,rfl⟩
def EV(x y c:Nat)(w:Vl)(hx:x<1000000000)(hy:y<1000000000)(hc:c<=1):
  VC prog 351 #[VU VA (x:Int),VU VA (y:Int),VU VA (c:Int)] w λe w'=>e=VV (VX #[VU VA ((if y+c<=x then x-(y+c) else x+1000000000-(y+c):Nat):Int),VU VA ((if y+c<=x then 0 else 1:Nat):Int)])/\w'=w:=by
 by_cases h:y+c<=x
 ·have E1:=Vk (show(x:Int)-y-c=((x-(y+c):Nat):Int) by omega);have t:decide (0<=(x:Int)-y-c)=Vv:=Wh;exact YR
 ·have E1:=Vk (show(x:Int)-y-c+1000000000=((x+1000000000-(y+c):Nat):Int) by omega);have t:decide (0<=(x:Int)-y-c)=Vp:=V8;exact YR
def oR(a b:List Nat):Nat->Nat×Nat
 |0=>(0,0)
 |k+1=>((fv a k+fv b k+(oR a b k).2)%1000000000,(fv a k+fv b k+(oR a b k).2)/1000000000)
def ng(a b:List Nat):Nat->Nat×Nat
 |0=>(0,0)
 |k+1=>(if fv b k+(ng a b k).2<=fv a k then fv a k-(fv b k+(ng a b k).2) else fv a k+1000000000-(fv b k+(ng a b k).2),if fv b k+(ng a b k).2<=fv a k then 0 else 1)
def Me{a b:List Nat}(ha:Small a)(hb:Small b)(k:Nat):(oR a b k).2<=1/\(oR a b (k+1)).1<1000000000:=by
 have key:∀k,(oR a b k).2<=1:=by
  intro k;cases k with
  |zero=>exact Nat.zero_le _
  |succ k=>
   induction k with
   |zero=>
    have h1:=aA ha 0;have h2:=aA hb 0;show(fv a 0+fv b 0+0)/1000000000<=1;have h1':fv a 0<1000000000:=h1;have h2':fv b 0<1000000000:=h2;omega
   |succ k ih=>
    have h1:fv a (k+1)<1000000000:=aA ha _;have h2:fv b (k+1)<1000000000:=aA hb _;show(fv a (k+1)+fv b (k+1)+(oR a b (k+1)).2)/1000000000<=1;omega
 exact⟨key k,Nat.mod_lt _ V0⟩
def Fb{a b:List Nat}(ha:Small a)(hb:Small b)(k:Nat):(ng a b k).2<=1/\(ng a b (k+1)).1<1000000000:=by
 have key:∀k,(ng a b k).2<=1:=by
  intro k;cases k with
  |zero=>exact Nat.zero_le _
  |succ k=>show(if _ then 0 else 1)<=1;split <;>omega
 refine⟨key k,?_⟩;have h1:fv a k<1000000000:=aA ha _;have h2:fv b k<1000000000:=aA hb _;have h3:=key k;rw[ng];dsimp only;by_cases h:fv b k+(ng a b k).2<=fv a k
 ·rw[if_pos h];omega
 ·rw[if_neg h];omega
def OP{a b:List Nat}(k:Nat):S (fv (bV (oR a b) k)) k+(oR a b k).2*B^k=S (fv a) k+S (fv b) k:=by
 induction k with
 |zero=>rfl
 |succ k ih=>
  have e:S (fv (bV (oR a b) (k+1))) k=S (fv (bV (oR a b) k)) k:=dV λi hi=>by
   exact YT
  have e2:fv (bV (oR a b) (k+1)) k=(oR a b (k+1)).1:=by
   exact YS
  rw[bR,bR,bR,e,e2,Nat.pow_succ];have h:=Nat.div_add_mod (fv a k+fv b k+(oR a b k).2) 1000000000;have h1:(oR a b (k+1)).1=(fv a k+fv b k+(oR a b k).2)%1000000000:=rfl;have h2:(oR a b (k+1)).2=(fv a k+fv b k+(oR a b k).2)/1000000000:=rfl;rw[<-h1,<-h2] at h;have h3:=congrArg (· *B^k) h;simp only[Nat.add_mul] at h3;have h4:(oR a b (k+1)).2*(B^k*B)=1000000000*(oR a b (k+1)).2*B^k:=by
   show _=B*(oR a b (k+1)).2*B^k;rw[VE (B^k) B,<-Nat.mul_assoc,VE _ B]
  rw[h4];generalize 1000000000*(oR a b (k+1)).2*B^k=u at *;generalize(oR a b (k+1)).1*B^k=v at *;generalize fv a k*B^k=p at *;generalize fv b k*B^k=q at *;generalize(oR a b k).2*B^k=r at *;omega
def QI{a b:List Nat}(ha:Small a)(hb:Small b)(k:Nat):S (fv (bV (ng a b) k)) k+S (fv b) k=S (fv a) k+(ng a b k).2*B^k:=by
 induction k with
 |zero=>rfl
 |succ k ih=>
  have e:S (fv (bV (ng a b) (k+1))) k=S (fv (bV (ng a b) k)) k:=dV λi hi=>by
   exact YT
  have e2:fv (bV (ng a b) (k+1)) k=(ng a b (k+1)).1:=by
   exact YS
  rw[bR,bR,bR,e,e2,Nat.pow_succ];have h1:fv a k<1000000000:=aA ha _;have h2:fv b k<1000000000:=aA hb _;have hc:=(Fb ha hb k).1;have h:(ng a b (k+1)).1+fv b k+(ng a b k).2=fv a k+(ng a b (k+1)).2*1000000000:=by
   rw[ng];dsimp only;by_cases h:fv b k+(ng a b k).2<=fv a k
   ·rw[if_pos h,if_pos h];omega
   ·rw[if_neg h,if_neg h];omega
  have h3:=congrArg (· *B^k) h;simp only[Nat.add_mul] at h3;have h4:(ng a b (k+1)).2*(B^k*B)=(ng a b (k+1)).2*1000000000*B^k:=by
   show _=(ng a b (k+1)).2*B*B^k;rw[VE (B^k) B,<-Nat.mul_assoc]
  rw[h4];generalize(ng a b (k+1)).2*1000000000*B^k=u at *;generalize(ng a b (k+1)).1*B^k=v at *;generalize fv a k*B^k=p at *;generalize fv b k*B^k=q at *;generalize(ng a b k).2*B^k=r at *;omega
end
section
open Kp
def vG(a:List UInt8)(w:Vl)(hs:a.length<=300000)(hm:eO w)(ht:aU w):VC prog 242 #[VR (tx a)] w λe w'=>
  ∃x y:ByteArray,e=VV (VX #[VR x,VR y,VU VA (bS a)])/\(bS a=0->∃n d,dP a=Vq (n,d)/\x=tx n/\y=tx d)/\Ext w w':=by
 have cr:=Vk (oC a w hs hm ht);obtain⟨c,hc⟩:∃c,bS a=c:=⟨_,rfl⟩;unfold zu at cr;rw[hc] at cr⊢;clear hm ht hc;go_enter func242,ntmps242;go_wp2_with(go_at_call 231;go_must(refine cr.o.mono ?_);rintro e W1 ⟨x,y,rfl,hp,hX1⟩;have HP:=Vk hp;clear hp)
 go_quiet (fail)
 go_wp2;refine bodyPost_ret (v:= VX #[VR x,VR y,VU VA c]) ?_ rfl ⟨x,y,rfl,HP.o,?_⟩
 ·simp[results,results242,go_sem]
 ·exact below_drewN (hX1.alloc hX1.size _) _
end
section
open Kp
noncomputable def lU(a:List UInt8):Int:=if bS a=0 then(match dP a with|none=>0|some (n,d)=>if 12<(own n).length\/12<d.length then 4 else 0) else bS a
def BR(a:List UInt8)(w:Vl)(hs:a.length<=300000)(hm:eO w)(ht:aU w):VC prog 271 #[VR (tx a)] w λe w'=>e=VV (VU VA (lU a))/\Ext w w':=by
 have cr:=Vk (vG a w hs hm ht);clear hm ht;by_cases h0:bS a=0
 ·rw[h0] at cr;cases hcu:dP a with
  |none=>
   have HX:=Vk hcu;refine absurd hcu ?_;intro _;obtain⟨n,d,hnd⟩:∃n d,dP a=Vq (n,d):=by
    unfold bS at h0;rw[hcu] at h0;cases h0
   rw[hnd] at hcu;cases hcu
  |some p=>
   obtain⟨n,d⟩:=p;have HN:=Vk (show lU a=if 12<(own n).length\/12<d.length then 4 else 0 by unfold lU;rw[if_pos h0,hcu]);have HC:=Vk hcu;clear h0 hcu;obtain⟨o,ho⟩:∃o,own n=o:=⟨_,rfl⟩;rw[ho] at HN;have HO:=Vk ho;clear ho;by_cases h1:12<o.length
   ·have HR:=Vk (show lU a=4 by rw[HN.o,if_pos (.inl h1)]);exact Zg
   by_cases h2:12<d.length
   ·have HR:=Vk (show lU a=4 by rw[HN.o,if_pos (.inr h2)]);exact Zg
   ·have HR:=Vk (show lU a=0 by rw[HN.o,if_neg VY]);exact Zg
 ·have HR:=Vk (show lU a=bS a by unfold lU;rw[if_neg h0]);obtain⟨c,hc⟩:∃c,bS a=c:=⟨_,rfl⟩;rw[hc] at cr HR h0;have h0':(c !=0)=Vv:=by rw[bne_iff_ne];exact h0
  clear hc h0;go_enter func271,ntmps271;go_wp2_with(go_at_call 242;go_must(refine cr.o.mono ?_);rintro e W1 ⟨x,y,rfl,hp,hX1⟩;clear hp)
  go_ret;exact⟨V9,hX1⟩
end
section
open Kp
def Fg(z:ByteArray):Bool:=z.data.toList.head?==Vq 45
def Km(z:ByteArray):Nat:=if Fg z then cJ (z.extract 1 z.size) (z.extract 1 z.size).size else cJ z z.size
def OU{z:ByteArray}(h:0<z.size):Fg z=(((z[0]'h).toNat:Int)==45):=by
 unfold Fg;rw[List.head?_eq_getElem?,Vt Xo];have e:z.data.toList[0]'Xo=z[0]'h:=WX;rw[e];generalize z[0]'h=b;by_cases hb:b=45
 ·subst hb;rfl
 ·have h1:(Vq b==Vq (45:UInt8))=Vp:=by simpa using hb
  rw[h1,eq_comm,beq_eq_false_iff_ne];intro e;exact hb (UInt8.toNat_inj.1 (by show b.toNat=45;omega))
def LY(z:ByteArray)(w:Vl)(e:Ending)(w':Vl):Prop:=∃v l,e=VV (VW #[VS (Fg z),v])/\bE w' w'.heap.size v l/\aZ l/\l.length<=51/\Ext w w'/\au l=Km z
def Jh(w:Vl)(z:ByteArray)(hz:MD z):VC prog 282 #[VR z] w (LY z w):=by
 obtain⟨i0,hi,hz0,hz1,hz2⟩:=info_parts dS;have I0:=Vk hi;have I1:=Vk hz0;have I2:=Vk hz1;have I3:=Vk hz2;obtain⟨f,hf1,hfz,hd,h300,h45⟩:=hz.ex;have hp:0<z.size:=VY;obtain⟨y,hy⟩:∃y:ByteArray,z.extract f z.size=y:=⟨_,rfl⟩;have hys:y.size=z.size-f:=by rw[<-hy,ByteArray.size_extract,Nat.min_self]
 have hyd:SS y 0 y.size:=by
  exact a0q
 obtain⟨p,hpp⟩:∃p,(((z[0]'hp).toNat:Int)==45)=p:=⟨_,rfl⟩;have hpf:p=decide (f=1):=by
  exact a0p
 have hfy:f=0->z=y:=by
  intro e;subst e;rw[<-hy];simp[ByteArray.extract_zero_size]
 clear hi hz0 hz1 hz2 hz h45;have YD:=Vk hyd;have HYS:=Vk hys;have hyl:y.size<=300:=VY;have hy0:0<y.size:=VY;have HFY:=Vk hfy;have START:=Vk (show∀s,yj w s y (VU VA (y.size:Int)) ((w.alloc (Obj.cells #[VS Vp,VQ Vo 0 0] 308)).alloc (Obj.cells #[VS s,VQ Vo 0 0] 308)) fromλs=>
  ⟨_,_,[],rfl,V5,VY,by simp[au,S6],(ah.new w _ _).ext ((Below.refl _ _).alloc (Vm _) _),WZ,⟨rfl,.inl ⟨rfl,rfl⟩⟩,(λ_ h=>V6),((Below.refl _ _).alloc (Vm _) _).alloc V5 _⟩)
 have hsg:=OU hp;rw[hpp] at hsg;have hmg:Km z=cJ y y.size:=by
  unfold Km;rw[hsg,hpf];by_cases e:f=1
  ·subst e;rw[decide_eq_true rfl,if_pos rfl,hy]
  ·rw[decide_eq_false e];obtain rfl:=hfy VY
   rfl
 have HSG:=Vk hsg;have HMG:=Vk hmg;clear hyd hfy hsg hmg;clear hys;cases p with
 |true=>
  obtain rfl:f=1:=by simpa using hpf.symm
  have HY:=Vk hy;clear hpf hy h300 hd;go_enter func282,ntmps282;go_wp2_with fail
  rw[HY.o,<-HYS.o];have ST:=Vk (START.o Vv);go_loopw [4] (λe wr=>yj w Vv y e wr) (λe _=>(VG e+6).toNat)
  case atStart=>exact ST.o
  case round=>
   obtain⟨k,v,l,rfl,hk,hk6,hV,hM⟩:=hrel;have HVV:=Vk hV;clear hV;have HM:=Vk hM;have HK:=Vk hk;have HYL:=Vk hyl;by_cases hpos:0<k
   ·exact a0o
   ·have hM2:=HM.o;obtain⟨A4,n4,c4,e4⟩:=nk.of hM2.own;subst e4;have hsl:=dh hM2.own rfl;have CT:=Vk (show VC prog 311 #[VQ A4 n4 c4] wr λe w'=>e=VV (VQ A4 (az l).length c4)/\wr=w' from dE wr _ _ l hsl);have hst:=hsl.trimmed;obtain⟨q,hq⟩:∃q,(az l).length=q:=⟨_,rfl⟩;have hl51:(az l).length<=51:=VB (aR _) XB;have hcl:=hM2.num.cell 1;have r1:=hM2.num.qe (VQ A4 q c4);have r2:=hM2.res.dx (p:=⟨w.heap.size+1,1,Vo⟩) V5 (VQ A4 q c4);have f1:=hM2.num.frozen 1;have c0:=r1.cell 0;have c1:=r1.cell 1;have d0:=r2.cell 0;have d1:=r2.cell 1;have g0:=r2.frozen 0;have g1:=r2.frozen 1;have r3:=r2.oT (VS Vv) (VQ A4 q c4);have HQ0:=Vk (r3.cell 0);have HQ1:=Vk (r3.cell 1);have hxx:Ext w (((wr.setCell ⟨w.heap.size+1,1,Vo⟩ (VQ A4 q c4)).setCell ⟨w.heap.size,0,Vo⟩ (VS Vv)).setCell ⟨w.heap.size,1,Vo⟩ (VQ A4 q c4)):=((hM2.ext.setCell (p:=⟨w.heap.size+1,1,Vo⟩) V5 _).setCell (p:=⟨w.heap.size,0,Vo⟩) V5 _).setCell (p:=⟨w.heap.size,1,Vo⟩) V5 _;have hfin:LY z w (VV (VW #[VS Vv,VQ A4 q c4])) (((wr.setCell ⟨w.heap.size+1,1,Vo⟩ (VQ A4 q c4)).setCell ⟨w.heap.size,0,Vo⟩ (VS Vv)).setCell ⟨w.heap.size,1,Vo⟩ (VQ A4 q c4)):=by
     refine⟨_,az l,by rw[HSG.o],?_,du hM2.small,hl51,hxx,by rw[en,HMG.o];have h:=HVV.o;rw[show k.toNat=0 by omega] at h;simpa[cJ] using h⟩;exact a0n
    exact a0m
 |false=>
  have h0:f=0:=by
   have:¬f=1:=by simpa using hpf.symm
   omega
  obtain rfl:=HFY.o h0;clear hpf hy h300 hd HFY;have ST:=Vk (START.o Vp);go_enter func282,ntmps282;go_wp2_with fail
  go_loopw [4] (λe wr=>yj w Vp z e wr) (λe _=>(VG e+6).toNat)
  case atStart=>exact ST.o
  case round=>
   obtain⟨k,v,l,rfl,hk,hk6,hV,hM⟩:=hrel;have HVV:=Vk hV;clear hV;have HM:=Vk hM;have HK:=Vk hk;have HYL:=Vk hyl;by_cases hpos:0<k
   ·exact a0l
   ·have hM2:=HM.o;obtain⟨A4,n4,c4,e4⟩:=nk.of hM2.own;subst e4;have hsl:=dh hM2.own rfl;have CT:=Vk (show VC prog 311 #[VQ A4 n4 c4] wr λe w'=>e=VV (VQ A4 (az l).length c4)/\wr=w' from dE wr _ _ l hsl);have hst:=hsl.trimmed;obtain⟨q,hq⟩:∃q,(az l).length=q:=⟨_,rfl⟩;have hl51:(az l).length<=51:=VB (aR _) XB;have hcl:=hM2.num.cell 1;have r1:=hM2.num.qe (VQ A4 q c4);have r2:=hM2.res.dx (p:=⟨w.heap.size+1,1,Vo⟩) V5 (VQ A4 q c4);have f1:=hM2.num.frozen 1;have c0:=r1.cell 0;have c1:=r1.cell 1;have d0:=r2.cell 0;have d1:=r2.cell 1;have g0:=r2.frozen 0;have g1:=r2.frozen 1;have r3:=r2.oT (VS Vp) (VQ A4 q c4);have HQ0:=Vk (r3.cell 0);have HQ1:=Vk (r3.cell 1);have hxx:Ext w (((wr.setCell ⟨w.heap.size+1,1,Vo⟩ (VQ A4 q c4)).setCell ⟨w.heap.size,0,Vo⟩ (VS Vp)).setCell ⟨w.heap.size,1,Vo⟩ (VQ A4 q c4)):=((hM2.ext.setCell (p:=⟨w.heap.size+1,1,Vo⟩) V5 _).setCell (p:=⟨w.heap.size,0,Vo⟩) V5 _).setCell (p:=⟨w.heap.size,1,Vo⟩) V5 _;have hfin:LY z w (VV (VW #[VS Vp,VQ A4 q c4])) (((wr.setCell ⟨w.heap.size+1,1,Vo⟩ (VQ A4 q c4)).setCell ⟨w.heap.size,0,Vo⟩ (VS Vp)).setCell ⟨w.heap.size,1,Vo⟩ (VQ A4 q c4)):=by
     refine⟨_,az l,by rw[HSG.o],?_,du hM2.small,hl51,hxx,by rw[en,HMG.o];have h:=HVV.o;rw[show k.toNat=0 by omega] at h;simpa[cJ] using h⟩;exact a0k
    exact a0j
end
end Go.Proofs.YtmliacdegmklaaaGreatDoor
