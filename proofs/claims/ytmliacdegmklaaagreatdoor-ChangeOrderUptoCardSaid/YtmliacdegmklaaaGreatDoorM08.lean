/- ChangeReplays of kingpostlaw58: part 8 of its proof (merged and shortened by program). -/
import Derived.Test.YtmliacdegmklaaaGreatDoorM04
import Derived.Test.YtmliacdegmklaaaGreatDoorM05
import Derived.Test.YtmliacdegmklaaaGreatDoorM06
set_option linter.unusedVariables false
set_option linter.unusedSimpArgs false
set_option linter.defProp false
set_option maxHeartbeats 8000000
set_option maxRecDepth 100000
open Go.RowKit Go.Shelf Go.Proofs.Tryz
open Array renaming getElem?_eq_some_iff→Vz
open Bool renaming false→Vp,true→Vv,and_eq_true_iff→Vw
open Go renaming World→Vl,Value→Vr,undef→Vs,wpOp_step→Vx,Calls→VC,maxLen→VJ,TypeId→VK,Addr→VM,Rows→VP
open Go.AllReady renaming cons→VH,nil→VO
open Go.Ending renaming returned→VV
open Go.IntKind renaming i64→VA
open Go.IntWalk renaming i64_in→VI
open Go.Lib renaming hid→Vk
open Go.RowKit renaming intOf→VG,Below→VL
open Go.Value renaming slice→VQ,string→VR,bool→VS,pointer→VT,int→VU,agg→VW,tuple→VX
open Go.World renaming alloc_heap_new→Vy,size_alloc→VF
open List renaming getD_eq_getElem?_getD→Vn,getElem?_eq_getElem→Vt,length_map→Vu,length_append→VD
open Nat renaming le_refl→Vm,le_trans→VB,mul_comm→VE
open Option renaming none→Vo,some→Vq
open Option.some renaming inj→VN
open Go.Proofs.YtmliacdegmklaaaGreatDoor
namespace Go.Proofs.YtmliacdegmklaaaGreatDoor
section
open Kp
def Nq(g:Nat)(a b:List Nat)(f:Nat->Nat×Nat):Prop:=
 ∀(W:Vl) (k:Nat),VC prog g #[VU VA (fv a k:Int),VU VA (fv b k:Int),VU VA ((f k).2:Int)] W λe w'=>e=VV (VX #[VU VA ((f (k+1)).1:Int),VU VA ((f (k+1)).2:Int)])/\W=w'
def Ia{a b:List Nat}(ha:Small a)(hb:Small b):Nq 350 a b (oR a b):=λW k=>
 (Iq _ _ _ W (aA ha k) (aA hb k) (Me ha hb k).1).mono λ_ _ ⟨h1,h2⟩=>⟨h1,h2.symm⟩
def tN{a b:List Nat}(ha:Small a)(hb:Small b):Nq 351 a b (ng a b):=λW k=>
 (EV _ _ _ W (aA ha k) (aA hb k) (Fb ha hb k).1).mono λ_ _ ⟨h1,h2⟩=>⟨h1,h2.symm⟩
def SE(w:Vl)(f:Nat->Nat×Nat)(n:Nat)(e:Ending)(w':Vl):Prop:=
 ∃v,e=VV v/\bE w' w'.heap.size v (az (bV f n))/\Ext w w'
def mY(w:Vl)(a b:List Nat)(va vb:Vr)(g:Nat)(f:Nat->Nat×Nat)(ha:bE w w.heap.size va a)(hb:bE w w.heap.size vb b)(hla:a.length<=1000000)(hlb:b.length<=1000000)
  (eg:∀args w,(callFunc g args).run prog w= .ok (.enter g args) w)(hp:Nq g a b f)(hf0:(f 0).2=0):
  VC prog 349 #[va,vb,.func (.func g) #[] #[]] w (SE w f (max a.length b.length+1)):=by
 obtain⟨i0,hi0,hz0,hz1,hz2⟩:=info_parts dS;have I0:=Vk hi0;have I1:=Vk hz0;have I2:=Vk hz1;have I3:=Vk hz2;have HA:=Vk ha;have HB:=Vk hb;have HP:=Vk hp;have HF:=Vk hf0;obtain⟨A,ca,rfl,ha1,ha2,_⟩:=id ha;obtain⟨A',cb,rfl,hb1,hb2,_⟩:=id hb;unfold VJ at ha2 hb2;obtain⟨n,hn⟩:∃n,max a.length b.length+1=n:=⟨_,rfl⟩;have hn1:n<=1000001:=VY;have hna:a.length<n:=VY;have hnb:b.length<n:=VY;have hn2:(max (a.length:Int) (b.length:Int))+1=(n:Int):=VY;have HN:=Vk hn;rw[hn];clear ha hb hp hf0 hi0 hz0 hz1 hz2 hn;go_enter func349,ntmps349;go_wp2;go_loopw [7,8,18] (λv c i wr=>UB w f n v c i wr) (λ_ _ i _=>((n:Int)-VG i).toNat)
 case atStart=>exact⟨0,VY,rfl,Xr,World.ownsRow_nil _ _ _ _,Below.refl _ _⟩
 case round=>
  obtain⟨k,hk,rfl,rfl,hown,hX⟩:=hrel;have HO:=Vk hown;have HX:=Vk hX;have hs1:=(HA.o.below hX);have hs2:=(HB.o.below hX);have hbase:=hX.size;clear hown hX;by_cases hlt:k<n
  ·have C1:=Vk (vJ wr _ _ a k hs1 VY);have C2:=Vk (vJ wr _ _ b k hs2 VY);have C3:=Vk (HP.o wr k);have HR:=Vk (dZ f k);obtain⟨x,hx⟩:∃x,(f (k+1)).1=x:=⟨_,rfl⟩;obtain⟨y,hy⟩:∃y,(f (k+1)).2=y:=⟨_,rfl⟩;rw[hx,hy] at C3;rw[hx] at HR;have HY:=Vk hy;clear hs1 hs2 hx hy;have hbase1:w.heap.size<=(wr.alloc (.cells #[VU VA (x:Int)] 3)).heap.size:=Wa;have HOX:=Vk (aF HO.o ((Below.refl _ _).alloc (Vm _) (.cells #[VU VA (x:Int)] 3)));obtain⟨vs,hvs⟩:∃vs,sN (bV f k)=vs:=⟨_,rfl⟩;rw[hvs] at HO HOX;have HVS:=Vk hvs;clear hvs;go_wp2_with(first
    |(at_builtin;(refine wpList_append_own _ rfl _ _ _ rfl w.heap.size 3 i0 _ 1 8 underlying25 I0.o I1.o I2.o I3.o rfl VY _ _ _ rfl HOX.o ⟨wr.heap.size,0,Vo⟩ 1 1 [VU VA (x:Int)] rfl Wn (λj u hj=>Wf) WQ Wc VY hbase1 ?_);intro v' w' hown' hgr' hnil)
    |(go_at_fn g;go_must(refine C3.o.mono ?_);rintro e W3 ⟨rfl,rfl⟩)
    |(go_at_call 346;first|((with_reducible refine C1.o.mono ?_);rintro e W1 ⟨rfl,rfl⟩)|((with_reducible refine C2.o.mono ?_);rintro e W1 ⟨rfl,rfl⟩)))
   refine⟨⟨k+1,VY,V5,by rw[HY.o],?_,eE (HX.o.alloc HX.o.size _) hgr' (λq hq=>(ak HO.o q hq).1)⟩,V7⟩;have e:sN (bV f (k+1))=vs++[VU VA (x:Int)]:=Xk;rw[e];exact hown'
  ·obtain rfl:k=n:=VY;have hlt':decide ((k:Int)<(k:Int))=Vp:=V8;have hsn:=dh HO.o (bA f k);obtain⟨A2,c2,rfl,q1,q2,q3⟩:=id hsn;have CT:=Vk (DZ wr A2 c2 (bV f k) q1 q2 (λhp=>by
    obtain⟨b',o',e,hb',hc'⟩:=q3 hp;exact⟨b',o',e,hc'⟩))
   have HS:=Vk hsn;rw[bA] at CT HS;have HS2:=Vk (show bE wr wr.heap.size (VQ A2 (az (bV f k)).length c2) (az (bV f k)) by
    refine⟨A2,c2,rfl,VB (aR _) q1,q2,λhp=> ?_⟩;have hle:=aR (bV f k);obtain⟨b',o',e,hb',hc'⟩:=q3 VY;exact⟨b',o',e,hb',λj hj=>by rw[vR hj];exact hc' j VY⟩)
   have hkn:=bA f k;have hvk:(Value.slice A2 (bV f k).length c2)=VQ A2 k c2:=by rw[hkn]
   rw[hvk];clear hsn q1 q2 q3 hs1 hs2 hkn hvk;go_wp2_with(go_at_call 326;go_must(refine CT.o.mono ?_);rintro e W1 ⟨rfl,rfl⟩)
   go_ret;exact⟨_,rfl,HS2.o,HX.o⟩
end
section
open Kp
def sg(m:Bool)(n:Nat):Int:=if m then -(n:Int) else n
def Rv{a b:List Nat}(ha:Small a)(hb:Small b){n:Nat}(hn:max a.length b.length+1=n):Canon (az (bV (oR a b) n))/\val (az (bV (oR a b) n))=val a+val b:=by
 have hs:Small (bV (oR a b) n):=by
  intro d hd;unfold bV at hd;obtain⟨i,_,rfl⟩:=List.mem_map.1 hd;exact(Me ha hb i).2
 refine⟨ei hs,?_⟩;rw[gR];have h1:=OP (a:=a) (b:=b) n;have e1:S (fv a) n=val a:=j2 VY;have e2:S (fv b) n=val b:=j2 VY;have e3:S (fv (bV (oR a b) n)) n=val (bV (oR a b) n):=by unfold val;rw[bA]
 rw[e1,e2,e3] at h1;have la:=Nat.lt_of_lt_of_le (q9 ha) (Nat.pow_le_pow_right V0 (show a.length<=n-1 by omega):B^a.length<=B^(n-1));have lb:=Nat.lt_of_lt_of_le (q9 hb) (Nat.pow_le_pow_right V0 (show b.length<=n-1 by omega):B^b.length<=B^(n-1));have hp:B^n=B^(n-1)*B:=by rw[<-Nat.pow_succ];congr 1;omega
 have hB:B^(n-1)*2<=B^(n-1)*B:=Nat.mul_le_mul_left _ V0;rcases Nat.eq_zero_or_pos (oR a b n).2 with h0|h0
 ·rw[h0] at h1;omega
 ·have:1*B^n<=(oR a b n).2*B^n:=Nat.mul_le_mul_right _ h0;omega
def Lk{a b:List Nat}(ha:Small a)(hb:Small b){n:Nat}(hn:max a.length b.length+1=n)(hle:val b<=val a):Canon (az (bV (ng a b) n))/\val (az (bV (ng a b) n))=val a-val b:=by
 have hs:Small (bV (ng a b) n):=by
  intro d hd;unfold bV at hd;obtain⟨i,_,rfl⟩:=List.mem_map.1 hd;exact(Fb ha hb i).2
 refine⟨ei hs,?_⟩;rw[gR];have h1:=QI ha hb n;have e1:S (fv a) n=val a:=j2 VY;have e2:S (fv b) n=val b:=j2 VY;have e3:S (fv (bV (ng a b) n)) n=val (bV (ng a b) n):=by unfold val;rw[bA]
 have l3:=q9 hs;rw[bA] at l3;rw[e1,e2,e3] at h1;rcases Nat.eq_zero_or_pos (ng a b n).2 with h0|h0
 ·rw[h0] at h1;omega
 ·have:1*B^n<=(ng a b n).2*B^n:=Nat.mul_le_mul_right _ h0;omega
def zY(w:Vl)(z:Int)(e:Ending)(w':Vl):Prop:=
 ∃m v l,e=VV (VW #[VS m,v])/\bE w' w'.heap.size v l/\Canon l/\sg m (val l)=z/\Ext w w'
def Ou(p0 q1 q2:Nat)(m:Bool)(v1 v2:Vr)(L:List Nat):Nat->Vr->Vl->Prop
 |0,v,_=>v=VT (Vq ⟨p0,0,Vo⟩)
 |1,v,_=>v=VS m
 |2,v,_=>v=VT (Vq ⟨q1,1,Vo⟩)
 |3,v,_=>v=v1
 |4,v,_=>v=VT (Vq ⟨q2,1,Vo⟩)
 |5,v,_=>v=v2
 |6,v,w=>bE w w.heap.size v L
 |_,v,w=>∃u,v=VW #[VS m,u]/\bE w w.heap.size u L
def zk{p0 q1 q2:Nat}{m:Bool}{v1 v2:Vr}{L:List Nat}{i:Nat}{v:Vr}{w w':Vl}(h:Ou p0 q1 q2 m v1 v2 L i v w)(hx:Ext w w'):Ou p0 q1 q2 m v1 v2 L i v w':=by
 match i,h with
 |0,h|1,h|2,h|3,h|4,h|5,h=>exact h
 |6,h=>exact bE.grow h hx
 |_+7,h=>obtain⟨u,e,hu⟩:=h;exact⟨u,e,hu.grow hx⟩
def Sx{w:Vl}{b:Nat}{l:List Nat}{v:Vr}(h:bE w w.heap.size v l)(hr:ah w b 326 [VS Vp,VQ Vo 0 0])(x y:Vr):
  bE ((w.setCell ⟨b,0,Vo⟩ x).setCell ⟨b,1,Vo⟩ y) ((w.setCell ⟨b,0,Vo⟩ x).setCell ⟨b,1,Vo⟩ y).heap.size v l:=by
 obtain⟨A,cap,rfl,h1,h2,hc⟩:=h;refine⟨A,cap,rfl,h1,h2,λhn=> ?_⟩;obtain⟨b',off,e,hb,hcell⟩:=hc hn;refine⟨b',off,e,by simpa[World.setCell] using hb,λj hj=> ?_⟩;by_cases hbb:b'=b
 ·exfalso;subst hbb;have h5:=hcell j hj;rw[hr.cell] at h5;rcases(show off+j=0\/off+j=1\/2<=off+j by omega) with h6|h6|h6
  ·rw[h6] at h5;simp at h5
  ·rw[h6] at h5;simp at h5
  ·rw[List.getElem?_eq_none (by simpa using h6)] at h5;cases h5
 ·rw[World.cell?_of_block (w:=w.setCell ⟨b,0,Vo⟩ x) (Below.heap_setCell _ _ _ _ hbb),World.cell?_of_block (w:=w) (Below.heap_setCell _ _ _ _ hbb)];exact hcell j hj
def Ep(w:Vl)(x1 x2 x3:List Vr)(t:VK):∃W0,Hid (((w.alloc (.cells x1.toArray t)).alloc (.cells x2.toArray t)).alloc (.cells x3.toArray t)=W0)/\Hid (Ext w W0)/\ah W0 w.heap.size t x1/\ah W0 (w.heap.size+1) t x2/\ah W0 (w.heap.size+1+1) t x3:=by
 have R2:=(ah.new (w.alloc (.cells x1.toArray t)) t x2).ext ((Below.refl _ _).alloc (Vm _) (.cells x3.toArray t));have R3:=ah.new ((w.alloc (.cells x1.toArray t)).alloc (.cells x2.toArray t)) t x3;rw[VF] at R2;rw[VF,VF] at R3;exact⟨_,Vk rfl,Vk (BD w _ _ _),(ah.new w t x1).ext (eH _ _ _),R2,R3⟩
def zR{p:Prop}(h:p:=by
  intro i vs w' hi hD hd;have hw0:Ext W0 w':=(Ext.tr hX0 hD);have cA:=λi=>(R1.ext hw0).cell i
  have cB:=λi=>(R2.ext hw0).cell i
  rcases(show i=0\/i=1\/i=2\/i=3\/i=4\/i=5\/i=6\/i=7 by omega) with rfl|rfl|rfl|rfl|rfl|rfl|rfl|rfl<;>clear hi
  ·exact Y1
  ·refine Vx rfl (λK hK=> ?_);have d0:=hd 0 VZ;simp only[Ou] at d0;go_simp;exact hK _ _ ⟨_,by simp[d0],Ext.aB _,rfl,λh=>V6⟩
  ·exact Y1
  ·refine Vx rfl (λK hK=> ?_);have d2:=hd 2 VZ;simp only[Ou] at d2;go_simp;exact hK _ _ ⟨_,by simp[d2],Ext.aB _,rfl,λh=>V6⟩
  ·exact Y1
  ·refine Vx rfl (λK hK=> ?_);have d4:=hd 4 VZ;simp only[Ou] at d4;go_simp;exact hK _ _ ⟨_,by simp[d4],Ext.aB _,rfl,λh=>V6⟩
  ·refine Vx rfl (λK hK=> ?_);have d3:=hd 3 VZ;have d5:=hd 5 VZ;simp only[Ou] at d3 d5;clear cA cB;go_simp;refine(KC.o _ (E3.o.tr hw0)).mono ?_;rintro e W4 ⟨v,rfl,hs,hX⟩;exact hK _ _ ⟨v,by simp[d3,d5],hX,hs,λh=>V6⟩
  ·refine Vx rfl (λK hK=> ?_);have d1:=hd 1 VZ;obtain⟨A6,c6,e6,h61,h62,h63⟩:=id (hd 6 VZ:bE _ _ _ _);have d6:bE _ _ _ _:=hd 6 VZ;simp only[Ou] at d1;rw[e6] at d6;clear cA cB h63;go_simp;exact hK _ _ ⟨_,by simp[d1,e6],Ext.aB _,⟨_,rfl,d6⟩,λh=>V6⟩):p:=h
def zq{p:Prop}(h:p:=by
  intro vs w' hD hv _;have hw0:Ext W0 w':=(Ext.tr hX0 hD);obtain⟨v,e7,hs⟩:=hv 7 V0;obtain⟨A7,c7,rfl,_,_,_⟩:=id hs;have HS:=Vk hs;have r3:=R3.ext hw0;have c0:=r3.cell 0;have c1:=r3.cell 1;have f0:=r3.frozen 0;have f1:=r3.frozen 1;have HR3:=Vk r3;clear hv hs r3;simp only[List.drop_succ_cons,List.drop_zero];go_wp2;have q0:=λx y=>(HR3.o.oT x y).cell 0
  have q1:=λx y=>(HR3.o.oT x y).cell 1
  refine bodyPost_ret (v:=vs 7) ?_ rfl ⟨_,_,_,congrArg _ e7,?_,HC.o,HV.o,?_⟩
  ·rw[e7];simp[results,results338,go_sem,q0,q1]
  ·have hb4:VL w'.heap.size w' w':=Below.refl _ _;exact Sx HS.o HR3.o _ _
  ·exact((E3.o.tr hw0).setCell (p:=⟨w.heap.size+1+1,0,Vo⟩) Wa _).setCell (p:=⟨w.heap.size+1+1,1,Vo⟩) Wa _):p:=h
def Im(w:Vl)(m:Bool)(a b:List Nat)(va vb:Vr)(ha:bE w w.heap.size va a)(hb:bE w w.heap.size vb b)(hca:Canon a)(hcb:Canon b)(hla:a.length<=400000)(hlb:b.length<=400000):
  VC prog 338 #[VW #[VS m,va],VW #[VS m,vb]] w (zY w (sg m (val a)+sg m (val b))):=by
 have hsa:=hca.small;have hsb:=hcb.small;obtain⟨hcan,hval⟩:=Rv hsa hsb (n:=max a.length b.length+1) rfl;have HV:=Vk (show sg m (val (az (bV (oR a b) (max a.length b.length+1))))=sg m (val a)+sg m (val b) by rw[hval];unfold sg;cases m<;>simp <;>omega);have HC:=Vk hcan;have HP:=Vk (Ia hsa hsb);have HA:=Vk ha;have HB:=Vk hb;have HCA:=Vk hca;have HCB:=Vk hcb;obtain⟨A,ca,rfl,_,_,_⟩:=id ha;obtain⟨A',cb,rfl,_,_,_⟩:=id hb;obtain⟨W0,HW0,E3,R1,R2,R3⟩:=Ep w [VS m,VQ A a.length ca] [VS m,VQ A' b.length cb] [VS Vp,VQ Vo 0 0] 326;have KC:=Vk (λ(W:Vl) (h:Ext w W)=>mY W a b (VQ A a.length ca) (VQ A' b.length cb) 350 _ (HA.o.grow h) (HB.o.grow h) VY VY (enters_of func350 VZ rfl) HP.o rfl);have tm:(m==m)=Vv:=V5;clear ha hb hcan hval hca hcb;go_enter func338,ntmps338;go_wp2;simp only[HW0.o];have hX0:=Ext.aB W0;refine wp_region_any VZ (bM 8 (λvs=>⟨#[VW #[VS m,VQ A a.length ca],VW #[VS m,VQ A' b.length cb],VT (Vq ⟨w.heap.size,0,Vo⟩),VT (Vq ⟨w.heap.size+1,0,Vo⟩),VT (Vq ⟨w.heap.size+1+1,0,Vo⟩),VS Vv,VT (Vq ⟨w.heap.size,0,Vo⟩),VS m,VT (Vq ⟨w.heap.size+1,0,Vo⟩),VS m,VS Vv,vs 0,vs 1,vs 2,vs 3,vs 4,vs 5,vs 6,vs 7,Vs,Vs,Vs,Vs,Vs,Vs,Vs,Vs,Vs,Vs,Vs,Vs,Vs,Vs,Vs,Vs,Vs,Vs,Vs,Vs,Vs,Vs,Vs],[]⟩)
  (λw'=>Ext W0 w') (Ou (w.heap.size) (w.heap.size) (w.heap.size+1) m (VQ A a.length ca) (VQ A' b.length cb) (az (bV (oR a b) (max a.length b.length+1)))) (λ_=>Vp) VZ (λ_ _ h k=>h.tr k) (λi v _ _ h k=>zk h k) (λ_ _ _ _ h=>V6) ?_ ?_ (λ_=>Vs) _ (Ext.dr W0))
 ·exact zR
 ·exact zq
def O3(w:Vl)(m1 m2:Bool)(a b:List Nat)(va vb:Vr)(ha:bE w w.heap.size va a)(hb:bE w w.heap.size vb b)(hca:Canon a)(hcb:Canon b)(hla:a.length<=400000)(hlb:b.length<=400000)(hm:m1≠m2)(hle:val b<=val a):
  VC prog 338 #[VW #[VS m1,va],VW #[VS m2,vb]] w (zY w (sg m1 (val a)+sg m2 (val b))):=by
 have hsa:=hca.small;have hsb:=hcb.small;obtain⟨hcan,hval⟩:=Lk hsa hsb (n:=max a.length b.length+1) rfl hle;have HV:=Vk (show sg m1 (val (az (bV (ng a b) (max a.length b.length+1))))=sg m1 (val a)+sg m2 (val b) by rw[hval];unfold sg;cases m1<;>cases m2<;>simp at hm⊢ <;>omega);have HC:=Vk hcan;have HP:=Vk (tN hsa hsb);have HA:=Vk ha;have HB:=Vk hb;have HCA:=Vk hca;have HCB:=Vk hcb;obtain⟨A,ca,rfl,_,_,_⟩:=id ha;obtain⟨A',cb,rfl,_,_,_⟩:=id hb;obtain⟨W0,HW0,E3,R1,R2,R3⟩:=Ep w [VS m1,VQ A a.length ca] [VS m2,VQ A' b.length cb] [VS Vp,VQ Vo 0 0] 326;have KC:=Vk (λ(W:Vl) (h:Ext w W)=>mY W a b (VQ A a.length ca) (VQ A' b.length cb) 351 _ (HA.o.grow h) (HB.o.grow h) VY VY (enters_of func351 VZ rfl) HP.o rfl);have KD:=Vk (jq W0 a b (VQ A a.length ca) (VQ A' b.length cb) (HA.o.grow E3.o) (HB.o.grow E3.o) hca hcb VY);have tm:(m1==m2)=Vp:=by rw[beq_eq_false_iff_ne];exact hm
 clear ha hb hcan hval hca hcb;go_enter func338,ntmps338;clear hm;go_wp2_with(go_at_call 327;rw[HW0.o];go_must(refine KD.o.mono ?_);rintro e X0 ⟨c,rfl,hc1,hc2,hX0⟩;have tc:decide (0<=c)=Vv:=(by rw[decide_eq_true_eq];rcases Int.lt_or_le c 0 with h|h;(have:=hc1.1 h;omega);exact h);clear hc1 hc2)
 refine wp_region_any VZ (bM 8 (λvs=>⟨#[VW #[VS m1,VQ A a.length ca],VW #[VS m2,VQ A' b.length cb],VT (Vq ⟨w.heap.size,0,Vo⟩),VT (Vq ⟨w.heap.size+1,0,Vo⟩),VT (Vq ⟨w.heap.size+1+1,0,Vo⟩),VS Vp,VT (Vq ⟨w.heap.size,0,Vo⟩),VS m1,VT (Vq ⟨w.heap.size+1,0,Vo⟩),VS m2,VS Vp,Vs,Vs,Vs,Vs,Vs,Vs,Vs,Vs,VS Vv,VT (Vq ⟨w.heap.size,1,Vo⟩),VQ A a.length ca,VT (Vq ⟨w.heap.size+1,1,Vo⟩),VQ A' b.length cb,VU VA c,VS Vv,vs 0,vs 1,vs 2,vs 3,vs 4,vs 5,vs 6,vs 7,Vs,Vs,Vs,Vs,Vs,Vs,Vs,Vs],[]⟩)
  (λw'=>Ext X0 w') (Ou (w.heap.size) (w.heap.size) (w.heap.size+1) m1 (VQ A a.length ca) (VQ A' b.length cb) (az (bV (ng a b) (max a.length b.length+1)))) (λ_=>Vp) VZ (λ_ _ h k=>h.tr k) (λi v _ _ h k=>zk h k) (λ_ _ _ _ h=>V6) ?_ ?_ (λ_=>Vs) _ (Ext.dr X0))
 ·exact zR
 ·exact zq
def OT(w:Vl)(m1 m2:Bool)(a b:List Nat)(va vb:Vr)(ha:bE w w.heap.size va a)(hb:bE w w.heap.size vb b)(hca:Canon a)(hcb:Canon b)(hla:a.length<=400000)(hlb:b.length<=400000)(hm:m1≠m2)(hle:val a<val b):
  VC prog 338 #[VW #[VS m1,va],VW #[VS m2,vb]] w (zY w (sg m1 (val a)+sg m2 (val b))):=by
 have hsa:=hca.small;have hsb:=hcb.small;obtain⟨hcan,hval⟩:=Lk hsb hsa (n:=max b.length a.length+1) rfl VY;have HV:=Vk (show sg m2 (val (az (bV (ng b a) (max b.length a.length+1))))=sg m1 (val a)+sg m2 (val b) by rw[hval];unfold sg;cases m1<;>cases m2<;>simp at hm⊢ <;>omega);have HC:=Vk hcan;have HP:=Vk (tN hsb hsa);have HA:=Vk ha;have HB:=Vk hb;have HCA:=Vk hca;have HCB:=Vk hcb;obtain⟨A,ca,rfl,_,_,_⟩:=id ha;obtain⟨A',cb,rfl,_,_,_⟩:=id hb;obtain⟨W0,HW0,E3,R1,R2,R3⟩:=Ep w [VS m1,VQ A a.length ca] [VS m2,VQ A' b.length cb] [VS Vp,VQ Vo 0 0] 326;have KC:=Vk (λ(W:Vl) (h:Ext w W)=>mY W b a (VQ A' b.length cb) (VQ A a.length ca) 351 _ (HB.o.grow h) (HA.o.grow h) VY VY (enters_of func351 VZ rfl) HP.o rfl);have KD:=Vk (jq W0 a b (VQ A a.length ca) (VQ A' b.length cb) (HA.o.grow E3.o) (HB.o.grow E3.o) hca hcb VY);have tm:(m1==m2)=Vp:=by rw[beq_eq_false_iff_ne];exact hm
 clear ha hb hcan hval hca hcb;go_enter func338,ntmps338;clear hm;go_wp2_with(go_at_call 327;rw[HW0.o];go_must(refine KD.o.mono ?_);rintro e X0 ⟨c,rfl,hc1,hc2,hX0⟩;have tc:decide (0<=c)=Vp:=(by rw[decide_eq_false_iff_not];have:=hc1.2 hle;omega);clear hc1 hc2)
 refine wp_region_any VZ (bM 8 (λvs=>⟨#[VW #[VS m1,VQ A a.length ca],VW #[VS m2,VQ A' b.length cb],VT (Vq ⟨w.heap.size,0,Vo⟩),VT (Vq ⟨w.heap.size+1,0,Vo⟩),VT (Vq ⟨w.heap.size+1+1,0,Vo⟩),VS Vp,VT (Vq ⟨w.heap.size,0,Vo⟩),VS m1,VT (Vq ⟨w.heap.size+1,0,Vo⟩),VS m2,VS Vp,Vs,Vs,Vs,Vs,Vs,Vs,Vs,Vs,VS Vp,VT (Vq ⟨w.heap.size,1,Vo⟩),VQ A a.length ca,VT (Vq ⟨w.heap.size+1,1,Vo⟩),VQ A' b.length cb,VU VA c,VS Vp,Vs,Vs,Vs,Vs,Vs,Vs,Vs,Vs,vs 0,vs 1,vs 2,vs 3,vs 4,vs 5,vs 6,vs 7],[]⟩)
  (λw'=>Ext X0 w') (Ou (w.heap.size+1) (w.heap.size+1) (w.heap.size) m2 (VQ A' b.length cb) (VQ A a.length ca) (az (bV (ng b a) (max b.length a.length+1)))) (λ_=>Vp) VZ (λ_ _ h k=>h.tr k) (λi v _ _ h k=>zk h k) (λ_ _ _ _ h=>V6) ?_ ?_ (λ_=>Vs) _ (Ext.dr X0))
 ·exact zR
 ·exact zq
def N6(w:Vl)(m1 m2:Bool)(a b:List Nat)(va vb:Vr)(ha:bE w w.heap.size va a)(hb:bE w w.heap.size vb b)(hca:Canon a)(hcb:Canon b)(hla:a.length<=400000)(hlb:b.length<=400000):
  VC prog 338 #[VW #[VS m1,va],VW #[VS m2,vb]] w (zY w (sg m1 (val a)+sg m2 (val b))):=by
 by_cases hm:m1=m2
 ·subst hm;exact Im w m1 a b va vb ha hb hca hcb hla hlb
 ·by_cases hle:val b<=val a
  ·exact O3 w m1 m2 a b va vb ha hb hca hcb hla hlb hm hle
  ·exact OT w m1 m2 a b va vb ha hb hca hcb hla hlb hm VY
end
section
open Kp
def lB(x y:Int):Int:=if x<y then -1 else if y<x then 1 else 0
def MU(l:List UInt8):num l=sg (Lib.hasPrefix l [45]) (aw (own l)):=by unfold num sg;rfl
def OM{m na nb:Bool}{l la lb:List Nat}{x y:Nat}{p q:Int}(hc:Canon l)(hz:sg m (val l)=sg na (val la)+sg (!nb) (val lb))(h3:val la=x)(h4:val lb=y)(hp:p=sg na x)(hq:q=sg nb y):
  lB p q=if((l.length:Int)==0)=Vv then 0 else if m then -1 else 1:=by
 have hle:(if((l.length:Int)==0)=Vv then(0:Int) else if m then -1 else 1)=if l.length=0 then 0 else if m then -1 else 1:=by
  by_cases h:l.length=0<;>simp[h]
 rw[hle];subst hp hq;rw[h3,h4] at hz;have hz2:sg m (val l)=sg na x-sg nb y:=by
  rw[hz];unfold sg;cases nb<;>simp <;>omega
 have h0:=val_eq_zero hc.trim;by_cases hl:l.length=0
 ·have:l=[]:=List.length_eq_zero_iff.1 hl;have hv:=h0.2 this;rw[if_pos hl];unfold lB;rw[hv] at hz2;have:sg m 0=0:=by unfold sg;cases m<;>rfl
  rw[if_neg VY,if_neg VY]
 ·have hv:0<val l:=by
   rcases Nat.eq_zero_or_pos (val l) with h|h
   ·exact absurd (by rw[h0.1 h];rfl) hl
   ·exact h
  rw[if_neg hl];unfold lB;cases m
  ·have:sg Vp (val l)=val l:=rfl;rw[if_neg VY,if_pos VY];rfl
  ·have:sg Vv (val l)= -(val l:Int):=rfl;rw[if_pos VY];rfl
def uo(a b:List UInt8)(w:Vl)(ha:a.length<=100000)(hb:b.length<=100000)(h18:18<a.length\/18<b.length)(h:dv a b=0):
  VC prog 305 #[VR (tx a),VR (tx b)] w λe w'=>e=VV (VX #[VU VA (lB (num a) (num b)),VU VA 0])/\Ext w w':=by
 obtain⟨ca,cb⟩:=kK h;obtain⟨fa,la⟩:=eK ca;obtain⟨fb,lb⟩:=eK cb;have da:=cV fa;have db:=cV fb;have K1:=Vk (ik a b w VY VY);rw[h] at K1;have K2:=Vk (λW=>wb a b W h18 VY VY);have K3:=Vk (λW=>mc W a da VY);have K4:=Vk (λW=>mc W b db VY);have HNA:=Vk (MU a);have HNB:=Vk (MU b);have HLA:=Vk la;have HLB:=Vk lb;clear h ca cb fa fb da db ha hb h18 la lb;go_enter func305,ntmps305;go_wp2_with(first
  |(go_at_call 294;refine K1.o.mono ?_;rintro e W1 ⟨rfl,hX1⟩)
  |(go_at_call 295;refine(K2.o _).mono ?_;rintro e W2 ⟨rfl,hX2⟩)
  |(go_at_call 296;((with_reducible refine(K4.o _).mono ?_);rintro e W4 ⟨v4,l4,rfl,⟨g4,cap4,rfl,hg4,hr4⟩,hc4,hv4,hl4,hX4⟩;have HR4:=Vk hr4;have HV4:=Vk hv4;have HL4:=Vk hl4;have HC4:=Vk hc4;clear hr4 hv4 hl4 hc4))
  |(go_at_call 296;((with_reducible refine(K3.o _).mono ?_);rintro e W3 ⟨v3,l3,rfl,⟨g3,cap3,rfl,hg3,hr3⟩,hc3,hv3,hl3,hX3⟩;have HR3:=Vk hr3;have HV3:=Vk hv3;have HL3:=Vk hl3;have HC3:=Vk hc3;clear hr3 hv3 hl3 hc3))
  |(go_at_call 338;go_must(refine(N6 _ _ _ l3 l4 _ _ (((HR3.o.sl HR3.o.lt).grow hX4).grow (eH W4 _ _)) ((HR4.o.sl HR4.o.lt).grow (eH W4 _ _)) HC3.o HC4.o (by have:=HL3.o;have:=HLA.o;omega) (by have:=HL4.o;have:=HLB.o;omega)).mono ?_);rintro e W5 ⟨m,v,l,rfl,hs5,hc5,hz5,hX5⟩;obtain⟨A5,c5,rfl,q1,q2,_⟩:=id hs5;unfold VJ at q2;have HKY:=Vk (OM hc5 hz5 HV3.o HV4.o HNA.o HNB.o);have HX5:=Vk ((Ext.tr (Ext.tr (Ext.tr hX1 hX2) hX3) hX4).tr ((eH W4 _ _).tr hX5));clear hs5 hc5 hz5))
 all_goals
  go_ret2;refine⟨?_,HX5.o.alloc HX5.o.size _⟩;rw[HKY.o];simp[*]
def NW(x y:Int):Lib.compareInt x y=lB x y:=by
 unfold Lib.compareInt lB;rcases Int.lt_trichotomy x y with h|h|h
 ·first|simp[h]|(rw[if_pos h,if_pos h])
 ·subst h;simp
 ·have:¬x<y:=VY;simp[h,this]
def tJ(x y:Int)(w:Vl):VC prog 214 #[VU VA x,VU VA y] w λe w'=>e=VV (VU VA (lB x y))/\w'=w:=by
 rw[<-NW];exact cmp_Compare_int x y w
def wH(a b:List UInt8)(w:Vl)(ha:a.length<=100000)(hb:b.length<=100000)(h:dv a b=0):
  VC prog 305 #[VR (tx a),VR (tx b)] w λe w'=>e=VV (VX #[VU VA (lB (num a) (num b)),VU VA 0])/\Ext w w':=by
 by_cases h18:18<a.length\/18<b.length
 ·exact uo a b w ha hb h18 h
 obtain⟨ca,cb⟩:=kK h;obtain⟨fa,la⟩:=eK ca;obtain⟨fb,lb⟩:=eK cb;have K1:=Vk (ik a b w VY VY);rw[h] at K1;have K2:=Vk (λW=>nK a b W VY VY fa fb);have K3:=Vk (λW=>tJ (num a) (num b) W);obtain⟨z,hz⟩:∃z,lB (num a) (num b)=z:=⟨_,rfl⟩;rw[hz];simp only[hz] at K3;clear h ca cb fa fb ha hb h18 la lb hz;go_enter func305,ntmps305;go_wp2_with(first
  |(go_at_call 294;refine K1.o.mono ?_;rintro e W1 ⟨rfl,hX1⟩)
  |(go_at_call 295;refine(K2.o _).mono ?_;rintro e W2 ⟨rfl,hX2⟩)
  |(go_at_call 214;go_must(refine(K3.o _).mono ?_);rintro e W3 ⟨rfl,rfl⟩))
 go_ret2;exact⟨rfl,Ext.tr hX1 hX2⟩
end
section
open Kp
noncomputable def wP(a b:List UInt8):List UInt8×Int:=
 if a.length+b.length<=18 then(Lib.itoa (num a*num b),0) else qI (Lib.hasPrefix a [45] !=Lib.hasPrefix b [45]) (cH (aw (own a)*aw (own b)))
def xD{a:List UInt8}(fa:aT a=Vv): -((10:Int)^a.length)<=num a/\num a<=(10:Int)^a.length:=by
 have h1:=kI (cV fa);have h2:10^(own a).length<=10^a.length:=Nat.pow_le_pow_right V0 (qx a);have h3:((10^a.length:Nat):Int)=(10:Int)^a.length:=V5;rw[<-h3];unfold num;split <;>omega
def iX{a b:List UInt8}(fa:aT a=Vv)(fb:aT b=Vv)(h:a.length+b.length<=18): -1000000000000000000<=num a*num b/\num a*num b<=1000000000000000000:=by
 have h1:=AQ (xD fa) (xD fb);have h2:(10:Int)^a.length*(10:Int)^b.length<=1000000000000000000:=by
  rw[<-Int.pow_add];have:((10^(a.length+b.length):Nat):Int)<=((10^18:Nat):Int):=Int.ofNat_le.2 (Nat.pow_le_pow_right V0 h);have e:((10^(a.length+b.length):Nat):Int)=(10:Int)^(a.length+b.length):=V5;rw[<-e];exact this
 omega
def JI(Z:Nat)(sa sb:Bool)(v1 v2:Vr)(L:List Nat)(r:List UInt8×Int):Nat->Vr->Vl->Prop
 |0,v,_=>v=VT (Vq ⟨Z,0,Vo⟩)
 |1,v,_=>v=VS sa
 |2,v,_=>v=VT (Vq ⟨Z+1,0,Vo⟩)
 |3,v,_=>v=VS sb
 |4,v,_=>v=VS (sa !=sb)
 |5,v,_=>v=VT (Vq ⟨Z,1,Vo⟩)
 |6,v,_=>v=v1
 |7,v,_=>v=VT (Vq ⟨Z+1,1,Vo⟩)
 |8,v,_=>v=v2
 |9,v,w=>bE w w.heap.size v L/\Small L/\L.length<=1000
 |10,v,w=>∃u,v=VW #[VS (sa !=sb),u]/\bE w w.heap.size u L/\Small L/\L.length<=1000
 |11,v,_=>v=VX #[VR (tx r.1),VU VA r.2]
 |12,v,_=>v=VR (tx r.1)
 |_,v,_=>v=VU VA r.2
def Pb{Z:Nat}{sa sb:Bool}{v1 v2:Vr}{L:List Nat}{r:List UInt8×Int}{i:Nat}{v:Vr}{w w':Vl}(h:JI Z sa sb v1 v2 L r i v w)(hx:Ext w w'):JI Z sa sb v1 v2 L r i v w':=by
 match i,h with
 |0,h|1,h|2,h|3,h|4,h|5,h|6,h|7,h|8,h|11,h|12,h=>exact h
 |9,h=>exact⟨bE.grow h.1 hx,h.2⟩
 |10,h=>obtain⟨u,e,hu,h2⟩:=h;exact⟨u,e,hu.grow hx,h2⟩
 |_+13,h=>exact h
def JO(a b:List UInt8)(w:Vl)(ha:a.length<=100000)(hb:b.length<=100000)(h18:18<a.length+b.length)(h:dv a b=0)(ht:aU w):
  VC prog 337 #[VR (tx a),VR (tx b)] w (iV w (wP a b)):=by
 obtain⟨ca,cb⟩:=kK h;obtain⟨fa,la⟩:=eK ca;obtain⟨fb,lb⟩:=eK cb;have da:=cV fa;have db:=cV fb;have K1:=Vk (ik a b w VY VY);rw[h] at K1;have K3:=Vk (λW=>mc W a da VY);have K4:=Vk (λW=>mc W b db VY);have HLA:=Vk la;have HLB:=Vk lb;have HT:=Vk ht;have HM:=Vk (show wP a b=qI (Lib.hasPrefix a [45] !=Lib.hasPrefix b [45]) (cH (aw (own a)*aw (own b))) by unfold wP;rw[if_neg VY]);have t18:decide ((a.length:Int)+(b.length:Int)<=18)=Vp:=V8;obtain⟨sa,hsa⟩:∃s,Lib.hasPrefix a [45]=s:=⟨_,rfl⟩;obtain⟨sb,hsb⟩:∃s,Lib.hasPrefix b [45]=s:=⟨_,rfl⟩;rw[hsa,hsb] at HM;unfold Mb at K3 K4;simp only[hsa] at K3;simp only[hsb] at K4;clear h ca cb fa fb da db h18 la lb ht hsa hsb;go_enter func337,ntmps337;go_wp2_with(first
  |(go_at_call 294;refine K1.o.mono ?_;rintro e W1 ⟨rfl,hX1⟩)
  |(go_at_call 296;((with_reducible refine(K4.o _).mono ?_);rintro e W4 ⟨v4,l4,rfl,⟨g4,cap4,rfl,hg4,hr4⟩,hc4,hv4,hl4,hX4⟩;have HR4:=Vk hr4;have HV4:=Vk hv4;have HL4:=Vk hl4;have HC4:=Vk hc4;clear hr4 hv4 hl4 hc4))
  |(go_at_call 296;((with_reducible refine(K3.o _).mono ?_);rintro e W3 ⟨v3,l3,rfl,⟨g3,cap3,rfl,hg3,hr3⟩,hc3,hv3,hl3,hX3⟩;have HR3:=Vk hr3;have HV3:=Vk hv3;have HL3:=Vk hl3;have HC3:=Vk hc3;clear hr3 hv3 hl3 hc3)))
 have EW:=Vk (Ext.tr (Ext.tr (Ext.tr hX1 hX3) hX4) (eH W4 (.cells #[VS sa,VQ (Vq ⟨g3,0,Vo⟩) l3.length cap3] 326) (.cells #[VS sb,VQ (Vq ⟨g4,0,Vo⟩) l4.length cap4] 326)));have R1:=(ah.new W4 326 [VS sa,VQ (Vq ⟨g3,0,Vo⟩) l3.length cap3]).ext ((Below.refl _ _).alloc (Vm _) (.cells #[VS sb,VQ (Vq ⟨g4,0,Vo⟩) l4.length cap4] 326));have R2:=ah.new (W4.alloc (.cells #[VS sa,VQ (Vq ⟨g3,0,Vo⟩) l3.length cap3] 326)) 326 [VS sb,VQ (Vq ⟨g4,0,Vo⟩) l4.length cap4];rw[VF] at R2;have S3:=((HR3.o.sl HR3.o.lt).grow hX4).grow (eH W4 (.cells #[VS sa,VQ (Vq ⟨g3,0,Vo⟩) l3.length cap3] 326) (.cells #[VS sb,VQ (Vq ⟨g4,0,Vo⟩) l4.length cap4] 326));have S4:=(HR4.o.sl HR4.o.lt).grow (eH W4 (.cells #[VS sa,VQ (Vq ⟨g3,0,Vo⟩) l3.length cap3] 326) (.cells #[VS sb,VQ (Vq ⟨g4,0,Vo⟩) l4.length cap4] 326));obtain⟨W0,hW0⟩:∃W0,(W4.alloc (.cells #[VS sa,VQ (Vq ⟨g3,0,Vo⟩) l3.length cap3] 326)).alloc (.cells #[VS sb,VQ (Vq ⟨g4,0,Vo⟩) l4.length cap4] 326)=W0:=⟨_,rfl⟩;simp only[hW0] at EW R1 R2 S3 S4⊢;clear hW0;have l3b:l3.length<=300:=by have:=HL3.o;have:=HLA.o;omega
 have l4b:l4.length<=300:=by have:=HL4.o;have:=HLB.o;omega
 have KT:=Vk (λ(W:Vl) (h:Ext W0 W)=>rj W l3 l4 _ _ (S3.grow h) (S4.grow h) HC3.o.small HC4.o.small VY VY);have KRS:=Vk (λ(W:Vl) (u:Vr) (h:Ext W0 W) (hs:bE W W.heap.size u (cH (aw (own a)*aw (own b)))) (h1:Small (cH (aw (own a)*aw (own b)))) (h2:(cH (aw (own a)*aw (own b))).length<=1000)=>rY W (sa !=sb) _ u hs h1 VY (HT.o.below (EW.o.tr h) (Vm _)));refine wp_region_any VZ (bM 14 (λvs=>⟨#[VR (tx a),VR (tx b),Vs,Vs,VR ⟨#[]⟩,VU VA 0,VU VA 0,Vs,Vs,Vs,VT (Vq ⟨W4.heap.size,0,Vo⟩),VT (Vq ⟨W4.heap.size+1,0,Vo⟩),VR (tx a),VR (tx b),VU VA 0,VU VA 0,VS Vp,Vs,VR (tx a),VU VA (a.length:Int),VR (tx b),VU VA (b.length:Int),VU VA ((a.length:Int)+(b.length:Int)),VS Vp,Vs,Vs,Vs,Vs,Vs,Vs,Vs,Vs,Vs,Vs,Vs,Vs,VR (tx a),VW #[VS sa,VQ (Vq ⟨g3,0,Vo⟩) l3.length cap3],VR (tx b),VW #[VS sb,VQ (Vq ⟨g4,0,Vo⟩) l4.length cap4],vs 0,vs 1,vs 2,vs 3,vs 4,vs 5,vs 6,vs 7,vs 8,vs 9,vs 10,vs 11,vs 12,vs 13],[]⟩)
  (λw'=>Ext W0 w') (JI W4.heap.size sa sb (VQ (Vq ⟨g3,0,Vo⟩) l3.length cap3) (VQ (Vq ⟨g4,0,Vo⟩) l4.length cap4) (cH (aw (own a)*aw (own b))) (qI (sa !=sb) (cH (aw (own a)*aw (own b))))) (λ_=>Vp) VZ (λ_ _ h k=>h.tr k) (λi v _ _ h k=>Pb h k) (λ_ _ _ _ h=>V6) ?step ?tail (λ_=>Vs) _ (Ext.dr W0))
 case step=>
  intro i vs w' hi hD hd;have cA:=λi=>(R1.ext hD).cell i
  have cB:=λi=>(R2.ext hD).cell i
  rcases(show i=0\/i=1\/i=2\/i=3\/i=4\/i=5\/i=6\/i=7\/i=8\/i=9\/i=10\/i=11\/i=12\/i=13 by omega) with rfl|rfl|rfl|rfl|rfl|rfl|rfl|rfl|rfl|rfl|rfl|rfl|rfl|rfl<;>clear hi
  ·exact Y1
  ·refine Vx rfl (λK hK=> ?_);have d0:=hd 0 VZ;simp only[JI] at d0;go_simp;exact hK _ _ ⟨VS sa,by simp[d0],Ext.aB _,rfl,λh=>V6⟩
  ·exact Y1
  ·refine Vx rfl (λK hK=> ?_);have d2:=hd 2 VZ;simp only[JI] at d2;go_simp;exact hK _ _ ⟨VS sb,by simp[d2],Ext.aB _,rfl,λh=>V6⟩
  ·refine Vx rfl (λK hK=> ?_);have d1:=hd 1 VZ;have d3:=hd 3 VZ;simp only[JI] at d1 d3;go_simp;exact hK _ _ ⟨VS (sa !=sb),by(simp[d1,d3];try(cases sa<;>cases sb<;>rfl)),Ext.aB _,rfl,λh=>V6⟩
  ·exact Y1
  ·refine Vx rfl (λK hK=> ?_);have d5:=hd 5 VZ;simp only[JI] at d5;go_simp;exact hK _ _ ⟨(VQ (Vq ⟨g3,0,Vo⟩) l3.length cap3),by simp[d5],Ext.aB _,rfl,λh=>V6⟩
  ·exact Y1
  ·refine Vx rfl (λK hK=> ?_);have d7:=hd 7 VZ;simp only[JI] at d7;go_simp;exact hK _ _ ⟨(VQ (Vq ⟨g4,0,Vo⟩) l4.length cap4),by simp[d7],Ext.aB _,rfl,λh=>V6⟩
  ·refine Vx rfl (λK hK=> ?_);have d6:=hd 6 VZ;have d8:=hd 8 VZ;simp only[JI] at d6 d8;clear cA cB;go_simp;refine(KT.o _ hD).mono ?_;rintro e W5 ⟨v,l,rfl,ho,hc,hv,hll,hX⟩;have hL:cH (aw (own a)*aw (own b))=l:=mE hc (by rw[hv,HV3.o,HV4.o]);have hs:bE W5 W5.heap.size v (cH (aw (own a)*aw (own b))):=by rw[hL];exact ho.sl
   exact hK _ _ ⟨v,by simp[d6,d8],hX,⟨hs,by rw[hL];exact hc.small,by rw[hL];omega⟩,λh=>V6⟩
  ·refine Vx rfl (λK hK=> ?_);have d4:=hd 4 VZ;obtain⟨d9,ds9,dl9⟩:=hd 9 VZ;obtain⟨A9,c9,e9,_,_,_⟩:=id d9;simp only[JI] at d4;rw[e9] at d9;have D9:=Vk d9;clear cA cB d9;go_simp;exact hK _ _ ⟨VW #[VS (sa !=sb),VQ A9 (cH (aw (own a)*aw (own b))).length c9],by simp[d4,e9],Ext.aB _,⟨_,rfl,D9.o,ds9,dl9⟩,λh=>V6⟩
  ·refine Vx rfl (λK hK=> ?_);obtain⟨u,e10,hs10,hs10b,hs10c⟩:=hd 10 VZ;have KR:=Vk (KRS.o w' u hD hs10 hs10b hs10c);clear cA cB hs10;go_simp;refine KR.o.mono ?_;rintro e W6 ⟨rfl,hX⟩;exact hK _ _ ⟨_,by simp[e10],hX,rfl,λh=>V6⟩
  ·refine Vx rfl (λK hK=> ?_);have d11:=hd 11 VZ;simp only[JI] at d11;go_simp;exact hK _ _ ⟨VR (tx (qI (sa !=sb) (cH (aw (own a)*aw (own b)))).1),by simp[d11],Ext.aB _,rfl,λh=>V6⟩
  ·refine Vx rfl (λK hK=> ?_);have d11:=hd 11 VZ;simp only[JI] at d11;go_simp;exact hK _ _ ⟨VU VA (qI (sa !=sb) (cH (aw (own a)*aw (own b)))).2,by simp[d11],Ext.aB _,rfl,λh=>V6⟩
 case tail=>
  intro vs w' hD hv _;have v12:=hv 12 V0;have v13:=hv 13 V0;simp only[JI] at v12 v13;clear hv;simp only[List.drop_succ_cons,List.drop_zero];go_wp2;go_ret2;rw[HM.o];refine⟨?_,EW.o.tr hD⟩;simp[v12,v13]
def MM(a b:List UInt8)(w:Vl)(ha:a.length<=100000)(hb:b.length<=100000)(h:dv a b=0)(ht:aU w):
  VC prog 337 #[VR (tx a),VR (tx b)] w (iV w (wP a b)):=by
 by_cases h18:a.length+b.length<=18
 ·obtain⟨ca,cb⟩:=kK h;obtain⟨fa,la⟩:=eK ca;obtain⟨fb,lb⟩:=eK cb;have K1:=Vk (ik a b w VY VY);rw[h] at K1;have K2:=Vk (λW=>nK a b W VY VY fa fb);have HM:=Vk (show wP a b=(Lib.itoa (num a*num b),0) by unfold wP;rw[if_pos h18]);have HT:=Vk ht;have hbd:=iX fa fb h18;obtain⟨x,hx⟩:∃x,num a=x:=⟨_,rfl⟩;obtain⟨y,hy⟩:∃y,num b=y:=⟨_,rfl⟩;rw[hx,hy] at hbd HM;simp only[hx,hy] at K2;obtain⟨hb1,hb2⟩:=hbd;have w1:VA.wrap (x*y)=x*y:=VI _ VY;have t18:decide ((a.length:Int)+(b.length:Int)<=18)=Vv:=Wh;clear h ca cb fa fb ha hb la lb ht hx hy;go_enter func337,ntmps337;go_wp2_with(first
   |(go_at_call 294;refine K1.o.mono ?_;rintro e W1 ⟨rfl,hX1⟩)
   |(go_at_call 295;refine(K2.o _).mono ?_;rintro e W2 ⟨rfl,hX2⟩)
   |(go_at_call 182;go_must(refine(jo (x*y) _ VY VY (HT.o.below (Ext.tr hX1 hX2) (Vm _))).mono ?_);rintro e W3 ⟨rfl,hX3⟩))
  go_ret2;rw[HM.o];exact⟨rfl,Ext.tr (Ext.tr hX1 hX2) hX3⟩
 ·exact JO a b w ha hb VY h ht
end
section
open Kp
noncomputable def jz(a b:List UInt8):List UInt8×Int:=if dv a b=0 then wP a b else([],dv a b)
noncomputable def nh(a b:List UInt8):Int×Int:=if dv a b=0 then(lB (num a) (num b),0) else(0,dv a b)
def Cy(s:List UInt8):s.length<=(own s).length+1:=by
 rcases xq s with⟨r,rfl,h⟩|⟨h,_⟩
 ·rw[h];simp
 ·rw[h];omega
def CC(a b:List UInt8):(jz a b).1.length<=1000:=by
 unfold jz;split
 ·rename_i h;obtain⟨ca,cb⟩:=kK h;unfold wP;split
  ·rename_i h18;have hb:=iX (eK ca).1 (eK cb).1 h18;have:=pz (n:=num a*num b) (by unfold bj;omega);show(Lib.itoa _).length<=_;omega
  ·unfold qI;split
   ·simp
   ·rename_i h300;have:=Cy (AS (Lib.hasPrefix a [45] !=Lib.hasPrefix b [45]) (cH (aw (own a)*aw (own b))));show(AS _ _).length<=_;omega
 ·simp
def xN(a b:List UInt8)(w:Vl)(ha:a.length<=100000)(hb:b.length<=100000)(ht:aU w):
  VC prog 337 #[VR (tx a),VR (tx b)] w (iV w (jz a b)):=by
 by_cases h:dv a b=0
 ·rw[show jz a b=wP a b by unfold jz;rw[if_pos h]];exact MM a b w ha hb h ht
 ·have HR:=Vk (show jz a b=([],dv a b) by unfold jz;rw[if_neg h]);have h':(dv a b !=0)=Vv:=Wy;have K1:=Vk (ik a b w VY VY);clear h ht;go_enter func337,ntmps337;exact Zf
def Ji(a b:List UInt8)(w:Vl)(ha:a.length<=100000)(hb:b.length<=100000):
  VC prog 305 #[VR (tx a),VR (tx b)] w λe w'=>e=VV (VX #[VU VA (nh a b).1,VU VA (nh a b).2])/\Ext w w':=by
 by_cases h:dv a b=0
 ·rw[show nh a b=(lB (num a) (num b),0) by unfold nh;rw[if_pos h]];exact wH a b w ha hb h
 ·have HR:=Vk (show nh a b=(0,dv a b) by unfold nh;rw[if_neg h]);have h':(dv a b !=0)=Vv:=Wy;have K1:=Vk (ik a b w VY VY);clear h;go_enter func305,ntmps305;exact Zf
structure Vj where
 u:List UInt8
 v:List UInt8
 e:Int
noncomputable def s7(n1 d1 n2 d2:List UInt8):Vj:=
 if(jz n1 d2).2≠0 then⟨[],[],(jz n1 d2).2⟩ else⟨(jz n1 d2).1,(jz n2 d1).1,(jz n2 d1).2⟩
def OD(n1 d1 n2 d2:List UInt8):(s7 n1 d1 n2 d2).u.length<=1000/\(s7 n1 d1 n2 d2).v.length<=1000:=by
 unfold s7;split
 ·simp
 ·exact⟨CC _ _,CC _ _⟩
def zh(n1 d1 n2 d2:List UInt8)(w:Vl)(h1:n1.length<=100000)(h2:d1.length<=100000)(h3:n2.length<=100000)(h4:d2.length<=100000)(ht:aU w):
  VC prog 304 #[VW #[VR (tx n1),VR (tx d1)],VW #[VR (tx n2),VR (tx d2)]] w λe w'=>
   e=VV (VX #[VR (tx (s7 n1 d1 n2 d2).u),VR (tx (s7 n1 d1 n2 d2).v),VU VA (s7 n1 d1 n2 d2).e])/\Ext w w':=by
 have E0:=Vk (eH w (.cells #[VR (tx n1),VR (tx d1)] 264) (.cells #[VR (tx n2),VR (tx d2)] 264));have R1:=Vk ((ah.new w 264 [VR (tx n1),VR (tx d1)]).ext ((Below.refl _ _).alloc (Vm _) (.cells #[VR (tx n2),VR (tx d2)] 264)));have r2:=ah.new (w.alloc (.cells #[VR (tx n1),VR (tx d1)] 264)) 264 [VR (tx n2),VR (tx d2)];rw[VF] at r2;have R2:=Vk r2;clear r2;have HT:=Vk ht;have K1:=Vk (λ(W:Vl) (h:Ext w W)=>xN n1 d2 W h1 h4 (HT.o.below h (Vm _)));have K2:=Vk (λ(W:Vl) (h:Ext w W)=>xN n2 d1 W h3 h2 (HT.o.below h (Vm _)));have HC:=Vk (show s7 n1 d1 n2 d2=if(jz n1 d2).2≠0 then⟨[],[],(jz n1 d2).2⟩ else⟨(jz n1 d2).1,(jz n2 d1).1,(jz n2 d1).2⟩ from rfl);clear ht;obtain⟨⟨u,c⟩,hu⟩:∃r,jz n1 d2=r:=⟨_,rfl⟩;obtain⟨⟨v,d⟩,hv⟩:∃r,jz n2 d1=r:=⟨_,rfl⟩;rw[hu,hv] at HC;unfold iV at K1 K2;simp only[hu] at K1;simp only[hv] at K2;dsimp only at HC;clear hu hv;by_cases hc:c=0
 ·have HV:=Vk (show s7 n1 d1 n2 d2=⟨u,v,d⟩ by rw[HC.o,if_neg (λh=>h hc)]);subst hc;go_enter func304,ntmps304;go_wp2_with(first
   |(go_at_call 337;((with_reducible refine(K1.o _ E0.o).mono ?_);rintro e W1 ⟨rfl,hX1⟩;have q1:=λi=>(R1.o.ext hX1).cell i;have q2:=λi=>(R2.o.ext hX1).cell i;have HX1:=Vk (Ext.tr E0.o hX1)))
   |(go_at_call 337;((with_reducible refine(K2.o _ HX1.o).mono ?_);rintro e W2 ⟨rfl,hX2⟩)))
  rw[HV.o];refine bodyPost_ret (v:= VX #[VR (tx u),VR (tx v),VU VA d]) ?_ rfl ⟨rfl,Ext.tr HX1.o hX2⟩;simp[results,results304,go_sem]
 ·have HV:=Vk (show s7 n1 d1 n2 d2=⟨[],[],c⟩ by rw[HC.o,if_pos hc]);have t:(c !=0)=Vv:=by rw[bne_iff_ne];exact hc
  clear hc;go_enter func304,ntmps304;go_wp2_with(go_at_call 337;((with_reducible refine(K1.o _ E0.o).mono ?_);rintro e W1 ⟨rfl,hX1⟩;have HX1:=Vk (Ext.tr E0.o hX1)))
  rw[HV.o];refine bodyPost_ret (v:= VX #[VR (tx []),VR (tx []),VU VA c]) ?_ rfl ⟨rfl,HX1.o⟩;simp[results,results304,go_sem,tx]
end
section
open Kp
def uk{a:List UInt8}{x y:Int}(h:de a=(x,y)): -1000000000<=x/\x<=1000000000/\ -1000000000<=y/\y<=1000000000:=by
 unfold de at h;split at h
 ·unfold tM at h;cases hn:dk (own a) with
  |none=>rw[hn] at h;injection h with h1 h2;omega
  |some p=>
   obtain⟨n,r⟩:=p;rw[hn] at h;dsimp only at h;have hb:=cn hn;injection h with h1 h2
   have hx: -1000000000<=x/\x<=1000000000:=by
    rw[<-h1];split <;>omega
   have hy: -1000000000<=y/\y<=1000000000:=by
    rw[<-h2];cases r with
    |nil=>simp
    |cons c r'=>
     dsimp only;cases hm:dk r' with
     |none=>simp
     |some q=>
      obtain⟨d,q'⟩:=q;have:=cn hm;dsimp only;omega
   exact⟨hx.1,hx.2,hy.1,hy.2⟩
 ·injection h with h1 h2;omega
def bG(a:List UInt8):List UInt8×List UInt8:=(dP a).getD ([],[])
noncomputable def gS(a b:List UInt8):Int×Int:=
 if bJ a&&bJ b then(lB ((de a).1*(de b).2) ((de b).1*(de a).2),0)
 else if(s7 (bG a).1 (bG a).2 (bG b).1 (bG b).2).e≠0 then(0,(s7 (bG a).1 (bG a).2 (bG b).1 (bG b).2).e)
 else nh (s7 (bG a).1 (bG a).2 (bG b).1 (bG b).2).u (s7 (bG a).1 (bG a).2 (bG b).1 (bG b).2).v
def Ln(w:Vl)(r:Int×Int)(e:Ending)(w':Vl):Prop:=e=VV (VX #[VU VA r.1,VU VA r.2])/\Ext w w'
def AE(a b:List UInt8)(w:Vl)(ha:a.length<=99999)(hb:b.length<=99999)(ca:bS a=0)(cb:bS b=0)(hm:eO w)(ht:aU w):
  VC prog 272 #[VR (tx a),VR (tx b)] w (Ln w (gS a b)):=by
 have HM:=Vk hm;have HT:=Vk ht;have KA:=Vk (λW=>lG a W VY);have KB:=Vk (λW=>lG b W VY);have KRA:=Vk (λ(W:Vl) (h:Ext w W)=>oC a W VY (HM.o.below h (Vm _)) (HT.o.below h (Vm _)));have KRB:=Vk (λ(W:Vl) (h:Ext w W)=>oC b W VY (HM.o.below h (Vm _)) (HT.o.below h (Vm _)));unfold cQ at KA KB;unfold zu at KRA KRB;simp only[ca] at KRA;simp only[cb] at KRB;have HQ:=Vk (show gS a b=if bJ a&&bJ b then(lB ((de a).1*(de b).2) ((de b).1*(de a).2),0)
  else if(s7 (bG a).1 (bG a).2 (bG b).1 (bG b).2).e≠0 then(0,(s7 (bG a).1 (bG a).2 (bG b).1 (bG b).2).e)
  else nh (s7 (bG a).1 (bG a).2 (bG b).1 (bG b).2).u (s7 (bG a).1 (bG a).2 (bG b).1 (bG b).2).v from rfl)
 obtain⟨oa,hoa⟩:∃o,bJ a=o:=⟨_,rfl⟩;obtain⟨ob,hob⟩:∃o,bJ b=o:=⟨_,rfl⟩;rw[hoa,hob] at HQ;simp only[hoa] at KA;simp only[hob] at KB;have KZ:=Vk (λ(x y:Int) (W:Vl)=>tJ x y W);clear hm ht hoa hob;by_cases hab:(oa&&ob)=Vv
 ·obtain⟨rfl,rfl⟩:oa=Vv/\ob=Vv:=by simpa using hab
  have HV:=Vk (show gS a b=(lB ((de a).1*(de b).2) ((de b).1*(de a).2),0) by rw[HQ.o];rfl);clear hab ca cb;go_enter func272,ntmps272;go_wp2_with(first
   |(go_at_call 259;((with_reducible refine(KA.o _).mono ?_);rintro e W1 ⟨x1,y1,rfl,hz1,hX1⟩;obtain⟨b1,b2,b3,b4⟩:=uk hz1;have HZ1:=Vk hz1;clear hz1;have R1:=Vk (ah.new W1 289 [VU VA x1,VU VA y1]);have HX1:=Vk hX1;clear hX1))
   |(go_at_call 259;((with_reducible refine(KB.o _).mono ?_);rintro e W2 ⟨x2,y2,rfl,hz2,hX2⟩;obtain⟨b5,b6,b7,b8⟩:=uk hz2;have HZ2:=Vk hz2;clear hz2;have q0:=(R1.o.ext hX2).cell 0;have q1:=(R1.o.ext hX2).cell 1;have qz:=(R1.o.ext hX2).lt;have HX2:=Vk (Ext.tr (HX1.o.alloc (Below.size HX1.o) _) hX2);clear hX2;have lD:=AQ (a:=x1) (b:=y2) (m:=1000000000) (n:=1000000000) VY VY;have qG:=AQ (a:=x2) (b:=y1) (m:=1000000000) (n:=1000000000) VY VY;obtain⟨p1,p2⟩:=lD;obtain⟨p3,p4⟩:=qG))
   |(go_at_call 214;go_must(refine(KZ.o _ _ _).mono ?_);rintro e W3 ⟨rfl,rfl⟩))
  go_ret2;refine⟨?_,HX2.o.alloc (Below.size HX2.o) _⟩;rw[HV.o,HZ1.o,HZ2.o]
  rfl
 ·obtain⟨n1,d1,hc1⟩:∃n d,dP a=Vq (n,d):=by
   cases h:dP a with
   |none=>unfold bS at ca;rw[h] at ca;cases ca
   |some p=>exact⟨p.1,p.2,rfl⟩
  obtain⟨n2,d2,hc2⟩:∃n d,dP b=Vq (n,d):=by
   cases h:dP b with
   |none=>unfold bS at cb;rw[h] at cb;cases cb
   |some p=>exact⟨p.1,p.2,rfl⟩
  have hl1:=qc hc1;have hl2:=qc hc2;have KC:=Vk (λ(W:Vl) (h:Ext w W)=>zh n1 d1 n2 d2 W VY VY VY VY (HT.o.below h (Vm _)));have hcl:=OD n1 d1 n2 d2;have HV:=Vk (show gS a b=if(s7 n1 d1 n2 d2).e≠0 then(0,(s7 n1 d1 n2 d2).e) else nh (s7 n1 d1 n2 d2).u (s7 n1 d1 n2 d2).v by
   have e1:bG a=(n1,d1):=by unfold bG;rw[hc1];rfl
   have e2:bG b=(n2,d2):=by unfold bG;rw[hc2];rfl
   rw[HQ.o,if_neg hab,e1,e2])
  obtain⟨⟨u,v,c⟩,hu⟩:∃r,s7 n1 d1 n2 d2=r:=⟨_,rfl⟩;rw[hu] at HV hcl;simp only[hu] at KC;dsimp only at HV hcl;have KI:=Vk (λW=>Ji u v W VY VY);have HCA:=Vk hc1;have HCB:=Vk hc2;have HAB:=Vk hab;clear hu hcl hc1 hc2 hl1 hl2 ca cb hab;by_cases hc:c=0
  ·have HW:=Vk (show gS a b=nh u v by rw[HV.o,if_neg (λh=>h hc)]);subst hc;obtain⟨⟨z,f⟩,hz⟩:∃r,nh u v=r:=⟨_,rfl⟩;rw[hz] at HW;simp only[hz] at KI;clear hz;cases oa
   ·go_enter func272,ntmps272;go_wp2_with(first
     |(go_at_call 259;((with_reducible refine(KA.o _).mono ?_);rintro e W1 ⟨x1,y1,rfl,_,hX1⟩;have HX1:=Vk (Ext.tr (Ext.aB w) hX1);clear hX1))
     |(go_at_call 231;((with_reducible refine(KRA.o _ (HX1.o.alloc (Below.size HX1.o) _)).mono ?_);rintro e W3 ⟨x3,y3,rfl,hp3,hX3⟩;obtain⟨n',d',e1,rfl,rfl⟩:=hp3 trivial;rw[HCA.o] at e1;obtain⟨rfl,rfl⟩:n1=n'/\d1=d':=by{injection e1 with e1;injection e1 with e2 e3;exact⟨e2,e3⟩};have R3:=Vk (ah.new W3 264 [VR (tx n1),VR (tx d1)]);have HX3:=Vk (Ext.tr (HX1.o.alloc (Below.size HX1.o) _) hX3);clear hX3 hp3))
     |(go_at_call 231;((with_reducible refine(KRB.o _ (HX3.o.alloc (Below.size HX3.o) _)).mono ?_);rintro e W4 ⟨x4,y4,rfl,hp4,hX4⟩;obtain⟨n',d',e1,rfl,rfl⟩:=hp4 trivial;rw[HCB.o] at e1;obtain⟨rfl,rfl⟩:n2=n'/\d2=d':=by{injection e1 with e1;injection e1 with e2 e3;exact⟨e2,e3⟩};have s0:=(R3.o.ext hX4).cell 0;have s1:=(R3.o.ext hX4).cell 1;have sz:=(R3.o.ext hX4).lt;have HX4:=Vk (Ext.tr (HX3.o.alloc (Below.size HX3.o) _) hX4);clear hX4 hp4))
     |(go_at_call 304;((with_reducible refine(KC.o _ (HX4.o.alloc (Below.size HX4.o) _)).mono ?_);rintro e W5 ⟨rfl,hX5⟩;have HX5:=Vk (Ext.tr (HX4.o.alloc (Below.size HX4.o) _) hX5);clear hX5))
     |(go_at_call 305;go_must(refine(KI.o _).mono ?_);rintro e W6 ⟨rfl,hX6⟩))
    go_ret2;rw[HW.o];exact⟨rfl,Ext.tr HX5.o hX6⟩
   ·cases ob
    ·go_enter func272,ntmps272;go_wp2_with(first
      |(go_at_call 259;((with_reducible refine(KA.o _).mono ?_);rintro e W1 ⟨x1,y1,rfl,_,hX1⟩;have HX1:=Vk (Ext.tr (Ext.aB w) hX1);clear hX1))
      |(go_at_call 259;((with_reducible refine(KB.o _).mono ?_);rintro e W2 ⟨x2,y2,rfl,_,hX2⟩;have HX2:=Vk (Ext.tr (HX1.o.alloc (Below.size HX1.o) _) hX2);clear hX2))
      |(go_at_call 231;((with_reducible refine(KRA.o _ (HX2.o.alloc (Below.size HX2.o) _)).mono ?_);rintro e W3 ⟨x3,y3,rfl,hp3,hX3⟩;obtain⟨n',d',e1,rfl,rfl⟩:=hp3 trivial;rw[HCA.o] at e1;obtain⟨rfl,rfl⟩:n1=n'/\d1=d':=by{injection e1 with e1;injection e1 with e2 e3;exact⟨e2,e3⟩};have R3:=Vk (ah.new W3 264 [VR (tx n1),VR (tx d1)]);have HX3:=Vk (Ext.tr (HX2.o.alloc (Below.size HX2.o) _) hX3);clear hX3 hp3))
      |(go_at_call 231;((with_reducible refine(KRB.o _ (HX3.o.alloc (Below.size HX3.o) _)).mono ?_);rintro e W4 ⟨x4,y4,rfl,hp4,hX4⟩;obtain⟨n',d',e1,rfl,rfl⟩:=hp4 trivial;rw[HCB.o] at e1;obtain⟨rfl,rfl⟩:n2=n'/\d2=d':=by{injection e1 with e1;injection e1 with e2 e3;exact⟨e2,e3⟩};have s0:=(R3.o.ext hX4).cell 0;have s1:=(R3.o.ext hX4).cell 1;have sz:=(R3.o.ext hX4).lt;have HX4:=Vk (Ext.tr (HX3.o.alloc (Below.size HX3.o) _) hX4);clear hX4 hp4))
      |(go_at_call 304;((with_reducible refine(KC.o _ (HX4.o.alloc (Below.size HX4.o) _)).mono ?_);rintro e W5 ⟨rfl,hX5⟩;have HX5:=Vk (Ext.tr (HX4.o.alloc (Below.size HX4.o) _) hX5);clear hX5))
      |(go_at_call 305;go_must(refine(KI.o _).mono ?_);rintro e W6 ⟨rfl,hX6⟩))
     go_ret2;rw[HW.o];exact⟨rfl,Ext.tr HX5.o hX6⟩
    ·exact absurd rfl HAB.o
  ·have HW:=Vk (show gS a b=(0,c) by rw[HV.o,if_pos hc]);have t:(c !=0)=Vv:=by rw[bne_iff_ne];exact hc
   clear hc;cases oa
   ·go_enter func272,ntmps272;go_wp2_with(first
     |(go_at_call 259;((with_reducible refine(KA.o _).mono ?_);rintro e W1 ⟨x1,y1,rfl,_,hX1⟩;have HX1:=Vk (Ext.tr (Ext.aB w) hX1);clear hX1))
     |(go_at_call 231;((with_reducible refine(KRA.o _ (HX1.o.alloc (Below.size HX1.o) _)).mono ?_);rintro e W3 ⟨x3,y3,rfl,hp3,hX3⟩;obtain⟨n',d',e1,rfl,rfl⟩:=hp3 trivial;rw[HCA.o] at e1;obtain⟨rfl,rfl⟩:n1=n'/\d1=d':=by{injection e1 with e1;injection e1 with e2 e3;exact⟨e2,e3⟩};have R3:=Vk (ah.new W3 264 [VR (tx n1),VR (tx d1)]);have HX3:=Vk (Ext.tr (HX1.o.alloc (Below.size HX1.o) _) hX3);clear hX3 hp3))
     |(go_at_call 231;((with_reducible refine(KRB.o _ (HX3.o.alloc (Below.size HX3.o) _)).mono ?_);rintro e W4 ⟨x4,y4,rfl,hp4,hX4⟩;obtain⟨n',d',e1,rfl,rfl⟩:=hp4 trivial;rw[HCB.o] at e1;obtain⟨rfl,rfl⟩:n2=n'/\d2=d':=by{injection e1 with e1;injection e1 with e2 e3;exact⟨e2,e3⟩};have s0:=(R3.o.ext hX4).cell 0;have s1:=(R3.o.ext hX4).cell 1;have sz:=(R3.o.ext hX4).lt;have HX4:=Vk (Ext.tr (HX3.o.alloc (Below.size HX3.o) _) hX4);clear hX4 hp4))
     |(go_at_call 304;((with_reducible refine(KC.o _ (HX4.o.alloc (Below.size HX4.o) _)).mono ?_);rintro e W5 ⟨rfl,hX5⟩;have HX5:=Vk (Ext.tr (HX4.o.alloc (Below.size HX4.o) _) hX5);clear hX5)))
    go_ret2;rw[HW.o];exact⟨rfl,HX5.o⟩
   ·cases ob
    ·go_enter func272,ntmps272;go_wp2_with(first
      |(go_at_call 259;((with_reducible refine(KA.o _).mono ?_);rintro e W1 ⟨x1,y1,rfl,_,hX1⟩;have HX1:=Vk (Ext.tr (Ext.aB w) hX1);clear hX1))
      |(go_at_call 259;((with_reducible refine(KB.o _).mono ?_);rintro e W2 ⟨x2,y2,rfl,_,hX2⟩;have HX2:=Vk (Ext.tr (HX1.o.alloc (Below.size HX1.o) _) hX2);clear hX2))
      |(go_at_call 231;((with_reducible refine(KRA.o _ (HX2.o.alloc (Below.size HX2.o) _)).mono ?_);rintro e W3 ⟨x3,y3,rfl,hp3,hX3⟩;obtain⟨n',d',e1,rfl,rfl⟩:=hp3 trivial;rw[HCA.o] at e1;obtain⟨rfl,rfl⟩:n1=n'/\d1=d':=by{injection e1 with e1;injection e1 with e2 e3;exact⟨e2,e3⟩};have R3:=Vk (ah.new W3 264 [VR (tx n1),VR (tx d1)]);have HX3:=Vk (Ext.tr (HX2.o.alloc (Below.size HX2.o) _) hX3);clear hX3 hp3))
      |(go_at_call 231;((with_reducible refine(KRB.o _ (HX3.o.alloc (Below.size HX3.o) _)).mono ?_);rintro e W4 ⟨x4,y4,rfl,hp4,hX4⟩;obtain⟨n',d',e1,rfl,rfl⟩:=hp4 trivial;rw[HCB.o] at e1;obtain⟨rfl,rfl⟩:n2=n'/\d2=d':=by{injection e1 with e1;injection e1 with e2 e3;exact⟨e2,e3⟩};have s0:=(R3.o.ext hX4).cell 0;have s1:=(R3.o.ext hX4).cell 1;have sz:=(R3.o.ext hX4).lt;have HX4:=Vk (Ext.tr (HX3.o.alloc (Below.size HX3.o) _) hX4);clear hX4 hp4))
      |(go_at_call 304;((with_reducible refine(KC.o _ (HX4.o.alloc (Below.size HX4.o) _)).mono ?_);rintro e W5 ⟨rfl,hX5⟩;have HX5:=Vk (Ext.tr (HX4.o.alloc (Below.size HX4.o) _) hX5);clear hX5)))
     go_ret2;rw[HW.o];exact⟨rfl,HX5.o⟩
    ·exact absurd rfl HAB.o
def iQ(a b:List UInt8)(w:Vl)(ha:a.length<=99999)(hb:b.length<=99999)(ca:bS a=0)(cb:bS b=0)(hm:eO w)(ht:aU w):
  VC prog 241 #[VR (tx a),VR (tx b)] w λe w'=>e=VV (VU VA (gS a b).1)/\Ext w w':=by
 have K:=Vk (AE a b w ha hb ca cb hm ht);obtain⟨⟨z,f⟩,hz⟩:∃r,gS a b=r:=⟨_,rfl⟩;unfold Ln at K;rw[hz] at K⊢;clear hz ca cb hm ht;go_enter func241,ntmps241;go_wp2_with(go_at_call 272;go_must(refine K.o.mono ?_);rintro e W1 ⟨rfl,hX1⟩)
 go_ret;exact⟨rfl,hX1⟩
end
section
open Kp
abbrev FA(l:List (List UInt8)):List (List Vr):=l.map λs=>[VR (tx s)]
def yh{l:List (List UInt8)}{i:Nat}(hi:i<l.length):(FA l).getD i []=[VR (tx (l.getD i []))]:=by
 exact Y5
noncomputable def jn(l:List (List UInt8)):Int:=
 if aV (λi=>bS (l.getD i [])) l.length≠0 then aV (λi=>bS (l.getD i [])) l.length else aV (λi=>lU (l.getD i [])) l.length
def Ut(w:Vl)(n:Nat)(f:Nat->Int)(i:Vr)(wr:Vl):Prop:=∃k:Nat,k<=n/\i=VU VA (k:Int)/\Ext w wr/\∀j,j<k->f j=0
def AM(w:Vl)(A:Option VM)(cap:Nat)(l:List (List UInt8))(hl:bK 1 w w.heap.size A cap (FA l))(hs:∀x∈l,x.length<=99999)(hm:eO w)(ht:aU w):
  VC prog 240 #[VQ A l.length cap] w λe w'=>e=VV (VU VA (jn l))/\Ext w w':=by
 obtain⟨h1,h2,h3⟩:=hl;rw[Vu] at h1 h3;unfold VJ at h2;have H3:=Vk h3;have HS:=Vk hs;have HM:=Vk hm;have HT:=Vk ht;have HN:=Vk (show jn l=if aV (λi=>bS (l.getD i [])) l.length≠0 then aV (λi=>bS (l.getD i [])) l.length else aV (λi=>lU (l.getD i [])) l.length from rfl);clear h3 hs hm ht;go_enter func240,ntmps240;go_wp2;go_loopw [11] (λi wr=>Ut w l.length (λi=>bS (l.getD i [])) i wr) (λi _=>((l.length:Int)-VG i).toNat)
 case atStart=>exact⟨0,VY,rfl,Below.refl _ _,λj hj=>VY⟩
 case round=>
  obtain⟨k,hk,rfl,hX,hall⟩:=hrel;have HX:=Vk hX;have HA:=Vk hall;clear hX hall;by_cases hlt:k<l.length
  ·obtain⟨b,off,rfl,hB,hcell0⟩:=H3.o VY;have c0:=(HX.o.cell (p:=⟨b,off+1*k+0,Vo⟩) hB).trans (hcell0 k hlt 0 V0);rw[yh hlt,Nat.one_mul,Nat.add_zero] at c0;have hwl:=HS.o (l.getD k []) (by rw[Vn,Vt hlt];exact List.getElem_mem hlt);obtain⟨s,hs⟩:∃s,l.getD k []=s:=⟨_,rfl⟩;rw[hs] at c0 hwl;have KC:=Vk (uC s wr VY (HM.o.below HX.o (Vm _)) (HT.o.below HX.o (Vm _)));have HF:=Vk (show bS (l.getD k [])=bS s by rw[hs]);obtain⟨c,hc⟩:∃c,bS s=c:=⟨_,rfl⟩;rw[hc] at KC HF;clear hcell0 hwl hs hc;by_cases hc0:c=0
   ·have HZ:=Vk (show∀j,j<k+1->bS (l.getD j [])=0 fromλj hj=>by
     by_cases hjk:j=k
     ·rw[hjk,HF.o];exact hc0
     ·exact HA.o j VY)
    subst hc0;go_wp2_with(go_at_call 183;go_must(refine KC.o.mono ?_);rintro e W1 ⟨rfl,hX1⟩)
    exact⟨⟨k+1,VY,V5,Ext.tr HX.o hX1,HZ.o⟩,V7⟩
   ·have HV:=Vk (show jn l=c by
     have h1:aV (λi=>bS (l.getD i [])) l.length=c:=by rw[bQ hlt HA.o (by show bS (l.getD k [])≠0;rw[HF.o];exact hc0)];exact HF.o
     rw[HN.o,h1,if_pos hc0])
    have tc:(c !=0)=Vv:=XG;go_wp2_with(go_at_call 183;go_must(refine KC.o.mono ?_);rintro e W1 ⟨rfl,hX1⟩)
    go_ret;exact⟨Wv,Ext.tr HX.o hX1⟩
  ·have hlt':decide ((k:Int)<(l.length:Int))=Vp:=V8;have HN2:=Vk (show jn l=aV (λi=>lU (l.getD i [])) l.length by
    have h1:aV (λi=>bS (l.getD i [])) l.length=0:=bh (λj hj=>HA.o j VY);rw[HN.o,h1,if_neg (λh=>h rfl)])
   clear hk;go_wp2;go_loopw [23] (λi wr=>Ut w l.length (λi=>lU (l.getD i [])) i wr) (λi _=>((l.length:Int)-VG i).toNat)
   case atStart=>exact⟨0,VY,rfl,HX.o,λj hj=>VY⟩
   case round=>
    clear HX;obtain⟨q,hq,rfl,hX,hall⟩:=hrel;have HX:=Vk hX;have HB:=Vk hall;clear hX hall;by_cases hlq:q<l.length
    ·obtain⟨b,off,rfl,hB,hcell0⟩:=H3.o VY;have c0:=(HX.o.cell (p:=⟨b,off+1*q+0,Vo⟩) hB).trans (hcell0 q hlq 0 V0);rw[yh hlq,Nat.one_mul,Nat.add_zero] at c0;have hwl:=HS.o (l.getD q []) (by rw[Vn,Vt hlq];exact List.getElem_mem hlq);obtain⟨s,hs⟩:∃s,l.getD q []=s:=⟨_,rfl⟩;rw[hs] at c0 hwl;have KC:=Vk (BR s wr VY (HM.o.below HX.o (Vm _)) (HT.o.below HX.o (Vm _)));have HF:=Vk (show lU (l.getD q [])=lU s by rw[hs]);obtain⟨c,hc⟩:∃c,lU s=c:=⟨_,rfl⟩;rw[hc] at KC HF;clear hcell0 hwl hs hc;by_cases hc0:c=0
     ·have HZ:=Vk (show∀j,j<q+1->lU (l.getD j [])=0 fromλj hj=>by
       by_cases hjk:j=q
       ·rw[hjk,HF.o];exact hc0
       ·exact HB.o j VY)
      subst hc0;go_wp2_with(go_at_call 271;go_must(refine KC.o.mono ?_);rintro e W1 ⟨rfl,hX1⟩)
      exact⟨⟨q+1,VY,V5,Ext.tr HX.o hX1,HZ.o⟩,V7⟩
     ·have HV:=Vk (show jn l=c by
       rw[HN2.o,bQ hlq HB.o (by show lU (l.getD q [])≠0;rw[HF.o];exact hc0)];exact HF.o)
      have tc:(c !=0)=Vv:=XG;go_wp2_with(go_at_call 271;go_must(refine KC.o.mono ?_);rintro e W1 ⟨rfl,hX1⟩)
      go_ret;exact⟨Wv,Ext.tr HX.o hX1⟩
    ·have hlq':decide ((q:Int)<(l.length:Int))=Vp:=V8;have HV:=Vk (show jn l=0 by rw[HN2.o,bh (λj hj=>HB.o j VY)]);go_wp2;go_ret;exact⟨Wv,HX.o⟩
abbrev wm(o:kR):List Vr:=[VU VA o.side,VR (tx o.left),VR (tx o.right),VR (tx o.low),VR (tx o.high)]
abbrev bD(l:List kR):List (List Vr):=l.map wm
def ow{l:List kR}{i:Nat}(hi:i<l.length):(bD l).getD i []=wm (l.getD i ef):=by
 exact Y5
def mH(l:List kR):dj 5 (bD l):=bw (f:=wm) (λ_=>rfl) l
noncomputable def sX(o:kR):Int:=if jn [o.left,o.right,o.low,o.high]≠0 then jn [o.left,o.right,o.low,o.high] else if 0<=(gS o.left o.right).1\/0<=(gS o.low o.high).1 then 10 else 0
noncomputable def AV(a b:kR):Bool:=a.side==b.side&&decide ((gS a.left b.right).1<0)&&decide ((gS b.left a.right).1<0)&&decide ((gS a.low b.high).1<0)&&decide ((gS b.low a.high).1<0)
structure Qk(o:kR):Prop where
 l1:o.left.length<=99999
 r1:o.right.length<=99999
 w1:o.low.length<=99999
 h1:o.high.length<=99999
 l2:bS o.left=0
 r2:bS o.right=0
 w2:bS o.low=0
 h2:bS o.high=0
structure zG(o:kR):Prop where
 l1:o.left.length<=99999
 r1:o.right.length<=99999
 w1:o.low.length<=99999
 h1:o.high.length<=99999
def Ha{a b c d:List UInt8}(h:jn [a,b,c,d]=0):bS a=0/\bS b=0/\bS c=0/\bS d=0:=by
 unfold jn at h;split at h
 ·rename_i h1;exact absurd h h1
 ·rename_i h1;have hz:=rC (Decidable.not_not.1 h1);exact⟨hz 0 V5,hz 1 V5,hz 2 V5,hz 3 V5⟩
def Pq{o:kR}(hs:zG o)(h:sX o=0):Qk o:=by
 have h0:jn [o.left,o.right,o.low,o.high]=0:=by
  by_cases hn:jn [o.left,o.right,o.low,o.high]=0
  ·exact hn
  ·unfold sX at h;rw[if_pos hn] at h;exact absurd h hn
 obtain⟨a,b,c,d⟩:=Ha h0;exact⟨hs.l1,hs.r1,hs.w1,hs.h1,a,b,c,d⟩
def Cc(o:kR)(w:Vl)(hs:zG o)(hm:eO w)(ht:aU w):VC prog 201 #[VW (wm o).toArray] w λe w'=>e=VV (VU VA (sX o))/\Ext w w':=by
 obtain⟨sd,a,b,c,d⟩:=o;obtain⟨l1,r1,w1,h1⟩:=hs;dsimp only at l1 r1 w1 h1;have HM:=Vk hm;have HT:=Vk ht;have E2:=Vk (eH w (.cells #[VU VA sd,VR (tx a),VR (tx b),VR (tx c),VR (tx d)] 57) (.cells #[VR (tx a),VR (tx b),VR (tx c),VR (tx d)] 55));have R1:=Vk ((ah.new w 57 [VU VA sd,VR (tx a),VR (tx b),VR (tx c),VR (tx d)]).ext ((Below.refl _ _).alloc (Vm _) (.cells #[VR (tx a),VR (tx b),VR (tx c),VR (tx d)] 55)));have r2:=ah.new (w.alloc (.cells #[VU VA sd,VR (tx a),VR (tx b),VR (tx c),VR (tx d)] 57)) 55 [VR (tx a),VR (tx b),VR (tx c),VR (tx d)];rw[VF] at r2;have hsl:bK 1 _ _ (Vq ⟨w.heap.size+1,0,Vo⟩) 4 (FA [a,b,c,d]):=⟨V5,Wc,λ_=>⟨w.heap.size+1,0,rfl,r2.lt,λi hi j hj=>by
  obtain rfl:j=0:=VY;simp at hi;rw[r2.cell,Nat.one_mul,Nat.zero_add,Nat.add_zero];rcases(show i=0\/i=1\/i=2\/i=3 by omega) with rfl|rfl|rfl|rfl<;>rfl⟩⟩
 have KN:=Vk (AM _ _ 4 [a,b,c,d] hsl (by simp;exact⟨l1,r1,w1,h1⟩) (HM.o.below E2.o (Vm _)) (HT.o.below E2.o (Vm _)));have HF:=Vk (show sX ⟨sd,a,b,c,d⟩=if jn [a,b,c,d]≠0 then jn [a,b,c,d] else if 0<=(gS a b).1\/0<=(gS c d).1 then 10 else 0 from rfl);have hno:=Vk (λh=>Ha (a:=a) (b:=b) (c:=c) (d:=d) h);clear hm ht r2 hsl;obtain⟨n,hn⟩:∃n,jn [a,b,c,d]=n:=⟨_,rfl⟩;rw[hn] at KN HF hno;clear hn;by_cases hn0:n=0
 ·obtain⟨ca,cb,cc,cd⟩:=hno.o hn0;have K1:=Vk (λ(W:Vl) (h:Ext w W)=>iQ a b W l1 r1 ca cb (HM.o.below h (Vm _)) (HT.o.below h (Vm _)));have K2:=Vk (λ(W:Vl) (h:Ext w W)=>iQ c d W w1 h1 cc cd (HM.o.below h (Vm _)) (HT.o.below h (Vm _)));have HG:=Vk (show sX ⟨sd,a,b,c,d⟩=if 0<=(gS a b).1\/0<=(gS c d).1 then 10 else 0 by rw[HF.o,if_neg (λh=>h hn0)]);subst hn0;obtain⟨x,hx⟩:∃x,(gS a b).1=x:=⟨_,rfl⟩;obtain⟨y,hy⟩:∃y,(gS c d).1=y:=⟨_,rfl⟩;rw[hx,hy] at HG;simp only[hx] at K1;simp only[hy] at K2;clear hx hy ca cb cc cd;by_cases hx0:0<=x
  ·have tx0:decide (0<=x)=Vv:=by rw[decide_eq_true_eq];exact hx0
   have HV:=Vk (show sX ⟨sd,a,b,c,d⟩=10 by rw[HG.o,if_pos (.inl hx0)]);go_enter func201,ntmps201;go_wp2_with(first
    |(go_at_call 240;go_must(refine KN.o.mono ?_);rintro e W1 ⟨rfl,hX1⟩;have q1:=λi=>(R1.o.ext hX1).cell i;have HX1:=Vk (Ext.tr E2.o hX1);clear hX1)
    |(go_at_call 241;((with_reducible refine(K1.o _ HX1.o).mono ?_);rintro e W2 ⟨rfl,hX2⟩)))
   go_ret;exact⟨Wv,Ext.tr HX1.o hX2⟩
  ·have tx0:decide (0<=x)=Vp:=by rw[decide_eq_false_iff_not];exact hx0
   by_cases hy0:0<=y
   ·have ty0:decide (0<=y)=Vv:=by rw[decide_eq_true_eq];exact hy0
    have HV:=Vk (show sX ⟨sd,a,b,c,d⟩=10 by rw[HG.o,if_pos (.inr hy0)]);exact Zh
   ·have ty0:decide (0<=y)=Vp:=by rw[decide_eq_false_iff_not];exact hy0
    have HV:=Vk (show sX ⟨sd,a,b,c,d⟩=0 by rw[HG.o,if_neg VY]);exact Zh
 ·have HV:=Vk (show sX ⟨sd,a,b,c,d⟩=n by rw[HF.o,if_pos hn0]);have tn:(n !=0)=Vv:=by rw[bne_iff_ne];exact hn0
  clear hn0;go_enter func201,ntmps201;go_wp2_with(go_at_call 240;go_must(refine KN.o.mono ?_);rintro e W1 ⟨rfl,hX1⟩)
  go_ret;exact⟨Wv,Ext.tr E2.o hX1⟩
end
section
open Kp
noncomputable def Fp(l:List kR):Bool:= !cC (λi=>cC (λk=>AV (l.getD i ef) (l.getD k ef)) i) l.length
noncomputable def lE(l:List kR):Bool×Int:=
 if 32<l.length then(Vp,4) else if aV (λi=>sX (l.getD i ef)) l.length≠0 then(Vp,aV (λi=>sX (l.getD i ef)) l.length) else(Fp l,0)
def Ss(a b:kR)(s p q r t:Bool)(h1:(a.side==b.side)=s)(h2:decide ((gS a.left b.right).1<0)=p)(h3:decide ((gS b.left a.right).1<0)=q)(h4:decide ((gS a.low b.high).1<0)=r)(h5:decide ((gS b.low a.high).1<0)=t):AV a b=(s&&p&&q&&r&&t):=by
 unfold AV;rw[h1,h2,h3,h4,h5]
def zF(a b:kR)(w:Vl)(ha:Qk a)(hb:Qk b)(hm:eO w)(ht:aU w):VC prog 202 #[VW (wm a).toArray,VW (wm b).toArray] w λe w'=>e=VV (VS (AV a b))/\Ext w w':=by
 obtain⟨l1,r1,w1,h1,l2,r2,w2,h2⟩:=ha;obtain⟨m1,s1,x1,i1,m2,s2,x2,i2⟩:=hb;have HM:=Vk hm;have HT:=Vk ht;have K1:=Vk (λ(W:Vl) (h:Ext w W)=>iQ a.left b.right W l1 s1 l2 s2 (HM.o.below h (Vm _)) (HT.o.below h (Vm _)));have K2:=Vk (λ(W:Vl) (h:Ext w W)=>iQ b.left a.right W m1 r1 m2 r2 (HM.o.below h (Vm _)) (HT.o.below h (Vm _)));have K3:=Vk (λ(W:Vl) (h:Ext w W)=>iQ a.low b.high W w1 i1 w2 i2 (HM.o.below h (Vm _)) (HT.o.below h (Vm _)));have K4:=Vk (λ(W:Vl) (h:Ext w W)=>iQ b.low a.high W x1 h1 x2 h2 (HM.o.below h (Vm _)) (HT.o.below h (Vm _)));have E2:=Vk (eH w (.cells (wm a).toArray 57) (.cells (wm b).toArray 57));have R1:=Vk ((ah.new w 57 (wm a)).ext ((Below.refl _ _).alloc (Vm _) (.cells (wm b).toArray 57)));have r2':=ah.new (w.alloc (.cells (wm a).toArray 57)) 57 (wm b);rw[VF] at r2';have R2:=Vk r2';have HO:=Vk (Ss a b);clear hm ht r2' l1 r1 w1 h1 l2 r2 w2 h2 m1 s1 x1 i1 m2 s2 x2 i2;obtain⟨c1,hc1⟩:∃x,(gS a.left b.right).1=x:=⟨_,rfl⟩;obtain⟨c2,hc2⟩:∃x,(gS b.left a.right).1=x:=⟨_,rfl⟩;obtain⟨c3,hc3⟩:∃x,(gS a.low b.high).1=x:=⟨_,rfl⟩;obtain⟨c4,hc4⟩:∃x,(gS b.low a.high).1=x:=⟨_,rfl⟩;rw[hc1,hc2,hc3,hc4] at HO;simp only[hc1] at K1;simp only[hc2] at K2;simp only[hc3] at K3;simp only[hc4] at K4;clear hc1 hc2 hc3 hc4;obtain⟨sv,t0⟩:∃x,(a.side==b.side)=x:=⟨_,rfl⟩;obtain⟨p1,t1⟩:∃x,decide (c1<0)=x:=⟨_,rfl⟩;obtain⟨p2,t2⟩:∃x,decide (c2<0)=x:=⟨_,rfl⟩;obtain⟨p3,t3⟩:∃x,decide (c3<0)=x:=⟨_,rfl⟩;obtain⟨p4,t4⟩:∃x,decide (c4<0)=x:=⟨_,rfl⟩;have HV:=Vk (HO.o sv p1 p2 p3 p4 t0 t1 t2 t3 t4);cases sv
 ·have HW:=Vk (show AV a b=Vp by rw[HV.o];rfl);go_enter func202,ntmps202;go_wp2;go_ret;exact⟨by rw[HW.o];rfl,E2.o⟩
 cases p1
 ·have HW:=Vk (show AV a b=Vp by rw[HV.o];rfl);go_enter func202,ntmps202;go_wp2_with(go_at_call 241;((with_reducible refine(K1.o _ E2.o).mono ?_);rintro e W1 ⟨rfl,hX1⟩))
  go_ret;exact⟨by rw[HW.o];rfl,Ext.tr E2.o hX1⟩
 cases p2
 ·have HW:=Vk (show AV a b=Vp by rw[HV.o];rfl);go_enter func202,ntmps202;go_wp2_with(first
   |(go_at_call 241;((with_reducible refine(K1.o _ E2.o).mono ?_);rintro e W1 ⟨rfl,hX1⟩;have q1:=λi=>(R1.o.ext hX1).cell i;have q2:=λi=>(R2.o.ext hX1).cell i;have HX1:=Vk (Ext.tr E2.o hX1);clear hX1))
   |(go_at_call 241;((with_reducible refine(K2.o _ HX1.o).mono ?_);rintro e W2 ⟨rfl,hX2⟩)))
  go_ret;exact⟨by rw[HW.o];rfl,Ext.tr HX1.o hX2⟩
 cases p3
 ·have HW:=Vk (show AV a b=Vp by rw[HV.o];rfl);go_enter func202,ntmps202;go_wp2_with(first
   |(go_at_call 241;((with_reducible refine(K1.o _ E2.o).mono ?_);rintro e W1 ⟨rfl,hX1⟩;have q1:=λi=>(R1.o.ext hX1).cell i;have q2:=λi=>(R2.o.ext hX1).cell i;have S1:=Vk (R1.o.ext hX1);have S2:=Vk (R2.o.ext hX1);have HX1:=Vk (Ext.tr E2.o hX1);clear hX1))
   |(go_at_call 241;((with_reducible refine(K2.o _ HX1.o).mono ?_);rintro e W2 ⟨rfl,hX2⟩;have q3:=λi=>(S1.o.ext hX2).cell i;have q4:=λi=>(S2.o.ext hX2).cell i;have HX2:=Vk (Ext.tr HX1.o hX2);clear hX2))
   |(go_at_call 241;((with_reducible refine(K3.o _ HX2.o).mono ?_);rintro e W3 ⟨rfl,hX3⟩)))
  go_ret;exact⟨by rw[HW.o];rfl,Ext.tr HX2.o hX3⟩
 cases p4;all_goals
  go_enter func202,ntmps202;go_wp2_with(first
   |(go_at_call 241;((with_reducible refine(K1.o _ E2.o).mono ?_);rintro e W1 ⟨rfl,hX1⟩;have q1:=λi=>(R1.o.ext hX1).cell i;have q2:=λi=>(R2.o.ext hX1).cell i;have S1:=Vk (R1.o.ext hX1);have S2:=Vk (R2.o.ext hX1);have HX1:=Vk (Ext.tr E2.o hX1);clear hX1))
   |(go_at_call 241;((with_reducible refine(K2.o _ HX1.o).mono ?_);rintro e W2 ⟨rfl,hX2⟩;have q3:=λi=>(S1.o.ext hX2).cell i;have q4:=λi=>(S2.o.ext hX2).cell i;have S3:=Vk (S1.o.ext hX2);have S4:=Vk (S2.o.ext hX2);have HX2:=Vk (Ext.tr HX1.o hX2);clear hX2))
   |(go_at_call 241;((with_reducible refine(K3.o _ HX2.o).mono ?_);rintro e W3 ⟨rfl,hX3⟩;have q5:=λi=>(S3.o.ext hX3).cell i;have q6:=λi=>(S4.o.ext hX3).cell i;have HX3:=Vk (Ext.tr HX2.o hX3);clear hX3))
   |(go_at_call 241;((with_reducible refine(K4.o _ HX3.o).mono ?_);rintro e W4 ⟨rfl,hX4⟩)))
  go_ret;exact⟨Wv,Ext.tr HX3.o hX4⟩
end
section
open Kp
def wN(w:Vl)(A:Option VM)(cap:Nat)(l:List kR)(hl:bK 5 w w.heap.size A cap (bD l))(hs:∀o∈l,zG o)(hm:eO w)(ht:aU w):
  VC prog 138 #[VQ A l.length cap] w λe w'=>e=VV (VX #[VS (lE l).1,VU VA (lE l).2])/\Ext w w':=by
 obtain⟨h1,h2,h3⟩:=hl;rw[Vu] at h1 h3;unfold VJ at h2;by_cases h16:32<l.length
 ·have HR:=Vk (show lE l=(Vp,4) by unfold lE;rw[if_pos h16]);clear h3 hs hm ht;go_enter func138,ntmps138;go_wp2;go_ret2;rw[HR.o];exact⟨rfl,Ext.aB _⟩
 have HR:=Vk (show lE l=if aV (λi=>sX (l.getD i ef)) l.length≠0 then(Vp,aV (λi=>sX (l.getD i ef)) l.length) else(Fp l,0) by unfold lE;rw[if_neg h16]);have H3:=Vk h3;have HS:=Vk (show∀i,i<l.length->zG (l.getD i ef) fromλi hi=>hs _ (by rw[Vn,Vt hi];exact List.getElem_mem hi));have HM:=Vk hm;have HT:=Vk ht;clear h3 hs hm ht;go_enter func138,ntmps138;go_wp2;go_loopw [16] (λi wr=>Ut w l.length (λi=>sX (l.getD i ef)) i wr) (λi _=>((l.length:Int)-VG i).toNat)
 case atStart=>exact⟨0,VY,rfl,Below.refl _ _,λj hj=>VY⟩
 case round=>
  obtain⟨k,hk,rfl,hX,hall⟩:=hrel;have HX:=Vk hX;have HA:=Vk hall;clear hX hall;by_cases hlt:k<l.length
  ·obtain⟨b,off,rfl,hB,hcell0⟩:=H3.o VY;have HC:=Vk (λi hi j hj=>(HX.o.cell (p:=⟨b,off+5*i+j,Vo⟩) hB).trans (hcell0 i hi j hj));have c0:=HC.o k hlt 0 V0;have c1:=HC.o k hlt 1 V0;have c2:=HC.o k hlt 2 V0;have c3:=HC.o k hlt 3 V0;have c4:=HC.o k hlt 4 V0;rw[ow hlt,VE] at c0 c1 c2 c3 c4;rw[Nat.add_zero] at c0;have hsm:=HS.o k hlt;obtain⟨o,ho⟩:∃o,l.getD k ef=o:=⟨_,rfl⟩;rw[ho] at c0 c1 c2 c3 c4 hsm;have EX:=Vk (λ(p:Obj)=>(HX.o.alloc HX.o.size p:Ext w (wr.alloc p)));have KS:=Vk (λ(p:Obj)=>Cc o (wr.alloc p) hsm (HM.o.below (EX.o p) (Vm _)) (HT.o.below (EX.o p) (Vm _)));have HF:=Vk (show sX (l.getD k ef)=sX o by rw[ho]);obtain⟨c,hc⟩:∃c,sX o=c:=⟨_,rfl⟩;rw[hc] at HF;simp only[hc] at KS;clear hcell0 HC hsm ho hc;by_cases hc0:c=0
   ·have HZ:=Vk (show∀j,j<k+1->sX (l.getD j ef)=0 fromλj hj=>by
     by_cases hjk:j=k
     ·rw[hjk,HF.o];exact hc0
     ·exact HA.o j VY)
    subst hc0;go_wp2_with(go_at_call 201;go_must(refine(KS.o _).mono ?_);rintro e W1 ⟨rfl,hX1⟩)
    exact⟨⟨k+1,VY,V5,Ext.tr (EX.o _) hX1,HZ.o⟩,V7⟩
   ·have HV:=Vk (show lE l=(Vp,c) by
     have h1:aV (λi=>sX (l.getD i ef)) l.length=c:=by rw[bQ hlt HA.o (by show sX (l.getD k ef)≠0;rw[HF.o];exact hc0)];exact HF.o
     rw[HR.o,h1,if_pos hc0])
    have tc:(c !=0)=Vv:=XG;go_wp2_with(go_at_call 201;go_must(refine(KS.o _).mono ?_);rintro e W1 ⟨rfl,hX1⟩)
    go_ret2;rw[HV.o];exact⟨rfl,Ext.tr (EX.o _) hX1⟩
  ·have hlt':decide ((k:Int)<(l.length:Int))=Vp:=V8;have HD:=Vk (show lE l=(Fp l,0) by
    have h1:aV (λi=>sX (l.getD i ef)) l.length=0:=bh (λj hj=>HA.o j VY);rw[HR.o,h1,if_neg (λh=>h rfl)])
   have HOK:=Vk (show∀i,i<l.length->Qk (l.getD i ef) fromλi hi=>Pq (HS.o i hi) (HA.o i VY));clear hk;go_wp2;go_loopw [28] (λi wr=>∃m:Nat,m<=l.length/\i=VU VA (m:Int)/\Ext w wr/\∀j,j<m->cC (λk=>AV (l.getD j ef) (l.getD k ef)) j=Vp) (λi _=>((l.length:Int)-VG i).toNat)
   case atStart=>exact⟨0,VY,rfl,HX.o,λj hj=>VY⟩
   case round=>
    clear HX HA;obtain⟨m,hm,rfl,hX,hall⟩:=hrel;have HX:=Vk hX;have HA:=Vk hall;clear hX hall;by_cases hlm:m<l.length
    ·obtain⟨b,off,rfl,hB,hcell0⟩:=H3.o VY;have HC0:=Vk hcell0;have HC:=Vk (λi hi j hj=>(HX.o.cell (p:=⟨b,off+5*i+j,Vo⟩) hB).trans (hcell0 i hi j hj));have c0:=HC.o m hlm 0 V0;have c1:=HC.o m hlm 1 V0;have c2:=HC.o m hlm 2 V0;have c3:=HC.o m hlm 3 V0;have c4:=HC.o m hlm 4 V0;rw[ow hlm,VE] at c0 c1 c2 c3 c4;rw[Nat.add_zero] at c0;have hok:=HOK.o m hlm;obtain⟨o,ho⟩:∃o,l.getD m ef=o:=⟨_,rfl⟩;rw[ho] at c0 c1 c2 c3 c4 hok;have HO:=Vk ho;have HOKM:=Vk hok;have RM:=Vk (ah.new wr 57 (wm o));have EM:=Vk (show Ext wr (wr.alloc (.cells (wm o).toArray 57)) from(Below.refl _ _).alloc (Vm _) _);have hmc:m<=cap:=VY;clear hcell0 HC ho hok;go_wp2;obtain⟨w1,hw1⟩:∃w1,wr.alloc (.cells (wm o).toArray 57)=w1:=⟨_,rfl⟩;rw[hw1] at RM EM;simp only[hw1];clear hw1 c0 c1 c2 c3 c4;go_loopw [37] (λq wq=>∃k:Nat,k<=m/\q=VU VA (k:Int)/\Ext w1 wq/\∀j,j<k->AV (l.getD m ef) (l.getD j ef)=Vp) (λq _=>((m:Int)-VG q).toNat)
     case atStart=>exact⟨0,VY,rfl,Below.refl _ _,λj hj=>VY⟩
     case round=>
      obtain⟨q,hq,rfl,hX,hall⟩:=hrel;have HY:=Vk (Ext.tr (Ext.tr HX.o EM.o) hX);have r1:=RM.o.ext hX;have HA':=Vk hall;have HXq:=Vk hX;clear hX hall;by_cases hlq:q<m
      ·have hqL:q<l.length:=VY;have HC:=Vk (λi hi j hj=>(HY.o.cell (p:=⟨b,off+5*i+j,Vo⟩) hB).trans (HC0.o i hi j hj));have d0:=HC.o q hqL 0 V0;have d1:=HC.o q hqL 1 V0;have d2:=HC.o q hqL 2 V0;have d3:=HC.o q hqL 3 V0;have d4:=HC.o q hqL 4 V0;rw[ow hqL,VE] at d0 d1 d2 d3 d4;rw[Nat.add_zero] at d0;have hok2:=HOK.o q hqL;obtain⟨u,hu⟩:∃u,l.getD q ef=u:=⟨_,rfl⟩;rw[hu] at d0 d1 d2 d3 d4 hok2;have EX:=Vk (λ(p:Obj)=>(HY.o.alloc HY.o.size p:Ext w (wr.alloc p)));have KO:=Vk (λ(p:Obj)=>zF o u (wr.alloc p) HOKM.o hok2 (HM.o.below (EX.o p) (Vm _)) (HT.o.below (EX.o p) (Vm _)));have HF:=Vk (show AV (l.getD m ef) (l.getD q ef)=AV o u by rw[hu,HO.o]);obtain⟨x,hx⟩:∃x,AV o u=x:=⟨_,rfl⟩;rw[hx] at HF;simp only[hx] at KO;have e0:=r1.cell 0;have e1:=r1.cell 1;have e2:=r1.cell 2;have e3:=r1.cell 3;have e4:=r1.cell 4;have ez:=r1.lt;have HXa:=Vk (λ(p:Obj)=>(HXq.o.alloc HXq.o.size p:Ext w1 (wr.alloc p)));clear HC hok2 hu hx r1;cases x
       ·have HZ:=Vk (show∀j,j<q+1->AV (l.getD m ef) (l.getD j ef)=Vp fromλj hj=>by
         by_cases hjk:j=q
         ·rw[hjk];exact HF.o
         ·exact HA'.o j VY)
        go_wp2_with(go_at_call 202;go_must(refine(KO.o _).mono ?_);rintro e W1 ⟨rfl,hX1⟩)
        exact⟨⟨q+1,VY,V5,Ext.tr (HXa.o _) hX1,HZ.o⟩,V7⟩
       ·have HV:=Vk (show lE l=(Vp,0) by
         rw[HD.o];unfold Fp;rw[dH (p:=λi=>cC (λk=>AV (l.getD i ef) (l.getD k ef)) i) hlm (dH (p:=λk=>AV (l.getD m ef) (l.getD k ef)) hlq HF.o)];rfl)
        go_wp2_with(go_at_call 202;go_must(refine(KO.o _).mono ?_);rintro e W1 ⟨rfl,hX1⟩)
        go_ret2;rw[HV.o];exact⟨rfl,Ext.tr (EX.o _) hX1⟩
      ·obtain rfl:q=m:=VY;have hlt3:decide ((q:Int)<(q:Int))=Vp:=V8;clear r1;go_wp2;refine⟨⟨q+1,VY,V5,HY.o,λj hj=> ?_⟩,V7⟩;by_cases hjk:j=q
       ·rw[hjk];exact bt HA'.o
       ·exact HA.o j VY
    ·have hlm':decide ((m:Int)<(l.length:Int))=Vp:=V8;have HV:=Vk (show lE l=(Vv,0) by
      rw[HD.o];unfold Fp;rw[bt (λj hj=>HA.o j VY)];rfl)
     go_wp2;go_ret2;rw[HV.o];exact⟨rfl,HX.o⟩
end
section
open Kp
attribute [local go_sem] Oper.semAt_some
def Aj (w : Vl) (A : Option VM) (cap : Nat) (rs : List (List Sd)) (hr : eB w w.heap.size A cap rs) (hok : Bt rs) :
    VC prog 135 #[VQ A rs.length cap] w λe w' => e =VV (VS (ey rs)) /\ Ext w w' := by
  have h1 := hr.1;have h2 := hr.2.1;unfold VJ at h2;have hcnt := hok.count;refine (callsIn_wide (n := 9)).1 (callsIn_of_wp_marks func135 rfl trivial ?_);simp only [ntmps135, List.size_toArray, List.length_cons, List.length_nil, Nat.reduceAdd, Nat.reduceSub, Array.replicate_succ, Array.replicate_zero, List.push_toArray, List.append_toArray, List.nil_append, List.cons_append]
  gi_wp2
  refine wpIn_loop (λa W => ∃ (u : Nat -> Vr) (k : Nat) (ds : List Deferred), k <= rs.length /\ a = ⟨#[VQ A rs.length cap, u 1, VS Vp, VT (Vq ⟨w.heap.size, 0, Vo⟩), VT (Vq ⟨w.heap.size + 1, 0, Vo⟩), u 5, u 6, u 7, u 8, u 9, u 10, u 11, u 12, u 13, VQ A rs.length cap, VU VA (rs.length : Int), VU VA (k : Int), u 17, u 18, u 19, u 20, u 21, u 22, u 23, u 24, u 25, u 26, u 27, u 28, u 29, u 30, u 31, u 32, u 33, u 34, u 35, u 36, u 37, u 38, u 39, u 40, u 41, u 42, u 43, u 44, u 45, u 46, u 47, u 48, u 49, u 50, u 51, u 52, u 53, u 54, u 55, u 56, u 57, u 58, u 59, u 60, u 61, u 62, u 63, u 64, u 65, u 66, u 67, u 68, u 69, u 70, u 71, u 72, u 73, u 74, u 75, u 76, u 77, u 78, u 79, u 80, u 81, u 82, u 83, u 84, u 85, u 86, u 87, u 88, u 89, u 90, u 91, u 92, u 93, u 94, u 95, u 96, u 97, u 98, u 99, u 100, u 101], ds⟩ /\ U1 w A cap rs k W /\ Mk w.heap.size ds W)
    (λa _ => ((rs.length : Int) - VG (a.tmps.getD 16 Vs)).toNat) ?start ?round
  case start =>
    exact ⟨λ_ => Vs, 0, [], VY, rfl, ⟨⟨df, df, (Bx.at_ rfl).alloc _, Bx.at_ V5, World.ownsRow_nil _ _ _ _, World.ownsRow_nil _ _ _ _⟩, hr.below (eH _ _ _), eH _ _ _⟩, Mk.nil _ _⟩
  case round =>
    rintro a W ⟨u, k, ds, hk, rfl, hJ, hM⟩;by_cases hlt : k < rs.length
    · obtain ⟨b, off, rfl, hB, hcell⟩ := hJ.rg.2.2 VY
      obtain ⟨Ai, ci, hc1, hsl⟩ := hcell k hlt;obtain ⟨hne, hco, hlen⟩ := hok.ring hlt;obtain ⟨ring, hring⟩ : ∃ ring, rs.getD k [] = ring := ⟨_, rfl⟩;rw [hring] at hc1 hsl hne hco hlen;have HRG := Vk hring;have HJ := Vk hJ;have HM := Vk hM;clear hring hcell hJ hM;gi_wp2_with (refine ⟨trivial, ?_⟩; gi_at_call 192; refine (callsIn_wide.2 (kO _ _ _ _)).mono ?_; rintro e w' ⟨rfl, rfl⟩)
      have hzW := HJ.o.low.size;obtain ⟨X0, Y0, hXY⟩ := HJ.o.ex;have hz2 := hXY.bp.lt;obtain ⟨W1, hW1⟩ : ∃ W1, (W.alloc (.cells #[VU VA (k : Int)] 3)).alloc (.cells #[VQ Ai ring.length ci] 80) = W1 := ⟨_, rfl⟩;have hA : Ext W W1 := by rw [<- hW1]; exact eH _ _ _
      have hsz : W1.heap.size = W.heap.size + 2 := by rw [<- hW1]; simp
      have hBr : Bx W1 W.heap.size 3 (VU VA (k : Int)) := by rw [<- hW1]; exact (Bx.at_ rfl).alloc _
      have hBi : Bx W1 (W.heap.size + 1) 80 (VQ Ai ring.length ci) := by rw [<- hW1]; exact Bx.at_ V5
      rw [hW1];clear hW1;have hds : ∀ D, Oz D ∈ ds -> D < W1.heap.size := λD hD => by have := HM.o.lt hD; omega
      have hlw : w.heap.size <= W1.heap.size := VY;refine fO (gf := 238) (lb := #[VT (Vq ⟨W.heap.size + 1, 0, Vo⟩)]) rfl (enters_of func238 VZ rfl)
        (jj (W.heap.size + 1) Ai ci ring VY) (λk x e => by rw [e]; rfl)
        (Uk w (W.heap.size + 1) W.heap.size k ds Ai ci (kB rs k) ring) (λ_ _ _ => False) (λj V V' h hs => h.stays hds hs hlw) (λc j V V' h hs => h) (λj V h => vA h.it h.sl) ?start ?round ?done ?stop
      case stop => intro D c j V hD hj h; exact h.elim
      case start =>
        exact ⟨⟨X0, Y0, by rw [show iE k ring 0 = [] from rfl, List.append_nil]; exact hXY.ext hA⟩, hBr, hBi, hsl.below (hA.mono VY), HM.o.keeps hA.keeps, HJ.o.low.trans (hA.mono VY)⟩
      case done =>
        intro D V hD hi hK;have hmk := Vk (hi.mks.cons hds hD VY hK);have HI := Vk hi;clear hi hK
        gi_wp2
        refine ⟨⟨λi => match i with | 1 => _ | 5 => _ | 6 => _ | 7 => _ | 8 => _ | 9 => _ | 10 => _ | 11 => _ | 12 => _ | 13 => _ | 17 => _ | 18 => _ | 19 => _ | 20 => _ | 21 => _ | 22 => _ | 23 => _ | 24 => _ | 25 => _ | 26 => _ | 27 => _ | 28 => _ | 29 => _ | 30 => _ | 31 => _ | 32 => _ | 33 => _ | 34 => _ | 35 => _ | 36 => _ | 37 => _ | 38 => _ | 39 => _ | 40 => _ | 41 => _ | 42 => _ | 43 => _ | 44 => _ | 45 => _ | 46 => _ | 47 => _ | 48 => _ | 49 => _ | 50 => _ | 51 => _ | 52 => _ | 53 => _ | 54 => _ | 55 => _ | 56 => _ | 57 => _ | 58 => _ | 59 => _ | 60 => _ | 61 => _ | 62 => _ | 63 => _ | 64 => _ | 65 => _ | 66 => _ | 67 => _ | 68 => _ | 69 => _ | 70 => _ | 71 => _ | 72 => _ | 73 => _ | 74 => _ | 75 => _ | 76 => _ | 77 => _ | 78 => _ | 79 => _ | 80 => _ | 81 => _ | 82 => _ | 83 => _ | 84 => _ | 85 => _ | 86 => _ | 87 => _ | 88 => _ | 89 => _ | 90 => _ | 91 => _ | 92 => _ | 93 => _ | 94 => _ | 95 => _ | 96 => _ | 97 => _ | 98 => _ | 99 => _ | 100 => _ | _ => _, k + 1, _, VY, rfl, ⟨?_, hr.below HI.o.low, HI.o.low⟩, hmk.o⟩, WC⟩;have e : kB rs (k + 1) = kB rs k ++ iE k ring ring.length := by rw [kB, HRG.o]
        rw [e]; exact HI.o.ex
      case round =>
        intro l j x V K hj hx hi hK;obtain rfl := hx;have HK := Vk hK;have RA := Vk (ah.new V 227 (jx (er ring j) (aq ring j) (aP ring j)));have EA := Vk (show Ext V (V.alloc (.cells (jx (er ring j) (aq ring j) (aP ring j)).toArray 227)) from (Below.refl _ _).alloc (Vm _) _);have hzv : W1.heap.size <= V.heap.size := by have := hi.it.lt; omega
        have HI := Vk hi;clear hK hi;refine wpIn_seq ?_;refine cM (aY _ _) VZ ?_;go_wp2;refine cL ?_;show Code.wpIn _ _ _ _ _ _ _;refine cM (aY _ _) VZ ?_;go_wp2_with (refine wpList_store_row rfl 227 (.tmp 8) (.tmp 24) rfl V.heap.size (jx (er ring j) (aq ring j) (aP ring j)).toArray rfl rfl 227 _ (Vy _ _) VZ VZ VZ ?_; rw [fg _ _ _ _ rfl])
        refine cL (HK.o _ _ EA.o (λW2 hs2 hlt2 => ?_));have hi2 := (HI.o.stays hds (EA.o.stays hzv) hlw).stays hds hs2 hlw;have R2 : ah W2 V.heap.size 227 (jx (er ring j) (aq ring j) (aP ring j)) := hs2.cells _ _ _ _ RA.o;clear HK HI EA RA hs2;obtain ⟨own, hown⟩ : ∃ o, aq ring j = o := ⟨_, rfl⟩;obtain ⟨beh, hbeh⟩ : ∃ o, aP ring j = o := ⟨_, rfl⟩;obtain ⟨bef, hbef⟩ : ∃ o, er ring j = o := ⟨_, rfl⟩;have HBX := Vk (show lA ring j = ⟨min own.x beh.x, min own.y beh.y, max own.x beh.x, max own.y beh.y⟩ by unfold lA; rw [hown, hbeh]);rw [hown, hbeh, hbef] at R2;rw [hown, hbeh, hbef];clear hown hbeh hbef;obtain ⟨bx, hbx⟩ : ∃ bx : o7, (⟨min own.x beh.x, min own.y beh.y, max own.x beh.x, max own.y beh.y⟩ : o7) = bx := ⟨_, rfl⟩;rw [hbx] at HBX;have cbx := λW => JH bef own beh W
        simp only [hbx] at cbx;have CBX := Vk cbx;clear hbx cbx;obtain ⟨X, Y, hXY2⟩ := hi2.ex;have hI0 : Hr w.heap.size (W.heap.size + 1) W.heap.size V.heap.size k j Ai ci ring w.heap.size W2 W2 (kB rs k ++ iE k ring j) (jx bef own beh) (wG bx) X Y (λ_ => Vp) (λi => match i with | 0 => u 25 | 1 => u 26 | 2 => u 27 | 3 => u 28 | 4 => u 29 | 5 => u 30 | 6 => u 31 | 7 => u 32 | 8 => u 33 | 9 => u 34 | _ => u 35) W2.drew :=
          ⟨hXY2.ba.drew, hXY2.bp.drew, hi2.r.drew, hi2.it.drew, R2.drew, (Below.refl _ _).drew, (Ext.dr W2).keeps, (λ_ _ h => V6), (λh => V6), (λh => V6), aF hXY2.a (Ext.dr W2), aF hXY2.p (Ext.dr W2)⟩
        have hlen3 : (kB rs k ++ iE k ring j).length <= 1000000 := by
          rw [VD, JF, BT rs k VY];have := eo rs k;have := hok.len;omega
        have HI2 := Vk hi2;have HI0 := Vk hI0;clear hXY2 hi2 hI0 R2;obtain ⟨ll, hll⟩ : ∃ ll, kB rs k ++ iE k ring j = ll := ⟨_, rfl⟩;rw [hll] at HI0 hlen3;have HLL := Vk hll;clear hll;obtain ⟨ib, hb0, hb1, hb2, hb3⟩ := info_parts Nc;obtain ⟨ip, hp0, lD, qG, hp3⟩ := info_parts Gd;have IB0 := Vk hb0;have IB1 := Vk hb1;have IB2 := Vk hb2;have IB3 := Vk hb3;have IP0 := Vk hp0;have IP1 := Vk lD;have IP2 := Vk qG;have IP3 := Vk hp3;clear hb0 hb1 hb2 hb3 hp0 lD qG hp3
        gi_wp2
        refine wpIn_region_any VZ (zS (aY _ _) VZ 11 (λvs => ⟨#[VQ (Vq ⟨b, off, Vo⟩) rs.length cap, u 1, VS Vp, VT (Vq ⟨w.heap.size, 0, Vo⟩), VT (Vq ⟨w.heap.size + 1, 0, Vo⟩), VT (Vq ⟨W.heap.size, 0, Vo⟩), VQ Ai ring.length ci, VU VA (j : Int), VT (Vq ⟨V.heap.size, 0, Vo⟩), u 9, u 10, u 11, u 12, u 13, VQ (Vq ⟨b, off, Vo⟩) rs.length cap, VU VA (rs.length : Int), VU VA (k : Int), VS Vv, VU VA (k : Int), VT (Vq ⟨b, off + k, Vo⟩), VQ Ai ring.length ci, VQ Ai ring.length ci, .func (.func 238) #[] #[VT (Vq ⟨W.heap.size + 1, 0, Vo⟩)], VU VA (j : Int), VW (jx bef own beh).toArray, vs 0, vs 1, vs 2, vs 3, vs 4, vs 5, vs 6, vs 7, vs 8, vs 9, vs 10, u 36, u 37, u 38, u 39, u 40, u 41, u 42, u 43, u 44, u 45, u 46, u 47, u 48, u 49, u 50, u 51, u 52, u 53, u 54, u 55, u 56, u 57, u 58, u 59, u 60, u 61, u 62, u 63, u 64, u 65, u 66, u 67, u 68, u 69, u 70, u 71, u 72, u 73, u 74, u 75, u 76, u 77, u 78, u 79, u 80, u 81, u 82, u 83, u 84, u 85, u 86, u 87, u 88, u 89, u 90, u 91, u 92, u 93, u 94, u 95, u 96, u 97, u 98, u 99, u 100, u 101], []⟩)
          (Hr w.heap.size (W.heap.size + 1) W.heap.size V.heap.size k j Ai ci ring w.heap.size W2 W2 ll (jx bef own beh) (wG bx) X Y) VZ ?step ?tail (λi => match i with | 0 => u 25 | 1 => u 26 | 2 => u 27 | 3 => u 28 | 4 => u 29 | 5 => u 30 | 6 => u 31 | 7 => u 32 | 8 => u 33 | 9 => u 34 | _ => u 35) _ HI0.o)
        case tail =>
          intro L vs w3 hL hI;have a4 := hL 4 V0;have a10 := hL 10 V0;have ha := hI.a;have hp := hI.p;rw [a4] at ha;rw [a10] at hp;simp only [if_true] at ha hp;have ca := hI.ba.cell;have fa := hI.ba.frozen;have cp := hI.bp.cell;have fp := hI.bp.frozen;have HG := Vk hI;obtain ⟨A4, n4, q4, e4⟩ := uF ha;obtain ⟨A10, n10, q10, e10⟩ := uF hp;rw [e4] at ha;rw [e10] at hp;have HA := Vk ha;have HP := Vk hp;clear hI ha hp hL a4 a10;simp only [List.drop_succ_cons, List.drop_zero]
          gi_wp2
          have hlow3 : VL w.heap.size W2 w3 := HG.o.low;have hsz3 := hlow3.size;have e1 : kB rs k ++ iE k ring (j + 1) = ll ++ [(k, j, lA ring j)] := by rw [Es, <- List.append_assoc, HLL.o]
          have e2 : (lH (ll ++ [(k, j, lA ring j)])).flatten = (lH ll).flatten ++ wG bx := by
            unfold lH; rw [List.map_append, List.flatten_append, List.map_singleton, HBX.o]; rfl
          have e3 : (lC (ll ++ [(k, j, lA ring j)])).flatten = (lC ll).flatten ++ Jv k j := by
            unfold lC; rw [List.map_append, List.flatten_append, List.map_singleton]; rfl
          have hk3 := HG.o.keep.trans ((KeepsOthers.setCell w3 ⟨w.heap.size, 0, Vo⟩ (VQ A4 n4 q4)).trans (KeepsOthers.setCell _ ⟨w.heap.size + 1, 0, Vo⟩ (VQ A10 n10 q10)));have hb3 : VL w.heap.size W2 ((w3.setCell ⟨w.heap.size, 0, Vo⟩ (VQ A4 n4 q4)).setCell ⟨w.heap.size + 1, 0, Vo⟩ (VQ A10 n10 q10)) := (hlow3.setCell (p := ⟨w.heap.size, 0, Vo⟩) (Vm _) _).setCell (p := ⟨w.heap.size + 1, 0, Vo⟩) V5 _;refine ⟨hk3, ⟨VQ A4 n4 q4, VQ A10 n10 q10, ?_⟩, (HG.o.r.dx Wj _).dx Wj _, (HG.o.it.dx Wj _).dx Wj _, HI2.o.sl.below hb3, HI2.o.mks.keeps hk3, HI2.o.low.trans hb3⟩;rw [e1];refine ⟨(HG.o.ba.put _).dx V5 _, (HG.o.bp.dx V5 _).put _, ?_, ?_⟩
          · rw [e2, VD]
            exact bf (bf HA.o (λh => by have := (ak HA.o _ h).1; dsimp only at this; omega) _) (λh => by have := (ak HA.o _ h).1; dsimp only at this; omega) _
          · rw [e3, VD]
            exact bf (bf HP.o (λh => by have := (ak HP.o _ h).1; dsimp only at this; omega) _) (λh => by have := (ak HP.o _ h).1; dsimp only at this; omega) _
        case step =>
          intro i L vs w3 hi hLi hI hd;have c0 := hI.ba.cell;have c5 := hI.bp.cell;have c6 := hI.r.cell;rcases (show i = 0 \/ i = 1 \/ i = 2 \/ i = 3 \/ i = 4 \/ i = 5 \/ i = 6 \/ i = 7 \/ i = 8 \/ i = 9 \/ i = 10 by omega) with rfl | rfl | rfl | rfl | rfl | rfl | rfl | rfl | rfl | rfl | rfl <;> clear hi
          · refine Vx rfl (λK hK => ?_)
            go_simp;exact hK _ _ ⟨X, rfl, hI.step (Ext.aB _) (Vm _) V0 V0 (λ_ _ => rfl) (λh => V6) (λh => V6)⟩
          · refine ks rfl rfl ?_
            exact wp_load_row 227 (.tmp 8) rfl V.heap.size rfl 227 (jx bef own beh).toArray (0, 0) _ hI.rar underlying227 rfl VZ ⟨VW (jx bef own beh).toArray, rfl, hI.step (Ext.aB _) (Vm _) V0 V0 (λ_ _ => rfl) (λh => V6) (λh => V6)⟩
          · refine Vx rfl (λK hK => ?_)
            have d1 : vs 1 =VW (jx bef own beh).toArray := hI.v 1 V0 (hd 1 VZ) V0 V0 V0 V0;go_simp;refine (CBX.o _).mono ?_;rintro e W4 ⟨rfl, hX⟩;exact hK _ _ ⟨VW (wG bx).toArray, by simp [d1, aW], hI.step hX (Vm _) V0 V0 (λ_ _ => rfl) (λh => V6) (λh => V6)⟩
          · refine Vx rfl (λK hK => ?_)
            have d2 : vs 2 =VW (wG bx).toArray := hI.v 2 V0 (hd 2 VZ) V0 V0 V0 V0;go_simp;exact hK _ _ ⟨_, by simp [d2, aW], hI.step ((Below.refl _ _).alloc (Vm _) _) (Vm _) V0 V0 (λh => absurd rfl h) (λ_ => ⟨_, rfl, ah.new _ _ _⟩) (λh => V6)⟩
          · refine ks rfl rfl ?_
            have d0 : vs 0 = X := hI.v 0 V0 (hd 0 VZ) V0 V0 V0 V0;obtain ⟨g, e3, hr3⟩ := hI.s3 (hd 3 VZ) hLi;have ha := hI.a;rw [hLi] at ha;simp only [if_neg (by decide : ¬ Vp = Vv)] at ha;refine wp_append_own _ (.tmp 25) (.tmp 28) 233 rfl (w.heap.size + 2) 236 ib _ 4 32 underlying233 IB0.o IB1.o IB2.o IB3.o rfl VY X ll.length (lH ll).flatten d0 ha ⟨g, 0, Vo⟩ 1 1 (wG bx) e3 Wn (λj u hj => by rw [Addr.add_lit, Nat.zero_add, hr3.cell]; exact hj) (by simp [Value.oneCell']) (by unfold VJ; omega) VY hI.sz ?_;intro v' w' hown' hgr' _;exact ⟨v', rfl, hI.TY (Vm _) hLi hown' hgr'⟩
          · refine Vx rfl (λK hK => ?_)
            go_simp;exact hK _ _ ⟨Y, rfl, hI.step (Ext.aB _) (Vm _) V0 V0 (λ_ _ => rfl) (λh => V6) (λh => V6)⟩
          · refine Vx rfl (λK hK => ?_)
            go_simp;exact hK _ _ ⟨VU VA (k : Int), rfl, hI.step (Ext.aB _) (Vm _) V0 V0 (λ_ _ => rfl) (λh => V6) (λh => V6)⟩
          · refine Vx rfl (λK hK => ?_)
            go_simp;exact hK _ _ ⟨VU VA (j : Int), rfl, hI.step (Ext.aB _) (Vm _) V0 V0 (λ_ _ => rfl) (λh => V6) (λh => V6)⟩
          · refine Vx rfl (λK hK => ?_)
            have d6 : vs 6 =VU VA (k : Int) := hI.v 6 V0 (hd 6 VZ) V0 V0 V0 V0;have d7 : vs 7 =VU VA (j : Int) := hI.v 7 V0 (hd 7 VZ) V0 V0 V0 V0;go_simp;exact hK _ _ ⟨VW (Jv k j).toArray, by simp [d6, d7, aW], hI.step (Ext.aB _) (Vm _) V0 V0 (λ_ _ => rfl) (λh => V6) (λh => V6)⟩
          · refine Vx rfl (λK hK => ?_)
            have d8 : vs 8 =VW (Jv k j).toArray := hI.v 8 V0 (hd 8 VZ) V0 V0 V0 V0;go_simp;exact hK _ _ ⟨_, by simp [d8, aW], hI.step ((Below.refl _ _).alloc (Vm _) _) (Vm _) V0 V0 (λ_ h => absurd rfl h) (λh => V6) (λ_ => ⟨_, rfl, ah.new _ _ _⟩)⟩
          · refine ks rfl rfl ?_
            have d5 : vs 5 = Y := hI.v 5 V0 (hd 5 VZ) V0 V0 V0 V0;obtain ⟨g, e9, hr9⟩ := hI.s9 (hd 9 VZ) hLi;have ha := hI.p;rw [hLi] at ha;simp only [if_neg (by decide : ¬ Vp = Vv)] at ha;refine wp_append_own _ (.tmp 30) (.tmp 34) 234 rfl (w.heap.size + 2) 239 ip _ 2 16 underlying234 IP0.o IP1.o IP2.o IP3.o rfl VY Y ll.length (lC ll).flatten d5 ha ⟨g, 0, Vo⟩ 1 1 (Jv k j) e9 Wn (λj' u hj => by rw [Addr.add_lit, Nat.zero_add, hr9.cell]; exact hj) (by simp [Value.oneCell']) (by unfold VJ; omega) VY hI.sz ?_;intro v' w' hown' hgr' _;exact ⟨v', rfl, hI.SH (Vm _) hLi hown' hgr'⟩
    · obtain rfl : k = rs.length := by omega
      have hlt' : decide ((rs.length : Int) < (rs.length : Int)) = Vp := by rw [decide_eq_false_iff_not]; omega
      obtain ⟨X, Y, hXY⟩ := hJ.ex;obtain ⟨L, hL⟩ : ∃ L, kB rs rs.length = L := ⟨_, rfl⟩;rw [hL] at hXY;have hmem : ∀ x ∈ L, x.1 < rs.length /\ x.2.1 < (rs.getD x.1 []).length := λx hx => Oi (Vm _) (by rw [hL]; exact hx)
      have hlenL : L.length <= 24 := by
        rw [<- hL, BT rs _ (Vm _), List.take_length]; exact hok.len
      have HCR := Vk (show ey rs = cC (λi => cC (λk => uh rs (L.getD i sI) (L.getD k sI)) i) L.length by unfold ey; rw [hL]);clear hL;obtain ⟨AX, cX, rfl, hSX⟩ := aG hXY.a (by rw [Vu]) (Pk _);obtain ⟨AY, cY, rfl, hSY⟩ := aG hXY.p (by rw [Vu]) (PF _);have hX1 := hSX.1;have hX2 := hSX.2.1;have hY1 := hSY.1;have hY2 := hSY.2.1;rw [Vu] at hX1 hY1;unfold VJ at hX2 hY2;have cx0 := hXY.ba.cell;have HB := Vk hXY;have HSX := Vk hSX;have HSY := Vk hSY;have HMEM := Vk hmem;have HJ := Vk hJ;have HM := Vk hM;clear hXY hSX hSY hmem hJ hM
      gi_wp2
      refine wpIn_wide.2 ?_;go_loopw [39] (λi wr => ∃ m : Nat, m <= L.length /\ i =VU VA (m : Int) /\ Ext W wr /\ ∀ j, j < m -> cC (λk => uh rs (L.getD j sI) (L.getD k sI)) j = Vp) (λi _ => ((L.length : Int) - VG i).toNat)
      case atStart => exact ⟨0, VY, rfl, Below.refl _ _, λj hj => VY⟩
      case round =>
        obtain ⟨m, hm, rfl, hx, hall⟩ := hrel;have HX := Vk hx;have HA := Vk hall;clear hx hall;have hzW := HJ.o.low.size;by_cases hlm : m < L.length
        · have hpos : 0 < L.length := by omega
          go_wp2;go_loopw [43] (λq wr' => ∃ k : Nat, k <= m /\ q =VU VA (k : Int) /\ Ext W wr' /\ ∀ j, j < k -> uh rs (L.getD m sI) (L.getD j sI) = Vp) (λq _ => ((m : Int) - VG q).toNat)
          case atStart => exact ⟨0, VY, rfl, HX.o, λj hj => VY⟩
          case round =>
            obtain ⟨k, hk, rfl, hx', hall'⟩ := hrel;have HX' := Vk hx';have HA' := Vk hall';clear hx' hall';by_cases hlk : k < m
            · obtain ⟨bX, oX, rfl, hbX, hcX⟩ := HSX.o.2.2 (by rw [Vu]; exact hpos)
              obtain ⟨bY, oY, rfl, hbY, hcY⟩ := HSY.o.2.2 (by rw [Vu]; exact hpos);rw [Vu] at hcX hcY;have hkL : k < L.length := VY;obtain ⟨⟨ri, si, bi⟩, hi⟩ : ∃ x, L.getD m sI = x := ⟨_, rfl⟩;obtain ⟨⟨rk, sk, bk⟩, hkk⟩ : ∃ x, L.getD k sI = x := ⟨_, rfl⟩;have hmi := HMEM.o (L.getD m sI) (by rw [Vn, Vt hlm]; exact List.getElem_mem hlm);have hmk := HMEM.o (L.getD k sI) (by rw [Vn, Vt hkL]; exact List.getElem_mem hkL);rw [hi] at hmi;rw [hkk] at hmk;dsimp only at hmi hmk;obtain ⟨hr1, hs1⟩ := hmi;obtain ⟨hr2, hs2⟩ := hmk;have hl1 := (hok.ring hr1).2.2;have hl2 := (hok.ring hr2).2.2;obtain ⟨b, off, rfl, hB, hcell⟩ := hr.2.2 VY;obtain ⟨Ai, ci, hc1, _⟩ := hcell ri hr1;have hc1' : wr.cell? ⟨b, off + ri, Vo⟩ = Vq (VQ Ai (rs.getD ri []).length ci) := (HX'.o.cell (p := ⟨b, off + ri, Vo⟩) (by show b < W.heap.size; omega)).trans ((HJ.o.low.cell (p := ⟨b, off + ri, Vo⟩) hB).trans hc1);have HH := Vk (show uh rs (L.getD m sI) (L.getD k sI) = (!(ri == rk && ((si : Int) - sk == 1 || (si : Int) - sk == ((rs.getD ri []).length : Int) - 1)) && ee bi bk) by rw [hi, hkk]; rfl);obtain ⟨n, hn⟩ : ∃ n, (rs.getD ri []).length = n := ⟨_, rfl⟩;rw [hn] at hl1 hs1 hc1' HH;have HXc := Vk (λi (hi : i < L.length) j (hj : j < 4) => (HX'.o.cell (p := ⟨bX, oX + 4 * i + j, Vo⟩) hbX).trans (hcX i hi j hj));have HYc := Vk (λi (hi : i < L.length) j (hj : j < 2) => (HX'.o.cell (p := ⟨bY, oY + 2 * i + j, Vo⟩) hbY).trans (hcY i hi j hj));have y0 := HYc.o m hlm 0 V0;have y1 := HYc.o m hlm 1 V0;have y2 := HYc.o k hkL 0 V0;have y3 := HYc.o k hkL 1 V0;rw [yw hlm, hi] at y0 y1;rw [yw hkL, hkk] at y2 y3;rw [Nat.add_zero, VE] at y0 y2;rw [VE] at y1 y3;have x0 := HXc.o m hlm 0 V0;have x1 := HXc.o m hlm 1 V0;have x2 := HXc.o m hlm 2 V0;have x3 := HXc.o m hlm 3 V0;have x4 := HXc.o k hkL 0 V0;have x5 := HXc.o k hkL 1 V0;have x6 := HXc.o k hkL 2 V0;have x7 := HXc.o k hkL 3 V0;rw [xP hlm, hi] at x0 x1 x2 x3;rw [xP hkL, hkk] at x4 x5 x6 x7;rw [Nat.add_zero, VE] at x0 x4;rw [VE] at x1 x2 x3 x5 x6 x7;dsimp only [wG, Jv] at x0 x1 x2 x3 x4 x5 x6 x7 y0 y1 y2 y3;have cp := (HB.o.bp.stays (HX'.o.stays (n0 := 0) (Nat.zero_le _))).cell;have ca := (HB.o.ba.stays (HX'.o.stays (n0 := 0) (Nat.zero_le _))).cell;have hrn : ri < rs.length := hr1;clear hcell hc1 hcX hcY hi hkk hn HXc HYc;have CMT := Vk (λW => Ga bi bk W);obtain ⟨mt, hmt⟩ : ∃ mt, ee bi bk = mt := ⟨_, rfl⟩;simp only [hmt] at CMT;rw [hmt] at HH;clear hmt;obtain ⟨e1, he1⟩ : ∃ e1, (ri == rk) = e1 := ⟨_, rfl⟩;have t1 : ((ri : Int) == (rk : Int)) = e1 := by rw [<- he1, Bool.eq_iff_iff]; simp only [beq_iff_eq]; omega
              obtain ⟨e2, t2⟩ : ∃ e2, ((si : Int) - (sk : Int) == 1) = e2 := ⟨_, rfl⟩;obtain ⟨e3, t3⟩ : ∃ e3, ((si : Int) - (sk : Int) == (n : Int) - 1) = e3 := ⟨_, rfl⟩;rw [he1, t2, t3] at HH;clear he1;have HHf := Vk (λ(h : uh rs (L.getD m sI) (L.getD k sI) = Vp) => (show ∀ j, j < k + 1 -> uh rs (L.getD m sI) (L.getD j sI) = Vp fromλj hj => by
                by_cases hjk : j = k
                · rw [hjk]; exact h
                · exact HA'.o j VY))
              have HTR0 := Vk (λ(h : uh rs (L.getD m sI) (L.getD k sI) = Vv) => (show ey rs = Vv by
                rw [HCR.o]; exact dH hlm (dH hlk h)))
              have w1 : VA.wrap ((si : Int) - (sk : Int)) = (si : Int) - (sk : Int) := VI _ VY;have w2 : VA.wrap ((n : Int) - 1) = (n : Int) - 1 := VI _ VY;cases e1 <;> cases e2 <;> cases e3
              all_goals
                go_wp2;go_quiet (fail)
                go_wp2;go_quiet (fail)
                go_wp2
              all_goals first
                | (have HZ := Vk (show uh rs (L.getD m sI) (L.getD k sI) = mt by rw [HH.o]; rfl)
                   refine dy 11 VZ VZ (λW2 hW2 => ?_);have hw2 : Ext wr W2 := Jc hW2;have hX2 := HX'.o.tr hw2;have HX2 := Vk hX2;have ca2 := (HB.o.ba.stays (hX2.stays (n0 := 0) (Nat.zero_le _))).cell;have hbXw : bX < wr.heap.size := Nat.lt_of_lt_of_le hbX HX'.o.size;have z0 := (hw2.cell (p := ⟨bX, oX + m * 4, Vo⟩) hbXw).trans x0;have z1 := (hw2.cell (p := ⟨bX, oX + m * 4 + 1, Vo⟩) hbXw).trans x1;have z2 := (hw2.cell (p := ⟨bX, oX + m * 4 + 2, Vo⟩) hbXw).trans x2;have z3 := (hw2.cell (p := ⟨bX, oX + m * 4 + 3, Vo⟩) hbXw).trans x3;have z4 := (hw2.cell (p := ⟨bX, oX + k * 4, Vo⟩) hbXw).trans x4;have z5 := (hw2.cell (p := ⟨bX, oX + k * 4 + 1, Vo⟩) hbXw).trans x5;have z6 := (hw2.cell (p := ⟨bX, oX + k * 4 + 2, Vo⟩) hbXw).trans x6;have z7 := (hw2.cell (p := ⟨bX, oX + k * 4 + 3, Vo⟩) hbXw).trans x7;clear hw2 hX2 hW2 x0 x1 x2 x3 x4 x5 x6 x7 y0 y1 y2 y3 cp ca hc1';simp only [List.take_succ_cons, List.take_zero, List.drop_succ_cons, List.drop_zero]
                   repeat still_step
                   refine wpStill_nil ?_;cases mt
                   · have HHX := Vk (HHf.o HZ.o)
                     go_wp2_with (go_at_call 197; go_must (refine (CMT.o _).mono ?_); rintro e W5 ⟨rfl, hX5⟩)
                     exact ⟨⟨k + 1, VY, V5, HX2.o.tr hX5, HHX.o⟩, WC⟩
                   · have HTR := Vk (HTR0.o HZ.o)
                     go_wp2_with (go_at_call 197; go_must (refine (CMT.o _).mono ?_); rintro e W5 ⟨rfl, hX5⟩)
                     have hxe := HX2.o.tr hX5;refine (HM.o.keeps hxe.keeps).leaves (λW' hW' => ?_);exact ⟨VS Vv, by simp [results, results135, go_sem], by rw [HTR.o], (HJ.o.low.trans (hxe.mono hzW)).trans hW'.below⟩)
                | (have HHX := Vk (HHf.o (by rw [HH.o]; rfl))
                   go_quiet (fail)
                   go_wp2;exact ⟨⟨k + 1, VY, V5, below_drewN HX'.o _, HHX.o⟩, WC⟩)
            · obtain rfl : k = m := by omega
              have hlt3 : decide ((k : Int) < (k : Int)) = Vp := by rw [decide_eq_false_iff_not]; omega
              go_wp2;refine ⟨⟨k + 1, VY, V5, HX'.o, λj hj => ?_⟩, WC⟩;by_cases hjk : j = k
              · rw [hjk]; exact bt HA'.o
              · exact HA.o j VY
        · obtain rfl : m = L.length := by omega
          have hlt3 : decide ((L.length : Int) < (L.length : Int)) = Vp := by rw [decide_eq_false_iff_not]; omega
          have HE := Vk (show ey rs = Vp by rw [HCR.o]; exact bt HA.o);go_wp2
          gi_wp2
          refine (HM.o.keeps HX.o.keeps).leaves (λW' hW' => ?_);exact ⟨VS Vp, by simp [results, results135, go_sem], by rw [HE.o], (HJ.o.low.trans (HX.o.mono hzW)).trans hW'.below⟩
end
section
open Kp
def vz{α:Type}(l:List α)(d:α)(p:α->Bool):cC (λi=>p (l.getD i d)) l.length=l.any p:=by
 rw[Bool.eq_iff_iff,N8,List.any_eq_true];constructor
 ·rintro⟨i,hi,hp⟩;refine⟨l[i],List.getElem_mem hi,?_⟩;rwa[Vn,Vt hi] at hp
 ·rintro⟨x,hx,hp⟩;obtain⟨i,hi,rfl⟩:=List.mem_iff_getElem.1 hx;exact⟨i,hi,by rw[Vn,Vt hi];exact hp⟩
def DP(s:Sd)(w:Vl):VC prog 130 #[VW (nt s).toArray] w λe w'=>e=VV (VS (!aJ s))/\Ext w w':=by
 have E0:=Vk (show Ext w (w.alloc (.cells (nt s).toArray 54)) from(Below.refl _ _).alloc (Vm _) _);have c:=Vk (λW=>De s W);obtain⟨r,hr⟩:∃r,aJ s=r:=⟨_,rfl⟩;simp only[hr] at c⊢;clear hr;go_enter func130,ntmps130;go_wp2_with(go_at_call 131;go_must(refine(c.o _).mono ?_);rintro e W1 ⟨rfl,hX1⟩)
 go_ret;exact⟨rfl,E0.o.tr hX1⟩
def Ek(w:Vl)(A:Option VM)(cap:Nat)(r:List Sd)(hr:bK 7 w w.heap.size A cap (aD r))(hc:K9 r)(hn:r.length<=1000):
  VC prog 133 #[VQ A r.length cap] w λe w'=>e=VV (VS (!cI r))/\Ext w w':=by
 have c:=Vk (Cg w A cap r hr hc hn);obtain⟨b,hb⟩:∃b,cI r=b:=⟨_,rfl⟩;obtain⟨n,hn⟩:∃n,r.length=n:=⟨_,rfl⟩;rw[hb,hn] at c;rw[hb,hn];clear hb hn hr hc;go_enter func133,ntmps133;go_wp2_with(go_at_call 134;go_must(refine c.o.mono ?_);rintro e W1 ⟨rfl,hX1⟩)
 go_ret;exact⟨rfl,hX1⟩
noncomputable def jG(w:Vl)(b off n:Nat):List (List Vr):=(List.range n).map λi=>[(w.cell? ⟨b,off+i,Vo⟩).getD Vs]
def xG{w:Vl}{b off n i:Nat}(hi:i<n):(jG w b off n).getD i []=[(w.cell? ⟨b,off+i,Vo⟩).getD Vs]:=by
 unfold jG;simp[List.getD,hi]
def PT(w:Vl)(b off n:Nat):dj 1 (jG w b off n):=bw (f:=λi=>[(w.cell? ⟨b,off+i,Vo⟩).getD Vs]) (λ_=>rfl) _
def eB.rows{w:Vl}{B b off cap:Nat}{rs:List (List Sd)}(h:eB w B (Vq ⟨b,off,Vo⟩) cap rs)(hp:0<rs.length):bK 1 w B (Vq ⟨b,off,Vo⟩) cap (jG w b off rs.length):=by
 obtain⟨h1,h2,h3⟩:=h;have hl:(jG w b off rs.length).length=rs.length:=by unfold jG;simp
 refine⟨by rw[hl];exact h1,h2,λ_=> ?_⟩;obtain⟨b',off',e,hB,hc⟩:=h3 hp;obtain⟨rfl,rfl⟩:b=b'/\off=off':=Xh;refine⟨b,off,rfl,hB,λi hi j hj=> ?_⟩;obtain rfl:j=0:=VY;rw[hl] at hi;obtain⟨Ai,ci,h4,_⟩:=hc i hi;rw[xG hi,Nat.one_mul,Nat.add_zero,h4];rfl
def O0{w:Vl}{b off cap:Nat}{rs:List (List Sd)}(h:eB w w.heap.size (Vq ⟨b,off,Vo⟩) cap rs)(hp:0<rs.length)(hco:∀r∈rs,K9 r)(hlen:rs.flatten.length<=24):
  xc 133 #[] 1 (jG w b off rs.length) (λi=> !cI (rs.getD i [])) w:=by
 intro W i hi hx;have hl:(jG w b off rs.length).length=rs.length:=by unfold jG;simp
 rw[hl] at hi;obtain⟨b',off',e,hB,hc⟩:=h.2.2 hp;obtain⟨rfl,rfl⟩:b=b'/\off=off':=Xh;obtain⟨Ai,ci,h4,h5⟩:=hc i hi;have e:rs.getD i []=rs[i]:=by rw[Vn,Vt hi];rfl
 have hcr:K9 (rs.getD i []):=by rw[e];exact hco _ (List.getElem_mem hi)
 have hle:(rs.getD i []).length<=1000:=by
  rw[e];exact VB (List.sublist_flatten_of_mem (List.getElem_mem hi)).length_le VY
 rw[xG hi,h4];exact Ek W Ai ci _ ((h5.below hx).more hx.size) hcr hle
def Ph(l:List Sd)(w:Vl):xc 130 #[] 7 (aD l) (λi=> !aJ (l.getD i Rb)) w:=by
 intro W i hi hx;rw[Vu] at hi;rw[iJ hi];exact DP _ W
def Vb(rs:List (List Sd))(s i:Vr):Prop:=∃k:Nat,k<=rs.length/\i=VU VA (k:Int)/\s=VU VA ((rs.take k).flatten.length:Int)/\∀j,j<k->rs.getD j []≠[]
def vF(w:Vl)(A:Option VM)(cap:Nat)(rs:List (List Sd))(hr:eB w w.heap.size A cap rs)(hbig:rs.flatten.length<=4000000000):
  VC prog 63 #[VW #[VQ A rs.length cap]] w λe w'=>e=VV (VU VA (dw rs))/\Ext w w':=by
 have h1:=hr.1;have h2:=hr.2.1;unfold VJ at h2;have E0:=Vk (show Ext w (w.alloc (.cells #[VQ A rs.length cap] 24)) from(Below.refl _ _).alloc (Vm _) _);have R0:=Vk (Bx.new w 24 (VQ A rs.length cap));have Z0:=Vk (show w.heap.size<(w.alloc (.cells #[VQ A rs.length cap] 24)).heap.size by simp);have HR:=Vk ((hr.below E0.o).more (B':=(w.alloc (.cells #[VQ A rs.length cap] 24)).heap.size) V5);clear hr;go_enter func63,ntmps63;go_wp2;obtain⟨w0,hw0⟩:∃w0,w.alloc (.cells #[VQ A rs.length cap] 24)=w0:=⟨_,rfl⟩;simp only[hw0] at E0 R0 Z0 HR⊢;clear hw0;have c0:=R0.o.cell
 go_loop [3,9] (λs i=>Vb rs s i) (λ_ i=>((rs.length:Int)-VG i).toNat)
 case atStart=>exact⟨0,VY,rfl,V5,λj hj=>VY⟩
 case round=>
  obtain⟨k,hk,rfl,rfl,hall⟩:=hrel;have HA:=Vk hall;clear hall;by_cases hlt:k<rs.length
  ·obtain⟨b,off,rfl,hB,hcell⟩:=HR.o.2.2 VY;obtain⟨Ai,ci,c1,hsl⟩:=hcell k hlt;have hq:=dB hlt;have hle:=eo rs (k+1);have hq2:((rs.take (k+1)).flatten.length:Int)=((rs.take k).flatten.length:Int)+((rs.getD k []).length:Int):=by rw[hq];simp
   obtain⟨m,hm⟩:∃m,(rs.take k).flatten.length=m:=⟨_,rfl⟩;obtain⟨d,hd⟩:∃d,(rs.getD k []).length=d:=⟨_,rfl⟩;rw[hd] at c1;have hs:m+d<=4000000000:=by rw[hm,hd] at hq2;omega
   rw[hm];have HQ:=Vk hq2;have HM:=Vk hm;have HD:=Vk hd;clear hcell hsl hq hq2 hm hd hle;by_cases h0:d=0
   ·have tz:((d:Int)==0)=Vv:=by rw[h0];rfl
    have HE:=Vk (show dw rs=5 by
     have:rs.any (·.isEmpty)=Vv:=by
      rw[List.any_eq_true];refine⟨rs[k],List.getElem_mem hlt,?_⟩;have hz:=HD.o;rw[h0,Vn,Vt hlt] at hz;rw[List.isEmpty_iff];exact List.length_eq_zero_iff.1 hz
     unfold dw;rw[this];rfl)
    clear h0;go_wp2;go_ret;exact⟨Wk,E0.o⟩
   ·have tz:((d:Int)==0)=Vp:=We;have HN:=Vk (show rs.getD k []≠[] by intro e;have hz:=HD.o;rw[e] at hz;exact h0 hz.symm);clear h0;go_wp2
    go_round
    case rel=>exact⟨k+1,VY,by go_num,by rw[HQ.o,HM.o,HD.o],λj hj=>by
     by_cases hjk:j=k
     ·rw[hjk];exact HN.o
     ·exact HA.o j VY⟩
    case measure=>simp[VG];omega
  ·obtain rfl:k=rs.length:=VY;have ht:(rs.take rs.length).flatten.length=rs.flatten.length:=by rw[List.take_length]
   rw[ht];clear ht;have hne:∀r∈rs,r≠[]:=by
    intro r hr;obtain⟨i,hi,rfl⟩:=List.mem_iff_getElem.1 hr;have:=HA.o i hi;rwa[Vn,Vt hi] at this
   have hany:rs.any (·.isEmpty)=Vp:=by
    rw[List.any_eq_false];intro r hr;simpa[List.isEmpty_iff] using hne r hr
   have HANY:=Vk hany;clear hany HA;obtain⟨m,hm⟩:∃m,rs.flatten.length=m:=⟨_,rfl⟩;rw[hm] at hbig⊢;have HM:=Vk hm;clear hm;by_cases hrs:rs=[]
   ·have hm0:m=0:=by rw[<-HM.o,hrs];rfl
    have tz:((m:Int)==0)=Vv:=by rw[hm0];rfl
    have HE:=Vk (show dw rs=5 by unfold dw;rw[hrs];rfl);clear hrs hm0;go_wp2;go_ret;exact⟨Wk,E0.o⟩
   have hpos:0<rs.length:=List.length_pos_iff.2 hrs;have hm1:0<m:=by
    rw[<-HM.o];obtain⟨r,l,e⟩:=List.exists_cons_of_ne_nil hrs;have:=List.length_pos_iff.2 (hne r (by rw[e];simp));rw[e,List.flatten_cons,VD];omega
   have tz:((m:Int)==0)=Vp:=We;have HNE:=Vk hne;have HRS:=Vk (show rs.isEmpty=Vp by simpa[List.isEmpty_iff] using hrs);clear hne hrs;by_cases h24:24<m
   ·have HE:=Vk (show dw rs=4 by unfold dw;rw[HANY.o,HRS.o,HM.o,if_neg V0,if_pos h24]);go_wp2;go_ret;exact⟨Wk,E0.o⟩
   have HE:=Vk (show dw rs=if rs.flatten.any (λs=> !aJ s) then 2 else if rs.any (λr=> !cI r) then 14 else if ey rs then 15 else if !eI rs|| !fU rs then 14 else 0 by
    unfold dw;rw[HANY.o,HRS.o,HM.o,if_neg V0,if_neg h24])
   obtain⟨b,off,rfl,hB,_⟩:=id (HR.o.2.2 hpos);have hrow:=Vk (λ(W:Vl) (h:Ext w0 W)=>((HR.o.below h).more h.size:eB W W.heap.size (Vq ⟨b,off,Vo⟩) cap rs));have k1:=Vk (rB w0 (Vq ⟨b,off,Vo⟩) cap rs HR.o HNE.o (by rw[HM.o];omega));have hnl:=Vk (show(aD rs.flatten).length=m by rw[Vu,HM.o]);have k2:=Vk (λ(W:Vl) (A':Option VM) (cap':Nat) (h:bK 7 W W.heap.size A' cap' (aD rs.flatten))=>
    (zi W A' cap' m (aD rs.flatten) hnl.o h (dI _) (λi=> !aJ (rs.flatten.getD i Rb)) 130 #[] (enters_of func130 VZ rfl) (Ph _ W)))
   have ha1:cC (λi=> !aJ (rs.flatten.getD i Rb)) m=rs.flatten.any (λs=> !aJ s):=by rw[<-HM.o];exact vz rs.flatten Rb (λs=> !aJ s)
   rw[HM.o] at k1;cases t1:rs.flatten.any (λs=> !aJ s)
   case true=>
    have HV:=Vk (show dw rs=2 by rw[HE.o,t1];rfl);rw[t1] at ha1;simp only[ha1] at k2;clear ha1 t1;go_wp2_with(first
     |(go_at_call 128;go_must(refine(k2.o _ _ _ HS1.o).mono ?_);rintro e W2 ⟨rfl,hX2⟩)
     |(go_at_call 129;go_must(refine k1.o.mono ?_);rintro e W1 ⟨A',cap',rfl,hS1,hX1⟩;have HS1:=Vk hS1;clear hS1))
    go_ret;exact⟨Wv,(E0.o.tr hX1).tr hX2⟩
   rw[t1] at ha1;simp only[ha1] at k2;have hco:∀r∈rs,K9 r:=by
    intro r hr s hs;rw[List.any_eq_false] at t1;have:=t1 s (List.mem_flatten.2 ⟨r,hr,hs⟩);simp only[Bool.not_eq_true,Bool.not_eq_false'] at this;unfold aJ at this;simp only[Bool.and_eq_true,aO,decide_eq_true_eq] at this;exact⟨this.1.1.1.2,this.1.1.2⟩
   have HE1:=Vk (show dw rs=if rs.any (λr=> !cI r) then 14 else if ey rs then 15 else if !eI rs|| !fU rs then 14 else 0 by rw[HE.o,t1];rfl);clear ha1 t1;have hlen24:rs.flatten.length<=24:=by rw[HM.o];omega
   have hok:Bt rs:=⟨HNE.o,hco,hlen24⟩;have HOK:=Vk hok;have hnr:=Vk (λW=>show(jG W b off rs.length).length=rs.length by unfold jG;simp);have k3:=Vk (λ(W:Vl) (h:Ext w0 W)=>
    (zf W (Vq ⟨b,off,Vo⟩) cap rs.length (jG W b off rs.length) (hnr.o W) ((hrow.o W h).rows hpos) (PT _ _ _ _) (λi=> !cI (rs.getD i [])) 133 #[] (enters_of func133 VZ rfl) (O0 (hrow.o W h) hpos hco hlen24)))
   have ha2:cC (λi=> !cI (rs.getD i [])) rs.length=rs.any (λr=> !cI r):=vz rs [] (λr=> !cI r);clear hco hok hlen24;cases t2:rs.any (λr=> !cI r)
   case true=>
    have HV:=Vk (show dw rs=14 by rw[HE1.o,t2];rfl);rw[t2] at ha2;simp only[ha2] at k3;clear ha2 t2;go_wp2_with(first
     |(go_at_call 132;go_must(refine(k3.o _ hx2).mono ?_);rintro e W3 ⟨rfl,hX3⟩;have hx3:Ext w0 W3:=hx2.tr hX3)
     |(go_at_call 128;go_must(refine(k2.o _ _ _ HS1.o).mono ?_);rintro e W2 ⟨rfl,hX2⟩;have hx2:Ext w0 W2:=hx1.tr hX2;have c2:=(R0.o.stays (hx2.stays (n0:=0) (Nat.zero_le _))).cell)
     |(go_at_call 129;go_must(refine k1.o.mono ?_);rintro e W1 ⟨A',cap',rfl,hS1,hx1⟩;have HS1:=Vk hS1;clear hS1))
    go_ret;exact⟨Wv,E0.o.tr hx3⟩
   rw[t2] at ha2;simp only[ha2] at k3;have HE2:=Vk (show dw rs=if ey rs then 15 else if !eI rs|| !fU rs then 14 else 0 by rw[HE1.o,t2];rfl);clear ha2 t2;have k4:=Vk (λ(W:Vl) (h:Ext w0 W)=>Aj W (Vq ⟨b,off,Vo⟩) cap rs (hrow.o W h) HOK.o);have k5:=Vk (λ(W:Vl) (h:Ext w0 W)=>BM W (Vq ⟨b,off,Vo⟩) cap rs (hrow.o W h) HOK.o);have k6:=Vk (λ(W:Vl) (h:Ext w0 W)=>DC W (Vq ⟨b,off,Vo⟩) cap rs (hrow.o W h) HOK.o);obtain⟨x4,hx4e⟩:∃x,ey rs=x:=⟨_,rfl⟩;obtain⟨x5,hx5e⟩:∃x,eI rs=x:=⟨_,rfl⟩;obtain⟨x6,hx6e⟩:∃x,fU rs=x:=⟨_,rfl⟩;simp only[hx4e] at k4;simp only[hx5e] at k5;simp only[hx6e] at k6;rw[hx4e,hx5e,hx6e] at HE2;clear hx4e hx5e hx6e;cases x4
   case true=>
    have HV:=Vk (show dw rs=15 by rw[HE2.o];rfl);go_wp2_with(first
     |(go_at_call 135;go_must(refine(k4.o _ hx3).mono ?_);rintro e W4 ⟨rfl,hX4⟩;have hx4:Ext w0 W4:=hx3.tr hX4;have c4:=(R0.o.stays (hx4.stays (n0:=0) (Nat.zero_le _))).cell)
     |(go_at_call 132;go_must(refine(k3.o _ hx2).mono ?_);rintro e W3 ⟨rfl,hX3⟩;have hx3:Ext w0 W3:=hx2.tr hX3;have c3:=(R0.o.stays (hx3.stays (n0:=0) (Nat.zero_le _))).cell)
     |(go_at_call 128;go_must(refine(k2.o _ _ _ HS1.o).mono ?_);rintro e W2 ⟨rfl,hX2⟩;have hx2:Ext w0 W2:=hx1.tr hX2;have c2:=(R0.o.stays (hx2.stays (n0:=0) (Nat.zero_le _))).cell)
     |(go_at_call 129;go_must(refine k1.o.mono ?_);rintro e W1 ⟨A',cap',rfl,hS1,hx1⟩;have HS1:=Vk hS1;clear hS1))
    go_ret;exact⟨Wv,E0.o.tr hx4⟩
   cases x5
   case false=>
    have HV:=Vk (show dw rs=14 by rw[HE2.o];rfl);go_wp2_with(first
     |(go_at_call 136;go_must(refine(k5.o _ hx4).mono ?_);rintro e W5 ⟨rfl,hX5⟩;have hx5:Ext w0 W5:=hx4.tr hX5;have c5:=(R0.o.stays (hx5.stays (n0:=0) (Nat.zero_le _))).cell)
     |(go_at_call 135;go_must(refine(k4.o _ hx3).mono ?_);rintro e W4 ⟨rfl,hX4⟩;have hx4:Ext w0 W4:=hx3.tr hX4;have c4:=(R0.o.stays (hx4.stays (n0:=0) (Nat.zero_le _))).cell)
     |(go_at_call 132;go_must(refine(k3.o _ hx2).mono ?_);rintro e W3 ⟨rfl,hX3⟩;have hx3:Ext w0 W3:=hx2.tr hX3;have c3:=(R0.o.stays (hx3.stays (n0:=0) (Nat.zero_le _))).cell)
     |(go_at_call 128;go_must(refine(k2.o _ _ _ HS1.o).mono ?_);rintro e W2 ⟨rfl,hX2⟩;have hx2:Ext w0 W2:=hx1.tr hX2;have c2:=(R0.o.stays (hx2.stays (n0:=0) (Nat.zero_le _))).cell)
     |(go_at_call 129;go_must(refine k1.o.mono ?_);rintro e W1 ⟨A',cap',rfl,hS1,hx1⟩;have HS1:=Vk hS1;clear hS1))
    go_ret;exact⟨Wv,E0.o.tr hx5⟩
   cases x6;all_goals
    go_wp2_with(first
     |(go_at_call 137;go_must(refine(k6.o _ hx5).mono ?_);rintro e W6 ⟨rfl,hX6⟩;have hx6:Ext w0 W6:=hx5.tr hX6)
     |(go_at_call 136;go_must(refine(k5.o _ hx4).mono ?_);rintro e W5 ⟨rfl,hX5⟩;have hx5:Ext w0 W5:=hx4.tr hX5;have c5:=(R0.o.stays (hx5.stays (n0:=0) (Nat.zero_le _))).cell)
     |(go_at_call 135;go_must(refine(k4.o _ hx3).mono ?_);rintro e W4 ⟨rfl,hX4⟩;have hx4:Ext w0 W4:=hx3.tr hX4;have c4:=(R0.o.stays (hx4.stays (n0:=0) (Nat.zero_le _))).cell)
     |(go_at_call 132;go_must(refine(k3.o _ hx2).mono ?_);rintro e W3 ⟨rfl,hX3⟩;have hx3:Ext w0 W3:=hx2.tr hX3;have c3:=(R0.o.stays (hx3.stays (n0:=0) (Nat.zero_le _))).cell)
     |(go_at_call 128;go_must(refine(k2.o _ _ _ HS1.o).mono ?_);rintro e W2 ⟨rfl,hX2⟩;have hx2:Ext w0 W2:=hx1.tr hX2;have c2:=(R0.o.stays (hx2.stays (n0:=0) (Nat.zero_le _))).cell)
     |(go_at_call 129;go_must(refine k1.o.mono ?_);rintro e W1 ⟨A',cap',rfl,hS1,hx1⟩;have HS1:=Vk hS1;clear hS1))
    go_ret;exact⟨by rw[HE2.o];rfl,E0.o.tr hx6⟩
def ET(w:Vl)(A:Option VM)(cap:Nat)(rs:List (List Sd))(hr:eB w w.heap.size A cap rs)(hbig:rs.flatten.length<=4000000000):
  VC prog 139 #[VW #[VQ A rs.length cap]] w λe w'=>∃A' n cap' x,e=VV (VX #[VQ A' n cap',VU VA x])/\(dw rs=0->n=rs.flatten.length/\x=0/\bK 7 w' w'.heap.size A' cap' (aD rs.flatten))/\(dw rs≠0->x=1)/\Ext w w':=by
 have E0:=Vk (show Ext w (w.alloc (.cells #[VQ A rs.length cap] 24)) from(Below.refl _ _).alloc (Vm _) _);have R0:=Vk (Bx.new w 24 (VQ A rs.length cap));have HR:=Vk ((hr.below E0.o).more (B':=(w.alloc (.cells #[VQ A rs.length cap] 24)).heap.size) V5);clear hr;obtain⟨w0,hw0⟩:∃w0,w.alloc (.cells #[VQ A rs.length cap] 24)=w0:=⟨_,rfl⟩;have k1:=Vk (vF w0 A cap rs (by rw[<-hw0];exact HR.o) hbig);rw[hw0] at E0 R0 HR;by_cases h0:dw rs=0
 ·have hne:∀r∈rs,r≠[]:=by
   intro r hr e;have:rs.any (·.isEmpty)=Vv:=List.any_eq_true.2 ⟨r,hr,XC⟩;unfold dw at h0;rw[this] at h0;simp at h0
  have hlen:rs.flatten.length<=1000:=by
   unfold dw at h0;by_cases h24:24<rs.flatten.length
   ·rw[if_pos h24] at h0;split at h0<;>simp at h0
   ·omega
  have k2:=Vk (λ(W:Vl) (h:Ext w0 W)=>rB W A cap rs ((HR.o.below h).more h.size) hne hlen);have H0:=Vk h0;rw[h0] at k1;obtain⟨m,hm⟩:∃m,rs.flatten.length=m:=⟨_,rfl⟩;rw[hm] at k2;have HM:=Vk hm;clear h0 hne hlen hbig hm;have HW:=Vk hw0;clear hw0;go_enter func139,ntmps139;go_wp2_with(first
   |(go_at_call 129;go_must(refine(k2.o _ hX1).mono ?_);rintro e W2 ⟨A',cap',rfl,hS2,hX2⟩;have HS2:=Vk hS2;clear hS2)
   |(go_at_call 63;rw[HW.o];go_must(refine k1.o.mono ?_);rintro e W1 ⟨rfl,hX1⟩;have c1:=(R0.o.stays (hX1.stays (n0:=0) (Nat.zero_le _))).cell))
  go_ret2;exact⟨_,_,_,_,rfl,λ_=>⟨HM.o.symm,rfl,HS2.o⟩,λh=>absurd H0.o h,(E0.o.tr hX1).tr hX2⟩
 ·have H0:=Vk h0;obtain⟨c,hc⟩:∃c,dw rs=c:=⟨_,rfl⟩;rw[hc] at k1 h0;have h0':(c !=0)=Vv:=by rw[bne_iff_ne];exact h0
  have HW:=Vk hw0;clear hw0 hc h0;go_enter func139,ntmps139;go_wp2_with(go_at_call 63;rw[HW.o];go_must(refine k1.o.mono ?_);rintro e W1 ⟨rfl,hX1⟩)
  go_ret2;exact⟨_,_,_,_,rfl,λh=>absurd h H0.o,λ_=>rfl,E0.o.tr hX1⟩
end
section
open Kp
noncomputable def nW(rs:List (List Sd))(l:List kR):Int:=
 if(lE l).2≠0 then(lE l).2 else if dw rs≠0 then 1 else if l.any (λo=> !aO o.side 0 ((rs.flatten.length:Int)-1)) then 2 else if(lE l).1 then 0 else 28
def Er(o:kR)(w:Vl)(B:Nat)(A:Option VM)(n cap:Nat)(hn:n<=4000000000)(hb:Bx w B 80 (VQ A n cap)):
  VC prog 141 #[VW (wm o).toArray,VT (Vq ⟨B,0,Vo⟩)] w λe w'=>e=VV (VS (!aO o.side 0 ((n:Int)-1)))/\Ext w w':=by
 have c:=hb.cell;have hz:=hb.lt;have E0:=Vk (show Ext w (w.alloc (.cells (wm o).toArray 57)) from(Below.refl _ _).alloc (Vm _) _);have w1:VA.wrap ((n:Int)-1)=(n:Int)-1:=VI _ VY;have K:=Vk (λW=>gI o.side 0 ((n:Int)-1) W);obtain⟨r,hr⟩:∃r,aO o.side 0 ((n:Int)-1)=r:=⟨_,rfl⟩;simp only[hr] at K⊢;clear hb hr;go_enter func141,ntmps141;go_wp2_with(go_at_call 64;go_must(refine(K.o _).mono ?_);rintro e W1 ⟨rfl,rfl⟩)
 go_ret;exact⟨rfl,E0.o⟩
def O7(l:List kR)(w:Vl)(B:Nat)(A:Option VM)(n cap:Nat)(hn:n<=4000000000)(hb:Bx w B 80 (VQ A n cap)):
  xc 141 #[VT (Vq ⟨B,0,Vo⟩)] 5 (bD l) (λi=> !aO (l.getD i ef).side 0 ((n:Int)-1)) w:=by
 intro W i hi hx;rw[Vu] at hi;rw[ow hi];exact Er _ W B A n cap hn (hb.stays (hx.stays (n0:=0) (Nat.zero_le _)))
def wE(w:Vl)(A:Option VM)(cap:Nat)(rs:List (List Sd))(A2:Option VM)(cap2:Nat)(l:List kR)(hr:eB w w.heap.size A cap rs)(hbig:rs.flatten.length<=4000000000)
  (hl:bK 5 w w.heap.size A2 cap2 (bD l))(hs:∀o∈l,zG o)(hm:eO w)(ht:aU w):
  VC prog 68 #[VW #[VQ A rs.length cap],VQ A2 l.length cap2] w λe w'=>e=VV (VU VA (nW rs l))/\Ext w w':=by
 have E0:=Vk (show Ext w (w.alloc (.cells #[VQ A rs.length cap] 24)) from(Below.refl _ _).alloc (Vm _) _);have R0:=Vk (Bx.new w 24 (VQ A rs.length cap));have HR:=Vk (λ(W:Vl) (h:Ext w W)=>((hr.below h).more h.size:eB W W.heap.size A cap rs));have HL:=Vk (λ(W:Vl) (h:Ext w W)=>((hl.below h).more h.size:bK 5 W W.heap.size A2 cap2 (bD l)));have HM:=Vk hm;have HT:=Vk ht;have h1:=hl.1;have h2:=hl.2.1;rw[Vu] at h1;unfold VJ at h2;have HS:=Vk hs;have KD:=Vk (λ(W:Vl) (h:Ext w W)=>wN W A2 cap2 l (HL.o W h) HS.o (HM.o.below h (Vm _)) (HT.o.below h (Vm _)));have KP:=Vk (λ(W:Vl) (h:Ext w W)=>ET W A cap rs (HR.o W h) hbig);have HV:=Vk (show nW rs l=if(lE l).2≠0 then(lE l).2 else if dw rs≠0 then 1 else if l.any (λo=> !aO o.side 0 ((rs.flatten.length:Int)-1)) then 2 else if(lE l).1 then 0 else 28 from rfl);obtain⟨⟨d,c⟩,hd⟩:∃r,lE l=r:=⟨_,rfl⟩;obtain⟨p,hp⟩:∃r,dw rs=r:=⟨_,rfl⟩;rw[hd,hp] at HV;simp only[hd] at KD;simp only[hp] at KP;dsimp only at HV;obtain⟨n,hn⟩:∃n,rs.flatten.length=n:=⟨_,rfl⟩;rw[hn] at HV hbig;simp only[hn] at KP;have KC:=Vk (λ(W:Vl) (h:Ext w W) (B:Nat) (A':Option VM) (cap':Nat) (hb:Bx W B 80 (VQ A' n cap'))=>
  z8 W A2 cap2 l.length (bD l) (by rw[Vu]) (HL.o W h) (mH l) (λi=> !aO (l.getD i ef).side 0 ((n:Int)-1)) 141 #[VT (Vq ⟨B,0,Vo⟩)] (enters_of func141 VZ rfl) (O7 l W B A' n cap' hbig hb))
 have hany:cC (λi=> !aO (l.getD i ef).side 0 ((n:Int)-1)) l.length=l.any (λo=> !aO o.side 0 ((n:Int)-1)):=vz l ef (λo=> !aO o.side 0 ((n:Int)-1));obtain⟨x,hx⟩:∃x,l.any (λo=> !aO o.side 0 ((n:Int)-1))=x:=⟨_,rfl⟩;rw[hx] at HV hany;simp only[hany] at KC;clear hr hl hm ht hs hd hp hn hany hx;by_cases hc:c=0
 ·have HV2:=Vk (show nW rs l=if p≠0 then 1 else if x then 2 else if d then 0 else 28 by rw[HV.o,if_neg (λh=>h hc)]);subst hc;by_cases hp0:p=0
  ·have HV3:=Vk (show nW rs l=if x then 2 else if d then 0 else 28 by rw[HV2.o,if_neg (λh=>h hp0)]);subst hp0;cases x
   ·cases d;all_goals
     go_enter func68,ntmps68;go_wp2_with(first
      |(go_at_call 138;go_must(refine(KD.o _ E0.o).mono ?_);rintro e W1 ⟨rfl,hX1⟩;have q1:=(R0.o.stays (hX1.stays (n0:=0) (Nat.zero_le _))).cell;have HX1:=Vk (Ext.tr E0.o hX1);clear hX1)
      |(go_at_call 139;go_must(refine(KP.o _ HX1.o).mono ?_);rintro e W2 ⟨A',n',cap',x',rfl,lD,qG,hX2⟩;obtain⟨rfl,rfl,_⟩:=lD trivial;have HX2:=Vk ((Ext.tr HX1.o hX2).alloc (Ext.tr HX1.o hX2).size (.cells #[VQ A' n' cap'] 80));have B2:=Vk (Bx.new W2 80 (VQ A' n' cap'));clear hX2 lD qG)
      |(go_at_call 140;go_must(refine(KC.o _ HX2.o _ _ _ B2.o).mono ?_);rintro e W3 ⟨rfl,hX3⟩))
     go_ret;exact⟨by rw[HV3.o];rfl,Ext.tr HX2.o hX3⟩
   ·go_enter func68,ntmps68;go_wp2_with(first
     |(go_at_call 138;go_must(refine(KD.o _ E0.o).mono ?_);rintro e W1 ⟨rfl,hX1⟩;have q1:=(R0.o.stays (hX1.stays (n0:=0) (Nat.zero_le _))).cell;have HX1:=Vk (Ext.tr E0.o hX1);clear hX1)
     |(go_at_call 139;go_must(refine(KP.o _ HX1.o).mono ?_);rintro e W2 ⟨A',n',cap',x',rfl,lD,qG,hX2⟩;obtain⟨rfl,rfl,_⟩:=lD trivial;have HX2:=Vk ((Ext.tr HX1.o hX2).alloc (Ext.tr HX1.o hX2).size (.cells #[VQ A' n' cap'] 80));have B2:=Vk (Bx.new W2 80 (VQ A' n' cap'));clear hX2 lD qG)
     |(go_at_call 140;go_must(refine(KC.o _ HX2.o _ _ _ B2.o).mono ?_);rintro e W3 ⟨rfl,hX3⟩))
    go_ret;exact⟨by rw[HV3.o];rfl,Ext.tr HX2.o hX3⟩
  ·have HV3:=Vk (show nW rs l=1 by rw[HV2.o,if_pos hp0]);have HP0:=Vk hp0;clear hp0;go_enter func68,ntmps68;go_wp2_with(first
    |(go_at_call 138;go_must(refine(KD.o _ E0.o).mono ?_);rintro e W1 ⟨rfl,hX1⟩;have q1:=(R0.o.stays (hX1.stays (n0:=0) (Nat.zero_le _))).cell;have HX1:=Vk (Ext.tr E0.o hX1);clear hX1)
    |(go_at_call 139;go_must(refine(KP.o _ HX1.o).mono ?_);rintro e W2 ⟨A',n',cap',x',rfl,lD,qG,hX2⟩;obtain rfl:=qG HP0.o;have HX2:=Vk (Ext.tr HX1.o hX2);clear hX2 lD qG))
   go_ret;exact⟨by rw[HV3.o];rfl,HX2.o.alloc HX2.o.size _⟩
 ·have HV2:=Vk (show nW rs l=c by rw[HV.o,if_pos hc]);have tc:(c !=0)=Vv:=by rw[bne_iff_ne];exact hc
  clear hc;go_enter func68,ntmps68;go_wp2_with(go_at_call 138;go_must(refine(KD.o _ E0.o).mono ?_);rintro e W1 ⟨rfl,hX1⟩)
  go_ret;exact⟨by rw[HV2.o];rfl,Ext.tr E0.o hX1⟩
end
end Go.Proofs.YtmliacdegmklaaaGreatDoor
