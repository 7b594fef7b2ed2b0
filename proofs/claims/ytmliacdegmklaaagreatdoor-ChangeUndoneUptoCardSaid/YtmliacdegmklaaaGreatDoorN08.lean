/- ChangeUndone of kingpostlaw58: part 8 of its proof (merged and shortened by program). -/
import Derived.Test.YtmliacdegmklaaaGreatDoorN04
import Derived.Test.YtmliacdegmklaaaGreatDoorN05
import Derived.Test.YtmliacdegmklaaaGreatDoorN06
set_option linter.unusedVariables false
set_option linter.unusedSimpArgs false
set_option linter.defProp false
set_option maxHeartbeats 8000000
set_option maxRecDepth 100000
open Go.RowKit Go.Shelf Go.Proofs.Tryz
open Array renaming getElem?_eq_some_iff→VF
open Bool renaming false→Vw,true→VD
open Go renaming World→Vt,Value→Vy,undef→VB,wpOp_step→VE,Calls→VJ,maxLen→VP,TypeId→VR,Addr→VT
open Go.AllReady renaming cons→VO,nil→VU
open Go.Ending renaming returned→V0
open Go.IntKind renaming i64→VH
open Go.IntWalk renaming i64_in→VQ
open Go.Lib renaming hid→Vs
open Go.RowKit renaming intOf→VN,Below→VS
open Go.Value renaming slice→VV,string→VW,bool→VX,pointer→VY,int→VZ,agg→V5,tuple→V6
open Go.World renaming alloc_heap_new→VG,size_alloc→VK
open List renaming getD_eq_getElem?_getD→Vv,getElem?_eq_getElem→VA,length_map→VC,length_append→VM,length→ln
open Nat renaming le_refl→Vu,le_trans→VI,mul_comm→VL
open Option renaming none→Vx,some→Vz
open Go.Proofs.YtmliacdegmklaaaGreatDoor
variable{m:Bool}{a b L:List Nat}{r:List UInt8×Int}{n i Z:Nat}{p:Prop}{α:Type}{w w':Vt}{v1 v2:Vy}
namespace Go.Proofs.YtmliacdegmklaaaGreatDoor
section
open Kp
def Mi(g:Nat)(a b:List Nat)(f:Nat->Nat×Nat):Prop:=
 ∀(W:Vt) (k:Nat),VJ prog g #[VZ VH (fv a k:Int),VZ VH (fv b k:Int),VZ VH ((f k).2:Int)] W λe w'=>e=V0 (V6 #[VZ VH ((f (k+1)).1:Int),VZ VH ((f (k+1)).2:Int)])/\W=w'
theorem Jr(ha:Small a)(hb:Small b):Mi 350 a b (oV a b):=λW k=>
 (It _ _ _ W (aB ha k) (aB hb k) (JS ha hb k).1).mono λ_ _ ⟨h1,h2⟩=>⟨h1,h2.symm⟩
theorem vQ(ha:Small a)(hb:Small b):Mi 351 a b (mY a b):=λW k=>
 (Ee _ _ _ W (aB ha k) (aB hb k) (Fg ha hb k).1).mono λ_ _ ⟨h1,h2⟩=>⟨h1,h2.symm⟩
def QZ(w:Vt)(f:Nat->Nat×Nat)(n:Nat)(e:Ending)(w':Vt):Prop:=
 ∃v,e=V0 v/\bB w' w'.heap.size v (aA (bV f n))/\Ext w w'
def mU(w:Vt)(a b:List Nat)(va vb:Vy)(g:Nat)(f:Nat->Nat×Nat)(ha:bB w w.heap.size va a)(hb:bB w w.heap.size vb b)(hla:ln a<=1000000)(hlb:ln b<=1000000)
  (eg:∀args w,(callFunc g args).run prog w= .ok (.enter g args) w)(hp:Mi g a b f)(hf0:(f 0).2=0):
  VJ prog 349 #[va,vb,.func (.func g) #[] #[]] w (QZ w f (max (ln a) (ln b)+1)):=by
 obtain⟨i0,hi0,hz0,hz1,hz2⟩:=info_parts eA;have I0:=Vs hi0;have I1:=Vs hz0;have I2:=Vs hz1;have I3:=Vs hz2;have HA:=Vs ha;have HB:=Vs hb;have HP:=Vs hp;have HF:=Vs hf0;obtain⟨A,ca,rfl,ha1,ha2,_⟩:=id ha;obtain⟨A',cb,rfl,hb1,hb2,_⟩:=id hb;unfold VP at ha2 hb2;obtain⟨n,hn⟩:∃n,max (ln a) (ln b)+1=n:=⟨_,rfl⟩;have hn1:n<=1000001:=V7;have hna:ln a<n:=V7;have hnb:ln b<n:=V7;have hn2:(max (ln a:Int) (ln b:Int))+1=(n:Int):=V7;have HN:=Vs hn;rw[hn];clear ha hb hp hf0 hi0 hz0 hz1 hz2 hn;go_enter func349,ntmps349;go_wp2;go_loopw [7,8,18] (λv c i wr=>Uf w f n v c i wr) (λ_ _ i _=>((n:Int)-VN i).toNat)
 case atStart=>exact⟨0,V7,rfl,Xs,World.ownsRow_nil _ _ _ _,Below.refl _ _⟩
 case round=>
  obtain⟨k,hk,rfl,rfl,hown,hX⟩:=hrel;have HO:=Vs hown;have HX:=Vs hX;have hs1:=(HA.o.below hX);have hs2:=(HB.o.below hX);have hbase:=hX.size;clear hown hX;by_cases hlt:k<n
  ·have C1:=Vs (tT wr _ _ a k hs1 V7);have C2:=Vs (tT wr _ _ b k hs2 V7);have C3:=Vs (HP.o wr k);have HR:=Vs (en f k);obtain⟨x,hx⟩:∃x,(f (k+1)).1=x:=⟨_,rfl⟩;obtain⟨y,hy⟩:∃y,(f (k+1)).2=y:=⟨_,rfl⟩;rw[hx,hy] at C3;rw[hx] at HR;have HY:=Vs hy;clear hs1 hs2 hx hy;have hbase1:w.heap.size<=(wr.alloc (.cells #[VZ VH (x:Int)] 3)).heap.size:=Wf;have HOX:=Vs (aO HO.o ((Below.refl _ _).alloc (Vu _) (.cells #[VZ VH (x:Int)] 3)));obtain⟨vs,hvs⟩:∃vs,sZ (bV f k)=vs:=⟨_,rfl⟩;rw[hvs] at HO HOX;have HVS:=Vs hvs;clear hvs;go_wp2_with(first
    |(at_builtin;(refine wpList_append_own _ rfl _ _ _ rfl w.heap.size 3 i0 _ 1 8 underlying25 I0.o I1.o I2.o I3.o rfl V7 _ _ _ rfl HOX.o ⟨wr.heap.size,0,Vx⟩ 1 1 [VZ VH (x:Int)] rfl Wl (λj u hj=>Wk) WR Wh V7 hbase1 ?_);intro v' w' hown' hgr' hnil)
    |(go_at_fn g;go_must(refine C3.o.mono ?_);rintro e W3 ⟨rfl,rfl⟩)
    |(go_at_call 346;first|((with_reducible refine C1.o.mono ?_);rintro e W1 ⟨rfl,rfl⟩)|((with_reducible refine C2.o.mono ?_);rintro e W1 ⟨rfl,rfl⟩)))
   refine⟨⟨k+1,V7,Wa,by rw[HY.o],?_,ei (HX.o.alloc HX.o.size _) hgr' (λq hq=>(az HO.o q hq).1)⟩,Wc⟩;have e:sZ (bV f (k+1))=vs++[VZ VH (x:Int)]:=Xk;rw[e];exact hown'
  ·obtain rfl:k=n:=V7;have hlt':decide ((k:Int)<(k:Int))=Vw:=Wd;have hsn:=dd HO.o (bn f k);obtain⟨A2,c2,rfl,q1,q2,q3⟩:=id hsn;have CT:=Vs (Co wr A2 c2 (bV f k) q1 q2 (λhp=>by
    obtain⟨b',o',e,hb',hc'⟩:=q3 hp;exact⟨b',o',e,hc'⟩))
   have HS:=Vs hsn;rw[bn] at CT HS;have HS2:=Vs (show bB wr wr.heap.size (VV A2 (aA (bV f k)).length c2) (aA (bV f k)) by
    refine⟨A2,c2,rfl,VI (aR _) q1,q2,λhp=> ?_⟩;have hle:=aR (bV f k);obtain⟨b',o',e,hb',hc'⟩:=q3 V7;exact⟨b',o',e,hb',λj hj=>by rw[vE hj];exact hc' j V7⟩)
   have hkn:=bn f k;have hvk:(Value.slice A2 (bV f k).length c2)=VV A2 k c2:=by rw[hkn]
   rw[hvk];clear hsn q1 q2 q3 hs1 hs2 hkn hvk;go_wp2_with(go_at_call 326;go_must(refine CT.o.mono ?_);rintro e W1 ⟨rfl,rfl⟩)
   go_ret;exact⟨_,rfl,HS2.o,HX.o⟩
end
section
open Kp
def sg(m:Bool)(n:Nat):Int:=if m then -(n:Int) else n
theorem RW(ha:Small a)(hb:Small b)(hn:max (ln a) (ln b)+1=n):Canon (aA (bV (oV a b) n))/\val (aA (bV (oV a b) n))=val a+val b:=by
 have hs:Small (bV (oV a b) n):=by
  intro d hd;unfold bV at hd;obtain⟨i,_,rfl⟩:=List.mem_map.1 hd;exact(JS ha hb i).2
 refine⟨eD hs,?_⟩;rw[gO];have h1:=PD (a:=a) (b:=b) n;have e1:S (fv a) n=val a:=kh V7;have e2:S (fv b) n=val b:=kh V7;have e3:S (fv (bV (oV a b) n)) n=val (bV (oV a b) n):=by unfold val;rw[bn]
 rw[e1,e2,e3] at h1;have la:=Nat.lt_of_lt_of_le (rf ha) (Nat.pow_le_pow_right V9 (show ln a<=n-1 by omega):B^ln a<=B^(n-1));have lb:=Nat.lt_of_lt_of_le (rf hb) (Nat.pow_le_pow_right V9 (show ln b<=n-1 by omega):B^ln b<=B^(n-1));have hp:B^n=B^(n-1)*B:=by rw[<-Nat.pow_succ];congr 1;omega
 have hB:B^(n-1)*2<=B^(n-1)*B:=Nat.mul_le_mul_left _ V9;rcases Nat.eq_zero_or_pos (oV a b n).2 with h0|h0
 ·rw[h0] at h1;omega
 ·have:1*B^n<=(oV a b n).2*B^n:=Nat.mul_le_mul_right _ h0;omega
theorem MR(ha:Small a)(hb:Small b)(hn:max (ln a) (ln b)+1=n)(hle:val b<=val a):Canon (aA (bV (mY a b) n))/\val (aA (bV (mY a b) n))=val a-val b:=by
 have hs:Small (bV (mY a b) n):=by
  intro d hd;unfold bV at hd;obtain⟨i,_,rfl⟩:=List.mem_map.1 hd;exact(Fg ha hb i).2
 refine⟨eD hs,?_⟩;rw[gO];have h1:=PG ha hb n;have e1:S (fv a) n=val a:=kh V7;have e2:S (fv b) n=val b:=kh V7;have e3:S (fv (bV (mY a b) n)) n=val (bV (mY a b) n):=by unfold val;rw[bn]
 have l3:=rf hs;rw[bn] at l3;rw[e1,e2,e3] at h1;rcases Nat.eq_zero_or_pos (mY a b n).2 with h0|h0
 ·rw[h0] at h1;omega
 ·have:1*B^n<=(mY a b n).2*B^n:=Nat.mul_le_mul_right _ h0;omega
def Ag(w:Vt)(z:Int)(e:Ending)(w':Vt):Prop:=
 ∃m v l,e=V0 (V5 #[VX m,v])/\bB w' w'.heap.size v l/\Canon l/\sg m (val l)=z/\Ext w w'
def NS(p0 q1 q2:Nat)(m:Bool)(v1 v2:Vy)(L:List Nat):Nat->Vy->Vt->Prop
 |0,v,_=>v=VY (Vz ⟨p0,0,Vx⟩)
 |1,v,_=>v=VX m
 |2,v,_=>v=VY (Vz ⟨q1,1,Vx⟩)
 |3,v,_=>v=v1
 |4,v,_=>v=VY (Vz ⟨q2,1,Vx⟩)
 |5,v,_=>v=v2
 |6,v,w=>bB w w.heap.size v L
 |_,v,w=>∃u,v=V5 #[VX m,u]/\bB w w.heap.size u L
theorem yO{p0 q1 q2:Nat}{v:Vy}(h:NS p0 q1 q2 m v1 v2 L i v w)(hx:Ext w w'):NS p0 q1 q2 m v1 v2 L i v w':=by
 match i,h with
 |0,h|1,h|2,h|3,h|4,h|5,h=>exact h
 |6,h=>exact bB.grow h hx
 |_+7,h=>obtain⟨u,e,hu⟩:=h;exact⟨u,e,hu.grow hx⟩
theorem Sg{b:Nat}{l:List Nat}{v:Vy}(h:bB w w.heap.size v l)(hr:ai w b 326 [VX Vw,VV Vx 0 0])(x y:Vy):
  bB ((w.setCell ⟨b,0,Vx⟩ x).setCell ⟨b,1,Vx⟩ y) ((w.setCell ⟨b,0,Vx⟩ x).setCell ⟨b,1,Vx⟩ y).heap.size v l:=by
 obtain⟨A,cap,rfl,h1,h2,hc⟩:=h;refine⟨A,cap,rfl,h1,h2,λhn=> ?_⟩;obtain⟨b',off,e,hb,hcell⟩:=hc hn;refine⟨b',off,e,by simpa[World.setCell] using hb,λj hj=> ?_⟩;by_cases hbb:b'=b
 ·exfalso;subst hbb;have h5:=hcell j hj;rw[hr.cell] at h5;rcases(show off+j=0\/off+j=1\/2<=off+j by omega) with h6|h6|h6
  ·rw[h6] at h5;simp at h5
  ·rw[h6] at h5;simp at h5
  ·rw[List.getElem?_eq_none (by simpa using h6)] at h5;cases h5
 ·rw[World.cell?_of_block (w:=w.setCell ⟨b,0,Vx⟩ x) (Below.heap_setCell _ _ _ _ hbb),World.cell?_of_block (w:=w) (Below.heap_setCell _ _ _ _ hbb)];exact hcell j hj
def Ej(w:Vt)(x1 x2 x3:List Vy)(t:VR):∃W0,Hid (((w.alloc (.cells x1.toArray t)).alloc (.cells x2.toArray t)).alloc (.cells x3.toArray t)=W0)/\Hid (Ext w W0)/\ai W0 w.heap.size t x1/\ai W0 (w.heap.size+1) t x2/\ai W0 (w.heap.size+1+1) t x3:=by
 have R2:=(ai.new (w.alloc (.cells x1.toArray t)) t x2).ext ((Below.refl _ _).alloc (Vu _) (.cells x3.toArray t));have R3:=ai.new ((w.alloc (.cells x1.toArray t)).alloc (.cells x2.toArray t)) t x3;rw[VK] at R2;rw[VK,VK] at R3;exact⟨_,Vs rfl,Vs (AU w _ _ _),(ai.new w t x1).ext (fh _ _ _),R2,R3⟩
theorem yP(h:p:=by
  intro i vs w' hi hD hd;have hw0:Ext W0 w':=(Ext.tr hX0 hD);have cA:=λi=>(R1.ext hw0).cell i
  have cB:=λi=>(R2.ext hw0).cell i
  rcases(show i=0\/i=1\/i=2\/i=3\/i=4\/i=5\/i=6\/i=7 by omega) with rfl|rfl|rfl|rfl|rfl|rfl|rfl|rfl<;>clear hi
  ·exact YZ
  ·refine VE rfl (λK hK=> ?_);have d0:=hd 0 V8;simp only[NS] at d0;go_simp;exact hK _ _ ⟨_,by simp[d0],Ext.aC _,rfl,λh=>Wb⟩
  ·exact YZ
  ·refine VE rfl (λK hK=> ?_);have d2:=hd 2 V8;simp only[NS] at d2;go_simp;exact hK _ _ ⟨_,by simp[d2],Ext.aC _,rfl,λh=>Wb⟩
  ·exact YZ
  ·refine VE rfl (λK hK=> ?_);have d4:=hd 4 V8;simp only[NS] at d4;go_simp;exact hK _ _ ⟨_,by simp[d4],Ext.aC _,rfl,λh=>Wb⟩
  ·refine VE rfl (λK hK=> ?_);have d3:=hd 3 V8;have d5:=hd 5 V8;simp only[NS] at d3 d5;clear cA cB;go_simp;refine(KC.o _ (E3.o.tr hw0)).mono ?_;rintro e W4 ⟨v,rfl,hs,hX⟩;exact hK _ _ ⟨v,by simp[d3,d5],hX,hs,λh=>Wb⟩
  ·refine VE rfl (λK hK=> ?_);have d1:=hd 1 V8;obtain⟨A6,c6,e6,h61,h62,h63⟩:=id (hd 6 V8:bB _ _ _ _);have d6:bB _ _ _ _:=hd 6 V8;simp only[NS] at d1;rw[e6] at d6;clear cA cB h63;go_simp;exact hK _ _ ⟨_,by simp[d1,e6],Ext.aC _,⟨_,rfl,d6⟩,λh=>Wb⟩):p:=h
theorem zn(h:p:=by
  intro vs w' hD hv _;have hw0:Ext W0 w':=(Ext.tr hX0 hD);obtain⟨v,e7,hs⟩:=hv 7 V9;obtain⟨A7,c7,rfl,_,_,_⟩:=id hs;have HS:=Vs hs;have r3:=R3.ext hw0;have c0:=r3.cell 0;have c1:=r3.cell 1;have f0:=r3.frozen 0;have f1:=r3.frozen 1;have HR3:=Vs r3;clear hv hs r3;simp only[List.drop_succ_cons,List.drop_zero];go_wp2;have q0:=λx y=>(HR3.o.fV x y).cell 0
  have q1:=λx y=>(HR3.o.fV x y).cell 1
  refine bodyPost_ret (v:=vs 7) ?_ rfl ⟨_,_,_,congrArg _ e7,?_,HC.o,HV.o,?_⟩
  ·rw[e7];simp[results,results338,go_sem,q0,q1]
  ·have hb4:VS w'.heap.size w' w':=Below.refl _ _;exact Sg HS.o HR3.o _ _
  ·exact((E3.o.tr hw0).setCell (p:=⟨w.heap.size+1+1,0,Vx⟩) Wf _).setCell (p:=⟨w.heap.size+1+1,1,Vx⟩) Wf _):p:=h
def GW(w:Vt)(m:Bool)(a b:List Nat)(va vb:Vy)(ha:bB w w.heap.size va a)(hb:bB w w.heap.size vb b)(hca:Canon a)(hcb:Canon b)(hla:ln a<=400000)(hlb:ln b<=400000):
  VJ prog 338 #[V5 #[VX m,va],V5 #[VX m,vb]] w (Ag w (sg m (val a)+sg m (val b))):=by
 have hsa:=hca.small;have hsb:=hcb.small;obtain⟨hcan,hval⟩:=RW hsa hsb (n:=max (ln a) (ln b)+1) rfl;have HV:=Vs (show sg m (val (aA (bV (oV a b) (max (ln a) (ln b)+1))))=sg m (val a)+sg m (val b) by rw[hval];unfold sg;cases m<;>simp <;>omega);have HC:=Vs hcan;have HP:=Vs (Jr hsa hsb);have HA:=Vs ha;have HB:=Vs hb;have HCA:=Vs hca;have HCB:=Vs hcb;obtain⟨A,ca,rfl,_,_,_⟩:=id ha;obtain⟨A',cb,rfl,_,_,_⟩:=id hb;obtain⟨W0,HW0,E3,R1,R2,R3⟩:=Ej w [VX m,VV A (ln a) ca] [VX m,VV A' (ln b) cb] [VX Vw,VV Vx 0 0] 326;have KC:=Vs (λ(W:Vt) (h:Ext w W)=>mU W a b (VV A (ln a) ca) (VV A' (ln b) cb) 350 _ (HA.o.grow h) (HB.o.grow h) V7 V7 (enters_of func350 V8 rfl) HP.o rfl);have tm:(m==m)=VD:=Wa;clear ha hb hcan hval hca hcb;go_enter func338,ntmps338;go_wp2;simp only[HW0.o];have hX0:=Ext.aC W0;refine wp_region_any V8 (bO 8 (λvs=>⟨#[V5 #[VX m,VV A (ln a) ca],V5 #[VX m,VV A' (ln b) cb],VY (Vz ⟨w.heap.size,0,Vx⟩),VY (Vz ⟨w.heap.size+1,0,Vx⟩),VY (Vz ⟨w.heap.size+1+1,0,Vx⟩),VX VD,VY (Vz ⟨w.heap.size,0,Vx⟩),VX m,VY (Vz ⟨w.heap.size+1,0,Vx⟩),VX m,VX VD,vs 0,vs 1,vs 2,vs 3,vs 4,vs 5,vs 6,vs 7,VB,VB,VB,VB,VB,VB,VB,VB,VB,VB,VB,VB,VB,VB,VB,VB,VB,VB,VB,VB,VB,VB,VB],[]⟩)
  (λw'=>Ext W0 w') (NS (w.heap.size) (w.heap.size) (w.heap.size+1) m (VV A (ln a) ca) (VV A' (ln b) cb) (aA (bV (oV a b) (max (ln a) (ln b)+1)))) (λ_=>Vw) V8 (λ_ _ h k=>h.tr k) (λi v _ _ h k=>yO h k) (λ_ _ _ _ h=>Wb) ?_ ?_ (λ_=>VB) _ (Ext.dr W0))
 ·exact yP
 ·exact zn
def PL(w:Vt)(m1 m2:Bool)(a b:List Nat)(va vb:Vy)(ha:bB w w.heap.size va a)(hb:bB w w.heap.size vb b)(hca:Canon a)(hcb:Canon b)(hla:ln a<=400000)(hlb:ln b<=400000)(hm:m1≠m2)(hle:val b<=val a):
  VJ prog 338 #[V5 #[VX m1,va],V5 #[VX m2,vb]] w (Ag w (sg m1 (val a)+sg m2 (val b))):=by
 have hsa:=hca.small;have hsb:=hcb.small;obtain⟨hcan,hval⟩:=MR hsa hsb (n:=max (ln a) (ln b)+1) rfl hle;have HV:=Vs (show sg m1 (val (aA (bV (mY a b) (max (ln a) (ln b)+1))))=sg m1 (val a)+sg m2 (val b) by rw[hval];unfold sg;cases m1<;>cases m2<;>simp at hm⊢ <;>omega);have HC:=Vs hcan;have HP:=Vs (vQ hsa hsb);have HA:=Vs ha;have HB:=Vs hb;have HCA:=Vs hca;have HCB:=Vs hcb;obtain⟨A,ca,rfl,_,_,_⟩:=id ha;obtain⟨A',cb,rfl,_,_,_⟩:=id hb;obtain⟨W0,HW0,E3,R1,R2,R3⟩:=Ej w [VX m1,VV A (ln a) ca] [VX m2,VV A' (ln b) cb] [VX Vw,VV Vx 0 0] 326;have KC:=Vs (λ(W:Vt) (h:Ext w W)=>mU W a b (VV A (ln a) ca) (VV A' (ln b) cb) 351 _ (HA.o.grow h) (HB.o.grow h) V7 V7 (enters_of func351 V8 rfl) HP.o rfl);have KD:=Vs (jr W0 a b (VV A (ln a) ca) (VV A' (ln b) cb) (HA.o.grow E3.o) (HB.o.grow E3.o) hca hcb V7);have tm:(m1==m2)=Vw:=by rw[beq_eq_false_iff_ne];exact hm
 clear ha hb hcan hval hca hcb;go_enter func338,ntmps338;clear hm;go_wp2_with(go_at_call 327;rw[HW0.o];go_must(refine KD.o.mono ?_);rintro e X0 ⟨c,rfl,hc1,hc2,hX0⟩;have tc:decide (0<=c)=VD:=(by rw[decide_eq_true_eq];rcases Int.lt_or_le c 0 with h|h;(have:=hc1.1 h;omega);exact h);clear hc1 hc2)
 refine wp_region_any V8 (bO 8 (λvs=>⟨#[V5 #[VX m1,VV A (ln a) ca],V5 #[VX m2,VV A' (ln b) cb],VY (Vz ⟨w.heap.size,0,Vx⟩),VY (Vz ⟨w.heap.size+1,0,Vx⟩),VY (Vz ⟨w.heap.size+1+1,0,Vx⟩),VX Vw,VY (Vz ⟨w.heap.size,0,Vx⟩),VX m1,VY (Vz ⟨w.heap.size+1,0,Vx⟩),VX m2,VX Vw,VB,VB,VB,VB,VB,VB,VB,VB,VX VD,VY (Vz ⟨w.heap.size,1,Vx⟩),VV A (ln a) ca,VY (Vz ⟨w.heap.size+1,1,Vx⟩),VV A' (ln b) cb,VZ VH c,VX VD,vs 0,vs 1,vs 2,vs 3,vs 4,vs 5,vs 6,vs 7,VB,VB,VB,VB,VB,VB,VB,VB],[]⟩)
  (λw'=>Ext X0 w') (NS (w.heap.size) (w.heap.size) (w.heap.size+1) m1 (VV A (ln a) ca) (VV A' (ln b) cb) (aA (bV (mY a b) (max (ln a) (ln b)+1)))) (λ_=>Vw) V8 (λ_ _ h k=>h.tr k) (λi v _ _ h k=>yO h k) (λ_ _ _ _ h=>Wb) ?_ ?_ (λ_=>VB) _ (Ext.dr X0))
 ·exact yP
 ·exact zn
def OL(w:Vt)(m1 m2:Bool)(a b:List Nat)(va vb:Vy)(ha:bB w w.heap.size va a)(hb:bB w w.heap.size vb b)(hca:Canon a)(hcb:Canon b)(hla:ln a<=400000)(hlb:ln b<=400000)(hm:m1≠m2)(hle:val a<val b):
  VJ prog 338 #[V5 #[VX m1,va],V5 #[VX m2,vb]] w (Ag w (sg m1 (val a)+sg m2 (val b))):=by
 have hsa:=hca.small;have hsb:=hcb.small;obtain⟨hcan,hval⟩:=MR hsb hsa (n:=max (ln b) (ln a)+1) rfl V7;have HV:=Vs (show sg m2 (val (aA (bV (mY b a) (max (ln b) (ln a)+1))))=sg m1 (val a)+sg m2 (val b) by rw[hval];unfold sg;cases m1<;>cases m2<;>simp at hm⊢ <;>omega);have HC:=Vs hcan;have HP:=Vs (vQ hsb hsa);have HA:=Vs ha;have HB:=Vs hb;have HCA:=Vs hca;have HCB:=Vs hcb;obtain⟨A,ca,rfl,_,_,_⟩:=id ha;obtain⟨A',cb,rfl,_,_,_⟩:=id hb;obtain⟨W0,HW0,E3,R1,R2,R3⟩:=Ej w [VX m1,VV A (ln a) ca] [VX m2,VV A' (ln b) cb] [VX Vw,VV Vx 0 0] 326;have KC:=Vs (λ(W:Vt) (h:Ext w W)=>mU W b a (VV A' (ln b) cb) (VV A (ln a) ca) 351 _ (HB.o.grow h) (HA.o.grow h) V7 V7 (enters_of func351 V8 rfl) HP.o rfl);have KD:=Vs (jr W0 a b (VV A (ln a) ca) (VV A' (ln b) cb) (HA.o.grow E3.o) (HB.o.grow E3.o) hca hcb V7);have tm:(m1==m2)=Vw:=by rw[beq_eq_false_iff_ne];exact hm
 clear ha hb hcan hval hca hcb;go_enter func338,ntmps338;clear hm;go_wp2_with(go_at_call 327;rw[HW0.o];go_must(refine KD.o.mono ?_);rintro e X0 ⟨c,rfl,hc1,hc2,hX0⟩;have tc:decide (0<=c)=Vw:=(by rw[decide_eq_false_iff_not];have:=hc1.2 hle;omega);clear hc1 hc2)
 refine wp_region_any V8 (bO 8 (λvs=>⟨#[V5 #[VX m1,VV A (ln a) ca],V5 #[VX m2,VV A' (ln b) cb],VY (Vz ⟨w.heap.size,0,Vx⟩),VY (Vz ⟨w.heap.size+1,0,Vx⟩),VY (Vz ⟨w.heap.size+1+1,0,Vx⟩),VX Vw,VY (Vz ⟨w.heap.size,0,Vx⟩),VX m1,VY (Vz ⟨w.heap.size+1,0,Vx⟩),VX m2,VX Vw,VB,VB,VB,VB,VB,VB,VB,VB,VX Vw,VY (Vz ⟨w.heap.size,1,Vx⟩),VV A (ln a) ca,VY (Vz ⟨w.heap.size+1,1,Vx⟩),VV A' (ln b) cb,VZ VH c,VX Vw,VB,VB,VB,VB,VB,VB,VB,VB,vs 0,vs 1,vs 2,vs 3,vs 4,vs 5,vs 6,vs 7],[]⟩)
  (λw'=>Ext X0 w') (NS (w.heap.size+1) (w.heap.size+1) (w.heap.size) m2 (VV A' (ln b) cb) (VV A (ln a) ca) (aA (bV (mY b a) (max (ln b) (ln a)+1)))) (λ_=>Vw) V8 (λ_ _ h k=>h.tr k) (λi v _ _ h k=>yO h k) (λ_ _ _ _ h=>Wb) ?_ ?_ (λ_=>VB) _ (Ext.dr X0))
 ·exact yP
 ·exact zn
def LK(w:Vt)(m1 m2:Bool)(a b:List Nat)(va vb:Vy)(ha:bB w w.heap.size va a)(hb:bB w w.heap.size vb b)(hca:Canon a)(hcb:Canon b)(hla:ln a<=400000)(hlb:ln b<=400000):
  VJ prog 338 #[V5 #[VX m1,va],V5 #[VX m2,vb]] w (Ag w (sg m1 (val a)+sg m2 (val b))):=by
 by_cases hm:m1=m2
 ·subst hm;exact GW w m1 a b va vb ha hb hca hcb hla hlb
 ·by_cases hle:val b<=val a
  ·exact PL w m1 m2 a b va vb ha hb hca hcb hla hlb hm hle
  ·exact OL w m1 m2 a b va vb ha hb hca hcb hla hlb hm V7
end
section
open Kp
def lr(x y:Int):Int:=if x<y then -1 else if y<x then 1 else 0
def M2(l:List UInt8):num l=sg (Lib.hasPrefix l [45]) (aw (own l)):=by unfold num sg;rfl
def Om{m na nb:Bool}{l la lb:List Nat}{x y:Nat}{p q:Int}(hc:Canon l)(hz:sg m (val l)=sg na (val la)+sg (!nb) (val lb))(h3:val la=x)(h4:val lb=y)(hp:p=sg na x)(hq:q=sg nb y):
  lr p q=if((ln l:Int)==0)=VD then 0 else if m then -1 else 1:=by
 have hle:(if((ln l:Int)==0)=VD then(0:Int) else if m then -1 else 1)=if ln l=0 then 0 else if m then -1 else 1:=by
  by_cases h:ln l=0<;>simp[h]
 rw[hle];subst hp hq;rw[h3,h4] at hz;have hz2:sg m (val l)=sg na x-sg nb y:=by
  rw[hz];unfold sg;cases nb<;>simp <;>omega
 have h0:=val_eq_zero hc.trim;by_cases hl:ln l=0
 ·have:l=[]:=List.length_eq_zero_iff.1 hl;have hv:=h0.2 this;rw[if_pos hl];unfold lr;rw[hv] at hz2;have:sg m 0=0:=by unfold sg;cases m<;>rfl
  rw[if_neg V7,if_neg V7]
 ·have hv:0<val l:=by
   rcases Nat.eq_zero_or_pos (val l) with h|h
   ·exact absurd (by rw[h0.1 h];rfl) hl
   ·exact h
  rw[if_neg hl];unfold lr;cases m
  ·have:sg Vw (val l)=val l:=rfl;rw[if_neg V7,if_pos V7];rfl
  ·have:sg VD (val l)= -(val l:Int):=rfl;rw[if_pos V7];rfl
def tV(a b:List UInt8)(w:Vt)(ha:ln a<=100000)(hb:ln b<=100000)(h18:18<ln a\/18<ln b)(h:du a b=0):
  VJ prog 305 #[VW (tx a),VW (tx b)] w λe w'=>e=V0 (V6 #[VZ VH (lr (num a) (num b)),VZ VH 0])/\Ext w w':=by
 obtain⟨ca,cb⟩:=kK h;obtain⟨fa,la⟩:=fy ca;obtain⟨fb,lb⟩:=fy cb;have da:=cV fa;have db:=cV fb;have K1:=Vs (il a b w V7 V7);rw[h] at K1;have K2:=Vs (λW=>vM a b W h18 V7 V7);have K3:=Vs (λW=>lZ W a da V7);have K4:=Vs (λW=>lZ W b db V7);have HNA:=Vs (M2 a);have HNB:=Vs (M2 b);have HLA:=Vs la;have HLB:=Vs lb;clear h ca cb fa fb da db ha hb h18 la lb;go_enter func305,ntmps305;go_wp2_with(first
  |(go_at_call 294;refine K1.o.mono ?_;rintro e W1 ⟨rfl,hX1⟩)
  |(go_at_call 295;refine(K2.o _).mono ?_;rintro e W2 ⟨rfl,hX2⟩)
  |(go_at_call 296;((with_reducible refine(K4.o _).mono ?_);rintro e W4 ⟨v4,l4,rfl,⟨g4,cap4,rfl,hg4,hr4⟩,hc4,hv4,hl4,hX4⟩;have HR4:=Vs hr4;have HV4:=Vs hv4;have HL4:=Vs hl4;have HC4:=Vs hc4;clear hr4 hv4 hl4 hc4))
  |(go_at_call 296;((with_reducible refine(K3.o _).mono ?_);rintro e W3 ⟨v3,l3,rfl,⟨g3,cap3,rfl,hg3,hr3⟩,hc3,hv3,hl3,hX3⟩;have HR3:=Vs hr3;have HV3:=Vs hv3;have HL3:=Vs hl3;have HC3:=Vs hc3;clear hr3 hv3 hl3 hc3))
  |(go_at_call 338;go_must(refine(LK _ _ _ l3 l4 _ _ (((HR3.o.sl HR3.o.lt).grow hX4).grow (fh W4 _ _)) ((HR4.o.sl HR4.o.lt).grow (fh W4 _ _)) HC3.o HC4.o (by have:=HL3.o;have:=HLA.o;omega) (by have:=HL4.o;have:=HLB.o;omega)).mono ?_);rintro e W5 ⟨m,v,l,rfl,hs5,hc5,hz5,hX5⟩;obtain⟨A5,c5,rfl,q1,q2,_⟩:=id hs5;unfold VP at q2;have HKY:=Vs (Om hc5 hz5 HV3.o HV4.o HNA.o HNB.o);have HX5:=Vs ((Ext.tr (Ext.tr (Ext.tr hX1 hX2) hX3) hX4).tr ((fh W4 _ _).tr hX5));clear hs5 hc5 hz5))
 all_goals
  go_ret2;refine⟨?_,HX5.o.alloc HX5.o.size _⟩;rw[HKY.o];simp[*]
def Mh(x y:Int):Lib.compareInt x y=lr x y:=by
 unfold Lib.compareInt lr;rcases Int.lt_trichotomy x y with h|h|h
 ·first|simp[h]|(rw[if_pos h,if_pos h])
 ·subst h;simp
 ·have:¬x<y:=V7;simp[h,this]
def vH(x y:Int)(w:Vt):VJ prog 214 #[VZ VH x,VZ VH y] w λe w'=>e=V0 (VZ VH (lr x y))/\w'=w:=by
 rw[<-Mh];exact cmp_Compare_int x y w
def wv(a b:List UInt8)(w:Vt)(ha:ln a<=100000)(hb:ln b<=100000)(h:du a b=0):
  VJ prog 305 #[VW (tx a),VW (tx b)] w λe w'=>e=V0 (V6 #[VZ VH (lr (num a) (num b)),VZ VH 0])/\Ext w w':=by
 by_cases h18:18<ln a\/18<ln b
 ·exact tV a b w ha hb h18 h
 obtain⟨ca,cb⟩:=kK h;obtain⟨fa,la⟩:=fy ca;obtain⟨fb,lb⟩:=fy cb;have K1:=Vs (il a b w V7 V7);rw[h] at K1;have K2:=Vs (λW=>nE a b W V7 V7 fa fb);have K3:=Vs (λW=>vH (num a) (num b) W);obtain⟨z,hz⟩:∃z,lr (num a) (num b)=z:=⟨_,rfl⟩;rw[hz];simp only[hz] at K3;clear h ca cb fa fb ha hb h18 la lb hz;go_enter func305,ntmps305;go_wp2_with(first
  |(go_at_call 294;refine K1.o.mono ?_;rintro e W1 ⟨rfl,hX1⟩)
  |(go_at_call 295;refine(K2.o _).mono ?_;rintro e W2 ⟨rfl,hX2⟩)
  |(go_at_call 214;go_must(refine(K3.o _).mono ?_);rintro e W3 ⟨rfl,rfl⟩))
 go_ret2;exact⟨rfl,Ext.tr hX1 hX2⟩
end
section
open Kp
noncomputable def wu(a b:List UInt8):List UInt8×Int:=
 if ln a+ln b<=18 then(Lib.itoa (num a*num b),0) else qe (Lib.hasPrefix a [45] !=Lib.hasPrefix b [45]) (cI (aw (own a)*aw (own b)))
def wS{a:List UInt8}(fa:aT a=VD): -((10:Int)^ln a)<=num a/\num a<=(10:Int)^ln a:=by
 have h1:=kB (cV fa);have h2:10^(own a).length<=10^ln a:=Nat.pow_le_pow_right V9 (qI a);have h3:((10^ln a:Nat):Int)=(10:Int)^ln a:=Wa;rw[<-h3];unfold num;split <;>omega
def jg{a b:List UInt8}(fa:aT a=VD)(fb:aT b=VD)(h:ln a+ln b<=18): -1000000000000000000<=num a*num b/\num a*num b<=1000000000000000000:=by
 have h1:=zE (wS fa) (wS fb);have h2:(10:Int)^ln a*(10:Int)^ln b<=1000000000000000000:=by
  rw[<-Int.pow_add];have:((10^(ln a+ln b):Nat):Int)<=((10^18:Nat):Int):=Int.ofNat_le.2 (Nat.pow_le_pow_right V9 h);have e:((10^(ln a+ln b):Nat):Int)=(10:Int)^(ln a+ln b):=Wa;rw[<-e];exact this
 omega
def IN(Z:Nat)(sa sb:Bool)(v1 v2:Vy)(L:List Nat)(r:List UInt8×Int):Nat->Vy->Vt->Prop
 |0,v,_=>v=VY (Vz ⟨Z,0,Vx⟩)
 |1,v,_=>v=VX sa
 |2,v,_=>v=VY (Vz ⟨Z+1,0,Vx⟩)
 |3,v,_=>v=VX sb
 |4,v,_=>v=VX (sa !=sb)
 |5,v,_=>v=VY (Vz ⟨Z,1,Vx⟩)
 |6,v,_=>v=v1
 |7,v,_=>v=VY (Vz ⟨Z+1,1,Vx⟩)
 |8,v,_=>v=v2
 |9,v,w=>bB w w.heap.size v L/\Small L/\ln L<=1000
 |10,v,w=>∃u,v=V5 #[VX (sa !=sb),u]/\bB w w.heap.size u L/\Small L/\ln L<=1000
 |11,v,_=>v=V6 #[VW (tx r.1),VZ VH r.2]
 |12,v,_=>v=VW (tx r.1)
 |_,v,_=>v=VZ VH r.2
theorem N6{sa sb:Bool}{v:Vy}(h:IN Z sa sb v1 v2 L r i v w)(hx:Ext w w'):IN Z sa sb v1 v2 L r i v w':=by
 match i,h with
 |0,h|1,h|2,h|3,h|4,h|5,h|6,h|7,h|8,h|11,h|12,h=>exact h
 |9,h=>exact⟨bB.grow h.1 hx,h.2⟩
 |10,h=>obtain⟨u,e,hu,h2⟩:=h;exact⟨u,e,hu.grow hx,h2⟩
 |_+13,h=>exact h
def Ji(a b:List UInt8)(w:Vt)(ha:ln a<=100000)(hb:ln b<=100000)(h18:18<ln a+ln b)(h:du a b=0)(ht:aW w):
  VJ prog 337 #[VW (tx a),VW (tx b)] w (iY w (wu a b)):=by
 obtain⟨ca,cb⟩:=kK h;obtain⟨fa,la⟩:=fy ca;obtain⟨fb,lb⟩:=fy cb;have da:=cV fa;have db:=cV fb;have K1:=Vs (il a b w V7 V7);rw[h] at K1;have K3:=Vs (λW=>lZ W a da V7);have K4:=Vs (λW=>lZ W b db V7);have HLA:=Vs la;have HLB:=Vs lb;have HT:=Vs ht;have HM:=Vs (show wu a b=qe (Lib.hasPrefix a [45] !=Lib.hasPrefix b [45]) (cI (aw (own a)*aw (own b))) by unfold wu;rw[if_neg V7]);have t18:decide ((ln a:Int)+(ln b:Int)<=18)=Vw:=Wd;obtain⟨sa,hsa⟩:∃s,Lib.hasPrefix a [45]=s:=⟨_,rfl⟩;obtain⟨sb,hsb⟩:∃s,Lib.hasPrefix b [45]=s:=⟨_,rfl⟩;rw[hsa,hsb] at HM;unfold Kg at K3 K4;simp only[hsa] at K3;simp only[hsb] at K4;clear h ca cb fa fb da db h18 la lb ht hsa hsb;go_enter func337,ntmps337;go_wp2_with(first
  |(go_at_call 294;refine K1.o.mono ?_;rintro e W1 ⟨rfl,hX1⟩)
  |(go_at_call 296;((with_reducible refine(K4.o _).mono ?_);rintro e W4 ⟨v4,l4,rfl,⟨g4,cap4,rfl,hg4,hr4⟩,hc4,hv4,hl4,hX4⟩;have HR4:=Vs hr4;have HV4:=Vs hv4;have HL4:=Vs hl4;have HC4:=Vs hc4;clear hr4 hv4 hl4 hc4))
  |(go_at_call 296;((with_reducible refine(K3.o _).mono ?_);rintro e W3 ⟨v3,l3,rfl,⟨g3,cap3,rfl,hg3,hr3⟩,hc3,hv3,hl3,hX3⟩;have HR3:=Vs hr3;have HV3:=Vs hv3;have HL3:=Vs hl3;have HC3:=Vs hc3;clear hr3 hv3 hl3 hc3)))
 have EW:=Vs (Ext.tr (Ext.tr (Ext.tr hX1 hX3) hX4) (fh W4 (.cells #[VX sa,VV (Vz ⟨g3,0,Vx⟩) (ln l3) cap3] 326) (.cells #[VX sb,VV (Vz ⟨g4,0,Vx⟩) (ln l4) cap4] 326)));have R1:=(ai.new W4 326 [VX sa,VV (Vz ⟨g3,0,Vx⟩) (ln l3) cap3]).ext ((Below.refl _ _).alloc (Vu _) (.cells #[VX sb,VV (Vz ⟨g4,0,Vx⟩) (ln l4) cap4] 326));have R2:=ai.new (W4.alloc (.cells #[VX sa,VV (Vz ⟨g3,0,Vx⟩) (ln l3) cap3] 326)) 326 [VX sb,VV (Vz ⟨g4,0,Vx⟩) (ln l4) cap4];rw[VK] at R2;have S3:=((HR3.o.sl HR3.o.lt).grow hX4).grow (fh W4 (.cells #[VX sa,VV (Vz ⟨g3,0,Vx⟩) (ln l3) cap3] 326) (.cells #[VX sb,VV (Vz ⟨g4,0,Vx⟩) (ln l4) cap4] 326));have S4:=(HR4.o.sl HR4.o.lt).grow (fh W4 (.cells #[VX sa,VV (Vz ⟨g3,0,Vx⟩) (ln l3) cap3] 326) (.cells #[VX sb,VV (Vz ⟨g4,0,Vx⟩) (ln l4) cap4] 326));obtain⟨W0,hW0⟩:∃W0,(W4.alloc (.cells #[VX sa,VV (Vz ⟨g3,0,Vx⟩) (ln l3) cap3] 326)).alloc (.cells #[VX sb,VV (Vz ⟨g4,0,Vx⟩) (ln l4) cap4] 326)=W0:=⟨_,rfl⟩;simp only[hW0] at EW R1 R2 S3 S4⊢;clear hW0;have l3b:ln l3<=300:=by have:=HL3.o;have:=HLA.o;omega
 have l4b:ln l4<=300:=by have:=HL4.o;have:=HLB.o;omega
 have KT:=Vs (λ(W:Vt) (h:Ext W0 W)=>qV W l3 l4 _ _ (S3.grow h) (S4.grow h) HC3.o.small HC4.o.small V7 V7);have KRS:=Vs (λ(W:Vt) (u:Vy) (h:Ext W0 W) (hs:bB W W.heap.size u (cI (aw (own a)*aw (own b)))) (h1:Small (cI (aw (own a)*aw (own b)))) (h2:(cI (aw (own a)*aw (own b))).length<=1000)=>rY W (sa !=sb) _ u hs h1 V7 (HT.o.below (EW.o.tr h) (Vu _)));refine wp_region_any V8 (bO 14 (λvs=>⟨#[VW (tx a),VW (tx b),VB,VB,VW ⟨#[]⟩,VZ VH 0,VZ VH 0,VB,VB,VB,VY (Vz ⟨W4.heap.size,0,Vx⟩),VY (Vz ⟨W4.heap.size+1,0,Vx⟩),VW (tx a),VW (tx b),VZ VH 0,VZ VH 0,VX Vw,VB,VW (tx a),VZ VH (ln a:Int),VW (tx b),VZ VH (ln b:Int),VZ VH ((ln a:Int)+(ln b:Int)),VX Vw,VB,VB,VB,VB,VB,VB,VB,VB,VB,VB,VB,VB,VW (tx a),V5 #[VX sa,VV (Vz ⟨g3,0,Vx⟩) (ln l3) cap3],VW (tx b),V5 #[VX sb,VV (Vz ⟨g4,0,Vx⟩) (ln l4) cap4],vs 0,vs 1,vs 2,vs 3,vs 4,vs 5,vs 6,vs 7,vs 8,vs 9,vs 10,vs 11,vs 12,vs 13],[]⟩)
  (λw'=>Ext W0 w') (IN W4.heap.size sa sb (VV (Vz ⟨g3,0,Vx⟩) (ln l3) cap3) (VV (Vz ⟨g4,0,Vx⟩) (ln l4) cap4) (cI (aw (own a)*aw (own b))) (qe (sa !=sb) (cI (aw (own a)*aw (own b))))) (λ_=>Vw) V8 (λ_ _ h k=>h.tr k) (λi v _ _ h k=>N6 h k) (λ_ _ _ _ h=>Wb) ?step ?tail (λ_=>VB) _ (Ext.dr W0))
 case step=>
  intro i vs w' hi hD hd;have cA:=λi=>(R1.ext hD).cell i
  have cB:=λi=>(R2.ext hD).cell i
  rcases(show i=0\/i=1\/i=2\/i=3\/i=4\/i=5\/i=6\/i=7\/i=8\/i=9\/i=10\/i=11\/i=12\/i=13 by omega) with rfl|rfl|rfl|rfl|rfl|rfl|rfl|rfl|rfl|rfl|rfl|rfl|rfl|rfl<;>clear hi
  ·exact YZ
  ·refine VE rfl (λK hK=> ?_);have d0:=hd 0 V8;simp only[IN] at d0;go_simp;exact hK _ _ ⟨VX sa,by simp[d0],Ext.aC _,rfl,λh=>Wb⟩
  ·exact YZ
  ·refine VE rfl (λK hK=> ?_);have d2:=hd 2 V8;simp only[IN] at d2;go_simp;exact hK _ _ ⟨VX sb,by simp[d2],Ext.aC _,rfl,λh=>Wb⟩
  ·refine VE rfl (λK hK=> ?_);have d1:=hd 1 V8;have d3:=hd 3 V8;simp only[IN] at d1 d3;go_simp;exact hK _ _ ⟨VX (sa !=sb),by(simp[d1,d3];try(cases sa<;>cases sb<;>rfl)),Ext.aC _,rfl,λh=>Wb⟩
  ·exact YZ
  ·refine VE rfl (λK hK=> ?_);have d5:=hd 5 V8;simp only[IN] at d5;go_simp;exact hK _ _ ⟨(VV (Vz ⟨g3,0,Vx⟩) (ln l3) cap3),by simp[d5],Ext.aC _,rfl,λh=>Wb⟩
  ·exact YZ
  ·refine VE rfl (λK hK=> ?_);have d7:=hd 7 V8;simp only[IN] at d7;go_simp;exact hK _ _ ⟨(VV (Vz ⟨g4,0,Vx⟩) (ln l4) cap4),by simp[d7],Ext.aC _,rfl,λh=>Wb⟩
  ·refine VE rfl (λK hK=> ?_);have d6:=hd 6 V8;have d8:=hd 8 V8;simp only[IN] at d6 d8;clear cA cB;go_simp;refine(KT.o _ hD).mono ?_;rintro e W5 ⟨v,l,rfl,ho,hc,hv,hll,hX⟩;have hL:cI (aw (own a)*aw (own b))=l:=mQ hc (by rw[hv,HV3.o,HV4.o]);have hs:bB W5 W5.heap.size v (cI (aw (own a)*aw (own b))):=by rw[hL];exact ho.sl
   exact hK _ _ ⟨v,by simp[d6,d8],hX,⟨hs,by rw[hL];exact hc.small,by rw[hL];omega⟩,λh=>Wb⟩
  ·refine VE rfl (λK hK=> ?_);have d4:=hd 4 V8;obtain⟨d9,ds9,dl9⟩:=hd 9 V8;obtain⟨A9,c9,e9,_,_,_⟩:=id d9;simp only[IN] at d4;rw[e9] at d9;have D9:=Vs d9;clear cA cB d9;go_simp;exact hK _ _ ⟨V5 #[VX (sa !=sb),VV A9 (cI (aw (own a)*aw (own b))).length c9],by simp[d4,e9],Ext.aC _,⟨_,rfl,D9.o,ds9,dl9⟩,λh=>Wb⟩
  ·refine VE rfl (λK hK=> ?_);obtain⟨u,e10,hs10,hs10b,hs10c⟩:=hd 10 V8;have KR:=Vs (KRS.o w' u hD hs10 hs10b hs10c);clear cA cB hs10;go_simp;refine KR.o.mono ?_;rintro e W6 ⟨rfl,hX⟩;exact hK _ _ ⟨_,by simp[e10],hX,rfl,λh=>Wb⟩
  ·refine VE rfl (λK hK=> ?_);have d11:=hd 11 V8;simp only[IN] at d11;go_simp;exact hK _ _ ⟨VW (tx (qe (sa !=sb) (cI (aw (own a)*aw (own b)))).1),by simp[d11],Ext.aC _,rfl,λh=>Wb⟩
  ·refine VE rfl (λK hK=> ?_);have d11:=hd 11 V8;simp only[IN] at d11;go_simp;exact hK _ _ ⟨VZ VH (qe (sa !=sb) (cI (aw (own a)*aw (own b)))).2,by simp[d11],Ext.aC _,rfl,λh=>Wb⟩
 case tail=>
  intro vs w' hD hv _;have v12:=hv 12 V9;have v13:=hv 13 V9;simp only[IN] at v12 v13;clear hv;simp only[List.drop_succ_cons,List.drop_zero];go_wp2;go_ret2;rw[HM.o];refine⟨?_,EW.o.tr hD⟩;simp[v12,v13]
def Kv(a b:List UInt8)(w:Vt)(ha:ln a<=100000)(hb:ln b<=100000)(h:du a b=0)(ht:aW w):
  VJ prog 337 #[VW (tx a),VW (tx b)] w (iY w (wu a b)):=by
 by_cases h18:ln a+ln b<=18
 ·obtain⟨ca,cb⟩:=kK h;obtain⟨fa,la⟩:=fy ca;obtain⟨fb,lb⟩:=fy cb;have K1:=Vs (il a b w V7 V7);rw[h] at K1;have K2:=Vs (λW=>nE a b W V7 V7 fa fb);have HM:=Vs (show wu a b=(Lib.itoa (num a*num b),0) by unfold wu;rw[if_pos h18]);have HT:=Vs ht;have hbd:=jg fa fb h18;obtain⟨x,hx⟩:∃x,num a=x:=⟨_,rfl⟩;obtain⟨y,hy⟩:∃y,num b=y:=⟨_,rfl⟩;rw[hx,hy] at hbd HM;simp only[hx,hy] at K2;obtain⟨hb1,hb2⟩:=hbd;have w1:VH.wrap (x*y)=x*y:=VQ _ V7;have t18:decide ((ln a:Int)+(ln b:Int)<=18)=VD:=Wn;clear h ca cb fa fb ha hb la lb ht hx hy;go_enter func337,ntmps337;go_wp2_with(first
   |(go_at_call 294;refine K1.o.mono ?_;rintro e W1 ⟨rfl,hX1⟩)
   |(go_at_call 295;refine(K2.o _).mono ?_;rintro e W2 ⟨rfl,hX2⟩)
   |(go_at_call 182;go_must(refine(jq (x*y) _ V7 V7 (HT.o.below (Ext.tr hX1 hX2) (Vu _))).mono ?_);rintro e W3 ⟨rfl,hX3⟩))
  go_ret2;rw[HM.o];exact⟨rfl,Ext.tr (Ext.tr hX1 hX2) hX3⟩
 ·exact Ji a b w ha hb V7 h ht
end
section
open Kp
noncomputable def jE(a b:List UInt8):List UInt8×Int:=if du a b=0 then wu a b else([],du a b)
noncomputable def mZ(a b:List UInt8):Int×Int:=if du a b=0 then(lr (num a) (num b),0) else(0,du a b)
def Dj(s:List UInt8):ln s<=(own s).length+1:=by
 rcases xH s with⟨r,rfl,h⟩|⟨h,_⟩
 ·rw[h];simp
 ·rw[h];omega
def AS(a b:List UInt8):(jE a b).1.length<=1000:=by
 unfold jE;split
 ·rename_i h;obtain⟨ca,cb⟩:=kK h;unfold wu;split
  ·rename_i h18;have hb:=jg (fy ca).1 (fy cb).1 h18;have:=pI (n:=num a*num b) (by unfold bj;omega);show(Lib.itoa _).length<=_;omega
  ·unfold qe;split
   ·simp
   ·rename_i h300;have:=Dj (AD (Lib.hasPrefix a [45] !=Lib.hasPrefix b [45]) (cI (aw (own a)*aw (own b))));show(AD _ _).length<=_;omega
 ·simp
def xI(a b:List UInt8)(w:Vt)(ha:ln a<=100000)(hb:ln b<=100000)(ht:aW w):
  VJ prog 337 #[VW (tx a),VW (tx b)] w (iY w (jE a b)):=by
 by_cases h:du a b=0
 ·rw[show jE a b=wu a b by unfold jE;rw[if_pos h]];exact Kv a b w ha hb h ht
 ·have HR:=Vs (show jE a b=([],du a b) by unfold jE;rw[if_neg h]);have h':(du a b !=0)=VD:=WB;have K1:=Vs (il a b w V7 V7);clear h ht;go_enter func337,ntmps337;exact Zd
def Il(a b:List UInt8)(w:Vt)(ha:ln a<=100000)(hb:ln b<=100000):
  VJ prog 305 #[VW (tx a),VW (tx b)] w λe w'=>e=V0 (V6 #[VZ VH (mZ a b).1,VZ VH (mZ a b).2])/\Ext w w':=by
 by_cases h:du a b=0
 ·rw[show mZ a b=(lr (num a) (num b),0) by unfold mZ;rw[if_pos h]];exact wv a b w ha hb h
 ·have HR:=Vs (show mZ a b=(0,du a b) by unfold mZ;rw[if_neg h]);have h':(du a b !=0)=VD:=WB;have K1:=Vs (il a b w V7 V7);clear h;go_enter func305,ntmps305;exact Zd
structure Vr where
 u:List UInt8
 v:List UInt8
 e:Int
noncomputable def tu(n1 d1 n2 d2:List UInt8):Vr:=
 if(jE n1 d2).2≠0 then⟨[],[],(jE n1 d2).2⟩ else⟨(jE n1 d2).1,(jE n2 d1).1,(jE n2 d1).2⟩
def O7(n1 d1 n2 d2:List UInt8):(tu n1 d1 n2 d2).u.length<=1000/\(tu n1 d1 n2 d2).v.length<=1000:=by
 unfold tu;split
 ·simp
 ·exact⟨AS _ _,AS _ _⟩
def yH(n1 d1 n2 d2:List UInt8)(w:Vt)(h1:ln n1<=100000)(h2:ln d1<=100000)(h3:ln n2<=100000)(h4:ln d2<=100000)(ht:aW w):
  VJ prog 304 #[V5 #[VW (tx n1),VW (tx d1)],V5 #[VW (tx n2),VW (tx d2)]] w λe w'=>
   e=V0 (V6 #[VW (tx (tu n1 d1 n2 d2).u),VW (tx (tu n1 d1 n2 d2).v),VZ VH (tu n1 d1 n2 d2).e])/\Ext w w':=by
 have E0:=Vs (fh w (.cells #[VW (tx n1),VW (tx d1)] 264) (.cells #[VW (tx n2),VW (tx d2)] 264));have R1:=Vs ((ai.new w 264 [VW (tx n1),VW (tx d1)]).ext ((Below.refl _ _).alloc (Vu _) (.cells #[VW (tx n2),VW (tx d2)] 264)));have r2:=ai.new (w.alloc (.cells #[VW (tx n1),VW (tx d1)] 264)) 264 [VW (tx n2),VW (tx d2)];rw[VK] at r2;have R2:=Vs r2;clear r2;have HT:=Vs ht;have K1:=Vs (λ(W:Vt) (h:Ext w W)=>xI n1 d2 W h1 h4 (HT.o.below h (Vu _)));have K2:=Vs (λ(W:Vt) (h:Ext w W)=>xI n2 d1 W h3 h2 (HT.o.below h (Vu _)));have HC:=Vs (show tu n1 d1 n2 d2=if(jE n1 d2).2≠0 then⟨[],[],(jE n1 d2).2⟩ else⟨(jE n1 d2).1,(jE n2 d1).1,(jE n2 d1).2⟩ from rfl);clear ht;obtain⟨⟨u,c⟩,hu⟩:∃r,jE n1 d2=r:=⟨_,rfl⟩;obtain⟨⟨v,d⟩,hv⟩:∃r,jE n2 d1=r:=⟨_,rfl⟩;rw[hu,hv] at HC;unfold iY at K1 K2;simp only[hu] at K1;simp only[hv] at K2;dsimp only at HC;clear hu hv;by_cases hc:c=0
 ·have HV:=Vs (show tu n1 d1 n2 d2=⟨u,v,d⟩ by rw[HC.o,if_neg (λh=>h hc)]);subst hc;go_enter func304,ntmps304;go_wp2_with(first
   |(go_at_call 337;((with_reducible refine(K1.o _ E0.o).mono ?_);rintro e W1 ⟨rfl,hX1⟩;have q1:=λi=>(R1.o.ext hX1).cell i;have q2:=λi=>(R2.o.ext hX1).cell i;have HX1:=Vs (Ext.tr E0.o hX1)))
   |(go_at_call 337;((with_reducible refine(K2.o _ HX1.o).mono ?_);rintro e W2 ⟨rfl,hX2⟩)))
  rw[HV.o];refine bodyPost_ret (v:= V6 #[VW (tx u),VW (tx v),VZ VH d]) ?_ rfl ⟨rfl,Ext.tr HX1.o hX2⟩;simp[results,results304,go_sem]
 ·have HV:=Vs (show tu n1 d1 n2 d2=⟨[],[],c⟩ by rw[HC.o,if_pos hc]);have t:(c !=0)=VD:=by rw[bne_iff_ne];exact hc
  clear hc;go_enter func304,ntmps304;go_wp2_with(go_at_call 337;((with_reducible refine(K1.o _ E0.o).mono ?_);rintro e W1 ⟨rfl,hX1⟩;have HX1:=Vs (Ext.tr E0.o hX1)))
  rw[HV.o];refine bodyPost_ret (v:= V6 #[VW (tx []),VW (tx []),VZ VH c]) ?_ rfl ⟨rfl,HX1.o⟩;simp[results,results304,go_sem,tx]
end
section
open Kp
def vj{a:List UInt8}{x y:Int}(h:cZ a=(x,y)): -1000000000<=x/\x<=1000000000/\ -1000000000<=y/\y<=1000000000:=by
 unfold cZ at h;split at h
 ·unfold uu at h;cases hn:dk (own a) with
  |none=>rw[hn] at h;injection h with h1 h2;omega
  |some p=>
   obtain⟨n,r⟩:=p;rw[hn] at h;dsimp only at h;have hb:=cj hn;injection h with h1 h2
   have hx: -1000000000<=x/\x<=1000000000:=by
    rw[<-h1];split <;>omega
   have hy: -1000000000<=y/\y<=1000000000:=by
    rw[<-h2];cases r with
    |nil=>simp
    |cons c r'=>
     dsimp only;cases hm:dk r' with
     |none=>simp
     |some q=>
      obtain⟨d,q'⟩:=q;have:=cj hm;dsimp only;omega
   exact⟨hx.1,hx.2,hy.1,hy.2⟩
 ·injection h with h1 h2;omega
def bD(a:List UInt8):List UInt8×List UInt8:=(dP a).getD ([],[])
noncomputable def gT(a b:List UInt8):Int×Int:=
 if bH a&&bH b then(lr ((cZ a).1*(cZ b).2) ((cZ b).1*(cZ a).2),0)
 else if(tu (bD a).1 (bD a).2 (bD b).1 (bD b).2).e≠0 then(0,(tu (bD a).1 (bD a).2 (bD b).1 (bD b).2).e)
 else mZ (tu (bD a).1 (bD a).2 (bD b).1 (bD b).2).u (tu (bD a).1 (bD a).2 (bD b).1 (bD b).2).v
def Na(w:Vt)(r:Int×Int)(e:Ending)(w':Vt):Prop:=e=V0 (V6 #[VZ VH r.1,VZ VH r.2])/\Ext w w'
def zM(a b:List UInt8)(w:Vt)(ha:ln a<=99999)(hb:ln b<=99999)(ca:bU a=0)(cb:bU b=0)(hm:fG w)(ht:aW w):
  VJ prog 272 #[VW (tx a),VW (tx b)] w (Na w (gT a b)):=by
 have HM:=Vs hm;have HT:=Vs ht;have KA:=Vs (λW=>lE a W V7);have KB:=Vs (λW=>lE b W V7);have KRA:=Vs (λ(W:Vt) (h:Ext w W)=>oz a W V7 (HM.o.below h (Vu _)) (HT.o.below h (Vu _)));have KRB:=Vs (λ(W:Vt) (h:Ext w W)=>oz b W V7 (HM.o.below h (Vu _)) (HT.o.below h (Vu _)));unfold cM at KA KB;unfold yA at KRA KRB;simp only[ca] at KRA;simp only[cb] at KRB;have HQ:=Vs (show gT a b=if bH a&&bH b then(lr ((cZ a).1*(cZ b).2) ((cZ b).1*(cZ a).2),0)
  else if(tu (bD a).1 (bD a).2 (bD b).1 (bD b).2).e≠0 then(0,(tu (bD a).1 (bD a).2 (bD b).1 (bD b).2).e)
  else mZ (tu (bD a).1 (bD a).2 (bD b).1 (bD b).2).u (tu (bD a).1 (bD a).2 (bD b).1 (bD b).2).v from rfl)
 obtain⟨oa,hoa⟩:∃o,bH a=o:=⟨_,rfl⟩;obtain⟨ob,hob⟩:∃o,bH b=o:=⟨_,rfl⟩;rw[hoa,hob] at HQ;simp only[hoa] at KA;simp only[hob] at KB;have KZ:=Vs (λ(x y:Int) (W:Vt)=>vH x y W);clear hm ht hoa hob;by_cases hab:(oa&&ob)=VD
 ·obtain⟨rfl,rfl⟩:oa=VD/\ob=VD:=by simpa using hab
  have HV:=Vs (show gT a b=(lr ((cZ a).1*(cZ b).2) ((cZ b).1*(cZ a).2),0) by rw[HQ.o];rfl);clear hab ca cb;go_enter func272,ntmps272;go_wp2_with(first
   |(go_at_call 259;((with_reducible refine(KA.o _).mono ?_);rintro e W1 ⟨x1,y1,rfl,hz1,hX1⟩;obtain⟨b1,b2,b3,b4⟩:=vj hz1;have HZ1:=Vs hz1;clear hz1;have R1:=Vs (ai.new W1 289 [VZ VH x1,VZ VH y1]);have HX1:=Vs hX1;clear hX1))
   |(go_at_call 259;((with_reducible refine(KB.o _).mono ?_);rintro e W2 ⟨x2,y2,rfl,hz2,hX2⟩;obtain⟨b5,b6,b7,b8⟩:=vj hz2;have HZ2:=Vs hz2;clear hz2;have q0:=(R1.o.ext hX2).cell 0;have q1:=(R1.o.ext hX2).cell 1;have qz:=(R1.o.ext hX2).lt;have HX2:=Vs (Ext.tr (HX1.o.alloc (Below.size HX1.o) _) hX2);clear hX2;have lA:=zE (a:=x1) (b:=y2) (m:=1000000000) (n:=1000000000) V7 V7;have qw:=zE (a:=x2) (b:=y1) (m:=1000000000) (n:=1000000000) V7 V7;obtain⟨p1,p2⟩:=lA;obtain⟨p3,p4⟩:=qw))
   |(go_at_call 214;go_must(refine(KZ.o _ _ _).mono ?_);rintro e W3 ⟨rfl,rfl⟩))
  go_ret2;refine⟨?_,HX2.o.alloc (Below.size HX2.o) _⟩;rw[HV.o,HZ1.o,HZ2.o]
  rfl
 ·obtain⟨n1,d1,hc1⟩:∃n d,dP a=Vz (n,d):=by
   cases h:dP a with
   |none=>unfold bU at ca;rw[h] at ca;cases ca
   |some p=>exact⟨p.1,p.2,rfl⟩
  obtain⟨n2,d2,hc2⟩:∃n d,dP b=Vz (n,d):=by
   cases h:dP b with
   |none=>unfold bU at cb;rw[h] at cb;cases cb
   |some p=>exact⟨p.1,p.2,rfl⟩
  have hl1:=qG hc1;have hl2:=qG hc2;have KC:=Vs (λ(W:Vt) (h:Ext w W)=>yH n1 d1 n2 d2 W V7 V7 V7 V7 (HT.o.below h (Vu _)));have hcl:=O7 n1 d1 n2 d2;have HV:=Vs (show gT a b=if(tu n1 d1 n2 d2).e≠0 then(0,(tu n1 d1 n2 d2).e) else mZ (tu n1 d1 n2 d2).u (tu n1 d1 n2 d2).v by
   have e1:bD a=(n1,d1):=by unfold bD;rw[hc1];rfl
   have e2:bD b=(n2,d2):=by unfold bD;rw[hc2];rfl
   rw[HQ.o,if_neg hab,e1,e2])
  obtain⟨⟨u,v,c⟩,hu⟩:∃r,tu n1 d1 n2 d2=r:=⟨_,rfl⟩;rw[hu] at HV hcl;simp only[hu] at KC;dsimp only at HV hcl;have KI:=Vs (λW=>Il u v W V7 V7);have HCA:=Vs hc1;have HCB:=Vs hc2;have HAB:=Vs hab;clear hu hcl hc1 hc2 hl1 hl2 ca cb hab;by_cases hc:c=0
  ·have HW:=Vs (show gT a b=mZ u v by rw[HV.o,if_neg (λh=>h hc)]);subst hc;obtain⟨⟨z,f⟩,hz⟩:∃r,mZ u v=r:=⟨_,rfl⟩;rw[hz] at HW;simp only[hz] at KI;clear hz;cases oa
   ·go_enter func272,ntmps272;go_wp2_with(first
     |(go_at_call 259;((with_reducible refine(KA.o _).mono ?_);rintro e W1 ⟨x1,y1,rfl,_,hX1⟩;have HX1:=Vs (Ext.tr (Ext.aC w) hX1);clear hX1))
     |(go_at_call 231;((with_reducible refine(KRA.o _ (HX1.o.alloc (Below.size HX1.o) _)).mono ?_);rintro e W3 ⟨x3,y3,rfl,hp3,hX3⟩;obtain⟨n',d',e1,rfl,rfl⟩:=hp3 trivial;rw[HCA.o] at e1;obtain⟨rfl,rfl⟩:n1=n'/\d1=d':=by{injection e1 with e1;injection e1 with e2 e3;exact⟨e2,e3⟩};have R3:=Vs (ai.new W3 264 [VW (tx n1),VW (tx d1)]);have HX3:=Vs (Ext.tr (HX1.o.alloc (Below.size HX1.o) _) hX3);clear hX3 hp3))
     |(go_at_call 231;((with_reducible refine(KRB.o _ (HX3.o.alloc (Below.size HX3.o) _)).mono ?_);rintro e W4 ⟨x4,y4,rfl,hp4,hX4⟩;obtain⟨n',d',e1,rfl,rfl⟩:=hp4 trivial;rw[HCB.o] at e1;obtain⟨rfl,rfl⟩:n2=n'/\d2=d':=by{injection e1 with e1;injection e1 with e2 e3;exact⟨e2,e3⟩};have s0:=(R3.o.ext hX4).cell 0;have s1:=(R3.o.ext hX4).cell 1;have sz:=(R3.o.ext hX4).lt;have HX4:=Vs (Ext.tr (HX3.o.alloc (Below.size HX3.o) _) hX4);clear hX4 hp4))
     |(go_at_call 304;((with_reducible refine(KC.o _ (HX4.o.alloc (Below.size HX4.o) _)).mono ?_);rintro e W5 ⟨rfl,hX5⟩;have HX5:=Vs (Ext.tr (HX4.o.alloc (Below.size HX4.o) _) hX5);clear hX5))
     |(go_at_call 305;go_must(refine(KI.o _).mono ?_);rintro e W6 ⟨rfl,hX6⟩))
    go_ret2;rw[HW.o];exact⟨rfl,Ext.tr HX5.o hX6⟩
   ·cases ob
    ·go_enter func272,ntmps272;go_wp2_with(first
      |(go_at_call 259;((with_reducible refine(KA.o _).mono ?_);rintro e W1 ⟨x1,y1,rfl,_,hX1⟩;have HX1:=Vs (Ext.tr (Ext.aC w) hX1);clear hX1))
      |(go_at_call 259;((with_reducible refine(KB.o _).mono ?_);rintro e W2 ⟨x2,y2,rfl,_,hX2⟩;have HX2:=Vs (Ext.tr (HX1.o.alloc (Below.size HX1.o) _) hX2);clear hX2))
      |(go_at_call 231;((with_reducible refine(KRA.o _ (HX2.o.alloc (Below.size HX2.o) _)).mono ?_);rintro e W3 ⟨x3,y3,rfl,hp3,hX3⟩;obtain⟨n',d',e1,rfl,rfl⟩:=hp3 trivial;rw[HCA.o] at e1;obtain⟨rfl,rfl⟩:n1=n'/\d1=d':=by{injection e1 with e1;injection e1 with e2 e3;exact⟨e2,e3⟩};have R3:=Vs (ai.new W3 264 [VW (tx n1),VW (tx d1)]);have HX3:=Vs (Ext.tr (HX2.o.alloc (Below.size HX2.o) _) hX3);clear hX3 hp3))
      |(go_at_call 231;((with_reducible refine(KRB.o _ (HX3.o.alloc (Below.size HX3.o) _)).mono ?_);rintro e W4 ⟨x4,y4,rfl,hp4,hX4⟩;obtain⟨n',d',e1,rfl,rfl⟩:=hp4 trivial;rw[HCB.o] at e1;obtain⟨rfl,rfl⟩:n2=n'/\d2=d':=by{injection e1 with e1;injection e1 with e2 e3;exact⟨e2,e3⟩};have s0:=(R3.o.ext hX4).cell 0;have s1:=(R3.o.ext hX4).cell 1;have sz:=(R3.o.ext hX4).lt;have HX4:=Vs (Ext.tr (HX3.o.alloc (Below.size HX3.o) _) hX4);clear hX4 hp4))
      |(go_at_call 304;((with_reducible refine(KC.o _ (HX4.o.alloc (Below.size HX4.o) _)).mono ?_);rintro e W5 ⟨rfl,hX5⟩;have HX5:=Vs (Ext.tr (HX4.o.alloc (Below.size HX4.o) _) hX5);clear hX5))
      |(go_at_call 305;go_must(refine(KI.o _).mono ?_);rintro e W6 ⟨rfl,hX6⟩))
     go_ret2;rw[HW.o];exact⟨rfl,Ext.tr HX5.o hX6⟩
    ·exact absurd rfl HAB.o
  ·have HW:=Vs (show gT a b=(0,c) by rw[HV.o,if_pos hc]);have t:(c !=0)=VD:=by rw[bne_iff_ne];exact hc
   clear hc;cases oa
   ·go_enter func272,ntmps272;go_wp2_with(first
     |(go_at_call 259;((with_reducible refine(KA.o _).mono ?_);rintro e W1 ⟨x1,y1,rfl,_,hX1⟩;have HX1:=Vs (Ext.tr (Ext.aC w) hX1);clear hX1))
     |(go_at_call 231;((with_reducible refine(KRA.o _ (HX1.o.alloc (Below.size HX1.o) _)).mono ?_);rintro e W3 ⟨x3,y3,rfl,hp3,hX3⟩;obtain⟨n',d',e1,rfl,rfl⟩:=hp3 trivial;rw[HCA.o] at e1;obtain⟨rfl,rfl⟩:n1=n'/\d1=d':=by{injection e1 with e1;injection e1 with e2 e3;exact⟨e2,e3⟩};have R3:=Vs (ai.new W3 264 [VW (tx n1),VW (tx d1)]);have HX3:=Vs (Ext.tr (HX1.o.alloc (Below.size HX1.o) _) hX3);clear hX3 hp3))
     |(go_at_call 231;((with_reducible refine(KRB.o _ (HX3.o.alloc (Below.size HX3.o) _)).mono ?_);rintro e W4 ⟨x4,y4,rfl,hp4,hX4⟩;obtain⟨n',d',e1,rfl,rfl⟩:=hp4 trivial;rw[HCB.o] at e1;obtain⟨rfl,rfl⟩:n2=n'/\d2=d':=by{injection e1 with e1;injection e1 with e2 e3;exact⟨e2,e3⟩};have s0:=(R3.o.ext hX4).cell 0;have s1:=(R3.o.ext hX4).cell 1;have sz:=(R3.o.ext hX4).lt;have HX4:=Vs (Ext.tr (HX3.o.alloc (Below.size HX3.o) _) hX4);clear hX4 hp4))
     |(go_at_call 304;((with_reducible refine(KC.o _ (HX4.o.alloc (Below.size HX4.o) _)).mono ?_);rintro e W5 ⟨rfl,hX5⟩;have HX5:=Vs (Ext.tr (HX4.o.alloc (Below.size HX4.o) _) hX5);clear hX5)))
    go_ret2;rw[HW.o];exact⟨rfl,HX5.o⟩
   ·cases ob
    ·go_enter func272,ntmps272;go_wp2_with(first
      |(go_at_call 259;((with_reducible refine(KA.o _).mono ?_);rintro e W1 ⟨x1,y1,rfl,_,hX1⟩;have HX1:=Vs (Ext.tr (Ext.aC w) hX1);clear hX1))
      |(go_at_call 259;((with_reducible refine(KB.o _).mono ?_);rintro e W2 ⟨x2,y2,rfl,_,hX2⟩;have HX2:=Vs (Ext.tr (HX1.o.alloc (Below.size HX1.o) _) hX2);clear hX2))
      |(go_at_call 231;((with_reducible refine(KRA.o _ (HX2.o.alloc (Below.size HX2.o) _)).mono ?_);rintro e W3 ⟨x3,y3,rfl,hp3,hX3⟩;obtain⟨n',d',e1,rfl,rfl⟩:=hp3 trivial;rw[HCA.o] at e1;obtain⟨rfl,rfl⟩:n1=n'/\d1=d':=by{injection e1 with e1;injection e1 with e2 e3;exact⟨e2,e3⟩};have R3:=Vs (ai.new W3 264 [VW (tx n1),VW (tx d1)]);have HX3:=Vs (Ext.tr (HX2.o.alloc (Below.size HX2.o) _) hX3);clear hX3 hp3))
      |(go_at_call 231;((with_reducible refine(KRB.o _ (HX3.o.alloc (Below.size HX3.o) _)).mono ?_);rintro e W4 ⟨x4,y4,rfl,hp4,hX4⟩;obtain⟨n',d',e1,rfl,rfl⟩:=hp4 trivial;rw[HCB.o] at e1;obtain⟨rfl,rfl⟩:n2=n'/\d2=d':=by{injection e1 with e1;injection e1 with e2 e3;exact⟨e2,e3⟩};have s0:=(R3.o.ext hX4).cell 0;have s1:=(R3.o.ext hX4).cell 1;have sz:=(R3.o.ext hX4).lt;have HX4:=Vs (Ext.tr (HX3.o.alloc (Below.size HX3.o) _) hX4);clear hX4 hp4))
      |(go_at_call 304;((with_reducible refine(KC.o _ (HX4.o.alloc (Below.size HX4.o) _)).mono ?_);rintro e W5 ⟨rfl,hX5⟩;have HX5:=Vs (Ext.tr (HX4.o.alloc (Below.size HX4.o) _) hX5);clear hX5)))
     go_ret2;rw[HW.o];exact⟨rfl,HX5.o⟩
    ·exact absurd rfl HAB.o
def iX(a b:List UInt8)(w:Vt)(ha:ln a<=99999)(hb:ln b<=99999)(ca:bU a=0)(cb:bU b=0)(hm:fG w)(ht:aW w):
  VJ prog 241 #[VW (tx a),VW (tx b)] w λe w'=>e=V0 (VZ VH (gT a b).1)/\Ext w w':=by
 have K:=Vs (zM a b w ha hb ca cb hm ht);obtain⟨⟨z,f⟩,hz⟩:∃r,gT a b=r:=⟨_,rfl⟩;unfold Na at K;rw[hz] at K⊢;clear hz ca cb hm ht;go_enter func241,ntmps241;go_wp2_with(go_at_call 272;go_must(refine K.o.mono ?_);rintro e W1 ⟨rfl,hX1⟩)
 go_ret;exact⟨rfl,hX1⟩
end
section
open Kp
abbrev DU(l:List (List UInt8)):List (List Vy):=l.map λs=>[VW (tx s)]
theorem ye{l:List (List UInt8)}(hi:i<ln l):(DU l).getD i []=[VW (tx (l.getD i []))]:=by
 exact Y4
noncomputable def jj(l:List (List UInt8)):Int:=
 if aV (λi=>bU (l.getD i [])) (ln l)≠0 then aV (λi=>bU (l.getD i [])) (ln l) else aV (λi=>ml (l.getD i [])) (ln l)
def UI(w:Vt)(n:Nat)(f:Nat->Int)(i:Vy)(wr:Vt):Prop:=∃k:Nat,k<=n/\i=VZ VH (k:Int)/\Ext w wr/\∀j,j<k->f j=0
def Av(w:Vt)(A:Option VT)(cap:Nat)(l:List (List UInt8))(hl:bJ 1 w w.heap.size A cap (DU l))(hs:∀x∈l,ln x<=99999)(hm:fG w)(ht:aW w):
  VJ prog 240 #[VV A (ln l) cap] w λe w'=>e=V0 (VZ VH (jj l))/\Ext w w':=by
 obtain⟨h1,h2,h3⟩:=hl;rw[VC] at h1 h3;unfold VP at h2;have H3:=Vs h3;have HS:=Vs hs;have HM:=Vs hm;have HT:=Vs ht;have HN:=Vs (show jj l=if aV (λi=>bU (l.getD i [])) (ln l)≠0 then aV (λi=>bU (l.getD i [])) (ln l) else aV (λi=>ml (l.getD i [])) (ln l) from rfl);clear h3 hs hm ht;go_enter func240,ntmps240;go_wp2;go_loopw [11] (λi wr=>UI w (ln l) (λi=>bU (l.getD i [])) i wr) (λi _=>((ln l:Int)-VN i).toNat)
 case atStart=>exact⟨0,V7,rfl,Below.refl _ _,λj hj=>V7⟩
 case round=>
  obtain⟨k,hk,rfl,hX,hall⟩:=hrel;have HX:=Vs hX;have HA:=Vs hall;clear hX hall;by_cases hlt:k<ln l
  ·obtain⟨b,off,rfl,hB,hcell0⟩:=H3.o V7;have c0:=(HX.o.cell (p:=⟨b,off+1*k+0,Vx⟩) hB).trans (hcell0 k hlt 0 V9);rw[ye hlt,Nat.one_mul,Nat.add_zero] at c0;have hwl:=HS.o (l.getD k []) (by rw[Vv,VA hlt];exact List.getElem_mem hlt);obtain⟨s,hs⟩:∃s,l.getD k []=s:=⟨_,rfl⟩;rw[hs] at c0 hwl;have KC:=Vs (uD s wr V7 (HM.o.below HX.o (Vu _)) (HT.o.below HX.o (Vu _)));have HF:=Vs (show bU (l.getD k [])=bU s by rw[hs]);obtain⟨c,hc⟩:∃c,bU s=c:=⟨_,rfl⟩;rw[hc] at KC HF;clear hcell0 hwl hs hc;by_cases hc0:c=0
   ·have HZ:=Vs (show∀j,j<k+1->bU (l.getD j [])=0 fromλj hj=>by
     by_cases hjk:j=k
     ·rw[hjk,HF.o];exact hc0
     ·exact HA.o j V7)
    subst hc0;go_wp2_with(go_at_call 183;go_must(refine KC.o.mono ?_);rintro e W1 ⟨rfl,hX1⟩)
    exact⟨⟨k+1,V7,Wa,Ext.tr HX.o hX1,HZ.o⟩,Wc⟩
   ·have HV:=Vs (show jj l=c by
     have h1:aV (λi=>bU (l.getD i [])) (ln l)=c:=by rw[bS hlt HA.o (by show bU (l.getD k [])≠0;rw[HF.o];exact hc0)];exact HF.o
     rw[HN.o,h1,if_pos hc0])
    have tc:(c !=0)=VD:=XF;go_wp2_with(go_at_call 183;go_must(refine KC.o.mono ?_);rintro e W1 ⟨rfl,hX1⟩)
    go_ret;exact⟨Wy,Ext.tr HX.o hX1⟩
  ·have hlt':decide ((k:Int)<(ln l:Int))=Vw:=Wd;have HN2:=Vs (show jj l=aV (λi=>ml (l.getD i [])) (ln l) by
    have h1:aV (λi=>bU (l.getD i [])) (ln l)=0:=be (λj hj=>HA.o j V7);rw[HN.o,h1,if_neg (λh=>h rfl)])
   clear hk;go_wp2;go_loopw [23] (λi wr=>UI w (ln l) (λi=>ml (l.getD i [])) i wr) (λi _=>((ln l:Int)-VN i).toNat)
   case atStart=>exact⟨0,V7,rfl,HX.o,λj hj=>V7⟩
   case round=>
    clear HX;obtain⟨q,hq,rfl,hX,hall⟩:=hrel;have HX:=Vs hX;have HB:=Vs hall;clear hX hall;by_cases hlq:q<ln l
    ·obtain⟨b,off,rfl,hB,hcell0⟩:=H3.o V7;have c0:=(HX.o.cell (p:=⟨b,off+1*q+0,Vx⟩) hB).trans (hcell0 q hlq 0 V9);rw[ye hlq,Nat.one_mul,Nat.add_zero] at c0;have hwl:=HS.o (l.getD q []) (by rw[Vv,VA hlq];exact List.getElem_mem hlq);obtain⟨s,hs⟩:∃s,l.getD q []=s:=⟨_,rfl⟩;rw[hs] at c0 hwl;have KC:=Vs (Ba s wr V7 (HM.o.below HX.o (Vu _)) (HT.o.below HX.o (Vu _)));have HF:=Vs (show ml (l.getD q [])=ml s by rw[hs]);obtain⟨c,hc⟩:∃c,ml s=c:=⟨_,rfl⟩;rw[hc] at KC HF;clear hcell0 hwl hs hc;by_cases hc0:c=0
     ·have HZ:=Vs (show∀j,j<q+1->ml (l.getD j [])=0 fromλj hj=>by
       by_cases hjk:j=q
       ·rw[hjk,HF.o];exact hc0
       ·exact HB.o j V7)
      subst hc0;go_wp2_with(go_at_call 271;go_must(refine KC.o.mono ?_);rintro e W1 ⟨rfl,hX1⟩)
      exact⟨⟨q+1,V7,Wa,Ext.tr HX.o hX1,HZ.o⟩,Wc⟩
     ·have HV:=Vs (show jj l=c by
       rw[HN2.o,bS hlq HB.o (by show ml (l.getD q [])≠0;rw[HF.o];exact hc0)];exact HF.o)
      have tc:(c !=0)=VD:=XF;go_wp2_with(go_at_call 271;go_must(refine KC.o.mono ?_);rintro e W1 ⟨rfl,hX1⟩)
      go_ret;exact⟨Wy,Ext.tr HX.o hX1⟩
    ·have hlq':decide ((q:Int)<(ln l:Int))=Vw:=Wd;have HV:=Vs (show jj l=0 by rw[HN2.o,be (λj hj=>HB.o j V7)]);go_wp2;go_ret;exact⟨Wy,HX.o⟩
abbrev vV(o:kN):List Vy:=[VZ VH o.side,VW (tx o.left),VW (tx o.right),VW (tx o.low),VW (tx o.high)]
abbrev bw(l:List kN):List (List Vy):=l.map vV
theorem oB{l:List kN}(hi:i<ln l):(bw l).getD i []=vV (l.getD i eB):=by
 exact Y4
def mK(l:List kN):de 5 (bw l):=bC (f:=vV) (λ_=>rfl) l
noncomputable def tD(o:kN):Int:=if jj [o.left,o.right,o.low,o.high]≠0 then jj [o.left,o.right,o.low,o.high] else if 0<=(gT o.left o.right).1\/0<=(gT o.low o.high).1 then 10 else 0
noncomputable def AB(a b:kN):Bool:=a.side==b.side&&decide ((gT a.left b.right).1<0)&&decide ((gT b.left a.right).1<0)&&decide ((gT a.low b.high).1<0)&&decide ((gT b.low a.high).1<0)
structure Py(o:kN):Prop where
 l1:ln o.left<=99999
 r1:ln o.right<=99999
 w1:ln o.low<=99999
 h1:ln o.high<=99999
 l2:bU o.left=0
 r2:bU o.right=0
 w2:bU o.low=0
 h2:bU o.high=0
structure zV(o:kN):Prop where
 l1:ln o.left<=99999
 r1:ln o.right<=99999
 w1:ln o.low<=99999
 h1:ln o.high<=99999
def GL{a b c d:List UInt8}(h:jj [a,b,c,d]=0):bU a=0/\bU b=0/\bU c=0/\bU d=0:=by
 unfold jj at h;split at h
 ·rename_i h1;exact absurd h h1
 ·rename_i h1;have hz:=rF (Decidable.not_not.1 h1);exact⟨hz 0 Wa,hz 1 Wa,hz 2 Wa,hz 3 Wa⟩
def Pg{o:kN}(hs:zV o)(h:tD o=0):Py o:=by
 have h0:jj [o.left,o.right,o.low,o.high]=0:=by
  by_cases hn:jj [o.left,o.right,o.low,o.high]=0
  ·exact hn
  ·unfold tD at h;rw[if_pos hn] at h;exact absurd h hn
 obtain⟨a,b,c,d⟩:=GL h0;exact⟨hs.l1,hs.r1,hs.w1,hs.h1,a,b,c,d⟩
def Db(o:kN)(w:Vt)(hs:zV o)(hm:fG w)(ht:aW w):VJ prog 201 #[V5 (vV o).toArray] w λe w'=>e=V0 (VZ VH (tD o))/\Ext w w':=by
 obtain⟨sd,a,b,c,d⟩:=o;obtain⟨l1,r1,w1,h1⟩:=hs;dsimp only at l1 r1 w1 h1;have HM:=Vs hm;have HT:=Vs ht;have E2:=Vs (fh w (.cells #[VZ VH sd,VW (tx a),VW (tx b),VW (tx c),VW (tx d)] 57) (.cells #[VW (tx a),VW (tx b),VW (tx c),VW (tx d)] 55));have R1:=Vs ((ai.new w 57 [VZ VH sd,VW (tx a),VW (tx b),VW (tx c),VW (tx d)]).ext ((Below.refl _ _).alloc (Vu _) (.cells #[VW (tx a),VW (tx b),VW (tx c),VW (tx d)] 55)));have r2:=ai.new (w.alloc (.cells #[VZ VH sd,VW (tx a),VW (tx b),VW (tx c),VW (tx d)] 57)) 55 [VW (tx a),VW (tx b),VW (tx c),VW (tx d)];rw[VK] at r2;have hsl:bJ 1 _ _ (Vz ⟨w.heap.size+1,0,Vx⟩) 4 (DU [a,b,c,d]):=⟨Wa,Wh,λ_=>⟨w.heap.size+1,0,rfl,r2.lt,λi hi j hj=>by
  obtain rfl:j=0:=V7;simp at hi;rw[r2.cell,Nat.one_mul,Nat.zero_add,Nat.add_zero];rcases(show i=0\/i=1\/i=2\/i=3 by omega) with rfl|rfl|rfl|rfl<;>rfl⟩⟩
 have KN:=Vs (Av _ _ 4 [a,b,c,d] hsl (by simp;exact⟨l1,r1,w1,h1⟩) (HM.o.below E2.o (Vu _)) (HT.o.below E2.o (Vu _)));have HF:=Vs (show tD ⟨sd,a,b,c,d⟩=if jj [a,b,c,d]≠0 then jj [a,b,c,d] else if 0<=(gT a b).1\/0<=(gT c d).1 then 10 else 0 from rfl);have hno:=Vs (λh=>GL (a:=a) (b:=b) (c:=c) (d:=d) h);clear hm ht r2 hsl;obtain⟨n,hn⟩:∃n,jj [a,b,c,d]=n:=⟨_,rfl⟩;rw[hn] at KN HF hno;clear hn;by_cases hn0:n=0
 ·obtain⟨ca,cb,cc,cd⟩:=hno.o hn0;have K1:=Vs (λ(W:Vt) (h:Ext w W)=>iX a b W l1 r1 ca cb (HM.o.below h (Vu _)) (HT.o.below h (Vu _)));have K2:=Vs (λ(W:Vt) (h:Ext w W)=>iX c d W w1 h1 cc cd (HM.o.below h (Vu _)) (HT.o.below h (Vu _)));have HG:=Vs (show tD ⟨sd,a,b,c,d⟩=if 0<=(gT a b).1\/0<=(gT c d).1 then 10 else 0 by rw[HF.o,if_neg (λh=>h hn0)]);subst hn0;obtain⟨x,hx⟩:∃x,(gT a b).1=x:=⟨_,rfl⟩;obtain⟨y,hy⟩:∃y,(gT c d).1=y:=⟨_,rfl⟩;rw[hx,hy] at HG;simp only[hx] at K1;simp only[hy] at K2;clear hx hy ca cb cc cd;by_cases hx0:0<=x
  ·have tx0:decide (0<=x)=VD:=by rw[decide_eq_true_eq];exact hx0
   have HV:=Vs (show tD ⟨sd,a,b,c,d⟩=10 by rw[HG.o,if_pos (.inl hx0)]);go_enter func201,ntmps201;go_wp2_with(first
    |(go_at_call 240;go_must(refine KN.o.mono ?_);rintro e W1 ⟨rfl,hX1⟩;have q1:=λi=>(R1.o.ext hX1).cell i;have HX1:=Vs (Ext.tr E2.o hX1);clear hX1)
    |(go_at_call 241;((with_reducible refine(K1.o _ HX1.o).mono ?_);rintro e W2 ⟨rfl,hX2⟩)))
   go_ret;exact⟨Wy,Ext.tr HX1.o hX2⟩
  ·have tx0:decide (0<=x)=Vw:=by rw[decide_eq_false_iff_not];exact hx0
   by_cases hy0:0<=y
   ·have ty0:decide (0<=y)=VD:=by rw[decide_eq_true_eq];exact hy0
    have HV:=Vs (show tD ⟨sd,a,b,c,d⟩=10 by rw[HG.o,if_pos (.inr hy0)]);exact Zf
   ·have ty0:decide (0<=y)=Vw:=by rw[decide_eq_false_iff_not];exact hy0
    have HV:=Vs (show tD ⟨sd,a,b,c,d⟩=0 by rw[HG.o,if_neg V7]);exact Zf
 ·have HV:=Vs (show tD ⟨sd,a,b,c,d⟩=n by rw[HF.o,if_pos hn0]);have tn:(n !=0)=VD:=by rw[bne_iff_ne];exact hn0
  clear hn0;go_enter func201,ntmps201;go_wp2_with(go_at_call 240;go_must(refine KN.o.mono ?_);rintro e W1 ⟨rfl,hX1⟩)
  go_ret;exact⟨Wy,Ext.tr E2.o hX1⟩
end
section
open Kp
noncomputable def Fa(l:List kN):Bool:= !cz (λi=>cz (λk=>AB (l.getD i eB) (l.getD k eB)) i) (ln l)
noncomputable def lC(l:List kN):Bool×Int:=
 if 32<ln l then(Vw,4) else if aV (λi=>tD (l.getD i eB)) (ln l)≠0 then(Vw,aV (λi=>tD (l.getD i eB)) (ln l)) else(Fa l,0)
def R7(a b:kN)(s p q r t:Bool)(h1:(a.side==b.side)=s)(h2:decide ((gT a.left b.right).1<0)=p)(h3:decide ((gT b.left a.right).1<0)=q)(h4:decide ((gT a.low b.high).1<0)=r)(h5:decide ((gT b.low a.high).1<0)=t):AB a b=(s&&p&&q&&r&&t):=by
 unfold AB;rw[h1,h2,h3,h4,h5]
def zS(a b:kN)(w:Vt)(ha:Py a)(hb:Py b)(hm:fG w)(ht:aW w):VJ prog 202 #[V5 (vV a).toArray,V5 (vV b).toArray] w λe w'=>e=V0 (VX (AB a b))/\Ext w w':=by
 obtain⟨l1,r1,w1,h1,l2,r2,w2,h2⟩:=ha;obtain⟨m1,s1,x1,i1,m2,s2,x2,i2⟩:=hb;have HM:=Vs hm;have HT:=Vs ht;have K1:=Vs (λ(W:Vt) (h:Ext w W)=>iX a.left b.right W l1 s1 l2 s2 (HM.o.below h (Vu _)) (HT.o.below h (Vu _)));have K2:=Vs (λ(W:Vt) (h:Ext w W)=>iX b.left a.right W m1 r1 m2 r2 (HM.o.below h (Vu _)) (HT.o.below h (Vu _)));have K3:=Vs (λ(W:Vt) (h:Ext w W)=>iX a.low b.high W w1 i1 w2 i2 (HM.o.below h (Vu _)) (HT.o.below h (Vu _)));have K4:=Vs (λ(W:Vt) (h:Ext w W)=>iX b.low a.high W x1 h1 x2 h2 (HM.o.below h (Vu _)) (HT.o.below h (Vu _)));have E2:=Vs (fh w (.cells (vV a).toArray 57) (.cells (vV b).toArray 57));have R1:=Vs ((ai.new w 57 (vV a)).ext ((Below.refl _ _).alloc (Vu _) (.cells (vV b).toArray 57)));have r2':=ai.new (w.alloc (.cells (vV a).toArray 57)) 57 (vV b);rw[VK] at r2';have R2:=Vs r2';have HO:=Vs (R7 a b);clear hm ht r2' l1 r1 w1 h1 l2 r2 w2 h2 m1 s1 x1 i1 m2 s2 x2 i2;obtain⟨c1,hc1⟩:∃x,(gT a.left b.right).1=x:=⟨_,rfl⟩;obtain⟨c2,hc2⟩:∃x,(gT b.left a.right).1=x:=⟨_,rfl⟩;obtain⟨c3,hc3⟩:∃x,(gT a.low b.high).1=x:=⟨_,rfl⟩;obtain⟨c4,hc4⟩:∃x,(gT b.low a.high).1=x:=⟨_,rfl⟩;rw[hc1,hc2,hc3,hc4] at HO;simp only[hc1] at K1;simp only[hc2] at K2;simp only[hc3] at K3;simp only[hc4] at K4;clear hc1 hc2 hc3 hc4;obtain⟨sv,t0⟩:∃x,(a.side==b.side)=x:=⟨_,rfl⟩;obtain⟨p1,t1⟩:∃x,decide (c1<0)=x:=⟨_,rfl⟩;obtain⟨p2,t2⟩:∃x,decide (c2<0)=x:=⟨_,rfl⟩;obtain⟨p3,t3⟩:∃x,decide (c3<0)=x:=⟨_,rfl⟩;obtain⟨p4,t4⟩:∃x,decide (c4<0)=x:=⟨_,rfl⟩;have HV:=Vs (HO.o sv p1 p2 p3 p4 t0 t1 t2 t3 t4);cases sv
 ·have HW:=Vs (show AB a b=Vw by rw[HV.o];rfl);go_enter func202,ntmps202;go_wp2;go_ret;exact⟨by rw[HW.o];rfl,E2.o⟩
 cases p1
 ·have HW:=Vs (show AB a b=Vw by rw[HV.o];rfl);go_enter func202,ntmps202;go_wp2_with(go_at_call 241;((with_reducible refine(K1.o _ E2.o).mono ?_);rintro e W1 ⟨rfl,hX1⟩))
  go_ret;exact⟨by rw[HW.o];rfl,Ext.tr E2.o hX1⟩
 cases p2
 ·have HW:=Vs (show AB a b=Vw by rw[HV.o];rfl);go_enter func202,ntmps202;go_wp2_with(first
   |(go_at_call 241;((with_reducible refine(K1.o _ E2.o).mono ?_);rintro e W1 ⟨rfl,hX1⟩;have q1:=λi=>(R1.o.ext hX1).cell i;have q2:=λi=>(R2.o.ext hX1).cell i;have HX1:=Vs (Ext.tr E2.o hX1);clear hX1))
   |(go_at_call 241;((with_reducible refine(K2.o _ HX1.o).mono ?_);rintro e W2 ⟨rfl,hX2⟩)))
  go_ret;exact⟨by rw[HW.o];rfl,Ext.tr HX1.o hX2⟩
 cases p3
 ·have HW:=Vs (show AB a b=Vw by rw[HV.o];rfl);go_enter func202,ntmps202;go_wp2_with(first
   |(go_at_call 241;((with_reducible refine(K1.o _ E2.o).mono ?_);rintro e W1 ⟨rfl,hX1⟩;have q1:=λi=>(R1.o.ext hX1).cell i;have q2:=λi=>(R2.o.ext hX1).cell i;have S1:=Vs (R1.o.ext hX1);have S2:=Vs (R2.o.ext hX1);have HX1:=Vs (Ext.tr E2.o hX1);clear hX1))
   |(go_at_call 241;((with_reducible refine(K2.o _ HX1.o).mono ?_);rintro e W2 ⟨rfl,hX2⟩;have q3:=λi=>(S1.o.ext hX2).cell i;have q4:=λi=>(S2.o.ext hX2).cell i;have HX2:=Vs (Ext.tr HX1.o hX2);clear hX2))
   |(go_at_call 241;((with_reducible refine(K3.o _ HX2.o).mono ?_);rintro e W3 ⟨rfl,hX3⟩)))
  go_ret;exact⟨by rw[HW.o];rfl,Ext.tr HX2.o hX3⟩
 cases p4;all_goals
  go_enter func202,ntmps202;go_wp2_with(first
   |(go_at_call 241;((with_reducible refine(K1.o _ E2.o).mono ?_);rintro e W1 ⟨rfl,hX1⟩;have q1:=λi=>(R1.o.ext hX1).cell i;have q2:=λi=>(R2.o.ext hX1).cell i;have S1:=Vs (R1.o.ext hX1);have S2:=Vs (R2.o.ext hX1);have HX1:=Vs (Ext.tr E2.o hX1);clear hX1))
   |(go_at_call 241;((with_reducible refine(K2.o _ HX1.o).mono ?_);rintro e W2 ⟨rfl,hX2⟩;have q3:=λi=>(S1.o.ext hX2).cell i;have q4:=λi=>(S2.o.ext hX2).cell i;have S3:=Vs (S1.o.ext hX2);have S4:=Vs (S2.o.ext hX2);have HX2:=Vs (Ext.tr HX1.o hX2);clear hX2))
   |(go_at_call 241;((with_reducible refine(K3.o _ HX2.o).mono ?_);rintro e W3 ⟨rfl,hX3⟩;have q5:=λi=>(S3.o.ext hX3).cell i;have q6:=λi=>(S4.o.ext hX3).cell i;have HX3:=Vs (Ext.tr HX2.o hX3);clear hX3))
   |(go_at_call 241;((with_reducible refine(K4.o _ HX3.o).mono ?_);rintro e W4 ⟨rfl,hX4⟩)))
  go_ret;exact⟨Wy,Ext.tr HX3.o hX4⟩
end
section
open Kp
def wJ(w:Vt)(A:Option VT)(cap:Nat)(l:List kN)(hl:bJ 5 w w.heap.size A cap (bw l))(hs:∀o∈l,zV o)(hm:fG w)(ht:aW w):
  VJ prog 138 #[VV A (ln l) cap] w λe w'=>e=V0 (V6 #[VX (lC l).1,VZ VH (lC l).2])/\Ext w w':=by
 obtain⟨h1,h2,h3⟩:=hl;rw[VC] at h1 h3;unfold VP at h2;by_cases h16:32<ln l
 ·have HR:=Vs (show lC l=(Vw,4) by unfold lC;rw[if_pos h16]);clear h3 hs hm ht;go_enter func138,ntmps138;go_wp2;go_ret2;rw[HR.o];exact⟨rfl,Ext.aC _⟩
 have HR:=Vs (show lC l=if aV (λi=>tD (l.getD i eB)) (ln l)≠0 then(Vw,aV (λi=>tD (l.getD i eB)) (ln l)) else(Fa l,0) by unfold lC;rw[if_neg h16]);have H3:=Vs h3;have HS:=Vs (show∀i,i<ln l->zV (l.getD i eB) fromλi hi=>hs _ (by rw[Vv,VA hi];exact List.getElem_mem hi));have HM:=Vs hm;have HT:=Vs ht;clear h3 hs hm ht;go_enter func138,ntmps138;go_wp2;go_loopw [16] (λi wr=>UI w (ln l) (λi=>tD (l.getD i eB)) i wr) (λi _=>((ln l:Int)-VN i).toNat)
 case atStart=>exact⟨0,V7,rfl,Below.refl _ _,λj hj=>V7⟩
 case round=>
  obtain⟨k,hk,rfl,hX,hall⟩:=hrel;have HX:=Vs hX;have HA:=Vs hall;clear hX hall;by_cases hlt:k<ln l
  ·obtain⟨b,off,rfl,hB,hcell0⟩:=H3.o V7;have HC:=Vs (λi hi j hj=>(HX.o.cell (p:=⟨b,off+5*i+j,Vx⟩) hB).trans (hcell0 i hi j hj));have c0:=HC.o k hlt 0 V9;have c1:=HC.o k hlt 1 V9;have c2:=HC.o k hlt 2 V9;have c3:=HC.o k hlt 3 V9;have c4:=HC.o k hlt 4 V9;rw[oB hlt,VL] at c0 c1 c2 c3 c4;rw[Nat.add_zero] at c0;have hsm:=HS.o k hlt;obtain⟨o,ho⟩:∃o,l.getD k eB=o:=⟨_,rfl⟩;rw[ho] at c0 c1 c2 c3 c4 hsm;have EX:=Vs (λ(p:Obj)=>(HX.o.alloc HX.o.size p:Ext w (wr.alloc p)));have KS:=Vs (λ(p:Obj)=>Db o (wr.alloc p) hsm (HM.o.below (EX.o p) (Vu _)) (HT.o.below (EX.o p) (Vu _)));have HF:=Vs (show tD (l.getD k eB)=tD o by rw[ho]);obtain⟨c,hc⟩:∃c,tD o=c:=⟨_,rfl⟩;rw[hc] at HF;simp only[hc] at KS;clear hcell0 HC hsm ho hc;by_cases hc0:c=0
   ·have HZ:=Vs (show∀j,j<k+1->tD (l.getD j eB)=0 fromλj hj=>by
     by_cases hjk:j=k
     ·rw[hjk,HF.o];exact hc0
     ·exact HA.o j V7)
    subst hc0;go_wp2_with(go_at_call 201;go_must(refine(KS.o _).mono ?_);rintro e W1 ⟨rfl,hX1⟩)
    exact⟨⟨k+1,V7,Wa,Ext.tr (EX.o _) hX1,HZ.o⟩,Wc⟩
   ·have HV:=Vs (show lC l=(Vw,c) by
     have h1:aV (λi=>tD (l.getD i eB)) (ln l)=c:=by rw[bS hlt HA.o (by show tD (l.getD k eB)≠0;rw[HF.o];exact hc0)];exact HF.o
     rw[HR.o,h1,if_pos hc0])
    have tc:(c !=0)=VD:=XF;go_wp2_with(go_at_call 201;go_must(refine(KS.o _).mono ?_);rintro e W1 ⟨rfl,hX1⟩)
    go_ret2;rw[HV.o];exact⟨rfl,Ext.tr (EX.o _) hX1⟩
  ·have hlt':decide ((k:Int)<(ln l:Int))=Vw:=Wd;have HD:=Vs (show lC l=(Fa l,0) by
    have h1:aV (λi=>tD (l.getD i eB)) (ln l)=0:=be (λj hj=>HA.o j V7);rw[HR.o,h1,if_neg (λh=>h rfl)])
   have HOK:=Vs (show∀i,i<ln l->Py (l.getD i eB) fromλi hi=>Pg (HS.o i hi) (HA.o i V7));clear hk;go_wp2;go_loopw [28] (λi wr=>∃m:Nat,m<=ln l/\i=VZ VH (m:Int)/\Ext w wr/\∀j,j<m->cz (λk=>AB (l.getD j eB) (l.getD k eB)) j=Vw) (λi _=>((ln l:Int)-VN i).toNat)
   case atStart=>exact⟨0,V7,rfl,HX.o,λj hj=>V7⟩
   case round=>
    clear HX HA;obtain⟨m,hm,rfl,hX,hall⟩:=hrel;have HX:=Vs hX;have HA:=Vs hall;clear hX hall;by_cases hlm:m<ln l
    ·obtain⟨b,off,rfl,hB,hcell0⟩:=H3.o V7;have HC0:=Vs hcell0;have HC:=Vs (λi hi j hj=>(HX.o.cell (p:=⟨b,off+5*i+j,Vx⟩) hB).trans (hcell0 i hi j hj));have c0:=HC.o m hlm 0 V9;have c1:=HC.o m hlm 1 V9;have c2:=HC.o m hlm 2 V9;have c3:=HC.o m hlm 3 V9;have c4:=HC.o m hlm 4 V9;rw[oB hlm,VL] at c0 c1 c2 c3 c4;rw[Nat.add_zero] at c0;have hok:=HOK.o m hlm;obtain⟨o,ho⟩:∃o,l.getD m eB=o:=⟨_,rfl⟩;rw[ho] at c0 c1 c2 c3 c4 hok;have HO:=Vs ho;have HOKM:=Vs hok;have RM:=Vs (ai.new wr 57 (vV o));have EM:=Vs (show Ext wr (wr.alloc (.cells (vV o).toArray 57)) from(Below.refl _ _).alloc (Vu _) _);have hmc:m<=cap:=V7;clear hcell0 HC ho hok;go_wp2;obtain⟨w1,hw1⟩:∃w1,wr.alloc (.cells (vV o).toArray 57)=w1:=⟨_,rfl⟩;rw[hw1] at RM EM;simp only[hw1];clear hw1 c0 c1 c2 c3 c4;go_loopw [37] (λq wq=>∃k:Nat,k<=m/\q=VZ VH (k:Int)/\Ext w1 wq/\∀j,j<k->AB (l.getD m eB) (l.getD j eB)=Vw) (λq _=>((m:Int)-VN q).toNat)
     case atStart=>exact⟨0,V7,rfl,Below.refl _ _,λj hj=>V7⟩
     case round=>
      obtain⟨q,hq,rfl,hX,hall⟩:=hrel;have HY:=Vs (Ext.tr (Ext.tr HX.o EM.o) hX);have r1:=RM.o.ext hX;have HA':=Vs hall;have HXq:=Vs hX;clear hX hall;by_cases hlq:q<m
      ·have hqL:q<ln l:=V7;have HC:=Vs (λi hi j hj=>(HY.o.cell (p:=⟨b,off+5*i+j,Vx⟩) hB).trans (HC0.o i hi j hj));have d0:=HC.o q hqL 0 V9;have d1:=HC.o q hqL 1 V9;have d2:=HC.o q hqL 2 V9;have d3:=HC.o q hqL 3 V9;have d4:=HC.o q hqL 4 V9;rw[oB hqL,VL] at d0 d1 d2 d3 d4;rw[Nat.add_zero] at d0;have hok2:=HOK.o q hqL;obtain⟨u,hu⟩:∃u,l.getD q eB=u:=⟨_,rfl⟩;rw[hu] at d0 d1 d2 d3 d4 hok2;have EX:=Vs (λ(p:Obj)=>(HY.o.alloc HY.o.size p:Ext w (wr.alloc p)));have KO:=Vs (λ(p:Obj)=>zS o u (wr.alloc p) HOKM.o hok2 (HM.o.below (EX.o p) (Vu _)) (HT.o.below (EX.o p) (Vu _)));have HF:=Vs (show AB (l.getD m eB) (l.getD q eB)=AB o u by rw[hu,HO.o]);obtain⟨x,hx⟩:∃x,AB o u=x:=⟨_,rfl⟩;rw[hx] at HF;simp only[hx] at KO;have e0:=r1.cell 0;have e1:=r1.cell 1;have e2:=r1.cell 2;have e3:=r1.cell 3;have e4:=r1.cell 4;have ez:=r1.lt;have HXa:=Vs (λ(p:Obj)=>(HXq.o.alloc HXq.o.size p:Ext w1 (wr.alloc p)));clear HC hok2 hu hx r1;cases x
       ·have HZ:=Vs (show∀j,j<q+1->AB (l.getD m eB) (l.getD j eB)=Vw fromλj hj=>by
         by_cases hjk:j=q
         ·rw[hjk];exact HF.o
         ·exact HA'.o j V7)
        go_wp2_with(go_at_call 202;go_must(refine(KO.o _).mono ?_);rintro e W1 ⟨rfl,hX1⟩)
        exact⟨⟨q+1,V7,Wa,Ext.tr (HXa.o _) hX1,HZ.o⟩,Wc⟩
       ·have HV:=Vs (show lC l=(Vw,0) by
         rw[HD.o];unfold Fa;rw[dI (p:=λi=>cz (λk=>AB (l.getD i eB) (l.getD k eB)) i) hlm (dI (p:=λk=>AB (l.getD m eB) (l.getD k eB)) hlq HF.o)];rfl)
        go_wp2_with(go_at_call 202;go_must(refine(KO.o _).mono ?_);rintro e W1 ⟨rfl,hX1⟩)
        go_ret2;rw[HV.o];exact⟨rfl,Ext.tr (EX.o _) hX1⟩
      ·obtain rfl:q=m:=V7;have hlt3:decide ((q:Int)<(q:Int))=Vw:=Wd;clear r1;go_wp2;refine⟨⟨q+1,V7,Wa,HY.o,λj hj=> ?_⟩,Wc⟩;by_cases hjk:j=q
       ·rw[hjk];exact bh HA'.o
       ·exact HA.o j V7
    ·have hlm':decide ((m:Int)<(ln l:Int))=Vw:=Wd;have HV:=Vs (show lC l=(VD,0) by
      rw[HD.o];unfold Fa;rw[bh (λj hj=>HA.o j V7)];rfl)
     go_wp2;go_ret2;rw[HV.o];exact⟨rfl,HX.o⟩
end
section
open Kp
attribute [local go_sem] Oper.semAt_some
def AA (w : Vt) (A : Option VT) (cap : Nat) (rs : List (List Sd)) (hr : fj w w.heap.size A cap rs) (hok : BE rs) :
    VJ prog 135 #[VV A (ln rs) cap] w λe w' => e =V0 (VX (ff rs)) /\ Ext w w' := by
  have h1 := hr.1;have h2 := hr.2.1;unfold VP at h2;have hcnt := hok.count;refine (callsIn_wide (n := 9)).1 (callsIn_of_wp_marks func135 rfl trivial ?_);simp only [ntmps135, List.size_toArray, List.length_cons, List.length_nil, Nat.reduceAdd, Nat.reduceSub, Array.replicate_succ, Array.replicate_zero, List.push_toArray, List.append_toArray, List.nil_append, List.cons_append]
  gi_wp2
  refine wpIn_loop (λa W => ∃ (u : Nat -> Vy) (k : Nat) (ds : List Deferred), k <= ln rs /\ a = ⟨#[VV A (ln rs) cap, u 1, VX Vw, VY (Vz ⟨w.heap.size, 0, Vx⟩), VY (Vz ⟨w.heap.size + 1, 0, Vx⟩), u 5, u 6, u 7, u 8, u 9, u 10, u 11, u 12, u 13, VV A (ln rs) cap, VZ VH (ln rs : Int), VZ VH (k : Int), u 17, u 18, u 19, u 20, u 21, u 22, u 23, u 24, u 25, u 26, u 27, u 28, u 29, u 30, u 31, u 32, u 33, u 34, u 35, u 36, u 37, u 38, u 39, u 40, u 41, u 42, u 43, u 44, u 45, u 46, u 47, u 48, u 49, u 50, u 51, u 52, u 53, u 54, u 55, u 56, u 57, u 58, u 59, u 60, u 61, u 62, u 63, u 64, u 65, u 66, u 67, u 68, u 69, u 70, u 71, u 72, u 73, u 74, u 75, u 76, u 77, u 78, u 79, u 80, u 81, u 82, u 83, u 84, u 85, u 86, u 87, u 88, u 89, u 90, u 91, u 92, u 93, u 94, u 95, u 96, u 97, u 98, u 99, u 100, u 101], ds⟩ /\ Vf w A cap rs k W /\ Mk w.heap.size ds W)
    (λa _ => ((ln rs : Int) - VN (a.tmps.getD 16 VB)).toNat) ?start ?round
  case start =>
    exact ⟨λ_ => VB, 0, [], V7, rfl, ⟨⟨df, df, (Bx.at_ rfl).alloc _, Bx.at_ Wa, World.ownsRow_nil _ _ _ _, World.ownsRow_nil _ _ _ _⟩, hr.below (fh _ _ _), fh _ _ _⟩, Mk.nil _ _⟩
  case round =>
    rintro a W ⟨u, k, ds, hk, rfl, hJ, hM⟩;by_cases hlt : k < ln rs
    · obtain ⟨b, off, rfl, hB, hcell⟩ := hJ.rg.2.2 V7
      obtain ⟨Ai, ci, hc1, hsl⟩ := hcell k hlt;obtain ⟨hne, hco, hlen⟩ := hok.ring hlt;obtain ⟨ring, hring⟩ : ∃ ring, rs.getD k [] = ring := ⟨_, rfl⟩;rw [hring] at hc1 hsl hne hco hlen;have HRG := Vs hring;have HJ := Vs hJ;have HM := Vs hM;clear hring hcell hJ hM;gi_wp2_with (refine ⟨trivial, ?_⟩; gi_at_call 192; refine (callsIn_wide.2 (kn _ _ _ _)).mono ?_; rintro e w' ⟨rfl, rfl⟩)
      have hzW := HJ.o.low.size;obtain ⟨X0, Y0, hXY⟩ := HJ.o.ex;have hz2 := hXY.bp.lt;obtain ⟨W1, hW1⟩ : ∃ W1, (W.alloc (.cells #[VZ VH (k : Int)] 3)).alloc (.cells #[VV Ai (ln ring) ci] 80) = W1 := ⟨_, rfl⟩;have hA : Ext W W1 := by rw [<- hW1]; exact fh _ _ _
      have hsz : W1.heap.size = W.heap.size + 2 := by rw [<- hW1]; simp
      have hBr : Bx W1 W.heap.size 3 (VZ VH (k : Int)) := by rw [<- hW1]; exact (Bx.at_ rfl).alloc _
      have hBi : Bx W1 (W.heap.size + 1) 80 (VV Ai (ln ring) ci) := by rw [<- hW1]; exact Bx.at_ Wa
      rw [hW1];clear hW1;have hds : ∀ D, NP D ∈ ds -> D < W1.heap.size := λD hD => by have := HM.o.lt hD; omega
      have hlw : w.heap.size <= W1.heap.size := V7;refine gy (gf := 238) (lb := #[VY (Vz ⟨W.heap.size + 1, 0, Vx⟩)]) rfl (enters_of func238 V8 rfl)
        (jy (W.heap.size + 1) Ai ci ring V7) (λk x e => by rw [e]; rfl)
        (Uc w (W.heap.size + 1) W.heap.size k ds Ai ci (ky rs k) ring) (λ_ _ _ => False) (λj V V' h hs => h.stays hds hs hlw) (λc j V V' h hs => h) (λj V h => tX h.it h.sl) ?start ?round ?done ?stop
      case stop => intro D c j V hD hj h; exact h.elim
      case start =>
        exact ⟨⟨X0, Y0, by rw [show iJ k ring 0 = [] from rfl, List.append_nil]; exact hXY.ext hA⟩, hBr, hBi, hsl.below (hA.mono V7), HM.o.keeps hA.keeps, HJ.o.low.trans (hA.mono V7)⟩
      case done =>
        intro D V hD hi hK;have hmk := Vs (hi.mks.cons hds hD V7 hK);have HI := Vs hi;clear hi hK
        gi_wp2
        refine ⟨⟨λi => match i with | 1 => _ | 5 => _ | 6 => _ | 7 => _ | 8 => _ | 9 => _ | 10 => _ | 11 => _ | 12 => _ | 13 => _ | 17 => _ | 18 => _ | 19 => _ | 20 => _ | 21 => _ | 22 => _ | 23 => _ | 24 => _ | 25 => _ | 26 => _ | 27 => _ | 28 => _ | 29 => _ | 30 => _ | 31 => _ | 32 => _ | 33 => _ | 34 => _ | 35 => _ | 36 => _ | 37 => _ | 38 => _ | 39 => _ | 40 => _ | 41 => _ | 42 => _ | 43 => _ | 44 => _ | 45 => _ | 46 => _ | 47 => _ | 48 => _ | 49 => _ | 50 => _ | 51 => _ | 52 => _ | 53 => _ | 54 => _ | 55 => _ | 56 => _ | 57 => _ | 58 => _ | 59 => _ | 60 => _ | 61 => _ | 62 => _ | 63 => _ | 64 => _ | 65 => _ | 66 => _ | 67 => _ | 68 => _ | 69 => _ | 70 => _ | 71 => _ | 72 => _ | 73 => _ | 74 => _ | 75 => _ | 76 => _ | 77 => _ | 78 => _ | 79 => _ | 80 => _ | 81 => _ | 82 => _ | 83 => _ | 84 => _ | 85 => _ | 86 => _ | 87 => _ | 88 => _ | 89 => _ | 90 => _ | 91 => _ | 92 => _ | 93 => _ | 94 => _ | 95 => _ | 96 => _ | 97 => _ | 98 => _ | 99 => _ | 100 => _ | _ => _, k + 1, _, V7, rfl, ⟨?_, hr.below HI.o.low, HI.o.low⟩, hmk.o⟩, WI⟩;have e : ky rs (k + 1) = ky rs k ++ iJ k ring (ln ring) := by rw [ky, HRG.o]
        rw [e]; exact HI.o.ex
      case round =>
        intro l j x V K hj hx hi hK;obtain rfl := hx;have HK := Vs hK;have RA := Vs (ai.new V 227 (jz (eL ring j) (aq ring j) (aQ ring j)));have EA := Vs (show Ext V (V.alloc (.cells (jz (eL ring j) (aq ring j) (aQ ring j)).toArray 227)) from (Below.refl _ _).alloc (Vu _) _);have hzv : W1.heap.size <= V.heap.size := by have := hi.it.lt; omega
        have HI := Vs hi;clear hK hi;refine wpIn_seq ?_;refine cK (aX _ _) V8 ?_;go_wp2;refine cL ?_;show Code.wpIn _ _ _ _ _ _ _;refine cK (aX _ _) V8 ?_;go_wp2_with (refine wpList_store_row rfl 227 (.tmp 8) (.tmp 24) rfl V.heap.size (jz (eL ring j) (aq ring j) (aQ ring j)).toArray rfl rfl 227 _ (VG _ _) V8 V8 V8 ?_; rw [fN _ _ _ _ rfl])
        refine cL (HK.o _ _ EA.o (λW2 hs2 hlt2 => ?_));have hi2 := (HI.o.stays hds (EA.o.stays hzv) hlw).stays hds hs2 hlw;have R2 : ai W2 V.heap.size 227 (jz (eL ring j) (aq ring j) (aQ ring j)) := hs2.cells _ _ _ _ RA.o;clear HK HI EA RA hs2;obtain ⟨own, hown⟩ : ∃ o, aq ring j = o := ⟨_, rfl⟩;obtain ⟨beh, hbeh⟩ : ∃ o, aQ ring j = o := ⟨_, rfl⟩;obtain ⟨bef, hbef⟩ : ∃ o, eL ring j = o := ⟨_, rfl⟩;have HBX := Vs (show lv ring j = ⟨min own.x beh.x, min own.y beh.y, max own.x beh.x, max own.y beh.y⟩ by unfold lv; rw [hown, hbeh]);rw [hown, hbeh, hbef] at R2;rw [hown, hbeh, hbef];clear hown hbeh hbef;obtain ⟨bx, hbx⟩ : ∃ bx : pq, (⟨min own.x beh.x, min own.y beh.y, max own.x beh.x, max own.y beh.y⟩ : pq) = bx := ⟨_, rfl⟩;rw [hbx] at HBX;have cbx := λW => Ja bef own beh W
        simp only [hbx] at cbx;have CBX := Vs cbx;clear hbx cbx;obtain ⟨X, Y, hXY2⟩ := hi2.ex;have hI0 : JE w.heap.size (W.heap.size + 1) W.heap.size V.heap.size k j Ai ci ring w.heap.size W2 W2 (ky rs k ++ iJ k ring j) (jz bef own beh) (wP bx) X Y (λ_ => Vw) (λi => match i with | 0 => u 25 | 1 => u 26 | 2 => u 27 | 3 => u 28 | 4 => u 29 | 5 => u 30 | 6 => u 31 | 7 => u 32 | 8 => u 33 | 9 => u 34 | _ => u 35) W2.drew :=
          ⟨hXY2.ba.drew, hXY2.bp.drew, hi2.r.drew, hi2.it.drew, R2.drew, (Below.refl _ _).drew, (Ext.dr W2).keeps, (λ_ _ h => Wb), (λh => Wb), (λh => Wb), aO hXY2.a (Ext.dr W2), aO hXY2.p (Ext.dr W2)⟩
        have hlen3 : (ky rs k ++ iJ k ring j).length <= 1000000 := by
          rw [VM, Hk, BR rs k V7];have := eG rs k;have := hok.len;omega
        have HI2 := Vs hi2;have HI0 := Vs hI0;clear hXY2 hi2 hI0 R2;obtain ⟨ll, hll⟩ : ∃ ll, ky rs k ++ iJ k ring j = ll := ⟨_, rfl⟩;rw [hll] at HI0 hlen3;have HLL := Vs hll;clear hll;obtain ⟨ib, hb0, hb1, hb2, hb3⟩ := info_parts LG;obtain ⟨ip, hp0, lA, qw, hp3⟩ := info_parts ET;have IB0 := Vs hb0;have IB1 := Vs hb1;have IB2 := Vs hb2;have IB3 := Vs hb3;have IP0 := Vs hp0;have IP1 := Vs lA;have IP2 := Vs qw;have IP3 := Vs hp3;clear hb0 hb1 hb2 hb3 hp0 lA qw hp3
        gi_wp2
        refine wpIn_region_any V8 (zr (aX _ _) V8 11 (λvs => ⟨#[VV (Vz ⟨b, off, Vx⟩) (ln rs) cap, u 1, VX Vw, VY (Vz ⟨w.heap.size, 0, Vx⟩), VY (Vz ⟨w.heap.size + 1, 0, Vx⟩), VY (Vz ⟨W.heap.size, 0, Vx⟩), VV Ai (ln ring) ci, VZ VH (j : Int), VY (Vz ⟨V.heap.size, 0, Vx⟩), u 9, u 10, u 11, u 12, u 13, VV (Vz ⟨b, off, Vx⟩) (ln rs) cap, VZ VH (ln rs : Int), VZ VH (k : Int), VX VD, VZ VH (k : Int), VY (Vz ⟨b, off + k, Vx⟩), VV Ai (ln ring) ci, VV Ai (ln ring) ci, .func (.func 238) #[] #[VY (Vz ⟨W.heap.size + 1, 0, Vx⟩)], VZ VH (j : Int), V5 (jz bef own beh).toArray, vs 0, vs 1, vs 2, vs 3, vs 4, vs 5, vs 6, vs 7, vs 8, vs 9, vs 10, u 36, u 37, u 38, u 39, u 40, u 41, u 42, u 43, u 44, u 45, u 46, u 47, u 48, u 49, u 50, u 51, u 52, u 53, u 54, u 55, u 56, u 57, u 58, u 59, u 60, u 61, u 62, u 63, u 64, u 65, u 66, u 67, u 68, u 69, u 70, u 71, u 72, u 73, u 74, u 75, u 76, u 77, u 78, u 79, u 80, u 81, u 82, u 83, u 84, u 85, u 86, u 87, u 88, u 89, u 90, u 91, u 92, u 93, u 94, u 95, u 96, u 97, u 98, u 99, u 100, u 101], []⟩)
          (JE w.heap.size (W.heap.size + 1) W.heap.size V.heap.size k j Ai ci ring w.heap.size W2 W2 ll (jz bef own beh) (wP bx) X Y) V8 ?step ?tail (λi => match i with | 0 => u 25 | 1 => u 26 | 2 => u 27 | 3 => u 28 | 4 => u 29 | 5 => u 30 | 6 => u 31 | 7 => u 32 | 8 => u 33 | 9 => u 34 | _ => u 35) _ HI0.o)
        case tail =>
          intro L vs w3 hL hI;have a4 := hL 4 V9;have a10 := hL 10 V9;have ha := hI.a;have hp := hI.p;rw [a4] at ha;rw [a10] at hp;simp only [if_true] at ha hp;have ca := hI.ba.cell;have fa := hI.ba.frozen;have cp := hI.bp.cell;have fp := hI.bp.frozen;have HG := Vs hI;obtain ⟨A4, n4, q4, e4⟩ := uJ ha;obtain ⟨A10, n10, q10, e10⟩ := uJ hp;rw [e4] at ha;rw [e10] at hp;have HA := Vs ha;have HP := Vs hp;clear hI ha hp hL a4 a10;simp only [List.drop_succ_cons, List.drop_zero]
          gi_wp2
          have hlow3 : VS w.heap.size W2 w3 := HG.o.low;have hsz3 := hlow3.size;have e1 : ky rs k ++ iJ k ring (j + 1) = ll ++ [(k, j, lv ring j)] := by rw [EH, <- List.append_assoc, HLL.o]
          have e2 : (lz (ll ++ [(k, j, lv ring j)])).flatten = (lz ll).flatten ++ wP bx := by
            unfold lz; rw [List.map_append, List.flatten_append, List.map_singleton, HBX.o]; rfl
          have e3 : (lD (ll ++ [(k, j, lv ring j)])).flatten = (lD ll).flatten ++ II k j := by
            unfold lD; rw [List.map_append, List.flatten_append, List.map_singleton]; rfl
          have hk3 := HG.o.keep.trans ((KeepsOthers.setCell w3 ⟨w.heap.size, 0, Vx⟩ (VV A4 n4 q4)).trans (KeepsOthers.setCell _ ⟨w.heap.size + 1, 0, Vx⟩ (VV A10 n10 q10)));have hb3 : VS w.heap.size W2 ((w3.setCell ⟨w.heap.size, 0, Vx⟩ (VV A4 n4 q4)).setCell ⟨w.heap.size + 1, 0, Vx⟩ (VV A10 n10 q10)) := (hlow3.setCell (p := ⟨w.heap.size, 0, Vx⟩) (Vu _) _).setCell (p := ⟨w.heap.size + 1, 0, Vx⟩) Wa _;refine ⟨hk3, ⟨VV A4 n4 q4, VV A10 n10 q10, ?_⟩, (HG.o.r.dz Wp _).dz Wp _, (HG.o.it.dz Wp _).dz Wp _, HI2.o.sl.below hb3, HI2.o.mks.keeps hk3, HI2.o.low.trans hb3⟩;rw [e1];refine ⟨(HG.o.ba.put _).dz Wa _, (HG.o.bp.dz Wa _).put _, ?_, ?_⟩
          · rw [e2, VM]
            exact bP (bP HA.o (λh => by have := (az HA.o _ h).1; dsimp only at this; omega) _) (λh => by have := (az HA.o _ h).1; dsimp only at this; omega) _
          · rw [e3, VM]
            exact bP (bP HP.o (λh => by have := (az HP.o _ h).1; dsimp only at this; omega) _) (λh => by have := (az HP.o _ h).1; dsimp only at this; omega) _
        case step =>
          intro i L vs w3 hi hLi hI hd;have c0 := hI.ba.cell;have c5 := hI.bp.cell;have c6 := hI.r.cell;rcases (show i = 0 \/ i = 1 \/ i = 2 \/ i = 3 \/ i = 4 \/ i = 5 \/ i = 6 \/ i = 7 \/ i = 8 \/ i = 9 \/ i = 10 by omega) with rfl | rfl | rfl | rfl | rfl | rfl | rfl | rfl | rfl | rfl | rfl <;> clear hi
          · refine VE rfl (λK hK => ?_)
            go_simp;exact hK _ _ ⟨X, rfl, hI.step (Ext.aC _) (Vu _) V9 V9 (λ_ _ => rfl) (λh => Wb) (λh => Wb)⟩
          · refine kG rfl rfl ?_
            exact wp_load_row 227 (.tmp 8) rfl V.heap.size rfl 227 (jz bef own beh).toArray (0, 0) _ hI.rar underlying227 rfl V8 ⟨V5 (jz bef own beh).toArray, rfl, hI.step (Ext.aC _) (Vu _) V9 V9 (λ_ _ => rfl) (λh => Wb) (λh => Wb)⟩
          · refine VE rfl (λK hK => ?_)
            have d1 : vs 1 =V5 (jz bef own beh).toArray := hI.v 1 V9 (hd 1 V8) V9 V9 V9 V9;go_simp;refine (CBX.o _).mono ?_;rintro e W4 ⟨rfl, hX⟩;exact hK _ _ ⟨V5 (wP bx).toArray, by simp [d1, bA], hI.step hX (Vu _) V9 V9 (λ_ _ => rfl) (λh => Wb) (λh => Wb)⟩
          · refine VE rfl (λK hK => ?_)
            have d2 : vs 2 =V5 (wP bx).toArray := hI.v 2 V9 (hd 2 V8) V9 V9 V9 V9;go_simp;exact hK _ _ ⟨_, by simp [d2, bA], hI.step ((Below.refl _ _).alloc (Vu _) _) (Vu _) V9 V9 (λh => absurd rfl h) (λ_ => ⟨_, rfl, ai.new _ _ _⟩) (λh => Wb)⟩
          · refine kG rfl rfl ?_
            have d0 : vs 0 = X := hI.v 0 V9 (hd 0 V8) V9 V9 V9 V9;obtain ⟨g, e3, hr3⟩ := hI.s3 (hd 3 V8) hLi;have ha := hI.a;rw [hLi] at ha;simp only [if_neg (by decide : ¬ Vw = VD)] at ha;refine wp_append_own _ (.tmp 25) (.tmp 28) 233 rfl (w.heap.size + 2) 236 ib _ 4 32 underlying233 IB0.o IB1.o IB2.o IB3.o rfl V7 X (ln ll) (lz ll).flatten d0 ha ⟨g, 0, Vx⟩ 1 1 (wP bx) e3 Wl (λj u hj => by rw [Addr.add_lit, Nat.zero_add, hr3.cell]; exact hj) (by simp [Value.oneCell']) (by unfold VP; omega) V7 hI.sz ?_;intro v' w' hown' hgr' _;exact ⟨v', rfl, hI.SY (Vu _) hLi hown' hgr'⟩
          · refine VE rfl (λK hK => ?_)
            go_simp;exact hK _ _ ⟨Y, rfl, hI.step (Ext.aC _) (Vu _) V9 V9 (λ_ _ => rfl) (λh => Wb) (λh => Wb)⟩
          · refine VE rfl (λK hK => ?_)
            go_simp;exact hK _ _ ⟨VZ VH (k : Int), rfl, hI.step (Ext.aC _) (Vu _) V9 V9 (λ_ _ => rfl) (λh => Wb) (λh => Wb)⟩
          · refine VE rfl (λK hK => ?_)
            go_simp;exact hK _ _ ⟨VZ VH (j : Int), rfl, hI.step (Ext.aC _) (Vu _) V9 V9 (λ_ _ => rfl) (λh => Wb) (λh => Wb)⟩
          · refine VE rfl (λK hK => ?_)
            have d6 : vs 6 =VZ VH (k : Int) := hI.v 6 V9 (hd 6 V8) V9 V9 V9 V9;have d7 : vs 7 =VZ VH (j : Int) := hI.v 7 V9 (hd 7 V8) V9 V9 V9 V9;go_simp;exact hK _ _ ⟨V5 (II k j).toArray, by simp [d6, d7, bA], hI.step (Ext.aC _) (Vu _) V9 V9 (λ_ _ => rfl) (λh => Wb) (λh => Wb)⟩
          · refine VE rfl (λK hK => ?_)
            have d8 : vs 8 =V5 (II k j).toArray := hI.v 8 V9 (hd 8 V8) V9 V9 V9 V9;go_simp;exact hK _ _ ⟨_, by simp [d8, bA], hI.step ((Below.refl _ _).alloc (Vu _) _) (Vu _) V9 V9 (λ_ h => absurd rfl h) (λh => Wb) (λ_ => ⟨_, rfl, ai.new _ _ _⟩)⟩
          · refine kG rfl rfl ?_
            have d5 : vs 5 = Y := hI.v 5 V9 (hd 5 V8) V9 V9 V9 V9;obtain ⟨g, e9, hr9⟩ := hI.s9 (hd 9 V8) hLi;have ha := hI.p;rw [hLi] at ha;simp only [if_neg (by decide : ¬ Vw = VD)] at ha;refine wp_append_own _ (.tmp 30) (.tmp 34) 234 rfl (w.heap.size + 2) 239 ip _ 2 16 underlying234 IP0.o IP1.o IP2.o IP3.o rfl V7 Y (ln ll) (lD ll).flatten d5 ha ⟨g, 0, Vx⟩ 1 1 (II k j) e9 Wl (λj' u hj => by rw [Addr.add_lit, Nat.zero_add, hr9.cell]; exact hj) (by simp [Value.oneCell']) (by unfold VP; omega) V7 hI.sz ?_;intro v' w' hown' hgr' _;exact ⟨v', rfl, hI.Q8 (Vu _) hLi hown' hgr'⟩
    · obtain rfl : k = ln rs := by omega
      have hlt' : decide ((ln rs : Int) < (ln rs : Int)) = Vw := by rw [decide_eq_false_iff_not]; omega
      obtain ⟨X, Y, hXY⟩ := hJ.ex;obtain ⟨L, hL⟩ : ∃ L, ky rs (ln rs) = L := ⟨_, rfl⟩;rw [hL] at hXY;have hmem : ∀ x ∈ L, x.1 < ln rs /\ x.2.1 < (rs.getD x.1 []).length := λx hx => J3 (Vu _) (by rw [hL]; exact hx)
      have hlenL : ln L <= 24 := by
        rw [<- hL, BR rs _ (Vu _), List.take_length]; exact hok.len
      have HCR := Vs (show ff rs = cz (λi => cz (λk => uC rs (L.getD i sL) (L.getD k sL)) i) (ln L) by unfold ff; rw [hL]);clear hL;obtain ⟨AX, cX, rfl, hSX⟩ := aK hXY.a (by rw [VC]) (Pd _);obtain ⟨AY, cY, rfl, hSY⟩ := aK hXY.p (by rw [VC]) (Pu _);have hX1 := hSX.1;have hX2 := hSX.2.1;have hY1 := hSY.1;have hY2 := hSY.2.1;rw [VC] at hX1 hY1;unfold VP at hX2 hY2;have cx0 := hXY.ba.cell;have HB := Vs hXY;have HSX := Vs hSX;have HSY := Vs hSY;have HMEM := Vs hmem;have HJ := Vs hJ;have HM := Vs hM;clear hXY hSX hSY hmem hJ hM
      gi_wp2
      refine wpIn_wide.2 ?_;go_loopw [39] (λi wr => ∃ m : Nat, m <= ln L /\ i =VZ VH (m : Int) /\ Ext W wr /\ ∀ j, j < m -> cz (λk => uC rs (L.getD j sL) (L.getD k sL)) j = Vw) (λi _ => ((ln L : Int) - VN i).toNat)
      case atStart => exact ⟨0, V7, rfl, Below.refl _ _, λj hj => V7⟩
      case round =>
        obtain ⟨m, hm, rfl, hx, hall⟩ := hrel;have HX := Vs hx;have HA := Vs hall;clear hx hall;have hzW := HJ.o.low.size;by_cases hlm : m < ln L
        · have hpos : 0 < ln L := by omega
          go_wp2;go_loopw [43] (λq wr' => ∃ k : Nat, k <= m /\ q =VZ VH (k : Int) /\ Ext W wr' /\ ∀ j, j < k -> uC rs (L.getD m sL) (L.getD j sL) = Vw) (λq _ => ((m : Int) - VN q).toNat)
          case atStart => exact ⟨0, V7, rfl, HX.o, λj hj => V7⟩
          case round =>
            obtain ⟨k, hk, rfl, hx', hall'⟩ := hrel;have HX' := Vs hx';have HA' := Vs hall';clear hx' hall';by_cases hlk : k < m
            · obtain ⟨bX, oX, rfl, hbX, hcX⟩ := HSX.o.2.2 (by rw [VC]; exact hpos)
              obtain ⟨bY, oY, rfl, hbY, hcY⟩ := HSY.o.2.2 (by rw [VC]; exact hpos);rw [VC] at hcX hcY;have hkL : k < ln L := V7;obtain ⟨⟨ri, si, bi⟩, hi⟩ : ∃ x, L.getD m sL = x := ⟨_, rfl⟩;obtain ⟨⟨rk, sk, bk⟩, hkk⟩ : ∃ x, L.getD k sL = x := ⟨_, rfl⟩;have hmi := HMEM.o (L.getD m sL) (by rw [Vv, VA hlm]; exact List.getElem_mem hlm);have hmk := HMEM.o (L.getD k sL) (by rw [Vv, VA hkL]; exact List.getElem_mem hkL);rw [hi] at hmi;rw [hkk] at hmk;dsimp only at hmi hmk;obtain ⟨hr1, hs1⟩ := hmi;obtain ⟨hr2, hs2⟩ := hmk;have hl1 := (hok.ring hr1).2.2;have hl2 := (hok.ring hr2).2.2;obtain ⟨b, off, rfl, hB, hcell⟩ := hr.2.2 V7;obtain ⟨Ai, ci, hc1, _⟩ := hcell ri hr1;have hc1' : wr.cell? ⟨b, off + ri, Vx⟩ = Vz (VV Ai (rs.getD ri []).length ci) := (HX'.o.cell (p := ⟨b, off + ri, Vx⟩) (by show b < W.heap.size; omega)).trans ((HJ.o.low.cell (p := ⟨b, off + ri, Vx⟩) hB).trans hc1);have HH := Vs (show uC rs (L.getD m sL) (L.getD k sL) = (!(ri == rk && ((si : Int) - sk == 1 || (si : Int) - sk == ((rs.getD ri []).length : Int) - 1)) && eo bi bk) by rw [hi, hkk]; rfl);obtain ⟨n, hn⟩ : ∃ n, (rs.getD ri []).length = n := ⟨_, rfl⟩;rw [hn] at hl1 hs1 hc1' HH;have HXc := Vs (λi (hi : i < ln L) j (hj : j < 4) => (HX'.o.cell (p := ⟨bX, oX + 4 * i + j, Vx⟩) hbX).trans (hcX i hi j hj));have HYc := Vs (λi (hi : i < ln L) j (hj : j < 2) => (HX'.o.cell (p := ⟨bY, oY + 2 * i + j, Vx⟩) hbY).trans (hcY i hi j hj));have y0 := HYc.o m hlm 0 V9;have y1 := HYc.o m hlm 1 V9;have y2 := HYc.o k hkL 0 V9;have y3 := HYc.o k hkL 1 V9;rw [ya hlm, hi] at y0 y1;rw [ya hkL, hkk] at y2 y3;rw [Nat.add_zero, VL] at y0 y2;rw [VL] at y1 y3;have x0 := HXc.o m hlm 0 V9;have x1 := HXc.o m hlm 1 V9;have x2 := HXc.o m hlm 2 V9;have x3 := HXc.o m hlm 3 V9;have x4 := HXc.o k hkL 0 V9;have x5 := HXc.o k hkL 1 V9;have x6 := HXc.o k hkL 2 V9;have x7 := HXc.o k hkL 3 V9;rw [xG hlm, hi] at x0 x1 x2 x3;rw [xG hkL, hkk] at x4 x5 x6 x7;rw [Nat.add_zero, VL] at x0 x4;rw [VL] at x1 x2 x3 x5 x6 x7;dsimp only [wP, II] at x0 x1 x2 x3 x4 x5 x6 x7 y0 y1 y2 y3;have cp := (HB.o.bp.stays (HX'.o.stays (n0 := 0) (Nat.zero_le _))).cell;have ca := (HB.o.ba.stays (HX'.o.stays (n0 := 0) (Nat.zero_le _))).cell;have hrn : ri < ln rs := hr1;clear hcell hc1 hcX hcY hi hkk hn HXc HYc;have CMT := Vs (λW => Eb bi bk W);obtain ⟨mt, hmt⟩ : ∃ mt, eo bi bk = mt := ⟨_, rfl⟩;simp only [hmt] at CMT;rw [hmt] at HH;clear hmt;obtain ⟨e1, he1⟩ : ∃ e1, (ri == rk) = e1 := ⟨_, rfl⟩;have t1 : ((ri : Int) == (rk : Int)) = e1 := by rw [<- he1, Bool.eq_iff_iff]; simp only [beq_iff_eq]; omega
              obtain ⟨e2, t2⟩ : ∃ e2, ((si : Int) - (sk : Int) == 1) = e2 := ⟨_, rfl⟩;obtain ⟨e3, t3⟩ : ∃ e3, ((si : Int) - (sk : Int) == (n : Int) - 1) = e3 := ⟨_, rfl⟩;rw [he1, t2, t3] at HH;clear he1;have HHf := Vs (λ(h : uC rs (L.getD m sL) (L.getD k sL) = Vw) => (show ∀ j, j < k + 1 -> uC rs (L.getD m sL) (L.getD j sL) = Vw fromλj hj => by
                by_cases hjk : j = k
                · rw [hjk]; exact h
                · exact HA'.o j V7))
              have HTR0 := Vs (λ(h : uC rs (L.getD m sL) (L.getD k sL) = VD) => (show ff rs = VD by
                rw [HCR.o]; exact dI hlm (dI hlk h)))
              have w1 : VH.wrap ((si : Int) - (sk : Int)) = (si : Int) - (sk : Int) := VQ _ V7;have w2 : VH.wrap ((n : Int) - 1) = (n : Int) - 1 := VQ _ V7;cases e1 <;> cases e2 <;> cases e3
              all_goals
                go_wp2;go_quiet (fail)
                go_wp2;go_quiet (fail)
                go_wp2
              all_goals first
                | (have HZ := Vs (show uC rs (L.getD m sL) (L.getD k sL) = mt by rw [HH.o]; rfl)
                   refine dx 11 V8 V8 (λW2 hW2 => ?_);have hw2 : Ext wr W2 := Hd hW2;have hX2 := HX'.o.tr hw2;have HX2 := Vs hX2;have ca2 := (HB.o.ba.stays (hX2.stays (n0 := 0) (Nat.zero_le _))).cell;have hbXw : bX < wr.heap.size := Nat.lt_of_lt_of_le hbX HX'.o.size;have z0 := (hw2.cell (p := ⟨bX, oX + m * 4, Vx⟩) hbXw).trans x0;have z1 := (hw2.cell (p := ⟨bX, oX + m * 4 + 1, Vx⟩) hbXw).trans x1;have z2 := (hw2.cell (p := ⟨bX, oX + m * 4 + 2, Vx⟩) hbXw).trans x2;have z3 := (hw2.cell (p := ⟨bX, oX + m * 4 + 3, Vx⟩) hbXw).trans x3;have z4 := (hw2.cell (p := ⟨bX, oX + k * 4, Vx⟩) hbXw).trans x4;have z5 := (hw2.cell (p := ⟨bX, oX + k * 4 + 1, Vx⟩) hbXw).trans x5;have z6 := (hw2.cell (p := ⟨bX, oX + k * 4 + 2, Vx⟩) hbXw).trans x6;have z7 := (hw2.cell (p := ⟨bX, oX + k * 4 + 3, Vx⟩) hbXw).trans x7;clear hw2 hX2 hW2 x0 x1 x2 x3 x4 x5 x6 x7 y0 y1 y2 y3 cp ca hc1';simp only [List.take_succ_cons, List.take_zero, List.drop_succ_cons, List.drop_zero]
                   repeat still_step
                   refine wpStill_nil ?_;cases mt
                   · have HHX := Vs (HHf.o HZ.o)
                     go_wp2_with (go_at_call 197; go_must (refine (CMT.o _).mono ?_); rintro e W5 ⟨rfl, hX5⟩)
                     exact ⟨⟨k + 1, V7, Wa, HX2.o.tr hX5, HHX.o⟩, WI⟩
                   · have HTR := Vs (HTR0.o HZ.o)
                     go_wp2_with (go_at_call 197; go_must (refine (CMT.o _).mono ?_); rintro e W5 ⟨rfl, hX5⟩)
                     have hxe := HX2.o.tr hX5;refine (HM.o.keeps hxe.keeps).leaves (λW' hW' => ?_);exact ⟨VX VD, by simp [results, results135, go_sem], by rw [HTR.o], (HJ.o.low.trans (hxe.mono hzW)).trans hW'.below⟩)
                | (have HHX := Vs (HHf.o (by rw [HH.o]; rfl))
                   go_quiet (fail)
                   go_wp2;exact ⟨⟨k + 1, V7, Wa, below_drewN HX'.o _, HHX.o⟩, WI⟩)
            · obtain rfl : k = m := by omega
              have hlt3 : decide ((k : Int) < (k : Int)) = Vw := by rw [decide_eq_false_iff_not]; omega
              go_wp2;refine ⟨⟨k + 1, V7, Wa, HX'.o, λj hj => ?_⟩, WI⟩;by_cases hjk : j = k
              · rw [hjk]; exact bh HA'.o
              · exact HA.o j V7
        · obtain rfl : m = ln L := by omega
          have hlt3 : decide ((ln L : Int) < (ln L : Int)) = Vw := by rw [decide_eq_false_iff_not]; omega
          have HE := Vs (show ff rs = Vw by rw [HCR.o]; exact bh HA.o);go_wp2
          gi_wp2
          refine (HM.o.keeps HX.o.keeps).leaves (λW' hW' => ?_);exact ⟨VX Vw, by simp [results, results135, go_sem], by rw [HE.o], (HJ.o.low.trans (HX.o.mono hzW)).trans hW'.below⟩
end
section
open Kp
theorem uN(l:List α)(d:α)(p:α->Bool):cz (λi=>p (l.getD i d)) (ln l)=l.any p:=by
 rw[Bool.eq_iff_iff,Nu,List.any_eq_true];constructor
 ·rintro⟨i,hi,hp⟩;refine⟨l[i],List.getElem_mem hi,?_⟩;rwa[Vv,VA hi] at hp
 ·rintro⟨x,hx,hp⟩;obtain⟨i,hi,rfl⟩:=List.mem_iff_getElem.1 hx;exact⟨i,hi,by rw[Vv,VA hi];exact hp⟩
def BT(s:Sd)(w:Vt):VJ prog 130 #[V5 (ni s).toArray] w λe w'=>e=V0 (VX (!aJ s))/\Ext w w':=by
 have E0:=Vs (show Ext w (w.alloc (.cells (ni s).toArray 54)) from(Below.refl _ _).alloc (Vu _) _);have c:=Vs (λW=>CM s W);obtain⟨r,hr⟩:∃r,aJ s=r:=⟨_,rfl⟩;simp only[hr] at c⊢;clear hr;go_enter func130,ntmps130;go_wp2_with(go_at_call 131;go_must(refine(c.o _).mono ?_);rintro e W1 ⟨rfl,hX1⟩)
 go_ret;exact⟨rfl,E0.o.tr hX1⟩
def BG(w:Vt)(A:Option VT)(cap:Nat)(r:List Sd)(hr:bJ 7 w w.heap.size A cap (aD r))(hc:Ms r)(hn:ln r<=1000):
  VJ prog 133 #[VV A (ln r) cap] w λe w'=>e=V0 (VX (!cH r))/\Ext w w':=by
 have c:=Vs (CZ w A cap r hr hc hn);obtain⟨b,hb⟩:∃b,cH r=b:=⟨_,rfl⟩;obtain⟨n,hn⟩:∃n,ln r=n:=⟨_,rfl⟩;rw[hb,hn] at c;rw[hb,hn];clear hb hn hr hc;go_enter func133,ntmps133;go_wp2_with(go_at_call 134;go_must(refine c.o.mono ?_);rintro e W1 ⟨rfl,hX1⟩)
 go_ret;exact⟨rfl,hX1⟩
noncomputable def jH(w:Vt)(b off n:Nat):List (List Vy):=(List.range n).map λi=>[(w.cell? ⟨b,off+i,Vx⟩).getD VB]
theorem xy{b off n i:Nat}(hi:i<n):(jH w b off n).getD i []=[(w.cell? ⟨b,off+i,Vx⟩).getD VB]:=by
 unfold jH;simp[List.getD,hi]
def PO(w:Vt)(b off n:Nat):de 1 (jH w b off n):=bC (f:=λi=>[(w.cell? ⟨b,off+i,Vx⟩).getD VB]) (λ_=>rfl) _
theorem fj.rows{B b off cap:Nat}{rs:List (List Sd)}(h:fj w B (Vz ⟨b,off,Vx⟩) cap rs)(hp:0<ln rs):bJ 1 w B (Vz ⟨b,off,Vx⟩) cap (jH w b off (ln rs)):=by
 obtain⟨h1,h2,h3⟩:=h;have hl:(jH w b off (ln rs)).length=ln rs:=by unfold jH;simp
 refine⟨by rw[hl];exact h1,h2,λ_=> ?_⟩;obtain⟨b',off',e,hB,hc⟩:=h3 hp;obtain⟨rfl,rfl⟩:b=b'/\off=off':=Xh;refine⟨b,off,rfl,hB,λi hi j hj=> ?_⟩;obtain rfl:j=0:=V7;rw[hl] at hi;obtain⟨Ai,ci,h4,_⟩:=hc i hi;rw[xy hi,Nat.one_mul,Nat.add_zero,h4];rfl
theorem Qb{b off cap:Nat}{rs:List (List Sd)}(h:fj w w.heap.size (Vz ⟨b,off,Vx⟩) cap rs)(hp:0<ln rs)(hco:∀r∈rs,Ms r)(hlen:ln rs.flatten<=24):
  xJ 133 #[] 1 (jH w b off (ln rs)) (λi=> !cH (rs.getD i [])) w:=by
 intro W i hi hx;have hl:(jH w b off (ln rs)).length=ln rs:=by unfold jH;simp
 rw[hl] at hi;obtain⟨b',off',e,hB,hc⟩:=h.2.2 hp;obtain⟨rfl,rfl⟩:b=b'/\off=off':=Xh;obtain⟨Ai,ci,h4,h5⟩:=hc i hi;have e:rs.getD i []=rs[i]:=by rw[Vv,VA hi];rfl
 have hcr:Ms (rs.getD i []):=by rw[e];exact hco _ (List.getElem_mem hi)
 have hle:(rs.getD i []).length<=1000:=by
  rw[e];exact VI (List.sublist_flatten_of_mem (List.getElem_mem hi)).length_le V7
 rw[xy hi,h4];exact BG W Ai ci _ ((h5.below hx).more hx.size) hcr hle
def Of(l:List Sd)(w:Vt):xJ 130 #[] 7 (aD l) (λi=> !aJ (l.getD i Qp)) w:=by
 intro W i hi hx;rw[VC] at hi;rw[ke hi];exact BT _ W
def Vb(rs:List (List Sd))(s i:Vy):Prop:=∃k:Nat,k<=ln rs/\i=VZ VH (k:Int)/\s=VZ VH ((rs.take k).flatten.length:Int)/\∀j,j<k->rs.getD j []≠[]
def vz(w:Vt)(A:Option VT)(cap:Nat)(rs:List (List Sd))(hr:fj w w.heap.size A cap rs)(hbig:ln rs.flatten<=4000000000):
  VJ prog 63 #[V5 #[VV A (ln rs) cap]] w λe w'=>e=V0 (VZ VH (dv rs))/\Ext w w':=by
 have h1:=hr.1;have h2:=hr.2.1;unfold VP at h2;have E0:=Vs (show Ext w (w.alloc (.cells #[VV A (ln rs) cap] 24)) from(Below.refl _ _).alloc (Vu _) _);have R0:=Vs (Bx.new w 24 (VV A (ln rs) cap));have Z0:=Vs (show w.heap.size<(w.alloc (.cells #[VV A (ln rs) cap] 24)).heap.size by simp);have HR:=Vs ((hr.below E0.o).more (B':=(w.alloc (.cells #[VV A (ln rs) cap] 24)).heap.size) Wa);clear hr;go_enter func63,ntmps63;go_wp2;obtain⟨w0,hw0⟩:∃w0,w.alloc (.cells #[VV A (ln rs) cap] 24)=w0:=⟨_,rfl⟩;simp only[hw0] at E0 R0 Z0 HR⊢;clear hw0;have c0:=R0.o.cell
 go_loop [3,9] (λs i=>Vb rs s i) (λ_ i=>((ln rs:Int)-VN i).toNat)
 case atStart=>exact⟨0,V7,rfl,Wa,λj hj=>V7⟩
 case round=>
  obtain⟨k,hk,rfl,rfl,hall⟩:=hrel;have HA:=Vs hall;clear hall;by_cases hlt:k<ln rs
  ·obtain⟨b,off,rfl,hB,hcell⟩:=HR.o.2.2 V7;obtain⟨Ai,ci,c1,hsl⟩:=hcell k hlt;have hq:=dE hlt;have hle:=eG rs (k+1);have hq2:((rs.take (k+1)).flatten.length:Int)=((rs.take k).flatten.length:Int)+((rs.getD k []).length:Int):=by rw[hq];simp
   obtain⟨m,hm⟩:∃m,(rs.take k).flatten.length=m:=⟨_,rfl⟩;obtain⟨d,hd⟩:∃d,(rs.getD k []).length=d:=⟨_,rfl⟩;rw[hd] at c1;have hs:m+d<=4000000000:=by rw[hm,hd] at hq2;omega
   rw[hm];have HQ:=Vs hq2;have HM:=Vs hm;have HD:=Vs hd;clear hcell hsl hq hq2 hm hd hle;by_cases h0:d=0
   ·have tz:((d:Int)==0)=VD:=by rw[h0];rfl
    have HE:=Vs (show dv rs=5 by
     have:rs.any (·.isEmpty)=VD:=by
      rw[List.any_eq_true];refine⟨rs[k],List.getElem_mem hlt,?_⟩;have hz:=HD.o;rw[h0,Vv,VA hlt] at hz;rw[List.isEmpty_iff];exact List.length_eq_zero_iff.1 hz
     unfold dv;rw[this];rfl)
    clear h0;go_wp2;go_ret;exact⟨Wq,E0.o⟩
   ·have tz:((d:Int)==0)=Vw:=Wj;have HN:=Vs (show rs.getD k []≠[] by intro e;have hz:=HD.o;rw[e] at hz;exact h0 hz.symm);clear h0;go_wp2
    go_round
    case rel=>exact⟨k+1,V7,by go_num,by rw[HQ.o,HM.o,HD.o],λj hj=>by
     by_cases hjk:j=k
     ·rw[hjk];exact HN.o
     ·exact HA.o j V7⟩
    case measure=>simp[VN];omega
  ·obtain rfl:k=ln rs:=V7;have ht:(rs.take (ln rs)).flatten.length=ln rs.flatten:=by rw[List.take_length]
   rw[ht];clear ht;have hne:∀r∈rs,r≠[]:=by
    intro r hr;obtain⟨i,hi,rfl⟩:=List.mem_iff_getElem.1 hr;have:=HA.o i hi;rwa[Vv,VA hi] at this
   have hany:rs.any (·.isEmpty)=Vw:=by
    rw[List.any_eq_false];intro r hr;simpa[List.isEmpty_iff] using hne r hr
   have HANY:=Vs hany;clear hany HA;obtain⟨m,hm⟩:∃m,ln rs.flatten=m:=⟨_,rfl⟩;rw[hm] at hbig⊢;have HM:=Vs hm;clear hm;by_cases hrs:rs=[]
   ·have hm0:m=0:=by rw[<-HM.o,hrs];rfl
    have tz:((m:Int)==0)=VD:=by rw[hm0];rfl
    have HE:=Vs (show dv rs=5 by unfold dv;rw[hrs];rfl);clear hrs hm0;go_wp2;go_ret;exact⟨Wq,E0.o⟩
   have hpos:0<ln rs:=List.length_pos_iff.2 hrs;have hm1:0<m:=by
    rw[<-HM.o];obtain⟨r,l,e⟩:=List.exists_cons_of_ne_nil hrs;have:=List.length_pos_iff.2 (hne r (by rw[e];simp));rw[e,List.flatten_cons,VM];omega
   have tz:((m:Int)==0)=Vw:=Wj;have HNE:=Vs hne;have HRS:=Vs (show rs.isEmpty=Vw by simpa[List.isEmpty_iff] using hrs);clear hne hrs;by_cases h24:24<m
   ·have HE:=Vs (show dv rs=4 by unfold dv;rw[HANY.o,HRS.o,HM.o,if_neg V9,if_pos h24]);go_wp2;go_ret;exact⟨Wq,E0.o⟩
   have HE:=Vs (show dv rs=if rs.flatten.any (λs=> !aJ s) then 2 else if rs.any (λr=> !cH r) then 14 else if ff rs then 15 else if !fD rs|| !gC rs then 14 else 0 by
    unfold dv;rw[HANY.o,HRS.o,HM.o,if_neg V9,if_neg h24])
   obtain⟨b,off,rfl,hB,_⟩:=id (HR.o.2.2 hpos);have hrow:=Vs (λ(W:Vt) (h:Ext w0 W)=>((HR.o.below h).more h.size:fj W W.heap.size (Vz ⟨b,off,Vx⟩) cap rs));have k1:=Vs (sA w0 (Vz ⟨b,off,Vx⟩) cap rs HR.o HNE.o (by rw[HM.o];omega));have hnl:=Vs (show(aD rs.flatten).length=m by rw[VC,HM.o]);have k2:=Vs (λ(W:Vt) (A':Option VT) (cap':Nat) (h:bJ 7 W W.heap.size A' cap' (aD rs.flatten))=>
    (ze W A' cap' m (aD rs.flatten) hnl.o h (dG _) (λi=> !aJ (rs.flatten.getD i Qp)) 130 #[] (enters_of func130 V8 rfl) (Of _ W)))
   have ha1:cz (λi=> !aJ (rs.flatten.getD i Qp)) m=rs.flatten.any (λs=> !aJ s):=by rw[<-HM.o];exact uN rs.flatten Qp (λs=> !aJ s)
   rw[HM.o] at k1;cases t1:rs.flatten.any (λs=> !aJ s)
   case true=>
    have HV:=Vs (show dv rs=2 by rw[HE.o,t1];rfl);rw[t1] at ha1;simp only[ha1] at k2;clear ha1 t1;go_wp2_with(first
     |(go_at_call 128;go_must(refine(k2.o _ _ _ HS1.o).mono ?_);rintro e W2 ⟨rfl,hX2⟩)
     |(go_at_call 129;go_must(refine k1.o.mono ?_);rintro e W1 ⟨A',cap',rfl,hS1,hX1⟩;have HS1:=Vs hS1;clear hS1))
    go_ret;exact⟨Wy,(E0.o.tr hX1).tr hX2⟩
   rw[t1] at ha1;simp only[ha1] at k2;have hco:∀r∈rs,Ms r:=by
    intro r hr s hs;rw[List.any_eq_false] at t1;have:=t1 s (List.mem_flatten.2 ⟨r,hr,hs⟩);simp only[Bool.not_eq_true,Bool.not_eq_false'] at this;unfold aJ at this;simp only[Bool.and_eq_true,aP,decide_eq_true_eq] at this;exact⟨this.1.1.1.2,this.1.1.2⟩
   have HE1:=Vs (show dv rs=if rs.any (λr=> !cH r) then 14 else if ff rs then 15 else if !fD rs|| !gC rs then 14 else 0 by rw[HE.o,t1];rfl);clear ha1 t1;have hlen24:ln rs.flatten<=24:=by rw[HM.o];omega
   have hok:BE rs:=⟨HNE.o,hco,hlen24⟩;have HOK:=Vs hok;have hnr:=Vs (λW=>show(jH W b off (ln rs)).length=ln rs by unfold jH;simp);have k3:=Vs (λ(W:Vt) (h:Ext w0 W)=>
    (zv W (Vz ⟨b,off,Vx⟩) cap (ln rs) (jH W b off (ln rs)) (hnr.o W) ((hrow.o W h).rows hpos) (PO _ _ _ _) (λi=> !cH (rs.getD i [])) 133 #[] (enters_of func133 V8 rfl) (Qb (hrow.o W h) hpos hco hlen24)))
   have ha2:cz (λi=> !cH (rs.getD i [])) (ln rs)=rs.any (λr=> !cH r):=uN rs [] (λr=> !cH r);clear hco hok hlen24;cases t2:rs.any (λr=> !cH r)
   case true=>
    have HV:=Vs (show dv rs=14 by rw[HE1.o,t2];rfl);rw[t2] at ha2;simp only[ha2] at k3;clear ha2 t2;go_wp2_with(first
     |(go_at_call 132;go_must(refine(k3.o _ hx2).mono ?_);rintro e W3 ⟨rfl,hX3⟩;have hx3:Ext w0 W3:=hx2.tr hX3)
     |(go_at_call 128;go_must(refine(k2.o _ _ _ HS1.o).mono ?_);rintro e W2 ⟨rfl,hX2⟩;have hx2:Ext w0 W2:=hx1.tr hX2;have c2:=(R0.o.stays (hx2.stays (n0:=0) (Nat.zero_le _))).cell)
     |(go_at_call 129;go_must(refine k1.o.mono ?_);rintro e W1 ⟨A',cap',rfl,hS1,hx1⟩;have HS1:=Vs hS1;clear hS1))
    go_ret;exact⟨Wy,E0.o.tr hx3⟩
   rw[t2] at ha2;simp only[ha2] at k3;have HE2:=Vs (show dv rs=if ff rs then 15 else if !fD rs|| !gC rs then 14 else 0 by rw[HE1.o,t2];rfl);clear ha2 t2;have k4:=Vs (λ(W:Vt) (h:Ext w0 W)=>AA W (Vz ⟨b,off,Vx⟩) cap rs (hrow.o W h) HOK.o);have k5:=Vs (λ(W:Vt) (h:Ext w0 W)=>Bi W (Vz ⟨b,off,Vx⟩) cap rs (hrow.o W h) HOK.o);have k6:=Vs (λ(W:Vt) (h:Ext w0 W)=>AG W (Vz ⟨b,off,Vx⟩) cap rs (hrow.o W h) HOK.o);obtain⟨x4,hx4e⟩:∃x,ff rs=x:=⟨_,rfl⟩;obtain⟨x5,hx5e⟩:∃x,fD rs=x:=⟨_,rfl⟩;obtain⟨x6,hx6e⟩:∃x,gC rs=x:=⟨_,rfl⟩;simp only[hx4e] at k4;simp only[hx5e] at k5;simp only[hx6e] at k6;rw[hx4e,hx5e,hx6e] at HE2;clear hx4e hx5e hx6e;cases x4
   case true=>
    have HV:=Vs (show dv rs=15 by rw[HE2.o];rfl);go_wp2_with(first
     |(go_at_call 135;go_must(refine(k4.o _ hx3).mono ?_);rintro e W4 ⟨rfl,hX4⟩;have hx4:Ext w0 W4:=hx3.tr hX4;have c4:=(R0.o.stays (hx4.stays (n0:=0) (Nat.zero_le _))).cell)
     |(go_at_call 132;go_must(refine(k3.o _ hx2).mono ?_);rintro e W3 ⟨rfl,hX3⟩;have hx3:Ext w0 W3:=hx2.tr hX3;have c3:=(R0.o.stays (hx3.stays (n0:=0) (Nat.zero_le _))).cell)
     |(go_at_call 128;go_must(refine(k2.o _ _ _ HS1.o).mono ?_);rintro e W2 ⟨rfl,hX2⟩;have hx2:Ext w0 W2:=hx1.tr hX2;have c2:=(R0.o.stays (hx2.stays (n0:=0) (Nat.zero_le _))).cell)
     |(go_at_call 129;go_must(refine k1.o.mono ?_);rintro e W1 ⟨A',cap',rfl,hS1,hx1⟩;have HS1:=Vs hS1;clear hS1))
    go_ret;exact⟨Wy,E0.o.tr hx4⟩
   cases x5
   case false=>
    have HV:=Vs (show dv rs=14 by rw[HE2.o];rfl);go_wp2_with(first
     |(go_at_call 136;go_must(refine(k5.o _ hx4).mono ?_);rintro e W5 ⟨rfl,hX5⟩;have hx5:Ext w0 W5:=hx4.tr hX5;have c5:=(R0.o.stays (hx5.stays (n0:=0) (Nat.zero_le _))).cell)
     |(go_at_call 135;go_must(refine(k4.o _ hx3).mono ?_);rintro e W4 ⟨rfl,hX4⟩;have hx4:Ext w0 W4:=hx3.tr hX4;have c4:=(R0.o.stays (hx4.stays (n0:=0) (Nat.zero_le _))).cell)
     |(go_at_call 132;go_must(refine(k3.o _ hx2).mono ?_);rintro e W3 ⟨rfl,hX3⟩;have hx3:Ext w0 W3:=hx2.tr hX3;have c3:=(R0.o.stays (hx3.stays (n0:=0) (Nat.zero_le _))).cell)
     |(go_at_call 128;go_must(refine(k2.o _ _ _ HS1.o).mono ?_);rintro e W2 ⟨rfl,hX2⟩;have hx2:Ext w0 W2:=hx1.tr hX2;have c2:=(R0.o.stays (hx2.stays (n0:=0) (Nat.zero_le _))).cell)
     |(go_at_call 129;go_must(refine k1.o.mono ?_);rintro e W1 ⟨A',cap',rfl,hS1,hx1⟩;have HS1:=Vs hS1;clear hS1))
    go_ret;exact⟨Wy,E0.o.tr hx5⟩
   cases x6;all_goals
    go_wp2_with(first
     |(go_at_call 137;go_must(refine(k6.o _ hx5).mono ?_);rintro e W6 ⟨rfl,hX6⟩;have hx6:Ext w0 W6:=hx5.tr hX6)
     |(go_at_call 136;go_must(refine(k5.o _ hx4).mono ?_);rintro e W5 ⟨rfl,hX5⟩;have hx5:Ext w0 W5:=hx4.tr hX5;have c5:=(R0.o.stays (hx5.stays (n0:=0) (Nat.zero_le _))).cell)
     |(go_at_call 135;go_must(refine(k4.o _ hx3).mono ?_);rintro e W4 ⟨rfl,hX4⟩;have hx4:Ext w0 W4:=hx3.tr hX4;have c4:=(R0.o.stays (hx4.stays (n0:=0) (Nat.zero_le _))).cell)
     |(go_at_call 132;go_must(refine(k3.o _ hx2).mono ?_);rintro e W3 ⟨rfl,hX3⟩;have hx3:Ext w0 W3:=hx2.tr hX3;have c3:=(R0.o.stays (hx3.stays (n0:=0) (Nat.zero_le _))).cell)
     |(go_at_call 128;go_must(refine(k2.o _ _ _ HS1.o).mono ?_);rintro e W2 ⟨rfl,hX2⟩;have hx2:Ext w0 W2:=hx1.tr hX2;have c2:=(R0.o.stays (hx2.stays (n0:=0) (Nat.zero_le _))).cell)
     |(go_at_call 129;go_must(refine k1.o.mono ?_);rintro e W1 ⟨A',cap',rfl,hS1,hx1⟩;have HS1:=Vs hS1;clear hS1))
    go_ret;exact⟨by rw[HE2.o];rfl,E0.o.tr hx6⟩
def Ea(w:Vt)(A:Option VT)(cap:Nat)(rs:List (List Sd))(hr:fj w w.heap.size A cap rs)(hbig:ln rs.flatten<=4000000000):
  VJ prog 139 #[V5 #[VV A (ln rs) cap]] w λe w'=>∃A' n cap' x,e=V0 (V6 #[VV A' n cap',VZ VH x])/\(dv rs=0->n=ln rs.flatten/\x=0/\bJ 7 w' w'.heap.size A' cap' (aD rs.flatten))/\(dv rs≠0->x=1)/\Ext w w':=by
 have E0:=Vs (show Ext w (w.alloc (.cells #[VV A (ln rs) cap] 24)) from(Below.refl _ _).alloc (Vu _) _);have R0:=Vs (Bx.new w 24 (VV A (ln rs) cap));have HR:=Vs ((hr.below E0.o).more (B':=(w.alloc (.cells #[VV A (ln rs) cap] 24)).heap.size) Wa);clear hr;obtain⟨w0,hw0⟩:∃w0,w.alloc (.cells #[VV A (ln rs) cap] 24)=w0:=⟨_,rfl⟩;have k1:=Vs (vz w0 A cap rs (by rw[<-hw0];exact HR.o) hbig);rw[hw0] at E0 R0 HR;by_cases h0:dv rs=0
 ·have hne:∀r∈rs,r≠[]:=by
   intro r hr e;have:rs.any (·.isEmpty)=VD:=List.any_eq_true.2 ⟨r,hr,XB⟩;unfold dv at h0;rw[this] at h0;simp at h0
  have hlen:ln rs.flatten<=1000:=by
   unfold dv at h0;by_cases h24:24<ln rs.flatten
   ·rw[if_pos h24] at h0;split at h0<;>simp at h0
   ·omega
  have k2:=Vs (λ(W:Vt) (h:Ext w0 W)=>sA W A cap rs ((HR.o.below h).more h.size) hne hlen);have H0:=Vs h0;rw[h0] at k1;obtain⟨m,hm⟩:∃m,ln rs.flatten=m:=⟨_,rfl⟩;rw[hm] at k2;have HM:=Vs hm;clear h0 hne hlen hbig hm;have HW:=Vs hw0;clear hw0;go_enter func139,ntmps139;go_wp2_with(first
   |(go_at_call 129;go_must(refine(k2.o _ hX1).mono ?_);rintro e W2 ⟨A',cap',rfl,hS2,hX2⟩;have HS2:=Vs hS2;clear hS2)
   |(go_at_call 63;rw[HW.o];go_must(refine k1.o.mono ?_);rintro e W1 ⟨rfl,hX1⟩;have c1:=(R0.o.stays (hX1.stays (n0:=0) (Nat.zero_le _))).cell))
  go_ret2;exact⟨_,_,_,_,rfl,λ_=>⟨HM.o.symm,rfl,HS2.o⟩,λh=>absurd H0.o h,(E0.o.tr hX1).tr hX2⟩
 ·have H0:=Vs h0;obtain⟨c,hc⟩:∃c,dv rs=c:=⟨_,rfl⟩;rw[hc] at k1 h0;have h0':(c !=0)=VD:=by rw[bne_iff_ne];exact h0
  have HW:=Vs hw0;clear hw0 hc h0;go_enter func139,ntmps139;go_wp2_with(go_at_call 63;rw[HW.o];go_must(refine k1.o.mono ?_);rintro e W1 ⟨rfl,hX1⟩)
  go_ret2;exact⟨_,_,_,_,rfl,λh=>absurd h H0.o,λ_=>rfl,E0.o.tr hX1⟩
end
section
open Kp
noncomputable def nF(rs:List (List Sd))(l:List kN):Int:=
 if(lC l).2≠0 then(lC l).2 else if dv rs≠0 then 1 else if l.any (λo=> !aP o.side 0 ((ln rs.flatten:Int)-1)) then 2 else if(lC l).1 then 0 else 28
def Eu(o:kN)(w:Vt)(B:Nat)(A:Option VT)(n cap:Nat)(hn:n<=4000000000)(hb:Bx w B 80 (VV A n cap)):
  VJ prog 141 #[V5 (vV o).toArray,VY (Vz ⟨B,0,Vx⟩)] w λe w'=>e=V0 (VX (!aP o.side 0 ((n:Int)-1)))/\Ext w w':=by
 have c:=hb.cell;have hz:=hb.lt;have E0:=Vs (show Ext w (w.alloc (.cells (vV o).toArray 57)) from(Below.refl _ _).alloc (Vu _) _);have w1:VH.wrap ((n:Int)-1)=(n:Int)-1:=VQ _ V7;have K:=Vs (λW=>gM o.side 0 ((n:Int)-1) W);obtain⟨r,hr⟩:∃r,aP o.side 0 ((n:Int)-1)=r:=⟨_,rfl⟩;simp only[hr] at K⊢;clear hb hr;go_enter func141,ntmps141;go_wp2_with(go_at_call 64;go_must(refine(K.o _).mono ?_);rintro e W1 ⟨rfl,rfl⟩)
 go_ret;exact⟨rfl,E0.o⟩
def PX(l:List kN)(w:Vt)(B:Nat)(A:Option VT)(n cap:Nat)(hn:n<=4000000000)(hb:Bx w B 80 (VV A n cap)):
  xJ 141 #[VY (Vz ⟨B,0,Vx⟩)] 5 (bw l) (λi=> !aP (l.getD i eB).side 0 ((n:Int)-1)) w:=by
 intro W i hi hx;rw[VC] at hi;rw[oB hi];exact Eu _ W B A n cap hn (hb.stays (hx.stays (n0:=0) (Nat.zero_le _)))
def we(w:Vt)(A:Option VT)(cap:Nat)(rs:List (List Sd))(A2:Option VT)(cap2:Nat)(l:List kN)(hr:fj w w.heap.size A cap rs)(hbig:ln rs.flatten<=4000000000)
  (hl:bJ 5 w w.heap.size A2 cap2 (bw l))(hs:∀o∈l,zV o)(hm:fG w)(ht:aW w):
  VJ prog 68 #[V5 #[VV A (ln rs) cap],VV A2 (ln l) cap2] w λe w'=>e=V0 (VZ VH (nF rs l))/\Ext w w':=by
 have E0:=Vs (show Ext w (w.alloc (.cells #[VV A (ln rs) cap] 24)) from(Below.refl _ _).alloc (Vu _) _);have R0:=Vs (Bx.new w 24 (VV A (ln rs) cap));have HR:=Vs (λ(W:Vt) (h:Ext w W)=>((hr.below h).more h.size:fj W W.heap.size A cap rs));have HL:=Vs (λ(W:Vt) (h:Ext w W)=>((hl.below h).more h.size:bJ 5 W W.heap.size A2 cap2 (bw l)));have HM:=Vs hm;have HT:=Vs ht;have h1:=hl.1;have h2:=hl.2.1;rw[VC] at h1;unfold VP at h2;have HS:=Vs hs;have KD:=Vs (λ(W:Vt) (h:Ext w W)=>wJ W A2 cap2 l (HL.o W h) HS.o (HM.o.below h (Vu _)) (HT.o.below h (Vu _)));have KP:=Vs (λ(W:Vt) (h:Ext w W)=>Ea W A cap rs (HR.o W h) hbig);have HV:=Vs (show nF rs l=if(lC l).2≠0 then(lC l).2 else if dv rs≠0 then 1 else if l.any (λo=> !aP o.side 0 ((ln rs.flatten:Int)-1)) then 2 else if(lC l).1 then 0 else 28 from rfl);obtain⟨⟨d,c⟩,hd⟩:∃r,lC l=r:=⟨_,rfl⟩;obtain⟨p,hp⟩:∃r,dv rs=r:=⟨_,rfl⟩;rw[hd,hp] at HV;simp only[hd] at KD;simp only[hp] at KP;dsimp only at HV;obtain⟨n,hn⟩:∃n,ln rs.flatten=n:=⟨_,rfl⟩;rw[hn] at HV hbig;simp only[hn] at KP;have KC:=Vs (λ(W:Vt) (h:Ext w W) (B:Nat) (A':Option VT) (cap':Nat) (hb:Bx W B 80 (VV A' n cap'))=>
  yC W A2 cap2 (ln l) (bw l) (by rw[VC]) (HL.o W h) (mK l) (λi=> !aP (l.getD i eB).side 0 ((n:Int)-1)) 141 #[VY (Vz ⟨B,0,Vx⟩)] (enters_of func141 V8 rfl) (PX l W B A' n cap' hbig hb))
 have hany:cz (λi=> !aP (l.getD i eB).side 0 ((n:Int)-1)) (ln l)=l.any (λo=> !aP o.side 0 ((n:Int)-1)):=uN l eB (λo=> !aP o.side 0 ((n:Int)-1));obtain⟨x,hx⟩:∃x,l.any (λo=> !aP o.side 0 ((n:Int)-1))=x:=⟨_,rfl⟩;rw[hx] at HV hany;simp only[hany] at KC;clear hr hl hm ht hs hd hp hn hany hx;by_cases hc:c=0
 ·have HV2:=Vs (show nF rs l=if p≠0 then 1 else if x then 2 else if d then 0 else 28 by rw[HV.o,if_neg (λh=>h hc)]);subst hc;by_cases hp0:p=0
  ·have HV3:=Vs (show nF rs l=if x then 2 else if d then 0 else 28 by rw[HV2.o,if_neg (λh=>h hp0)]);subst hp0;cases x
   ·cases d;all_goals
     go_enter func68,ntmps68;go_wp2_with(first
      |(go_at_call 138;go_must(refine(KD.o _ E0.o).mono ?_);rintro e W1 ⟨rfl,hX1⟩;have q1:=(R0.o.stays (hX1.stays (n0:=0) (Nat.zero_le _))).cell;have HX1:=Vs (Ext.tr E0.o hX1);clear hX1)
      |(go_at_call 139;go_must(refine(KP.o _ HX1.o).mono ?_);rintro e W2 ⟨A',n',cap',x',rfl,lA,qw,hX2⟩;obtain⟨rfl,rfl,_⟩:=lA trivial;have HX2:=Vs ((Ext.tr HX1.o hX2).alloc (Ext.tr HX1.o hX2).size (.cells #[VV A' n' cap'] 80));have B2:=Vs (Bx.new W2 80 (VV A' n' cap'));clear hX2 lA qw)
      |(go_at_call 140;go_must(refine(KC.o _ HX2.o _ _ _ B2.o).mono ?_);rintro e W3 ⟨rfl,hX3⟩))
     go_ret;exact⟨by rw[HV3.o];rfl,Ext.tr HX2.o hX3⟩
   ·go_enter func68,ntmps68;go_wp2_with(first
     |(go_at_call 138;go_must(refine(KD.o _ E0.o).mono ?_);rintro e W1 ⟨rfl,hX1⟩;have q1:=(R0.o.stays (hX1.stays (n0:=0) (Nat.zero_le _))).cell;have HX1:=Vs (Ext.tr E0.o hX1);clear hX1)
     |(go_at_call 139;go_must(refine(KP.o _ HX1.o).mono ?_);rintro e W2 ⟨A',n',cap',x',rfl,lA,qw,hX2⟩;obtain⟨rfl,rfl,_⟩:=lA trivial;have HX2:=Vs ((Ext.tr HX1.o hX2).alloc (Ext.tr HX1.o hX2).size (.cells #[VV A' n' cap'] 80));have B2:=Vs (Bx.new W2 80 (VV A' n' cap'));clear hX2 lA qw)
     |(go_at_call 140;go_must(refine(KC.o _ HX2.o _ _ _ B2.o).mono ?_);rintro e W3 ⟨rfl,hX3⟩))
    go_ret;exact⟨by rw[HV3.o];rfl,Ext.tr HX2.o hX3⟩
  ·have HV3:=Vs (show nF rs l=1 by rw[HV2.o,if_pos hp0]);have HP0:=Vs hp0;clear hp0;go_enter func68,ntmps68;go_wp2_with(first
    |(go_at_call 138;go_must(refine(KD.o _ E0.o).mono ?_);rintro e W1 ⟨rfl,hX1⟩;have q1:=(R0.o.stays (hX1.stays (n0:=0) (Nat.zero_le _))).cell;have HX1:=Vs (Ext.tr E0.o hX1);clear hX1)
    |(go_at_call 139;go_must(refine(KP.o _ HX1.o).mono ?_);rintro e W2 ⟨A',n',cap',x',rfl,lA,qw,hX2⟩;obtain rfl:=qw HP0.o;have HX2:=Vs (Ext.tr HX1.o hX2);clear hX2 lA qw))
   go_ret;exact⟨by rw[HV3.o];rfl,HX2.o.alloc HX2.o.size _⟩
 ·have HV2:=Vs (show nF rs l=c by rw[HV.o,if_pos hc]);have tc:(c !=0)=VD:=by rw[bne_iff_ne];exact hc
  clear hc;go_enter func68,ntmps68;go_wp2_with(go_at_call 138;go_must(refine(KD.o _ E0.o).mono ?_);rintro e W1 ⟨rfl,hX1⟩)
  go_ret;exact⟨by rw[HV2.o];rfl,Ext.tr E0.o hX1⟩
end
end Go.Proofs.YtmliacdegmklaaaGreatDoor
