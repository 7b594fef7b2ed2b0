/- ChangeReplays of kingpostlaw58: part 19 of its proof (merged and shortened by program). -/
import Derived.Test.YtmliacdegmklaaaGreatDoorRows
import Derived.Test.YtmliacdegmklaaaGreatDoorM15
import Derived.Test.YtmliacdegmklaaaGreatDoorM16
import Derived.Test.YtmliacdegmklaaaGreatDoorM17
set_option linter.unusedVariables false
set_option linter.unusedSimpArgs false
set_option linter.defProp false
set_option maxHeartbeats 8000000
set_option maxRecDepth 100000
open Go.RowKit Go.Shelf Go.Proofs.Tryz
open Array renaming getElem?_eq_some_iff→Vz
open Bool renaming false→Vp,true→Vv,and_eq_true_iff→Vw
open Go renaming World→Vl,Value→Vr,undef→Vs,wpOp_step→Vx,Calls→VC,maxLen→VJ,TypeId→VK,Addr→VM,Rows→VP
open Go.AllReady renaming cons→VH,nil→VO
open Go.Ending renaming returned→VV
open Go.IntKind renaming i64→VA
open Go.IntWalk renaming i64_in→VI
open Go.Lib renaming hid→Vk
open Go.RowKit renaming intOf→VG,Below→VL
open Go.Value renaming slice→VQ,string→VR,bool→VS,pointer→VT,int→VU,agg→VW,tuple→VX
open Go.World renaming alloc_heap_new→Vy,size_alloc→VF
open List renaming getD_eq_getElem?_getD→Vn,getElem?_eq_getElem→Vt,length_map→Vu,length_append→VD
open Nat renaming le_refl→Vm,le_trans→VB,mul_comm→VE
open Option renaming none→Vo,some→Vq
open Option.some renaming inj→VN
open Go.Proofs.YtmliacdegmklaaaGreatDoor
namespace Go.Proofs.YtmliacdegmklaaaGreatDoor
section
open Kp
attribute [local go_sem] bF jR jN jU jK jI jO jP jM jL jQ fK fE fm fl ft
def yG(w:Vl)(q:Nat):Ext w (w.drewN q):=below_drewN (Below.refl _ _) q
def Ba(w:Vl)(A A':Option VM)(cap cap':Nat)(l:List Int)(hr:bK 1 w w.heap.size A cap (aX l))(hr':bK 1 w w.heap.size A' cap' (aX l)):
  VC prog 11 #[VQ A l.length cap,VQ A' l.length cap'] w λe w'=>e=VV (VS Vv)/\Ext w w':=by
 obtain⟨h1,h2,h3⟩:=hr;obtain⟨h1',h2',h3'⟩:=hr';rw[Vu] at h1 h3 h1' h3';unfold VJ at h2 h2';by_cases h0:l.length=0
 ·rw[h0];refine(slices_Equal_int_empty A A' cap 0 cap' w VY).mono ?_;rintro e w' ⟨rfl,rfl⟩;exact⟨rfl,Ext.aB _⟩
 ·obtain⟨b,off,rfl,hB,hc⟩:=h3 VY;obtain⟨b',off',rfl,hB',hc'⟩:=h3' VY;refine(slices_Equal_int b off l.length cap b' off' l.length cap' l l w (Vm _) (Vm _) VY VY (λj hj=> ?_) (λj hj=> ?_)).mono ?_
  ·have:=hc j hj 0 V0;exact ZY
  ·have:=hc' j hj 0 V0;exact ZY
  ·rintro e w' ⟨rfl,q,rfl⟩;exact⟨by rw[beq_self_eq_true],yG _ _⟩
def xJ(x0 x1 x2 x3:Int)(W:Vl):(binOp .eql 30 (VW #[VU VA x0,VU VA x1,VU VA x2,VU VA x3]) (VW #[VU VA x0,VU VA x1,VU VA x2,VU VA x3])).run prog W= .ok (VS Vv) W:=by
 rw[run_eql_struct,run_equalIn_agg _ _ _ _ _ VZ VZ];simp only[Program.fieldsOf,underlying30];simp[go_sem,Result.andThen,underlying3,isAgg3]
def xY(w:Vl)(j:bC)(a a':dq)(hb:eC w w.heap.size j a)(hb':eC w w.heap.size j a'):
  VC prog 10 #[VW (bZ j a),VW (bZ j a')] w λe w'=>e=VV (VS Vv)/\Ext w w':=by
 obtain⟨W0,hW0⟩:∃W0,(w.alloc (.cells (bZ j a) 34)).alloc (.cells (bZ j a') 34)=W0:=⟨_,rfl⟩;have e0:Ext w W0:=Ws;have E0:=Vk e0;have JA:=Vk (show JC W0 w.heap.size j a by rw[<-hW0];exact JC.ext (Vy w _) ((Below.refl _ _).alloc (Vm _) _));have JB:=Vk (show JC W0 (w.heap.size+1) j a' by
  have h:=(Vy (w.alloc (.cells (bZ j a) 34)) (.cells (bZ j a') 34));rw[VF] at h;rw[<-hW0];exact h)
 have B1:=Vk (hb.grow e0);have B2:=Vk (hb'.grow e0);have HW:=Vk hW0;have K0:=Vk (MK W0 a.pa a'.pa a.pc a'.pc j.rings B1.o.p B2.o.p);have K1:=Vk (λ(W:Vl) (h:Ext W0 W)=>Ba W a.ua a'.ua a.uc a'.uc j.purlins (B1.o.grow h).u (B2.o.grow h).u);have K2:=Vk (λ(W:Vl) (h:Ext W0 W)=>(show VC prog 31 #[VQ a.oa j.openings.length a.oc,VQ a'.oa j.openings.length a'.oc] W λe w'=>e=VV (VS Vv)/\Ext W w' from by
  have:=LJ W a.oa a'.oa a.oc a'.oc (bD j.openings) (B1.o.grow h).o (B2.o.grow h).o (mH _) (λx hx V=>by obtain⟨s,_,rfl⟩:=List.mem_map.1 hx;exact xA _ _ _ _ _ V);rwa[Vu] at this))
 have K3:=Vk (λ(W:Vl) (h:Ext W0 W)=>(show VC prog 32 #[VQ a.za j.sizes.length a.zc,VQ a'.za j.sizes.length a'.zc] W λe w'=>e=VV (VS Vv)/\Ext W w' from by
  have:=M9 W a.za a'.za a.zc a'.zc (bN j.sizes) (B1.o.grow h).z (B2.o.grow h).z (zC _) (λx hx V=>by obtain⟨s,_,rfl⟩:=List.mem_map.1 hx;exact xz _ _ _ V);rwa[Vu] at this))
 have K4:=Vk (λ(W:Vl) (h:Ext W0 W)=>Lq W a.ba a'.ba a.bc a'.bc j.bars (B1.o.grow h).b (B2.o.grow h).b);have K5:=Vk (λ(W:Vl) (h:Ext W0 W)=>(show VC prog 34 #[VQ a.la j.aH.length a.lc,VQ a'.la j.aH.length a'.lc] W λe w'=>e=VV (VS Vv)/\Ext W w' from by
  have:=Nz W a.la a'.la a.lc a'.lc (bU j.aH) (B1.o.grow h).l (B2.o.grow h).l (oF _) (λx hx V=>by obtain⟨s,_,rfl⟩:=List.mem_map.1 hx;exact yB _ _ _ V);rwa[Vu] at this))
 have K6:=Vk (λ(W:Vl) (h:Ext W0 W)=>(show VC prog 35 #[VQ a.sa j.spans.length a.sc,VQ a'.sa j.spans.length a'.sc] W λe w'=>e=VV (VS Vv)/\Ext W w' from by
  have:=Mv W a.sa a'.sa a.sc a'.sc (bI j.spans) (B1.o.grow h).s (B2.o.grow h).s (Gz _) (λx hx V=>by obtain⟨s,_,rfl⟩:=List.mem_map.1 hx;exact xB _ _ _ _ _ V);rwa[Vu] at this))
 have JX:=Vk (λ(W:Vl) (h:Ext W0 W)=>JA.o.ext h);have JY:=Vk (λ(W:Vl) (h:Ext W0 W)=>JB.o.ext h);have p0:=JA.o.cell;have q0:=JB.o.cell;have tile:=xJ j.tile.width j.tile.length j.tile.lap j.tile.tail;clear hW0 e0 hb hb';go_enter func10,ntmps10;go_wp2_with(first
  |(go_at_call 35;go_must(refine(K6.o _ HX6.o).mono ?_);rintro e W7 ⟨rfl,hX⟩;have p7:=λi=>(JX.o W7 (Ext.tr HX6.o hX)).cell i;have q7:=λi=>(JY.o W7 (Ext.tr HX6.o hX)).cell i;have HX7:=Vk (Ext.tr HX6.o hX);clear hX)
  |(go_at_call 34;go_must(refine(K5.o _ HX5.o).mono ?_);rintro e W6 ⟨rfl,hX⟩;have p6:=λi=>(JX.o W6 (Ext.tr HX5.o hX)).cell i;have q6:=λi=>(JY.o W6 (Ext.tr HX5.o hX)).cell i;have HX6:=Vk (Ext.tr HX5.o hX);clear hX)
  |(go_at_call 33;go_must(refine(K4.o _ HX4.o).mono ?_);rintro e W5 ⟨rfl,hX⟩;have p5:=λi=>(JX.o W5 (Ext.tr HX4.o hX)).cell i;have q5:=λi=>(JY.o W5 (Ext.tr HX4.o hX)).cell i;have HX5:=Vk (Ext.tr HX4.o hX);clear hX)
  |(go_at_call 32;go_must(refine(K3.o _ HX3.o).mono ?_);rintro e W4 ⟨rfl,hX⟩;have p4:=λi=>(JX.o W4 (Ext.tr HX3.o hX)).cell i;have q4:=λi=>(JY.o W4 (Ext.tr HX3.o hX)).cell i;have HX4:=Vk (Ext.tr HX3.o hX);clear hX)
  |(go_at_call 31;go_must(refine(K2.o _ HX2.o).mono ?_);rintro e W3 ⟨rfl,hX⟩;have p3:=λi=>(JX.o W3 (Ext.tr HX2.o hX)).cell i;have q3:=λi=>(JY.o W3 (Ext.tr HX2.o hX)).cell i;have HX3:=Vk (Ext.tr HX2.o hX);clear hX)
  |(go_at_call 11;go_must(refine(K1.o _ HX1.o).mono ?_);rintro e W2 ⟨rfl,hX⟩;have p2:=λi=>(JX.o W2 (Ext.tr HX1.o hX)).cell i;have q2:=λi=>(JY.o W2 (Ext.tr HX1.o hX)).cell i;have HX2:=Vk (Ext.tr HX1.o hX);clear hX)
  |(go_at_call 30;rw[HW.o];go_must(refine K0.o.mono ?_);rintro e W1 ⟨rfl,hX⟩;have p1:=λi=>(JX.o W1 hX).cell i;have q1:=λi=>(JY.o W1 hX).cell i;have HX1:=Vk hX;clear hX))
 go_ret;exact⟨rfl,E0.o.tr HX7.o⟩
end
section
open Kp
def Pz(w:Vl)(A:Option VM)(cap:Nat)(l:List Int)(x:Int)(hr:bK 1 w w.heap.size A cap (aX l))(hs:l.Pairwise (· <= ·))(hlen:l.length<=1000000):
  VC prog 150 #[VQ A l.length cap,VU VA x] w λe w'=>e=VV (VX #[VU VA (l.countP (· <x):Nat),VS (l.contains x)])/\Ext w w':=by
 obtain⟨h1,h2,h3⟩:=hr;rw[Vu] at h1 h3;by_cases h0:l.length=0
 ·obtain rfl:=List.length_eq_zero_iff.1 h0;refine(slices_BinarySearch_int_empty A cap x w).mono ?_;rintro e w' ⟨rfl,rfl⟩;exact⟨rfl,Ext.aB _⟩
 ·obtain⟨b,off,rfl,hB,hc⟩:=h3 VY;refine(slices_BinarySearch_int b off l.length cap l x w (Vm _) VY (λj hj=> ?_) (by rw[List.take_length];exact hs)).mono ?_
  ·have:=hc j hj 0 V0;exact ZY
  ·rintro e w' ⟨rfl,q,rfl⟩;rw[List.take_length];exact⟨rfl,yG _ _⟩
def BU{l:List Int}(h:iT l=0):l.Pairwise (· <= ·)/\l.length<=16:=by
 unfold iT at h;split at h
 ·omega
 ·rename_i h16;refine⟨?_,VY⟩;have hz:=rC h;have hstep:∀i,i+1<l.length->l.getD i 0<l.getD (i+1) 0:=by
   intro i hi;have:=hz (i+1) hi;simp only[Nat.add_sub_cancel] at this;split at this
   ·omega
   ·split at this
    ·omega
    ·rename_i h2;rcases Int.lt_or_le (l.getD i 0) (l.getD (i+1) 0) with h3|h3
     ·exact h3
     ·exact absurd ⟨Nat.succ_pos i,h3⟩ h2
  have hle:∀d i,i+d<l.length->l.getD i 0<=l.getD (i+d) 0:=by
   intro d
   induction d with
   |zero=>intro i _;exact Int.le_refl _
   |succ d ih=>
    intro i hi;have h1:=ih i VY;have h2:=hstep (i+d) VY;rw[show i+(d+1)=i+d+1 by omega];omega
  rw[List.pairwise_iff_getElem];intro i k hi hk hik;have:=hle (k-i) i VY;rw[show i+(k-i)=k by omega] at this;simpa[List.getD,Vt hi,Vt hk] using this
end
section
open Kp
attribute [local go_sem] bF jR jN jU jK jI jO jP jM jL jQ fK fE fm fl ft
attribute [local go_sem] aS gO ia eV
def Mp{α β:Type}(f:α->β)(l:List α)(i:Nat)(x:α):dt (l.map f) i (f x)=(dt l i x).map f:=by
 unfold dt;simp[List.map_take,List.map_drop]
structure oS(W0:Vl)(t:VK)(k n i:Nat)(rows:List (List Vr))(x:List Vr)(val:Nat->Vr)(L:Nat->Bool)(vs:Nat->Vr)(W:Vl):Prop where
 vals:∀q,L q=Vv->q≠5->q≠9->q≠10->vs q=val q
 ext:Ext W0 W
 own:L 10=Vp->L 5=Vv->W.ownsRow W0.heap.size t k (vs 5) n rows.flatten
 bld:L 10=Vp->L 9=Vv->∃vb,vs 9=VQ (Vq ⟨vb,0,Vo⟩) 1 1/\ah W vb t x/\(L 5=Vv->(vs 5).ownBlock≠Vq vb)
 ord:L 10=Vv->L 5=Vv/\L 9=Vv
 ins:L 10=Vv->W.ownsRow W0.heap.size t k (vs 10) (n+1) (dt rows i x).flatten
variable {W0 W : Vl} {t : VK} {k n i : Nat} {rows : List (List Vr)} {x : List Vr} {val : Nat → Vr} {L : Nat → Bool} {vs : Nat → Vr}
def oS.start(h:Ext W0 W):oS W0 t k n i rows x val (λ_=>Vp) (λ_=>Vs) W:=
 ⟨λ_ h=>V6,h,λ_ h=>V6,λ_ h=>V6,λh=>V6,λh=>V6⟩
def oS.pure(h:oS W0 t k n i rows x val L vs W){q:Nat}(h5:q≠5)(h9:q≠9)(h10:q≠10){v:Vr}(hv:v=val q):oS W0 t k n i rows x val (fx L q) (aW vs q v) W:=by
 refine⟨λm hm a b c=> ?_,h.ext,?_,?_,?_,?_⟩
 ·by_cases e:m=q
  ·subst e;rw[cF];exact hv
  ·rw[aC e];rw[aa e] at hm;exact h.vals m hm a b c
 ·rw[aa (Ne.symm h10),aa (Ne.symm h5),aC (Ne.symm h5)];exact h.own
 ·rw[aa (Ne.symm h10),aa (Ne.symm h9),aa (Ne.symm h5),aC (Ne.symm h9),aC (Ne.symm h5)];exact h.bld
 ·rw[aa (Ne.symm h10),aa (Ne.symm h5),aa (Ne.symm h9)];exact h.ord
 ·rw[aa (Ne.symm h10),aC (Ne.symm h10)];exact h.ins
def oS.clone(h:oS W0 t k n i rows x val L vs W)(hL:L 10=Vp){W':Vl}{v:Vr}(hx:Ext W W')(ho:W'.ownsRow W.heap.size t k v n rows.flatten):oS W0 t k n i rows x val (fx L 5) (aW vs 5 v) W':=by
 refine⟨λm hm a b c=> ?_,h.ext.tr hx,?_,?_,?_,?_⟩
 ·rw[aC a];rw[aa a] at hm;exact h.vals m hm a b c
 ·intro _ _;rw[cF];exact dz ho h.ext.size
 ·rw[aa V0,aa V0,aC V0];intro a b;obtain⟨vb,e,hr,_⟩:=h.bld a b;refine⟨vb,e,hr.ext hx,λ_=> ?_⟩;rw[cF];intro e2;have:=(ak ho vb e2).1;have:=hr.lt;omega
 ·exact Z6
 ·exact Z6
def oS.build(h:oS W0 t k n i rows x val L vs W)(hL:L 10=Vp){W':Vl}{vb:Nat}(hx:Ext W W')(hr:ah W' vb t x)(hvb:W.heap.size<=vb):oS W0 t k n i rows x val (fx L 9) (aW vs 9 (VQ (Vq ⟨vb,0,Vo⟩) 1 1)) W':=by
 refine⟨λm hm a b c=> ?_,h.ext.tr hx,?_,?_,?_,?_⟩
 ·rw[aC b];rw[aa b] at hm;exact h.vals m hm a b c
 ·rw[aa V0,aa V0,aC V0];intro a b;exact aF (h.own a b) hx
 ·rw[aa (k:=10) V0,dn,aa (k:=5) V0,cF,aC (k:=5) V0];intro a _;refine⟨vb,rfl,hr,λh5 e=> ?_⟩;have:=(ak (h.own a h5) vb e).2;omega
 ·exact Z6
 ·exact Z6
def oS.insert(h:oS W0 t k n i rows x val L vs W)(l5:L 5=Vv)(l9:L 9=Vv){W':Vl}{v:Vr}(hx:VL W0.heap.size W W')(ho:W'.ownsRow W0.heap.size t k v (n+1) (dt rows i x).flatten):oS W0 t k n i rows x val (fx L 10) (aW vs 10 v) W':=by
 refine⟨λm hm a b c=> ?_,h.ext.trans hx,?_,?_,?_,?_⟩
 ·rw[aC c];rw[aa c] at hm;exact h.vals m hm a b c
 ·rw[dn];intro h;cases h
 ·rw[dn];intro h;cases h
 ·intro _;rw[aa (k:=5) V0,aa (k:=9) V0];exact⟨l5,l9⟩
 ·intro _;rw[cF];exact ho
def pB(c b:Nat)(e:Ed)(A:Option VM)(n cap m:Nat):Nat->Vr
 |0=> VT (Vq ⟨c,0,Vo⟩)
 |1=> VT (Vq ⟨c,0,Vo⟩)
 |2=> VT (Vq ⟨c,0,Vo⟩)
 |3=> VT (Vq ⟨c,4,Vo⟩)
 |4=> VQ A n cap
 |6=> VU VA (m:Int)
 |7=> VT (Vq ⟨b,35,Vo⟩)
 |8=> VU VA e.number
 |11=> VT (Vq ⟨c,0,Vo⟩)
 |12=> VT (Vq ⟨c,4,Vo⟩)
 |_=>Vs
def DH(w:Vl)(c:Nat)(j:bC)(a:dq)(e:Ed)(g:Vr)(hc:JC w c j a){X:Nat->Prop}(hb:eL X w c j a)(hp:iT j.purlins=0):
  VC prog 90 #[VT (Vq ⟨c,0,Vo⟩),VW (aL e g)] w λx w'=>x=VV (VU VA (if j.purlins.contains e.number then 7 else 0))/\fj c w w'/\(j.purlins.contains e.number=Vp->∃a',nl X c w w' {j with purlins:=dt j.purlins (j.purlins.countP (· <e.number)) e.number} a'):=by
 have hlt:=hc.lt;obtain⟨hs,hlen⟩:=BU hp;obtain⟨W0,hW0⟩:∃W0,w.alloc (.cells (aL e g) 68)=W0:=⟨_,rfl⟩;have HZ:EC W0 w.heap.size (aL e g):=WT;have e0:Ext w W0:=Wo;have hJ:=hc.ext e0;have HU:=Vk (λ(W:Vl) (h:Ext W0 W)=>(((hb.u.below ((e0.tr h).mono (Nat.le_of_lt hlt))).more (VB (Nat.le_of_lt hlt) (e0.tr h).size)):bK 1 W W.heap.size a.ua a.uc (aX j.purlins)));have KB:=Vk (λ(W:Vl) (h:Ext W0 W)=>Pz W a.ua a.uc j.purlins e.number (HU.o W h) hs VY);have hcm:j.purlins.countP (· <e.number)<=j.purlins.length:=List.countP_le_length;obtain⟨m,hm⟩:∃m,j.purlins.countP (· <e.number)=m:=⟨_,rfl⟩;obtain⟨d,hd⟩:∃d,j.purlins.contains e.number=d:=⟨_,rfl⟩;rw[hm] at hcm;simp only[hm,hd] at KB;rw[hm,hd];have HJ:=Vk hJ;have HE0:=Vk e0;have HZ':=Vk HZ;have HW:=Vk hW0;have b4:=λw' (h:Ext W0 w')=>(HJ.o.ext h).cell 4
 have z35:=λw' (h:Ext W0 w')=>(HZ'.o.ext h).cell 35
 have HBl:=Vk (λ(W1:Vl) (hx:Ext W0 W1)=>(fj.ext (e0.tr hx) hlt:fj c w W1));cases d with
 |true=>
  clear hc hb hJ HZ e0 hm hd hs hp hcm hW0;go_enter func90,ntmps90;go_wp2_with fail
  rw[HW.o]
  go_region_held3(λw'=>Ext W0 w') (first|exact hx1|exact Ext.dr W0) (first|(go_at_call 150;go_must(refine(KB.o _ (Ext.dr W0)).mono ?_);rintro e W1 ⟨rfl,hX1⟩;have hx1:Ext W0 W1:=(Ext.dr W0).tr hX1))
  go_wp2;go_ret;exact⟨rfl,HBl.o _ hx1⟩
 |false=>
  have hpm:dt (aX j.purlins) m [VU VA e.number]=aX (dt j.purlins m e.number):=Mp (λn:Int=>([VU VA n]:List Vr)) j.purlins m e.number;have HF:=Vk (λ(W1:Vl) (v:Vr) (hx:Ext W0 W1) (ho:W1.ownsRow W0.heap.size 3 1 v (j.purlins.length+1) (dt (aX j.purlins) m [VU VA e.number]).flatten)=>QZ (l:=dt j.purlins m e.number) hc hb (e0.tr hx) (by rw[hpm] at ho;rw[Vu,lX _ _ _ hcm];exact dz ho e0.size));have KC:=Vk (λ(W:Vl) (h:Ext W0 W)=>Hb W a.ua a.uc (aX j.purlins) (HU.o W h) (bw (f:=λn=>[VU VA n]) (λ_=>rfl) _) (Fw _) (by rw[Vu];omega));have HL:=Vk (show(aX j.purlins).length=j.purlins.length by exact Vu _);have HCM:=Vk hcm;have HLN:=Vk hlen;clear hc hb hJ HZ e0 hm hd hs hp hcm hpm hlen hW0;go_enter func90,ntmps90;go_wp2_with fail
  rw[HW.o]
  go_region_held3(λw'=>Ext W0 w') (first|exact hx1|exact Ext.dr W0) (first|(go_at_call 150;go_must(refine(KB.o _ (Ext.dr W0)).mono ?_);rintro e W1 ⟨rfl,hX1⟩;have hx1:Ext W0 W1:=(Ext.dr W0).tr hX1))
  go_wp2_with fail
  have HX1:=Vk hx1;clear hX1 hx1;refine wp_region_any VZ (bW 13 (λvs=>⟨#[VT (Vq ⟨c,0,Vo⟩),VW (aL e g),Vs,VT (Vq ⟨w.heap.size,0,Vo⟩),VU VA 0,VU VA (m:Int),VS Vp,VX #[VU VA (m:Int),VS Vp],VT (Vq ⟨c,0,Vo⟩),VT (Vq ⟨c,0,Vo⟩),VT (Vq ⟨c,4,Vo⟩),VQ a.ua j.purlins.length a.uc,VT (Vq ⟨w.heap.size,35,Vo⟩),VU VA e.number,VX #[VU VA (m:Int),VS Vp],VU VA (m:Int),VS Vp,VS Vp,vs 0,vs 1,vs 2,vs 3,vs 4,vs 5,vs 6,vs 7,vs 8,vs 9,vs 10,vs 11,vs 12],[]⟩)
   (λL vs W=>oS W0 3 1 j.purlins.length m (aX j.purlins) [VU VA e.number] (pB c w.heap.size e a.ua j.purlins.length a.uc m) L vs W) VZ ?step ?tail (λ_=>Vs) _ (oS.start (HX1.o.tr (Ext.dr _))))
  case step=>
   intro i L vs W hi hL hI hd;have HI:=Vk hI;rcases(show i=0\/i=1\/i=2\/i=3\/i=4\/i=5\/i=6\/i=7\/i=8\/i=9\/i=10\/i=11\/i=12 by omega) with rfl|rfl|rfl|rfl|rfl|rfl|rfl|rfl|rfl|rfl|rfl|rfl|rfl<;>clear hi hI
   ·refine Vx rfl (λK hK=> ?_);go_simp;exact hK _ _ ⟨pB c w.heap.size e a.ua j.purlins.length a.uc m 0,by simp[aW,pB],HI.o.pure V0 V0 V0 rfl⟩
   ·refine Vx rfl (λK hK=> ?_);go_simp;exact hK _ _ ⟨pB c w.heap.size e a.ua j.purlins.length a.uc m 1,by simp[aW,pB],HI.o.pure V0 V0 V0 rfl⟩
   ·refine Vx rfl (λK hK=> ?_);have d1:=HI.o.vals 1 (hd 1 VZ) V0 V0 V0;simp only[pB] at d1;go_simp;exact hK _ _ ⟨pB c w.heap.size e a.ua j.purlins.length a.uc m 2,by simp[aW,pB,d1],HI.o.pure V0 V0 V0 rfl⟩
   ·refine Vx rfl (λK hK=> ?_);have d2:=HI.o.vals 2 (hd 2 VZ) V0 V0 V0;simp only[pB] at d2;go_simp;exact hK _ _ ⟨pB c w.heap.size e a.ua j.purlins.length a.uc m 3,by simp[aW,pB,d2],HI.o.pure V0 V0 V0 rfl⟩
   ·refine Vx rfl (λK hK=> ?_);have d3:=HI.o.vals 3 (hd 3 VZ) V0 V0 V0;simp only[pB] at d3;have mm:=(HJ.o.ext HI.o.ext).cell 4;go_simp;exact hK _ _ ⟨pB c w.heap.size e a.ua j.purlins.length a.uc m 4,by simp[aW,pB,d3],HI.o.pure V0 V0 V0 rfl⟩
   ·refine Vx rfl (λK hK=> ?_);have d4:=HI.o.vals 4 (hd 4 VZ) V0 V0 V0;simp only[pB] at d4;have hx:=Vk HI.o.ext;have h10:L 10=Vp:=by
      cases q:L 10 with
      |false=>rfl
      |true=>exact absurd (HI.o.ord q).1 (by rw[hL];decide)
    go_simp;rw[<-HL.o];refine(KC.o _ hx.o).mono ?_;rintro x W2 ⟨v,rfl,ho,hX⟩;rw[HL.o] at ho;exact hK _ _ ⟨v,by simp[aW,d4,HL.o],HI.o.clone h10 hX ho⟩
   ·refine Vx rfl (λK hK=> ?_);go_simp;exact hK _ _ ⟨pB c w.heap.size e a.ua j.purlins.length a.uc m 6,by simp[aW,pB],HI.o.pure V0 V0 V0 rfl⟩
   ·refine Vx rfl (λK hK=> ?_);go_simp;exact hK _ _ ⟨pB c w.heap.size e a.ua j.purlins.length a.uc m 7,by simp[aW,pB],HI.o.pure V0 V0 V0 rfl⟩
   ·refine Vx rfl (λK hK=> ?_);have d7:=HI.o.vals 7 (hd 7 VZ) V0 V0 V0;simp only[pB] at d7;have mm:=(HZ'.o.ext HI.o.ext).cell 35;go_simp;exact hK _ _ ⟨pB c w.heap.size e a.ua j.purlins.length a.uc m 8,by simp[aW,pB,d7],HI.o.pure V0 V0 V0 rfl⟩
   ·refine Vx rfl (λK hK=> ?_);have d8:=HI.o.vals 8 (hd 8 VZ) V0 V0 V0;simp only[pB] at d8;have h10:L 10=Vp:=by
      cases q:L 10 with
      |false=>rfl
      |true=>exact absurd (HI.o.ord q).2 (by rw[hL];decide)
    go_simp;exact hK _ _ ⟨_,by simp[aW,d8],HI.o.build h10 ((Below.refl _ _).alloc (Vm _) _) (ah.new _ _ _) (Vm _)⟩
   ·refine Vx rfl (λK hK=> ?_);have d6:=HI.o.vals 6 (hd 6 VZ) V0 V0 V0;simp only[pB] at d6;have h5:=hd 5 VZ;have h9:=hd 9 VZ;have ho:=HI.o.own hL h5;obtain⟨vb,hv,hr,hne⟩:=HI.o.bld hL h9;have KI:=Vk (M0 W W0.heap.size j.purlins.length m vb 1 (vs 5) (aX j.purlins) [VU VA e.number] ho HL.o (bw (f:=λn=>[VU VA n]) (λ_=>rfl) _) (Fw _) rfl Xy hr (hne h5) HCM.o (by have:=HLN.o;omega) HI.o.ext.size);clear ho hr hne;go_simp;refine KI.o.mono ?_;rintro x W2 ⟨v,rfl,ho,hX⟩;exact hK _ _ ⟨v,by simp[aW,d6,hv],HI.o.insert h5 h9 hX ho⟩
   ·refine Vx rfl (λK hK=> ?_);have d0:=HI.o.vals 0 (hd 0 VZ) V0 V0 V0;simp only[pB] at d0;go_simp;exact hK _ _ ⟨pB c w.heap.size e a.ua j.purlins.length a.uc m 11,by simp[aW,pB,d0],HI.o.pure V0 V0 V0 rfl⟩
   ·refine Vx rfl (λK hK=> ?_);have d11:=HI.o.vals 11 (hd 11 VZ) V0 V0 V0;simp only[pB] at d11;go_simp;exact hK _ _ ⟨pB c w.heap.size e a.ua j.purlins.length a.uc m 12,by simp[aW,pB,d11],HI.o.pure V0 V0 V0 rfl⟩
  case tail=>
   intro L vs W hL hI;have d12:=hI.vals 12 (hL 12 V0) V0 V0 V0;simp only[pB] at d12;have ho:=hI.ins (hL 10 V0);obtain⟨A1,n1,c1,hv⟩:=nk.of ho;rw[hv] at ho;have HO:=Vk ho;have HE:=Vk hI.ext;have mm:=(HJ.o.ext HE.o).cell 4;have nn:=(HJ.o.ext HE.o).frozen 4;clear ho hI;simp only[d12,hv,List.drop_succ_cons,List.drop_zero];go_wp2;go_ret;exact⟨rfl,((HBl.o W HE.o).put 4 _),HF.o W _ HE.o HO.o⟩
end
section
open Kp
def NO(j:bC)(e:Ed):Int:=
 if e.number=4 then dU j.purlins.length e.index else if e.number=5 then dU j.openings.length e.index else if e.number=6 then dU j.sizes.length e.index
 else if e.number=7 then dU j.bars.length e.index else if e.number=10 then dU j.aH.length e.index else if e.number=11 then dU j.spans.length e.index else 8
def Is(j:bC)(e:Ed):bC:=
 if e.number=4 then{j with purlins:=j.purlins.eraseIdx e.index.toNat} else if e.number=5 then{j with openings:=j.openings.eraseIdx e.index.toNat} else if e.number=6 then{j with sizes:=j.sizes.eraseIdx e.index.toNat}
 else if e.number=7 then{j with bars:=j.bars.eraseIdx e.index.toNat} else if e.number=10 then{j with aH:=j.aH.eraseIdx e.index.toNat} else if e.number=11 then{j with spans:=j.spans.eraseIdx e.index.toNat} else j
def gC(j:bC)(e:Ed):Int:=
 if e.kind=2 then o9 j.rings e.index else if e.kind=4 then(if j.purlins.contains e.number then 7 else 0) else if e.kind=5 then eh j.openings.length e.index
 else if e.kind=7 then eh j.bars.length e.index else if e.kind=10 then eh j.aH.length e.index else if e.kind=12 then NO j e else 0
def dK(j:bC)(e:Ed):bC:=
 if e.kind=1 then{j with name:=e.text} else if e.kind=2 then{j with rings:=fh j.rings e.index (wO e)} else if e.kind=3 then{j with origin:=e.index,spacing:=e.number}
 else if e.kind=4 then{j with purlins:=dt j.purlins (j.purlins.countP (· <e.number)) e.number} else if e.kind=5 then{j with openings:=cG j.openings e.index ⟨e.oside,e.oleft,e.oright,e.olow,e.ohigh⟩}
 else if e.kind=6 then{j with sizes:=cG j.sizes (R8 j.sizes e.zkind) ⟨e.zkind,e.zwidth,e.zdepth⟩} else if e.kind=7 then{j with bars:=cG j.bars e.index ⟨e.bwidth,e.bdepth,e.blength,e.bcount,e.bcost,e.gaps⟩}
 else if e.kind=8 then{j with kerf:=e.number} else if e.kind=9 then{j with tile:=⟨e.twidth,e.tlength,e.tlap,e.ttail⟩} else if e.kind=10 then{j with aH:=cG j.aH e.index ⟨e.lkind,e.lside,e.lweight⟩}
 else if e.kind=11 then{j with spans:=yF j.spans (sE e)} else if e.kind=12 then Is j e else j
structure Mn(j:bC):Prop where
 r:j.rings.length<=1000
 rk:∀k,(j.rings.getD k []).length<=1000
 o:j.openings.length<=1000000
 z:j.sizes.length<=1000000
 b:j.bars.length<=1000000
 l:j.aH.length<=1000000
 s:j.spans.length<=1000000
 u:j.purlins.length<=1000000
def zp{w:Vl}{B:Nat}{ga:Option VM}{gc:Nat}{l:List (Int×Int)}(h:cj w B ga gc l):bK 2 w B ga gc (di l):=by
 obtain⟨h1,h2,h3⟩:=h;refine⟨by rw[Vu];exact h1,h2,λhn=> ?_⟩;rw[Vu] at hn;obtain⟨gb,go,e,hb,hc⟩:=h3 hn;refine⟨gb,go,e,hb,λi hi m hm=> ?_⟩;rw[Vu] at hi;obtain⟨c0,c1⟩:=hc i hi;rw[mB hi,Vn,Vt hi];rcases(show m=0\/m=1 by omega) with rfl|rfl
 ·exact c0
 ·exact c1
def Py(w:Vl)(c:Nat)(j:bC)(a:dq)(e:Ed)(g:Vr)(hc:JC w c j a){X:Nat->Prop}(hb:eL X w c j a)(hl:Mn j):
  VC prog 101 #[VT (Vq ⟨c,0,Vo⟩),VW (aL e g)] w λx w'=>x=VV (VU VA (NO j e))/\fj c w w'/\(NO j e=0->∃a',nl X c w w' (Is j e) a'):=by
 unfold NO Is;by_cases h4:e.number=4
 ·simp only[h4,if_true];exact Nb w c j a e g hc hb hl.u h4
 by_cases h5:e.number=5
 ·simp only[h4,h5,if_true,if_false];exact Oh w c j a e g hc hb hl.o h5
 by_cases h6:e.number=6
 ·simp only[h4,h5,h6,if_true,if_false];exact Nw w c j a e g hc hb hl.z h6
 by_cases h7:e.number=7
 ·simp only[h4,h5,h6,h7,if_true,if_false];exact LU w c j a e g hc hb hl.b h7
 by_cases h10:e.number=10
 ·simp only[h4,h5,h6,h7,h10,if_true,if_false];exact Kk w c j a e g hc hb hl.l h10
 by_cases h11:e.number=11
 ·simp only[h4,h5,h6,h7,h10,h11,if_true,if_false];exact Oc w c j a e g hc hb hl.s h11
 ·simp only[h4,h5,h6,h7,h10,h11,if_false];refine(Kw w c e g hc.lt h4 h5 h6 h7 h10 h11).mono ?_;rintro x w' ⟨rfl,hB⟩;exact⟨rfl,hB,λh=>absurd h V0⟩
def OV(w:Vl)(c:Nat)(j:bC)(a:dq)(e:Ed)(ga:Option VM)(gc:Nat)(hk:1<=e.kind/\e.kind<=12)(hc:JC w c j a){X:Nat->Prop}(hb:eL X w c j a)(hl:Mn j)(hp:iT j.purlins=0)(hg:bK 2 w c ga gc (di e.gaps))(hgv:∀W,Jm X c w W->bK 2 W W.heap.size ga gc (di e.gaps))(hn:e.index<=9223372036854775807):
  ∃f,Sa[e.kind.toNat]?=Vq (.func (.func f) #[] #[])/\(∀args w,(callFunc f args).run prog w= .ok (.enter f args) w)/\
   VC prog f #[VT (Vq ⟨c,0,Vo⟩),VW (aL e (VQ ga e.gaps.length gc))] w λx w'=>x=VV (VU VA (gC j e))/\fj c w w'/\(gC j e=0->∃a',nl X c w w' (dK j e) a'):=by
 obtain⟨k1,k2⟩:=hk;have same:∀{x:Ending} {w':Vl} {j':bC},(x=VV (VU VA 0)/\nl X c w w' j' a)->x=VV (VU VA 0)/\fj c w w'/\((0:Int)=0->∃a',nl X c w w' j' a'):=λh=>⟨h.1,h.2.1,λ_=>⟨a,h.2⟩⟩
 have some':∀{x:Ending} {w':Vl} {j':bC},(x=VV (VU VA 0)/\∃a',nl X c w w' j' a')->x=VV (VU VA 0)/\fj c w w'/\((0:Int)=0->∃a',nl X c w w' j' a'):=λh=>⟨h.1,h.2.elim λ_ h=>h.1,λ_=>h.2⟩
 rcases(show e.kind=1\/e.kind=2\/e.kind=3\/e.kind=4\/e.kind=5\/e.kind=6\/e.kind=7\/e.kind=8\/e.kind=9\/e.kind=10\/e.kind=11\/e.kind=12 by omega) with h|h|h|h|h|h|h|h|h|h|h|h
 ·have hE:gC j e=0:=WL;have hJ:dK j e={j with name:=e.text}:=WM;rw[hE,hJ,h];exact⟨_,rfl,enters_of func87 VZ rfl,(QO w c j a e _ hc hb).mono λ_ _ h=>same h⟩
 ·have hE:gC j e=o9 j.rings e.index:=WL;have hJ:dK j e={j with rings:=fh j.rings e.index (wO e)}:=WM;rw[hE,hJ,h];exact⟨_,rfl,enters_of func88 VZ rfl,Hu w c j a e _ hc hb hl.r hl.rk hn⟩
 ·have hE:gC j e=0:=WL;have hJ:dK j e={j with origin:=e.index,spacing:=e.number}:=WM;rw[hE,hJ,h];exact⟨_,rfl,enters_of func89 VZ rfl,(O5 w c j a e _ hc hb).mono λ_ _ h=>same h⟩
 ·have hE:gC j e=if j.purlins.contains e.number then 7 else 0:=WL;have hJ:dK j e={j with purlins:=dt j.purlins (j.purlins.countP (· <e.number)) e.number}:=WM;rw[hE,hJ,h];refine⟨_,rfl,enters_of func90 VZ rfl,(DH w c j a e _ hc hb hp).mono ?_⟩;rintro x w' ⟨e1,e2,e3⟩;refine⟨e1,e2,λh0=>e3 ?_⟩;cases hd:j.purlins.contains e.number with
  |false=>rfl
  |true=>rw[hd] at h0;cases h0
 ·have hE:gC j e=eh j.openings.length e.index:=WL;have hJ:dK j e={j with openings:=cG j.openings e.index ⟨e.oside,e.oleft,e.oright,e.olow,e.ohigh⟩}:=WM;rw[hE,hJ,h];exact⟨_,rfl,enters_of func91 VZ rfl,PZ w c j a e _ hc hb hl.o⟩
 ·have hE:gC j e=0:=WL;have hJ:dK j e={j with sizes:=cG j.sizes (R8 j.sizes e.zkind) ⟨e.zkind,e.zwidth,e.zdepth⟩}:=WM;rw[hE,hJ,h];exact⟨_,rfl,enters_of func93 VZ rfl,(JD w c j a e _ hc hb hl.z).mono λ_ _ h=>some' h⟩
 ·have hE:gC j e=eh j.bars.length e.index:=WL;have hJ:dK j e={j with bars:=cG j.bars e.index ⟨e.bwidth,e.bdepth,e.blength,e.bcount,e.bcost,e.gaps⟩}:=WM;rw[hE,hJ,h];exact⟨_,rfl,enters_of func94 VZ rfl,O2 w c j a e ga gc hc hb hl.b hg hgv⟩
 ·have hE:gC j e=0:=WL;have hJ:dK j e={j with kerf:=e.number}:=WM;rw[hE,hJ,h];exact⟨_,rfl,enters_of func96 VZ rfl,(O8 w c j a e _ hc hb).mono λ_ _ h=>same h⟩
 ·have hE:gC j e=0:=WL;have hJ:dK j e={j with tile:=⟨e.twidth,e.tlength,e.tlap,e.ttail⟩}:=WM;rw[hE,hJ,h];exact⟨_,rfl,enters_of func97 VZ rfl,(PH w c j a e _ hc hb).mono λ_ _ h=>same h⟩
 ·have hE:gC j e=eh j.aH.length e.index:=WL;have hJ:dK j e={j with aH:=cG j.aH e.index ⟨e.lkind,e.lside,e.lweight⟩}:=WM;rw[hE,hJ,h];exact⟨_,rfl,enters_of func98 VZ rfl,OH w c j a e _ hc hb hl.l⟩
 ·have hE:gC j e=0:=WL;have hJ:dK j e={j with spans:=yF j.spans (sE e)}:=WM;rw[hE,hJ,h];exact⟨_,rfl,enters_of func100 VZ rfl,(IW w c j a e _ hc hb hl.s).mono λ_ _ h=>some' h⟩
 ·have hE:gC j e=NO j e:=WL;have hJ:dK j e=Is j e:=WM;rw[hE,hJ,h];exact⟨_,rfl,enters_of func101 VZ rfl,Py w c j a e _ hc hb hl⟩
end
section
open Kp Go.ChangeShapes Go.WideShapes Go.Deep
def Js:prog.cellsOf 34=15:=VZ
def Hs:prog.cellsOf 24=1:=VZ
def Ig:prog.cellsOf 22=1:=VZ
def Kd:prog.cellsOf 80=1:=VZ
def J8:prog.cellsOf 25=1:=VZ
def JS:prog.cellsOf 26=1:=VZ
def IK:prog.cellsOf 27=1:=VZ
def IT:prog.cellsOf 28=1:=VZ
def Jt:prog.cellsOf 31=1:=VZ
def IS:prog.cellsOf 32=1:=VZ
section
variable {H : Type} {enc : VK × Vr → H} {w : Vl} {base : Nat} {sp : Nat → Bool} {held : Bool}
def If{a:VM}{v:Vr}(h:w.cell? a=Vq v):a.spot=Vo:=by
 unfold World.cell? at h;split at h
 ·split at h
  ·cases h
  ·rename_i hh;simpa using hh
 ·cases h
def LM(d:DataW H):1<=Rows.uptoBulk d:=by
 cases d with
 |lit l=>cases l<;>simp[Rows.uptoBulk]
 |_=>simp[Rows.uptoBulk]
def nA(l:List (DataW H)):l.length<=Rows.uptoBulkAll l:=by
 induction l with
 |nil=>simp
 |cons d l ih=>simp only[List.length_cons,Rows.uptoBulkAll];have:=LM d;omega
def vS{l:List (DataW H)}{d:DataW H}(h:d∈l):Rows.uptoBulk d<=Rows.uptoBulkAll l:=by
 induction l with
 |nil=>cases h
 |cons e l ih=>
  simp only[Rows.uptoBulkAll];rcases List.mem_cons.1 h with rfl|h
  ·omega
  ·have:=ih h;omega
def eF{T:Type}{st et:VK}{k:Nat}(hu:prog.underlying st=Vq (.slice et))(hk:prog.cellsOf et=k)(hk0:0<k)(row:T->List Vr)(t0:T)(P:T->DataW H->Prop)
  (open1:∀(n:Nat) (cs:List Vr) (y:DataW H×List MemPlace),cs.length=k->DataW.trod enc prog w base sp held n et cs=Vq y->∃t,cs=row t/\P t y.1)
  {n:Nat}{c:Vr}{x:DataW H×List MemPlace}(h:DataW.trod enc prog w base sp held n st [c]=Vq x):
  ∃(A:Option VM) (cap:Nat) (l:List T),c= .slice A l.length cap/\bK k w w.heap.size A cap (l.map row)/\∃ds:List (DataW H),ds.length=l.length/\Rows.uptoBulkAll ds<=Rows.uptoBulk x.1/\∀(i:Nat) d,ds[i]?=Vq d->P (l.getD i t0) d:=by
 rcases open_slice hu h with⟨hc,_⟩|⟨a,len,cap,m,n',D,Pl,hc,hb,hl,hm,hmm,hx,hi⟩
 ·obtain rfl:c= .slice Vo 0 0:=by simpa using hc
  exact⟨Vo,0,[],rfl,⟨V5,by simp[VJ],λh=>by simp at h⟩,[],rfl,Nat.zero_le _,λi d h=>by simp at h⟩
 ·obtain rfl:c= .slice (Vq a) len cap:=by simpa using hc
  have hml:len<=m:=by rw[hmm];split <;>omega
  have each:∀i,i<len->∃t:T,(∀j,j<k->w.cell? ((a.add (i*k)).add j)=(row t)[j]?)/\P t (D i):=by
   intro i hil;obtain⟨cs',hcs,ht⟩:=hi i VY;rw[hk] at hcs;obtain⟨_,hlen,hat⟩:=Vl.cells?_some hcs;obtain⟨t,rfl,hp⟩:=open1 _ _ _ hlen ht;exact⟨t,hat,hp⟩
  have hch:∃f:Nat->T,∀i,i<len->(∀j,j<k->w.cell? ((a.add (i*k)).add j)=(row (f i))[j]?)/\P (f i) (D i):=
   ⟨λi=>if h:i<len then Classical.choose (each i h) else t0,λi hil=>by
    have:=Classical.choose_spec (each i hil);simpa only[dif_pos hil] using this⟩
  obtain⟨f,hf⟩:=hch;have hat:∀i,i<len->((List.range len).map f).getD i t0=f i:=λi hil=>by simp[List.getD,hil]
  refine⟨Vq a,cap,(List.range len).map f,V5,⟨XJ,hm,λh0=> ?_⟩,(List.range len).map D,V5,?_,λi d hd=> ?_⟩
  ·have h0':0<len:=by simpa using h0
   have hrow:∃v,(row (f 0))[0]?=Vq v:=by
    obtain⟨cs',hcs,ht⟩:=hi 0 VY;rw[hk] at hcs;obtain⟨_,hlen,hat2⟩:=Vl.cells?_some hcs;have h1:=(hf 0 h0').1 0 hk0;rw[hat2 0 hk0] at h1;exact⟨cs'[0]'VY,h1.symm.trans (Vt VY)⟩
   obtain⟨v,hv⟩:=hrow;obtain⟨b,o,s⟩:=a;have hc0:=(hf 0 h0').1 0 hk0;rw[hv] at hc0;have hs:s=Vo:=by
    have:=If hc0;cases s with
    |none=>rfl
    |some z=>exfalso;simp[VM.add] at this
   subst hs;rw[addr_add,addr_add] at hc0;refine⟨b,o,rfl,Vl.block_lt_of_cell? w _ hc0,λi hil j hj=> ?_⟩;have hil':i<len:=by simpa using hil
   have:=(hf i hil').1 j hj;rw[addr_add,addr_add,VE] at this;have e:(((List.range len).map f).map row).getD i []=row (f i):=by rw[Vn,List.getElem?_map,List.getElem?_map,List.getElem?_range hil'];rfl
   rw[this,e]
  ·rw[hx];simp only[Rows.uptoBulk];omega
  ·have hil:i<len:=by
    have:=(List.getElem?_eq_some_iff.1 hd).1;exact Ya
   rw[hat i hil];have:d=D i:=by rw[List.getElem?_map,List.getElem?_range hil] at hd;simpa using hd.symm
   rw[this];exact(hf i hil).2
def Cd{n:Nat}{c:Vr}{x:DataW H×List MemPlace}(h:DataW.trod enc prog w base sp held n 25 [c]=Vq x):
  ∃(A:Option VM) (cap:Nat) (l:List Int),c= .slice A l.length cap/\bK 1 w w.heap.size A cap (aX l):=by
 obtain⟨A,cap,l,h1,h2,_⟩:=eF underlying25 aN V0 (λn:Int=>[Value.int .i64 n]) 0 (λ_ _=>True) (λn cs y hl ht=>by
  match cs,hl with
  |[c],_=>obtain⟨k,rfl,_⟩:=cZ ht;exact⟨k,rfl,trivial⟩) h
 exact⟨A,cap,l,h1,h2⟩
def Ee{n:Nat}{c:Vr}{x:DataW H×List MemPlace}(h:DataW.trod enc prog w base sp held n 80 [c]=Vq x):
  ∃(A:Option VM) (cap:Nat) (l:List Sd),c= .slice A l.length cap/\bK 7 w w.heap.size A cap (aD l)/\l.length<=Rows.uptoBulk x.1:=by
 obtain⟨A,cap,l,h1,h2,ds,h3,h4,_⟩:=eF underlying80 xU V0 nt ⟨0,0,0,0,Vp,0,0⟩ (λ_ _=>True) (λn cs y hl ht=>by
  match cs,hl with
  |[c0,c1,c2,c3,c4,c5,c6],_=>obtain⟨a0,a1,a2,a3,a4,a5,a6,rfl,_,rfl,_,rfl,_,rfl,_,rfl,rfl,_,rfl,_⟩:=xV ht;exact⟨⟨a0,a1,a2,a3,a4,a5,a6⟩,rfl,trivial⟩) h
 exact⟨A,cap,l,h1,h2,by have:=nA ds;omega⟩
def DF{n:Nat}{c:Vr}{x:DataW H×List MemPlace}(h:DataW.trod enc prog w base sp held n 26 [c]=Vq x):
  ∃(A:Option VM) (cap:Nat) (l:List kR),c= .slice A l.length cap/\bK 5 w w.heap.size A cap (bD l)/\l.length<=Rows.uptoBulk x.1:=by
 obtain⟨A,cap,l,h1,h2,ds,h3,h4,_⟩:=eF underlying26 xt V0 wm ef (λ_ _=>True) (λn cs y hl ht=>by
  match cs,hl with
  |[c0,c1,c2,c3,c4],_=>obtain⟨a0,a1,a2,a3,a4,rfl,_,rfl,rfl,rfl,rfl⟩:=pV ht;exact⟨⟨a0,a1,a2,a3,a4⟩,rfl,trivial⟩) h
 exact⟨A,cap,l,h1,h2,by have:=nA ds;omega⟩
def CK{n:Nat}{c:Vr}{x:DataW H×List MemPlace}(h:DataW.trod enc prog w base sp held n 27 [c]=Vq x):
  ∃(A:Option VM) (cap:Nat) (l:List Sz),c= .slice A l.length cap/\bK 3 w w.heap.size A cap (bN l)/\l.length<=Rows.uptoBulk x.1:=by
 obtain⟨A,cap,l,h1,h2,ds,h3,h4,_⟩:=eF underlying27 yx V0 GA ⟨0,0,0⟩ (λ_ _=>True) (λn cs y hl ht=>by
  match cs,hl with
  |[c0,c1,c2],_=>obtain⟨a0,a1,a2,rfl,_,rfl,_,rfl,_⟩:=xj ht;exact⟨⟨a0,a1,a2⟩,rfl,trivial⟩) h
 exact⟨A,cap,l,h1,h2,by have:=nA ds;omega⟩
def Dr{n:Nat}{c:Vr}{x:DataW H×List MemPlace}(h:DataW.trod enc prog w base sp held n 31 [c]=Vq x):
  ∃(A:Option VM) (cap:Nat) (l:List Ld),c= .slice A l.length cap/\bK 3 w w.heap.size A cap (bU l)/\l.length<=Rows.uptoBulk x.1:=by
 obtain⟨A,cap,l,h1,h2,ds,h3,h4,_⟩:=eF underlying31 yA V0 Rs po (λ_ _=>True) (λn cs y hl ht=>by
  match cs,hl with
  |[c0,c1,c2],_=>obtain⟨a0,a1,a2,rfl,_,rfl,_,rfl⟩:=ym ht;exact⟨⟨a0,a1,a2⟩,rfl,trivial⟩) h
 exact⟨A,cap,l,h1,h2,by have:=nA ds;omega⟩
def Dw{n:Nat}{c:Vr}{x:DataW H×List MemPlace}(h:DataW.trod enc prog w base sp held n 32 [c]=Vq x):
  ∃(A:Option VM) (cap:Nat) (l:List Aw),c= .slice A l.length cap/\bK 5 w w.heap.size A cap (bI l)/\l.length<=Rows.uptoBulk x.1:=by
 obtain⟨A,cap,l,h1,h2,ds,h3,h4,_⟩:=eF underlying32 yt V0 j7 ⟨0,0,0,0,0⟩ (λ_ _=>True) (λn cs y hl ht=>by
  match cs,hl with
  |[c0,c1,c2,c3,c4],_=>obtain⟨a0,a1,a2,a3,a4,rfl,_,rfl,_,rfl,_,rfl,_,rfl,_⟩:=pX ht;exact⟨⟨a0,a1,a2,a3,a4⟩,rfl,trivial⟩) h
 exact⟨A,cap,l,h1,h2,by have:=nA ds;omega⟩
def Ht{n:Nat}{c:Vr}{x:DataW H×List MemPlace}(h:DataW.trod enc prog w base sp held n 28 [c]=Vq x):
  ∃(A:Option VM) (cap:Nat) (l:List Br),c= .slice A l.length cap/\fk w w.heap.size A cap l:=by
 obtain⟨A,cap,l,h1,⟨h2,h3,h4⟩,ds,h5,_,h7⟩:=eF underlying28 yI V0 (λt:Br×Option VM×Nat=>qU t.1 t.2.1 t.2.2) (oe,Vo,0) (λt _=>bK 2 w w.heap.size t.2.1 t.2.2 (di t.1.gaps)) (λn cs y hl ht=>by
  match cs,hl with
  |[c0,c1,c2,c3,c4,c5],_=>obtain⟨a0,a1,a2,a3,a4,ga,gc,gl,rfl,_,rfl,_,rfl,_,rfl,_,rfl,_,rfl,hg,_⟩:=Da ht;exact⟨(⟨a0,a1,a2,a3,a4,gl⟩,ga,gc),rfl,zp hg⟩) h
 refine⟨A,cap,l.map (·.1),by rw[Vu];exact h1,by rw[Vu];simpa using h2,h3,λh0=> ?_⟩;rw[Vu] at h0;obtain⟨b,off,e,hb,hc⟩:=h4 XE;refine⟨b,off,e,hb,λi hi=> ?_⟩;rw[Vu] at hi;have e1:(l.map (·.1)).getD i oe=(l.getD i (oe,Vo,0)).1:=by rw[Vn,Vn,List.getElem?_map,Vt hi];rfl
 refine⟨(l.getD i (oe,Vo,0)).2.1,(l.getD i (oe,Vo,0)).2.2,λj hj=> ?_,?_⟩
 ·rw[hc i Xi j hj,e1,Vn,Vn,List.getElem?_map,Vt hi];rfl
 ·rw[e1];exact h7 i (ds[i]'VY) (Vt VY)
def xR{T:Type}(f:T->Nat)(t0:T):∀(l:List T) (ds:List (DataW H)),ds.length=l.length->(∀(i:Nat) d,ds[i]?=Vq d->f (l.getD i t0)<=Rows.uptoBulk d)->(l.map f).sum<=Rows.uptoBulkAll ds
 |[],_,_,_=>V5
 |t::l,[],h,_=>by simp at h
 |t::l,d::ds,h,hi=>by
  have h0:=hi 0 d rfl;have ih:=xR f t0 l ds Wy (λi d hd=>hi (i+1) d hd);simp only[List.map_cons,List.sum_cons,Rows.uptoBulkAll];simp at h0;omega
def Ff{n:Nat}{c:Vr}{x:DataW H×List MemPlace}(h:DataW.trod enc prog w base sp held n 22 [c]=Vq x):
  ∃(A:Option VM) (cap:Nat) (rs:List (List Sd)),c= .slice A rs.length cap/\eB w w.heap.size A cap rs/\rs.flatten.length<=Rows.uptoBulk x.1:=by
 obtain⟨A,cap,l,h1,⟨h2,h3,h4⟩,ds,h5,h6,h7⟩:=eF underlying22 Kd V0 (λt:List Sd×Option VM×Nat=>[Value.slice t.2.1 t.1.length t.2.2]) ([],Vo,0) (λt d=>bK 7 w w.heap.size t.2.1 t.2.2 (aD t.1)/\t.1.length<=Rows.uptoBulk d) (λn cs y hl ht=>by
  match cs,hl with
  |[c0],_=>obtain⟨A,cap,l,rfl,hs,hb⟩:=Ee ht;exact⟨(l,A,cap),rfl,hs,hb⟩) h
 refine⟨A,cap,l.map (·.1),by rw[Vu];exact h1,⟨by rw[Vu];simpa using h2,h3,λh0=> ?_⟩,?_⟩
 ·rw[Vu] at h0;obtain⟨b,off,e,hb,hc⟩:=h4 XE;refine⟨b,off,e,hb,λi hi=> ?_⟩;rw[Vu] at hi;have e1:(l.map (·.1)).getD i []=(l.getD i ([],Vo,0)).1:=by rw[Vn,Vn,List.getElem?_map,Vt hi];rfl
  refine⟨(l.getD i ([],Vo,0)).2.1,(l.getD i ([],Vo,0)).2.2,?_,?_⟩
  ·have:=hc i Xi 0 V0;rw[Nat.one_mul,Nat.add_zero] at this;rw[this,e1,Vn,Vn,List.getElem?_map,Vt hi];rfl
  ·rw[e1];exact(h7 i (ds[i]'VY) (Vt VY)).1
 ·rw[List.length_flatten,List.map_map];exact VB (xR (λt:List Sd×Option VM×Nat=>t.1.length) ([],Vo,0) l ds h5 (λi d hd=>(h7 i d hd).2)) h6
def Iw{n:Nat}{l:List Vr}{x:DataW H×List MemPlace}(hl:l.length=15)(hf:DataW.trod enc prog w base sp held n 34 l=Vq x):
  ∃(j:bC) (a:dq),l=(bZ j a).toList/\eC w w.heap.size j a/\j.rings.flatten.length<=Rows.uptoBulk x.1:=by
 obtain⟨c0,l0,rfl,h0⟩:=ae hl;obtain⟨c1,l1,rfl,h1⟩:=ae h0;obtain⟨c2,l2,rfl,h2⟩:=ae h1;obtain⟨c3,l3,rfl,h3⟩:=ae h2;obtain⟨c4,l4,rfl,h4⟩:=ae h3;obtain⟨c5,l5,rfl,h5⟩:=ae h4;obtain⟨c6,l6,rfl,h6⟩:=ae h5;obtain⟨c7,l7,rfl,h7⟩:=ae h6;obtain⟨c8,l8,rfl,h8⟩:=ae h7;obtain⟨c9,l9,rfl,h9⟩:=ae h8;obtain⟨c10,l10,rfl,h10⟩:=ae h9;obtain⟨c11,l11,rfl,h11⟩:=ae h10;obtain⟨c12,l12,rfl,h12⟩:=ae h11;obtain⟨c13,l13,rfl,h13⟩:=ae h12;obtain⟨c14,l14,rfl,h14⟩:=ae h13;obtain rfl:l14=[]:=List.length_eq_zero_iff.1 h14;clear h0 h1 h2 h3 h4 h5 h6 h7 h8 h9 h10 h11 h12 h13 h14;obtain⟨xs,m,_,hx,_,hlen,hg⟩:=DataW.trod_struct underlying34 hf;obtain⟨y0,hy0,g0⟩:=gK hlen hg 0 nM rfl rfl;obtain⟨y1,hy1,g1⟩:=gK hlen hg 1 Hs rfl rfl;obtain⟨y2,hy2,g2⟩:=gK hlen hg 2 aN rfl rfl;obtain⟨y3,hy3,g3⟩:=gK hlen hg 3 aN rfl rfl;obtain⟨y4,hy4,g4⟩:=gK hlen hg 4 J8 rfl rfl;obtain⟨y5,hy5,g5⟩:=gK hlen hg 5 JS rfl rfl;obtain⟨y6,hy6,g6⟩:=gK hlen hg 6 IK rfl rfl;obtain⟨y7,hy7,g7⟩:=gK hlen hg 7 IT rfl rfl;obtain⟨y8,hy8,g8⟩:=gK hlen hg 8 aN rfl rfl;obtain⟨y9,hy9,g9⟩:=gK hlen hg 9 yz rfl rfl;obtain⟨y10,hy10,g10⟩:=gK hlen hg 10 Jt rfl rfl;obtain⟨y11,hy11,g11⟩:=gK hlen hg 11 IS rfl rfl;obtain⟨xp,mp,_,hxp,_,hlenp,hgp⟩:=DataW.trod_struct underlying24 g1;obtain⟨z0,hz0,gp⟩:=gK hlenp hgp 0 Ig rfl rfl;obtain⟨nm,rfl⟩:=Rm g0;obtain⟨pa,pc,rs,rfl,hr,hbulk⟩:=Ff gp;obtain⟨og,rfl,_⟩:=cZ g2;obtain⟨sg,rfl,_⟩:=cZ g3;obtain⟨ua,uc,us,rfl,hu⟩:=Cd g4;obtain⟨oa,oc,os,rfl,ho,_⟩:=DF g5;obtain⟨za,zc,zs,rfl,hz,_⟩:=CK g6;obtain⟨ba,bc,bs,rfl,hb⟩:=Ht g7;obtain⟨kf,rfl,_⟩:=cZ g8;obtain⟨t0,t1,t2,t3,rfl,_,rfl,_,rfl,_,rfl,_⟩:=yl g9;obtain⟨la,lc,ls,rfl,hls,_⟩:=Dr g10;obtain⟨sa,sc,ss,rfl,hss,_⟩:=Dw g11;refine⟨⟨nm,rs,og,sg,us,os,zs,bs,kf,⟨t0,t1,t2,t3⟩,ls,ss⟩,⟨pa,pc,ua,uc,oa,oc,za,zc,ba,bc,la,lc,sa,sc⟩,rfl,⟨hr,hu,ho,hz,hb,hls,hss⟩,?_⟩;have e1:z0.1∈xp.map (·.1):=List.mem_map.2 ⟨z0,List.mem_of_getElem? hz0,rfl⟩;have e2:y1.1∈xs.map (·.1):=List.mem_map.2 ⟨y1,List.mem_of_getElem? hy1,rfl⟩;have b1:=vS e1;have b2:=vS e2;have d1:y1.1= .agg (xp.map (·.1)):=by rw[hxp]
 have d2:x.1= .agg (xs.map (·.1)):=by rw[hx]
 rw[d1] at b2;rw[d2];simp only[Rows.uptoBulk] at b2⊢;show rs.flatten.length<=_;omega
end
end
section
open Kp
attribute [local go_sem] bF jR jN jU jK jI jO jP jM jL jQ fK fE fm fl ft
attribute [local go_sem] aS gO
def iM:bC:=⟨[],[],0,0,[],[],[],[],0,⟨0,0,0,0⟩,[],[]⟩
def iO:dq:=⟨Vo,0,Vo,0,Vo,0,Vo,0,Vo,0,Vo,0,Vo,0⟩
def Hi(w:Vl)(B:Nat):eC w B iM iO:=
 ⟨⟨V0,V0,λh=>absurd h V0⟩,⟨V0,V0,λh=>absurd h V0⟩,⟨V0,V0,λh=>absurd h V0⟩,⟨V0,V0,λh=>absurd h V0⟩,
  ⟨V0,V0,λh=>absurd h V0⟩,⟨V0,V0,λh=>absurd h V0⟩,⟨V0,V0,λh=>absurd h V0⟩⟩
def qP(X:Nat->Prop)(w:Vl)(B:Nat):eL X w B iM iO:=⟨Hi _ _,λ_ _=>Hi _ _⟩
def eZ{fn:Func}{p u:Tmp}(h:fn.results=#[.cell p 34,.tmp u])(tmps:Array Vr)(w:Vl)(g:Nat)(cs:Array Vr)
  (hp:tmps.getD p Vs=VT (Vq ⟨g,0,Vo⟩))(hg:w.heap[g]?=Vq (.cells cs 34 (0,0)))(hi:(prog.info? 34).map (·.size)=Vq cs.size):
  (results fn tmps).run prog w= .ok (VX #[VW cs,tmps.getD u Vs]) w:=by
 have hp':tmps[p]?.getD Vs=VT (Vq ⟨g,0,Vo⟩):=by simpa using hp
 have hl:=run_loadVar_row (P:=prog) w g 34 34 cs (0,0) _ hg underlying34 rfl hi;simp[results,h,hp',asAddr,hl,Result.andThen]
noncomputable def wL(j:bC)(e:Ed):Int:=if mO j≠0 then 1 else if eJ e≠0 then eJ e else if gC j e≠0 then gC j e else mO (dK j e)
noncomputable def wh(j:bC)(e:Ed):bC:=if wL j e=0 then dK j e else iM
structure Je(j:bC)(e:Ed):Prop where
 sm:nL j
 ln:Mn j
 sm':nL (dK j e)
 idx:e.index<=9223372036854775807
def I9{e:Ed}(h:eJ e=0):1<=e.kind/\e.kind<=12:=by
 unfold eJ at h;split at h
 ·cases h
 ·omega
def OL{j:bC}(h:mO j=0):iT j.purlins=0:=by
 unfold mO at h;split at h
 ·cases h
 split at h
 ·contradiction
 split at h
 ·cases h
 split at h
 ·cases h
 split at h
 ·contradiction
 ·rename_i h1;exact Classical.not_not.1 h1
def Ow(b:Nat)(e:Ed)(g:Vr)(f:Nat):Nat->Vr
 |0=> VW Sa
 |1=> VT (Vq ⟨b,0,Vo⟩)
 |2=> VU VA e.kind
 |3=> .func (.func f) #[] #[]
 |_=> VW (aL e g)
def TF{k:Int}(h1:1<=k)(h2:k<=12){v:Vr}(hv:Sa[k.toNat]?=Vq v)(W:Vl):Sem.run prog (Instr.index 99 (VW Sa) (VU VA k)) W= .ok v W:=by
 rcases(show k=1\/k=2\/k=3\/k=4\/k=5\/k=6\/k=7\/k=8\/k=9\/k=10\/k=11\/k=12 by omega) with h|h|h|h|h|h|h|h|h|h|h|h
 all_goals
  subst h;injection hv with hv
  subst hv
  kernel_rfl
def vN(X:Nat->Prop)(w:Vl)(j:bC)(e:Ed)(x:Ending)(w':Vl):Prop:=
 ∃a',x=VV (VX #[VW (bZ (wh j e) a'),VU VA (wL j e)])/\Ext w w'/\eL X w' w'.heap.size (wh j e) a'
def xO(w:Vl)(j:bC)(a:dq)(e:Ed)(ga:Option VM)(gc:Nat){X:Nat->Prop}(hb:eL X w w.heap.size j a)(hg:cj w w.heap.size ga gc e.gaps)(hgv:∀W,Jm X w.heap.size w W->cj W W.heap.size ga gc e.gaps)(hXw:∀b,X b->b<w.heap.size)(hok:Je j e)(hm:eO w)(ht:aU w):
  VC prog 19 #[VW (bZ j a),VW (aL e (VQ ga e.gaps.length gc))] w (vN X w j e):=by
 obtain⟨W0,hW0⟩:∃W0,((w.alloc (.cells (bZ j a) 34)).alloc (.cells (aL e (VQ ga e.gaps.length gc)) 68)).alloc (.cells (bZ iM iO) 34)=W0:=⟨_,rfl⟩;have hs0:W0.heap.size=w.heap.size+3:=by rw[<-hW0];simp
 have e0:Ext w W0:=by rw[<-hW0];exact(((Below.refl _ _).alloc (Vm _) _).alloc V5 _).alloc Wa _
 have hJ:JC W0 w.heap.size j a:=by rw[<-hW0];exact JC.ext (JC.ext (Vy w _) ((Below.refl _ _).alloc (Vm _) _)) ((Below.refl _ _).alloc (Vm _) _)
 have hZ:EC W0 (w.heap.size+1) (aL e (VQ ga e.gaps.length gc)):=by
  rw[<-hW0];have:=EC.new (w.alloc (.cells (bZ j a) 34)) (aL e (VQ ga e.gaps.length gc));rw[VF] at this;exact this.alloc _
 have hR:JC W0 (w.heap.size+1+1) iM iO:=by
  rw[<-hW0];have:=Vy ((w.alloc (.cells (bZ j a) 34)).alloc (.cells (aL e (VQ ga e.gaps.length gc)) 68)) (.cells (bZ iM iO) 34);rw[VF,VF] at this;exact this
 have HJ:=Vk hJ;have HZ:=Vk hZ;have HR:=Vk hR;have HE0:=Vk e0;have HW:=Vk (show((w.alloc (.cells (bZ j a) 34)).alloc (.cells (aL e (VQ ga e.gaps.length gc)) 68)).alloc (.cells #[VR {data:=#[]},VQ Vo 0 0,VU VA 0,VU VA 0,VQ Vo 0 0,VQ Vo 0 0,VQ Vo 0 0,VQ Vo 0 0,VU VA 0,VU VA 0,VU VA 0,VU VA 0,VU VA 0,VQ Vo 0 0,VQ Vo 0 0] 34)=W0 from hW0);have HS0:=Vk hs0;have HOK:=Vk hok;have KJ:=Vk (λ(W:Vl) (h:Ext W0 W)=>mJ W j a (hb.toeC.grow (e0.tr h)) hok.sm (hm.below (e0.tr h) (Vm _)) (ht.below (e0.tr h) (Vm _)));have HG:=Vk (λ(W:Vl) (h:Ext W0 W)=>((hg.below (e0.tr h)).more (e0.tr h).size:cj W W.heap.size ga gc e.gaps));have KF:=Vk (λ(W:Vl) (h:Ext W0 W)=>BS W e ga gc (HG.o W h));obtain⟨x,hx⟩:∃x,mO j=x:=⟨_,rfl⟩;have HX:=Vk hx;simp only[hx] at KJ;have hz:=hs0;clear hs0 hJ hZ hR e0 hok;by_cases hx0:x=0
 ·subst hx0;obtain⟨y,hy⟩:∃y,eJ e=y:=⟨_,rfl⟩;simp only[hy] at KF;by_cases hy0:y=0
  ·subst hy0;obtain⟨k1,k2⟩:=I9 hy;have hpu:=OL hx;have KX:=λ(W:Vl) (h:Ext W0 W)=>OV W w.heap.size j a e ga gc ⟨k1,k2⟩ (HJ.o.ext h) (hb.below (HE0.o.tr h)) HOK.o.ln hpu (zp (hg.below (HE0.o.tr h))) (λW' hO=>zp (hgv W' (hO.below (HE0.o.tr h)))) HOK.o.idx
   obtain⟨f,hf,eg,_⟩:=KX W0 (Below.refl _ _);have KCH:=Vk (λ(W:Vl) (h:Ext W0 W)=>(show VC prog f #[VT (Vq ⟨w.heap.size,0,Vo⟩),VW (aL e (VQ ga e.gaps.length gc))] W λx w'=>x=VV (VU VA (gC j e))/\fj w.heap.size W w'/\(gC j e=0->∃a',nl X w.heap.size W w' (dK j e) a') from by
    obtain⟨f',hf',_,hc⟩:=KX W h;rw[hf] at hf';injection hf' with h1
    injection h1 with h2
    injection h2 with h3
    subst h3;exact hc))
   have HIX:=Vk (TF k1 k2 hf);have EG:=Vk eg;have HK:=Vk (And.intro k1 k2);have HM:=Vk hm;have HT:=Vk ht;have HXX:=Vk hx;have HYY:=Vk hy;have HXW:=Vk hXw;clear hx hy hpu KX hf eg hb hg hgv hXw hm ht hW0;go_enter func19,ntmps19;go_upto_region 1 with(fail)
   rw[HW.o];go_wp2_with(first
    |(go_at_call 25;go_must(refine(KJ.o _ (Below.refl _ _)).mono ?_);rintro x1 W1 ⟨rfl,hX1⟩;have HR1:=Vk (HR.o.ext hX1);have HZ1:=Vk (HZ.o.ext hX1);have HJ1:=Vk (HJ.o.ext hX1);have HX1:=Vk hX1;clear hX1)
    |(go_at_call 42;refine(KF.o _ HX1.o).mono ?_;rintro x2 W2 ⟨rfl,hX2⟩;have HX2:=Vk (Ext.tr HX1.o hX2);have hX02:=hX2;clear hX2)
    |(refine wpList_load_row rfl 34 _ rfl _ rfl 34 _ (0,0) _ HJ.o underlying34 rfl VZ ?_)
    |(refine wpList_load_row rfl 68 _ rfl _ rfl 68 _ (0,0) _ HZ1.o underlying68 rfl VZ ?_))
   refine wp_region_any VZ (bM 5 (λvs=>⟨#[VW (bZ j a),VW (aL e (VQ ga e.gaps.length gc)),VT (Vq ⟨w.heap.size,0,Vo⟩),VT (Vq ⟨w.heap.size+1,0,Vo⟩),VT (Vq ⟨w.heap.size+1+1,0,Vo⟩),VU VA 0,VU VA 0,Vs,Vs,VW (bZ j a),VU VA 0,VS Vp,Vs,VW (aL e (VQ ga e.gaps.length gc)),VU VA 0,VU VA 0,VS Vp,Vs,Vs,vs 0,vs 1,vs 2,vs 3,vs 4,Vs,Vs,Vs,Vs,Vs,Vs,Vs,Vs,Vs,Vs,Vs,Vs],[]⟩)
    (λw'=>Ext W0 w') (λi v _=>v=Ow (w.heap.size+1) e (VQ ga e.gaps.length gc) f i) (λ_=>Vp) VZ (λ_ _ h k=>h.tr k) (λ_ _ _ _ h _=>h) (λ_ _ _ _ h=>V6) ?step ?tail (λ_=>Vs) _ (HX2.o.tr (Ext.dr _)))
   case step=>
    intro i vs w' hi hD hd;rcases(show i=0\/i=1\/i=2\/i=3\/i=4 by omega) with rfl|rfl|rfl|rfl|rfl<;>clear hi
    ·refine Vx rfl (λK hK=> ?_);go_simp;refine(DO _).mono ?_;rintro x3 W3 ⟨rfl,hX3⟩;exact hK _ _ ⟨_,rfl,hX3,rfl,λh=>V6⟩
    ·exact Y1
    ·refine Vx rfl (λK hK=> ?_);have d1:=hd 1 VZ;simp only[Ow] at d1;have m:=(HZ.o.ext hD).cell 0;go_simp;exact hK _ _ ⟨Ow (w.heap.size+1) e (VQ ga e.gaps.length gc) f 2,by simp[Ow,d1],Ext.aB _,rfl,λh=>V6⟩
    ·refine Vx rfl (λK hK=> ?_);have d0:=hd 0 VZ;have d2:=hd 2 VZ;simp only[Ow] at d0 d2;have hix:=HIX.o;go_simp;exact hK _ _ ⟨Ow (w.heap.size+1) e (VQ ga e.gaps.length gc) f 3,by simp[Ow,d0,d2],Ext.aB _,rfl,λh=>V6⟩
    ·refine Vx rfl (λK hK=> ?_);exact wp_load_row 68 (.tmp 3) rfl (w.heap.size+1) rfl 68 _ (0,0) _ (HZ.o.ext hD) underlying68 rfl VZ (hK _ _ ⟨Ow (w.heap.size+1) e (VQ ga e.gaps.length gc) f 4,by simp[Ow,Act.put,aW],Ext.aB _,rfl,λh=>V6⟩)
   case tail=>
    intro vs w' hD hV _;have v3:=hV 3 VY;have v4:=hV 4 VY;simp only[Ow] at v3 v4;have HD:=Vk hD;have eg:=EG.o;clear hV hD;simp only[v3,v4,List.drop_succ_cons,List.drop_zero];obtain⟨z,hz0⟩:∃z,gC j e=z:=⟨_,rfl⟩;simp only[hz0] at KCH;by_cases hz1:z=0
    ·subst hz1;have KJ2:=Vk (λ(W:Vl) (a':dq) (h:Ext w W) (hb:eC W W.heap.size (dK j e) a')=>mJ W (dK j e) a' hb HOK.o.sm' (HM.o.below h (Vm _)) (HT.o.below h (Vm _)));obtain⟨u,hu⟩:∃u,mO (dK j e)=u:=⟨_,rfl⟩;simp only[hu] at KJ2;have hE:wL j e=u:=by unfold wL;rw[HXX.o,HYY.o,hz0,hu,if_neg V0,if_neg V0,if_neg V0]
     by_cases hu0:u=0
     ·subst hu0;have hP:wh j e=dK j e:=by unfold wh;rw[hE,if_pos rfl]
      have HEP:=Vk (And.intro hE hP);clear hE hP hu hz0 v3 v4;go_wp2_with(first
       |(go_at_call 25;have hCHK:=HCH;refine(KJ2.o _ _ ((HE0.o.tr HD.o).trans HC.o.below) HCH.o.at_).mono ?_;rintro x4 W4 ⟨rfl,hX4⟩;have HR4:=Vk (JC.ext HR3.o hX4);have HJ4:=Vk (JC.ext (show JC W3 w.heap.size (dK j e) a' from HJ3.o) hX4);have HX4:=Vk hX4;clear hX4)
       |(go_at_fn f;go_must(refine(KCH.o _ HD.o).mono ?_);rintro x3 W3 ⟨rfl,hC,hJJ⟩;obtain⟨a',hch⟩:=hJJ rfl;have HC:=Vk hC;have HCH:=Vk hch;have HR3:=Vk ((hC.others _ (HR.o.ext HD.o).lt VY).trans (HR.o.ext HD.o));have HJ3:=Vk (show W3.heap[w.heap.size]?=Vq (.cells (bZ (dK j e) a') 34 (0,0)) from hch.2.1);clear hC hJJ hch)
       |(refine wpList_load_row rfl 34 _ rfl _ rfl 34 _ (0,0) _ HJ4.o underlying34 rfl VZ ?_)
       |(refine wpList_load_row rfl 34 _ rfl _ rfl 34 _ (0,0) _ HJ3.o underlying34 rfl VZ ?_)
       |(refine wpList_store_row rfl 34 _ _ rfl _ _ rfl rfl 34 _ HR4.o VZ VZ VZ ?_))
      refine bodyPost_ret (eZ rfl _ _ _ _ rfl (setRow_heap HR4.o _) VZ) rfl ?_;have hlt2:=(HR.o.ext HD.o).lt;have hx4:Ext w W4:=Ext.tr ((HE0.o.tr HD.o).trans HC.o.below) HX4.o;have hfr:∀b,b<W3.heap.size->b≠w.heap.size+1+1->(W4.setRow (w.heap.size+1+1) (bZ (dK j e) a')).heap[b]?=W3.heap[b]?:=by
       intro b hb1 hb2;have e1:(W4.setRow (w.heap.size+1+1) (bZ (dK j e) a')).heap[b]?=W4.heap[b]?:=by simp only[World.setRow,Array.getElem?_modify];rw[if_neg (Ne.symm hb2)]
       exact e1.trans (HX4.o.block b hb1)
      have hsz:W3.heap.size<=(W4.setRow (w.heap.size+1+1) (bZ (dK j e) a')).heap.size:=VB HX4.o.size (af (Below.refl w.heap.size W4) VY _).size;have hne:∀b,(b<w.heap.size/\¬X b)\/w'.heap.size<=b->b≠w.heap.size+1+1:=λb h=>by rcases h with h|h<;>omega
      have hnx:∀b,(b<w.heap.size/\¬X b)\/w'.heap.size<=b->¬X b:=λb h hq=>by
       have:=HXW.o b hq;rcases h with h|h
       ·exact h.2 hq
       ·omega
      exact⟨a',by rw[HEP.o.1,HEP.o.2];rfl,af hx4 VY _,by rw[HEP.o.2];exact⟨HCH.o.2.2 _ ⟨hsz,λb h1 h2=>hfr b h1 (hne b h2)⟩,λW hO=>HCH.o.2.2 W ⟨VB hsz hO.1,λb h1 h2=>(hO.2 b (Nat.lt_of_lt_of_le h1 hsz) (hnx b h2)).trans (hfr b h1 (hne b h2))⟩⟩⟩
     ·have tu0:(u !=0)=Vv:=by rw[bne_iff_ne];exact hu0
      have hP:wh j e=iM:=by unfold wh;rw[hE,if_neg hu0]
      have HEP:=Vk (And.intro hE hP);clear hE hP hu hz0 v3 v4 hu0;go_wp2_with(first
       |(go_at_call 25;have hCHK:=HCH;refine(KJ2.o _ _ ((HE0.o.tr HD.o).trans HC.o.below) HCH.o.at_).mono ?_;rintro x4 W4 ⟨rfl,hX4⟩;have HR4:=Vk (JC.ext HR3.o hX4);have HJ4:=Vk (JC.ext (show JC W3 w.heap.size (dK j e) a' from HJ3.o) hX4);have HX4:=Vk hX4;clear hX4)
       |(go_at_fn f;go_must(refine(KCH.o _ HD.o).mono ?_);rintro x3 W3 ⟨rfl,hC,hJJ⟩;obtain⟨a',hch⟩:=hJJ rfl;have HC:=Vk hC;have HCH:=Vk hch;have HR3:=Vk ((hC.others _ (HR.o.ext HD.o).lt VY).trans (HR.o.ext HD.o));have HJ3:=Vk (show W3.heap[w.heap.size]?=Vq (.cells (bZ (dK j e) a') 34 (0,0)) from hch.2.1);clear hC hJJ hch)
       |(refine wpList_load_row rfl 34 _ rfl _ rfl 34 _ (0,0) _ HJ3.o underlying34 rfl VZ ?_)
       |(refine wpList_build rfl 34 _ rfl VZ ?_;rw[show Value.agg (Option.getD (prog.built 34 _) #[])=VW (bZ iM iO) from VZ])
       |(refine wpList_store_row rfl 34 _ _ rfl _ _ rfl rfl 34 _ HR4.o VZ VZ VZ ?_))
      refine bodyPost_ret (eZ rfl _ _ _ _ rfl (setRow_heap HR4.o _) VZ) rfl ?_;exact⟨iO,by rw[HEP.o.1,HEP.o.2];rfl,af (Ext.tr ((HE0.o.tr HD.o).trans HC.o.below) HX4.o) VY _,by rw[HEP.o.2];exact qP _ _ _⟩
    ·have tz0:(z !=0)=Vv:=by rw[bne_iff_ne];exact hz1
     have hE:wL j e=z:=by unfold wL;rw[HXX.o,HYY.o,hz0,if_neg V0,if_neg V0,if_pos hz1]
     have hP:wh j e=iM:=by unfold wh;rw[hE,if_neg hz1]
     have HEP:=Vk (And.intro hE hP);clear hE hP hz0 v3 v4 hz1;go_wp2_with(first
      |(go_at_fn f;go_must(refine(KCH.o _ HD.o).mono ?_);rintro x3 W3 ⟨rfl,hC,_⟩;have HC:=Vk hC;have HR3:=Vk ((hC.others _ (HR.o.ext HD.o).lt VY).trans (HR.o.ext HD.o));clear hC)
      |(refine wpList_build rfl 34 _ rfl VZ ?_;rw[show Value.agg (Option.getD (prog.built 34 _) #[])=VW (bZ iM iO) from VZ])
      |(refine wpList_store_row rfl 34 _ _ rfl _ _ rfl rfl 34 _ HR3.o VZ VZ VZ ?_))
     refine bodyPost_ret (eZ rfl _ _ _ _ rfl (setRow_heap HR3.o _) VZ) rfl ?_;exact⟨iO,by rw[HEP.o.1,HEP.o.2];rfl,af ((HE0.o.tr HD.o).trans HC.o.below) VY _,by rw[HEP.o.2];exact qP _ _ _⟩
  ·have ty0:(y !=0)=Vv:=by rw[bne_iff_ne];exact hy0
   have hE:wL j e=y:=by unfold wL;rw[hx,hy,if_neg V0,if_pos hy0]
   have hP:wh j e=iM:=by unfold wh;rw[hE,if_neg hy0]
   unfold vN;rw[hE,hP];clear hx hy hy0 hE hP hb hg hgv hXw hm ht hW0;go_enter func19,ntmps19;go_upto_region 1 with(fail)
   rw[HW.o];go_wp2_with(first
    |(go_at_call 25;go_must(refine(KJ.o _ (Below.refl _ _)).mono ?_);rintro x1 W1 ⟨rfl,hX1⟩;have HR1:=Vk (HR.o.ext hX1);have HZ1:=Vk (HZ.o.ext hX1);have HJ1:=Vk (HJ.o.ext hX1);have HX1:=Vk hX1;clear hX1)
    |(go_at_call 42;refine(KF.o _ HX1.o).mono ?_;rintro x2 W2 ⟨rfl,hX2⟩;have HR2:=Vk (HR1.o.ext hX2);have HX2:=Vk (Ext.tr HX1.o hX2);clear hX2)
    |(refine wpList_load_row rfl 34 _ rfl _ rfl 34 _ (0,0) _ HJ.o underlying34 rfl VZ ?_)
    |(refine wpList_load_row rfl 68 _ rfl _ rfl 68 _ (0,0) _ HZ1.o underlying68 rfl VZ ?_)
    |(refine wpList_build rfl 34 _ rfl VZ ?_;rw[show Value.agg (Option.getD (prog.built 34 _) #[])=VW (bZ iM iO) from VZ])
    |(refine wpList_store_row rfl 34 _ _ rfl _ _ rfl rfl 34 _ HR2.o VZ VZ VZ ?_))
   refine bodyPost_ret (eZ rfl _ _ _ _ rfl (setRow_heap HR2.o _) VZ) rfl ?_;exact⟨iO,rfl,af (HE0.o.tr HX2.o) VY _,qP _ _ _⟩
 ·have tx0:(x !=0)=Vv:=by rw[bne_iff_ne];exact hx0
  have hE:wL j e=1:=by unfold wL;rw[hx,if_pos hx0]
  have hP:wh j e=iM:=by unfold wh;rw[hE];rfl
  unfold vN;rw[hE,hP];clear hx hx0 hE hP hb hg hgv hXw hm ht hW0;go_enter func19,ntmps19;go_upto_region 1 with(fail)
  rw[HW.o];go_wp2_with(first
   |(go_at_call 25;go_must(refine(KJ.o _ (Below.refl _ _)).mono ?_);rintro x1 W1 ⟨rfl,hX1⟩;have HR1:=Vk (HR.o.ext hX1);have HZ1:=Vk (HZ.o.ext hX1);have HJ1:=Vk (HJ.o.ext hX1);have HX1:=Vk hX1;clear hX1)
   |(refine wpList_load_row rfl 34 _ rfl _ rfl 34 _ (0,0) _ HJ.o underlying34 rfl VZ ?_)
   |(refine wpList_build rfl 34 _ rfl VZ ?_;rw[show Value.agg (Option.getD (prog.built 34 _) #[])=VW (bZ iM iO) from VZ])
   |(refine wpList_store_row rfl 34 _ _ rfl _ _ rfl rfl 34 _ HR1.o VZ VZ VZ ?_))
  refine bodyPost_ret (eZ rfl _ _ _ _ rfl (setRow_heap HR1.o _) VZ) rfl ?_;exact⟨iO,rfl,af (HE0.o.tr HX1.o) VY _,qP _ _ _⟩
end
section
open Kp
attribute [local go_sem] bF aS
def cj.off{w W:Vl}{B:Nat}{ga:Option VM}{gc:Nat}{l:List (Int×Int)}(h:cj w B ga gc l)(hs:w.heap.size<=W.heap.size)(hB:∀b,b<B->W.heap[b]?=w.heap[b]?):cj W B ga gc l:=by
 have q:cj {w with heap:=W.heap} B ga gc l:=h.below ⟨rfl,rfl,rfl,hs,hB⟩;exact q
def Dq(w:Vl)(j:bC)(a:dq)(e:Ed)(ga:Option VM)(gc:Nat)(hb:eC w w.heap.size j a)(hg:cj w w.heap.size ga gc e.gaps)(hok:Je j e)(hm:eO w)(ht:aU w):
  VC prog 18 #[VW (bZ j a),VW (aL e (VQ ga e.gaps.length gc))] w λx w'=>x=VV (VU VA (wL j e))/\Ext w w':=by
 have e0:Ext w ((w.alloc (.cells (bZ j a) 34)).alloc (.cells (aL e (VQ ga e.gaps.length gc)) 68)):=((Below.refl _ _).alloc (Vm _) _).alloc V5 _;have HE0:=Vk e0;have HJ:=Vk (JC.ext (Vy w _:JC (w.alloc (.cells (bZ j a) 34)) w.heap.size j a) ((Below.refl _ _).alloc (Vm _) (.cells (aL e (VQ ga e.gaps.length gc)) 68)));have HZ:=Vk (show EC ((w.alloc (.cells (bZ j a) 34)).alloc (.cells (aL e (VQ ga e.gaps.length gc)) 68)) (w.heap.size+1) (aL e (VQ ga e.gaps.length gc)) by
  have:=EC.new (w.alloc (.cells (bZ j a) 34)) (aL e (VQ ga e.gaps.length gc));rw[VF] at this;exact this)
 have KA:=Vk (xO _ j a e ga gc (X:=λ_=>False) ((hb.grow e0).v (Vm _) (λ_ _ h=>h)) ((hg.below e0).more e0.size) (λW hO=>((hg.below e0).off hO.1 λb hb=>hO.2 b (Nat.lt_of_lt_of_le hb e0.size) id).more (VB e0.size hO.1)) (λ_ h=>h.elim) hok (hm.below e0 (Vm _)) (ht.below e0 (Vm _)));obtain⟨z,hz⟩:∃z,wL j e=z:=⟨_,rfl⟩;obtain⟨j',hj⟩:∃z,wh j e=z:=⟨_,rfl⟩;unfold vN at KA;simp only[hz,hj] at KA;rw[hz];clear hz hj hb hg hok hm ht e0;go_enter func18,ntmps18;go_wp2_with(first
  |(go_at_call 19;go_must(refine KA.o.mono ?_);rintro x1 W1 ⟨a',rfl,hX1,_⟩;have HX1:=Vk hX1;clear hX1)
  |(refine wpList_load_row rfl 34 _ rfl _ rfl 34 _ (0,0) _ HJ.o underlying34 rfl VZ ?_)
  |(refine wpList_load_row rfl 68 _ rfl _ rfl 68 _ (0,0) _ HZ.o underlying68 rfl VZ ?_)
  |(refine wpList_store_row rfl 34 _ _ rfl _ _ rfl rfl 34 _ (Vy W1 _) VZ VZ VZ ?_))
 go_ret;exact⟨rfl,af ((HE0.o.tr HX1.o).alloc (HE0.o.tr HX1.o).size _) (HE0.o.tr HX1.o).size _⟩
end
end Go.Proofs.YtmliacdegmklaaaGreatDoor
