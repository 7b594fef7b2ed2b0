/- ChangeReplays of kingpostlaw58: part 11 of its proof (merged and shortened by program). -/
import Derived.Test.YtmliacdegmklaaaGreatDoorM07
import Derived.Test.YtmliacdegmklaaaGreatDoorM09
import Derived.Test.YtmliacdegmklaaaGreatDoorM10
set_option linter.unusedVariables false
set_option linter.unusedSimpArgs false
set_option linter.defProp false
set_option maxHeartbeats 8000000
set_option maxRecDepth 100000
open Go.RowKit Go.Shelf Go.Proofs.Tryz
open Array renaming getElem?_eq_some_iff→Vz
open Bool renaming false→Vp,true→Vv,and_eq_true_iff→Vw
open Go renaming World→Vl,Value→Vr,undef→Vs,wpOp_step→Vx,Calls→VC,maxLen→VJ,TypeId→VK,Addr→VM,Rows→VP
open Go.AllReady renaming cons→VH,nil→VO
open Go.Ending renaming returned→VV
open Go.IntKind renaming i64→VA
open Go.IntWalk renaming i64_in→VI
open Go.Lib renaming hid→Vk
open Go.RowKit renaming intOf→VG,Below→VL
open Go.Value renaming slice→VQ,string→VR,bool→VS,pointer→VT,int→VU,agg→VW,tuple→VX
open Go.World renaming alloc_heap_new→Vy,size_alloc→VF
open List renaming getD_eq_getElem?_getD→Vn,getElem?_eq_getElem→Vt,length_map→Vu,length_append→VD
open Nat renaming le_refl→Vm,le_trans→VB,mul_comm→VE
open Option renaming none→Vo,some→Vq
open Option.some renaming inj→VN
open Go.Proofs.YtmliacdegmklaaaGreatDoor
namespace Go.Proofs.YtmliacdegmklaaaGreatDoor
section
open Kp
attribute [local go_sem] aS gO ia kp kv kE km kF kL kD ki fZ fW fX fV gx gy gw fD fu fG fF fL eQ gm gH gz gh gB gG gi gE iu gY gX iv eV gj
set_option maxHeartbeats 80000000 in
def a1j(w:Vl)(a b:Ed)(ga gb:Option VM)(ca cb:Nat)(ha:cj w w.heap.size ga ca a.gaps)(hb:cj w w.heap.size gb cb b.gaps)(hF:((a.kind==b.kind)&&(a.index==b.index)&&(uE a b))=Vp):
  VC prog 85 #[VW (aL a (VQ ga a.gaps.length ca)),VW (aL b (VQ gb b.gaps.length cb))] w λe w'=>e=VV (VS (qF a b))/\VL w.heap.size w w':=by
 have mixed:prog.follows .mixedOrders=Vv:=VZ;have HA:=Vk ha;have HB:=Vk hb;obtain⟨r,hr⟩:∃r,qF a b=r:=⟨_,rfl⟩;rw[hr];have HR:=Vk hr;clear ha hb hr;go_enter func85,ntmps85;go_upto_region 1 with fail
 go_cut [5,6] (λs5 s6 wx=>TO w a b ga gb ca cb s5 s6 wx)
 case first =>
  go_region_o
  all_goals go_wp2_with fail
  all_goals go_meet
  ·exact⟨T6 _ _ _ _ _,TL _ _ _ _ _,⟨_,_,rfl,rfl,Tt _ _ _ _ _,TP _ _ _ _ _⟩,LP _ _ _ _ _⟩
  ·exact⟨T6 _ _ _ _ _,TL _ _ _ _ _,⟨_,_,rfl,rfl,TP _ _ _ _ _,Tt _ _ _ _ _⟩,LP _ _ _ _ _⟩
 case rest=>
  obtain⟨ea,eb,⟨p,q,rfl,rfl,ra,rb⟩,hlow⟩:=hcut;have EA:=Vk ea;have EB:=Vk eb;have eca:=λi=>EA.o.cell i
  have ecb:=λi=>EB.o.cell i
  have rca:=λi=>cK.cell ra i
  have rcb:=λi=>cK.cell rb i
  have lta:=ea.lt;have ltb:=eb.lt;have hlz:=hlow.size;have cg:=Vk (xQ wc ga gb ca cb a.gaps b.gaps ((HA.o.below hlow).more hlz) ((HB.o.below hlow).more hlz));have HLOW:=Vk hlow;clear ea eb ra rb hlow;have hr:=HR.o;clear HR;unfold qF at hr;cases t0:(a.kind==b.kind)<;>simp only[t0,Bool.false_and,Bool.true_and] at hr hF
  case' true=>cases t1:(a.index==b.index)<;>simp only[t1,Bool.false_and,Bool.true_and] at hr hF
  case' true=>have t2:(uE a b)=Vp:=hF
  case' true=>simp only[t2,Bool.false_and] at hr
  all_goals exact a1k
end
section
open Kp
def uu(w:Vl)(a b:Ed)(ga gb:Option VM)(ca cb:Nat)(ha:cj w w.heap.size ga ca a.gaps)(hb:cj w w.heap.size gb cb b.gaps):
  VC prog 85 #[VW (aL a (VQ ga a.gaps.length ca)),VW (aL b (VQ gb b.gaps.length cb))] w λe w'=>e=VV (VS (qF a b))/\VL w.heap.size w w':=by
 cases hF:((a.kind==b.kind)&&(a.index==b.index)&&(uE a b))
 ·exact a1j w a b ga gb ca cb ha hb hF
 simp only[Bool.and_eq_true] at hF;obtain⟨⟨t0,t1⟩,t2⟩:=hF;cases hF:((FL a b)&&(vL a b)&&(a.bwidth==b.bwidth)&&(a.bdepth==b.bdepth))
 ·exact a1h w a b ga gb ca cb ha hb t0 t1 t2 hF
 simp only[Bool.and_eq_true] at hF;obtain⟨⟨⟨t3,t4⟩,t5⟩,t6⟩:=hF;cases hF:((a.blength==b.blength)&&(a.bcount==b.bcount)&&(a.bcost==b.bcost)&&(a.gaps==b.gaps))
 ·exact a1g w a b ga gb ca cb ha hb t0 t1 t2 t3 t4 t5 t6 hF
 simp only[Bool.and_eq_true] at hF;obtain⟨⟨⟨t7,t8⟩,t9⟩,t10⟩:=hF;exact a1i w a b ga gb ca cb ha hb t0 t1 t2 t3 t4 t5 t6 t7 t8 t9 t10
end
section
open Kp
attribute [local go_sem] aS gO
def eJ(e:Ed):Int:=if e.kind<1\/12<e.kind then 8 else if qF e (fN e)=Vv then 0 else 9
def BS(w:Vl)(e:Ed)(ga:Option VM)(gc:Nat)(hg:cj w w.heap.size ga gc e.gaps):
  VC prog 42 #[VW (aL e (VQ ga e.gaps.length gc))] w λr w'=>r=VV (VU VA (eJ e))/\VL w.heap.size w w':=by
 by_cases h1:e.kind<1
 ·have HF:=Vk (show eJ e=8 by unfold eJ;rw[if_pos (.inl h1)]);exact a0J
 by_cases h2:12<e.kind
 ·have HF:=Vk (show eJ e=8 by unfold eJ;rw[if_pos (.inr h2)]);exact a0J
 have hB0:VL w.heap.size w (w.alloc (.cells (aL e (VQ ga e.gaps.length gc)) 68)):=(Below.refl _ _).alloc (Vm _) _;have HGP:=Vk hg;have HB0:=Vk hB0;have E0:=Vk (show iA (w.alloc (.cells (aL e (VQ ga e.gaps.length gc)) 68)).drew w.heap.size e (VQ ga e.gaps.length gc) from iA.new w e _);have mixed:prog.follows .mixedOrders=Vv:=VZ;clear hg hB0;go_enter func42,ntmps42;go_upto_region 3 with fail
 refine wp_region_any mixed ?_;refine wpAny_ready (rs:=[0,1]) VZ V5 ?_;refine VH rfl (λK hK=> ?_) ?_
 ·refine wp_load_row 68 _ rfl _ rfl 68 _ (0,0) _ E0.o underlying68 rfl VZ ?_;refine hK _ _ ?_;clear hK K;refine wpAny_ready (rs:=[1]) VZ V5 ?_;refine VH rfl (λK hK=> ?_) ?_
  ·refine wp_load_row 68 _ rfl _ rfl 68 _ (0,0) _ E0.o underlying68 rfl VZ ?_;refine hK _ _ ?_;clear hK K;refine wpAny_ready (rs:=[2]) VZ V5 ?_;refine VH rfl (λK hK=> ?_) ?_
   ·go_simp;refine(uL _ e ga gc ⟨VY,VY⟩ ((HGP.o.below (HB0.o.trans (Below.drew (Below.refl _ _)))).more V5)).mono ?_;rintro r W1 ⟨gb,cb,rfl,hgb,hB1⟩;have E1:=Vk (E0.o.below hB1 E0.o.lt);have HGB:=Vk hgb;have HB1:=Vk (HB0.o.trans ((Below.drew (Below.refl _ _)).trans (hB1.mono V5)));clear hgb hB1;refine hK _ _ ?_;clear hK K;refine wpAny_ready (rs:=[3]) VZ V5 ?_;refine VH rfl (λK hK=> ?_) ?_
    ·go_simp;refine(uu _ e (fN e) ga gb gc cb ((HGP.o.below HB1.o).more HB1.o.size) HGB.o).mono ?_;rintro r W2 ⟨rfl,hB2⟩;have HB2:=Vk (HB1.o.trans (hB2.mono HB1.o.size));clear hB2;refine hK _ _ ?_;clear hK K;refine wpAny_take (i:=4) (v:= ?vfrm1) rfl VZ VZ VZ (λ_ _ _ h=>h) (Or.inl ⟨Wn,?hyfrm1⟩) ?_
     case hyfrm1=>(intro w;go_simp;try with_reducible rfl)
     exact a0I
    exact VO
   exact VO
  exact VO
 refine VH rfl (λK hK=> ?_) ?_
 ·refine wp_load_row 68 _ rfl _ rfl 68 _ (0,0) _ E0.o underlying68 rfl VZ ?_;refine hK _ _ ?_;clear hK K;refine wpAny_ready (rs:=[0,2]) VZ V5 ?_;refine VH rfl (λK hK=> ?_) ?_
  ·refine wp_load_row 68 _ rfl _ rfl 68 _ (0,0) _ E0.o underlying68 rfl VZ ?_;refine hK _ _ ?_;clear hK K;refine wpAny_ready (rs:=[2]) VZ V5 ?_;refine VH rfl (λK hK=> ?_) ?_
   ·go_simp;refine(uL _ e ga gc ⟨VY,VY⟩ ((HGP.o.below (HB0.o.trans (Below.drew (Below.refl _ _)))).more V5)).mono ?_;rintro r W1 ⟨gb,cb,rfl,hgb,hB1⟩;have E1:=Vk (E0.o.below hB1 E0.o.lt);have HGB:=Vk hgb;have HB1:=Vk (HB0.o.trans ((Below.drew (Below.refl _ _)).trans (hB1.mono V5)));clear hgb hB1;refine hK _ _ ?_;clear hK K;refine wpAny_ready (rs:=[3]) VZ V5 ?_;refine VH rfl (λK hK=> ?_) ?_
    ·go_simp;refine(uu _ e (fN e) ga gb gc cb ((HGP.o.below HB1.o).more HB1.o.size) HGB.o).mono ?_;rintro r W2 ⟨rfl,hB2⟩;have HB2:=Vk (HB1.o.trans (hB2.mono HB1.o.size));clear hB2;refine hK _ _ ?_;clear hK K;refine wpAny_take (i:=4) (v:= ?vfrm2) rfl VZ VZ VZ (λ_ _ _ h=>h) (Or.inl ⟨Wn,?hyfrm2⟩) ?_
     case hyfrm2=>(intro w;go_simp;try with_reducible rfl)
     exact a0I
    exact VO
   exact VO
  refine VH rfl (λK hK=> ?_) ?_
  ·go_simp;refine(uL _ e ga gc ⟨VY,VY⟩ ((HGP.o.below (HB0.o.trans (Below.drew (Below.refl _ _)))).more V5)).mono ?_;rintro r W1 ⟨gb,cb,rfl,hgb,hB1⟩;have E1:=Vk (E0.o.below hB1 E0.o.lt);have HGB:=Vk hgb;have HB1:=Vk (HB0.o.trans ((Below.drew (Below.refl _ _)).trans (hB1.mono V5)));clear hgb hB1;refine hK _ _ ?_;clear hK K;refine wpAny_ready (rs:=[0]) VZ V5 ?_;refine VH rfl (λK hK=> ?_) ?_
   ·refine wp_load_row 68 _ rfl _ rfl 68 _ (0,0) _ E1.o underlying68 rfl VZ ?_;refine hK _ _ ?_;clear hK K;refine wpAny_ready (rs:=[3]) VZ V5 ?_;refine VH rfl (λK hK=> ?_) ?_
    ·go_simp;refine(uu _ e (fN e) ga gb gc cb ((HGP.o.below HB1.o).more HB1.o.size) HGB.o).mono ?_;rintro r W2 ⟨rfl,hB2⟩;have HB2:=Vk (HB1.o.trans (hB2.mono HB1.o.size));clear hB2;refine hK _ _ ?_;clear hK K;refine wpAny_take (i:=4) (v:= ?vfrm3) rfl VZ VZ VZ (λ_ _ _ h=>h) (Or.inl ⟨Wn,?hyfrm3⟩) ?_
     case hyfrm3=>(intro w;go_simp;try with_reducible rfl)
     exact a0I
    exact VO
   exact VO
  exact VO
 exact VO
end
end Go.Proofs.YtmliacdegmklaaaGreatDoor
