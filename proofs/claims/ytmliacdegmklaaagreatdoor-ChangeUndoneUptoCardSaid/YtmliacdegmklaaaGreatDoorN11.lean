/- ChangeUndone of kingpostlaw58: part 11 of its proof (merged and shortened by program). -/
import Derived.Test.YtmliacdegmklaaaGreatDoorN07
import Derived.Test.YtmliacdegmklaaaGreatDoorN09
import Derived.Test.YtmliacdegmklaaaGreatDoorN10
set_option linter.unusedVariables false
set_option linter.unusedSimpArgs false
set_option linter.defProp false
set_option maxHeartbeats 8000000
set_option maxRecDepth 100000
open Go.RowKit Go.Shelf Go.Proofs.Tryz
open Array renaming getElem?_eq_some_iff→VF
open Bool renaming false→Vw,true→VD
open Go renaming World→Vt,Value→Vy,undef→VB,wpOp_step→VE,Calls→VJ,maxLen→VP,TypeId→VR,Addr→VT
open Go.AllReady renaming cons→VO,nil→VU
open Go.Ending renaming returned→V0
open Go.IntKind renaming i64→VH
open Go.IntWalk renaming i64_in→VQ
open Go.Lib renaming hid→Vs
open Go.RowKit renaming intOf→VN,Below→VS
open Go.Value renaming slice→VV,string→VW,bool→VX,pointer→VY,int→VZ,agg→V5,tuple→V6
open Go.World renaming alloc_heap_new→VG,size_alloc→VK
open List renaming getD_eq_getElem?_getD→Vv,getElem?_eq_getElem→VA,length_map→VC,length_append→VM,length→ln
open Nat renaming le_refl→Vu,le_trans→VI,mul_comm→VL
open Option renaming none→Vx,some→Vz
open Go.Proofs.YtmliacdegmklaaaGreatDoor
namespace Go.Proofs.YtmliacdegmklaaaGreatDoor
section
open Kp
attribute [local go_sem] aM fC fH iy gU iA ik gW gV im gY eP eN eV eK eY eR eQ er eu ey eh ej dY eT eO eU eS eI eM eJ eX fm fu ft fo dX eZ
set_option maxHeartbeats 80000000 in
def QX(w:Vt)(a b:Ed)(ga gb:Option VT)(ca cb:Nat)(ha:bz w w.heap.size ga ca a.gaps)(hb:bz w w.heap.size gb cb b.gaps)(hF:((a.kind==b.kind)&&(a.index==b.index)&&(nc a b))=Vw):
  VJ prog 85 #[V5 (aE a (VV ga (ln a.gaps) ca)),V5 (aE b (VV gb (ln b.gaps) cb))] w λe w'=>e=V0 (VX (gX a b))/\VS w.heap.size w w':=by
 have mixed:prog.follows .mixedOrders=VD:=V8;have HA:=Vs ha;have HB:=Vs hb;obtain⟨r,hr⟩:∃r,gX a b=r:=⟨_,rfl⟩;rw[hr];have HR:=Vs hr;clear ha hb hr;go_enter func85,ntmps85;go_upto_region 1 with fail
 go_cut [5,6] (λs5 s6 wx=>Gq w a b ga gb ca cb s5 s6 wx)
 case first =>
  go_region_o
  all_goals go_wp2_with fail
  all_goals go_meet
  ·exact a0D
  ·exact a0C
 case rest=>
  obtain⟨ea,eb,⟨p,q,rfl,rfl,ra,rb⟩,hlow⟩:=hcut;have EA:=Vs ea;have EB:=Vs eb;have eca:=λi=>EA.o.cell i
  have ecb:=λi=>EB.o.cell i
  have rca:=λi=>bZ.cell ra i
  have rcb:=λi=>bZ.cell rb i
  have lta:=ea.lt;have ltb:=eb.lt;have hlz:=hlow.size;have cg:=Vs (ma wc ga gb ca cb a.gaps b.gaps ((HA.o.below hlow).more hlz) ((HB.o.below hlow).more hlz));have HLOW:=Vs hlow;clear ea eb ra rb hlow;have hr:=HR.o;clear HR;unfold gX at hr;cases t0:(a.kind==b.kind)<;>simp only[t0,Bool.false_and,Bool.true_and] at hr hF
  case' true=>cases t1:(a.index==b.index)<;>simp only[t1,Bool.false_and,Bool.true_and] at hr hF
  case' true=>have t2:(nc a b)=Vw:=hF
  case' true=>simp only[t2,Bool.false_and] at hr
  all_goals exact sU
end
section
open Kp
def ue(w:Vt)(a b:Ed)(ga gb:Option VT)(ca cb:Nat)(ha:bz w w.heap.size ga ca a.gaps)(hb:bz w w.heap.size gb cb b.gaps):
  VJ prog 85 #[V5 (aE a (VV ga (ln a.gaps) ca)),V5 (aE b (VV gb (ln b.gaps) cb))] w λe w'=>e=V0 (VX (gX a b))/\VS w.heap.size w w':=by
 cases hF:((a.kind==b.kind)&&(a.index==b.index)&&(nc a b))
 ·exact QX w a b ga gb ca cb ha hb hF
 simp only[Bool.and_eq_true] at hF;obtain⟨⟨t0,t1⟩,t2⟩:=hF;cases hF:((vB a b)&&(oo a b)&&(a.bwidth==b.bwidth)&&(a.bdepth==b.bdepth))
 ·exact Re w a b ga gb ca cb ha hb t0 t1 t2 hF
 simp only[Bool.and_eq_true] at hF;obtain⟨⟨⟨t3,t4⟩,t5⟩,t6⟩:=hF;cases hF:((a.blength==b.blength)&&(a.bcount==b.bcount)&&(a.bcost==b.bcost)&&(a.gaps==b.gaps))
 ·exact Rz w a b ga gb ca cb ha hb t0 t1 t2 t3 t4 t5 t6 hF
 simp only[Bool.and_eq_true] at hF;obtain⟨⟨⟨t7,t8⟩,t9⟩,t10⟩:=hF;exact Q9 w a b ga gb ca cb ha hb t0 t1 t2 t3 t4 t5 t6 t7 t8 t9 t10
end
section
open Kp
attribute [local go_sem] aM fC
def fx(e:Ed):Int:=if e.kind<1\/12<e.kind then 8 else if gX e (gx e)=VD then 0 else 9
def B7(w:Vt)(e:Ed)(ga:Option VT)(gc:Nat)(hg:bz w w.heap.size ga gc e.gaps):
  VJ prog 42 #[V5 (aE e (VV ga (ln e.gaps) gc))] w λr w'=>r=V0 (VZ VH (fx e))/\VS w.heap.size w w':=by
 by_cases h1:e.kind<1
 ·have HF:=Vs (show fx e=8 by unfold fx;rw[if_pos (.inl h1)]);exact a0F
 by_cases h2:12<e.kind
 ·have HF:=Vs (show fx e=8 by unfold fx;rw[if_pos (.inr h2)]);exact a0F
 have hB0:VS w.heap.size w (w.alloc (.cells (aE e (VV ga (ln e.gaps) gc)) 68)):=(Below.refl _ _).alloc (Vu _) _;have HGP:=Vs hg;have HB0:=Vs hB0;have E0:=Vs (show iF (w.alloc (.cells (aE e (VV ga (ln e.gaps) gc)) 68)).drew w.heap.size e (VV ga (ln e.gaps) gc) from iF.new w e _);have mixed:prog.follows .mixedOrders=VD:=V8;clear hg hB0;go_enter func42,ntmps42;go_upto_region 3 with fail
 refine wp_region_any mixed ?_;refine wpAny_ready (rs:=[0,1]) V8 Wa ?_;refine VO rfl (λK hK=> ?_) ?_
 ·refine wp_load_row 68 _ rfl _ rfl 68 _ (0,0) _ E0.o underlying68 rfl V8 ?_;refine hK _ _ ?_;clear hK K;refine wpAny_ready (rs:=[1]) V8 Wa ?_;refine VO rfl (λK hK=> ?_) ?_
  ·refine wp_load_row 68 _ rfl _ rfl 68 _ (0,0) _ E0.o underlying68 rfl V8 ?_;refine hK _ _ ?_;clear hK K;refine wpAny_ready (rs:=[2]) V8 Wa ?_;refine VO rfl (λK hK=> ?_) ?_
   ·go_simp;refine(uT _ e ga gc ⟨V7,V7⟩ ((HGP.o.below (HB0.o.trans (Below.drew (Below.refl _ _)))).more Wa)).mono ?_;rintro r W1 ⟨gb,cb,rfl,hgb,hB1⟩;have E1:=Vs (E0.o.below hB1 E0.o.lt);have HGB:=Vs hgb;have HB1:=Vs (HB0.o.trans ((Below.drew (Below.refl _ _)).trans (hB1.mono Wa)));clear hgb hB1;refine hK _ _ ?_;clear hK K;refine wpAny_ready (rs:=[3]) V8 Wa ?_;refine VO rfl (λK hK=> ?_) ?_
    ·go_simp;refine(ue _ e (gx e) ga gb gc cb ((HGP.o.below HB1.o).more HB1.o.size) HGB.o).mono ?_;rintro r W2 ⟨rfl,hB2⟩;have HB2:=Vs (HB1.o.trans (hB2.mono HB1.o.size));clear hB2;refine hK _ _ ?_;clear hK K;refine wpAny_take (i:=4) (v:= ?vfrm1) rfl V8 V8 V8 (λ_ _ _ h=>h) (Or.inl ⟨Wl,?hyfrm1⟩) ?_
     case hyfrm1=>(intro w;go_simp;try with_reducible rfl)
     exact a0E
    exact VU
   exact VU
  exact VU
 refine VO rfl (λK hK=> ?_) ?_
 ·refine wp_load_row 68 _ rfl _ rfl 68 _ (0,0) _ E0.o underlying68 rfl V8 ?_;refine hK _ _ ?_;clear hK K;refine wpAny_ready (rs:=[0,2]) V8 Wa ?_;refine VO rfl (λK hK=> ?_) ?_
  ·refine wp_load_row 68 _ rfl _ rfl 68 _ (0,0) _ E0.o underlying68 rfl V8 ?_;refine hK _ _ ?_;clear hK K;refine wpAny_ready (rs:=[2]) V8 Wa ?_;refine VO rfl (λK hK=> ?_) ?_
   ·go_simp;refine(uT _ e ga gc ⟨V7,V7⟩ ((HGP.o.below (HB0.o.trans (Below.drew (Below.refl _ _)))).more Wa)).mono ?_;rintro r W1 ⟨gb,cb,rfl,hgb,hB1⟩;have E1:=Vs (E0.o.below hB1 E0.o.lt);have HGB:=Vs hgb;have HB1:=Vs (HB0.o.trans ((Below.drew (Below.refl _ _)).trans (hB1.mono Wa)));clear hgb hB1;refine hK _ _ ?_;clear hK K;refine wpAny_ready (rs:=[3]) V8 Wa ?_;refine VO rfl (λK hK=> ?_) ?_
    ·go_simp;refine(ue _ e (gx e) ga gb gc cb ((HGP.o.below HB1.o).more HB1.o.size) HGB.o).mono ?_;rintro r W2 ⟨rfl,hB2⟩;have HB2:=Vs (HB1.o.trans (hB2.mono HB1.o.size));clear hB2;refine hK _ _ ?_;clear hK K;refine wpAny_take (i:=4) (v:= ?vfrm2) rfl V8 V8 V8 (λ_ _ _ h=>h) (Or.inl ⟨Wl,?hyfrm2⟩) ?_
     case hyfrm2=>(intro w;go_simp;try with_reducible rfl)
     exact a0E
    exact VU
   exact VU
  refine VO rfl (λK hK=> ?_) ?_
  ·go_simp;refine(uT _ e ga gc ⟨V7,V7⟩ ((HGP.o.below (HB0.o.trans (Below.drew (Below.refl _ _)))).more Wa)).mono ?_;rintro r W1 ⟨gb,cb,rfl,hgb,hB1⟩;have E1:=Vs (E0.o.below hB1 E0.o.lt);have HGB:=Vs hgb;have HB1:=Vs (HB0.o.trans ((Below.drew (Below.refl _ _)).trans (hB1.mono Wa)));clear hgb hB1;refine hK _ _ ?_;clear hK K;refine wpAny_ready (rs:=[0]) V8 Wa ?_;refine VO rfl (λK hK=> ?_) ?_
   ·refine wp_load_row 68 _ rfl _ rfl 68 _ (0,0) _ E1.o underlying68 rfl V8 ?_;refine hK _ _ ?_;clear hK K;refine wpAny_ready (rs:=[3]) V8 Wa ?_;refine VO rfl (λK hK=> ?_) ?_
    ·go_simp;refine(ue _ e (gx e) ga gb gc cb ((HGP.o.below HB1.o).more HB1.o.size) HGB.o).mono ?_;rintro r W2 ⟨rfl,hB2⟩;have HB2:=Vs (HB1.o.trans (hB2.mono HB1.o.size));clear hB2;refine hK _ _ ?_;clear hK K;refine wpAny_take (i:=4) (v:= ?vfrm3) rfl V8 V8 V8 (λ_ _ _ h=>h) (Or.inl ⟨Wl,?hyfrm3⟩) ?_
     case hyfrm3=>(intro w;go_simp;try with_reducible rfl)
     exact a0E
    exact VU
   exact VU
  exact VU
 exact VU
end
end Go.Proofs.YtmliacdegmklaaaGreatDoor
