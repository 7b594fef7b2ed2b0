/- ChangeReplays of kingpostlaw58: part 15 of its proof (merged and shortened by program). -/
import Derived.Test.YtmliacdegmklaaaGreatDoorM08
import Derived.Test.YtmliacdegmklaaaGreatDoorM12
import Derived.Test.YtmliacdegmklaaaGreatDoorM13
set_option linter.unusedVariables false
set_option linter.unusedSimpArgs false
set_option linter.defProp false
set_option maxHeartbeats 8000000
set_option maxRecDepth 100000
open Go.RowKit Go.Shelf Go.Proofs.Tryz
open Array renaming getElem?_eq_some_iff→Vz
open Bool renaming false→Vp,true→Vv,and_eq_true_iff→Vw
open Go renaming World→Vl,Value→Vr,undef→Vs,wpOp_step→Vx,Calls→VC,maxLen→VJ,TypeId→VK,Addr→VM,Rows→VP
open Go.AllReady renaming cons→VH,nil→VO
open Go.Ending renaming returned→VV
open Go.IntKind renaming i64→VA
open Go.IntWalk renaming i64_in→VI
open Go.Lib renaming hid→Vk
open Go.RowKit renaming intOf→VG,Below→VL
open Go.Value renaming slice→VQ,string→VR,bool→VS,pointer→VT,int→VU,agg→VW,tuple→VX
open Go.World renaming alloc_heap_new→Vy,size_alloc→VF
open List renaming getD_eq_getElem?_getD→Vn,getElem?_eq_getElem→Vt,length_map→Vu,length_append→VD
open Nat renaming le_refl→Vm,le_trans→VB,mul_comm→VE
open Option renaming none→Vo,some→Vq
open Option.some renaming inj→VN
open Go.Proofs.YtmliacdegmklaaaGreatDoor
namespace Go.Proofs.YtmliacdegmklaaaGreatDoor
section
open Kp
structure bC where
 name:List UInt8
 rings:List (List Sd)
 origin:Int
 spacing:Int
 purlins:List Int
 openings:List kR
 sizes:List Sz
 bars:List Br
 kerf:Int
 tile:Tl
 aH:List Ld
 spans:List Aw
structure dq where
 pa:Option VM
 pc:Nat
 ua:Option VM
 uc:Nat
 oa:Option VM
 oc:Nat
 za:Option VM
 zc:Nat
 ba:Option VM
 bc:Nat
 la:Option VM
 lc:Nat
 sa:Option VM
 sc:Nat
def bZ(j:bC)(a:dq):Array Vr:=#[VR (tx j.name),VQ a.pa j.rings.length a.pc,VU VA j.origin,VU VA j.spacing,VQ a.ua j.purlins.length a.uc,VQ a.oa j.openings.length a.oc,VQ a.za j.sizes.length a.zc,VQ a.ba j.bars.length a.bc,VU VA j.kerf,VU VA j.tile.width,VU VA j.tile.length,VU VA j.tile.lap,VU VA j.tile.tail,VQ a.la j.aH.length a.lc,VQ a.sa j.spans.length a.sc]
def bF(j:bC)(a:dq):(bZ j a).size=15:=rfl
def jR(j:bC)(a:dq):(bZ j a)[0]?=Vq (VR (tx j.name)):=rfl
def jN(j:bC)(a:dq):(bZ j a)[1]?=Vq (VQ a.pa j.rings.length a.pc):=rfl
def jU(j:bC)(a:dq):(bZ j a)[2]?=Vq (VU VA j.origin):=rfl
def jK(j:bC)(a:dq):(bZ j a)[3]?=Vq (VU VA j.spacing):=rfl
def jI(j:bC)(a:dq):(bZ j a)[4]?=Vq (VQ a.ua j.purlins.length a.uc):=rfl
def jO(j:bC)(a:dq):(bZ j a)[5]?=Vq (VQ a.oa j.openings.length a.oc):=rfl
def jP(j:bC)(a:dq):(bZ j a)[6]?=Vq (VQ a.za j.sizes.length a.zc):=rfl
def jM(j:bC)(a:dq):(bZ j a)[7]?=Vq (VQ a.ba j.bars.length a.bc):=rfl
def jL(j:bC)(a:dq):(bZ j a)[8]?=Vq (VU VA j.kerf):=rfl
def jQ(j:bC)(a:dq):(bZ j a)[9]?=Vq (VU VA j.tile.width):=rfl
def fK(j:bC)(a:dq):(bZ j a)[10]?=Vq (VU VA j.tile.length):=rfl
def fE(j:bC)(a:dq):(bZ j a)[11]?=Vq (VU VA j.tile.lap):=rfl
def fm(j:bC)(a:dq):(bZ j a)[12]?=Vq (VU VA j.tile.tail):=rfl
def fl(j:bC)(a:dq):(bZ j a)[13]?=Vq (VQ a.la j.aH.length a.lc):=rfl
def ft(j:bC)(a:dq):(bZ j a)[14]?=Vq (VQ a.sa j.spans.length a.sc):=rfl
attribute [local go_sem] bF jR jN jU jK jI jO jP jM jL jQ fK fE fm fl ft
def JC(w:Vl)(c:Nat)(j:bC)(a:dq):Prop:=w.heap[c]?=Vq (.cells (bZ j a) 34 (0,0))
def JC.ext{w w':Vl}{c:Nat}{j:bC}{a:dq}(h:JC w c j a)(hx:Ext w w'):JC w' c j a:=(hx.block c (Vz.1 h).1).trans h
def JC.lt{w:Vl}{c:Nat}{j:bC}{a:dq}(h:JC w c j a):c<w.heap.size:=(Vz.1 h).1
def JC.cell{w:Vl}{c:Nat}{j:bC}{a:dq}(h:JC w c j a)(i:Nat):w.cell? ⟨c,i,Vo⟩=(bZ j a)[i]?:=by unfold JC at h;simp[World.cell?,h]
def JC.frozen{w:Vl}{c:Nat}{j:bC}{a:dq}(h:JC w c j a)(i:Nat):w.frozen? ⟨c,i,Vo⟩=Vp:=by unfold JC at h;simp[World.frozen?,h]
structure eC(w:Vl)(B:Nat)(j:bC)(a:dq):Prop where
 p:eB w B a.pa a.pc j.rings
 u:bK 1 w B a.ua a.uc (aX j.purlins)
 o:bK 5 w B a.oa a.oc (bD j.openings)
 z:bK 3 w B a.za a.zc (bN j.sizes)
 b:fk w B a.ba a.bc j.bars
 l:bK 3 w B a.la a.lc (bU j.aH)
 s:bK 5 w B a.sa a.sc (bI j.spans)
def eC.below{w w':Vl}{B:Nat}{j:bC}{a:dq}(h:eC w B j a)(hb:VL B w w'):eC w' B j a:=
 ⟨h.p.below hb,h.u.below hb,h.o.below hb,h.z.below hb,h.b.below hb,h.l.below hb,h.s.below hb⟩
def eC.more{w:Vl}{B B':Nat}{j:bC}{a:dq}(h:eC w B j a)(hb:B<=B'):eC w B' j a:=
 ⟨h.p.more hb,h.u.more hb,h.o.more hb,h.z.more hb,h.b.more hb,h.l.more hb,h.s.more hb⟩
def eC.grow{w w':Vl}{j:bC}{a:dq}(h:eC w w.heap.size j a)(hx:Ext w w'):eC w' w'.heap.size j a:=(h.below hx).more hx.size
structure nL(j:bC):Prop where
 name:j.name.length<=1000000
 rings:j.rings.flatten.length<=4000000000
 ops:∀o∈j.openings,zG o
 aH:∀x∈j.aH,x.weight.length<=300000
noncomputable def mO(j:bC):Int:=
 if pH j.name=Vp then 13 else if dw j.rings≠0 then dw j.rings else if aO j.origin 0 65536=Vp then 2 else if aO j.spacing 1 65536=Vp then 2
 else if iT j.purlins≠0 then iT j.purlins else if nW j.rings j.openings≠0 then nW j.rings j.openings else if fy j.sizes≠0 then fy j.sizes else if iC j.bars≠0 then iC j.bars
 else if aO j.kerf 0 100=Vp then 2 else if dL j.tile≠0 then dL j.tile else if fC j.aH≠0 then fC j.aH else gA j.spans
def DV(W0 W:Vl)(c:Nat)(j:bC)(a:dq)(hc:JC W c j a)(hb:eC W0 W0.heap.size j a)(hs:nL j)(hm:eO W0)(ht:aU W0)(hx:Ext W0 W):
  VC prog 65 #[VT (Vq ⟨c,0,Vo⟩)] W λe w'=>e=VV (VU VA (iT j.purlins))/\Ext W w':=by
 have K:=Vk (An W a.ua a.uc j.purlins (hb.grow hx).u);have q:=λi=>hc.cell i
 have hz:=hc.lt;obtain⟨x,hx'⟩:∃x,iT j.purlins=x:=⟨_,rfl⟩;rw[hx'] at K⊢;clear hc hb hs hm ht hx hx';go_enter func65,ntmps65;go_wp2_with(go_at_call 66;go_must(refine K.o.mono ?_);rintro e W1 ⟨rfl,hX1⟩)
 go_ret;exact⟨rfl,Ext.aB _⟩
def BP(W0 W:Vl)(c:Nat)(j:bC)(a:dq)(hc:JC W c j a)(hb:eC W0 W0.heap.size j a)(hs:nL j)(hm:eO W0)(ht:aU W0)(hx:Ext W0 W):
  VC prog 67 #[VT (Vq ⟨c,0,Vo⟩)] W λe w'=>e=VV (VU VA (nW j.rings j.openings))/\Ext W w':=by
 have K:=Vk (wE W a.pa a.pc j.rings a.oa a.oc j.openings (hb.grow hx).p hs.rings (hb.grow hx).o hs.ops (hm.below hx (Vm _)) (ht.below hx (Vm _)));have q:=λi=>hc.cell i
 have hz:=hc.lt;obtain⟨x,hx'⟩:∃x,nW j.rings j.openings=x:=⟨_,rfl⟩;rw[hx'] at K⊢;clear hc hb hs hm ht hx hx';go_enter func67,ntmps67;go_wp2_with(go_at_call 68;go_must(refine K.o.mono ?_);rintro e W1 ⟨rfl,hX1⟩)
 go_ret;exact⟨rfl,hX1⟩
def Ej(W0 W:Vl)(c:Nat)(j:bC)(a:dq)(hc:JC W c j a)(hb:eC W0 W0.heap.size j a)(hs:nL j)(hm:eO W0)(ht:aU W0)(hx:Ext W0 W):
  VC prog 69 #[VT (Vq ⟨c,0,Vo⟩)] W λe w'=>e=VV (VU VA (fy j.sizes))/\Ext W w':=by
 have K:=Vk (Fk W a.za a.zc j.sizes (hb.grow hx).z);have q:=λi=>hc.cell i
 have hz:=hc.lt;obtain⟨x,hx'⟩:∃x,fy j.sizes=x:=⟨_,rfl⟩;rw[hx'] at K⊢;clear hc hb hs hm ht hx hx';go_enter func69,ntmps69;go_wp2_with(go_at_call 70;go_must(refine K.o.mono ?_);rintro e W1 ⟨rfl,hX1⟩)
 go_ret;exact⟨rfl,hX1⟩
def CG(W0 W:Vl)(c:Nat)(j:bC)(a:dq)(hc:JC W c j a)(hb:eC W0 W0.heap.size j a)(hs:nL j)(hm:eO W0)(ht:aU W0)(hx:Ext W0 W):
  VC prog 71 #[VT (Vq ⟨c,0,Vo⟩)] W λe w'=>e=VV (VU VA (iC j.bars))/\Ext W w':=by
 have K:=Vk (Ei W a.ba a.bc j.bars (hb.grow hx).b);have q:=λi=>hc.cell i
 have hz:=hc.lt;obtain⟨x,hx'⟩:∃x,iC j.bars=x:=⟨_,rfl⟩;rw[hx'] at K⊢;clear hc hb hs hm ht hx hx';go_enter func71,ntmps71;go_wp2_with(go_at_call 72;go_must(refine K.o.mono ?_);rintro e W1 ⟨rfl,hX1⟩)
 go_ret;exact⟨rfl,hX1⟩
def mJ (w : Vl) (j : bC) (a : dq) (hb : eC w w.heap.size j a) (hs : nL j) (hm : eO w) (ht : aU w) :
    VC prog 25 #[VW (bZ j a)] w λe w' => e =VV (VU VA (mO j)) /\ Ext w w' := by
  have E0 := Vk (show Ext w (w.alloc (.cells (bZ j a) 34)) from (Below.refl _ _).alloc (Vm _) _);have J0 := Vk (show JC (w.alloc (.cells (bZ j a) 34)) w.heap.size j a from Vy w _);obtain ⟨W0, hW0⟩ : ∃ W0, w.alloc (.cells (bZ j a) 34) = W0 := ⟨_, rfl⟩;rw [hW0] at E0 J0;have HW := Vk hW0;clear hW0;have hb0 := hb.grow E0.o;have hm0 := hm.below E0.o (Vm _);have ht0 := ht.below E0.o (Vm _);have KN := Vk (λW => FG j.name W hs.name);have KP := Vk (vF W0 a.pa a.pc j.rings hb0.p hs.rings);have JX := Vk (λ(W : Vl) (h : Ext W0 W) => J0.o.ext h);have KC1 := Vk (λ(W : Vl) (h : Ext W0 W) => DV W0 W w.heap.size j a (JX.o W h) hb0 hs hm0 ht0 h);have KC2 := Vk (λ(W : Vl) (h : Ext W0 W) => BP W0 W w.heap.size j a (JX.o W h) hb0 hs hm0 ht0 h);have KC3 := Vk (λ(W : Vl) (h : Ext W0 W) => Ej W0 W w.heap.size j a (JX.o W h) hb0 hs hm0 ht0 h);have KC4 := Vk (λ(W : Vl) (h : Ext W0 W) => CG W0 W w.heap.size j a (JX.o W h) hb0 hs hm0 ht0 h);have KT := Vk (λW => Fi j.tile W);have KL := Vk (λ(W : Vl) (h : Ext W0 W) => Ge W a.la a.lc j.aH (hb0.grow h).l hs.aH (hm0.below h (Vm _)) (ht0.below h (Vm _)));have KS := Vk (λ(W : Vl) (h : Ext W0 W) => BX W a.sa a.sc j.spans (hb0.grow h).s);have g1 := enters_of func65 VZ rfl;have g2 := enters_of func67 VZ rfl;have g3 := enters_of func69 VZ rfl;have g4 := enters_of func71 VZ rfl;have HV := Vk (show mO j = if pH j.name = Vp then 13 else if dw j.rings ≠ 0 then dw j.rings else if aO j.origin 0 65536 = Vp then 2 else if aO j.spacing 1 65536 = Vp then 2
    else if iT j.purlins ≠ 0 then iT j.purlins else if nW j.rings j.openings ≠ 0 then nW j.rings j.openings else if fy j.sizes ≠ 0 then fy j.sizes else if iC j.bars ≠ 0 then iC j.bars
    else if aO j.kerf 0 100 = Vp then 2 else if dL j.tile ≠ 0 then dL j.tile else if fC j.aH ≠ 0 then fC j.aH else gA j.spans from rfl)
  clear hb hs hm ht hb0 hm0 ht0;obtain ⟨nm, h1⟩ : ∃ x, pH j.name = x := ⟨_, rfl⟩;obtain ⟨pe, h2⟩ : ∃ x, dw j.rings = x := ⟨_, rfl⟩;obtain ⟨b2, t2⟩ : ∃ x, aO j.origin 0 65536 = x := ⟨_, rfl⟩;obtain ⟨b3, t3⟩ : ∃ x, aO j.spacing 1 65536 = x := ⟨_, rfl⟩;obtain ⟨e1, h4⟩ : ∃ x, iT j.purlins = x := ⟨_, rfl⟩;obtain ⟨e2, h5⟩ : ∃ x, nW j.rings j.openings = x := ⟨_, rfl⟩;obtain ⟨e3, h6⟩ : ∃ x, fy j.sizes = x := ⟨_, rfl⟩;obtain ⟨e4, h7⟩ : ∃ x, iC j.bars = x := ⟨_, rfl⟩;obtain ⟨b8, t8⟩ : ∃ x, aO j.kerf 0 100 = x := ⟨_, rfl⟩;obtain ⟨te, h9⟩ : ∃ x, dL j.tile = x := ⟨_, rfl⟩;obtain ⟨le, h10⟩ : ∃ x, fC j.aH = x := ⟨_, rfl⟩;obtain ⟨se, h11⟩ : ∃ x, gA j.spans = x := ⟨_, rfl⟩;rw [h1, h2, t2, t3, h4, h5, h6, h7, t8, h9, h10, h11] at HV;simp only [h1] at KN;rw [h2] at KP;simp only [h4] at KC1;simp only [h5] at KC2;simp only [h6] at KC3;simp only [h7] at KC4;simp only [h9] at KT;simp only [h10] at KL;simp only [h11] at KS;clear h1 h2 h4 h5 h6 h7 h9 h10 h11;have hv := HV.o;clear HV;cases nm
  case' true => by_cases hc : pe = 0
  case' pos => subst hc; cases b2
  case' true => cases b3
  case' true => by_cases hc : e1 = 0
  case' pos => subst hc; by_cases hc : e2 = 0
  case' pos => subst hc; by_cases hc : e3 = 0
  case' pos => subst hc; by_cases hc : e4 = 0
  case' pos => subst hc; cases b8
  case' true => by_cases hc : te = 0
  case' pos => subst hc; by_cases hc : le = 0
  case' pos => subst hc
  all_goals
    first | have tp := bne_iff_ne.2 hc | skip
    first | simp only [hc, ne_eq, not_true_eq_false, not_false_eq_true, if_true, if_false, Bool.true_eq_false] at hv | simp only [ne_eq, not_true_eq_false, if_true, if_false, Bool.true_eq_false] at hv
    have HE := Vk hv;clear hv;go_enter func25, ntmps25
  iterate 9 all_goals (first
      | (go_ret; exact ⟨by rw [HE.o] <;> rfl, by first | exact Ext.tr E0.o HX.o | (rw [HW.o]; exact E0.o)⟩)
      | (first | rw [rounds_succ] | (refine wp_loop_rounds 6 ?_; rw [rounds_succ]) | skip
         go_wp2_with (first
          | ((first | (go_at_call 67; refine (KC2.o _ HX.o).mono ?_) | (go_at_call 69; refine (KC3.o _ HX.o).mono ?_) | (go_at_call 71; refine (KC4.o _ HX.o).mono ?_)); rintro e W2 ⟨rfl, hX⟩; have r := λi => (RF.o.ext hX).cell i; have q := λi => (JX.o W2 (Ext.tr HX.o hX)).cell i; have z := (RF.o.ext hX).lt; have RF := Vk (RF.o.ext hX); have HX := Vk (Ext.tr HX.o hX); clear hX)
          | ((first | (go_at_call 74; refine (KL.o _ HX.o).mono ?_) | (go_at_call 75; refine (KS.o _ HX.o).mono ?_) | (go_at_call 73; refine (KT.o _).mono ?_)); rintro e W2 ⟨rfl, hX⟩; have q := λi => (JX.o W2 (Ext.tr HX.o hX)).cell i; have HX := Vk (Ext.tr HX.o hX); clear hX)
          | (go_at_call 65; refine (KC1.o _ (HX.o.alloc HX.o.size _)).mono ?_; rintro e W2 ⟨rfl, hX⟩; have r := λi => (RF.o.ext hX).cell i; have q := λi => (JX.o W2 (Ext.tr (HX.o.alloc HX.o.size _) hX)).cell i; have z := (RF.o.ext hX).lt; have RF := Vk (RF.o.ext hX); have HX := Vk (Ext.tr (HX.o.alloc HX.o.size _) hX); clear hX)
          | (go_at_call 64; go_must (refine (gI _ _ _ _).mono ?_); rintro e W9 ⟨rfl, rfl⟩; first | rw [t2] | rw [t3] | rw [t8] | skip)
          | (go_at_call 63; rw [HW.o]; refine KP.o.mono ?_; rintro e W1 ⟨rfl, hX1⟩; have q1 := λi => (JX.o W1 hX1).cell i; have HX := Vk (Ext.tr (Ext.aB W0) hX1); have RF := Vk (ah.new W1 130 [.func (.func 65) #[] #[VT (Vq ⟨w.heap.size, 0, Vo⟩)], .func (.func 67) #[] #[VT (Vq ⟨w.heap.size, 0, Vo⟩)], .func (.func 69) #[] #[VT (Vq ⟨w.heap.size, 0, Vo⟩)], .func (.func 71) #[] #[VT (Vq ⟨w.heap.size, 0, Vo⟩)]]); clear hX1)
          | (go_at_call 56; refine (KN.o _).mono ?_; rintro e W9 ⟨rfl, rfl⟩))))
end
section
open Kp
attribute [local go_sem] bF jR jN jU jK jI jO jP jM jL jQ fK fE fm fl ft
attribute [local go_sem] aS gO ia kp kv kE km kF kL kD ki fZ fW fX fV gx gy gw fD fu fG fF fL eQ gm gH gz gh gB gG gi gE iu gY gX iv eV gj
structure fj(c:Nat)(w w':Vl):Prop where
 below:VL c w w'
 others:∀b,b<w.heap.size->b≠c->w'.heap[b]?=w.heap[b]?
def fj.ext{c:Nat}{w W:Vl}(h:Ext w W)(hc:c<w.heap.size):fj c w W:=⟨h.mono (Nat.le_of_lt hc),λb hb _=>h.block b hb⟩
def fj.put{c:Nat}{w W:Vl}(h:fj c w W)(i:Nat)(v:Vr):fj c w (W.setCell ⟨c,i,Vo⟩ v):=
 ⟨h.below.setCell (Vm _) v,λb hb hne=>(Below.heap_setCell _ _ _ _ hne).trans (h.others b hb hne)⟩
def fj.row{c:Nat}{w W:Vl}(h:fj c w W)(cs:Array Vr):fj c w (W.setRow c cs):=
 ⟨af h.below (Vm _) cs,λb hb hne=>(by
  have:(W.setRow c cs).heap[b]?=W.heap[b]?:=by simp only[World.setRow,Array.getElem?_modify];rw[if_neg (Ne.symm hne)]
  exact this.trans (h.others b hb hne))⟩
def fj.alloc{c:Nat}{w W:Vl}(h:fj c w W)(hc:c<=W.heap.size)(o:Obj):fj c w (W.alloc o):=
 ⟨h.below.alloc hc o,λb hb hne=>(Below.heap_alloc _ _ _ (Nat.lt_of_lt_of_le hb h.below.size)).trans (h.others b hb hne)⟩
def AT(X:Nat->Prop)(c n:Nat)(w W:Vl):Prop:=w.heap.size<=W.heap.size/\∀b,b<w.heap.size->(b<c/\¬X b)\/n<=b->W.heap[b]?=w.heap[b]?
def AT.self(X:Nat->Prop)(c n:Nat)(w:Vl):AT X c n w w:=⟨Vm _,λ_ _ _=>rfl⟩
def Jm(X:Nat->Prop)(B:Nat)(w W:Vl):Prop:=w.heap.size<=W.heap.size/\∀b,b<B->¬X b->W.heap[b]?=w.heap[b]?
structure eL(X:Nat->Prop)(w:Vl)(B:Nat)(j:bC)(a:dq):Prop extends eC w B j a where
 av:∀W,Jm X B w W->eC W W.heap.size j a
def Jm.below{X:Nat->Prop}{w w' W:Vl}{B:Nat}(h:Jm X B w' W)(hb:VL B w w'):Jm X B w W:=⟨VB hb.size h.1,λb h1 h2=>(h.2 b h1 h2).trans (hb.block b h1)⟩
def Jm.less{X:Nat->Prop}{w W:Vl}{B B':Nat}(h:Jm X B' w W)(hb:B<=B'):Jm X B w W:=⟨h.1,λb h1 h2=>h.2 b (Nat.lt_of_lt_of_le h1 hb) h2⟩
def eL.below{X:Nat->Prop}{w w':Vl}{B:Nat}{j:bC}{a:dq}(h:eL X w B j a)(hb:VL B w w'):eL X w' B j a:=⟨h.toeC.below hb,λW hO=>h.av W (hO.below hb)⟩
def eL.more{X:Nat->Prop}{w:Vl}{B B':Nat}{j:bC}{a:dq}(h:eL X w B j a)(hb:B<=B'):eL X w B' j a:=⟨h.toeC.more hb,λW hO=>h.av W (hO.less hb)⟩
def eL.grow{X:Nat->Prop}{w w':Vl}{j:bC}{a:dq}(h:eL X w w.heap.size j a)(hx:Ext w w'):eL X w' w'.heap.size j a:=(h.below hx).more hx.size
def eL.mono{X Y:Nat->Prop}{w:Vl}{B:Nat}{j:bC}{a:dq}(h:eL X w B j a)(hy:∀b,b<B->Y b->X b):eL Y w B j a:=⟨h.toeC,λW hO=>h.av W ⟨hO.1,λb h1 h2=>hO.2 b h1 (λq=>h2 (hy b h1 q))⟩⟩
def eC.off{w W:Vl}{B:Nat}{j:bC}{a:dq}(h:eC w B j a)(hs:w.heap.size<=W.heap.size)(hB:∀b,b<B->W.heap[b]?=w.heap[b]?):eC W B j a:=by
 have q:eC {w with heap:=W.heap} B j a:=h.below ⟨rfl,rfl,rfl,hs,hB⟩;exact⟨q.p,q.u,q.o,q.z,q.b,q.l,q.s⟩
def eC.v{w:Vl}{B:Nat}{j:bC}{a:dq}(h:eC w B j a)(hB:B<=w.heap.size){X:Nat->Prop}(hX:∀b,b<B->¬X b):eL X w B j a:=
 ⟨h,λ_ hO=>(h.off hO.1 λb hb=>hO.2 b hb (hX b hb)).more (VB hB hO.1)⟩
def eL.to{X:Nat->Prop}{w w' W:Vl}{c n:Nat}{j:bC}{a:dq}(hb:eL X w c j a)(hc:c<w.heap.size)(h1:VL c w w')(hA:AT X c n w' W):eC W W.heap.size j a:=by
 have h2:=h1.size;have h3:=hA.1;exact hb.av W ⟨VY,λb hb hx=>(hA.2 b VY (.inl ⟨hb,hx⟩)).trans (h1.block b hb)⟩
def nl(X:Nat->Prop)(c:Nat)(w w':Vl)(j':bC)(a':dq):Prop:=fj c w w'/\JC w' c j' a'/\∀W,AT X c w.heap.size w' W->eC W W.heap.size j' a'
def nl.at_{X:Nat->Prop}{c:Nat}{w w':Vl}{j':bC}{a':dq}(h:nl X c w w' j' a'):eC w' w'.heap.size j' a':=h.2.2 w' (AT.self _ _ _ _)
def JC.put{w:Vl}{c i:Nat}{j j':bC}{a a':dq}(h:JC w c j a)(x:Vr)(e:(bZ j a).setIfInBounds i x=bZ j' a'):JC (w.setCell ⟨c,i,Vo⟩ x) c j' a':=by
 unfold JC at *;rw[<-e];simp[World.setCell,Array.getElem?_modify,h]
def QO(w:Vl)(c:Nat)(j:bC)(a:dq)(e:Ed)(g:Vr)(hc:JC w c j a){X:Nat->Prop}(hb:eL X w c j a):
  VC prog 87 #[VT (Vq ⟨c,0,Vo⟩),VW (aL e g)] w λx w'=>x=VV (VU VA 0)/\nl X c w w' {j with name:=e.text} a:=by
 have hlt:=hc.lt;have HZ:=EC.new w (aL e g);have c10:=HZ.cell 36;have hJ:=hc.ext ((Below.refl _ _).alloc (Vm _) (.cells (aL e g) 68));have k0:=hJ.cell 0;have f0:=hJ.frozen 0;have HF:=Vk (show nl X c w ((w.setCell ⟨c,0,Vo⟩ (VR (tx e.text))).alloc (.cells (aL e g) 68)) {j with name:=e.text} a from by
  have h1:fj c w ((w.setCell ⟨c,0,Vo⟩ (VR (tx e.text))).alloc (.cells (aL e g) 68)):=((fj.ext (Below.refl _ w) hlt).put 0 _).alloc Wa _;have hp:JC (w.setCell ⟨c,0,Vo⟩ (VR (tx e.text))) c {j with name:=e.text} a:=hc.put _ rfl;refine⟨h1,hp.ext ((Below.refl _ _).alloc (Vm _) _),λW hA=> ?_⟩;have h2:=hb.to hlt h1.below hA;exact⟨h2.p,h2.u,h2.o,h2.z,h2.b,h2.l,h2.s⟩)
 clear hc hb hJ;go_enter func87,ntmps87;go_wp2;go_ret;exact⟨rfl,HF.o⟩
def O8(w:Vl)(c:Nat)(j:bC)(a:dq)(e:Ed)(g:Vr)(hc:JC w c j a){X:Nat->Prop}(hb:eL X w c j a):
  VC prog 96 #[VT (Vq ⟨c,0,Vo⟩),VW (aL e g)] w λx w'=>x=VV (VU VA 0)/\nl X c w w' {j with kerf:=e.number} a:=by
 have hlt:=hc.lt;have HZ:=EC.new w (aL e g);have c10:=HZ.cell 35;have hJ:=hc.ext ((Below.refl _ _).alloc (Vm _) (.cells (aL e g) 68));have k0:=hJ.cell 8;have f0:=hJ.frozen 8;have HF:=Vk (show nl X c w ((w.setCell ⟨c,8,Vo⟩ (VU VA e.number)).alloc (.cells (aL e g) 68)) {j with kerf:=e.number} a from by
  have h1:fj c w ((w.setCell ⟨c,8,Vo⟩ (VU VA e.number)).alloc (.cells (aL e g) 68)):=((fj.ext (Below.refl _ w) hlt).put 8 _).alloc Wa _;have hp:JC (w.setCell ⟨c,8,Vo⟩ (VU VA e.number)) c {j with kerf:=e.number} a:=hc.put _ rfl;refine⟨h1,hp.ext ((Below.refl _ _).alloc (Vm _) _),λW hA=> ?_⟩;have h2:=hb.to hlt h1.below hA;exact⟨h2.p,h2.u,h2.o,h2.z,h2.b,h2.l,h2.s⟩)
 clear hc hb hJ;go_enter func96,ntmps96;go_wp2;go_ret;exact⟨rfl,HF.o⟩
def PH(w:Vl)(c:Nat)(j:bC)(a:dq)(e:Ed)(g:Vr)(hc:JC w c j a){X:Nat->Prop}(hb:eL X w c j a):
  VC prog 97 #[VT (Vq ⟨c,0,Vo⟩),VW (aL e g)] w λx w'=>x=VV (VU VA 0)/\nl X c w w' {j with tile:=⟨e.twidth,e.tlength,e.tlap,e.ttail⟩} a:=by
 have hlt:=hc.lt;have HZ:=EC.new w (aL e g);have c1:=HZ.cell 31;have c2:=HZ.cell 32;have c3:=HZ.cell 33;have c4:=HZ.cell 34;have hJ:=hc.ext ((Below.refl _ _).alloc (Vm _) (.cells (aL e g) 68));have HJ:=Vk (show(w.alloc (.cells (aL e g) 68)).heap[c]?=Vq (.cells (bZ j a) 34 (0,0)) from hJ);have HF:=Vk (show nl X c w ((w.alloc (.cells (aL e g) 68)).setRow c (putAt (bZ j a) 9 #[VU VA e.twidth,VU VA e.tlength,VU VA e.tlap,VU VA e.ttail])) {j with tile:=⟨e.twidth,e.tlength,e.tlap,e.ttail⟩} a from by
  have h1:fj c w ((w.alloc (.cells (aL e g) 68)).setRow c (putAt (bZ j a) 9 #[VU VA e.twidth,VU VA e.tlength,VU VA e.tlap,VU VA e.ttail])):=((fj.ext (Below.refl _ w) hlt).alloc VY _).row _;refine⟨h1,setRow_heap HJ.o _,λW hA=> ?_⟩;have h2:=hb.to hlt h1.below hA;exact⟨h2.p,h2.u,h2.o,h2.z,h2.b,h2.l,h2.s⟩)
 clear hc hb hJ;go_enter func97,ntmps97;go_wp2_with(first
  |(refine dW rfl 30 _ _ rfl c 9 _ rfl rfl 34 _ HJ.o VZ (Nat.le_of_ble_eq_true VZ) VZ ?_))
 go_ret;exact⟨rfl,HF.o⟩
end
section
open Kp
def vg{α β:Type}(f:α->β)(l:List α)(i:Int)(x:α):cG (l.map f) i (f x)=(cG l i x).map f:=by
 unfold cG;rw[Vu];split
 ·simp
 ·simp[List.map_set]
def lW{α β:Type}(f:α->β)(l:List α)(m:Nat):(l.map f).eraseIdx m=(l.eraseIdx m).map f:=by
 induction l generalizing m with
 |nil=>rfl
 |cons a l ih=>cases m with
  |zero=>rfl
  |succ m=>simp[ih]
def Nv(l:List kR):jH (bD l):=λr hr u hu=>by
 exact ZF
def Fw(l:List Int):jH (aX l):=λr hr u hu=>by
 obtain⟨s,_,rfl⟩:=List.mem_map.1 hr;simp at hu;subst hu;rfl
def NS(l:List Sz):jH (bN l):=λr hr u hu=>by
 exact ZG
def Kn(l:List Ld):jH (bU l):=λr hr u hu=>by
 exact ZG
def FH(l:List Aw):jH (bI l):=λr hr u hu=>by
 exact ZF
def Sv(l:List Sd):jH (aD l):=λr hr u hu=>by
 obtain⟨s,_,rfl⟩:=List.mem_map.1 hr;simp at hu;rcases hu with rfl|rfl|rfl|rfl|rfl|rfl|rfl<;>rfl
def EC.ext{w w':Vl}{b:Nat}{C:Array Vr}(h:EC w b C)(hx:Ext w w'):EC w' b C:=(hx.block b (Vz.1 h).1).trans h
def qQ(w:Vl)(B:Nat)(rows:List (List Vr))(l:List Br):Prop:=
 rows.length=l.length/\∀i,i<l.length->∃ga gc,rows.getD i []=qU (l.getD i oe) ga gc/\bK 2 w B ga gc (di (l.getD i oe).gaps)
def qQ.below{w w':Vl}{B:Nat}{rows:List (List Vr)}{l:List Br}(h:qQ w B rows l)(hb:VL B w w'):qQ w' B rows l:=by
 refine⟨h.1,λi hi=> ?_⟩;obtain⟨ga,gc,e,s⟩:=h.2 i hi;exact⟨ga,gc,e,s.below hb⟩
def qQ.more{w:Vl}{B B':Nat}{rows:List (List Vr)}{l:List Br}(h:qQ w B rows l)(hb:B<=B'):qQ w B' rows l:=by
 refine⟨h.1,λi hi=> ?_⟩;obtain⟨ga,gc,e,s⟩:=h.2 i hi;exact⟨ga,gc,e,s.more hb⟩
def qQ.wide{w:Vl}{B:Nat}{rows:List (List Vr)}{l:List Br}(h:qQ w B rows l):dj 6 rows:=by
 intro r hr;obtain⟨i,hi,rfl⟩:=List.mem_iff_getElem.1 hr;obtain⟨ga,gc,e,_⟩:=h.2 i (by rw[<-h.1];exact hi);rw[Vn,Vt hi] at e;simp only[Option.getD_some] at e;rw[e];rfl
def qQ.one{w:Vl}{B:Nat}{rows:List (List Vr)}{l:List Br}(h:qQ w B rows l):jH rows:=by
 intro r hr;obtain⟨i,hi,rfl⟩:=List.mem_iff_getElem.1 hr;obtain⟨ga,gc,e,_⟩:=h.2 i (by rw[<-h.1];exact hi);rw[Vn,Vt hi] at e;simp only[Option.getD_some] at e;rw[e];intro u hu;simp at hu;rcases hu with rfl|rfl|rfl|rfl|rfl|rfl<;>rfl
def NZ{w:Vl}{B:Nat}{A:Option VM}{cap:Nat}{l:List Br}(h:fk w B A cap l):∃rows,qQ w B rows l/\bK 6 w B A cap rows:=by
 obtain⟨h1,h2,h3⟩:=h;by_cases hn:0<l.length
 ·obtain⟨b,off,e,hb,hc⟩:=h3 hn;have hx:∀i,∃r:List Vr,i<l.length->∃ga gc,r=qU (l.getD i oe) ga gc/\(∀j,j<6->w.cell? ⟨b,off+6*i+j,Vo⟩=r[j]?)/\bK 2 w B ga gc (di (l.getD i oe).gaps):=by
   intro i;by_cases hi:i<l.length
   ·obtain⟨ga,gc,q1,q2⟩:=hc i hi;exact⟨_,λ_=>⟨ga,gc,rfl,q1,q2⟩⟩
   ·exact⟨[],λh=>absurd h hi⟩
  obtain⟨f,hf⟩:=Classical.axiomOfChoice hx;have hlen:((List.range l.length).map f).length=l.length:=V5;have hat:∀i,i<l.length->((List.range l.length).map f).getD i []=f i:=by
   intro i hi;simp[Vn,hi]
  refine⟨(List.range l.length).map f,⟨hlen,λi hi=> ?_⟩,?_,h2,λ_=>⟨b,off,e,hb,λi hi j hj=> ?_⟩⟩
  ·obtain⟨ga,gc,q1,q2,q3⟩:=hf i hi;exact⟨ga,gc,(hat i hi).trans q1,q3⟩
  ·rw[hlen];exact h1
  ·rw[hlen] at hi;obtain⟨ga,gc,q1,q2,q3⟩:=hf i hi;rw[hat i hi];exact q2 j hj
 ·have:l=[]:=List.eq_nil_of_length_eq_zero VY;subst this;exact⟨[],⟨rfl,λi hi=>absurd hi V5⟩,h1,h2,λh=>absurd h V5⟩
def NJ{w W:Vl}{b o:Nat}(h:W.heap[b]?=w.heap[b]?):W.cell? ⟨b,o,Vo⟩=w.cell? ⟨b,o,Vo⟩:=by simp only[World.cell?,h]
def rF{X:Nat->Prop}{w:Vl}{c:Nat}{j:bC}{a:dq}(hb:eL X w c j a)(hcw:c<=w.heap.size):∃rows,qQ w c rows j.bars/\bK 6 w c a.ba a.bc rows/\∀W,Jm X c w W->qQ W W.heap.size rows j.bars:=by
 obtain⟨rows,hr,hs⟩:=NZ hb.b;refine⟨rows,hr,hs,λW hO=>⟨hr.1,λi hi=> ?_⟩⟩;obtain⟨b,off,e,hlt,hc⟩:=hs.2.2 (by rw[hr.1];omega);have hX:¬X b:=by
  intro hx;have hbs:b<w.heap.size:=VY;obtain⟨W',hW'⟩:∃W':Vl,W'.heap=w.heap.setIfInBounds b (.cells #[] 0 (0,0)):=⟨{w with heap:=w.heap.setIfInBounds b (.cells #[] 0 (0,0))},rfl⟩;have h3:=(hb.av W' ⟨by rw[hW'];simp,λq _ hq=>by
   have hne:b≠q:=λh=>hq (h▸hx)
   rw[hW'];simp[hne]⟩).b
  have hno:∀o,W'.cell? ⟨b,o,Vo⟩=Vo:=λo=>by unfold World.cell?;rw[hW'];simp[hbs]
  obtain⟨b',off',e',_,hc'⟩:=h3.2.2 VY;rw[e] at e';injection e' with e'
  injection e' with e1 e2
  subst e1;obtain⟨ga,gc,q,_⟩:=hc' 0 VY;have q0:=q 0 V0;rw[hno] at q0;cases q0
 obtain⟨ga,gc,q1,q2⟩:=hr.2 i hi;refine⟨ga,gc,q1,?_⟩;obtain⟨b',off',e',_,hc'⟩:=(hb.av W hO).b.2.2 VY;rw[e] at e';injection e' with e'
 injection e' with e1 e2
 subst e1 e2;obtain⟨ga',gc',q3,q4⟩:=hc' i hi;have k:=q3 5 V0;rw[NJ (hO.2 b hlt hX),hc i (by rw[hr.1];exact hi) 5 V0,q1] at k;simp only[List.getElem?_cons_succ,List.getElem?_cons_zero,Option.some.injEq,Value.slice.injEq] at k;obtain⟨k1,_,k3⟩:=k;subst k1 k3;exact q4
def Sk{w:Vl}{B:Nat}{A:Option VM}{cap:Nat}{rows:List (List Vr)}{l:List Br}(h:qQ w B rows l)(hs:bK 6 w B A cap rows):fk w B A cap l:=by
 obtain⟨h1,h2,h3⟩:=hs;rw[h.1] at h1;refine⟨h1,h2,λhn=> ?_⟩;obtain⟨b,off,e,hb,hc⟩:=h3 (by rw[h.1];exact hn);refine⟨b,off,e,hb,λi hi=> ?_⟩;obtain⟨ga,gc,q1,q2⟩:=h.2 i hi;refine⟨ga,gc,λj hj=> ?_,q2⟩;rw[<-q1];exact hc i (by rw[h.1];exact hi) j hj
def qQ.snoc{w:Vl}{B:Nat}{rows:List (List Vr)}{l:List Br}(h:qQ w B rows l)(x:Br)(ga:Option VM)(gc:Nat)(hx:bK 2 w B ga gc (di x.gaps)):qQ w B (rows++[qU x ga gc]) (l++[x]):=by
 refine⟨by simp[h.1],λi hi=> ?_⟩;have hl:=h.1;rw[VD,List.length_singleton] at hi;by_cases q:i<l.length
 ·obtain⟨g1,g2,e,s⟩:=h.2 i q;refine⟨g1,g2,?_,?_⟩
  ·rw[Vn,List.getElem?_append_left VY,Vn,List.getElem?_append_left q,<-Vn,<-Vn];exact e
  ·rw[Vn,List.getElem?_append_left q,<-Vn];exact s
 ·have:i=l.length:=VY;subst this;refine⟨ga,gc,?_,?_⟩
  ·rw[Vn,List.getElem?_append_right VY,hl];simp
  ·simp;exact hx
def qQ.set{w:Vl}{B:Nat}{rows:List (List Vr)}{l:List Br}(h:qQ w B rows l)(m:Nat)(x:Br)(ga:Option VM)(gc:Nat)(hx:bK 2 w B ga gc (di x.gaps)):qQ w B (rows.set m (qU x ga gc)) (l.set m x):=by
 refine⟨by simp[h.1],λi hi=> ?_⟩;have hl:=h.1;rw[List.length_set] at hi;by_cases q:m=i
 ·subst q;refine⟨ga,gc,?_,?_⟩
  ·rw[Vn,List.getElem?_set_self VY,Vn,List.getElem?_set_self hi];rfl
  ·rw[Vn,List.getElem?_set_self hi];exact hx
 ·obtain⟨g1,g2,e,s⟩:=h.2 i hi;refine⟨g1,g2,?_,?_⟩
  ·rw[Vn,List.getElem?_set_ne q,Vn,List.getElem?_set_ne q,<-Vn,<-Vn];exact e
  ·rw[Vn,List.getElem?_set_ne q,<-Vn];exact s
def qQ.put{w:Vl}{B:Nat}{rows:List (List Vr)}{l:List Br}(h:qQ w B rows l)(i:Int)(x:Br)(ga:Option VM)(gc:Nat)(hx:bK 2 w B ga gc (di x.gaps)):qQ w B (cG rows i (qU x ga gc)) (cG l i x):=by
 unfold cG;rw[h.1];split
 ·exact h.snoc x ga gc hx
 ·exact h.set _ x ga gc hx
def qQ.erase{w:Vl}{B:Nat}{rows:List (List Vr)}{l:List Br}(h:qQ w B rows l)(m:Nat):qQ w B (rows.eraseIdx m) (l.eraseIdx m):=by
 have hl:=h.1;refine⟨by rw[List.length_eraseIdx,List.length_eraseIdx,hl],λi hi=> ?_⟩;have hi':(if i<m then i else i+1)<l.length:=by
  rw[List.length_eraseIdx] at hi;split at hi<;>split <;>omega
 obtain⟨ga,gc,e,s⟩:=h.2 _ hi';refine⟨ga,gc,?_,?_⟩
 ·rw[Vn,Vn,List.getElem?_eraseIdx,List.getElem?_eraseIdx];rw[Vn,Vn] at e;split <;>rename_i q<;>simp only[q,if_true,if_false] at e<;>exact e
 ·rw[Vn,List.getElem?_eraseIdx];rw[Vn] at s;split <;>rename_i q<;>simp only[q,if_true,if_false] at s<;>exact s
def mA{w W1:Vl}{c i n k:Nat}{t:VK}{v:Vr}{xs:List Vr}(ho:W1.ownsRow w.heap.size t k v n xs)(hc:c<w.heap.size)(x:Vr):(W1.setCell ⟨c,i,Vo⟩ x).ownsRow w.heap.size t k v n xs:=
 bf ho (λe=>by have:=(ak ho c e).1;omega) x
def kM{w' W:Vl}{X:Nat->Prop}{c m n k:Nat}{t:VK}{v:Vr}{xs:List Vr}(h:w'.ownsRow m t k v n xs)(hA:AT X c m w' W):W.ownsRow m t k v n xs:=by
 obtain⟨hl,h0|⟨g,cap,cur,rfl,hb,hh,h1⟩⟩:=h
 ·exact YO
 ·exact⟨hl,.inr ⟨g,cap,cur,rfl,hb,(hA.2 g (Vz.1 hh).1 (.inr hb)).trans hh,h1⟩⟩
def kn{k:Nat}{w:Vl}{base n cap:Nat}{e:VK}{A:Option VM}{rows:List (List Vr)}(h:w.ownsRow base e k (VQ A n cap) n rows.flatten)(hn:rows.length=n)(hw:dj k rows):bK k w w.heap.size A cap rows:=by
 obtain⟨A',cap',hv,hs⟩:=aG h hn hw;injection hv with h1 h2 h3
 subst h1;subst h3;exact hs
def mh{w W1:Vl}{c i:Nat}{j:bC}{a:dq}{X:Nat->Prop}(hb:eL X w c j a)(hx:Ext w W1)(hlt:c<w.heap.size)(v:Vr):fj c w (W1.setCell ⟨c,i,Vo⟩ v)/\∀W,AT X c w.heap.size (W1.setCell ⟨c,i,Vo⟩ v) W->eC W W.heap.size j a:=by
 have h1:fj c w (W1.setCell ⟨c,i,Vo⟩ v):=(fj.ext hx hlt).put i v;exact⟨h1,λW hA=>hb.to hlt h1.below hA⟩
def Rf{w W1:Vl}{c:Nat}{j:bC}{a:dq}{v:Vr}{l:List kR}(hc:JC w c j a){X:Nat->Prop}(hb:eL X w c j a)(hx:Ext w W1)(ho:W1.ownsRow w.heap.size 57 5 v (bD l).length (bD l).flatten):
  ∃a',nl X c w (W1.setCell ⟨c,5,Vo⟩ v) {j with openings:=l} a':=by
 obtain⟨h1,h2⟩:=mh (i:=5) hb hx hc.lt v;have ho1:=mA (i:=5) ho hc.lt v;obtain⟨A,cap,rfl,_⟩:=aG ho1 rfl (mH l);have hs:=λW (hA:AT X c w.heap.size _ W)=>kn (kM ho1 hA) rfl (mH l)
 rw[Vu] at *;exact⟨{a with oa:=A,oc:=cap},h1,(hc.ext hx).put _ rfl,λW hA=>(by
  have h3:=h2 W hA;have HS:=hs W hA;exact⟨h3.p,h3.u,HS,h3.z,h3.b,h3.l,h3.s⟩)⟩
def QZ{w W1:Vl}{c:Nat}{j:bC}{a:dq}{v:Vr}{l:List Int}(hc:JC w c j a){X:Nat->Prop}(hb:eL X w c j a)(hx:Ext w W1)(ho:W1.ownsRow w.heap.size 3 1 v (aX l).length (aX l).flatten):
  ∃a',nl X c w (W1.setCell ⟨c,4,Vo⟩ v) {j with purlins:=l} a':=by
 obtain⟨h1,h2⟩:=mh (i:=4) hb hx hc.lt v;have ho1:=mA (i:=4) ho hc.lt v;obtain⟨A,cap,rfl,_⟩:=aG ho1 rfl (bw (f:=λn=>[VU VA n]) (λ_=>rfl) l);have hs:=λW (hA:AT X c w.heap.size _ W)=>kn (kM ho1 hA) rfl (bw (f:=λn=>[VU VA n]) (λ_=>rfl) l)
 rw[Vu] at *;exact⟨{a with ua:=A,uc:=cap},h1,(hc.ext hx).put _ rfl,λW hA=>(by
  have h3:=h2 W hA;have HS:=hs W hA;exact⟨h3.p,HS,h3.o,h3.z,h3.b,h3.l,h3.s⟩)⟩
def QU{w W1:Vl}{c:Nat}{j:bC}{a:dq}{v:Vr}{l:List Sz}(hc:JC w c j a){X:Nat->Prop}(hb:eL X w c j a)(hx:Ext w W1)(ho:W1.ownsRow w.heap.size 59 3 v (bN l).length (bN l).flatten):
  ∃a',nl X c w (W1.setCell ⟨c,6,Vo⟩ v) {j with sizes:=l} a':=by
 obtain⟨h1,h2⟩:=mh (i:=6) hb hx hc.lt v;have ho1:=mA (i:=6) ho hc.lt v;obtain⟨A,cap,rfl,_⟩:=aG ho1 rfl (bw (f:=GA) (λ_=>rfl) l);have hs:=λW (hA:AT X c w.heap.size _ W)=>kn (kM ho1 hA) rfl (bw (f:=GA) (λ_=>rfl) l)
 rw[Vu] at *;exact⟨{a with za:=A,zc:=cap},h1,(hc.ext hx).put _ rfl,λW hA=>(by
  have h3:=h2 W hA;have HS:=hs W hA;exact⟨h3.p,h3.u,h3.o,HS,h3.b,h3.l,h3.s⟩)⟩
def Rd{w W1:Vl}{c:Nat}{j:bC}{a:dq}{v:Vr}{l:List Ld}(hc:JC w c j a){X:Nat->Prop}(hb:eL X w c j a)(hx:Ext w W1)(ho:W1.ownsRow w.heap.size 64 3 v (bU l).length (bU l).flatten):
  ∃a',nl X c w (W1.setCell ⟨c,13,Vo⟩ v) {j with aH:=l} a':=by
 obtain⟨h1,h2⟩:=mh (i:=13) hb hx hc.lt v;have ho1:=mA (i:=13) ho hc.lt v;obtain⟨A,cap,rfl,_⟩:=aG ho1 rfl (oF l);have hs:=λW (hA:AT X c w.heap.size _ W)=>kn (kM ho1 hA) rfl (oF l)
 rw[Vu] at *;exact⟨{a with la:=A,lc:=cap},h1,(hc.ext hx).put _ rfl,λW hA=>(by
  have h3:=h2 W hA;have HS:=hs W hA;exact⟨h3.p,h3.u,h3.o,h3.z,h3.b,HS,h3.s⟩)⟩
def MW{w W1:Vl}{c:Nat}{j:bC}{a:dq}{v:Vr}{l:List Aw}(hc:JC w c j a){X:Nat->Prop}(hb:eL X w c j a)(hx:Ext w W1)(ho:W1.ownsRow w.heap.size 66 5 v (bI l).length (bI l).flatten):
  ∃a',nl X c w (W1.setCell ⟨c,14,Vo⟩ v) {j with spans:=l} a':=by
 obtain⟨h1,h2⟩:=mh (i:=14) hb hx hc.lt v;have ho1:=mA (i:=14) ho hc.lt v;obtain⟨A,cap,rfl,_⟩:=aG ho1 rfl (bw (f:=j7) (λ_=>rfl) l);have hs:=λW (hA:AT X c w.heap.size _ W)=>kn (kM ho1 hA) rfl (bw (f:=j7) (λ_=>rfl) l)
 rw[Vu] at *;exact⟨{a with sa:=A,sc:=cap},h1,(hc.ext hx).put _ rfl,λW hA=>(by
  have h3:=h2 W hA;have HS:=hs W hA;exact⟨h3.p,h3.u,h3.o,h3.z,h3.b,h3.l,HS⟩)⟩
def Q4{w W1:Vl}{c:Nat}{j:bC}{a:dq}{v:Vr}{l:List Br}{rows:List (List Vr)}(hc:JC w c j a){X:Nat->Prop}(hb:eL X w c j a)(hx:Ext w W1)(hr:qQ w c rows l)(hrv:∀W,Jm X c w W->qQ W W.heap.size rows l)(ho:W1.ownsRow w.heap.size 62 6 v rows.length rows.flatten):
  ∃a',nl X c w (W1.setCell ⟨c,7,Vo⟩ v) {j with bars:=l} a':=by
 obtain⟨h1,h2⟩:=mh (i:=7) hb hx hc.lt v;have ho1:=mA (i:=7) ho hc.lt v;obtain⟨A,cap,rfl,_⟩:=aG ho1 rfl hr.wide;have hs:=λW (hA:AT X c w.heap.size _ W)=>kn (kM ho1 hA) rfl hr.wide
 have hq:=λW (hA:AT X c w.heap.size (W1.setCell ⟨c,7,Vo⟩ (VQ A rows.length cap)) W)=>hrv W ⟨by have:=h1.below.size;have:=hA.1;omega,λb hb hx=>(hA.2 b (by have:=h1.below.size;have:=hc.lt;omega) (.inl ⟨hb,hx⟩)).trans (h1.below.block b hb)⟩
 have hl:=hr.1;refine⟨{a with ba:=A,bc:=cap},h1,(hc.ext hx).put _ (by rw[hl];rfl),λW hA=> ?_⟩;have h3:=h2 W hA;exact⟨h3.p,h3.u,h3.o,h3.z,Sk (hq W hA) (hs W hA),h3.l,h3.s⟩
end
section
open Kp
attribute [local go_sem] bF jR jN jU jK jI jO jP jM jL jQ fK fE fm fl ft
attribute [local go_sem] aS ia kp kv kE km kF kL kD
def Kb:(prog.info? 80).map (λi=>(i.zero,i.size,i.bytes))=Vq (Vq (VQ Vo 0 0),1,24):=VZ
abbrev wO(e:Ed):Sd:=⟨e.sx,e.sy,e.srise,e.srun,e.gable,e.splate,e.sover⟩
def zd(rs:List (List Sd))(n:Int):Nat->Int×Bool
 |0=>(n,Vp)
 |k+1=>(VA.wrap ((zd rs n k).1-((rs.getD k []).length:Int)),(zd rs n k).2||(!(zd rs n k).2&&decide ((zd rs n k).1<((rs.getD k []).length:Int))))
def gF(rs:List (List Sd))(n:Int)(s:Sd)(k:Nat):List Sd:=
 if !(zd rs n k).2&&decide ((zd rs n k).1<((rs.getD k []).length:Int)) then(rs.getD k []).set (zd rs n k).1.toNat s else rs.getD k []
def fh(rs:List (List Sd))(n:Int)(s:Sd):List (List Sd):=(List.range rs.length).map (gF rs n s)
def o9(rs:List (List Sd))(n:Int):Int:=if n<0 then 6 else if(zd rs n rs.length).2 then 0 else 6
def tW(rs:List (List Sd))(n:Int)(s:Sd)(k:Nat):(gF rs n s k).length=(rs.getD k []).length:=by
 unfold gF;split <;>simp
def tY(rs:List (List Sd))(n:Int)(s:Sd){k:Nat}(hk:k<rs.length):(fh rs n s).getD k []=gF rs n s k:=by
 unfold fh;simp[Vn,hk]
def j8(rs:List (List Sd))(n:Int)(s:Sd):(fh rs n s).length=rs.length:=by unfold fh;simp
def Qe{rs:List (List Sd)}{n:Int}(h0:0<=n)(hn:n<=9223372036854775807)(hl:∀k,(rs.getD k []).length<=1000):∀k,(zd rs n k).2=Vp->0<=(zd rs n k).1/\(zd rs n k).1<=n:=by
 intro k
 induction k with
 |zero=>intro _;exact⟨h0,Int.le_refl _⟩
 |succ k ih=>
  intro h;simp only[zd,Bool.or_eq_false_iff] at h;obtain⟨h1,h2⟩:=h;obtain⟨a,b⟩:=ih h1;rw[h1] at h2;simp only[Bool.not_false,Bool.true_and,decide_eq_false_iff_not] at h2;have hw:VA.wrap ((zd rs n k).1-((rs.getD k []).length:Int))=(zd rs n k).1-((rs.getD k []).length:Int):=VI _ VY;simp only[zd];rw[hw];omega
def Du{w:Vl}{B n k q:Nat}{t:VK}{V:Vr}{xs:List Vr}(h:w.ownsRow B t k V n xs)(hq:w.heap.size<=q\/V.ownBlock≠Vq q)(cs:Array Vr):(w.setRow q cs).ownsRow B t k V n xs:=by
 obtain⟨hl,h0|⟨g,cap,cur,rfl,hb,hh,h1⟩⟩:=h
 ·exact YO
 ·refine⟨hl,.inr ⟨g,cap,cur,rfl,hb,?_,h1⟩⟩;have hne:q≠g:=by
   intro e;subst e;rcases hq with hq|hq
   ·have:=(Vz.1 hh).1;omega
   ·exact hq rfl
  have:(w.setRow q cs).heap[g]?=w.heap[g]?:=by simp only[World.setRow,Array.getElem?_modify];rw[if_neg hne]
  exact this.trans hh
def lZ{w:Vl}{B n k q:Nat}{t t':VK}{V:Vr}{xs cs:_}(h:w.ownsRow B t k V n xs)(hq:w.heap[q]?=Vq (.cells cs t' (0,0)))(hne:t≠t'):V.ownBlock≠Vq q:=by
 intro e;obtain⟨hl,⟨rfl,_⟩|⟨g,cap,cur,rfl,hb,hh,h1⟩⟩:=h
 ·cases e
 ·have e2:g=q:=by simpa[Value.ownBlock] using e
  subst e2;rw[hh] at hq;injection hq with hq
  injection hq with _ h3
  exact hne h3
structure UQ(W0:Vl)(pb:Nat)(rs:List (List Sd))(n:Int)(s:Sd)(k:Nat)(wr:Vl):Prop where
 ext:Ext W0 wr
 mem:∃v vals,Bx wr pb 24 v/\wr.ownsRow W0.heap.size 80 1 v k vals/\vals.length=k/\∀i,i<k->wr.ownsRow W0.heap.size 54 7 (vals.getD i Vs) (gF rs n s i).length (aD (gF rs n s i)).flatten
def ND{w:Vl}{r:List Sd}{b B:Nat}{V:Vr}(h:w.ownsRow b 54 7 V r.length (aD r).flatten)(hB:w.heap.size<=B):∃A c,V=VQ A r.length c/\bK 7 w B A c (aD r):=by
 obtain⟨A,c,e,hs⟩:=aG h (Vu _) (dI r);exact⟨A,c,e,hs.more hB⟩
def rg_of{w:Vl}{B0:Nat}{v:Vr}{vals:List Vr}{rs':List (List Sd)}(ho:w.ownsRow B0 80 1 v rs'.length vals)(hl:vals.length=rs'.length)
  (hr:∀i,i<rs'.length->w.ownsRow B0 54 7 (vals.getD i Vs) (rs'.getD i []).length (aD (rs'.getD i [])).flatten):∃A cap,v=VQ A rs'.length cap/\eB w w.heap.size A cap rs':=by
 obtain⟨hl2,⟨rfl,h0⟩|⟨g,cap,cur,rfl,hb,hh,h1,h2,h3,h4⟩⟩:=ho
 ·exact YQ
 ·refine⟨_,cap,rfl,h1,h2,λhp=>⟨g,0,rfl,(Vz.1 hh).1,λi hi=> ?_⟩⟩;obtain⟨A,c,e,hs⟩:=ND (hr i hi) (Vm _);refine⟨A,c,?_,hs⟩;have hc:cur[i]?=vals[i]?:=by
   rw[<-h4,List.getElem?_take,if_pos VY];simp
  rw[Nat.zero_add];simp only[World.cell?,hh];rw[Vn,Vt VY] at e;simp only[Option.getD_some] at e;simp only[hc];rw[Vt VY,e]
  rfl
def Al{W0 wr W1 w2:Vl}{pb:Nat}{rs:List (List Sd)}{n:Int}{s:Sd}{k:Nat}{v v' V1:Vr}{vals:List Vr}(hx:Ext W0 wr)(hbx:Bx wr pb 24 v)(ho:wr.ownsRow W0.heap.size 80 1 v k vals)(hl:vals.length=k)
  (hr:∀i,i<k->wr.ownsRow W0.heap.size 54 7 (vals.getD i Vs) (gF rs n s i).length (aD (gF rs n s i)).flatten)(h1:Ext wr W1)
  (hV:W1.ownsRow W0.heap.size 54 7 V1 (gF rs n s k).length (aD (gF rs n s k)).flatten)(hown:w2.ownsRow W0.heap.size 80 1 v' (k+1) (vals++[V1]))(hg:W1.grownBy w2 v.ownBlock)(hpb:W0.heap.size<=pb):
  UQ W0 pb rs n s (k+1) (w2.setCell ⟨pb,0,Vo⟩ v'):=by
 have ho1:=aF ho h1;have hb1:=hbx.below h1 hbx.lt;have hb2:=hb1.grown ho1 hg V0;have key:∀V m xs,W1.ownsRow W0.heap.size 54 7 V m xs->(w2.setCell ⟨pb,0,Vo⟩ v').ownsRow W0.heap.size 54 7 V m xs:=by
  intro V m xs h;have h2:=kq h ho1 hg V0;exact bf h2 (lZ (q:=pb) (t':=24) (cs:=#[v]) h2 hb2 V0) _
 refine⟨(eE (hx.tr h1) hg (λq hq=>(ak ho1 q hq).1)).setCell hpb _,v',vals++[V1],hb2.put _,bf hown (lZ (q:=pb) (t':=24) (cs:=#[v]) hown hb2 V0) _,by simp[hl],λi hi=> ?_⟩;by_cases hik:i<k
 ·rw[Vn,List.getElem?_append_left VY,<-Vn];exact key _ _ _ (aF (hr i hik) h1)
 ·obtain rfl:i=k:=VY;rw[Vn,List.getElem?_append_right VY,hl];simpa using key _ _ _ hV
def Hu(w:Vl)(c:Nat)(j:bC)(a:dq)(e:Ed)(g:Vr)(hc:JC w c j a){X:Nat->Prop}(hb:eL X w c j a)(hlen:j.rings.length<=1000)(hle:∀k,(j.rings.getD k []).length<=1000)(hn:e.index<=9223372036854775807):
  VC prog 88 #[VT (Vq ⟨c,0,Vo⟩),VW (aL e g)] w λx w'=>x=VV (VU VA (o9 j.rings e.index))/\fj c w w'/\(o9 j.rings e.index=0->∃a',nl X c w w' {j with rings:=fh j.rings e.index (wO e)} a'):=by
 have hlt:=hc.lt;obtain⟨W0,hW0⟩:∃W0,w.alloc (.cells (aL e g) 68)=W0:=⟨_,rfl⟩;have HZ:EC W0 w.heap.size (aL e g):=WT;have e0:Ext w W0:=Wo;have hJ:=hc.ext e0;have z1:=HZ.cell 1;have HJ:=Vk hJ;have HE0:=Vk e0;have HZ':=Vk HZ;by_cases h0:e.index<0
 ·have hE:o9 j.rings e.index=6:=by unfold o9;rw[if_pos h0]
  have t0:decide (e.index<0)=Vv:=decide_eq_true h0;rw[hE];have HB:=Vk (fj.ext e0 hlt:fj c w W0);clear hc hb hJ HZ e0 h0 hE;subst hW0;go_enter func88,ntmps88;go_wp2;go_ret;exact⟨rfl,HB.o,λh=>absurd h V0⟩
 have hE:o9 j.rings e.index=if(zd j.rings e.index j.rings.length).2 then 0 else 6:=by unfold o9;rw[if_neg h0]
 have t0:decide (e.index<0)=Vp:=decide_eq_false h0;have HPOS:=Vk (Qe (rs:=j.rings) (n:=e.index) VY hn hle);have HR:=Vk (λ(W:Vl) (h:Ext W0 W)=>(((hb.p.below ((e0.tr h).mono (Nat.le_of_lt hlt))).more (VB (Nat.le_of_lt hlt) (e0.tr h).size)):eB W W.heap.size a.pa a.pc j.rings));have HLE:=Vk hle;have HEE:=Vk hE;have HF:=Vk (λ(W1:Vl) (v:Vr) (A:Option VM) (cap:Nat) (hv:v=VQ A (fh j.rings e.index (wO e)).length cap) (hx:Ext W0 W1) (hrs:∀W,AT X c w.heap.size (W1.setRow c (putAt (bZ j a) 1 #[v])) W->eB W W.heap.size A cap (fh j.rings e.index (wO e)))=>(show∃a',nl X c w (W1.setRow c (putAt (bZ j a) 1 #[v])) {j with rings:=fh j.rings e.index (wO e)} a' from by
  have h1:fj c w (W1.setRow c (putAt (bZ j a) 1 #[v])):=(fj.ext (e0.tr hx) hlt).row _;have h2:=λW (hA:AT X c w.heap.size (W1.setRow c (putAt (bZ j a) 1 #[v])) W)=>hb.to hlt h1.below hA
  subst hv;refine⟨{a with pa:=A,pc:=cap},h1,setRow_heap ((hc.ext (e0.tr hx))) _,λW hA=> ?_⟩;have h3:=h2 W hA;exact⟨hrs W hA,h3.u,h3.o,h3.z,h3.b,h3.l,h3.s⟩))
 obtain⟨i0,hi0,hz0,hz1,hz2⟩:=info_parts Kb;have I0:=Vk hi0;have I1:=Vk hz0;have I2:=Vk hz1;have I3:=Vk hz2;have HBl:=Vk (λ(W1:Vl) (h:Ext W0 W1)=>(fj.ext (e0.tr h) hlt:fj c w W1));have hr1:=hb.p.1;have hr2:=hb.p.2.1;unfold VJ at hr2;have z1':=λW (h:Ext W0 W)=>(HZ.ext h).cell 1
 have k1:=hJ.cell 1;have HN:=Vk hW0;have q1:(((w.alloc (.cells (aL e g) 68)).alloc (.cells #[VQ Vo 0 0] 24)).setCell ⟨(w.alloc (.cells (aL e g) 68)).heap.size,0,Vo⟩ (VQ Vo 0 0)).cell? ⟨c,1,Vo⟩=(bZ j a)[1]?:=by rw[hW0];exact(HJ.o.ext (((Below.refl _ _).alloc (Vm _) _).setCell (Vm _) _)).cell 1
 clear hc hb hJ HZ e0 h0 hE hi0 hz0 hz1 hz2 hn hle;subst hW0;go_enter func88,ntmps88;go_wp2_with fail
 have HS0:=Vk (show(w.alloc (.cells (aL e g) 68)).heap.size=w.heap.size+1 by simp);obtain⟨W0,hW0⟩:∃W0,w.alloc (.cells (aL e g) 68)=W0:=⟨_,rfl⟩;rw[hW0] at HJ HE0 HZ' HS0;simp only[hW0] at HR HF HBl z1'⊢;clear hW0 HN q1 k1 z1;obtain⟨pa,hpa⟩:∃x,a.pa=x:=⟨_,rfl⟩;simp only[hpa] at HR⊢;clear hpa;have HPB:=Vk (show W0.heap.size<=w.heap.size+1 by rw[HS0.o];exact Vm _);go_loopw [5,7,22] (λat_ f_ i wr=>∃(k:Nat) (z:Int) (f:Bool),k<=j.rings.length/\i=VU VA (k:Int)/\at_=VU VA z/\f_=VS f/\zd j.rings e.index k=(z,f)/\UQ W0 (w.heap.size+1) j.rings e.index (wO e) k wr) (λ_ _ i _=>((j.rings.length:Int)-VG i).toNat)
 case atStart=>exact⟨0,_,_,VY,rfl,rfl,rfl,rfl,(Below.refl _ _).alloc (Vm _) _,_,[],Bx.at_ HS0.o,⟨rfl,.inl ⟨rfl,rfl⟩⟩,rfl,λi hi=>absurd hi VY⟩
 case round=>
  obtain⟨k,z,f,hk,rfl,rfl,rfl,hzf,hx,v,vals,hbx,ho,hvl,hvr⟩:=hrel;by_cases hlt2:k<j.rings.length
  ·obtain⟨b,off,rfl,hB,hcell⟩:=(HR.o wr hx).2.2 VY;obtain⟨Ai,ci,c1,hsl⟩:=hcell k hlt2;have hd:=HLE.o k;have hpos:=HPOS.o k;obtain⟨ring,hring⟩:∃r,j.rings.getD k []=r:=⟨_,rfl⟩;have hA1:zd j.rings e.index (k+1)=(VA.wrap (z-(ring.length:Int)),f||(!f&&decide (z<(ring.length:Int)))):=by simp only[zd];rw[hzf,hring]
   have hRG:gF j.rings e.index (wO e) k=if !f&&decide (z<(ring.length:Int)) then ring.set z.toNat (wO e) else ring:=by unfold gF;rw[hzf,hring]
   rw[hring] at c1 hsl hd;rw[hzf] at hpos;have KC:=QD wr Ai ci (aD ring) hsl (dI _) (Sv _) (by rw[Vu];omega);rw[Vu] at KC;have KC:=Vk KC;have HX:=Vk hx;have HBX:=Vk hbx;have HO:=Vk ho;have HVL:=Vk hvl;have HVR:=Vk hvr;have hbz:=hbx.cell;clear hx hbx ho hvl hvr hcell hsl hring hzf;cases f with
   |true=>
    have HA1:=Vk hA1;have HRG:=Vk (hRG.trans (by rw[Bool.not_true,Bool.false_and];rfl):gF j.rings e.index (wO e) k=ring);exact ZH
   |false=>
    by_cases hz:z<(ring.length:Int)
    ·obtain⟨p1,p2⟩:=hpos rfl;have t1:decide (z<(ring.length:Int))=Vv:=decide_eq_true hz;rw[t1] at hA1 hRG;dsimp only at p1;obtain⟨m,rfl⟩:∃m:Nat,z=(m:Int):=⟨z.toNat,VY⟩;have HML:=Vk (show m<ring.length by omega);rw[show VA.wrap ((m:Int)-(ring.length:Int))=(m:Int)-(ring.length:Int) from VI _ VY] at hA1;have HA1:=Vk hA1;have HRG:=Vk (hRG.trans Wn:gF j.rings e.index (wO e) k=ring.set m (wO e));clear hA1 hRG hpos p2;go_wp2_with(first
      |(refine wpList_append_own _ rfl _ _ 22 rfl W0.heap.size 80 i0 (VQ Vo 0 0) 1 24 underlying22 I0.o I1.o I2.o I3.o rfl V0 _ _ _ rfl HO2.o ⟨W1.heap.size,0,Vo⟩ 1 1 [VQ (Vq ⟨gg,0,Vo⟩) ring.length cp] rfl rfl (Vl.news_of_block (cs:=#[VQ (Vq ⟨gg,0,Vo⟩) ring.length cp]) (t:=80) (fr:=(0,0)) NB.o) Xy Wc VY (VB HX.o.size HW2.o.size) ?_;intro v' w2 hown hgrow _;have HOW:=Vk hown;have HGR:=Vk hgrow;obtain⟨A3,n3,c3,hv3⟩:=nk.of hown;subst hv3;have b3:=((HBX.o.below HW2.o HBX.o.lt).grown HO2.o hgrow V0).cell;have f3:=((HBX.o.below HW2.o HBX.o.lt).grown HO2.o hgrow V0).frozen;clear hown hgrow)
      |(refine dW rfl 54 _ _ rfl _ _ _ rfl rfl 54 _ HH1.o VZ HS.o VZ ?_;have hW:=af (n:=gg) HX1.o HGB.o (putAt cur (m*7) #[VU VA e.sx,VU VA e.sy,VU VA e.srise,VU VA e.srun,VS e.gable,VU VA e.splate,VU VA e.sover]);have b1:=(HBX.o.below hW HBX.o.lt).cell;have HW2:=Vk (Ext.tr hW ((Below.refl _ _).alloc (Vm _) (.cells #[(VQ (Vq ⟨gg,0,Vo⟩) ring.length cp)] 80)));have b2:=(HBX.o.below HW2.o HBX.o.lt).cell;have HO2:=Vk (aF HO.o HW2.o);have NB:=Vk (Bx.at_ (W:=(W1.setRow gg (putAt cur (m*7) #[VU VA e.sx,VU VA e.sy,VU VA e.srise,VU VA e.srun,VS e.gable,VU VA e.splate,VU VA e.sover]))) (t:=80) (v:= VQ (Vq ⟨gg,0,Vo⟩) ring.length cp) (n:=W1.heap.size) V5);have HV1:=Vk (aF (nc (k:=7) (x:=nt (wO e)) (VB HX.o.size HGB.o) HH1.o HQ1.o HQ2.o HQ3.o HQ4.o (Vu _) (dI ring) rfl HML.o) ((Below.refl _ _).alloc (Vm _) (.cells #[(VQ (Vq ⟨gg,0,Vo⟩) ring.length cp)] 80)));clear hW)
      |(go_at_call 149;go_must(refine KC.o.mono ?_);rintro e W1 ⟨v1,rfl,ho1,hX1⟩;obtain⟨gg,cp,cur,rfl,hgb,hh,q1,q2,q3,q4⟩:=ml ho1 VY;have HH1:=Vk hh;have HQ1:=Vk q1;have HQ2:=Vk q2;have HQ3:=Vk q3;have HQ4:=Vk q4;have HGB:=Vk hgb;have HX1:=Vk hX1;have HS:=Vk (show m*7+7<=cur.size by rw[q3];omega);have zz:=λi=>(HZ'.o.ext (HX.o.tr hX1)).cell i;clear ho1 hX1 hh q1 q2 q3 q4 hgb))
     go_round
     case rel=>exact⟨k+1,_,_,VY,by go_num,rfl,rfl,HA1.o.trans (by first|rfl|simp[IntWalk.i64_left]),Al HX.o HBX.o HO.o HVL.o HVR.o HW2.o (by rw[HRG.o,List.length_set,show aD (ring.set m (wO e))=(aD ring).set m (nt (wO e)) from List.map_set ..];exact HV1.o) HOW.o HGR.o HPB.o⟩
     case measure=>simp[VG];omega
    ·have t1:decide (z<(ring.length:Int))=Vp:=decide_eq_false hz;rw[t1] at hA1 hRG;have HA1:=Vk hA1;have HRG:=Vk (hRG.trans Wn:gF j.rings e.index (wO e) k=ring);exact ZH
  ·obtain rfl:k=j.rings.length:=VY;have hEE:=HEE.o;rw[hzf] at hEE;have HX:=Vk hx;have hbz:=hbx.cell;cases f with
   |false=>
    have HE6:=Vk (hEE.trans Wn:o9 j.rings e.index=6);clear hbx ho hvl hvr hx hzf hEE;go_wp2;go_ret;exact⟨by rw[HE6.o];rfl,HBl.o _ HX.o,λh=>absurd (HE6.o.symm.trans h) V0⟩
   |true=>
    have HE6:=Vk (hEE.trans Wn:o9 j.rings e.index=0);have HBX:=Vk hbx;have HO:=Vk ho;have HVL:=Vk hvl;have HVR:=Vk hvr;have HJ2:=Vk (HJ.o.ext hx);obtain⟨A1,n1,c1,hv⟩:=nk.of ho;subst hv;clear hbx ho hvl hvr hx hzf hEE;go_wp2_with(refine dW rfl 24 _ _ rfl _ _ _ rfl rfl 34 _ HJ2.o VZ (Nat.le_of_ble_eq_true VZ) VZ ?_)
    go_ret;have ho2:=HO.o;have hr2:∀i,i<(fh j.rings e.index (wO e)).length->wr.ownsRow W0.heap.size 54 7 (vals.getD i Vs) ((fh j.rings e.index (wO e)).getD i []).length (aD ((fh j.rings e.index (wO e)).getD i [])).flatten:=by
     intro i hi;rw[j8] at hi;rw[tY _ _ _ hi];exact HVR.o i hi
    rw[<-j8 j.rings e.index (wO e)] at ho2;obtain⟨A2,cap2,hv2,_⟩:=rg_of ho2 (by rw[HVL.o,j8]) hr2;have hrg:∀W,AT X c w.heap.size (wr.setRow c (putAt (bZ j a) 1 #[VQ A1 n1 c1])) W->eB W W.heap.size A2 cap2 (fh j.rings e.index (wO e)):=by
     intro W hA;have hA':AT X c W0.heap.size (wr.setRow c (putAt (bZ j a) 1 #[VQ A1 n1 c1])) W:=⟨hA.1,λb h1 h2=>hA.2 b h1 (h2.imp id (VB HE0.o.size))⟩;have hfar:∀{V:Vr} {t:VK} {q m:Nat} {xs:List Vr},wr.ownsRow W0.heap.size t q V m xs->W.ownsRow W0.heap.size t q V m xs:=λh=>kM (Du h (.inr (λe=>by have:=(ak h c e).1;have:=HE0.o.size;omega)) _) hA'
     obtain⟨A3,cap3,hv3,hrg3⟩:=rg_of (hfar ho2) (by rw[HVL.o,j8]) (λi hi=>hfar (hr2 i hi));obtain⟨rfl,rfl⟩:A2=A3/\cap2=cap3:=by rw[hv2] at hv3;injection hv3 with h1 h2 h3;exact⟨h1,h3⟩
     exact hrg3
    exact⟨by rw[HE6.o];rfl,(HBl.o _ HX.o).row _,λ_=>HF.o wr _ A2 cap2 hv2 HX.o hrg⟩
end
section
open Kp
attribute [local go_sem] bF jR jN jU jK jI jO jP jM jL jQ fK fE fm fl ft
attribute [local go_sem] aS gh gB gG gi gE
def RI(l:List Aw)(x:Aw)(f:Nat):∀lo hi,lo<=hi->Ke l x f lo hi<=hi:=by
 induction f with
 |zero=>intro lo hi h;exact h
 |succ f ih=>
  intro lo hi h;unfold Ke;split
  ·split
   ·exact ih _ _ VY
   ·exact VB (ih _ _ VY) VY
  ·exact h
def Ru(l:List Aw)(x:Aw):Kf l x<=l.length:=RI l x _ 0 _ (Nat.zero_le _)
def JC.Tr{w:Vl}{c n:Nat}{j:bC}{a:dq}(h:JC w c j a)(hn:c≠n)(cs:Array Vr):JC (w.setRow n cs) c j a:=by
 exact YI
def yF(l:List Aw)(x:Aw):List Aw:=if Ot l x then l.set (Kf l x) x else dt l (Kf l x) x
abbrev sE(e:Ed):Aw:=⟨e.awidth,e.adepth,e.aspacing,e.aload,e.aspan⟩
def IW(w:Vl)(c:Nat)(j:bC)(a:dq)(e:Ed)(g:Vr)(hc:JC w c j a){X:Nat->Prop}(hb:eL X w c j a)(hlen:j.spans.length<=1000000):
  VC prog 100 #[VT (Vq ⟨c,0,Vo⟩),VW (aL e g)] w λx w'=>x=VV (VU VA 0)/\∃a',nl X c w w' {j with spans:=yF j.spans (sE e)} a':=by
 have hlt:=hc.lt;obtain⟨W0,hW0⟩:∃W0,w.alloc (.cells (aL e g) 68)=W0:=⟨_,rfl⟩;have HZ:EC W0 w.heap.size (aL e g):=WT;have e0:Ext w W0:=Wo;have hJ:=hc.ext e0;have KC:=(GL W0 a.sa a.sc (bI j.spans) ((hb.s.below (e0.mono (Nat.le_of_lt hlt))).more (VB (Nat.le_of_lt hlt) e0.size)) (bw (f:=j7) (λ_=>rfl) _) (FH _) Xn);rw[Vu] at KC;have KC:=Vk KC;have HW5:=Vk (bw (f:=j7) (λ_=>rfl) j.spans:dj 5 (bI j.spans));have KS:=Vk (λ(W:Vl) (A:Option VM) (cap:Nat) (h:bK 5 W W.heap.size A cap (bI j.spans))=>Ki W A cap j.spans (sE e) h hlen);have hI:=Ru j.spans (sE e);have hF:Ot j.spans (sE e)=Vv->Kf j.spans (sE e)<j.spans.length:=λh=>by
  unfold Ot at h;rw[Bool.and_eq_true] at h;exact of_decide_eq_true h.1
 have hP:yF j.spans (sE e)=if Ot j.spans (sE e) then j.spans.set (Kf j.spans (sE e)) (sE e) else dt j.spans (Kf j.spans (sE e)) (sE e):=rfl;obtain⟨m,hm⟩:∃m,Kf j.spans (sE e)=m:=⟨_,rfl⟩;obtain⟨d,hd⟩:∃d,Ot j.spans (sE e)=d:=⟨_,rfl⟩;rw[hm] at hI hF hP;rw[hd] at hF hP;simp only[hm,hd] at KS;rw[hP];have HJ:=Vk hJ;have HE0:=Vk e0;have HZ':=Vk HZ;have HW:=Vk hW0;have q14:=hJ.cell 14;have z:=λi=>HZ.cell i
 have HL:=Vk (show(bI j.spans).length=j.spans.length by exact Vu _);have HLN:=Vk hlen;cases d with
 |true=>
  have hml:=hF rfl;have HML:=Vk hml;have hm0:(m:Int)<(j.spans.length:Int):=VY;rw[if_pos rfl];have HF:=Vk (λ(W1:Vl) (v:Vr) (hx:Ext w W1) (ho:W1.ownsRow w.heap.size 66 5 v (bI j.spans).length ((bI j.spans).set m (j7 (sE e))).flatten)=>MW (l:=j.spans.set m (sE e)) hc hb hx (by
   have he:(bI j.spans).set m (j7 (sE e))=bI (j.spans.set m (sE e)):=by simp[List.map_set]
   rw[he,HL.o] at ho;rw[Vu,List.length_set];exact ho))
  clear hc hb hJ HZ e0 hm hd hP hF hlen HW;subst hW0;go_enter func100,ntmps100;go_wp2_with(first
   |(refine dW rfl 66 _ _ rfl _ _ _ rfl rfl 66 _ HH2.o VZ HS.o VZ ?_;have HJ3:=Vk ((HJ.o.ext (HX2.o)).Tr HNE.o (putAt cur (m*5) #[VU VA e.awidth,VU VA e.adepth,VU VA e.aspacing,VU VA e.aload,VU VA e.aspan]));have q3:=HJ3.o.cell 14;have f3:=HJ3.o.frozen 14)
   |(go_at_call 160;have hs0:=hs1;clear hs1;refine(KS.o _ _ _ hs0).mono ?_;rintro e W2 ⟨rfl,hX2⟩;have z2:=λi=>(HZ'.o.ext (HX1.o.tr hX2)).cell i;have HH2:=Vk ((hX2.block gg (Vz.1 HH.o).1).trans HH.o);have HX2:=Vk (HX1.o.tr hX2);clear hX2)
   |(go_at_call 159;go_must(refine KC.o.mono ?_);rintro e W1 ⟨v,rfl,ho,hX⟩;have hsl:=aG ho HL.o HW5.o;obtain⟨gg,cp,cur,rfl,hb,hh,q1,q2,q3,q4⟩:=ml ho VY;have HH:=Vk hh;have HQ:=Vk q3;have HCF:=Vk q4;have HX1:=Vk hX;have HB:=Vk hb;have HS:=Vk (show m*5+5<=cur.size by rw[q3];omega);obtain⟨A',cap',hv,hs1⟩:=hsl;obtain⟨rfl,rfl⟩:Vq ⟨gg,0,Vo⟩=A'/\cp=cap':=(by injection hv with h1 h2 h3;exact⟨h1,h3⟩);have z1:=λi=>(HZ'.o.ext hX).cell i;have HNE:=Vk (show c≠gg by have:=HE0.o.size;omega);have HWG:=Vk (show w.heap.size<=gg by have:=HE0.o.size;omega);have HQ1:=Vk q1;have HQ2:=Vk q2;clear ho hh q1 q2 q3 q4 hX hb hv))
  go_ret;exact⟨rfl,HF.o _ _ (af (HE0.o.tr HX2.o) HWG.o _) (by rw[HL.o];exact nc HWG.o HH2.o HQ1.o HQ2.o HQ.o HCF.o HL.o HW5.o rfl HML.o)⟩
 |false=>
  rw[if_neg V0];have hpm:dt (bI j.spans) m (j7 (sE e))=bI (dt j.spans m (sE e)):=by unfold dt;simp[List.map_take,List.map_drop]
  have HF:=Vk (λ(W1:Vl) (v:Vr) (hx:Ext w W1) (ho:W1.ownsRow w.heap.size 66 5 v (j.spans.length+1) (dt (bI j.spans) m (j7 (sE e))).flatten)=>MW (l:=dt j.spans m (sE e)) hc hb hx (by
   rw[hpm] at ho;rw[Vu,lX _ _ _ hI];exact ho))
  have HI:=Vk hI;clear hc hb hJ HZ e0 hm hd hP hF hlen HW hI hpm;have KI:=Vk (λ(W:Vl) (v:Vr) (vb:Nat) (hx:Ext W0 W) (ho:W.ownsRow W0.heap.size 66 5 v j.spans.length (bI j.spans).flatten) (hr:ah W vb 66 (j7 (sE e))) (hne:v.ownBlock≠Vq vb)=>
   Mj W W0.heap.size j.spans.length m vb 1 v (bI j.spans) (j7 (sE e)) ho HL.o HW5.o (FH _) rfl (by intro u hu;simp at hu;rcases hu with rfl|rfl|rfl|rfl|rfl<;>rfl) hr hne HI.o HLN.o hx.size)
  subst hW0;go_enter func100,ntmps100;go_wp2_with(first
   |(go_at_call 162;have hq0:=hq2;clear hq2;refine(KI.o _ _ _ (HX2.o.tr ((Below.refl _ _).alloc (Vm _) _)) (aF hq0.o ((Below.refl _ _).alloc (Vm _) _)) (ah.new _ _ _) (λh=>by have:=(ak hq0.o _ h).2;omega)).mono ?_;rintro e W3 ⟨v3,rfl,ho3,hX3⟩;obtain⟨A3,n3,c3,hv3⟩:=nk.of ho3;have HX3:=Vk (((HX2.o.tr ((Below.refl _ _).alloc (Vm _) _)).trans hX3));have HO3:=Vk ho3;have q3:=(HJ.o.ext HX3.o).cell 14;have f3:=(HJ.o.ext HX3.o).frozen 14;subst hv3;clear ho3 hX3)
   |(go_at_call 160;have hs0:=hs1;clear hs1;refine(KS.o _ _ _ hs0).mono ?_;rintro e W2 ⟨rfl,hX2⟩;have z2:=λi=>(HZ'.o.ext (HX1.o.tr hX2)).cell i;have hq2:=Vk (aF HO1.o hX2);have HX2:=Vk (HX1.o.tr hX2);clear hX2)
   |(go_at_call 159;go_must(refine KC.o.mono ?_);rintro e W1 ⟨v,rfl,ho,hX⟩;obtain⟨A1,c1,hv,hs1⟩:=aG ho HL.o HW5.o;have HX1:=Vk hX;have HO1:=Vk ho;subst hv;have z1:=λi=>(HZ'.o.ext hX).cell i;clear ho hX))
  go_ret;exact⟨rfl,HF.o _ _ (HE0.o.tr HX3.o) (dz HO3.o HE0.o.size)⟩
end
section
open Kp
attribute [local go_sem] bF jR jN jU jK jI jO jP jM jL jQ fK fE fm fl ft
attribute [local go_sem] aS gO ia kp kv kE km kF kL kD ki fZ fW fX fV gx gy gw fD fu fG fF fL eQ gm gH gz gh gB gG gi gE iu gY gX iv eV gj
def QP{n:Nat}{i:Int}(h:dU n i=0):i.toNat<n:=by
 unfold dU at h;split at h
 ·omega
 ·cases h
def kc{α:Type}{l:List α}{i:Int}(h:dU l.length i=0):l.length-1=(l.eraseIdx i.toNat).length:=by
 rw[List.length_eraseIdx,if_pos (QP h)]
def ju(c b cell:Nat)(e:Ed)(A:Option VM)(n cap:Nat):Nat->Vr
 |0=> VT (Vq ⟨c,0,Vo⟩)
 |1=> VT (Vq ⟨c,0,Vo⟩)
 |2=> VT (Vq ⟨c,0,Vo⟩)
 |3=> VT (Vq ⟨c,cell,Vo⟩)
 |4=> VQ A n cap
 |5=> VT (Vq ⟨b,1,Vo⟩)
 |6=> VU VA e.index
 |10=> VU VA (dU n e.index)
 |11=> VT (Vq ⟨c,0,Vo⟩)
 |12=> VT (Vq ⟨c,cell,Vo⟩)
 |_=>Vs
def j5{p:Prop}(h:p:=by
  intro i L vs W hi hL hI hd;have HI:=Vk hI;rcases(show i=0\/i=1\/i=2\/i=3\/i=4\/i=5\/i=6\/i=7\/i=8\/i=9\/i=10\/i=11\/i=12\/i=13 by omega) with rfl|rfl|rfl|rfl|rfl|rfl|rfl|rfl|rfl|rfl|rfl|rfl|rfl|rfl<;>clear hi hI
  ·exact Z8
  ·exact Z8
  ·refine Vx rfl (λK hK=> ?_);have d1:=HI.o.vals 1 (hd 1 VZ) V0;simp only[ju] at d1;go_simp;exact hK _ _ ⟨_,by simp[aW,ju,d1],HI.o.pure V0 rfl⟩
  ·refine Vx rfl (λK hK=> ?_);have d2:=HI.o.vals 2 (hd 2 VZ) V0;simp only[ju] at d2;go_simp;exact hK _ _ ⟨_,by simp[aW,ju,d2],HI.o.pure V0 rfl⟩
  ·refine Vx rfl (λK hK=> ?_);have d3:=HI.o.vals 3 (hd 3 VZ) V0;simp only[ju] at d3;have hx:=HI.o.load (k:=4) V0 hL;have mm:=(HJ.o.ext hx).cell;clear hx;go_simp;exact hK _ _ ⟨_,by simp[aW,ju,d3],HI.o.pure V0 rfl⟩
  ·exact Z8
  ·refine Vx rfl (λK hK=> ?_);have d5:=HI.o.vals 5 (hd 5 VZ) V0;simp only[ju] at d5;have hx:=HI.o.load (k:=6) V0 hL;have mm:=(HZ'.o.ext hx).cell 1;clear hx;go_simp;exact hK _ _ ⟨_,by simp[aW,ju,d5],HI.o.pure V0 rfl⟩
  ·refine Vx rfl (λK hK=> ?_);have d4:=HI.o.vals 4 (hd 4 VZ) V0;simp only[ju] at d4;have d6:=HI.o.vals 6 (hd 6 VZ) V0;simp only[ju] at d6;have hx:=Vk (HI.o.ext hL);go_simp;rw[<-HL.o];refine(KP.o _ hx.o).mono ?_;rintro x W1 ⟨v,hsl,rfl,ho,hX⟩;exact hK _ _ ⟨_,by simp[aW,d4,d6,HL.o],HI.o.call hL (by intro k hk;simp at hk;rcases hk with rfl|rfl<;>exact hd _ VZ) hX ⟨hsl,λh=>dz (ho (HL.o.symm▸h)) (VB HE0.o.size hx.o.size)⟩⟩
  ·refine Vx rfl (λK hK=> ?_);go_simp;exact hK _ _ ⟨vs 7,by simp[aW],HI.o.move hL (hd 7 VZ)⟩
  ·refine Vx rfl (λK hK=> ?_);obtain⟨v,ht,hn⟩:=HI.o.first hL (hd 8 VZ);exact Z7
  ·refine Vx rfl (λK hK=> ?_);obtain⟨v,ht⟩:=HI.o.Uq (hd 8 VZ);go_simp;exact hK _ _ ⟨_,by simp[aW,ju,ht],HI.o.pure V0 rfl⟩
  ·refine Vx rfl (λK hK=> ?_);have d0:=HI.o.vals 0 (hd 0 VZ) V0;simp only[ju] at d0;go_simp;exact hK _ _ ⟨_,by simp[aW,ju,d0],HI.o.pure V0 rfl⟩
  ·refine Vx rfl (λK hK=> ?_);have d11:=HI.o.vals 11 (hd 11 VZ) V0;simp only[ju] at d11;go_simp;exact hK _ _ ⟨_,by simp[aW,ju,d11],HI.o.pure V0 rfl⟩
  ·refine Vx rfl (λK hK=> ?_);have d12:=HI.o.vals 12 (hd 12 VZ) V0;simp only[ju] at d12;obtain⟨hx,⟨⟨A1,n1,c1,hv⟩,_⟩,hn⟩:=HI.o.store hL (hd 9 VZ) rfl;rw[hv] at hn;have hw:vs 9=VQ A1 n1 c1:=hv;clear hv;have mm:=(HJ.o.ext hx).cell;have nn:=(HJ.o.ext hx).frozen;clear hx;go_simp;exact hK _ _ ⟨Vs,by simp[aW,d12,hw],hn⟩):p:=h
def lJ{p:Prop}(h:p:=by
  intro L vs W hL hI;obtain⟨he,v,W1,hx,⟨_,ho⟩,rfl⟩:=hI.done hL;have h10:=he;simp only[Nat.reduceAdd,ju] at h10;have HX:=Vk hx;have HO:=Vk ho;clear hx ho he hI;simp only[h10,List.drop_succ_cons,List.drop_zero];go_wp2;go_ret;exact⟨rfl,HBl.o W1 v HX.o,λh=>HF.o W1 v HX.o h (HO.o h)⟩):p:=h
def oo{w:Vl}{c:Nat}{j:bC}{a:dq}(e:Ed)(g:Vr)(hc:JC w c j a):∃W0,Hid (w.alloc (.cells (aL e g) 68)=W0)/\Hid (EC W0 w.heap.size (aL e g))/\Hid (Ext w W0)/\Hid (JC W0 c j a)/\(w.alloc (.cells (aL e g) 68)).cell? ⟨w.heap.size,35,Vo⟩=(aL e g)[35]?:=
 ⟨_,Vk rfl,Vk (EC.new w _),Vk ((Below.refl _ _).alloc (Vm _) _),Vk (hc.ext ((Below.refl _ _).alloc (Vm _) _)),(EC.new w (aL e g)).cell 35⟩
def Nb(w:Vl)(c:Nat)(j:bC)(a:dq)(e:Ed)(g:Vr)(hc:JC w c j a){X:Nat->Prop}(hb:eL X w c j a)(hlen:j.purlins.length<=1000000)(hnum:e.number=4):
  VC prog 101 #[VT (Vq ⟨c,0,Vo⟩),VW (aL e g)] w λx w'=>x=VV (VU VA (dU j.purlins.length e.index))/\fj c w w'/\(dU j.purlins.length e.index=0->∃a',nl X c w w' {j with purlins:=j.purlins.eraseIdx e.index.toNat} a'):=by
 have hlt:=hc.lt;obtain⟨W0,HW,HZ',HE0,HJ,z35⟩:=oo e g hc;have e0:=HE0.o;have KP:=Vk (λ(W:Vl) (h:Ext W0 W)=>Mh W a.ua a.uc (aX j.purlins) e.index ((hb.u.below ((e0.tr h).mono (Nat.le_of_lt hlt))).more (VB (Nat.le_of_lt hlt) (e0.tr h).size)) (bw (f:=λn=>[VU VA n]) (λ_=>rfl) _) (Fw _) Xn);have hpm:(aX j.purlins).eraseIdx e.index.toNat=aX (j.purlins.eraseIdx e.index.toNat):=lW (λn:Int=>([VU VA n]:List Vr)) j.purlins e.index.toNat;have HF:=Vk (λ(W1:Vl) (v:Vr) (hx:Ext W0 W1) (h0:dU j.purlins.length e.index=0) (ho:W1.ownsRow w.heap.size 3 1 v ((aX j.purlins).length-1) ((aX j.purlins).eraseIdx e.index.toNat).flatten)=>QZ (l:=j.purlins.eraseIdx e.index.toNat) hc hb (e0.tr hx) (by rw[kc (l:=(aX j.purlins)) XE,hpm] at ho;exact ho));have HBl:=Vk (λ(W1:Vl) (v:Vr) (hx:Ext W0 W1)=>((fj.ext (e0.tr hx) hlt).put 4 v:fj c w (W1.setCell ⟨c,4,Vo⟩ v)));have HL:=Vk (show(aX j.purlins).length=j.purlins.length by exact Vu _);have t0:(e.number==4)=Vv:=WE;clear hc hb e0 hnum hpm;go_enter func101,ntmps101;go_wp2_with fail
 rw[HW.o];refine wp_region_any VZ (bW 14 (λvs=>⟨#[VT (Vq ⟨c,0,Vo⟩),VW (aL e g),Vs,VT (Vq ⟨w.heap.size,0,Vo⟩),VU VA 0,VT (Vq ⟨w.heap.size,35,Vo⟩),VU VA e.number,VS Vv,VS Vv,vs 8,vs 0,vs 1,vs 2,vs 3,vs 4,vs 5,vs 6,vs 7,vs 9,vs 10,vs 11,vs 12,Vs,Vs,Vs,Vs,Vs,Vs,Vs,Vs,Vs,Vs,Vs,Vs,Vs,Vs,Vs,Vs,Vs,Vs,Vs,Vs,Vs,Vs,Vs,Vs,Vs,Vs,Vs,Vs,Vs,Vs,Vs,Vs,Vs,Vs,Vs,Vs,Vs,Vs,Vs,Vs,Vs,Vs,Vs,Vs,Vs,Vs,Vs,Vs,Vs,Vs,Vs,Vs,Vs,Vs,Vs,Vs,Vs,Vs,Vs,Vs,Vs,Vs,Vs,Vs,Vs,Vs,Vs,Vs,Vs,Vs,Vs,Vs,Vs,Vs,Vs,Vs],[]⟩)
  (λL vs W=>dF W0 (ju c w.heap.size 4 e a.ua j.purlins.length a.uc) (λv W1=>nk v/\(dU j.purlins.length e.index=0->W1.ownsRow w.heap.size 3 1 v ((aX j.purlins).length-1) ((aX j.purlins).eraseIdx e.index.toNat).flatten)) (VU VA (dU j.purlins.length e.index)) ⟨c,4,Vo⟩ 7 [4,6] L vs W) VZ ?step ?tail (λ_=>Vs) _ (dF.start (Ext.dr _)))
 case step=>exact j5
 case tail=>exact lJ
def Oh(w:Vl)(c:Nat)(j:bC)(a:dq)(e:Ed)(g:Vr)(hc:JC w c j a){X:Nat->Prop}(hb:eL X w c j a)(hlen:j.openings.length<=1000000)(hnum:e.number=5):
  VC prog 101 #[VT (Vq ⟨c,0,Vo⟩),VW (aL e g)] w λx w'=>x=VV (VU VA (dU j.openings.length e.index))/\fj c w w'/\(dU j.openings.length e.index=0->∃a',nl X c w w' {j with openings:=j.openings.eraseIdx e.index.toNat} a'):=by
 have hlt:=hc.lt;obtain⟨W0,HW,HZ',HE0,HJ,z35⟩:=oo e g hc;have e0:=HE0.o;have KP:=Vk (λ(W:Vl) (h:Ext W0 W)=>K7 W a.oa a.oc (bD j.openings) e.index ((hb.o.below ((e0.tr h).mono (Nat.le_of_lt hlt))).more (VB (Nat.le_of_lt hlt) (e0.tr h).size)) (mH _) (Nv _) Xn);have hpm:(bD j.openings).eraseIdx e.index.toNat=bD (j.openings.eraseIdx e.index.toNat):=lW wm j.openings e.index.toNat;have HF:=Vk (λ(W1:Vl) (v:Vr) (hx:Ext W0 W1) (h0:dU j.openings.length e.index=0) (ho:W1.ownsRow w.heap.size 57 5 v ((bD j.openings).length-1) ((bD j.openings).eraseIdx e.index.toNat).flatten)=>Rf (l:=j.openings.eraseIdx e.index.toNat) hc hb (e0.tr hx) (by rw[kc (l:=(bD j.openings)) XE,hpm] at ho;exact ho));have HBl:=Vk (λ(W1:Vl) (v:Vr) (hx:Ext W0 W1)=>((fj.ext (e0.tr hx) hlt).put 5 v:fj c w (W1.setCell ⟨c,5,Vo⟩ v)));have HL:=Vk (show(bD j.openings).length=j.openings.length by exact Vu _);have t0:(e.number==4)=Vp:=WE;have t1:(e.number==5)=Vv:=WE;clear hc hb e0 hnum hpm;go_enter func101,ntmps101;go_wp2_with fail
 rw[HW.o];refine wp_region_any VZ (bW 14 (λvs=>⟨#[VT (Vq ⟨c,0,Vo⟩),VW (aL e g),Vs,VT (Vq ⟨w.heap.size,0,Vo⟩),VU VA 0,VT (Vq ⟨w.heap.size,35,Vo⟩),VU VA e.number,VS Vp,VS Vp,Vs,Vs,Vs,Vs,Vs,Vs,Vs,Vs,Vs,Vs,Vs,Vs,Vs,VS Vv,VS Vv,vs 8,vs 0,vs 1,vs 2,vs 3,vs 4,vs 5,vs 6,vs 7,vs 9,vs 10,vs 11,vs 12,Vs,Vs,Vs,Vs,Vs,Vs,Vs,Vs,Vs,Vs,Vs,Vs,Vs,Vs,Vs,Vs,Vs,Vs,Vs,Vs,Vs,Vs,Vs,Vs,Vs,Vs,Vs,Vs,Vs,Vs,Vs,Vs,Vs,Vs,Vs,Vs,Vs,Vs,Vs,Vs,Vs,Vs,Vs,Vs,Vs,Vs,Vs,Vs,Vs,Vs,Vs,Vs,Vs,Vs,Vs,Vs,Vs,Vs,Vs,Vs,Vs],[]⟩)
  (λL vs W=>dF W0 (ju c w.heap.size 5 e a.oa j.openings.length a.oc) (λv W1=>nk v/\(dU j.openings.length e.index=0->W1.ownsRow w.heap.size 57 5 v ((bD j.openings).length-1) ((bD j.openings).eraseIdx e.index.toNat).flatten)) (VU VA (dU j.openings.length e.index)) ⟨c,5,Vo⟩ 7 [4,6] L vs W) VZ ?step ?tail (λ_=>Vs) _ (dF.start (Ext.dr _)))
 case step=>exact j5
 case tail=>exact lJ
def Nw(w:Vl)(c:Nat)(j:bC)(a:dq)(e:Ed)(g:Vr)(hc:JC w c j a){X:Nat->Prop}(hb:eL X w c j a)(hlen:j.sizes.length<=1000000)(hnum:e.number=6):
  VC prog 101 #[VT (Vq ⟨c,0,Vo⟩),VW (aL e g)] w λx w'=>x=VV (VU VA (dU j.sizes.length e.index))/\fj c w w'/\(dU j.sizes.length e.index=0->∃a',nl X c w w' {j with sizes:=j.sizes.eraseIdx e.index.toNat} a'):=by
 have hlt:=hc.lt;obtain⟨W0,HW,HZ',HE0,HJ,z35⟩:=oo e g hc;have e0:=HE0.o;have KP:=Vk (λ(W:Vl) (h:Ext W0 W)=>Lw W a.za a.zc (bN j.sizes) e.index ((hb.z.below ((e0.tr h).mono (Nat.le_of_lt hlt))).more (VB (Nat.le_of_lt hlt) (e0.tr h).size)) (zC _) (NS _) Xn);have hpm:(bN j.sizes).eraseIdx e.index.toNat=bN (j.sizes.eraseIdx e.index.toNat):=lW GA j.sizes e.index.toNat;have HF:=Vk (λ(W1:Vl) (v:Vr) (hx:Ext W0 W1) (h0:dU j.sizes.length e.index=0) (ho:W1.ownsRow w.heap.size 59 3 v ((bN j.sizes).length-1) ((bN j.sizes).eraseIdx e.index.toNat).flatten)=>QU (l:=j.sizes.eraseIdx e.index.toNat) hc hb (e0.tr hx) (by rw[kc (l:=(bN j.sizes)) XE,hpm] at ho;exact ho));have HBl:=Vk (λ(W1:Vl) (v:Vr) (hx:Ext W0 W1)=>((fj.ext (e0.tr hx) hlt).put 6 v:fj c w (W1.setCell ⟨c,6,Vo⟩ v)));have HL:=Vk (show(bN j.sizes).length=j.sizes.length by exact Vu _);have t0:(e.number==4)=Vp:=WE;have t1:(e.number==5)=Vp:=WE;have t2:(e.number==6)=Vv:=WE;clear hc hb e0 hnum hpm;go_enter func101,ntmps101;go_wp2_with fail
 rw[HW.o];refine wp_region_any VZ (bW 14 (λvs=>⟨#[VT (Vq ⟨c,0,Vo⟩),VW (aL e g),Vs,VT (Vq ⟨w.heap.size,0,Vo⟩),VU VA 0,VT (Vq ⟨w.heap.size,35,Vo⟩),VU VA e.number,VS Vp,VS Vp,Vs,Vs,Vs,Vs,Vs,Vs,Vs,Vs,Vs,Vs,Vs,Vs,Vs,VS Vp,VS Vp,Vs,Vs,Vs,Vs,Vs,Vs,Vs,Vs,Vs,Vs,Vs,Vs,Vs,VS Vv,VS Vv,vs 8,vs 0,vs 1,vs 2,vs 3,vs 4,vs 5,vs 6,vs 7,vs 9,vs 10,vs 11,vs 12,Vs,Vs,Vs,Vs,Vs,Vs,Vs,Vs,Vs,Vs,Vs,Vs,Vs,Vs,Vs,Vs,Vs,Vs,Vs,Vs,Vs,Vs,Vs,Vs,Vs,Vs,Vs,Vs,Vs,Vs,Vs,Vs,Vs,Vs,Vs,Vs,Vs,Vs,Vs,Vs,Vs,Vs,Vs,Vs,Vs,Vs],[]⟩)
  (λL vs W=>dF W0 (ju c w.heap.size 6 e a.za j.sizes.length a.zc) (λv W1=>nk v/\(dU j.sizes.length e.index=0->W1.ownsRow w.heap.size 59 3 v ((bN j.sizes).length-1) ((bN j.sizes).eraseIdx e.index.toNat).flatten)) (VU VA (dU j.sizes.length e.index)) ⟨c,6,Vo⟩ 7 [4,6] L vs W) VZ ?step ?tail (λ_=>Vs) _ (dF.start (Ext.dr _)))
 case step=>exact j5
 case tail=>exact lJ
def LU(w:Vl)(c:Nat)(j:bC)(a:dq)(e:Ed)(g:Vr)(hc:JC w c j a){X:Nat->Prop}(hb:eL X w c j a)(hlen:j.bars.length<=1000000)(hnum:e.number=7):
  VC prog 101 #[VT (Vq ⟨c,0,Vo⟩),VW (aL e g)] w λx w'=>x=VV (VU VA (dU j.bars.length e.index))/\fj c w w'/\(dU j.bars.length e.index=0->∃a',nl X c w w' {j with bars:=j.bars.eraseIdx e.index.toNat} a'):=by
 have hlt:=hc.lt;obtain⟨rows,hrr,hrs,hrv⟩:=rF hb (Nat.le_of_lt hc.lt);obtain⟨W0,HW,HZ',HE0,HJ,z35⟩:=oo e g hc;have e0:=HE0.o;have KP:=Vk (λ(W:Vl) (h:Ext W0 W)=>LF W a.ba a.bc rows e.index ((hrs.below ((e0.tr h).mono (Nat.le_of_lt hlt))).more (VB (Nat.le_of_lt hlt) (e0.tr h).size)) hrr.wide hrr.one (by rw[hrr.1];exact hlen));have HF:=Vk (λ(W1:Vl) (v:Vr) (hx:Ext W0 W1) (h0:dU j.bars.length e.index=0) (ho:W1.ownsRow w.heap.size 62 6 v (rows.length-1) (rows.eraseIdx e.index.toNat).flatten)=>Q4 hc hb (e0.tr hx) (hrr.erase e.index.toNat) (λW hO=>(hrv W hO).erase e.index.toNat) (by rw[kc (l:=rows) (by rw[hrr.1];exact h0)] at ho;exact ho));have HBl:=Vk (λ(W1:Vl) (v:Vr) (hx:Ext W0 W1)=>((fj.ext (e0.tr hx) hlt).put 7 v:fj c w (W1.setCell ⟨c,7,Vo⟩ v)));have HL:=Vk (show rows.length=j.bars.length by exact hrr.1);have t0:(e.number==4)=Vp:=WE;have t1:(e.number==5)=Vp:=WE;have t2:(e.number==6)=Vp:=WE;have t3:(e.number==7)=Vv:=WE;clear hc hb e0 hnum hrr hrs hrv;go_enter func101,ntmps101;go_wp2_with fail
 rw[HW.o];refine wp_region_any VZ (bW 14 (λvs=>⟨#[VT (Vq ⟨c,0,Vo⟩),VW (aL e g),Vs,VT (Vq ⟨w.heap.size,0,Vo⟩),VU VA 0,VT (Vq ⟨w.heap.size,35,Vo⟩),VU VA e.number,VS Vp,VS Vp,Vs,Vs,Vs,Vs,Vs,Vs,Vs,Vs,Vs,Vs,Vs,Vs,Vs,VS Vp,VS Vp,Vs,Vs,Vs,Vs,Vs,Vs,Vs,Vs,Vs,Vs,Vs,Vs,Vs,VS Vp,VS Vp,Vs,Vs,Vs,Vs,Vs,Vs,Vs,Vs,Vs,Vs,Vs,Vs,Vs,VS Vv,VS Vv,vs 8,vs 0,vs 1,vs 2,vs 3,vs 4,vs 5,vs 6,vs 7,vs 9,vs 10,vs 11,vs 12,Vs,Vs,Vs,Vs,Vs,Vs,Vs,Vs,Vs,Vs,Vs,Vs,Vs,Vs,Vs,Vs,Vs,Vs,Vs,Vs,Vs,Vs,Vs,Vs,Vs,Vs,Vs,Vs,Vs,Vs,Vs],[]⟩)
  (λL vs W=>dF W0 (ju c w.heap.size 7 e a.ba j.bars.length a.bc) (λv W1=>nk v/\(dU j.bars.length e.index=0->W1.ownsRow w.heap.size 62 6 v (rows.length-1) (rows.eraseIdx e.index.toNat).flatten)) (VU VA (dU j.bars.length e.index)) ⟨c,7,Vo⟩ 7 [4,6] L vs W) VZ ?step ?tail (λ_=>Vs) _ (dF.start (Ext.dr _)))
 case step=>exact j5
 case tail=>exact lJ
def Kk(w:Vl)(c:Nat)(j:bC)(a:dq)(e:Ed)(g:Vr)(hc:JC w c j a){X:Nat->Prop}(hb:eL X w c j a)(hlen:j.aH.length<=1000000)(hnum:e.number=10):
  VC prog 101 #[VT (Vq ⟨c,0,Vo⟩),VW (aL e g)] w λx w'=>x=VV (VU VA (dU j.aH.length e.index))/\fj c w w'/\(dU j.aH.length e.index=0->∃a',nl X c w w' {j with aH:=j.aH.eraseIdx e.index.toNat} a'):=by
 have hlt:=hc.lt;obtain⟨W0,HW,HZ',HE0,HJ,z35⟩:=oo e g hc;have e0:=HE0.o;have KP:=Vk (λ(W:Vl) (h:Ext W0 W)=>Nh W a.la a.lc (bU j.aH) e.index ((hb.l.below ((e0.tr h).mono (Nat.le_of_lt hlt))).more (VB (Nat.le_of_lt hlt) (e0.tr h).size)) (oF _) (Kn _) Xn);have hpm:(bU j.aH).eraseIdx e.index.toNat=bU (j.aH.eraseIdx e.index.toNat):=lW Rs j.aH e.index.toNat;have HF:=Vk (λ(W1:Vl) (v:Vr) (hx:Ext W0 W1) (h0:dU j.aH.length e.index=0) (ho:W1.ownsRow w.heap.size 64 3 v ((bU j.aH).length-1) ((bU j.aH).eraseIdx e.index.toNat).flatten)=>Rd (l:=j.aH.eraseIdx e.index.toNat) hc hb (e0.tr hx) (by rw[kc (l:=(bU j.aH)) XE,hpm] at ho;exact ho));have HBl:=Vk (λ(W1:Vl) (v:Vr) (hx:Ext W0 W1)=>((fj.ext (e0.tr hx) hlt).put 13 v:fj c w (W1.setCell ⟨c,13,Vo⟩ v)));have HL:=Vk (show(bU j.aH).length=j.aH.length by exact Vu _);have t0:(e.number==4)=Vp:=WE;have t1:(e.number==5)=Vp:=WE;have t2:(e.number==6)=Vp:=WE;have t3:(e.number==7)=Vp:=WE;have t4:(e.number==10)=Vv:=WE;clear hc hb e0 hnum hpm;go_enter func101,ntmps101;go_wp2_with fail
 rw[HW.o];refine wp_region_any VZ (bW 14 (λvs=>⟨#[VT (Vq ⟨c,0,Vo⟩),VW (aL e g),Vs,VT (Vq ⟨w.heap.size,0,Vo⟩),VU VA 0,VT (Vq ⟨w.heap.size,35,Vo⟩),VU VA e.number,VS Vp,VS Vp,Vs,Vs,Vs,Vs,Vs,Vs,Vs,Vs,Vs,Vs,Vs,Vs,Vs,VS Vp,VS Vp,Vs,Vs,Vs,Vs,Vs,Vs,Vs,Vs,Vs,Vs,Vs,Vs,Vs,VS Vp,VS Vp,Vs,Vs,Vs,Vs,Vs,Vs,Vs,Vs,Vs,Vs,Vs,Vs,Vs,VS Vp,VS Vp,Vs,Vs,Vs,Vs,Vs,Vs,Vs,Vs,Vs,Vs,Vs,Vs,Vs,VS Vv,VS Vv,vs 8,vs 0,vs 1,vs 2,vs 3,vs 4,vs 5,vs 6,vs 7,vs 9,vs 10,vs 11,vs 12,Vs,Vs,Vs,Vs,Vs,Vs,Vs,Vs,Vs,Vs,Vs,Vs,Vs,Vs,Vs,Vs],[]⟩)
  (λL vs W=>dF W0 (ju c w.heap.size 13 e a.la j.aH.length a.lc) (λv W1=>nk v/\(dU j.aH.length e.index=0->W1.ownsRow w.heap.size 64 3 v ((bU j.aH).length-1) ((bU j.aH).eraseIdx e.index.toNat).flatten)) (VU VA (dU j.aH.length e.index)) ⟨c,13,Vo⟩ 7 [4,6] L vs W) VZ ?step ?tail (λ_=>Vs) _ (dF.start (Ext.dr _)))
 case step=>exact j5
 case tail=>exact lJ
def Oc(w:Vl)(c:Nat)(j:bC)(a:dq)(e:Ed)(g:Vr)(hc:JC w c j a){X:Nat->Prop}(hb:eL X w c j a)(hlen:j.spans.length<=1000000)(hnum:e.number=11):
  VC prog 101 #[VT (Vq ⟨c,0,Vo⟩),VW (aL e g)] w λx w'=>x=VV (VU VA (dU j.spans.length e.index))/\fj c w w'/\(dU j.spans.length e.index=0->∃a',nl X c w w' {j with spans:=j.spans.eraseIdx e.index.toNat} a'):=by
 have hlt:=hc.lt;obtain⟨W0,HW,HZ',HE0,HJ,z35⟩:=oo e g hc;have e0:=HE0.o;have KP:=Vk (λ(W:Vl) (h:Ext W0 W)=>Lr W a.sa a.sc (bI j.spans) e.index ((hb.s.below ((e0.tr h).mono (Nat.le_of_lt hlt))).more (VB (Nat.le_of_lt hlt) (e0.tr h).size)) (bw (f:=j7) (λ_=>rfl) _) (FH _) Xn);have hpm:(bI j.spans).eraseIdx e.index.toNat=bI (j.spans.eraseIdx e.index.toNat):=lW j7 j.spans e.index.toNat;have HF:=Vk (λ(W1:Vl) (v:Vr) (hx:Ext W0 W1) (h0:dU j.spans.length e.index=0) (ho:W1.ownsRow w.heap.size 66 5 v ((bI j.spans).length-1) ((bI j.spans).eraseIdx e.index.toNat).flatten)=>MW (l:=j.spans.eraseIdx e.index.toNat) hc hb (e0.tr hx) (by rw[kc (l:=(bI j.spans)) XE,hpm] at ho;exact ho));have HBl:=Vk (λ(W1:Vl) (v:Vr) (hx:Ext W0 W1)=>((fj.ext (e0.tr hx) hlt).put 14 v:fj c w (W1.setCell ⟨c,14,Vo⟩ v)));have HL:=Vk (show(bI j.spans).length=j.spans.length by exact Vu _);have t0:(e.number==4)=Vp:=WE;have t1:(e.number==5)=Vp:=WE;have t2:(e.number==6)=Vp:=WE;have t3:(e.number==7)=Vp:=WE;have t4:(e.number==10)=Vp:=WE;have t5:(e.number==11)=Vv:=WE;clear hc hb e0 hnum hpm;go_enter func101,ntmps101;go_wp2_with fail
 rw[HW.o];refine wp_region_any VZ (bW 14 (λvs=>⟨#[VT (Vq ⟨c,0,Vo⟩),VW (aL e g),Vs,VT (Vq ⟨w.heap.size,0,Vo⟩),VU VA 0,VT (Vq ⟨w.heap.size,35,Vo⟩),VU VA e.number,VS Vp,VS Vp,Vs,Vs,Vs,Vs,Vs,Vs,Vs,Vs,Vs,Vs,Vs,Vs,Vs,VS Vp,VS Vp,Vs,Vs,Vs,Vs,Vs,Vs,Vs,Vs,Vs,Vs,Vs,Vs,Vs,VS Vp,VS Vp,Vs,Vs,Vs,Vs,Vs,Vs,Vs,Vs,Vs,Vs,Vs,Vs,Vs,VS Vp,VS Vp,Vs,Vs,Vs,Vs,Vs,Vs,Vs,Vs,Vs,Vs,Vs,Vs,Vs,VS Vp,VS Vp,Vs,Vs,Vs,Vs,Vs,Vs,Vs,Vs,Vs,Vs,Vs,Vs,Vs,VS Vv,VS Vv,vs 8,vs 0,vs 1,vs 2,vs 3,vs 4,vs 5,vs 6,vs 7,vs 9,vs 10,vs 11,vs 12,Vs],[]⟩)
  (λL vs W=>dF W0 (ju c w.heap.size 14 e a.sa j.spans.length a.sc) (λv W1=>nk v/\(dU j.spans.length e.index=0->W1.ownsRow w.heap.size 66 5 v ((bI j.spans).length-1) ((bI j.spans).eraseIdx e.index.toNat).flatten)) (VU VA (dU j.spans.length e.index)) ⟨c,14,Vo⟩ 7 [4,6] L vs W) VZ ?step ?tail (λ_=>Vs) _ (dF.start (Ext.dr _)))
 case step=>exact j5
 case tail=>exact lJ
def Kw(w:Vl)(c:Nat)(e:Ed)(g:Vr)(hlt:c<w.heap.size)(n0:e.number≠4)(n1:e.number≠5)(n2:e.number≠6)(n3:e.number≠7)(n4:e.number≠10)(n5:e.number≠11):
  VC prog 101 #[VT (Vq ⟨c,0,Vo⟩),VW (aL e g)] w λx w'=>x=VV (VU VA 8)/\fj c w w':=by
 have e0:=Vk (show fj c w (w.alloc (.cells (aL e g) 68)) from fj.ext ((Below.refl _ _).alloc (Vm _) _) hlt);have z35:=(EC.new w (aL e g)).cell 35;have t0:(e.number==4)=Vp:=beq_eq_false_iff_ne.2 n0;have t1:(e.number==5)=Vp:=beq_eq_false_iff_ne.2 n1;have t2:(e.number==6)=Vp:=beq_eq_false_iff_ne.2 n2;have t3:(e.number==7)=Vp:=beq_eq_false_iff_ne.2 n3;have t4:(e.number==10)=Vp:=beq_eq_false_iff_ne.2 n4;have t5:(e.number==11)=Vp:=beq_eq_false_iff_ne.2 n5;clear n0 n1 n2 n3 n4 n5;go_enter func101,ntmps101;go_wp2;go_ret;exact⟨rfl,e0.o⟩
end
section
open Kp
attribute [local go_sem] bF jR jN jU jK jI jO jP jM jL jQ fK fE fm fl ft
attribute [local go_sem] aS gO ia kp kv kE km kF kL kD ki fZ fW fX fV gx gy gw fD fu fG fF fL eQ gm gH gz gh gB gG gi gE iu gY gX iv eV gj
def OW(p:Nat->Bool)(n:Nat): -1<=jE p n/\jE p n<(n:Int):=by
 induction n with
 |zero=>unfold jE;omega
 |succ n ih=>
  unfold jE;split
  ·split <;>omega
  ·omega
def R8(l:List Sz)(k:Int):Int:=if jE (λi=>(l.getD i iF).kind==k) l.length<0 then(l.length:Int) else jE (λi=>(l.getD i iF).kind==k) l.length
def Sn(l:List Sz)(k:Int):eh l.length (R8 l k)=0:=by
 have:=OW (λi=>(l.getD i iF).kind==k) l.length;unfold R8 eh;split <;>rw[if_pos VY]
def F0(s:Sz)(w:Vl)(B:Nat)(e:Ed)(g:Vr)(hb:EC w B (aL e g)):
  VC prog 155 #[VW (GA s).toArray,VT (Vq ⟨B,0,Vo⟩)] w λx w'=>x=VV (VS (s.kind==e.zkind))/\Ext w w':=by
 have E0:=Vk (show Ext w (w.alloc (.cells (GA s).toArray 59)) from(Below.refl _ _).alloc (Vm _) _);have c:=(hb.ext E0.o).cell 14;have hz:=hb.lt;obtain⟨r,hr⟩:∃r,(s.kind==e.zkind)=r:=⟨_,rfl⟩;rw[hr];clear hb;go_enter func155,ntmps155;go_wp2;go_ret;exact⟨rfl,E0.o⟩
def Mr(l:List Sz)(w:Vl)(B:Nat)(e:Ed)(g:Vr)(hb:EC w B (aL e g)):xc 155 #[VT (Vq ⟨B,0,Vo⟩)] 3 (bN l) (λi=>(l.getD i iF).kind==e.zkind) w:=by
 intro W i hi hx;rw[Vu] at hi;have:(bN l).getD i []=GA (l.getD i iF):=by simp[Vn,hi]
 rw[this];exact F0 _ W B e g (hb.ext hx)
def uv(c b:Nat)(e:Ed)(A:Option VM)(n cap:Nat)(m:Int):Nat->Vr
 |0=> VT (Vq ⟨c,0,Vo⟩)
 |1=> VT (Vq ⟨c,0,Vo⟩)
 |2=> VT (Vq ⟨c,0,Vo⟩)
 |3=> VT (Vq ⟨c,6,Vo⟩)
 |4=> VQ A n cap
 |5=> VU VA m
 |6=> VT (Vq ⟨b,14,Vo⟩)
 |7=> VW #[VU VA e.zkind,VU VA e.zwidth,VU VA e.zdepth]
 |11=> VU VA (eh n m)
 |12=> VT (Vq ⟨c,0,Vo⟩)
 |13=> VT (Vq ⟨c,6,Vo⟩)
 |_=>Vs
def GH{p:Prop}(h:p:=by
   intro i L vs W hi hL hI hd;have HI:=Vk hI;rcases(show i=0\/i=1\/i=2\/i=3\/i=4\/i=5\/i=6\/i=7\/i=8\/i=9\/i=10\/i=11\/i=12\/i=13\/i=14 by omega) with rfl|rfl|rfl|rfl|rfl|rfl|rfl|rfl|rfl|rfl|rfl|rfl|rfl|rfl|rfl<;>clear hi hI
   ·exact Z9
   ·exact Z9
   ·refine Vx rfl (λK hK=> ?_);have d1:=HI.o.vals 1 (hd 1 VZ) V0;simp only[uv] at d1;go_simp;exact hK _ _ ⟨_,by simp[aW,uv,d1],HI.o.pure V0 rfl⟩
   ·refine Vx rfl (λK hK=> ?_);have d2:=HI.o.vals 2 (hd 2 VZ) V0;simp only[uv] at d2;go_simp;exact hK _ _ ⟨_,by simp[aW,uv,d2],HI.o.pure V0 rfl⟩
   ·refine Vx rfl (λK hK=> ?_);have d3:=HI.o.vals 3 (hd 3 VZ) V0;simp only[uv] at d3;have hx:=HI.o.load (k:=4) V0 hL;have mm:=(HJ.o.ext hx).cell 6;clear hx;go_simp;exact hK _ _ ⟨_,by simp[aW,uv,d3],HI.o.pure V0 rfl⟩
   ·exact Z9
   ·exact Z9
   ·refine Vx rfl (λK hK=> ?_);have d6:=HI.o.vals 6 (hd 6 VZ) V0;simp only[uv] at d6;have hx:=HI.o.load (k:=7) V0 hL;have m14:=(HZ'.o.ext hx).cell 14;have m15:=(HZ'.o.ext hx).cell 15;have m16:=(HZ'.o.ext hx).cell 16;clear hx;go_simp;exact hK _ _ ⟨_,by simp[aW,uv,d6],HI.o.pure V0 rfl⟩
   ·refine Vx rfl (λK hK=> ?_);have d4:=HI.o.vals 4 (hd 4 VZ) V0;simp only[uv] at d4;have d5:=HI.o.vals 5 (hd 5 VZ) V0;simp only[uv] at d5;have d7:=HI.o.vals 7 (hd 7 VZ) V0;simp only[uv] at d7;have hx:=Vk (HI.o.ext hL);go_simp;rw[<-HL.o];refine(KP.o _ hx.o).mono ?_;rintro x W1 ⟨v,hsl,rfl,ho,hX⟩;exact hK _ _ ⟨_,by simp[aW,d4,d5,d7,HL.o],HI.o.call hL (by intro k hk;simp at hk;rcases hk with rfl|rfl|rfl<;>exact hd _ VZ) hX ⟨hsl,λh=>dz (ho (HL.o.symm▸h)) (VB HE0.o.size hx.o.size)⟩⟩
   ·refine Vx rfl (λK hK=> ?_);go_simp;exact hK _ _ ⟨vs 8,by simp[aW],HI.o.move hL (hd 8 VZ)⟩
   ·refine Vx rfl (λK hK=> ?_);obtain⟨v,ht,hn⟩:=HI.o.first hL (hd 9 VZ);exact Z7
   ·refine Vx rfl (λK hK=> ?_);obtain⟨v,ht⟩:=HI.o.Uq (hd 9 VZ);go_simp;exact hK _ _ ⟨_,by simp[aW,uv,ht],HI.o.pure V0 rfl⟩
   ·refine Vx rfl (λK hK=> ?_);have d0:=HI.o.vals 0 (hd 0 VZ) V0;simp only[uv] at d0;go_simp;exact hK _ _ ⟨_,by simp[aW,uv,d0],HI.o.pure V0 rfl⟩
   ·refine Vx rfl (λK hK=> ?_);have d12:=HI.o.vals 12 (hd 12 VZ) V0;simp only[uv] at d12;go_simp;exact hK _ _ ⟨_,by simp[aW,uv,d12],HI.o.pure V0 rfl⟩
   ·refine Vx rfl (λK hK=> ?_);have d13:=HI.o.vals 13 (hd 13 VZ) V0;simp only[uv] at d13;obtain⟨hx,⟨⟨A1,n1,c1,hv⟩,_⟩,hn⟩:=HI.o.store hL (hd 10 VZ) rfl;rw[hv] at hn;have hw:vs 10=VQ A1 n1 c1:=hv;clear hv;have mm:=(HJ.o.ext hx).cell 6;have nn:=(HJ.o.ext hx).frozen 6;clear hx;go_simp;exact hK _ _ ⟨Vs,by simp[aW,d13,hw],hn⟩):p:=h
def Hm{p:Prop}(h:p:=by
   intro L vs W hL hI;obtain⟨he,v,W2,hx,⟨_,ho⟩,rfl⟩:=hI.done hL;have h11:vs 11=VU VA (eh j.sizes.length m):=he;rw[HP0.o] at h11;have HX:=Vk hx;have HO:=Vk (ho HP0.o);clear hx ho he hI;simp only[h11,List.drop_succ_cons,List.drop_zero];go_wp2;go_ret;exact⟨rfl,HF.o W2 v HX.o HO.o⟩):p:=h
def JD(w:Vl)(c:Nat)(j:bC)(a:dq)(e:Ed)(g:Vr)(hc:JC w c j a){X:Nat->Prop}(hb:eL X w c j a)(hlen:j.sizes.length<=1000000):
  VC prog 93 #[VT (Vq ⟨c,0,Vo⟩),VW (aL e g)] w λx w'=>x=VV (VU VA 0)/\∃a',nl X c w w' {j with sizes:=cG j.sizes (R8 j.sizes e.zkind) ⟨e.zkind,e.zwidth,e.zdepth⟩} a':=by
 have hlt:=hc.lt;obtain⟨W0,hW0⟩:∃W0,w.alloc (.cells (aL e g) 68)=W0:=⟨_,rfl⟩;have HZ:EC W0 w.heap.size (aL e g):=WT;have e0:Ext w W0:=Wo;have hJ:=hc.ext e0;have KI:=Vk (zX W0 a.za a.zc j.sizes.length (bN j.sizes) (Vu _) ((hb.z.below (e0.mono (Nat.le_of_lt hlt))).more (VB (Nat.le_of_lt hlt) e0.size)) (bw (f:=GA) (λ_=>rfl) _) (λi=>(j.sizes.getD i iF).kind==e.zkind) 155 #[VT (Vq ⟨w.heap.size,0,Vo⟩)] (enters_of func155 VZ rfl) (Mr j.sizes W0 w.heap.size e g HZ));have hM:R8 j.sizes e.zkind=(if jE (λi=>(j.sizes.getD i iF).kind==e.zkind) j.sizes.length<0 then(j.sizes.length:Int) else jE (λi=>(j.sizes.getD i iF).kind==e.zkind) j.sizes.length):=rfl;have hP:=Sn j.sizes e.zkind;obtain⟨x,hx⟩:∃x,jE (λi=>(j.sizes.getD i iF).kind==e.zkind) j.sizes.length=x:=⟨_,rfl⟩;rw[hx] at KI hM;obtain⟨m,hm⟩:∃m,R8 j.sizes e.zkind=m:=⟨_,rfl⟩;rw[hm] at hM hP⊢;have KP:=Vk (λ(W:Vl) (h:Ext W0 W)=>LW W a.za a.zc (bN j.sizes) (VU VA e.zkind) (VU VA e.zwidth) (VU VA e.zdepth) m ((hb.z.below ((e0.tr h).mono (Nat.le_of_lt hlt))).more (VB (Nat.le_of_lt hlt) (e0.tr h).size)) (bw (f:=GA) (λ_=>rfl) _) (NS _) rfl Xn);have hpm:cG (bN j.sizes) m [VU VA e.zkind,VU VA e.zwidth,VU VA e.zdepth]=bN (cG j.sizes m ⟨e.zkind,e.zwidth,e.zdepth⟩):=vg GA j.sizes m ⟨e.zkind,e.zwidth,e.zdepth⟩;have HF:=Vk (λ(W1:Vl) (v:Vr) (hx:Ext W0 W1) (ho:W1.ownsRow w.heap.size 59 3 v (cG (bN j.sizes) m [VU VA e.zkind,VU VA e.zwidth,VU VA e.zdepth]).length (cG (bN j.sizes) m [VU VA e.zkind,VU VA e.zwidth,VU VA e.zdepth]).flatten)=>QU (l:=cG j.sizes m ⟨e.zkind,e.zwidth,e.zdepth⟩) hc hb (e0.tr hx) (by rw[hpm] at ho;exact ho));have HL:=Vk (show(bN j.sizes).length=j.sizes.length by exact Vu _);have HP0:=Vk hP;have HJ:=Vk hJ;have HE0:=Vk e0;have HZ':=Vk HZ;have HW:=Vk hW0;have q6:=hJ.cell 6;clear hc hb hJ HZ e0 hpm hx hm hP hlen;by_cases hx0:x<0
 ·have t:decide (x<0)=Vv:=decide_eq_true hx0;rw[if_pos hx0] at hM;have HMM:=Vk hM;clear hM hx0 HW;subst hW0;go_enter func93,ntmps93;go_wp2_with(go_at_call 154;go_must(refine KI.o.mono ?_);rintro e W1 ⟨rfl,hX1⟩;have HX1:=Vk hX1;have q6:=(HJ.o.ext hX1).cell 6;clear hX1)
  clear q6;obtain⟨W0,hW0⟩:∃W0,w.alloc (.cells (aL e g) 68)=W0:=⟨_,rfl⟩;rw[hW0] at HE0 HJ HZ' HX1;simp only[hW0] at KP HF;clear hW0 KI;rw[<-HMM.o];refine wp_region_any VZ (bW 15 (λvs=>⟨#[VT (Vq ⟨c,0,Vo⟩),VW (aL e g),Vs,VT (Vq ⟨w.heap.size,0,Vo⟩),VU VA 0,VU VA m,VU VA 0,VT (Vq ⟨c,0,Vo⟩),VT (Vq ⟨c,0,Vo⟩),VT (Vq ⟨c,6,Vo⟩),VQ a.za j.sizes.length a.zc,.func (.func 155) #[] #[VT (Vq ⟨w.heap.size,0,Vo⟩)],VU VA x,VU VA x,VS Vv,VT (Vq ⟨c,0,Vo⟩),VT (Vq ⟨c,0,Vo⟩),VT (Vq ⟨c,6,Vo⟩),VQ a.za j.sizes.length a.zc,VU VA m,vs 9,vs 0,vs 1,vs 2,vs 3,vs 4,vs 5,vs 6,vs 7,vs 8,vs 10,vs 11,vs 12,vs 13,Vs],[]⟩)
   (λL vs W=>dF W0 (uv c w.heap.size e a.za j.sizes.length a.zc m) (λv W1=>nk v/\(eh j.sizes.length m=0->W1.ownsRow w.heap.size 59 3 v (cG (bN j.sizes) m [VU VA e.zkind,VU VA e.zwidth,VU VA e.zdepth]).length (cG (bN j.sizes) m [VU VA e.zkind,VU VA e.zwidth,VU VA e.zdepth]).flatten)) (VU VA (eh j.sizes.length m)) ⟨c,6,Vo⟩ 8 [4,5,7] L vs W) VZ ?_ ?_ (λ_=>Vs) _ (dF.start (HX1.o.tr (Ext.dr _))))
  ·exact GH
  ·exact Hm
 ·have t:decide (x<0)=Vp:=decide_eq_false hx0;rw[if_neg hx0] at hM;have HMM:=Vk hM;clear hM hx0 HW;subst hW0;go_enter func93,ntmps93;go_wp2_with(go_at_call 154;go_must(refine KI.o.mono ?_);rintro e W1 ⟨rfl,hX1⟩;have HX1:=Vk hX1;have q6:=(HJ.o.ext hX1).cell 6;clear hX1)
  clear q6;obtain⟨W0,hW0⟩:∃W0,w.alloc (.cells (aL e g) 68)=W0:=⟨_,rfl⟩;rw[hW0] at HE0 HJ HZ' HX1;simp only[hW0] at KP HF;clear hW0 KI;rw[<-HMM.o];refine wp_region_any VZ (bW 15 (λvs=>⟨#[VT (Vq ⟨c,0,Vo⟩),VW (aL e g),Vs,VT (Vq ⟨w.heap.size,0,Vo⟩),VU VA 0,VU VA m,VU VA 0,VT (Vq ⟨c,0,Vo⟩),VT (Vq ⟨c,0,Vo⟩),VT (Vq ⟨c,6,Vo⟩),VQ a.za j.sizes.length a.zc,.func (.func 155) #[] #[VT (Vq ⟨w.heap.size,0,Vo⟩)],VU VA m,VU VA m,VS Vp,Vs,Vs,Vs,Vs,Vs,vs 9,vs 0,vs 1,vs 2,vs 3,vs 4,vs 5,vs 6,vs 7,vs 8,vs 10,vs 11,vs 12,vs 13,Vs],[]⟩)
   (λL vs W=>dF W0 (uv c w.heap.size e a.za j.sizes.length a.zc m) (λv W1=>nk v/\(eh j.sizes.length m=0->W1.ownsRow w.heap.size 59 3 v (cG (bN j.sizes) m [VU VA e.zkind,VU VA e.zwidth,VU VA e.zdepth]).length (cG (bN j.sizes) m [VU VA e.zkind,VU VA e.zwidth,VU VA e.zdepth]).flatten)) (VU VA (eh j.sizes.length m)) ⟨c,6,Vo⟩ 8 [4,5,7] L vs W) VZ ?_ ?_ (λ_=>Vs) _ (dF.start (HX1.o.tr (Ext.dr _))))
  ·exact GH
  ·exact Hm
end
section
open Kp
attribute [local go_sem] aS gO ia eV
def pT(c b:Nat)(x y:Int):Nat->Vr
 |2=> VT (Vq ⟨b,1,Vo⟩)
 |3=> VU VA x
 |4=> VT (Vq ⟨b,35,Vo⟩)
 |5=> VU VA y
 |7=> VT (Vq ⟨c,2,Vo⟩)
 |8=>Vs
 |10=> VT (Vq ⟨c,3,Vo⟩)
 |_=> VT (Vq ⟨c,0,Vo⟩)
def O5(w:Vl)(c:Nat)(j:bC)(a:dq)(e:Ed)(g:Vr)(hc:JC w c j a){X:Nat->Prop}(hb:eL X w c j a):
  VC prog 89 #[VT (Vq ⟨c,0,Vo⟩),VW (aL e g)] w λx w'=>x=VV (VU VA 0)/\nl X c w w' {j with origin:=e.index,spacing:=e.number} a:=by
 have hlt:=hc.lt;obtain⟨W0,hW0⟩:∃W0,w.alloc (.cells (aL e g) 68)=W0:=⟨_,rfl⟩;have HZ:EC W0 w.heap.size (aL e g):=WT;have e0:Ext w W0:=Wo;have hJ:=hc.ext e0;have HF:=Vk (λ(q:Nat)=>(show nl X c w ((((W0.drewN q).setCell ⟨c,2,Vo⟩ (VU VA e.index)).setCell ⟨c,3,Vo⟩ (VU VA e.number))) {j with origin:=e.index,spacing:=e.number} a from by
  have h0:fj c w (W0.drewN q):=fj.ext (below_drewN e0 q) hlt;have h1:=(h0.put 2 (VU VA e.index)).put 3 (VU VA e.number);have hJq:JC (W0.drewN q) c j a:=hJ.ext (below_drewN (Below.refl _ _) q);have hp:JC ((W0.drewN q).setCell ⟨c,2,Vo⟩ (VU VA e.index)) c {j with origin:=e.index} a:=hJq.put _ rfl;refine⟨h1,hp.put _ rfl,λW hA=> ?_⟩;have h2:=hb.to hlt h1.below hA;exact⟨h2.p,h2.u,h2.o,h2.z,h2.b,h2.l,h2.s⟩))
 have k2:=hJ.cell 2;have k3:=hJ.cell 3;have f2:=hJ.frozen 2;have f3:=hJ.frozen 3;have z1:=HZ.cell 1;have z2:=HZ.cell 35;have HW:=Vk hW0;clear hW0 hc hb hJ;go_enter func89,ntmps89;go_wp2_with fail
 rw[HW.o];refine wp_region_any VZ (bW 11 (λvs=>⟨#[VT (Vq ⟨c,0,Vo⟩),VW (aL e g),Vs,VT (Vq ⟨w.heap.size,0,Vo⟩),VU VA 0,vs 0,vs 1,vs 2,vs 3,vs 4,vs 5,vs 6,vs 7,vs 9,vs 10],[]⟩)
  (λL vs W=>(∀k,L k=Vv->vs k=pT c w.heap.size e.index e.number k)/\W=if L 8=Vv then W0.drew.setCell ⟨c,2,Vo⟩ (VU VA e.index) else W0.drew) VZ ?step ?tail (λ_=>Vs) _ ⟨λk h=>by simp at h,V5⟩)
 case step=>
  intro i L vs W hi hL hI hd;obtain⟨hv,hW⟩:=hI;have hE:EC W w.heap.size (aL e g):=by
   rw[hW];split
   ·exact EC.dx (w:=W0.drew) HZ (by show w.heap.size≠c;omega) _
   ·exact HZ
  have y1:=hE.cell 1;have y2:=hE.cell 35;have hw8:∀i,i≠8->(W=if fx L i 8=Vv then W0.drew.setCell ⟨c,2,Vo⟩ (VU VA e.index) else W0.drew):=by
   intro i h;have:fx L i 8=L 8:=by unfold fx;rw[if_neg (Ne.symm h)]
   rw[this];exact hW
  have HWh:=Vk hW;have H8:=Vk hw8;clear hE hW hw8;rcases(show i=0\/i=1\/i=2\/i=3\/i=4\/i=5\/i=6\/i=7\/i=8\/i=9\/i=10 by omega) with rfl|rfl|rfl|rfl|rfl|rfl|rfl|rfl|rfl|rfl|rfl<;>clear hi
  ·refine Vx rfl (λK hK=> ?_);go_simp;exact hK _ _ ⟨pT c w.heap.size e.index e.number 0,by simp[aW,pT],ij hv rfl,H8.o 0 V0⟩
  ·refine Vx rfl (λK hK=> ?_);go_simp;exact hK _ _ ⟨pT c w.heap.size e.index e.number 1,by simp[aW,pT],ij hv rfl,H8.o 1 V0⟩
  ·refine Vx rfl (λK hK=> ?_);go_simp;exact hK _ _ ⟨pT c w.heap.size e.index e.number 2,by simp[aW,pT],ij hv rfl,H8.o 2 V0⟩
  ·refine Vx rfl (λK hK=> ?_);have d2:=hv 2 (hd 2 VZ);simp only[pT] at d2;go_simp;exact hK _ _ ⟨pT c w.heap.size e.index e.number 3,by simp[aW,pT,d2],ij hv rfl,H8.o 3 V0⟩
  ·refine Vx rfl (λK hK=> ?_);go_simp;exact hK _ _ ⟨pT c w.heap.size e.index e.number 4,by simp[aW,pT],ij hv rfl,H8.o 4 V0⟩
  ·refine Vx rfl (λK hK=> ?_);have d4:=hv 4 (hd 4 VZ);simp only[pT] at d4;go_simp;exact hK _ _ ⟨pT c w.heap.size e.index e.number 5,by simp[aW,pT,d4],ij hv rfl,H8.o 5 V0⟩
  ·refine Vx rfl (λK hK=> ?_);have d0:=hv 0 (hd 0 VZ);simp only[pT] at d0;go_simp;exact hK _ _ ⟨pT c w.heap.size e.index e.number 6,by simp[aW,pT,d0],ij hv rfl,H8.o 6 V0⟩
  ·refine Vx rfl (λK hK=> ?_);have d6:=hv 6 (hd 6 VZ);simp only[pT] at d6;go_simp;exact hK _ _ ⟨pT c w.heap.size e.index e.number 7,by simp[aW,pT,d6],ij hv rfl,H8.o 7 V0⟩
  ·refine Vx rfl (λK hK=> ?_);have d3:=hv 3 (hd 3 VZ);simp only[pT] at d3;have d7:=hv 7 (hd 7 VZ);simp only[pT] at d7;have hW:=HWh.o;rw[if_neg (by rw[hL];decide)] at hW;subst hW;clear HWh H8;have m2:W0.drew.cell? ⟨c,2,Vo⟩=_:=k2;have n2:W0.drew.frozen? ⟨c,2,Vo⟩=Vp:=f2;go_simp;exact hK _ _ ⟨Vs,by simp[aW,d3,d7];rfl,ij hv rfl,by rw[if_pos (show fx L 8 8=Vv by simp[fx])];rfl⟩
  ·refine Vx rfl (λK hK=> ?_);have d1:=hv 1 (hd 1 VZ);simp only[pT] at d1;go_simp;exact hK _ _ ⟨pT c w.heap.size e.index e.number 9,by simp[aW,pT,d1],ij hv rfl,H8.o 9 V0⟩
  ·refine Vx rfl (λK hK=> ?_);have d9:=hv 9 (hd 9 VZ);simp only[pT] at d9;go_simp;exact hK _ _ ⟨pT c w.heap.size e.index e.number 10,by simp[aW,pT,d9],ij hv rfl,H8.o 10 V0⟩
 case tail=>
  intro L vs W hL hI;obtain⟨hv,hW⟩:=hI;rw[if_pos (hL 8 V0)] at hW;subst hW;have d5:=hv 5 (hL 5 V0);have d10:=hv 10 (hL 10 V0);simp only[pT] at d5 d10;have m3:W0.drew.cell? ⟨c,3,Vo⟩=_:=k3;have n3:W0.drew.frozen? ⟨c,3,Vo⟩=Vp:=f3;simp only[d5,d10,List.drop_succ_cons,List.drop_zero];go_wp2;go_ret;exact⟨rfl,HF.o 1⟩
end
section
open Kp
attribute [local go_sem] bF jR jN jU jK jI jO jP jM jL jQ fK fE fm fl ft
attribute [local go_sem] aS gO ia kp kv kE km kF kL kD ki fZ fW fX fV gx gy gw fD fu fG fF fL eQ gm gH gz gh gB gG gi gE iu gY gX iv eV gj
def qS(F O:Nat)(X:Vr)(m:Int)(c b:Nat)(A:Option VM)(n cap:Nat):Nat->Vr
 |0=> VT (Vq ⟨c,0,Vo⟩)
 |1=> VT (Vq ⟨c,0,Vo⟩)
 |2=> VT (Vq ⟨c,0,Vo⟩)
 |3=> VT (Vq ⟨c,F,Vo⟩)
 |4=> VQ A n cap
 |5=> VT (Vq ⟨b,1,Vo⟩)
 |6=> VU VA m
 |7=> VT (Vq ⟨b,O,Vo⟩)
 |8=>X
 |12=> VU VA (eh n m)
 |13=> VT (Vq ⟨c,0,Vo⟩)
 |14=> VT (Vq ⟨c,F,Vo⟩)
 |_=>Vs
def zL{p:Prop}(h:p:=by
  intro i L vs W hi hL hI hd;have HI:=Vk hI;rcases(show i=0\/i=1\/i=2\/i=3\/i=4\/i=5\/i=6\/i=7\/i=8\/i=9\/i=10\/i=11\/i=12\/i=13\/i=14\/i=15 by omega) with rfl|rfl|rfl|rfl|rfl|rfl|rfl|rfl|rfl|rfl|rfl|rfl|rfl|rfl|rfl|rfl<;>clear hi hI
  ·exact a0a
  ·exact a0a
  ·refine Vx rfl (λK hK=> ?_);have d1:=HI.o.vals 1 (hd 1 VZ) V0;simp only[qS] at d1;go_simp;exact hK _ _ ⟨_,by simp[aW,qS,d1],HI.o.pure V0 rfl⟩
  ·refine Vx rfl (λK hK=> ?_);have d2:=HI.o.vals 2 (hd 2 VZ) V0;simp only[qS] at d2;go_simp;exact hK _ _ ⟨_,by simp[aW,qS,d2],HI.o.pure V0 rfl⟩
  ·refine Vx rfl (λK hK=> ?_);have d3:=HI.o.vals 3 (hd 3 VZ) V0;simp only[qS] at d3;have hx:=HI.o.load (k:=4) V0 hL;have mm:=λi=>(HJ.o.ext hx).cell i
   clear hx;go_simp;exact hK _ _ ⟨_,by simp[aW,qS,d3],HI.o.pure V0 rfl⟩
  ·exact a0a
  ·refine Vx rfl (λK hK=> ?_);have d5:=HI.o.vals 5 (hd 5 VZ) V0;simp only[qS] at d5;have hx:=HI.o.load (k:=6) V0 hL;have mm:=(HZ'.o.ext hx).cell 1;clear hx;go_simp;exact hK _ _ ⟨_,by simp[aW,qS,d5],HI.o.pure V0 rfl⟩
  ·exact a0a
  ·refine Vx rfl (λK hK=> ?_);have d7:=HI.o.vals 7 (hd 7 VZ) V0;simp only[qS] at d7;have hx:=HI.o.load (k:=8) V0 hL;have m1:=λi=>(HZ'.o.ext hx).cell i
   clear hx;go_simp;exact hK _ _ ⟨_,by simp[aW,qS,d7],HI.o.pure V0 rfl⟩
  ·refine Vx rfl (λK hK=> ?_);have d4:=HI.o.vals 4 (hd 4 VZ) V0;simp only[qS] at d4;have d6:=HI.o.vals 6 (hd 6 VZ) V0;simp only[qS] at d6;have d8:=HI.o.vals 8 (hd 8 VZ) V0;simp only[qS] at d8;have hx:=Vk (HI.o.ext hL);go_simp;rw[<-HL.o];refine(KP.o _ hx.o).mono ?_;rintro x W1 ⟨v,hsl,rfl,ho,hX⟩;exact hK _ _ ⟨_,by simp[aW,d4,d6,d8,HL.o],HI.o.call hL (by intro k hk;simp at hk;rcases hk with rfl|rfl|rfl<;>exact hd _ VZ) hX ⟨hsl,λh=>dz (ho (HL.o.symm▸h)) (VB HE0.o.size hx.o.size)⟩⟩
  ·refine Vx rfl (λK hK=> ?_);go_simp;exact hK _ _ ⟨vs 9,by simp[aW],HI.o.move hL (hd 9 VZ)⟩
  ·refine Vx rfl (λK hK=> ?_);obtain⟨v,ht,hn⟩:=HI.o.first hL (hd 10 VZ);exact Z7
  ·refine Vx rfl (λK hK=> ?_);obtain⟨v,ht⟩:=HI.o.Uq (hd 10 VZ);go_simp;exact hK _ _ ⟨_,by simp[aW,qS,ht],HI.o.pure V0 rfl⟩
  ·refine Vx rfl (λK hK=> ?_);have d0:=HI.o.vals 0 (hd 0 VZ) V0;simp only[qS] at d0;go_simp;exact hK _ _ ⟨_,by simp[aW,qS,d0],HI.o.pure V0 rfl⟩
  ·refine Vx rfl (λK hK=> ?_);have d13:=HI.o.vals 13 (hd 13 VZ) V0;simp only[qS] at d13;go_simp;exact hK _ _ ⟨_,by simp[aW,qS,d13],HI.o.pure V0 rfl⟩
  ·refine Vx rfl (λK hK=> ?_);have d14:=HI.o.vals 14 (hd 14 VZ) V0;simp only[qS] at d14;obtain⟨hx,⟨⟨A1,n1,c1,hv⟩,_⟩,hn⟩:=HI.o.store hL (hd 11 VZ) rfl;rw[hv] at hn;have hw:vs 11=VQ A1 n1 c1:=hv;clear hv;have mm:=λi=>(HJ.o.ext hx).cell i
   have nn:=λi=>(HJ.o.ext hx).frozen i
   clear hx;go_simp;exact hK _ _ ⟨Vs,by simp[aW,d14,hw],hn⟩):p:=h
def yY{p:Prop}(h:p:=by
  intro L vs W hL hI;obtain⟨he,v,W1,hx,⟨_,ho⟩,rfl⟩:=hI.done hL;have h12:=he;simp only[Nat.reduceAdd,qS] at h12;have HX:=Vk hx;have HO:=Vk ho;clear hx ho he hI;simp only[h12,List.drop_succ_cons,List.drop_zero];go_wp2;go_ret;exact⟨rfl,HBl.o W1 v HX.o,λh=>HF.o W1 v HX.o (HO.o h)⟩):p:=h
def PZ(w:Vl)(c:Nat)(j:bC)(a:dq)(e:Ed)(g:Vr)(hc:JC w c j a){X:Nat->Prop}(hb:eL X w c j a)(hlen:j.openings.length<=1000000):
  VC prog 91 #[VT (Vq ⟨c,0,Vo⟩),VW (aL e g)] w λx w'=>x=VV (VU VA (eh j.openings.length e.index))/\fj c w w'/\(eh j.openings.length e.index=0->∃a',nl X c w w' {j with openings:=cG j.openings e.index ⟨e.oside,e.oleft,e.oright,e.olow,e.ohigh⟩} a'):=by
 have hlt:=hc.lt;obtain⟨W0,hW0⟩:∃W0,w.alloc (.cells (aL e g) 68)=W0:=⟨_,rfl⟩;have HZ:EC W0 w.heap.size (aL e g):=WT;have e0:Ext w W0:=Wo;have hJ:=hc.ext e0;have KP:=Vk (λ(W:Vl) (h:Ext W0 W)=>MA W a.oa a.oc (bD j.openings) (VU VA e.oside) (VR (tx e.oleft)) (VR (tx e.oright)) (VR (tx e.olow)) (VR (tx e.ohigh)) e.index ((hb.o.below ((e0.tr h).mono (Nat.le_of_lt hlt))).more (VB (Nat.le_of_lt hlt) (e0.tr h).size)) (mH _) (Nv _) rfl Xn);have hpm:cG (bD j.openings) e.index [VU VA e.oside,VR (tx e.oleft),VR (tx e.oright),VR (tx e.olow),VR (tx e.ohigh)]=bD (cG j.openings e.index ⟨e.oside,e.oleft,e.oright,e.olow,e.ohigh⟩):=vg wm j.openings e.index ⟨e.oside,e.oleft,e.oright,e.olow,e.ohigh⟩;have HF:=Vk (λ(W1:Vl) (v:Vr) (hx:Ext W0 W1) (ho:W1.ownsRow w.heap.size 57 5 v (cG (bD j.openings) e.index [VU VA e.oside,VR (tx e.oleft),VR (tx e.oright),VR (tx e.olow),VR (tx e.ohigh)]).length (cG (bD j.openings) e.index [VU VA e.oside,VR (tx e.oleft),VR (tx e.oright),VR (tx e.olow),VR (tx e.ohigh)]).flatten)=>Rf (l:=cG j.openings e.index ⟨e.oside,e.oleft,e.oright,e.olow,e.ohigh⟩) hc hb (e0.tr hx) (by rw[hpm] at ho;exact ho));have HBl:=Vk (λ(W1:Vl) (v:Vr) (hx:Ext W0 W1)=>((fj.ext (e0.tr hx) hlt).put 5 v:fj c w (W1.setCell ⟨c,5,Vo⟩ v)));have HL:=Vk (show(bD j.openings).length=j.openings.length by exact Vu _);have HJ:=Vk hJ;have HE0:=Vk e0;have HZ':=Vk HZ;have HW:=Vk hW0;clear hW0 hc hb hJ HZ e0 hpm;go_enter func91,ntmps91;go_wp2_with fail
 rw[HW.o];refine wp_region_any VZ (bW 16 (λvs=>⟨#[VT (Vq ⟨c,0,Vo⟩),VW (aL e g),Vs,VT (Vq ⟨w.heap.size,0,Vo⟩),VU VA 0,vs 10,vs 0,vs 1,vs 2,vs 3,vs 4,vs 5,vs 6,vs 7,vs 8,vs 9,vs 11,vs 12,vs 13,vs 14,Vs],[]⟩)
  (λL vs W=>dF W0 (qS 5 9 (VW #[VU VA e.oside,VR (tx e.oleft),VR (tx e.oright),VR (tx e.olow),VR (tx e.ohigh)]) e.index c w.heap.size a.oa j.openings.length a.oc) (λv W1=>nk v/\(eh j.openings.length e.index=0->W1.ownsRow w.heap.size 57 5 v (cG (bD j.openings) e.index [VU VA e.oside,VR (tx e.oleft),VR (tx e.oright),VR (tx e.olow),VR (tx e.ohigh)]).length (cG (bD j.openings) e.index [VU VA e.oside,VR (tx e.oleft),VR (tx e.oright),VR (tx e.olow),VR (tx e.ohigh)]).flatten)) (VU VA (eh j.openings.length e.index)) ⟨c,5,Vo⟩ 9 [4,6,8] L vs W) VZ ?_ ?_ (λ_=>Vs) _ (dF.start (Ext.dr W0)))
 ·exact zL
 ·exact yY
end
section
open Kp
attribute [local go_sem] bF jR jN jU jK jI jO jP jM jL jQ fK fE fm fl ft
attribute [local go_sem] aS gO ia kp kv kE km kF kL kD ki fZ fW fX fV gx gy gw fD fu fG fF fL eQ gm gH gz gh gB gG gi gE iu gY gX iv eV gj
def O2(w:Vl)(c:Nat)(j:bC)(a:dq)(e:Ed)(ga:Option VM)(gc:Nat)(hc:JC w c j a){X:Nat->Prop}(hb:eL X w c j a)(hlen:j.bars.length<=1000000)(hg:bK 2 w c ga gc (di e.gaps))(hgv:∀W,Jm X c w W->bK 2 W W.heap.size ga gc (di e.gaps)):
  VC prog 94 #[VT (Vq ⟨c,0,Vo⟩),VW (aL e (VQ ga e.gaps.length gc))] w λx w'=>x=VV (VU VA (eh j.bars.length e.index))/\fj c w w'/\(eh j.bars.length e.index=0->∃a',nl X c w w' {j with bars:=cG j.bars e.index ⟨e.bwidth,e.bdepth,e.blength,e.bcount,e.bcost,e.gaps⟩} a'):=by
 have hlt:=hc.lt;obtain⟨rows,hrr,hrs,hrv⟩:=rF hb (Nat.le_of_lt hc.lt);have HB:=Vk hrr;obtain⟨W0,hW0⟩:∃W0,w.alloc (.cells (aL e (VQ ga e.gaps.length gc)) 68)=W0:=⟨_,rfl⟩;have HZ:EC W0 w.heap.size (aL e (VQ ga e.gaps.length gc)):=WT;have e0:Ext w W0:=Wo;have hJ:=hc.ext e0;have KP:=Vk (λ(W:Vl) (h:Ext W0 W)=>Ms W a.ba a.bc rows (VU VA e.bwidth) (VU VA e.bdepth) (VU VA e.blength) (VU VA e.bcount) (VU VA e.bcost) (VQ ga e.gaps.length gc) e.index ((hrs.below ((e0.tr h).mono (Nat.le_of_lt hlt))).more (VB (Nat.le_of_lt hlt) (e0.tr h).size)) hrr.wide hrr.one rfl (by rw[hrr.1];exact hlen));have HF:=Vk (λ(W1:Vl) (v:Vr) (hx:Ext W0 W1) (ho:W1.ownsRow w.heap.size 62 6 v (cG rows e.index [VU VA e.bwidth,VU VA e.bdepth,VU VA e.blength,VU VA e.bcount,VU VA e.bcost,VQ ga e.gaps.length gc]).length (cG rows e.index [VU VA e.bwidth,VU VA e.bdepth,VU VA e.blength,VU VA e.bcount,VU VA e.bcost,VQ ga e.gaps.length gc]).flatten)=>Q4 hc hb (e0.tr hx) (hrr.put e.index ⟨e.bwidth,e.bdepth,e.blength,e.bcount,e.bcost,e.gaps⟩ ga gc hg) (λW hO=>(hrv W hO).put e.index ⟨e.bwidth,e.bdepth,e.blength,e.bcount,e.bcost,e.gaps⟩ ga gc (hgv W hO)) ho);have HBl:=Vk (λ(W1:Vl) (v:Vr) (hx:Ext W0 W1)=>((fj.ext (e0.tr hx) hlt).put 7 v:fj c w (W1.setCell ⟨c,7,Vo⟩ v)));have HL:=Vk (show rows.length=j.bars.length by exact hrr.1);have HJ:=Vk hJ;have HE0:=Vk e0;have HZ':=Vk HZ;have HW:=Vk hW0;clear hW0 hc hb hJ HZ e0 hrr hrs hg hrv hgv;go_enter func94,ntmps94;go_wp2_with fail
 rw[HW.o];refine wp_region_any VZ (bW 16 (λvs=>⟨#[VT (Vq ⟨c,0,Vo⟩),VW (aL e (VQ ga e.gaps.length gc)),Vs,VT (Vq ⟨w.heap.size,0,Vo⟩),VU VA 0,vs 10,vs 0,vs 1,vs 2,vs 3,vs 4,vs 5,vs 6,vs 7,vs 8,vs 9,vs 11,vs 12,vs 13,vs 14,Vs],[]⟩)
  (λL vs W=>dF W0 (qS 7 17 (VW #[VU VA e.bwidth,VU VA e.bdepth,VU VA e.blength,VU VA e.bcount,VU VA e.bcost,VQ ga e.gaps.length gc]) e.index c w.heap.size a.ba j.bars.length a.bc) (λv W1=>nk v/\(eh j.bars.length e.index=0->W1.ownsRow w.heap.size 62 6 v (cG rows e.index [VU VA e.bwidth,VU VA e.bdepth,VU VA e.blength,VU VA e.bcount,VU VA e.bcost,VQ ga e.gaps.length gc]).length (cG rows e.index [VU VA e.bwidth,VU VA e.bdepth,VU VA e.blength,VU VA e.bcount,VU VA e.bcost,VQ ga e.gaps.length gc]).flatten)) (VU VA (eh j.bars.length e.index)) ⟨c,7,Vo⟩ 9 [4,6,8] L vs W) VZ ?_ ?_ (λ_=>Vs) _ (dF.start (Ext.dr W0)))
 ·exact zL
 ·exact yY
end
section
open Kp
attribute [local go_sem] bF jR jN jU jK jI jO jP jM jL jQ fK fE fm fl ft
attribute [local go_sem] aS gO ia kp kv kE km kF kL kD ki fZ fW fX fV gx gy gw fD fu fG fF fL eQ gm gH gz gh gB gG gi gE iu gY gX iv eV gj
def OH(w:Vl)(c:Nat)(j:bC)(a:dq)(e:Ed)(g:Vr)(hc:JC w c j a){X:Nat->Prop}(hb:eL X w c j a)(hlen:j.aH.length<=1000000):
  VC prog 98 #[VT (Vq ⟨c,0,Vo⟩),VW (aL e g)] w λx w'=>x=VV (VU VA (eh j.aH.length e.index))/\fj c w w'/\(eh j.aH.length e.index=0->∃a',nl X c w w' {j with aH:=cG j.aH e.index ⟨e.lkind,e.lside,e.lweight⟩} a'):=by
 have hlt:=hc.lt;obtain⟨W0,hW0⟩:∃W0,w.alloc (.cells (aL e g) 68)=W0:=⟨_,rfl⟩;have HZ:EC W0 w.heap.size (aL e g):=WT;have e0:Ext w W0:=Wo;have hJ:=hc.ext e0;have KP:=Vk (λ(W:Vl) (h:Ext W0 W)=>N7 W a.la a.lc (bU j.aH) (VU VA e.lkind) (VU VA e.lside) (VR (tx e.lweight)) e.index ((hb.l.below ((e0.tr h).mono (Nat.le_of_lt hlt))).more (VB (Nat.le_of_lt hlt) (e0.tr h).size)) (oF _) (Kn _) rfl Xn);have hpm:cG (bU j.aH) e.index [VU VA e.lkind,VU VA e.lside,VR (tx e.lweight)]=bU (cG j.aH e.index ⟨e.lkind,e.lside,e.lweight⟩):=vg Rs j.aH e.index ⟨e.lkind,e.lside,e.lweight⟩;have HF:=Vk (λ(W1:Vl) (v:Vr) (hx:Ext W0 W1) (ho:W1.ownsRow w.heap.size 64 3 v (cG (bU j.aH) e.index [VU VA e.lkind,VU VA e.lside,VR (tx e.lweight)]).length (cG (bU j.aH) e.index [VU VA e.lkind,VU VA e.lside,VR (tx e.lweight)]).flatten)=>Rd (l:=cG j.aH e.index ⟨e.lkind,e.lside,e.lweight⟩) hc hb (e0.tr hx) (by rw[hpm] at ho;exact ho));have HBl:=Vk (λ(W1:Vl) (v:Vr) (hx:Ext W0 W1)=>((fj.ext (e0.tr hx) hlt).put 13 v:fj c w (W1.setCell ⟨c,13,Vo⟩ v)));have HL:=Vk (show(bU j.aH).length=j.aH.length by exact Vu _);have HJ:=Vk hJ;have HE0:=Vk e0;have HZ':=Vk HZ;have HW:=Vk hW0;clear hW0 hc hb hJ HZ e0 hpm;go_enter func98,ntmps98;go_wp2_with fail
 rw[HW.o];refine wp_region_any VZ (bW 16 (λvs=>⟨#[VT (Vq ⟨c,0,Vo⟩),VW (aL e g),Vs,VT (Vq ⟨w.heap.size,0,Vo⟩),VU VA 0,vs 10,vs 0,vs 1,vs 2,vs 3,vs 4,vs 5,vs 6,vs 7,vs 8,vs 9,vs 11,vs 12,vs 13,vs 14,Vs],[]⟩)
  (λL vs W=>dF W0 (qS 13 23 (VW #[VU VA e.lkind,VU VA e.lside,VR (tx e.lweight)]) e.index c w.heap.size a.la j.aH.length a.lc) (λv W1=>nk v/\(eh j.aH.length e.index=0->W1.ownsRow w.heap.size 64 3 v (cG (bU j.aH) e.index [VU VA e.lkind,VU VA e.lside,VR (tx e.lweight)]).length (cG (bU j.aH) e.index [VU VA e.lkind,VU VA e.lside,VR (tx e.lweight)]).flatten)) (VU VA (eh j.aH.length e.index)) ⟨c,13,Vo⟩ 9 [4,6,8] L vs W) VZ ?_ ?_ (λ_=>Vs) _ (dF.start (Ext.dr W0)))
 ·exact zL
 ·exact yY
end
end Go.Proofs.YtmliacdegmklaaaGreatDoor
