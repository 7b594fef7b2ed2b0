/- ChangeOnly of kingpostlaw58: part 20 of its proof (merged and shortened by program). -/
import Derived.Test.YtnpihidbkhehjaaGreatDoorM19
set_option linter.unusedVariables false
set_option linter.unusedSimpArgs false
set_option linter.defProp false
set_option maxHeartbeats 8000000
set_option maxRecDepth 100000
open Go.RowKit Go.Shelf Go.Proofs.Tryz
open Array renaming getElem?_eq_some_iff→Od
open Bool renaming false→N1,true→Oc
open Go renaming World→NY,Value→N2,undef→N7,wpOp_step→Ob,Calls→Of,maxLen→Ol,TypeId→Oo
open Go.AllReady renaming cons→Oj,nil→Oq
open Go.IntKind renaming i64→Oe
open Go.IntWalk renaming i64_in→Om
open Go.Lib renaming hid→NW
open Go.RowKit renaming intOf→Oh,Below→On
open Go.World renaming size_alloc→Oi
open List renaming getD_eq_getElem?_getD→N8,length_map→N9,getElem?_eq_getElem→Oa
open Nat renaming le_refl→NZ,mul_comm→Og,le_trans→Ok
open Option renaming none→N0,some→N3
open Go.Proofs.YtnpihidbkhehjaaGreatDoor
namespace Go.Proofs.YtnpihidbkhehjaaGreatDoor
section
open Kp
structure du where
 name:List UInt8
 rings:List (List Sd)
 origin:Int
 spacing:Int
 purlins:List Int
 openings:List jD
 sizes:List Sz
 bars:List Br
 kerf:Int
 tile:Tl
 aq:List Ld
 spans:List Aw
structure fm where
 pa:Option Addr
 pc:Nat
 ua:Option Addr
 uc:Nat
 oa:Option Addr
 oc:Nat
 za:Option Addr
 zc:Nat
 ba:Option Addr
 bc:Nat
 la:Option Addr
 lc:Nat
 sa:Option Addr
 sc:Nat
def dy(j:du)(a:fm):Array N2:=#[.string (tx j.name),.slice a.pa j.rings.length a.pc,.int .i64 j.origin,.int .i64 j.spacing,.slice a.ua j.purlins.length a.uc,.slice a.oa j.openings.length a.oc,.slice a.za j.sizes.length a.zc,.slice a.ba j.bars.length a.bc,.int .i64 j.kerf,.int .i64 j.tile.width,.int .i64 j.tile.length,.int .i64 j.tile.lap,.int .i64 j.tile.tail,.slice a.la j.aq.length a.lc,.slice a.sa j.spans.length a.sc]
theorem PU(j:du)(a:fm):(dy j a).size=15:=rfl
theorem Qz(j:du)(a:fm):(dy j a)[0]?=N3 (.string (tx j.name)):=rfl
theorem QN(j:du)(a:fm):(dy j a)[1]?=N3 (.slice a.pa j.rings.length a.pc):=rfl
theorem QK(j:du)(a:fm):(dy j a)[2]?=N3 (.int .i64 j.origin):=rfl
theorem QA(j:du)(a:fm):(dy j a)[3]?=N3 (.int .i64 j.spacing):=rfl
theorem QF(j:du)(a:fm):(dy j a)[4]?=N3 (.slice a.ua j.purlins.length a.uc):=rfl
theorem QG(j:du)(a:fm):(dy j a)[5]?=N3 (.slice a.oa j.openings.length a.oc):=rfl
theorem QM(j:du)(a:fm):(dy j a)[6]?=N3 (.slice a.za j.sizes.length a.zc):=rfl
theorem Qx(j:du)(a:fm):(dy j a)[7]?=N3 (.slice a.ba j.bars.length a.bc):=rfl
theorem QE(j:du)(a:fm):(dy j a)[8]?=N3 (.int .i64 j.kerf):=rfl
theorem QI(j:du)(a:fm):(dy j a)[9]?=N3 (.int .i64 j.tile.width):=rfl
theorem Qo(j:du)(a:fm):(dy j a)[10]?=N3 (.int .i64 j.tile.length):=rfl
theorem Qd(j:du)(a:fm):(dy j a)[11]?=N3 (.int .i64 j.tile.lap):=rfl
theorem Qi(j:du)(a:fm):(dy j a)[12]?=N3 (.int .i64 j.tile.tail):=rfl
theorem Qt(j:du)(a:fm):(dy j a)[13]?=N3 (.slice a.la j.aq.length a.lc):=rfl
theorem Qq(j:du)(a:fm):(dy j a)[14]?=N3 (.slice a.sa j.spans.length a.sc):=rfl
attribute [local go_sem] PU Qz QN QK QA QF QG QM Qx QE QI Qo Qd Qi Qt Qq
def JC(w:NY)(c:Nat)(j:du)(a:fm):Prop:=w.heap[c]?=N3 (.cells (dy j a) 34 (0,0))
theorem JC.ext{w w':NY}{c:Nat}{j:du}{a:fm}(h:JC w c j a)(hx:Ext w w'):JC w' c j a:=(hx.block c (Od.1 h).1).trans h
theorem JC.lt{w:NY}{c:Nat}{j:du}{a:fm}(h:JC w c j a):c<w.heap.size:=(Od.1 h).1
theorem JC.cell{w:NY}{c:Nat}{j:du}{a:fm}(h:JC w c j a)(i:Nat):w.cell? ⟨c,i,N0⟩=(dy j a)[i]?:=by unfold JC at h;simp[World.cell?,h]
theorem JC.frozen{w:NY}{c:Nat}{j:du}{a:fm}(h:JC w c j a)(i:Nat):w.frozen? ⟨c,i,N0⟩=N1:=by unfold JC at h;simp[World.frozen?,h]
structure bh(w:NY)(B:Nat)(j:du)(a:fm):Prop where
 p:dR w B a.pa a.pc j.rings
 u:bC 1 w B a.ua a.uc (bN j.purlins)
 o:bC 5 w B a.oa a.oc (aO j.openings)
 z:bC 3 w B a.za a.zc (bt j.sizes)
 b:fo w B a.ba a.bc j.bars
 l:bC 3 w B a.la a.lc (bD j.aq)
 s:bC 5 w B a.sa a.sc (aX j.spans)
theorem bh.below{w w':NY}{B:Nat}{j:du}{a:fm}(h:bh w B j a)(hb:On B w w'):bh w' B j a:=
 ⟨h.p.below hb,h.u.below hb,h.o.below hb,h.z.below hb,h.b.below hb,h.l.below hb,h.s.below hb⟩
theorem bh.more{w:NY}{B B':Nat}{j:du}{a:fm}(h:bh w B j a)(hb:B≤B'):bh w B' j a:=
 ⟨h.p.more hb,h.u.more hb,h.o.more hb,h.z.more hb,h.b.more hb,h.l.more hb,h.s.more hb⟩
theorem bh.grow{w w':NY}{j:du}{a:fm}(h:bh w w.heap.size j a)(hx:Ext w w'):bh w' w'.heap.size j a:=(h.below hx).more hx.size
structure lG(j:du):Prop where
 name:j.name.length≤1000000
 rings:j.rings.flatten.length≤4000000000
 ops:∀o∈j.openings,uk o
 aq:∀x∈j.aq,x.weight.length≤300000
noncomputable def uA(j:du):Int:=
 if xL j.name=N1 then 13 else if dk j.rings≠0 then dk j.rings else if aF j.origin 0 65536=N1 then 2 else if aF j.spacing 1 65536=N1 then 2
 else if fW j.purlins≠0 then fW j.purlins else if mB j.rings j.openings≠0 then mB j.rings j.openings else if gk j.sizes≠0 then gk j.sizes else if iu j.bars≠0 then iu j.bars
 else if aF j.kerf 0 100=N1 then 2 else if de j.tile≠0 then de j.tile else if gj j.aq≠0 then gj j.aq else gi j.spans
theorem wW(W0 W:NY)(c:Nat)(j:du)(a:fm)(hc:JC W c j a)(hb:bh W0 W0.heap.size j a)(hs:lG j)(hm:fl W0)(ht:aL W0)(hx:Ext W0 W):
  Of prog 34 #[.pointer (N3 ⟨c,0,N0⟩)] W fun e w'=>e= .returned (.int .i64 (fW j.purlins))∧Ext W w':=by
 have K:=NW (tY W a.ua a.uc j.purlins (hb.grow hx).u)
 have q:=fun i=>hc.cell i
 have hz:=hc.lt
 obtain⟨x,hx'⟩:∃x,fW j.purlins=x:=⟨_,rfl⟩
 rw[hx'] at K⊢
 clear hc hb hs hm ht hx hx'
 go_enter func34,ntmps34
 go_wp2_with(go_at_call 35;go_must(refine K.out.mono ?_);rintro e W1 ⟨rfl,hX1⟩)
 go_ret
 exact⟨rfl,Ext.an _⟩
theorem vK(W0 W:NY)(c:Nat)(j:du)(a:fm)(hc:JC W c j a)(hb:bh W0 W0.heap.size j a)(hs:lG j)(hm:fl W0)(ht:aL W0)(hx:Ext W0 W):
  Of prog 36 #[.pointer (N3 ⟨c,0,N0⟩)] W fun e w'=>e= .returned (.int .i64 (mB j.rings j.openings))∧Ext W w':=by
 have K:=NW (qG W a.pa a.pc j.rings a.oa a.oc j.openings (hb.grow hx).p hs.rings (hb.grow hx).o hs.ops (hm.below hx (NZ _)) (ht.below hx (NZ _)))
 have q:=fun i=>hc.cell i
 have hz:=hc.lt
 obtain⟨x,hx'⟩:∃x,mB j.rings j.openings=x:=⟨_,rfl⟩
 rw[hx'] at K⊢
 clear hc hb hs hm ht hx hx'
 go_enter func36,ntmps36
 go_wp2_with(go_at_call 37;go_must(refine K.out.mono ?_);rintro e W1 ⟨rfl,hX1⟩)
 go_ret
 exact⟨rfl,hX1⟩
theorem wF(W0 W:NY)(c:Nat)(j:du)(a:fm)(hc:JC W c j a)(hb:bh W0 W0.heap.size j a)(hs:lG j)(hm:fl W0)(ht:aL W0)(hx:Ext W0 W):
  Of prog 38 #[.pointer (N3 ⟨c,0,N0⟩)] W fun e w'=>e= .returned (.int .i64 (gk j.sizes))∧Ext W w':=by
 have K:=NW (yv W a.za a.zc j.sizes (hb.grow hx).z)
 have q:=fun i=>hc.cell i
 have hz:=hc.lt
 obtain⟨x,hx'⟩:∃x,gk j.sizes=x:=⟨_,rfl⟩
 rw[hx'] at K⊢
 clear hc hb hs hm ht hx hx'
 go_enter func38,ntmps38
 go_wp2_with(go_at_call 39;go_must(refine K.out.mono ?_);rintro e W1 ⟨rfl,hX1⟩)
 go_ret
 exact⟨rfl,hX1⟩
theorem vV(W0 W:NY)(c:Nat)(j:du)(a:fm)(hc:JC W c j a)(hb:bh W0 W0.heap.size j a)(hs:lG j)(hm:fl W0)(ht:aL W0)(hx:Ext W0 W):
  Of prog 40 #[.pointer (N3 ⟨c,0,N0⟩)] W fun e w'=>e= .returned (.int .i64 (iu j.bars))∧Ext W w':=by
 have K:=NW (wy W a.ba a.bc j.bars (hb.grow hx).b)
 have q:=fun i=>hc.cell i
 have hz:=hc.lt
 obtain⟨x,hx'⟩:∃x,iu j.bars=x:=⟨_,rfl⟩
 rw[hx'] at K⊢
 clear hc hb hs hm ht hx hx'
 go_enter func40,ntmps40
 go_wp2_with(go_at_call 41;go_must(refine K.out.mono ?_);rintro e W1 ⟨rfl,hX1⟩)
 go_ret
 exact⟨rfl,hX1⟩
theorem ld (w : World) (j : du) (a : fm) (hb : bh w w.heap.size j a) (hs : lG j) (hm : fl w) (ht : aL w) :
    Calls Tryz.prog 10 #[.agg (dy j a)] w fun e w' => e = .returned (.int .i64 (uA j)) ∧ Ext w w' := by
  have E0 := Lib.hid (show Ext w (w.alloc (.cells (dy j a) 34)) from (Below.refl _ _).alloc (Nat.le_refl _) _)
  have J0 := Lib.hid (show JC (w.alloc (.cells (dy j a) 34)) w.heap.size j a from World.alloc_heap_new w _)
  obtain ⟨W0, hW0⟩ : ∃ W0, w.alloc (.cells (dy j a) 34) = W0 := ⟨_, rfl⟩
  rw [hW0] at E0 J0
  have HW := Lib.hid hW0
  clear hW0
  have hb0 := hb.grow E0.out
  have hm0 := hm.below E0.out (Nat.le_refl _)
  have ht0 := ht.below E0.out (Nat.le_refl _)
  have KN := Lib.hid (fun W => yJ j.name W hs.name)
  have KP := Lib.hid (o7 W0 a.pa a.pc j.rings hb0.p hs.rings)
  have JX := Lib.hid (fun (W : World) (h : Ext W0 W) => J0.out.ext h)
  have KC1 := Lib.hid (fun (W : World) (h : Ext W0 W) => wW W0 W w.heap.size j a (JX.out W h) hb0 hs hm0 ht0 h)
  have KC2 := Lib.hid (fun (W : World) (h : Ext W0 W) => vK W0 W w.heap.size j a (JX.out W h) hb0 hs hm0 ht0 h)
  have KC3 := Lib.hid (fun (W : World) (h : Ext W0 W) => wF W0 W w.heap.size j a (JX.out W h) hb0 hs hm0 ht0 h)
  have KC4 := Lib.hid (fun (W : World) (h : Ext W0 W) => vV W0 W w.heap.size j a (JX.out W h) hb0 hs hm0 ht0 h)
  have KT := Lib.hid (fun W => zJ j.tile W)
  have KL := Lib.hid (fun (W : World) (h : Ext W0 W) => yQ W a.la a.lc j.aq (hb0.grow h).l hs.aq (hm0.below h (Nat.le_refl _)) (ht0.below h (Nat.le_refl _)))
  have KS := Lib.hid (fun (W : World) (h : Ext W0 W) => xN W a.sa a.sc j.spans (hb0.grow h).s)
  have g1 := enters_of Tryz.func34 (by kernel_rfl) rfl
  have g2 := enters_of Tryz.func36 (by kernel_rfl) rfl
  have g3 := enters_of Tryz.func38 (by kernel_rfl) rfl
  have g4 := enters_of Tryz.func40 (by kernel_rfl) rfl
  have HV := Lib.hid (show uA j = if xL j.name = false then 13 else if dk j.rings ≠ 0 then dk j.rings else if aF j.origin 0 65536 = false then 2 else if aF j.spacing 1 65536 = false then 2
    else if fW j.purlins ≠ 0 then fW j.purlins else if mB j.rings j.openings ≠ 0 then mB j.rings j.openings else if gk j.sizes ≠ 0 then gk j.sizes else if iu j.bars ≠ 0 then iu j.bars
    else if aF j.kerf 0 100 = false then 2 else if de j.tile ≠ 0 then de j.tile else if gj j.aq ≠ 0 then gj j.aq else gi j.spans from rfl)
  clear hb hs hm ht hb0 hm0 ht0
  obtain ⟨nm, h1⟩ : ∃ x, xL j.name = x := ⟨_, rfl⟩
  obtain ⟨pe, h2⟩ : ∃ x, dk j.rings = x := ⟨_, rfl⟩
  obtain ⟨b2, t2⟩ : ∃ x, aF j.origin 0 65536 = x := ⟨_, rfl⟩
  obtain ⟨b3, t3⟩ : ∃ x, aF j.spacing 1 65536 = x := ⟨_, rfl⟩
  obtain ⟨e1, h4⟩ : ∃ x, fW j.purlins = x := ⟨_, rfl⟩
  obtain ⟨e2, h5⟩ : ∃ x, mB j.rings j.openings = x := ⟨_, rfl⟩
  obtain ⟨e3, h6⟩ : ∃ x, gk j.sizes = x := ⟨_, rfl⟩
  obtain ⟨e4, h7⟩ : ∃ x, iu j.bars = x := ⟨_, rfl⟩
  obtain ⟨b8, t8⟩ : ∃ x, aF j.kerf 0 100 = x := ⟨_, rfl⟩
  obtain ⟨te, h9⟩ : ∃ x, de j.tile = x := ⟨_, rfl⟩
  obtain ⟨le, h10⟩ : ∃ x, gj j.aq = x := ⟨_, rfl⟩
  obtain ⟨se, h11⟩ : ∃ x, gi j.spans = x := ⟨_, rfl⟩
  rw [h1, h2, t2, t3, h4, h5, h6, h7, t8, h9, h10, h11] at HV
  simp only [h1] at KN
  rw [h2] at KP
  simp only [h4] at KC1
  simp only [h5] at KC2
  simp only [h6] at KC3
  simp only [h7] at KC4
  simp only [h9] at KT
  simp only [h10] at KL
  simp only [h11] at KS
  clear h1 h2 h4 h5 h6 h7 h9 h10 h11
  have hv := HV.out
  clear HV
  cases nm
  case' true => by_cases hc : pe = 0
  case' pos => subst hc; cases b2
  case' true => cases b3
  case' true => by_cases hc : e1 = 0
  case' pos => subst hc; by_cases hc : e2 = 0
  case' pos => subst hc; by_cases hc : e3 = 0
  case' pos => subst hc; by_cases hc : e4 = 0
  case' pos => subst hc; cases b8
  case' true => by_cases hc : te = 0
  case' pos => subst hc; by_cases hc : le = 0
  case' pos => subst hc
  all_goals
    first | have tp := bne_iff_ne.2 hc | skip
    first | simp only [hc, ne_eq, not_true_eq_false, not_false_eq_true, if_true, if_false, Bool.true_eq_false] at hv | simp only [ne_eq, not_true_eq_false, if_true, if_false, Bool.true_eq_false] at hv
    have HE := Lib.hid hv
    clear hv
    go_enter Tryz.func10, Tryz.ntmps10
  iterate 9 all_goals (first
      | (go_ret; exact ⟨by rw [HE.out] <;> rfl, by first | exact Ext.tr E0.out HX.out | (rw [HW.out]; exact E0.out)⟩)
      | (first | rw [rounds_succ] | (refine wp_loop_rounds 6 ?_; rw [rounds_succ]) | skip
         go_wp2_with (first
          | ((first | (go_at_call 36; refine (KC2.out _ HX.out).mono ?_) | (go_at_call 38; refine (KC3.out _ HX.out).mono ?_) | (go_at_call 40; refine (KC4.out _ HX.out).mono ?_)); rintro e W2 ⟨rfl, hX⟩; have r := fun i => (RF.out.ext hX).cell i; have q := fun i => (JX.out W2 (Ext.tr HX.out hX)).cell i; have z := (RF.out.ext hX).lt; have RF := Lib.hid (RF.out.ext hX); have HX := Lib.hid (Ext.tr HX.out hX); clear hX)
          | ((first | (go_at_call 43; refine (KL.out _ HX.out).mono ?_) | (go_at_call 44; refine (KS.out _ HX.out).mono ?_) | (go_at_call 42; refine (KT.out _).mono ?_)); rintro e W2 ⟨rfl, hX⟩; have q := fun i => (JX.out W2 (Ext.tr HX.out hX)).cell i; have HX := Lib.hid (Ext.tr HX.out hX); clear hX)
          | (go_at_call 34; refine (KC1.out _ (HX.out.alloc HX.out.size _)).mono ?_; rintro e W2 ⟨rfl, hX⟩; have r := fun i => (RF.out.ext hX).cell i; have q := fun i => (JX.out W2 (Ext.tr (HX.out.alloc HX.out.size _) hX)).cell i; have z := (RF.out.ext hX).lt; have RF := Lib.hid (RF.out.ext hX); have HX := Lib.hid (Ext.tr (HX.out.alloc HX.out.size _) hX); clear hX)
          | (go_at_call 33; go_must (refine (eI _ _ _ _).mono ?_); rintro e W9 ⟨rfl, rfl⟩; first | rw [t2] | rw [t3] | rw [t8] | skip)
          | (go_at_call 32; rw [HW.out]; refine KP.out.mono ?_; rintro e W1 ⟨rfl, hX1⟩; have q1 := fun i => (JX.out W1 hX1).cell i; have HX := Lib.hid (Ext.tr (Ext.an W0) hX1); have RF := Lib.hid (af.new W1 90 [.func (.func 34) #[] #[.pointer (some ⟨w.heap.size, 0, none⟩)], .func (.func 36) #[] #[.pointer (some ⟨w.heap.size, 0, none⟩)], .func (.func 38) #[] #[.pointer (some ⟨w.heap.size, 0, none⟩)], .func (.func 40) #[] #[.pointer (some ⟨w.heap.size, 0, none⟩)]]); clear hX1)
          | (go_at_call 31; refine (KN.out _).mono ?_; rintro e W9 ⟨rfl, rfl⟩))))
end
end Go.Proofs.YtnpihidbkhehjaaGreatDoor
