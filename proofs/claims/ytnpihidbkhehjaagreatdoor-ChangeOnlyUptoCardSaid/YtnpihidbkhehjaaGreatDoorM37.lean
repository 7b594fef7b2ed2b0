/- ChangeOnly of kingpostlaw58: part 37 of its proof (merged and shortened by program). -/
import Derived.Laws.ResultCell
import Derived.Test.YtnpihidbkhehjaaGreatDoorM34
import Derived.Test.YtnpihidbkhehjaaGreatDoorM36
set_option linter.unusedVariables false
set_option linter.unusedSimpArgs false
set_option linter.defProp false
set_option maxHeartbeats 8000000
set_option maxRecDepth 100000
open Go.RowKit Go.Shelf Go.Proofs.Tryz
open Array renaming getElem?_eq_some_iff→Od
open Bool renaming false→N1,true→Oc
open Go renaming World→NY,Value→N2,undef→N7,wpOp_step→Ob,Calls→Of,maxLen→Ol,TypeId→Oo
open Go.AllReady renaming cons→Oj,nil→Oq
open Go.IntKind renaming i64→Oe
open Go.IntWalk renaming i64_in→Om
open Go.Lib renaming hid→NW
open Go.RowKit renaming intOf→Oh,Below→On
open Go.World renaming size_alloc→Oi
open List renaming getD_eq_getElem?_getD→N8,length_map→N9,getElem?_eq_getElem→Oa
open Nat renaming le_refl→NZ,mul_comm→Og,le_trans→Ok
open Option renaming none→N0,some→N3
open Go.Proofs.YtnpihidbkhehjaaGreatDoor
namespace Go.Proofs.YtnpihidbkhehjaaGreatDoor
section
open Kp
attribute [local go_sem] PT P6
def dQ(e:Ed):Int:=if e.kind<1∨12<e.kind then 8 else if me e (ey e)=Oc then 0 else 9
theorem wB(w:NY)(e:Ed)(ga:Option Addr)(gc:Nat)(hg:cU w w.heap.size ga gc e.gaps):
  Of prog 18 #[.agg (aG e (.slice ga e.gaps.length gc))] w fun r w'=>r= .returned (.int .i64 (dQ e))∧On w.heap.size w w':=by
 by_cases h1:e.kind<1
 ·have HF:=NW (show dQ e=8 by unfold dQ;rw[if_pos (.inl h1)])
  go_enter func18,ntmps18
  go_wp2
  go_ret
  exact⟨PC,(Below.refl _ _).alloc (NZ _) _⟩
 by_cases h2:12<e.kind
 ·have HF:=NW (show dQ e=8 by unfold dQ;rw[if_pos (.inr h2)])
  go_enter func18,ntmps18
  go_wp2
  go_ret
  exact⟨PC,(Below.refl _ _).alloc (NZ _) _⟩
 have hB0:On w.heap.size w (w.alloc (.cells (aG e (.slice ga e.gaps.length gc)) 50)):=(Below.refl _ _).alloc (NZ _) _
 have HGP:=NW hg
 have HB0:=NW hB0
 have E0:=NW (show fj (w.alloc (.cells (aG e (.slice ga e.gaps.length gc)) 50)).drew w.heap.size e (.slice ga e.gaps.length gc) from fj.new w e _)
 have mixed:prog.follows .mixedOrders=Oc:=Ou
 clear hg hB0
 go_enter func18,ntmps18
 go_upto_region 3 with fail
 refine wp_region_any mixed ?_
 refine wpAny_ready (rs:=[0,1]) Ou Ow ?_
 refine Oj rfl (fun K hK=> ?_) ?_
 ·refine wp_load_row 50 _ rfl _ rfl 50 _ (0,0) _ E0.out underlying50 rfl Ou ?_
  refine hK _ _ ?_
  clear hK K
  refine wpAny_ready (rs:=[1]) Ou Ow ?_
  refine Oj rfl (fun K hK=> ?_) ?_
  ·refine wp_load_row 50 _ rfl _ rfl 50 _ (0,0) _ E0.out underlying50 rfl Ou ?_
   refine hK _ _ ?_
   clear hK K
   refine wpAny_ready (rs:=[2]) Ou Ow ?_
   refine Oj rfl (fun K hK=> ?_) ?_
   ·go_simp
    refine(pj _ e ga gc ⟨Ot,Ot⟩ ((HGP.out.below (HB0.out.trans (Below.drew (Below.refl _ _)))).more Ow)).mono ?_
    rintro r W1 ⟨gb,cb,rfl,hgb,hB1⟩
    have E1:=NW (E0.out.below hB1 E0.out.lt)
    have HGB:=NW hgb
    have HB1:=NW (HB0.out.trans ((Below.drew (Below.refl _ _)).trans (hB1.mono Ow)))
    clear hgb hB1
    refine hK _ _ ?_
    clear hK K
    refine wpAny_ready (rs:=[3]) Ou Ow ?_
    refine Oj rfl (fun K hK=> ?_) ?_
    ·go_simp
     refine(ph _ e (ey e) ga gb gc cb ((HGP.out.below HB1.out).more HB1.out.size) HGB.out).mono ?_
     rintro r W2 ⟨rfl,hB2⟩
     have HB2:=NW (HB1.out.trans (hB2.mono HB1.out.size))
     clear hB2
     refine hK _ _ ?_
     clear hK K
     refine wpAny_take (i:=4) (v:= ?vfrm1) rfl Ou Ou Ou (fun _ _ _ h=>h) (Or.inl ⟨OR,?hyfrm1⟩) ?_
     case hyfrm1=>(intro w;go_simp;try with_reducible rfl)
     refine wpAny_done Ou ?_ _
     cases hs:me e (ey e)
     ·have HF:=NW (show dQ e=9 by unfold dQ;rw[if_neg Ot,hs];rfl)
      try rw[hs]
      go_wp2
      go_ret
      exact⟨PC,HB2.out⟩
     ·have HF:=NW (show dQ e=0 by unfold dQ;rw[if_neg Ot,if_pos hs])
      try rw[hs]
      go_wp2
      go_ret
      exact⟨PC,HB2.out⟩
    exact Oq
   exact Oq
  exact Oq
 refine Oj rfl (fun K hK=> ?_) ?_
 ·refine wp_load_row 50 _ rfl _ rfl 50 _ (0,0) _ E0.out underlying50 rfl Ou ?_
  refine hK _ _ ?_
  clear hK K
  refine wpAny_ready (rs:=[0,2]) Ou Ow ?_
  refine Oj rfl (fun K hK=> ?_) ?_
  ·refine wp_load_row 50 _ rfl _ rfl 50 _ (0,0) _ E0.out underlying50 rfl Ou ?_
   refine hK _ _ ?_
   clear hK K
   refine wpAny_ready (rs:=[2]) Ou Ow ?_
   refine Oj rfl (fun K hK=> ?_) ?_
   ·go_simp
    refine(pj _ e ga gc ⟨Ot,Ot⟩ ((HGP.out.below (HB0.out.trans (Below.drew (Below.refl _ _)))).more Ow)).mono ?_
    rintro r W1 ⟨gb,cb,rfl,hgb,hB1⟩
    have E1:=NW (E0.out.below hB1 E0.out.lt)
    have HGB:=NW hgb
    have HB1:=NW (HB0.out.trans ((Below.drew (Below.refl _ _)).trans (hB1.mono Ow)))
    clear hgb hB1
    refine hK _ _ ?_
    clear hK K
    refine wpAny_ready (rs:=[3]) Ou Ow ?_
    refine Oj rfl (fun K hK=> ?_) ?_
    ·go_simp
     refine(ph _ e (ey e) ga gb gc cb ((HGP.out.below HB1.out).more HB1.out.size) HGB.out).mono ?_
     rintro r W2 ⟨rfl,hB2⟩
     have HB2:=NW (HB1.out.trans (hB2.mono HB1.out.size))
     clear hB2
     refine hK _ _ ?_
     clear hK K
     refine wpAny_take (i:=4) (v:= ?vfrm2) rfl Ou Ou Ou (fun _ _ _ h=>h) (Or.inl ⟨OR,?hyfrm2⟩) ?_
     case hyfrm2=>(intro w;go_simp;try with_reducible rfl)
     refine wpAny_done Ou ?_ _
     cases hs:me e (ey e)
     ·have HF:=NW (show dQ e=9 by unfold dQ;rw[if_neg Ot,hs];rfl)
      try rw[hs]
      go_wp2
      go_ret
      exact⟨PC,HB2.out⟩
     ·have HF:=NW (show dQ e=0 by unfold dQ;rw[if_neg Ot,if_pos hs])
      try rw[hs]
      go_wp2
      go_ret
      exact⟨PC,HB2.out⟩
    exact Oq
   exact Oq
  refine Oj rfl (fun K hK=> ?_) ?_
  ·go_simp
   refine(pj _ e ga gc ⟨Ot,Ot⟩ ((HGP.out.below (HB0.out.trans (Below.drew (Below.refl _ _)))).more Ow)).mono ?_
   rintro r W1 ⟨gb,cb,rfl,hgb,hB1⟩
   have E1:=NW (E0.out.below hB1 E0.out.lt)
   have HGB:=NW hgb
   have HB1:=NW (HB0.out.trans ((Below.drew (Below.refl _ _)).trans (hB1.mono Ow)))
   clear hgb hB1
   refine hK _ _ ?_
   clear hK K
   refine wpAny_ready (rs:=[0]) Ou Ow ?_
   refine Oj rfl (fun K hK=> ?_) ?_
   ·refine wp_load_row 50 _ rfl _ rfl 50 _ (0,0) _ E1.out underlying50 rfl Ou ?_
    refine hK _ _ ?_
    clear hK K
    refine wpAny_ready (rs:=[3]) Ou Ow ?_
    refine Oj rfl (fun K hK=> ?_) ?_
    ·go_simp
     refine(ph _ e (ey e) ga gb gc cb ((HGP.out.below HB1.out).more HB1.out.size) HGB.out).mono ?_
     rintro r W2 ⟨rfl,hB2⟩
     have HB2:=NW (HB1.out.trans (hB2.mono HB1.out.size))
     clear hB2
     refine hK _ _ ?_
     clear hK K
     refine wpAny_take (i:=4) (v:= ?vfrm3) rfl Ou Ou Ou (fun _ _ _ h=>h) (Or.inl ⟨OR,?hyfrm3⟩) ?_
     case hyfrm3=>(intro w;go_simp;try with_reducible rfl)
     refine wpAny_done Ou ?_ _
     cases hs:me e (ey e)
     ·have HF:=NW (show dQ e=9 by unfold dQ;rw[if_neg Ot,hs];rfl)
      try rw[hs]
      go_wp2
      go_ret
      exact⟨PC,HB2.out⟩
     ·have HF:=NW (show dQ e=0 by unfold dQ;rw[if_neg Ot,if_pos hs])
      try rw[hs]
      go_wp2
      go_ret
      exact⟨PC,HB2.out⟩
    exact Oq
   exact Oq
  exact Oq
 exact Oq
end
section
open Kp
attribute [local go_sem] PU Qz QN QK QA QF QG QM Qx QE QI Qo Qd Qi Qt Qq
attribute [local go_sem] PT P6
def gC:du:=⟨[],[],0,0,[],[],[],[],0,⟨0,0,0,0⟩,[],[]⟩
def iS:fm:=⟨N0,0,N0,0,N0,0,N0,0,N0,0,N0,0,N0,0⟩
theorem lK(w:NY)(B:Nat):bh w B gC iS:=
 ⟨⟨Ov,Ov,fun h=>absurd h Ov⟩,⟨Ov,Ov,fun h=>absurd h Ov⟩,⟨Ov,Ov,fun h=>absurd h Ov⟩,⟨Ov,Ov,fun h=>absurd h Ov⟩,
  ⟨Ov,Ov,fun h=>absurd h Ov⟩,⟨Ov,Ov,fun h=>absurd h Ov⟩,⟨Ov,Ov,fun h=>absurd h Ov⟩⟩
theorem ff{fn:Func}{p u:Tmp}(h:fn.results=#[.cell p 34,.tmp u])(tmps:Array N2)(w:NY)(g:Nat)(cs:Array N2)
  (hp:tmps.getD p N7= .pointer (N3 ⟨g,0,N0⟩))(hg:w.heap[g]?=N3 (.cells cs 34 (0,0)))(hi:(prog.info? 34).map (·.size)=N3 cs.size):
  (results fn tmps).run prog w= .ok (.tuple #[.agg cs,tmps.getD u N7]) w:=by
 have hp':tmps[p]?.getD N7= .pointer (N3 ⟨g,0,N0⟩):=by simpa using hp
 have hl:=run_loadVar_row (P:=prog) w g 34 34 cs (0,0) _ hg underlying34 rfl hi
 simp[results,h,hp',asAddr,hl,Result.andThen]
noncomputable def yl(j:du)(e:Ed):Int:=if uA j≠0 then 1 else if dQ e≠0 then dQ e else if ej j e≠0 then ej j e else uA (cT j e)
noncomputable def yh(j:du)(e:Ed):du:=if yl j e=0 then cT j e else gC
structure Ko(j:du)(e:Ed):Prop where
 sm:lG j
 ln:GC j
 sm':lG (cT j e)
 idx:e.index≤9223372036854775807
theorem rz{e:Ed}(h:dQ e=0):1≤e.kind∧e.kind≤12:=by
 unfold dQ at h
 split at h
 ·cases h
 ·omega
theorem Ib{j:du}(h:uA j=0):fW j.purlins=0:=by
 unfold uA at h
 split at h
 ·cases h
 split at h
 ·contradiction
 split at h
 ·cases h
 split at h
 ·cases h
 split at h
 ·contradiction
 ·rename_i h1;exact Classical.not_not.1 h1
def Ge(b:Nat)(e:Ed)(g:N2)(f:Nat):Nat→N2
 |0=> .agg Kk
 |1=> .pointer (N3 ⟨b,0,N0⟩)
 |2=> .int .i64 e.kind
 |3=> .func (.func f) #[] #[]
 |_=> .agg (aG e g)
theorem Mh{k:Int}(h1:1≤k)(h2:k≤12){v:N2}(hv:Kk[k.toNat]?=N3 v)(W:NY):Sem.run prog (Instr.index 70 (.agg Kk) (.int .i64 k)) W= .ok v W:=by
 rcases(show k=1∨k=2∨k=3∨k=4∨k=5∨k=6∨k=7∨k=8∨k=9∨k=10∨k=11∨k=12 by omega) with h|h|h|h|h|h|h|h|h|h|h|h
 all_goals
  subst h
  injection hv with hv
  subst hv
  kernel_rfl
def uD(w:NY)(j:du)(e:Ed)(x:Ending)(w':NY):Prop:=
 ∃a',x= .returned (.tuple #[.agg (dy (yh j e) a'),.int .i64 (yl j e)])∧Ext w w'∧bh w' w'.heap.size (yh j e) a'
theorem qP(w:NY)(j:du)(a:fm)(e:Ed)(ga:Option Addr)(gc:Nat)(hb:bh w w.heap.size j a)(hg:cU w w.heap.size ga gc e.gaps)(hok:Ko j e)(hm:fl w)(ht:aL w):
  Of prog 7 #[.agg (dy j a),.agg (aG e (.slice ga e.gaps.length gc))] w (uD w j e):=by
 obtain⟨W0,hW0⟩:∃W0,((w.alloc (.cells (dy j a) 34)).alloc (.cells (aG e (.slice ga e.gaps.length gc)) 50)).alloc (.cells (dy gC iS) 34)=W0:=⟨_,rfl⟩
 have hs0:W0.heap.size=w.heap.size+3:=by rw[←hW0];simp
 have e0:Ext w W0:=by rw[←hW0];exact(((Below.refl _ _).alloc (NZ _) _).alloc Ow _).alloc OB _
 have hJ:JC W0 w.heap.size j a:=by rw[←hW0];exact JC.ext (JC.ext (NY.alloc_heap_new w _) ((Below.refl _ _).alloc (NZ _) _)) ((Below.refl _ _).alloc (NZ _) _)
 have hZ:EC W0 (w.heap.size+1) (aG e (.slice ga e.gaps.length gc)):=by
  rw[←hW0]
  have:=EC.new (w.alloc (.cells (dy j a) 34)) (aG e (.slice ga e.gaps.length gc))
  rw[Oi] at this
  exact this.alloc _
 have hR:JC W0 (w.heap.size+1+1) gC iS:=by
  rw[←hW0]
  have:=NY.alloc_heap_new ((w.alloc (.cells (dy j a) 34)).alloc (.cells (aG e (.slice ga e.gaps.length gc)) 50)) (.cells (dy gC iS) 34)
  rw[Oi,Oi] at this
  exact this
 have HJ:=NW hJ
 have HZ:=NW hZ
 have HR:=NW hR
 have HE0:=NW e0
 have HW:=NW (show((w.alloc (.cells (dy j a) 34)).alloc (.cells (aG e (.slice ga e.gaps.length gc)) 50)).alloc (.cells #[.string {data:=#[]},.slice N0 0 0,.int .i64 0,.int .i64 0,.slice N0 0 0,.slice N0 0 0,.slice N0 0 0,.slice N0 0 0,.int .i64 0,.int .i64 0,.int .i64 0,.int .i64 0,.int .i64 0,.slice N0 0 0,.slice N0 0 0] 34)=W0 from hW0)
 have HS0:=NW hs0
 have HOK:=NW hok
 have KJ:=NW (fun(W:NY) (h:Ext W0 W)=>ld W j a (hb.grow (e0.tr h)) hok.sm (hm.below (e0.tr h) (NZ _)) (ht.below (e0.tr h) (NZ _)))
 have HG:=NW (fun(W:NY) (h:Ext W0 W)=>((hg.below (e0.tr h)).more (e0.tr h).size:cU W W.heap.size ga gc e.gaps))
 have KF:=NW (fun(W:NY) (h:Ext W0 W)=>wB W e ga gc (HG.out W h))
 obtain⟨x,hx⟩:∃x,uA j=x:=⟨_,rfl⟩
 have HX:=NW hx
 simp only[hx] at KJ
 have hz:=hs0
 clear hs0 hJ hZ hR e0 hok
 by_cases hx0:x=0
 ·subst hx0
  obtain⟨y,hy⟩:∃y,dQ e=y:=⟨_,rfl⟩
  simp only[hy] at KF
  by_cases hy0:y=0
  ·subst hy0
   obtain⟨k1,k2⟩:=rz hy
   have hpu:=Ib hx
   have KX:=fun(W:NY) (h:Ext W0 W)=>Ir W w.heap.size j a e ga gc ⟨k1,k2⟩ (HJ.out.ext h) (hb.below (HE0.out.tr h)) HOK.out.ln hpu (AT (hg.below (HE0.out.tr h))) HOK.out.idx
   obtain⟨f,hf,eg,_⟩:=KX W0 (Below.refl _ _)
   have KCH:=NW (fun(W:NY) (h:Ext W0 W)=>(show Of prog f #[.pointer (N3 ⟨w.heap.size,0,N0⟩),.agg (aG e (.slice ga e.gaps.length gc))] W fun x w'=>x= .returned (.int .i64 (ej j e))∧ei w.heap.size W w'∧(ej j e=0→∃a',jC w.heap.size W w' (cT j e) a') from by
    obtain⟨f',hf',_,hc⟩:=KX W h
    rw[hf] at hf'
    injection hf' with h1
    injection h1 with h2
    injection h2 with h3
    subst h3
    exact hc))
   have HIX:=NW (Mh k1 k2 hf)
   have EG:=NW eg
   have HK:=NW (And.intro k1 k2)
   have HM:=NW hm
   have HT:=NW ht
   have HXX:=NW hx
   have HYY:=NW hy
   clear hx hy hpu KX hf eg hb hg hm ht hW0
   go_enter func7,ntmps7
   go_upto_region 1 with(fail)
   rw[HW.out]
   go_wp2_with(first
    |(go_at_call 10;go_must(refine(KJ.out _ (Below.refl _ _)).mono ?_);rintro x1 W1 ⟨rfl,hX1⟩;have HR1:=NW (HR.out.ext hX1);have HZ1:=NW (HZ.out.ext hX1);have HJ1:=NW (HJ.out.ext hX1);have HX1:=NW hX1;clear hX1)
    |(go_at_call 18;refine(KF.out _ HX1.out).mono ?_;rintro x2 W2 ⟨rfl,hX2⟩;have HX2:=NW (Ext.tr HX1.out hX2);have hX02:=hX2;clear hX2)
    |(refine wpList_load_row rfl 34 _ rfl _ rfl 34 _ (0,0) _ HJ.out underlying34 rfl Ou ?_)
    |(refine wpList_load_row rfl 50 _ rfl _ rfl 50 _ (0,0) _ HZ1.out underlying50 rfl Ou ?_))
   refine wp_region_any Ou (bA 5 (fun vs=>⟨#[.agg (dy j a),.agg (aG e (.slice ga e.gaps.length gc)),.pointer (N3 ⟨w.heap.size,0,N0⟩),.pointer (N3 ⟨w.heap.size+1,0,N0⟩),.pointer (N3 ⟨w.heap.size+1+1,0,N0⟩),.int .i64 0,.int .i64 0,N7,N7,.agg (dy j a),.int .i64 0,.bool N1,N7,.agg (aG e (.slice ga e.gaps.length gc)),.int .i64 0,.int .i64 0,.bool N1,N7,N7,vs 0,vs 1,vs 2,vs 3,vs 4,N7,N7,N7,N7,N7,N7,N7,N7,N7,N7,N7,N7],[]⟩)
    (fun w'=>Ext W0 w') (fun i v _=>v=Ge (w.heap.size+1) e (.slice ga e.gaps.length gc) f i) (fun _=>N1) Ou (fun _ _ h k=>h.tr k) (fun _ _ _ _ h _=>h) (fun _ _ _ _ h=>Ox) ?step ?tail (fun _=>N7) _ (HX2.out.tr (Ext.dr _)))
   case step=>
    intro i vs w' hi hD hd
    rcases(show i=0∨i=1∨i=2∨i=3∨i=4 by omega) with rfl|rfl|rfl|rfl|rfl<;>clear hi
    ·refine Ob rfl (fun K hK=> ?_)
     go_simp
     refine(wT _).mono ?_
     rintro x3 W3 ⟨rfl,hX3⟩
     exact hK _ _ ⟨_,rfl,hX3,rfl,fun h=>Ox⟩
    ·refine Ob rfl (fun K hK=> ?_)
     go_simp
     exact hK _ _ ⟨_,rfl,Ext.an _,rfl,fun h=>Ox⟩
    ·refine Ob rfl (fun K hK=> ?_)
     have d1:=hd 1 Ou
     simp only[Ge] at d1
     have m:=(HZ.out.ext hD).cell 0
     go_simp
     exact hK _ _ ⟨Ge (w.heap.size+1) e (.slice ga e.gaps.length gc) f 2,by simp[Ge,d1],Ext.an _,rfl,fun h=>Ox⟩
    ·refine Ob rfl (fun K hK=> ?_)
     have d0:=hd 0 Ou
     have d2:=hd 2 Ou
     simp only[Ge] at d0 d2
     have hix:=HIX.out
     go_simp
     exact hK _ _ ⟨Ge (w.heap.size+1) e (.slice ga e.gaps.length gc) f 3,by simp[Ge,d0,d2],Ext.an _,rfl,fun h=>Ox⟩
    ·refine Ob rfl (fun K hK=> ?_)
     exact wp_load_row 50 (.tmp 3) rfl (w.heap.size+1) rfl 50 _ (0,0) _ (HZ.out.ext hD) underlying50 rfl Ou (hK _ _ ⟨Ge (w.heap.size+1) e (.slice ga e.gaps.length gc) f 4,by simp[Ge,Act.put,bw],Ext.an _,rfl,fun h=>Ox⟩)
   case tail=>
    intro vs w' hD hV _
    have v3:=hV 3 Ot
    have v4:=hV 4 Ot
    simp only[Ge] at v3 v4
    have HD:=NW hD
    have eg:=EG.out
    clear hV hD
    simp only[v3,v4,List.drop_succ_cons,List.drop_zero]
    obtain⟨z,hz0⟩:∃z,ej j e=z:=⟨_,rfl⟩
    simp only[hz0] at KCH
    by_cases hz1:z=0
    ·subst hz1
     have KJ2:=NW (fun(W:NY) (a':fm) (h:Ext w W) (hb:bh W W.heap.size (cT j e) a')=>ld W (cT j e) a' hb HOK.out.sm' (HM.out.below h (NZ _)) (HT.out.below h (NZ _)))
     obtain⟨u,hu⟩:∃u,uA (cT j e)=u:=⟨_,rfl⟩
     simp only[hu] at KJ2
     have hE:yl j e=u:=by unfold yl;rw[HXX.out,HYY.out,hz0,hu,if_neg Ov,if_neg Ov,if_neg Ov]
     by_cases hu0:u=0
     ·subst hu0
      have hP:yh j e=cT j e:=by unfold yh;rw[hE,if_pos rfl]
      have HEP:=NW (And.intro hE hP)
      clear hE hP hu hz0 v3 v4
      go_wp2_with(first
       |(go_at_call 10;have hCHK:=HCH;refine(KJ2.out _ _ ((HE0.out.tr HD.out).trans HC.out.below) HCH.out.at_).mono ?_;rintro x4 W4 ⟨rfl,hX4⟩;have HR4:=NW (JC.ext HR3.out hX4);have HJ4:=NW (JC.ext (show JC W3 w.heap.size (cT j e) a' from HJ3.out) hX4);have HX4:=NW hX4;clear hX4)
       |(go_at_fn f;go_must(refine(KCH.out _ HD.out).mono ?_);rintro x3 W3 ⟨rfl,hC,hJJ⟩;obtain⟨a',hch⟩:=hJJ rfl;have HC:=NW hC;have HCH:=NW hch;have HR3:=NW ((hC.others _ (HR.out.ext HD.out).lt Ot).trans (HR.out.ext HD.out));have HJ3:=NW (show W3.heap[w.heap.size]?=N3 (.cells (dy (cT j e) a') 34 (0,0)) from hch.2.1);clear hC hJJ hch)
       |(refine wpList_load_row rfl 34 _ rfl _ rfl 34 _ (0,0) _ HJ4.out underlying34 rfl Ou ?_)
       |(refine wpList_load_row rfl 34 _ rfl _ rfl 34 _ (0,0) _ HJ3.out underlying34 rfl Ou ?_)
       |(refine wpList_store_row rfl 34 _ _ rfl _ _ rfl rfl 34 _ HR4.out Ou Ou Ou ?_))
      refine bodyPost_ret (ff rfl _ _ _ _ rfl (setRow_heap HR4.out _) Ou) rfl ?_
      have hlt2:=(HR.out.ext HD.out).lt
      have hx4:Ext w W4:=Ext.tr ((HE0.out.tr HD.out).trans HC.out.below) HX4.out
      have hfr:∀b,b<W3.heap.size→w'.heap.size≤b→(W4.setRow (w.heap.size+1+1) (dy (cT j e) a')).heap[b]?=W3.heap[b]?:=by
       intro b hb1 hb2
       have hne:w.heap.size+1+1≠b:=Ot
       have e1:(W4.setRow (w.heap.size+1+1) (dy (cT j e) a')).heap[b]?=W4.heap[b]?:=by simp only[World.setRow,Array.getElem?_modify];rw[if_neg hne]
       exact e1.trans (HX4.out.block b hb1)
      refine⟨a',by rw[HEP.out.1,HEP.out.2];rfl,ah hx4 Ot _,by rw[HEP.out.2];exact HCH.out.2.2 _ ⟨(HX4.out.mono (Ok (Nat.le_of_lt HJ.out.lt) (Ok HD.out.size HC.out.below.size))).trans (ah (Below.refl w.heap.size _) Ot _),fun b hb1 hb2=>hfr b hb1 hb2⟩⟩
     ·have tu0:(u !=0)=Oc:=by rw[bne_iff_ne];exact hu0
      have hP:yh j e=gC:=by unfold yh;rw[hE,if_neg hu0]
      have HEP:=NW (And.intro hE hP)
      clear hE hP hu hz0 v3 v4 hu0
      go_wp2_with(first
       |(go_at_call 10;have hCHK:=HCH;refine(KJ2.out _ _ ((HE0.out.tr HD.out).trans HC.out.below) HCH.out.at_).mono ?_;rintro x4 W4 ⟨rfl,hX4⟩;have HR4:=NW (JC.ext HR3.out hX4);have HJ4:=NW (JC.ext (show JC W3 w.heap.size (cT j e) a' from HJ3.out) hX4);have HX4:=NW hX4;clear hX4)
       |(go_at_fn f;go_must(refine(KCH.out _ HD.out).mono ?_);rintro x3 W3 ⟨rfl,hC,hJJ⟩;obtain⟨a',hch⟩:=hJJ rfl;have HC:=NW hC;have HCH:=NW hch;have HR3:=NW ((hC.others _ (HR.out.ext HD.out).lt Ot).trans (HR.out.ext HD.out));have HJ3:=NW (show W3.heap[w.heap.size]?=N3 (.cells (dy (cT j e) a') 34 (0,0)) from hch.2.1);clear hC hJJ hch)
       |(refine wpList_load_row rfl 34 _ rfl _ rfl 34 _ (0,0) _ HJ3.out underlying34 rfl Ou ?_)
       |(refine wpList_build rfl 34 _ rfl Ou ?_;rw[show Value.agg (Option.getD (prog.built 34 _) #[])= .agg (dy gC iS) from Ou])
       |(refine wpList_store_row rfl 34 _ _ rfl _ _ rfl rfl 34 _ HR4.out Ou Ou Ou ?_))
      refine bodyPost_ret (ff rfl _ _ _ _ rfl (setRow_heap HR4.out _) Ou) rfl ?_
      exact⟨iS,by rw[HEP.out.1,HEP.out.2];rfl,ah (Ext.tr ((HE0.out.tr HD.out).trans HC.out.below) HX4.out) Ot _,by rw[HEP.out.2];exact lK _ _⟩
    ·have tz0:(z !=0)=Oc:=by rw[bne_iff_ne];exact hz1
     have hE:yl j e=z:=by unfold yl;rw[HXX.out,HYY.out,hz0,if_neg Ov,if_neg Ov,if_pos hz1]
     have hP:yh j e=gC:=by unfold yh;rw[hE,if_neg hz1]
     have HEP:=NW (And.intro hE hP)
     clear hE hP hz0 v3 v4 hz1
     go_wp2_with(first
      |(go_at_fn f;go_must(refine(KCH.out _ HD.out).mono ?_);rintro x3 W3 ⟨rfl,hC,_⟩;have HC:=NW hC;have HR3:=NW ((hC.others _ (HR.out.ext HD.out).lt Ot).trans (HR.out.ext HD.out));clear hC)
      |(refine wpList_build rfl 34 _ rfl Ou ?_;rw[show Value.agg (Option.getD (prog.built 34 _) #[])= .agg (dy gC iS) from Ou])
      |(refine wpList_store_row rfl 34 _ _ rfl _ _ rfl rfl 34 _ HR3.out Ou Ou Ou ?_))
     refine bodyPost_ret (ff rfl _ _ _ _ rfl (setRow_heap HR3.out _) Ou) rfl ?_
     exact⟨iS,by rw[HEP.out.1,HEP.out.2];rfl,ah ((HE0.out.tr HD.out).trans HC.out.below) Ot _,by rw[HEP.out.2];exact lK _ _⟩
  ·have ty0:(y !=0)=Oc:=by rw[bne_iff_ne];exact hy0
   have hE:yl j e=y:=by unfold yl;rw[hx,hy,if_neg Ov,if_pos hy0]
   have hP:yh j e=gC:=by unfold yh;rw[hE,if_neg hy0]
   unfold uD
   rw[hE,hP]
   clear hx hy hy0 hE hP hb hg hm ht hW0
   go_enter func7,ntmps7
   go_upto_region 1 with(fail)
   rw[HW.out]
   go_wp2_with(first
    |(go_at_call 10;go_must(refine(KJ.out _ (Below.refl _ _)).mono ?_);rintro x1 W1 ⟨rfl,hX1⟩;have HR1:=NW (HR.out.ext hX1);have HZ1:=NW (HZ.out.ext hX1);have HJ1:=NW (HJ.out.ext hX1);have HX1:=NW hX1;clear hX1)
    |(go_at_call 18;refine(KF.out _ HX1.out).mono ?_;rintro x2 W2 ⟨rfl,hX2⟩;have HR2:=NW (HR1.out.ext hX2);have HX2:=NW (Ext.tr HX1.out hX2);clear hX2)
    |(refine wpList_load_row rfl 34 _ rfl _ rfl 34 _ (0,0) _ HJ.out underlying34 rfl Ou ?_)
    |(refine wpList_load_row rfl 50 _ rfl _ rfl 50 _ (0,0) _ HZ1.out underlying50 rfl Ou ?_)
    |(refine wpList_build rfl 34 _ rfl Ou ?_;rw[show Value.agg (Option.getD (prog.built 34 _) #[])= .agg (dy gC iS) from Ou])
    |(refine wpList_store_row rfl 34 _ _ rfl _ _ rfl rfl 34 _ HR2.out Ou Ou Ou ?_))
   refine bodyPost_ret (ff rfl _ _ _ _ rfl (setRow_heap HR2.out _) Ou) rfl ?_
   exact⟨iS,rfl,ah (HE0.out.tr HX2.out) Ot _,lK _ _⟩
 ·have tx0:(x !=0)=Oc:=by rw[bne_iff_ne];exact hx0
  have hE:yl j e=1:=by unfold yl;rw[hx,if_pos hx0]
  have hP:yh j e=gC:=by unfold yh;rw[hE];rfl
  unfold uD
  rw[hE,hP]
  clear hx hx0 hE hP hb hg hm ht hW0
  go_enter func7,ntmps7
  go_upto_region 1 with(fail)
  rw[HW.out]
  go_wp2_with(first
   |(go_at_call 10;go_must(refine(KJ.out _ (Below.refl _ _)).mono ?_);rintro x1 W1 ⟨rfl,hX1⟩;have HR1:=NW (HR.out.ext hX1);have HZ1:=NW (HZ.out.ext hX1);have HJ1:=NW (HJ.out.ext hX1);have HX1:=NW hX1;clear hX1)
   |(refine wpList_load_row rfl 34 _ rfl _ rfl 34 _ (0,0) _ HJ.out underlying34 rfl Ou ?_)
   |(refine wpList_build rfl 34 _ rfl Ou ?_;rw[show Value.agg (Option.getD (prog.built 34 _) #[])= .agg (dy gC iS) from Ou])
   |(refine wpList_store_row rfl 34 _ _ rfl _ _ rfl rfl 34 _ HR1.out Ou Ou Ou ?_))
  refine bodyPost_ret (ff rfl _ _ _ _ rfl (setRow_heap HR1.out _) Ou) rfl ?_
  exact⟨iS,rfl,ah (HE0.out.tr HX1.out) Ot _,lK _ _⟩
end
section
open Kp
theorem Hi{o:jD}(h:jb o):uk o:=
 ⟨by have:=cZ h.a;omega,by have:=cZ h.b;omega,by have:=cZ h.c;omega,by have:=cZ h.d;omega⟩
theorem qJ.ops{j:du}(h:qJ j):∀o∈j.openings,uk o:=by
 intro o ho
 obtain⟨i,hi,rfl⟩:=List.mem_iff_getElem.1 ho
 have:=h.gr.Ny h.o i hi
 rw[N8,Oa hi] at this
 exact Hi this
theorem qJ.aq{j:du}(h:qJ j):∀x∈j.aq,x.weight.length≤300000:=by
 intro x hx
 obtain⟨i,hi,rfl⟩:=List.mem_iff_getElem.1 hx
 have:=h.gr.l.w i hi
 rw[N8,Oa hi] at this
 exact Ok this Ov
theorem qJ.sm{j:du}(h:qJ j):lG j:=
 ⟨by have:=h.gr.name;omega,by have:=h.gr.r.f;omega,h.ops,h.aq⟩
theorem Im{rs:List (List Sd)}(k:Nat):(rs.getD k []).length≤rs.flatten.length:=by
 by_cases hk:k<rs.length
 ·rw[N8,Oa hk]
  exact(List.sublist_flatten_of_mem (List.getElem_mem hk)).length_le
 ·rw[N8,List.getElem?_eq_none Ot];exact Nat.zero_le _
theorem qJ.ln{j:du}(h:qJ j):GC j:=
 ⟨by have:=h.gr.r.n;omega,fun k=>by have:=Im (rs:=j.rings) k;have:=h.gr.r.f;omega,by have:=h.o;omega,by have:=h.gr.z;omega,by have:=h.gr.b.n;omega,by have:=h.gr.l.n;omega,by have:=h.gr.s.n;omega,by have:=h.gr.u;omega⟩
theorem vZ{α:Type}{l:List α}{i:Int}{x y:α}(h:y∈bM l i x):y∈l∨y=x:=by
 unfold bM at h
 split at h
 ·rcases List.mem_append.1 h with h|h
  ·exact .inl h
  ·exact .inr (List.mem_singleton.1 h)
 ·exact List.mem_or_eq_of_mem_set h
theorem zj(rs:List (List Sd))(n:Int)(s:Sd):(eP rs n s).flatten.length=rs.flatten.length:=by
 rw[List.length_flatten,List.length_flatten]
 congr 1
 apply List.ext_getElem?
 intro k
 rw[List.getElem?_map,List.getElem?_map]
 by_cases hk:k<rs.length
 ·have h1:=vM rs n s hk
  have hl:k<(eP rs n s).length:=by unfold eP;simpa using hk
  rw[N8,Oa hl] at h1
  rw[Oa hl,Oa hk]
  have h2:=yH rs n s k
  rw[N8,Oa hk] at h2
  simp only[Option.getD_some] at h1 h2
  simp only[Option.map_some,h1,h2]
 ·have hl:¬k<(eP rs n s).length:=by unfold eP;simpa using hk
  rw[List.getElem?_eq_none Ot,List.getElem?_eq_none Ot]
theorem Dd{e:Ed}(h:en e=N1):uk ⟨e.oside,e.oleft,e.oright,e.olow,e.ohigh⟩:=by
 unfold en im at h
 simp only[Bool.or_eq_false_iff,decide_eq_false_iff_not] at h
 obtain⟨⟨⟨h1,h2⟩,⟨⟨h3,h4⟩,h5⟩,h6⟩,h7⟩:=h
 exact⟨by have:=cZ h3;show e.oleft.length≤_;omega,by have:=cZ h4;show e.oright.length≤_;omega,by have:=cZ h5;show e.olow.length≤_;omega,by have:=cZ h6;show e.ohigh.length≤_;omega⟩
theorem DI{e:Ed}(h:en e=N1):e.text.length≤40∧e.lweight.length≤50:=by
 unfold en at h
 simp only[Bool.or_eq_false_iff,decide_eq_false_iff_not] at h
 omega
theorem LW{α:Type}{P:α→Prop}{c:Prop}[Decidable c]{a b:α}(h1:c→P a)(h2:¬c→P b):P (if c then a else b):=by
 by_cases h:c
 ·rw[if_pos h];exact h1 h
 ·rw[if_neg h];exact h2 h
theorem lG.NQ{j:du}{e:Ed}(h:lG j)(hg:en e=N1):lG (cT j e):=by
 obtain⟨h1,h2,h3,h4⟩:=h
 have ht:=DI hg
 have hb:lG j:=⟨h1,h2,h3,h4⟩
 unfold cT xA
 repeat' refine LW (P:=lG) (fun _=> ?_) (fun _=> ?_)
 all_goals first
  |exact hb
  |exact⟨h1,h2,h3,h4⟩
  |exact⟨by show e.text.length≤_;omega,h2,h3,h4⟩
  |exact⟨h1,by show(eP _ _ _).flatten.length≤_;rw[zj];exact h2,h3,h4⟩
  |exact⟨h1,h2,fun o ho=>(vZ ho).elim (h3 o) (fun q=>q▸Dd hg),h4⟩
  |exact⟨h1,h2,h3,fun o ho=>(vZ ho).elim (h4 o) (fun q=>by rw[q];show e.lweight.length≤_;omega)⟩
  |exact⟨h1,h2,fun o ho=>h3 o (List.mem_of_mem_eraseIdx ho),h4⟩
  |exact⟨h1,h2,h3,fun o ho=>h4 o (List.mem_of_mem_eraseIdx ho)⟩
theorem Ik{j:du}{e:Ed}(h:qJ j)(hg:en e=N1)(hi:e.index≤9223372036854775807):Ko j e:=
 ⟨h.sm,h.ln,h.sm.NQ hg,hi⟩
end
section
open Kp
attribute [local go_sem] PU PT
theorem mU(w:NY)(j:du)(a:fm)(e:Ed)(ga:Option Addr)(gc:Nat)(hb:bh w w.heap.size j a)(hg:cU w w.heap.size ga gc e.gaps)(hok:Ko j e)(hm:fl w)(ht:aL w):
  Of prog 8 #[.agg (dy j a),.agg (aG e (.slice ga e.gaps.length gc))] w fun x w'=>x= .returned (.int .i64 (yl j e))∧Ext w w':=by
 have e0:Ext w ((w.alloc (.cells (dy j a) 34)).alloc (.cells (aG e (.slice ga e.gaps.length gc)) 50)):=((Below.refl _ _).alloc (NZ _) _).alloc Ow _
 have HE0:=NW e0
 have HJ:=NW (JC.ext (NY.alloc_heap_new w _:JC (w.alloc (.cells (dy j a) 34)) w.heap.size j a) ((Below.refl _ _).alloc (NZ _) (.cells (aG e (.slice ga e.gaps.length gc)) 50)))
 have HZ:=NW (show EC ((w.alloc (.cells (dy j a) 34)).alloc (.cells (aG e (.slice ga e.gaps.length gc)) 50)) (w.heap.size+1) (aG e (.slice ga e.gaps.length gc)) by
  have:=EC.new (w.alloc (.cells (dy j a) 34)) (aG e (.slice ga e.gaps.length gc))
  rw[Oi] at this
  exact this)
 have KA:=NW (qP _ j a e ga gc (hb.grow e0) ((hg.below e0).more e0.size) hok (hm.below e0 (NZ _)) (ht.below e0 (NZ _)))
 obtain⟨z,hz⟩:∃z,yl j e=z:=⟨_,rfl⟩
 obtain⟨j',hj⟩:∃z,yh j e=z:=⟨_,rfl⟩
 unfold uD at KA
 simp only[hz,hj] at KA
 rw[hz]
 clear hz hj hb hg hok hm ht e0
 go_enter func8,ntmps8
 go_wp2_with(first
  |(go_at_call 7;go_must(refine KA.out.mono ?_);rintro x1 W1 ⟨a',rfl,hX1,_⟩;have HX1:=NW hX1;clear hX1)
  |(refine wpList_load_row rfl 34 _ rfl _ rfl 34 _ (0,0) _ HJ.out underlying34 rfl Ou ?_)
  |(refine wpList_load_row rfl 50 _ rfl _ rfl 50 _ (0,0) _ HZ.out underlying50 rfl Ou ?_)
  |(refine wpList_store_row rfl 34 _ _ rfl _ _ rfl rfl 34 _ (NY.alloc_heap_new W1 _) Ou Ou Ou ?_))
 go_ret
 exact⟨rfl,ah ((HE0.out.tr HX1.out).alloc (HE0.out.tr HX1.out).size _) (HE0.out.tr HX1.out).size _⟩
end
section
open Kp
theorem sf(s:By):Lib.splitB (tx [32]) 0 (Lib.countB (tx s) (tx [32])) (tx s)=(Lib.split s [32]).map tx:=by
 have h:=Lib.splitB_data (tx [32]) 0 (Lib.countB (tx s) (tx [32])) (tx s)
 rw[bE,bE] at h
 have hc:Lib.countB (tx s) (tx [32])=Lib.count s [32]:=by unfold Lib.countB;rw[bE,bE]
 rw[hc] at h⊢
 have h2:Lib.split s [32]=(Lib.splitB (tx [32]) 0 (Lib.count s [32]) (tx s)).map (·.data.toList):=h.symm
 rw[h2,List.map_map]
 have:(tx∘fun x:ByteArray=>x.data.toList)=id:=by funext x;exact lz x
 rw[this,List.map_id]
theorem rj(s:By):(Lib.split s [32]).length=Lib.countB (tx s) (tx [32])+1:=by
 have h:=Lib.splitB_all (tx [32]) Ov 0 _ (tx s) rfl
 rw[sf,N9] at h
 exact h
theorem Ca(s:By)(w:NY)(hs:s.length≤65536)(hm:fl w):
  Of prog 63 #[.string (tx s),.string ⟨#[32]⟩] w fun e w'=>e= .returned (.slice (N3 ⟨w.heap.size,0,N0⟩) (Lib.split s [32]).length (Lib.split s [32]).length)∧w'=w.alloc (.cells (qo (Lib.split s [32])).toArray 9):=by
 obtain⟨m,hm⟩:=hm
 refine(strings_Split (tx s) (tx [32]) m w PL hm Ov).mono ?_
 rintro e w' ⟨rfl,rfl⟩
 rw[rj]
 refine⟨rfl,?_⟩
 rw[sf,List.map_map]
 rfl
end
section
open Kp
attribute [local go_sem] PT P6 Qv QL QJ Qy QH QD QC QO QB Qc Qa Qn Qk Qj P8 P9 P3 P5 PX PZ P4 PW Qm Qe Qg P7 Qp Qr Qb Ql Qs Qh Qf Qu PV PY
structure Lr(w:NY)(e:Ed)(ga gb:Option Addr)(ca cb:Nat)(i:N2)(wr:NY):Prop where
 ex:∃k:Nat,k≤e.gaps.length∧i= .int .i64 (k:Int)
 ra:bO wr w.heap.size 44 (qt e ga ca)
 rb:bO wr (w.heap.size+1) 44 (qt e gb cb)
 low:On w.heap.size w wr
theorem Lr.JQ{w wr:NY}{e:Ed}{ga gb:Option Addr}{ca cb:Nat}{i:N2}(h:Lr w e ga gb ca cb i wr){k:Nat}(hk:k≤e.gaps.length)(n:Nat):Lr w e ga gb ca cb (.int .i64 (k:Int)) (wr.drewN n):=
 ⟨⟨k,hk,rfl⟩,h.ra.below (below_drewN (Below.refl wr.heap.size _) n) h.ra.lt,h.rb.below (below_drewN (Below.refl wr.heap.size _) n) h.rb.lt,below_drewN h.low n⟩
theorem yo(w:NY)(e:Ed)(ga gb:Option Addr)(ca cb:Nat)(ha:cU w w.heap.size ga ca e.gaps)(hb:cU w w.heap.size gb cb e.gaps):
  Of prog 65 #[.agg (qt e ga ca).toArray,.agg (qt e gb cb).toArray] w fun r w'=>r= .returned (.bool Oc)∧On w.heap.size w w':=by
 have la:=ha.1
 have lb:=hb.1
 have ca':=ha.2.1
 have cb':=hb.2.1
 unfold Ol at ca' cb'
 have HA:=NW ha
 have HB:=NW hb
 have R0:=NW (show Lr w e ga gb ca cb (.int .i64 0) ((w.alloc (.cells (qt e ga ca).toArray 44)).alloc (.cells (qt e gb cb).toArray 44)) from
  ⟨⟨0,Ot,rfl⟩,by unfold bO;rw[heap_alloc_old _ _ Ow];exact NY.alloc_heap_new _ _,by have:=NY.alloc_heap_new (w.alloc (.cells (qt e ga ca).toArray 44)) (.cells (qt e gb cb).toArray 44);rw[Oi] at this;exact this,((Below.refl _ _).alloc (NZ _) _).alloc Ow _⟩)
 clear ha hb
 go_enter func65,ntmps65
 go_wp2
 go_loopw [5] (fun i wr=>Lr w e ga gb ca cb i wr) (fun i _=>((e.gaps.length:Int)-Oh i).toNat)
 case atStart=>exact R0.out
 case round=>
  have HREL:=NW hrel
  obtain⟨⟨k,hk,rfl⟩,hra,hrb,hBr⟩:=hrel
  have rca:=fun i=>bO.cell hra i
  have rcb:=fun i=>bO.cell hrb i
  by_cases hlt:k<e.gaps.length
  ·obtain⟨_,_,hxa⟩:=HA.out.below hBr
   obtain⟨_,_,hxb⟩:=HB.out.below hBr
   obtain⟨ba,oa,rfl,_,cea⟩:=hxa Ot
   obtain⟨bb,ob,rfl,_,ceb⟩:=hxb Ot
   obtain⟨a1,a2⟩:=cea k hlt
   obtain⟨b1,b2⟩:=ceb k hlt
   rw[Og] at a1 a2 b1 b2
   obtain⟨x,y,hxy⟩:∃x y,e.gaps[k]=(x,y):=⟨_,_,rfl⟩
   rw[hxy] at a1 a2 b1 b2
   have hnq:=fun W=>A8 x y x y W
   simp only[beq_self_eq_true,Bool.and_self,Bool.not_true] at hnq
   have HN:=NW (fun n=>HREL.out.JQ (k:=k+1) Ot n)
   clear hra hrb hBr cea ceb hxa hxb hxy
   go_wp2
   go_quiet (fail)
   go_wp2
   refine⟨?_,Oy⟩
   exact HN.out _
  ·have hlt':decide ((k:Int)<(e.gaps.length:Int))=N1:=Oz
   have HLOW:=NW hBr
   clear hra hrb hBr
   go_wp2
   go_ret
   exact⟨rfl,HLOW.out⟩
theorem wU(w:NY)(e:Ed)(ga gb:Option Addr)(ca cb:Nat)(ha:cU w w.heap.size ga ca e.gaps)(hb:cU w w.heap.size gb cb e.gaps):
  Of prog 17 #[.agg (aG e (.slice ga e.gaps.length ca)),.agg (aG e (.slice gb e.gaps.length cb))] w fun r w'=>r= .returned (.bool Oc)∧On w.heap.size w w':=by
 have hB0:On w.heap.size w ((w.alloc (.cells (aG e (.slice ga e.gaps.length ca)) 50)).alloc (.cells (aG e (.slice gb e.gaps.length cb)) 50)):=((Below.refl _ _).alloc (NZ _) _).alloc Ow _
 have HB0:=NW hB0
 have EA:=NW ((fj.new w e (.slice ga e.gaps.length ca)).alloc (.cells (aG e (.slice gb e.gaps.length cb)) 50))
 have EB:=NW (show fj ((w.alloc (.cells (aG e (.slice ga e.gaps.length ca)) 50)).alloc (.cells (aG e (.slice gb e.gaps.length cb)) 50)) (w.heap.size+1) e (.slice gb e.gaps.length cb) by
  have:=fj.new (w.alloc (.cells (aG e (.slice ga e.gaps.length ca)) 50)) e (.slice gb e.gaps.length cb)
  rw[Oi] at this;exact this)
 have cb':=NW (yo _ e ga gb ca cb ((ha.below hB0).more OB) ((hb.below hB0).more OB))
 have eca:=fun i=>EA.out.cell i
 have ecb:=fun i=>EB.out.cell i
 have ts:oF e e=Oc:=by unfold oF;simp
 have tp:zQ e e=Oc:=by unfold zQ;simp
 have tz:qd e e=Oc:=by unfold qd;simp
 have tl:ou e e=Oc:=by unfold ou;simp
 have ta:yP e e=Oc:=by unfold yP;simp
 have tt:pw e e=Oc:=by unfold pw;simp
 have qside:=fun W=>xW e e W
 have gside:prog.eqGuardType prog.depth 36=N1:=Ou
 have qopn:=fun W=>Ab e e W
 have gopn:prog.eqGuardType prog.depth 39=N1:=Ou
 have qsize:=fun W=>vU e e W
 have gsize:prog.eqGuardType prog.depth 41=N1:=Ou
 have qload:=fun W=>xC e e W
 have gload:prog.eqGuardType prog.depth 46=N1:=Ou
 have qalw:=fun W=>AM e e W
 have galw:prog.eqGuardType prog.depth 48=N1:=Ou
 have qtile:=fun W=>yf e e W
 have gtile:prog.eqGuardType prog.depth 30=N1:=Ou
 rw[ts] at qside
 rw[tp] at qopn
 rw[tz] at qsize
 rw[tl] at qload
 rw[ta] at qalw
 rw[tt] at qtile
 clear ha hb hB0 ts tp tz tl ta tt
 go_enter func17,ntmps17
 go_wp2_with(go_at_call 65;go_must(refine cb'.out.mono ?_);rintro r W2 ⟨rfl,hB2⟩;have EA2:=NW (EA.out.below hB2 EA.out.lt);have EB2:=NW (EB.out.below hB2 EB.out.lt);have eca2:=fun i=>EA2.out.cell i;have ecb2:=fun i=>EB2.out.cell i)
 go_ret
 exact⟨rfl,HB0.out.trans (hB2.mono OB)⟩
end
section
open Kp
attribute [local go_sem] PT P6 Qv QL QJ Qy QH QD QC QO QB Qc Qa Qn Qk Qj P8 P9 P3 P5 PX PZ P4 PW Qm Qe Qg P7 Qp Qr Qb Ql Qs Qh Qf Qu PV PY QR eh QQ QP Qw
structure JG(e:Ed):Prop where
 kind:e.kind=8∨e.kind=12∧sF e.number=Oc
 used:ey e=e
 gaps:e.gaps=[]
 wide:kL 0 (gh e)=0
 num:numsOf e=[]
 sized:Ea e
 ne:dH [] (fL e)≠[]
theorem He(w:NY)(e:Ed)(he:JG e):Of prog 18 #[.agg (aG e cD)] w fun r w'=>r= .returned (.int .i64 0)∧On w.heap.size w w':=by
 have h:=wB w e N0 0 (by rw[he.gaps];exact iY _ _)
 have hz:dQ e=0:=by
  unfold dQ
  rw[if_neg (by have:=he.kind;omega),he.used,(Cg e e).2 rfl];rfl
 rw[hz,he.gaps] at h
 exact h
theorem El(B b:Nat)(e:Ed)(w:NY)(he:JG e)(h:j9 B b 0 0 [] w)(hg:Gl w)(hB:9≤B)(hBw:B≤w.heap.size):Of prog 61 #[nZ b,.agg (aG e cD)] w (nV B b 0 0 (dH [] (fL e)) w):=by
 have h:Of prog 61 #[nZ b,.agg (aG e cD)] w (Au B b e w):=by
  rcases he.kind with k|k
  ·exact IF B b e N0 0 0 w h he.sized k hg hB hBw
  ·exact Ev B b e N0 0 0 w h he.sized k.1 hg hB hBw
 unfold Au at h
 rwa[he.wide,he.num] at h
structure Nv(w:NY)(e:Ed)(wx:NY):Prop where
 ed:fj wx w.heap.size e cD
 low:On w.heap.size w wx
theorem j9.fresh(w:NY)(B:Nat)(hB:B≤w.heap.size):j9 B w.heap.size 0 0 [] (w.alloc (.cells #[.pointer N0,.slice N0 0 0,.int .i64 0,.int .i64 0] 112)):=
 ⟨.pointer N0,.inl rfl,hB,.slice N0 0 0,NY.alloc_heap_new w _,World.ownsRow_nil _ _ _ _,by simp[Value.ownBlock]⟩
theorem um(w:NY)(e:Ed)(he:JG e)(hgl:Gl w)(hB:9≤w.heap.size):Of prog 15 #[.agg (aG e cD)] w fun r w'=>r= .returned (.tuple #[.string (tx (dH [] (fL e))),.int .i64 0])∧On w.heap.size w w':=by
 have HB0:=NW (show On w.heap.size w (w.alloc (.cells (aG e cD) 50)) from(Below.refl _ _).alloc (NZ _) _)
 have cf:=NW (He (w.alloc (.cells (aG e cD) 50)) e he)
 have E0:=NW (fj.new w e cD)
 have HE:=NW he
 have HGL:=NW hgl
 have k1:(e.kind==1)=N1:=by rw[beq_eq_false_iff_ne];have:=he.kind;omega
 have k6:(e.kind==6)=N1:=by rw[beq_eq_false_iff_ne];have:=he.kind;omega
 have hr:e.kind=12→sF e.number=Oc:=fun h=>by rcases he.kind with k|k;omega;exact k.2
 obtain⟨b,k12⟩:∃b,(e.kind==12)=b:=⟨_,rfl⟩
 obtain⟨c,kr⟩:∃c,sF e.number=c:=⟨_,rfl⟩
 have hbc:b=N1∨c=Oc:=by
  cases b
  ·exact .inl rfl
  ·exact .inr (by rw[←kr];exact hr (by simpa using k12))
 clear he hgl hr
 go_enter func15,ntmps15
 go_upto_region 4 with(first
  |(refine wpList_load_row rfl 50 _ rfl _ rfl 50 _ (0,0) _ E0.out underlying50 rfl Ou ?_)
  |(go_at_call 18;refine cf.out.mono ?_;rintro r W1 ⟨rfl,hB1⟩;have E1:=NW (E0.out.below hB1 E0.out.lt);have ec1:=fun i=>E1.out.cell i;have hz1:=hB1.size;simp only[Oi] at hz1;have HB1:=NW (HB0.out.trans (hB1.mono HB0.out.size));clear hB1))
 go_cut [6] (fun s6 wx=>s6= .bool c∧Nv w e wx)
 case first =>
  go_region_with (go_at_call 59;go_loud (refine(nA _).mono ?_;rintro r W2 ⟨rfl,hW2⟩;have HB2:=NW (show On W1.heap.size W1 W2 by rw[hW2];exact(Below.refl _ W1).drew.alloc (NZ _) _);have hlk:=wM W2 W1.heap.size 6 (by rw[hW2];exact NY.alloc_heap_new W1.drew _) e.number Oc;have E2:=NW (E1.out.below HB2.out E1.out.lt);have ec2:=fun i=>E2.out.cell i;simp only[if_true] at hlk;rw[kr] at hlk;clear hW2))
  all_goals go_wp2_with fail
  all_goals go_meet
  all_goals exact⟨rfl,E2.out,HB1.out.trans (HB2.out.mono Ot)⟩
 case rest=>
  obtain⟨rfl,ed,hlow⟩:=hcut
  have ED:=NW ed
  have ec:=fun i=>ED.out.cell i
  have HLOW:=NW hlow
  have hlz:=hlow.size
  have HN:=NW (fun n=>(show fj (wc.drewN n) w.heap.size e cD from ED.out))
  clear ed hlow ec1
  go_upto_block 0 with(fail)
  go_cut [] (fun wz=>Nv w e wz)
  case first =>
   rcases hbc with rfl|rfl<;>(try cases b)<;>(go_wp2;go_quiet (fail);go_wp2;go_meet;exact⟨HN.out _,below_drewN HLOW.out _⟩)
  case rest=>
   obtain⟨ed2,low2⟩:=hcut
   have hz2:=low2.size
   have L2:=NW low2
   have WF:=NW (j9.fresh wc w.heap.size hz2)
   have B2:=NW (L2.out.alloc hz2 (.cells #[.pointer N0,.slice N0 0 0,.int .i64 0,.int .i64 0] 112))
   have E3:=NW (ed2.alloc (.cells #[.pointer N0,.slice N0 0 0,.int .i64 0,.int .i64 0] 112))
   have cw:=NW (El w.heap.size wc.heap.size e _ HE.out WF.out (HGL.out.keep B2.out hB) hB OB)
   clear ed2 low2 ec hlz E0 hbc
   go_wp2_with(first
    |(refine wpList_load_row rfl 50 _ rfl _ rfl 50 _ (0,0) _ E3.out underlying50 rfl Ou ?_)
    |(go_at_call 61;go_must(refine cw.out.mono ?_);rintro r W5 ⟨rfl,hw5,hk5⟩;have c2:=hw5.IX;have c3:=hw5.LP;obtain⟨p5,_,hb5⟩:=hw5;have HB5:=NW hb5;have K5:=NW hk5;clear hb5 hk5)
    |(go_at_call 62;go_must(refine(jZ _ _ _ _ _ _ _ HB5.out HE.out.ne).mono ?_);rintro r W6 ⟨rfl,hk6⟩;have K6:=NW (K5.out.trans hk6);clear hk6))
   go_ret2
   exact⟨rfl,B2.out.trans K6.out.low⟩
theorem GG(B b:Nat)(r:nN)(w:NY)(h:eF B w.heap.size b r w)(hk:kindOf (rW r).1=8)(hg:Gl w)(hB:9≤B)(hBw:B≤w.heap.size):
  Of prog 64 #[nZ b] w fun e w'=>e= .returned (.agg (aG (rE r).1 cD))∧eF B w.heap.size b (rE r).2 w'∧be B b w w':=by
 have hbl:=h.hi
 have H0:=NW h
 have HG:=NW hg
 have HK:=NW hk
 have HE:=NW (show rE r=({Gk 8 with number:=(rI (rW r).2).1},(rI (rW r).2).2) by simp only[rE,hk];rfl)
 clear h hg hk
 go_enter func64,ntmps64
 go_wp2_with(first
  |(go_at_call 123;refine(Cx B w.heap.size b _ _ H1.out (HG.out.keep (be.low K1.out) hB) hB PE).mono ?_;rintro e W2 ⟨rfl,h2,k2⟩;have H2:=NW h2;have C2:=NW (EC.keep (C:=_) C1.out k2 Ot);have Z2:=NW (EC.keep (C:=_) Z1.out k2 Ot);have K2:=NW (be.trans K1.out k2);have z2:=k2.low.size;(try simp only[Oi,NY.size_setCell] at z2);have cc2:=fun i=>C2.out.cell i;have cf2:=fun i=>C2.out.frozen i;clear h2 k2)
  |(go_at_call 121;refine(yy _).mono ?_;rintro e W0 ⟨rfl,hW0⟩;have H00:=NW (show eF B w.heap.size b r W0 by rw[hW0];exact(H0.out.alloc _).alloc _);have K00:=NW (show be B b w W0 by rw[hW0];exact((be.refl B b w).alloc hBw _).alloc OB _);have M00:=NW (show W0.heap[w.heap.size+1]?=N3 (.map o8 12) by rw[hW0];have:=NY.alloc_heap_new (w.alloc (.cells (aG kA cD) 50)) (.map o8 12);rw[Oi] at this;exact this);have Z00:=NW (show EC W0 w.heap.size (aG kA cD) by rw[hW0];exact(EC.new w _).alloc _);have zz0:W0.heap.size=w.heap.size+1+1:=(by rw[hW0];simp);clear hW0)
  |(go_at_call 122;refine(px B w.heap.size b _ _ H00.out).mono ?_;rintro e W1 ⟨rfl,h1,k1⟩;have z1:=k1.low.size;have hlk:=EK W1 (w.heap.size+1) 12 ((k1.others _ Ot Ot).trans M00.out) (rW r).1;rw[HK.out] at hlk;have H1:=NW (h1.alloc (.cells (aG (Gk 8) cD) 50));have C1:=NW (EC.new W1 (aG (Gk 8) cD));have Z1:=NW ((Z00.out.keep k1 Ot).alloc (.cells (aG (Gk 8) cD) 50));have K1:=NW ((K00.out.trans k1).alloc Ot (.cells (aG (Gk 8) cD) 50));clear h1 k1)
  |(refine wpList_build rfl 50 _ rfl Ou ?_;rw[show Value.agg (Option.getD (prog.built 50 _) #[])= .agg (aG (Gk 8) cD) from Ou])
  |(refine wpList_load_row rfl 50 _ rfl _ rfl 50 _ (0,0) _ (EC.heap (C2.out.put 35 (.int .i64 (rI (rW r).2).1))) underlying50 rfl Ou ?_)
  |(refine wpList_store_row rfl 50 _ _ rfl _ _ rfl rfl 50 _ (by first|exact(EC.heap (Z2.out.cI (p:=⟨W1.heap.size,35,N0⟩) PE (.int .i64 (rI (rW r).2).1)))|exact NY.alloc_heap_new W1 _) Ou Ou Ou ?_))
 refine bodyPost_ret (results_cell_row rfl _ _ _ _ _ (0,0) _ rfl (setRow_heap (EC.heap (Z2.out.cI (p:=⟨W1.heap.size,35,N0⟩) PE (.int .i64 (rI (rW r).2).1))) _) underlying50 rfl Ou) rfl ⟨congrArg (fun c=>Ending.returned (.agg c)) ?_,?_,?_⟩
 ·rw[HE.out];kernel_rfl
 ·rw[HE.out];exact eF.row (H2.out.cI (p:=⟨W1.heap.size,35,N0⟩) PE (.int .i64 (rI (rW r).2).1)) (NZ _) _
 ·exact be.row (K2.out.cI (p:=⟨W1.heap.size,35,N0⟩) PE PE (.int .i64 (rI (rW r).2).1)) (NZ _) Ot _
theorem qj{fn:Func}{p u:Tmp}(h:fn.results=#[.cell p 50,.tmp u])(tmps:Array N2)(w:NY)(g:Nat)(cs:Array N2)
  (hp:tmps.getD p N7= .pointer (N3 ⟨g,0,N0⟩))(hg:w.heap[g]?=N3 (.cells cs 50 (0,0)))(hi:(prog.info? 50).map (·.size)=N3 cs.size):
  (results fn tmps).run prog w= .ok (.tuple #[.agg cs,tmps.getD u N7]) w:=by
 have hp':tmps[p]?.getD N7= .pointer (N3 ⟨g,0,N0⟩):=by simpa using hp
 have hl:=run_loadVar_row (P:=prog) w g 50 50 cs (0,0) _ hg underlying50 rfl hi
 simp[results,h,hp',asAddr,hl,Result.andThen]
theorem zL(s:By)(hs:s.length≤65536):(Lib.split s [32]).length≤65537:=by
 have hc:Lib.countB (tx s) (tx [32])=Lib.count s [32]:=by unfold Lib.countB;rw[bE,bE]
 rw[rj,hc,Lib.count_one]
 have:=List.count_le_length (a:=(32:UInt8)) (l:=s)
 omega
theorem JS(w:NY)(ws:List By)(h1:ws.length≤1000000)(h2:∀x∈ws,x.length≤100000):
  eF w.heap.size (((w.alloc (.cells (aG kA cD) 50)).alloc (.cells (qo ws).toArray 9)).alloc (.cells #[.slice (N3 ⟨w.heap.size+1,0,N0⟩) (ws).length (ws).length,.bool N1] 117)).heap.size (w.heap.size+1+1) (ws,N1) (((w.alloc (.cells (aG kA cD) 50)).alloc (.cells (qo ws).toArray 9)).alloc (.cells #[.slice (N3 ⟨w.heap.size+1,0,N0⟩) (ws).length (ws).length,.bool N1] 117)):=by
 have hb:=NY.alloc_heap_new ((w.alloc (.cells (aG kA cD) 50)).alloc (.cells (qo ws).toArray 9)) (.cells #[.slice (N3 ⟨w.heap.size+1,0,N0⟩) ws.length ws.length,.bool N1] 117)
 have hc:(((w.alloc (.cells (aG kA cD) 50)).alloc (.cells (qo ws).toArray 9)).alloc (.cells #[.slice (N3 ⟨w.heap.size+1,0,N0⟩) (ws).length (ws).length,.bool N1] 117)).heap[w.heap.size+1]?=N3 (.cells (qo ws).toArray 9):=by
  rw[heap_alloc_old _ _ Ow]
  have:=NY.alloc_heap_new (w.alloc (.cells (aG kA cD) 50)) (.cells (qo ws).toArray 9)
  rw[Oi] at this
  exact this
 simp only[Oi] at hb
 refine⟨Ot,Ow,⟨w.heap.size+1,0,ws.length,hb,Ot,Ow,NZ _,h1,⟨_,hc⟩,fun j hj=> ?_⟩,h2⟩
 have hj':j<ws.length:=hj
 rw[Nat.zero_add,bO.cell (l:=qo ws) hc j]
 simp[hj']
theorem F4(s:By)(E:Ed)(w:NY)(he:JG E)(hs:s.length≤65536)(hER:rE (Lib.split s [32],N1)=(E,([],N1)))(hk:kindOf (rW (Lib.split s [32],N1)).1=8)(ht:dH [] (fL E)=s)(hx:∀x∈Lib.split s [32],x.length≤1000)(hg:Gl w)(hB:9≤w.heap.size):
  Of prog 16 #[.string (tx s)] w fun r w'=>r= .returned (.tuple #[.agg (aG E cD),.int .i64 0])∧On w.heap.size w w':=by
 have hB0:On w.heap.size w (w.alloc (.cells (aG kA cD) 50)):=(Below.refl _ _).alloc (NZ _) _
 have hB2:On w.heap.size w (((w.alloc (.cells (aG kA cD) 50)).alloc (.cells (qo (Lib.split s [32])).toArray 9)).alloc (.cells #[.slice (N3 ⟨w.heap.size+1,0,N0⟩) ((Lib.split s [32])).length ((Lib.split s [32])).length,.bool N1] 117)):=(hB0.alloc Ow _).alloc OB _
 have csp:=NW (Ca s (w.alloc (.cells (aG kA cD) 50)) hs (hg.keep hB0 hB).maxl)
 have CR:=GG w.heap.size (w.heap.size+1+1) (Lib.split s [32],N1) _ (JS w _ (by have:=zL s hs;omega) (fun x h=>by have:=hx x h;omega)) hk (hg.keep hB2 hB) hB OB
 rw[hER] at CR
 have CR:=NW CR
 have HG:=NW hg
 have HE:=NW he
 have HT:=NW ht
 have Z2:=NW (show EC (((w.alloc (.cells (aG kA cD) 50)).alloc (.cells (qo (Lib.split s [32])).toArray 9)).alloc (.cells #[.slice (N3 ⟨w.heap.size+1,0,N0⟩) ((Lib.split s [32])).length ((Lib.split s [32])).length,.bool N1] 117)) w.heap.size (aG kA cD) from((EC.new w _).alloc _).alloc _)
 have HB2:=NW hB2
 clear hg hB0 hx hB2 hER hk he ht
 go_enter func16,ntmps16
 go_wp2_with(first
  |(go_at_call 63;refine csp.out.mono ?_;rintro e W1 ⟨rfl,hW1⟩;subst hW1)
  |(go_at_call 64;go_must(refine CR.out.mono ?_);rintro e W3 ⟨rfl,hrd,hkp⟩;obtain⟨c1,_,A,cp,c0⟩:=(hrd.alloc (.cells (aG E cD) 50)).cells;have hz3:=hkp.low.size;simp only[Oi] at hz3;have Z3:=NW ((Z2.out.keep hkp Ot).alloc (.cells (aG E cD) 50));have C3:=NW (EC.new W3 (aG E cD));have L3:=NW ((HB2.out.trans hkp.low).alloc Ot (.cells (aG E cD) 50));simp only[] at c1;simp only[List.length_nil] at c0;have ctx:=NW (um (W3.alloc (.cells (aG E cD) 50)) E HE.out (HG.out.keep L3.out hB) OB);clear hrd hkp)
  |(go_at_call 15;go_must(refine ctx.out.mono ?_);rintro r W5 ⟨rfl,hB5⟩;rw[HT.out];have Z5:=NW (show EC W5 w.heap.size (aG kA cD) from(hB5.block _ Z3.out.lt).trans Z3.out);have C5:=NW (show EC W5 W3.heap.size (aG E cD) from(hB5.block _ C3.out.lt).trans C3.out);have L5:=NW (L3.out.trans (hB5.mono L3.out.size));have hz5:=hB5.size;simp only[Oi] at hz5;clear hB5)
  |(refine wpList_store_row rfl 50 _ _ rfl _ _ rfl rfl 50 _ (EC.heap Z5.out) Ou Ou Ou ?_)
  |(refine wpList_load_row rfl 50 _ rfl _ rfl 50 _ (0,0) _ (EC.heap C5.out) underlying50 rfl Ou ?_)
  |(refine wpList_load_row rfl 50 _ rfl _ rfl 50 _ (0,0) _ (EC.heap C3.out) underlying50 rfl Ou ?_)
  |(refine wpList_store_row rfl 50 _ _ rfl _ _ rfl rfl 50 _ (NY.alloc_heap_new W3 _) Ou Ou Ou ?_))
 refine bodyPost_ret (qj rfl _ _ _ _ rfl (setRow_heap (EC.heap Z5.out) _) Ou) rfl ?_
 exact⟨rfl,ah L5.out (NZ _) _⟩
theorem fF{ops:Array Oper}{rest:List Oper}{o:Oper}{a:Act}{w:NY}{Q:Exit→Act→NY→Prop}(hw:Region.wanted o (yielded ops a.tmps)=Oc)(x:Operand)(ho:o.op= .load 50 x)
  (g:Nat)(hx:a.eval x= .pointer (N3 ⟨g,0,N0⟩))(cs:Array N2)(hg:w.heap[g]?=N3 (.cells cs 50 (0,0)))(hi:(prog.info? 50).map (·.size)=N3 cs.size)
  (h:wpList prog ops Q rest (a.put o.dst (.agg cs)) w):wpList prog ops Q (o::rest) a w:=
 wpList_step fun _ hK=>by
  rw[if_pos hw]
  exact wp_load_row 50 x ho g hx 50 cs (0,0) _ hg underlying50 rfl hi (hK _ _ h)
theorem iC{ops:Array Oper}{rest:List Oper}{o:Oper}{a:Act}{w:NY}{Q:Exit→Act→NY→Prop}(hw:Region.wanted o (yielded ops a.tmps)=Oc)(t:Oo)(parts:Array (Nat×Operand))(ho:o.op= .build t parts)
  (hf:(prog.built t (parts.map fun(i,x)=>(i,a.eval x)).toList).isSome=Oc)
  (h:wpList prog ops Q rest (a.put o.dst (.agg ((prog.built t (parts.map fun(i,x)=>(i,a.eval x)).toList).getD #[]))) w):wpList prog ops Q (o::rest) a w:=
 wpList_step fun _ hK=>by
  rw[if_pos hw]
  exact wp_build t parts ho hf (hK _ _ h)
def lk:Ed:={Gk 8 with number:=3}
def GQ:Ed:={Gk 12 with number:=5,index:=1}
abbrev I6:By:=[107,101,114,102,32,51]
abbrev M1:By:=[114,101,109,111,118,101,32,111,112,101,110,105,110,103,32,49]
theorem oW:dH [] (fL lk)=I6:=PN
theorem AU:dH [] (fL GQ)=M1:=PN
theorem FK{e:Ed}{n:Int}(hk:e.kind=8∨e.kind=12∧sF e.number=Oc)(h2:ey e=e)(h3:e.gaps=[])(h4:gh e=[n])(h5:numsOf e=[])(h6:e.text=[])(hn:0≤n∧n≤9)(h7:dH [] (fL e)≠[]):JG e:=
 ⟨hk,h2,h3,by rw[h4];rcases(show n=0∨n=1∨n=2∨n=3∨n=4∨n=5∨n=6∨n=7∨n=8∨n=9 by omega) with rfl|rfl|rfl|rfl|rfl|rfl|rfl|rfl|rfl|rfl<;>rfl,h5,
  ⟨(by rw[h4];intro m hm;obtain rfl:=List.mem_singleton.1 hm;exact⟨Ot,Ot⟩),(by rw[h5];intro a ha;cases ha),(by rw[h6];exact Nat.zero_le _)⟩,h7⟩
theorem Am:JG lk:=FK (.inl rfl) rfl rfl (n:=3) rfl rfl rfl Ov (by rw[oW];decide)
theorem Jv:JG GQ:=FK (.inr ⟨rfl,rfl⟩) rfl rfl (n:=1) rfl rfl rfl Ov (by rw[AU];decide)
theorem BY(w:NY)(hg:Gl w)(hB:9≤w.heap.size):Of prog 6 #[] w fun r w'=>r= .returned (.bool Oc)∧On w.heap.size w w':=by
 have c1:=um w lk Am hg hB
 rw[oW] at c1
 have c1:=NW c1
 have HG:=NW hg
 have n2:cU w w.heap.size N0 0 lk.gaps:=iY _ _
 clear hg n2
 go_enter func6,ntmps6
 go_wp2_with(first
  |(go_at_call 17;refine(wU _ lk N0 N0 0 0 (iY _ _) (iY _ _)).mono ?_;rintro r W4 ⟨rfl,hB4⟩;have L4:=NW (L3.out.trans (hB4.mono L3.out.size));clear hB4)
  |(go_at_call 16;refine(F4 I6 lk W2 Am Ov Ou Ou oW PN (HG.out.keep L2.out hB) Ot).mono ?_;rintro r W3 ⟨rfl,hB3⟩;have C3:=NW (EC.new W3 (aG lk cD));have L3:=NW ((L2.out.trans (hB3.mono L2.out.size)).alloc (by have:=hB3.size;omega) (.cells (aG lk cD) 50));clear hB3)
  |(go_at_call 15;refine(um W1 GQ Jv (HG.out.keep L1.out hB) Ot).mono ?_;rw[AU];rintro r W2 ⟨rfl,hB2⟩;have hz2:=hB2.size;have L2:=NW (L1.out.trans (hB2.mono L1.out.size));clear hB2)
  |(go_at_call 15;go_must(refine c1.out.mono ?_);rintro r W1 ⟨rfl,hB1⟩;have hz1:=hB1.size;have L1:=NW hB1;clear hB1)
  |(refine fF OR _ rfl _ rfl _ (EC.heap C3.out) Ou ?_)
  |(refine wpList_store_row rfl 50 _ _ rfl _ _ rfl rfl 50 _ (NY.alloc_heap_new W3 _) Ou Ou Ou ?_)
  |(refine iC OR 50 #[(0,.const (.int .i64 12)),(9,.const (.int .i64 5)),(1,.const (.int .i64 1))] rfl Ou ?_;go_must(rw[show Value.agg (Option.getD (prog.built 50 _) #[])= .agg (aG GQ cD) from Ou]))
  |(refine iC OR 50 #[(0,.const (.int .i64 8)),(9,.const (.int .i64 3))] rfl Ou ?_;go_must(rw[show Value.agg (Option.getD (prog.built 50 _) #[])= .agg (aG lk cD) from Ou])))
 go_ret
 exact⟨rfl,L4.out⟩
end
section
open Kp
def MJ(j:du)(e:Ed)(m:Int)(j':du):Prop:=
 (m=1∧j'={j with name:=e.text})∨(m=2∧∃x,j'={j with rings:=x})∨(m=3∧j'={j with origin:=e.index,spacing:=e.number})∨(m=4∧∃x,j'={j with purlins:=x})∨(m=5∧∃x,j'={j with openings:=x})∨
 (m=6∧∃x,j'={j with sizes:=x})∨(m=7∧∃x,j'={j with bars:=x})∨(m=8∧j'={j with kerf:=e.number})∨(m=9∧j'={j with tile:=⟨e.twidth,e.tlength,e.tlap,e.ttail⟩})∨(m=10∧∃x,j'={j with aq:=x})∨(m=11∧∃x,j'={j with spans:=x})
theorem GM{j:du}{e:Ed}(h:vY j e=0):MJ j e e.number (xA j e):=by
 unfold vY at h
 unfold xA MJ
 by_cases h4:e.number=4
 ·rw[if_pos h4];exact .inr (.inr (.inr (.inl ⟨h4,_,rfl⟩)))
 rw[if_neg h4] at h⊢
 by_cases h5:e.number=5
 ·rw[if_pos h5];exact .inr (.inr (.inr (.inr (.inl ⟨h5,_,rfl⟩))))
 rw[if_neg h5] at h⊢
 by_cases h6:e.number=6
 ·rw[if_pos h6];exact .inr (.inr (.inr (.inr (.inr (.inl ⟨h6,_,rfl⟩)))))
 rw[if_neg h6] at h⊢
 by_cases h7:e.number=7
 ·rw[if_pos h7];exact .inr (.inr (.inr (.inr (.inr (.inr (.inl ⟨h7,_,rfl⟩))))))
 rw[if_neg h7] at h⊢
 by_cases h10:e.number=10
 ·rw[if_pos h10];exact .inr (.inr (.inr (.inr (.inr (.inr (.inr (.inr (.inr (.inl ⟨h10,_,rfl⟩)))))))))
 rw[if_neg h10] at h⊢
 by_cases h11:e.number=11
 ·rw[if_pos h11];exact .inr (.inr (.inr (.inr (.inr (.inr (.inr (.inr (.inr (.inr ⟨h11,_,rfl⟩)))))))))
 rw[if_neg h11] at h
 cases h
theorem Jp{j:du}{e:Ed}(h:yl j e=0):MJ j e (if e.kind=12 then e.number else e.kind) (cT j e):=by
 unfold yl at h
 split at h
 ·cases h
 split at h
 ·exact absurd h OD
 rename_i _ hf
 have hk:=rz (Classical.not_not.1 hf)
 split at h
 ·exact absurd h OD
 rename_i hc
 replace hc:=Classical.not_not.1 hc
 by_cases h12:e.kind=12
 ·rw[if_pos h12]
  have h1:ej j e=vY j e:=by unfold ej;simp[h12]
  have h2:cT j e=xA j e:=by unfold cT;simp[h12]
  rw[h2]
  exact GM (h1▸hc)
 ·rw[if_neg h12]
  unfold cT MJ
  rcases(show e.kind=1∨e.kind=2∨e.kind=3∨e.kind=4∨e.kind=5∨e.kind=6∨e.kind=7∨e.kind=8∨e.kind=9∨e.kind=10∨e.kind=11 by omega) with h|h|h|h|h|h|h|h|h|h|h
  all_goals simp[h]
end
end Go.Proofs.YtnpihidbkhehjaaGreatDoor
