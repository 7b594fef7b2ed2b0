/- ChangeOnly of kingpostlaw58: part 34 of its proof (merged and shortened by program). -/
import Derived.Test.YtnpihidbkhehjaaGreatDoorM33
set_option linter.unusedVariables false
set_option linter.unusedSimpArgs false
set_option linter.defProp false
set_option maxHeartbeats 8000000
set_option maxRecDepth 100000
open Go.RowKit Go.Shelf Go.Proofs.Tryz
open Array renaming getElem?_eq_some_iff→Od
open Bool renaming false→N1,true→Oc
open Go renaming World→NY,Value→N2,undef→N7,wpOp_step→Ob,Calls→Of,maxLen→Ol,TypeId→Oo
open Go.AllReady renaming cons→Oj,nil→Oq
open Go.IntKind renaming i64→Oe
open Go.IntWalk renaming i64_in→Om
open Go.Lib renaming hid→NW
open Go.RowKit renaming intOf→Oh,Below→On
open Go.World renaming size_alloc→Oi
open List renaming getD_eq_getElem?_getD→N8,length_map→N9,getElem?_eq_getElem→Oa
open Nat renaming le_refl→NZ,mul_comm→Og,le_trans→Ok
open Option renaming none→N0,some→N3
open Go.Proofs.YtnpihidbkhehjaaGreatDoor
namespace Go.Proofs.YtnpihidbkhehjaaGreatDoor
section
open Kp
attribute [local go_sem] PU
theorem fE{ops:Array Oper}{rest:List Oper}{o:Oper}{a:Act}{w:NY}{Q:Exit→Act→NY→Prop}(hw:Region.wanted o (yielded ops a.tmps)=Oc)(x:Operand)(ho:o.op= .load 34 x)
  (g:Nat)(hx:a.eval x= .pointer (N3 ⟨g,0,N0⟩))(cs:Array N2)(hg:w.heap[g]?=N3 (.cells cs 34 (0,0)))(hi:(prog.info? 34).map (·.size)=N3 cs.size)
  (h:wpList prog ops Q rest (a.put o.dst (.agg cs)) w):wpList prog ops Q (o::rest) a w:=
 wpList_step fun _ hK=>by
  rw[if_pos hw]
  exact wp_load_row 34 x ho g hx 34 cs (0,0) _ hg underlying34 rfl hi (hK _ _ h)
theorem xu.Ny{j:du}(h:xu j)(h32:j.openings.length≤32):∀i,i<j.openings.length→jb (j.openings.getD i fK):=by
 intro i hi
 rcases h.o.six with h6|h6
 ·exact h.o.w i hi Ot
 ·omega
theorem xu.fw{j:du}(h:xu j):Lu j:=
 ⟨by have:=h.name;omega,by have:=h.r.f;omega,fun h32 i hi=>(h.Ny h32 i hi).sm,h.l.w⟩
structure qJ(j:du):Prop where
 gr:xu j
 o:j.openings.length≤32
def LQ(P:Prop)(x:Ending):Prop:=∃b:Bool,x= .returned (.bool b)∧(b=Oc→P)
theorem zo(w:NY)(j:du)(a:fm)(hb:bh w w.heap.size j a)(hbig:j.rings.flatten.length≤4000000000)(ht:aL w):
  Of prog 4 #[.agg (dy j a)] w fun x w'=>LQ (qJ j) x∧Ext w w':=by
 have E0:=NW (show Ext w (w.alloc (.cells (dy j a) 34)) from(Below.refl _ _).alloc (NZ _) _)
 have J0:JC (w.alloc (.cells (dy j a) 34)) w.heap.size j a:=NY.alloc_heap_new w _
 obtain⟨w0,hw0⟩:∃w0,w.alloc (.cells (dy j a) 34)=w0:=⟨_,rfl⟩
 rw[hw0] at E0 J0
 have HW0:=NW hw0
 have HJ:=NW J0
 have KG:=NW (vJ w0 j a (hb.grow E0.out) hbig)
 have KC:=NW (fun W (h:Ext w0 W) (g:xu j)=>wu W j a (hb.grow (E0.out.tr h)) g.fw (ht.below (E0.out.tr h) (NZ _)))
 clear hb hbig ht hw0 J0
 go_enter func4,ntmps4
 go_wp2_with(first
  |(go_at_call 11;fail)
  |(rw[HW0.out];refine wpList_load_row rfl 34 _ rfl _ rfl 34 _ (0,0) _ HJ.out underlying34 rfl Ou ?_))
 try rw[HW0.out]
 refine KG.out.mono ?_
 rintro e W1 ⟨⟨b,rfl,h1⟩,hX1⟩
 have X1:=NW hX1
 have G1:=NW h1
 have J1:=NW (JC.ext HJ.out hX1)
 clear hX1 h1
 cases b
 ·have HG:=NW (G1.out rfl)
  go_wp2_with(first
   |(go_at_call 12;go_loud (refine(KC.out _ X1.out HG.out).mono ?_);rintro e W2 ⟨⟨k,rfl,hk⟩,hX2⟩;have X2:=NW (X1.out.tr hX2);have HK:=NW hk;clear hX2 hk)
   |(refine fE OR _ rfl _ rfl _ J1.out Ou ?_))
  go_ret
  exact⟨⟨_,rfl,fun h=>⟨HG.out,HK.out O5⟩⟩,E0.out.tr X2.out⟩
 ·go_wp2_with fail
  go_ret
  exact⟨⟨_,rfl,fun h=>Ox⟩,E0.out.tr X1.out⟩
end
end Go.Proofs.YtnpihidbkhehjaaGreatDoor
