/- ChangeOnly of kingpostlaw58: part 22 of its proof (merged and shortened by program). -/
import Derived.Test.YtnpihidbkhehjaaGreatDoorM21
set_option linter.unusedVariables false
set_option linter.unusedSimpArgs false
set_option linter.defProp false
set_option maxHeartbeats 8000000
set_option maxRecDepth 100000
open Go.RowKit Go.Shelf Go.Proofs.Tryz
open Array renaming getElem?_eq_some_iff→Od
open Bool renaming false→N1,true→Oc
open Go renaming World→NY,Value→N2,undef→N7,wpOp_step→Ob,Calls→Of,maxLen→Ol,TypeId→Oo
open Go.AllReady renaming cons→Oj,nil→Oq
open Go.IntKind renaming i64→Oe
open Go.IntWalk renaming i64_in→Om
open Go.Lib renaming hid→NW
open Go.RowKit renaming intOf→Oh,Below→On
open Go.World renaming size_alloc→Oi
open List renaming getD_eq_getElem?_getD→N8,length_map→N9,getElem?_eq_getElem→Oa
open Nat renaming le_refl→NZ,mul_comm→Og,le_trans→Ok
open Option renaming none→N0,some→N3
open Go.Proofs.YtnpihidbkhehjaaGreatDoor
namespace Go.Proofs.YtnpihidbkhehjaaGreatDoor
section
open Kp
def wX(a b:Aw):Int:=zH (Lib.compareInt a.width b.width) (Lib.compareInt a.depth b.depth) (Lib.compareInt a.spacing b.spacing) (Lib.compareInt a.load b.load)
def Ae(n:Nat)(a b:Aw)(i:Nat)(v:N2)(_:NY):Prop:=
 match i with
 |0=>v= .pointer (N3 ⟨n,0,N0⟩)
 |1=>v= .int .i64 a.width
 |2=>v= .pointer (N3 ⟨n+1,0,N0⟩)
 |3=>v= .int .i64 b.width
 |4=>v= .int .i64 (Lib.compareInt a.width b.width)
 |5=>v= .pointer (N3 ⟨n,1,N0⟩)
 |6=>v= .int .i64 a.depth
 |7=>v= .pointer (N3 ⟨n+1,1,N0⟩)
 |8=>v= .int .i64 b.depth
 |9=>v= .int .i64 (Lib.compareInt a.depth b.depth)
 |10=>v= .pointer (N3 ⟨n,2,N0⟩)
 |11=>v= .int .i64 a.spacing
 |12=>v= .pointer (N3 ⟨n+1,2,N0⟩)
 |13=>v= .int .i64 b.spacing
 |14=>v= .int .i64 (Lib.compareInt a.spacing b.spacing)
 |15=>v= .pointer (N3 ⟨n,3,N0⟩)
 |16=>v= .int .i64 a.load
 |17=>v= .pointer (N3 ⟨n+1,3,N0⟩)
 |18=>v= .int .i64 b.load
 |19=>v= .int .i64 (Lib.compareInt a.load b.load)
 |_=>True
theorem pk(a b:Aw)(w:NY):Of prog 138 #[.agg (gF a).toArray,.agg (gF b).toArray] w fun e w'=>e= .returned (.int .i64 (wX a b))∧Ext w w':=by
 obtain⟨W0,hW0⟩:∃W0,(w.alloc (.cells (gF a).toArray 48)).alloc (.cells (gF b).toArray 48)=W0:=⟨_,rfl⟩
 have E0:=NW (show Ext w W0 by rw[←hW0];exact((Below.refl _ _).alloc (NZ _) _).alloc Ow _)
 have RA:=NW (show af W0 w.heap.size 48 (gF a) by rw[←hW0];exact(af.new w _ _).ext ((Below.refl _ _).alloc (NZ _) _))
 have RB:=NW (show af W0 (w.heap.size+1) 48 (gF b) by
  have h:=af.new (w.alloc (.cells (gF a).toArray 48)) 48 (gF b)
  rw[Oi] at h
  rw[←hW0];exact h)
 have HR:=NW (show wX a b=zH (Lib.compareInt a.width b.width) (Lib.compareInt a.depth b.depth) (Lib.compareInt a.spacing b.spacing) (Lib.compareInt a.load b.load) from rfl)
 have HW:=NW hW0
 clear hW0
 go_enter func138,ntmps138
 go_wp2_with fail
 rw[show(w.alloc (.cells #[.int .i64 a.width,.int .i64 a.depth,.int .i64 a.spacing,.int .i64 a.load,.int .i64 a.span] 48)).alloc (.cells #[.int .i64 b.width,.int .i64 b.depth,.int .i64 b.spacing,.int .i64 b.load,.int .i64 b.span] 48)=W0 from HW.out]
 refine wp_region_any Ou (bA 20 (fun vs=>⟨#[.agg (gF a).toArray,.agg (gF b).toArray,.pointer (N3 ⟨w.heap.size,0,N0⟩),.pointer (N3 ⟨w.heap.size+1,0,N0⟩),.int .i64 0,vs 0,vs 1,vs 2,vs 3,vs 4,vs 5,vs 6,vs 7,vs 8,vs 9,vs 10,vs 11,vs 12,vs 13,vs 14,vs 15,vs 16,vs 17,vs 18,vs 19,N7,N7],[]⟩)
  (fun w'=>Ext W0 w') (Ae w.heap.size a b) (fun _=>N1) Ou (fun _ _ h k=>h.tr k) (fun i v _ _ h k=>h) (fun _ _ _ _ h=>Ox) ?step ?tail (fun _=>N7) _ (Ext.dr W0))
 case step=>
  intro i vs w' hi hD hd
  have cA:=fun i=>(RA.out.ext hD).cell i
  have cB:=fun i=>(RB.out.ext hD).cell i
  rcases(show i=0∨i=1∨i=2∨i=3∨i=4∨i=5∨i=6∨i=7∨i=8∨i=9∨i=10∨i=11∨i=12∨i=13∨i=14∨i=15∨i=16∨i=17∨i=18∨i=19 by omega) with rfl|rfl|rfl|rfl|rfl|rfl|rfl|rfl|rfl|rfl|rfl|rfl|rfl|rfl|rfl|rfl|rfl|rfl|rfl|rfl<;>clear hi
  ·refine Ob rfl (fun K hK=> ?_)
   go_simp
   exact hK _ _ ⟨_,rfl,Ext.an _,rfl,fun h=>Ox⟩
  ·refine Ob rfl (fun K hK=> ?_)
   have d0:=hd 0 Ou
   simp only[Ae] at d0
   go_simp
   exact hK _ _ ⟨.int .i64 a.width,by simp[d0],Ext.an _,rfl,fun h=>Ox⟩
  ·refine Ob rfl (fun K hK=> ?_)
   go_simp
   exact hK _ _ ⟨_,rfl,Ext.an _,rfl,fun h=>Ox⟩
  ·refine Ob rfl (fun K hK=> ?_)
   have d2:=hd 2 Ou
   simp only[Ae] at d2
   go_simp
   exact hK _ _ ⟨.int .i64 b.width,by simp[d2],Ext.an _,rfl,fun h=>Ox⟩
  ·refine Ob rfl (fun K hK=> ?_)
   have d1:=hd 1 Ou
   have d2:=hd 3 Ou
   simp only[Ae] at d1 d2
   go_simp
   refine(cmp_Compare_int a.width b.width _).mono ?_
   rintro e W1 ⟨rfl,rfl⟩
   exact hK _ _ ⟨.int .i64 (Lib.compareInt a.width b.width),by simp[d1,d2],Ext.an _,rfl,fun h=>Ox⟩
  ·refine Ob rfl (fun K hK=> ?_)
   go_simp
   exact hK _ _ ⟨_,rfl,Ext.an _,rfl,fun h=>Ox⟩
  ·refine Ob rfl (fun K hK=> ?_)
   have d5:=hd 5 Ou
   simp only[Ae] at d5
   go_simp
   exact hK _ _ ⟨.int .i64 a.depth,by simp[d5],Ext.an _,rfl,fun h=>Ox⟩
  ·refine Ob rfl (fun K hK=> ?_)
   go_simp
   exact hK _ _ ⟨_,rfl,Ext.an _,rfl,fun h=>Ox⟩
  ·refine Ob rfl (fun K hK=> ?_)
   have d7:=hd 7 Ou
   simp only[Ae] at d7
   go_simp
   exact hK _ _ ⟨.int .i64 b.depth,by simp[d7],Ext.an _,rfl,fun h=>Ox⟩
  ·refine Ob rfl (fun K hK=> ?_)
   have d1:=hd 6 Ou
   have d2:=hd 8 Ou
   simp only[Ae] at d1 d2
   go_simp
   refine(cmp_Compare_int a.depth b.depth _).mono ?_
   rintro e W1 ⟨rfl,rfl⟩
   exact hK _ _ ⟨.int .i64 (Lib.compareInt a.depth b.depth),by simp[d1,d2],Ext.an _,rfl,fun h=>Ox⟩
  ·refine Ob rfl (fun K hK=> ?_)
   go_simp
   exact hK _ _ ⟨_,rfl,Ext.an _,rfl,fun h=>Ox⟩
  ·refine Ob rfl (fun K hK=> ?_)
   have d10:=hd 10 Ou
   simp only[Ae] at d10
   go_simp
   exact hK _ _ ⟨.int .i64 a.spacing,by simp[d10],Ext.an _,rfl,fun h=>Ox⟩
  ·refine Ob rfl (fun K hK=> ?_)
   go_simp
   exact hK _ _ ⟨_,rfl,Ext.an _,rfl,fun h=>Ox⟩
  ·refine Ob rfl (fun K hK=> ?_)
   have d12:=hd 12 Ou
   simp only[Ae] at d12
   go_simp
   exact hK _ _ ⟨.int .i64 b.spacing,by simp[d12],Ext.an _,rfl,fun h=>Ox⟩
  ·refine Ob rfl (fun K hK=> ?_)
   have d1:=hd 11 Ou
   have d2:=hd 13 Ou
   simp only[Ae] at d1 d2
   go_simp
   refine(cmp_Compare_int a.spacing b.spacing _).mono ?_
   rintro e W1 ⟨rfl,rfl⟩
   exact hK _ _ ⟨.int .i64 (Lib.compareInt a.spacing b.spacing),by simp[d1,d2],Ext.an _,rfl,fun h=>Ox⟩
  ·refine Ob rfl (fun K hK=> ?_)
   go_simp
   exact hK _ _ ⟨_,rfl,Ext.an _,rfl,fun h=>Ox⟩
  ·refine Ob rfl (fun K hK=> ?_)
   have d15:=hd 15 Ou
   simp only[Ae] at d15
   go_simp
   exact hK _ _ ⟨.int .i64 a.load,by simp[d15],Ext.an _,rfl,fun h=>Ox⟩
  ·refine Ob rfl (fun K hK=> ?_)
   go_simp
   exact hK _ _ ⟨_,rfl,Ext.an _,rfl,fun h=>Ox⟩
  ·refine Ob rfl (fun K hK=> ?_)
   have d17:=hd 17 Ou
   simp only[Ae] at d17
   go_simp
   exact hK _ _ ⟨.int .i64 b.load,by simp[d17],Ext.an _,rfl,fun h=>Ox⟩
  ·refine Ob rfl (fun K hK=> ?_)
   have d1:=hd 16 Ou
   have d2:=hd 18 Ou
   simp only[Ae] at d1 d2
   go_simp
   refine(cmp_Compare_int a.load b.load _).mono ?_
   rintro e W1 ⟨rfl,rfl⟩
   exact hK _ _ ⟨.int .i64 (Lib.compareInt a.load b.load),by simp[d1,d2],Ext.an _,rfl,fun h=>Ox⟩
 case tail=>
  intro vs w' hD hV _
  have v4:=hV 4 Ot
  have v9:=hV 9 Ot
  have v14:=hV 14 Ot
  have v19:=hV 19 Ot
  simp only[Ae] at v4 v9 v14 v19
  have HX:=NW (E0.out.tr (hD.trans ((Below.refl w'.heap.size w').alloc (NZ _) (.cells [.int .i64 (Lib.compareInt a.width b.width),.int .i64 (Lib.compareInt a.depth b.depth),.int .i64 (Lib.compareInt a.spacing b.spacing),.int .i64 (Lib.compareInt a.load b.load)].toArray 3) |>.mono hD.size)))
  have R3:=NW (af.new w' 3 [.int .i64 (Lib.compareInt a.width b.width),.int .i64 (Lib.compareInt a.depth b.depth),.int .i64 (Lib.compareInt a.spacing b.spacing),.int .i64 (Lib.compareInt a.load b.load)])
  clear hV hD
  simp only[v4,v9,v14,v19,List.drop_succ_cons,List.drop_zero]
  go_wp2_with(go_at_call 167;go_must((with_reducible refine(rP _ _ _ 3 _ _ _ _ R3.out).mono ?_));rintro e W1 ⟨rfl,rfl⟩)
  go_ret
  exact⟨OA,HX.out⟩
end
section
open Kp
def C7(l:List Aw)(x:Aw):Nat→Nat→Nat→Nat
 |0,lo,_=>lo
 |f+1,lo,hi=>if lo<hi then(if wX (l.getD ((lo+hi)/2) mL) x<0 then C7 l x f ((lo+hi)/2+1) hi else C7 l x f lo ((lo+hi)/2)) else lo
def C6(l:List Aw)(x:Aw):Nat:=C7 l x l.length 0 l.length
def Gg(l:List Aw)(x:Aw):Bool:=decide (C6 l x<l.length)&&wX (l.getD (C6 l x) mL) x==0
theorem GN(l:List Aw)(x:Aw)(f lo:Nat):C7 l x f lo lo=lo:=by
 cases f with
 |zero=>rfl
 |succ f=>unfold C7;rw[if_neg Ot]
def NA(W0:NY)(l:List Aw)(x:Aw)(i j:N2)(wr:NY):Prop:=
 ∃lo hi f:Nat,i= .int .i64 (lo:Int)∧j= .int .i64 (hi:Int)∧lo≤hi∧hi≤l.length∧hi-lo≤f∧C7 l x f lo hi=C6 l x∧Ext W0 wr
theorem DR(w:NY)(A:Option Addr)(cap:Nat)(l:List Aw)(x:Aw)(hl:bC 5 w w.heap.size A cap (aX l))(hlen:l.length≤1000000):
  Of prog 137 #[.slice A l.length cap,.agg (gF x).toArray,.func (.func 138) #[] #[]] w fun e w'=>e= .returned (.tuple #[.int .i64 (C6 l x:Int),.bool (Gg l x)])∧Ext w w':=by
 obtain⟨h1,h2,h3⟩:=hl
 rw[N9] at h1 h3
 unfold Ol at h2
 obtain⟨W0,hW0⟩:∃W0,w.alloc (.cells (gF x).toArray 48)=W0:=⟨_,rfl⟩
 have E0:=NW (show Ext w W0 by rw[←hW0];exact(Below.refl _ _).alloc (NZ _) _)
 have RX:=NW (show af W0 w.heap.size 48 (gF x) by rw[←hW0];exact af.new w _ _)
 have HW:=NW hW0
 have g1:=enters_of func138 Ou rfl
 have H3:=NW h3
 clear h3 hW0
 go_enter func137,ntmps137
 go_wp2
 rw[show w.alloc (.cells #[.int .i64 x.width,.int .i64 x.depth,.int .i64 x.spacing,.int .i64 x.load,.int .i64 x.span] 48)=W0 from HW.out]
 go_loopw [9,10] (fun i j wr=>NA W0 l x i j wr) (fun i j _=>(Oh j-Oh i).toNat)
 case atStart=>exact⟨0,l.length,l.length,rfl,rfl,Ot,Ot,Ot,rfl,Ext.an _⟩
 case round=>
  obtain⟨lo,hi,f,rfl,rfl,hlh,hin,hf,hR,hX⟩:=hrel
  have HX:=NW hX
  have HRR:=NW hR
  clear hX hR
  by_cases hlt:lo<hi
  ·obtain⟨b,off,rfl,hB,hcell0⟩:=H3.out Ot
   have hXw:=NW (E0.out.tr HX.out)
   have hbw:b<wr.heap.size:=Nat.lt_of_lt_of_le hB hXw.out.size
   obtain⟨f',rfl⟩:∃f',f=f'+1:=⟨f-1,Ot⟩
   have hh:(lo+hi)/2<l.length:=Ot
   have HC:=NW (fun j hj=>(hXw.out.cell (p:=⟨b,off+5*((lo+hi)/2)+j,N0⟩) hB).trans (hcell0 ((lo+hi)/2) hh j hj))
   have c0:=HC.out 0 Ov
   have c1:=HC.out 1 Ov
   have c2:=HC.out 2 Ov
   have c3:=HC.out 3 Ov
   have c4:=HC.out 4 Ov
   rw[j1 hh,Og] at c0 c1 c2 c3 c4
   rw[Nat.add_zero] at c0
   have hu:C7 l x (f'+1) lo hi=if wX (l.getD ((lo+hi)/2) mL) x<0 then C7 l x f' ((lo+hi)/2+1) hi else C7 l x f' lo ((lo+hi)/2):=by
    rw[C7,if_pos hlt]
   rw[HRR.out] at hu
   obtain⟨y,hy⟩:∃y,l.getD ((lo+hi)/2) mL=y:=⟨_,rfl⟩
   rw[hy] at c0 c1 c2 c3 c4 hu
   have KO:=NW (fun W=>pk y x W)
   obtain⟨c,hc⟩:∃c,wX y x=c:=⟨_,rfl⟩
   rw[hc] at hu
   simp only[hc] at KO
   have HU:=NW hu
   clear hy hc hu hcell0
   have e1:(((lo:Int)+(hi:Int))/2).toNat=(lo+hi)/2:=Ot
   have e2:0≤((lo:Int)+(hi:Int))/2:=Ot
   have e3:((lo:Int)+(hi:Int))/2<(l.length:Int):=Ot
   go_wp2_with fail
   refine bP 6 Ou Ou (fun W2 hW2=> ?_)
   have rx:af W2 w.heap.size 48 (gF x):=RX.out.ext (HX.out.tr hW2)
   have q0:=(hW2.cell (p:=⟨b,off+(lo+hi)/2*5,N0⟩) hbw).trans c0
   have q1:=(hW2.cell (p:=⟨b,off+(lo+hi)/2*5+1,N0⟩) hbw).trans c1
   have q2:=(hW2.cell (p:=⟨b,off+(lo+hi)/2*5+2,N0⟩) hbw).trans c2
   have q3:=(hW2.cell (p:=⟨b,off+(lo+hi)/2*5+3,N0⟩) hbw).trans c3
   have q4:=(hW2.cell (p:=⟨b,off+(lo+hi)/2*5+4,N0⟩) hbw).trans c4
   have y0:=rx.cell 0
   have y1:=rx.cell 1
   have y2:=rx.cell 2
   have y3:=rx.cell 3
   have y4:=rx.cell 4
   have HW2:=NW hW2
   clear rx hW2 c0 c1 c2 c3 c4
   simp only[List.take_succ_cons,List.take_zero,List.drop_succ_cons,List.drop_zero]
   repeat still_step
   refine wpStill_nil ?_
   by_cases hc0:c<0
   ·have tc:decide (c<0)=Oc:=decide_eq_true hc0
    have HZ:=NW (HU.out.trans (if_pos hc0))
    go_wp2_with(go_at_call 138;go_must(refine(KO.out _).mono ?_);rintro e W3 ⟨rfl,hX3⟩)
    exact⟨⟨(lo+hi)/2+1,hi,f',by rw[show((lo:Int)+(hi:Int))/2+1=(((lo+hi)/2+1:Nat):Int) by omega],rfl,Ot,Ot,Ot,HZ.out.symm,(HX.out.tr HW2.out).tr hX3⟩,Oy⟩
   ·have tc:decide (c<0)=N1:=decide_eq_false hc0
    have HZ:=NW (HU.out.trans (if_neg hc0))
    go_wp2_with(go_at_call 138;go_must(refine(KO.out _).mono ?_);rintro e W3 ⟨rfl,hX3⟩)
    exact⟨⟨lo,(lo+hi)/2,f',rfl,by rw[show((lo:Int)+(hi:Int))/2=(((lo+hi)/2:Nat):Int) by omega],Ot,Ot,Ot,HZ.out.symm,(HX.out.tr HW2.out).tr hX3⟩,Oy⟩
  ·obtain rfl:lo=hi:=Ot
   have HI:=NW (show C6 l x=lo by rw[←HRR.out,GN])
   by_cases hn:lo<l.length
   ·obtain⟨b,off,rfl,hB,hcell0⟩:=H3.out Ot
    have hXw:=NW (E0.out.tr HX.out)
    have hbw:b<wr.heap.size:=Nat.lt_of_lt_of_le hB hXw.out.size
    have HC:=NW (fun j hj=>(hXw.out.cell (p:=⟨b,off+5*lo+j,N0⟩) hB).trans (hcell0 lo hn j hj))
    have c0:=HC.out 0 Ov
    have c1:=HC.out 1 Ov
    have c2:=HC.out 2 Ov
    have c3:=HC.out 3 Ov
    have c4:=HC.out 4 Ov
    rw[j1 hn,Og] at c0 c1 c2 c3 c4
    rw[Nat.add_zero] at c0
    have hF:Gg l x=(wX (l.getD lo mL) x==0):=by unfold Gg;rw[HI.out,decide_eq_true hn,Bool.true_and]
    obtain⟨y,hy⟩:∃y,l.getD lo mL=y:=⟨_,rfl⟩
    rw[hy] at c0 c1 c2 c3 c4 hF
    have KO:=NW (fun W=>pk y x W)
    obtain⟨c,hc⟩:∃c,wX y x=c:=⟨_,rfl⟩
    rw[hc] at hF
    simp only[hc] at KO
    have HF:=NW hF
    have t0:decide ((lo:Int)<(l.length:Int))=Oc:=decide_eq_true Ot
    have e3:(lo:Int)<(l.length:Int):=Ot
    clear hy hc hF hcell0
    have b0:=fun w' (h:Ext wr w')=>(h.cell (p:=⟨b,off+lo*5,N0⟩) hbw).trans c0
    have b1:=fun w' (h:Ext wr w')=>(h.cell (p:=⟨b,off+lo*5+1,N0⟩) hbw).trans c1
    have b2:=fun w' (h:Ext wr w')=>(h.cell (p:=⟨b,off+lo*5+2,N0⟩) hbw).trans c2
    have b3:=fun w' (h:Ext wr w')=>(h.cell (p:=⟨b,off+lo*5+3,N0⟩) hbw).trans c3
    have b4:=fun w' (h:Ext wr w')=>(h.cell (p:=⟨b,off+lo*5+4,N0⟩) hbw).trans c4
    have y0:=fun w' (h:Ext wr w')=>(RX.out.ext (HX.out.tr h)).cell 0
    have y1:=fun w' (h:Ext wr w')=>(RX.out.ext (HX.out.tr h)).cell 1
    have y2:=fun w' (h:Ext wr w')=>(RX.out.ext (HX.out.tr h)).cell 2
    have y3:=fun w' (h:Ext wr w')=>(RX.out.ext (HX.out.tr h)).cell 3
    have y4:=fun w' (h:Ext wr w')=>(RX.out.ext (HX.out.tr h)).cell 4
    clear c0 c1 c2 c3 c4
    go_wp2_with fail
    go_region_held3(fun w'=>Ext wr w') (first|exact hx1|exact Ext.dr wr) (first|(go_at_call 138;go_must(refine(KO.out _).mono ?_);rintro e W1 ⟨rfl,hX1⟩;have hx1:Ext wr W1:=(Ext.dr wr).tr hX1))
    go_wp2
    go_ret2
    exact⟨by rw[HI.out,HF.out];rfl,hXw.out.tr hx1⟩
   ·have hF:Gg l x=N1:=by unfold Gg;rw[HI.out,decide_eq_false hn,Bool.false_and]
    have HF:=NW hF
    have t0:decide ((lo:Int)<(l.length:Int))=N1:=decide_eq_false Ot
    have hXw:=NW (E0.out.tr HX.out)
    clear hF
    go_wp2_with fail
    go_quiet (fail)
    go_wp2
    go_ret2
    exact⟨by rw[HI.out,HF.out];rfl,below_drewN hXw.out _⟩
end
section
open Kp
attribute [local go_sem] PU Qz QN QK QA QF QG QM Qx QE QI Qo Qd Qi Qt Qq
attribute [local go_sem] PT P7 Qp Qr Qb Ql
theorem Ks(l:List Aw)(x:Aw)(f:Nat):∀lo hi,lo≤hi→C7 l x f lo hi≤hi:=by
 induction f with
 |zero=>intro lo hi h;exact h
 |succ f ih=>
  intro lo hi h
  unfold C7
  split
  ·split
   ·exact ih _ _ Ot
   ·exact Ok (ih _ _ Ot) Ot
  ·exact h
theorem J9(l:List Aw)(x:Aw):C6 l x≤l.length:=Ks l x _ 0 _ (Nat.zero_le _)
theorem JC.L6{w:NY}{c n:Nat}{j:du}{a:fm}(h:JC w c j a)(hn:c≠n)(cs:Array N2):JC (w.setRow n cs) c j a:=by
 have:(w.setRow n cs).heap[c]?=w.heap[c]?:=by simp only[World.setRow,Array.getElem?_modify];rw[if_neg (Ne.symm hn)]
 exact this.trans h
def Bb(l:List Aw)(x:Aw):List Aw:=if Gg l x then l.set (C6 l x) x else cF l (C6 l x) x
abbrev nH(e:Ed):Aw:=⟨e.awidth,e.adepth,e.aspacing,e.aload,e.aspan⟩
theorem BG(w:NY)(c:Nat)(j:du)(a:fm)(e:Ed)(g:N2)(hc:JC w c j a)(hb:bh w c j a)(hlen:j.spans.length≤1000000):
  Of prog 81 #[.pointer (N3 ⟨c,0,N0⟩),.agg (aG e g)] w fun x w'=>x= .returned (.int .i64 0)∧∃a',jC c w w' {j with spans:=Bb j.spans (nH e)} a':=by
 have hlt:=hc.lt
 obtain⟨W0,hW0⟩:∃W0,w.alloc (.cells (aG e g) 50)=W0:=⟨_,rfl⟩
 have HZ:EC W0 w.heap.size (aG e g):=Pd
 have e0:Ext w W0:=ON
 have hJ:=hc.ext e0
 have KC:=(zT W0 a.sa a.sc (aX j.spans) ((hb.s.below (e0.mono (Nat.le_of_lt hlt))).more (Ok (Nat.le_of_lt hlt) e0.size)) (bz (f:=gF) (fun _=>rfl) _) (yp _) Ps)
 rw[N9] at KC
 have KC:=NW KC
 have HW5:=NW (bz (f:=gF) (fun _=>rfl) j.spans:cG 5 (aX j.spans))
 have KS:=NW (fun(W:NY) (A:Option Addr) (cap:Nat) (h:bC 5 W W.heap.size A cap (aX j.spans))=>DR W A cap j.spans (nH e) h hlen)
 have hI:=J9 j.spans (nH e)
 have hF:Gg j.spans (nH e)=Oc→C6 j.spans (nH e)<j.spans.length:=fun h=>by
  unfold Gg at h
  rw[Bool.and_eq_true] at h
  exact of_decide_eq_true h.1
 have hP:Bb j.spans (nH e)=if Gg j.spans (nH e) then j.spans.set (C6 j.spans (nH e)) (nH e) else cF j.spans (C6 j.spans (nH e)) (nH e):=rfl
 obtain⟨m,hm⟩:∃m,C6 j.spans (nH e)=m:=⟨_,rfl⟩
 obtain⟨d,hd⟩:∃d,Gg j.spans (nH e)=d:=⟨_,rfl⟩
 rw[hm] at hI hF hP
 rw[hd] at hF hP
 simp only[hm,hd] at KS
 rw[hP]
 have HJ:=NW hJ
 have HE0:=NW e0
 have HZ':=NW HZ
 have HW:=NW hW0
 have q14:=hJ.cell 14
 have z:=fun i=>HZ.cell i
 have HL:=NW (show(aX j.spans).length=j.spans.length by exact N9 _)
 have HLN:=NW hlen
 cases d with
 |true=>
  have hml:=hF rfl
  have HML:=NW hml
  have hm0:(m:Int)<(j.spans.length:Int):=Ot
  rw[if_pos rfl]
  have HF:=NW (fun(W1:NY) (v:N2) (hx:Ext w W1) (ho:W1.ownsRow w.heap.size 48 5 v (aX j.spans).length ((aX j.spans).set m (gF (nH e))).flatten)=>Df (l:=j.spans.set m (nH e)) hc hb hx (by
   have he:(aX j.spans).set m (gF (nH e))=aX (j.spans.set m (nH e)):=by simp[List.map_set]
   rw[he,HL.out] at ho
   rw[N9,List.length_set];exact ho))
  clear hc hb hJ HZ e0 hm hd hP hF hlen HW
  subst hW0
  go_enter func81,ntmps81
  go_wp2_with(first
   |(refine cC rfl 48 _ _ rfl _ _ _ rfl rfl 48 _ HH2.out Ou HS.out Ou ?_;have HJ3:=NW ((HJ.out.ext (HX2.out)).L6 HNE.out (putAt cur (m*5) #[.int .i64 e.awidth,.int .i64 e.adepth,.int .i64 e.aspacing,.int .i64 e.aload,.int .i64 e.aspan]));have q3:=HJ3.out.cell 14;have f3:=HJ3.out.frozen 14)
   |(go_at_call 137;have hs0:=hs1;clear hs1;refine(KS.out _ _ _ hs0).mono ?_;rintro e W2 ⟨rfl,hX2⟩;have z2:=fun i=>(HZ'.out.ext (HX1.out.tr hX2)).cell i;have HH2:=NW ((hX2.block gg (Od.1 HH.out).1).trans HH.out);have HX2:=NW (HX1.out.tr hX2);clear hX2)
   |(go_at_call 136;go_must(refine KC.out.mono ?_);rintro e W1 ⟨v,rfl,ho,hX⟩;have hsl:=aS ho HL.out HW5.out;obtain⟨gg,cp,cur,rfl,hb,hh,q1,q2,q3,q4⟩:=iF ho Ot;have HH:=NW hh;have HQ:=NW q3;have HCF:=NW q4;have HX1:=NW hX;have HB:=NW hb;have HS:=NW (show m*5+5≤cur.size by rw[q3];omega);obtain⟨A',cap',hv,hs1⟩:=hsl;obtain⟨rfl,rfl⟩:N3 ⟨gg,0,N0⟩=A'∧cp=cap':=(by injection hv with h1 h2 h3;exact⟨h1,h3⟩);have z1:=fun i=>(HZ'.out.ext hX).cell i;have HNE:=NW (show c≠gg by have:=HE0.out.size;omega);have HWG:=NW (show w.heap.size≤gg by have:=HE0.out.size;omega);have HQ1:=NW q1;have HQ2:=NW q2;clear ho hh q1 q2 q3 q4 hX hb hv))
  go_ret
  exact⟨rfl,HF.out _ _ (ah (HE0.out.tr HX2.out) HWG.out _) (by rw[HL.out];exact je HWG.out HH2.out HQ1.out HQ2.out HQ.out HCF.out HL.out HW5.out rfl HML.out)⟩
 |false=>
  rw[if_neg Ov]
  have hpm:cF (aX j.spans) m (gF (nH e))=aX (cF j.spans m (nH e)):=by unfold cF;simp[List.map_take,List.map_drop]
  have HF:=NW (fun(W1:NY) (v:N2) (hx:Ext w W1) (ho:W1.ownsRow w.heap.size 48 5 v (j.spans.length+1) (cF (aX j.spans) m (gF (nH e))).flatten)=>Df (l:=cF j.spans m (nH e)) hc hb hx (by
   rw[hpm] at ho
   rw[N9,iP _ _ _ hI];exact ho))
  have HI:=NW hI
  clear hc hb hJ HZ e0 hm hd hP hF hlen HW hI hpm
  have KI:=NW (fun(W:NY) (v:N2) (vb:Nat) (hx:Ext W0 W) (ho:W.ownsRow W0.heap.size 48 5 v j.spans.length (aX j.spans).flatten) (hr:af W vb 48 (gF (nH e))) (hne:v.ownBlock≠N3 vb)=>
   FV W W0.heap.size j.spans.length m vb 1 v (aX j.spans) (gF (nH e)) ho HL.out HW5.out (yp _) rfl (by intro u hu;simp at hu;rcases hu with rfl|rfl|rfl|rfl|rfl<;>rfl) hr hne HI.out HLN.out hx.size)
  subst hW0
  go_enter func81,ntmps81
  go_wp2_with(first
   |(go_at_call 139;have hq0:=hq2;clear hq2;refine(KI.out _ _ _ (HX2.out.tr ((Below.refl _ _).alloc (NZ _) _)) (bB hq0.out ((Below.refl _ _).alloc (NZ _) _)) (af.new _ _ _) (fun h=>by have:=(aE hq0.out _ h).2;omega)).mono ?_;rintro e W3 ⟨v3,rfl,ho3,hX3⟩;obtain⟨A3,n3,c3,hv3⟩:=lW.of ho3;have HX3:=NW (((HX2.out.tr ((Below.refl _ _).alloc (NZ _) _)).trans hX3));have HO3:=NW ho3;have q3:=(HJ.out.ext HX3.out).cell 14;have f3:=(HJ.out.ext HX3.out).frozen 14;subst hv3;clear ho3 hX3)
   |(go_at_call 137;have hs0:=hs1;clear hs1;refine(KS.out _ _ _ hs0).mono ?_;rintro e W2 ⟨rfl,hX2⟩;have z2:=fun i=>(HZ'.out.ext (HX1.out.tr hX2)).cell i;have hq2:=NW (bB HO1.out hX2);have HX2:=NW (HX1.out.tr hX2);clear hX2)
   |(go_at_call 136;go_must(refine KC.out.mono ?_);rintro e W1 ⟨v,rfl,ho,hX⟩;obtain⟨A1,c1,hv,hs1⟩:=aS ho HL.out HW5.out;have HX1:=NW hX;have HO1:=NW ho;subst hv;have z1:=fun i=>(HZ'.out.ext hX).cell i;clear ho hX))
  go_ret
  exact⟨rfl,HF.out _ _ (HE0.out.tr HX3.out) (dZ HO3.out HE0.out.size)⟩
end
section
open Kp
theorem QS(l:By):(tx l).toList=l:=by rw[ByteArray.toList_eq,bE]
theorem A8(x y u v:Int)(W:NY):(binOp .neq 77 (.agg #[.int .i64 x,.int .i64 y]) (.agg #[.int .i64 u,.int .i64 v])).run prog W= .ok (.bool (!(x==u&&y==v))) W:=by
 rw[run_neq_struct,run_equalIn_agg _ _ _ _ _ Ou Ou]
 simp only[Program.fieldsOf,underlying77]
 cases hx:(x==u)<;>cases hy:(y==v)<;>simp[go_sem,hx,hy,Result.andThen,underlying3,isAgg3]
attribute [local go_sem] Result.andThen QS underlying3 isAgg3 underlying4 isAgg4 underlying37 isAgg37
def oF(a b:Ed):Bool:=(a.sx==b.sx)&&(a.sy==b.sy)&&(a.srise==b.srise)&&(a.srun==b.srun)&&(a.gable==b.gable)&&(a.splate==b.splate)&&(a.sover==b.sover)
theorem xW (a b : Ed) (W : World) : (binOp .eql 36 (.agg #[.int .i64 a.sx, .int .i64 a.sy, .int .i64 a.srise, .int .i64 a.srun, .bool a.gable, .int .i64 a.splate, .int .i64 a.sover]) (.agg #[.int .i64 b.sx, .int .i64 b.sy, .int .i64 b.srise, .int .i64 b.srun, .bool b.gable, .int .i64 b.splate, .int .i64 b.sover])).run Tryz.prog W = .ok (.bool (oF a b)) W := by
  rw [run_eql_struct, run_equalIn_agg _ _ _ _ _ (by kernel_rfl) (by kernel_rfl)]
  simp only [Program.fieldsOf, Tryz.underlying36]
  unfold oF
  cases h : (a.sx == b.sx)
  case' true => cases h : (a.sy == b.sy)
  case' true => cases h : (a.srise == b.srise)
  case' true => cases h : (a.srun == b.srun)
  case' true => cases h : (a.gable == b.gable)
  case' true => cases h : (a.splate == b.splate)
  case' true => cases h : (a.sover == b.sover)
  all_goals simp [go_sem, *]
def zQ(a b:Ed):Bool:=(a.oside==b.oside)&&(a.oleft==b.oleft)&&(a.oright==b.oright)&&(a.olow==b.olow)&&(a.ohigh==b.ohigh)
theorem Ab (a b : Ed) (W : World) : (binOp .eql 39 (.agg #[.int .i64 a.oside, .string (tx a.oleft), .string (tx a.oright), .string (tx a.olow), .string (tx a.ohigh)]) (.agg #[.int .i64 b.oside, .string (tx b.oleft), .string (tx b.oright), .string (tx b.olow), .string (tx b.ohigh)])).run Tryz.prog W = .ok (.bool (zQ a b)) W := by
  rw [run_eql_struct, run_equalIn_agg _ _ _ _ _ (by kernel_rfl) (by kernel_rfl)]
  simp only [Program.fieldsOf, Tryz.underlying39]
  unfold zQ
  cases h : (a.oside == b.oside)
  case' true => cases h : (a.oleft == b.oleft)
  case' true => cases h : (a.oright == b.oright)
  case' true => cases h : (a.olow == b.olow)
  case' true => cases h : (a.ohigh == b.ohigh)
  all_goals simp [go_sem, *]
def qd(a b:Ed):Bool:=(a.zkind==b.zkind)&&(a.zwidth==b.zwidth)&&(a.zdepth==b.zdepth)
theorem vU (a b : Ed) (W : World) : (binOp .eql 41 (.agg #[.int .i64 a.zkind, .int .i64 a.zwidth, .int .i64 a.zdepth]) (.agg #[.int .i64 b.zkind, .int .i64 b.zwidth, .int .i64 b.zdepth])).run Tryz.prog W = .ok (.bool (qd a b)) W := by
  rw [run_eql_struct, run_equalIn_agg _ _ _ _ _ (by kernel_rfl) (by kernel_rfl)]
  simp only [Program.fieldsOf, Tryz.underlying41]
  unfold qd
  cases h : (a.zkind == b.zkind)
  case' true => cases h : (a.zwidth == b.zwidth)
  case' true => cases h : (a.zdepth == b.zdepth)
  all_goals simp [go_sem, *]
def ou(a b:Ed):Bool:=(a.lkind==b.lkind)&&(a.lside==b.lside)&&(a.lweight==b.lweight)
theorem xC (a b : Ed) (W : World) : (binOp .eql 46 (.agg #[.int .i64 a.lkind, .int .i64 a.lside, .string (tx a.lweight)]) (.agg #[.int .i64 b.lkind, .int .i64 b.lside, .string (tx b.lweight)])).run Tryz.prog W = .ok (.bool (ou a b)) W := by
  rw [run_eql_struct, run_equalIn_agg _ _ _ _ _ (by kernel_rfl) (by kernel_rfl)]
  simp only [Program.fieldsOf, Tryz.underlying46]
  unfold ou
  cases h : (a.lkind == b.lkind)
  case' true => cases h : (a.lside == b.lside)
  case' true => cases h : (a.lweight == b.lweight)
  all_goals simp [go_sem, *]
def yP(a b:Ed):Bool:=(a.awidth==b.awidth)&&(a.adepth==b.adepth)&&(a.aspacing==b.aspacing)&&(a.aload==b.aload)&&(a.aspan==b.aspan)
theorem AM (a b : Ed) (W : World) : (binOp .eql 48 (.agg #[.int .i64 a.awidth, .int .i64 a.adepth, .int .i64 a.aspacing, .int .i64 a.aload, .int .i64 a.aspan]) (.agg #[.int .i64 b.awidth, .int .i64 b.adepth, .int .i64 b.aspacing, .int .i64 b.aload, .int .i64 b.aspan])).run Tryz.prog W = .ok (.bool (yP a b)) W := by
  rw [run_eql_struct, run_equalIn_agg _ _ _ _ _ (by kernel_rfl) (by kernel_rfl)]
  simp only [Program.fieldsOf, Tryz.underlying48]
  unfold yP
  cases h : (a.awidth == b.awidth)
  case' true => cases h : (a.adepth == b.adepth)
  case' true => cases h : (a.aspacing == b.aspacing)
  case' true => cases h : (a.aload == b.aload)
  case' true => cases h : (a.aspan == b.aspan)
  all_goals simp [go_sem, *]
def pw(a b:Ed):Bool:=(a.twidth==b.twidth)&&(a.tlength==b.tlength)&&(a.tlap==b.tlap)&&(a.ttail==b.ttail)
theorem yf (a b : Ed) (W : World) : (binOp .eql 30 (.agg #[.int .i64 a.twidth, .int .i64 a.tlength, .int .i64 a.tlap, .int .i64 a.ttail]) (.agg #[.int .i64 b.twidth, .int .i64 b.tlength, .int .i64 b.tlap, .int .i64 b.ttail])).run Tryz.prog W = .ok (.bool (pw a b)) W := by
  rw [run_eql_struct, run_equalIn_agg _ _ _ _ _ (by kernel_rfl) (by kernel_rfl)]
  simp only [Program.fieldsOf, Tryz.underlying30]
  unfold pw
  cases h : (a.twidth == b.twidth)
  case' true => cases h : (a.tlength == b.tlength)
  case' true => cases h : (a.tlap == b.tlap)
  case' true => cases h : (a.ttail == b.ttail)
  all_goals simp [go_sem, *]
def me(a b:Ed):Bool:=
 (a.kind==b.kind)&&(a.index==b.index)&&oF a b&&zQ a b&&qd a b&&(a.bwidth==b.bwidth)&&(a.bdepth==b.bdepth)&&(a.blength==b.blength)&&(a.bcount==b.bcount)&&(a.bcost==b.bcost)&&(a.gaps==b.gaps)&&ou a b&&yP a b&&pw a b&&(a.number==b.number)&&(a.text==b.text)
theorem Cg(a b:Ed):me a b=Oc↔a=b:=by
 unfold me oF zQ qd ou yP pw
 simp only[Bool.and_eq_true,beq_iff_eq]
 constructor
 ·intro h
  cases a;cases b
  simp only[Ed.mk.injEq] at h⊢
  simp only[h,and_self]
 ·intro h;subst h;simp
end
section
open Kp
def Nb(w:NY)(n:Nat)(i:N2)(wr:NY):Prop:=∃k:Nat,k≤n∧i= .int .i64 (k:Int)∧Ext w wr
theorem lV{p:Prop}(h:p:=by
  rw[run_neq_struct,run_equalIn_agg _ _ _ _ _ Ou Ou]
  simp only[Program.fieldsOf,U]
  simp[go_sem,Result.andThen,underlying3,isAgg3,underlying4,isAgg4,underlying37,isAgg37]):p:=h
theorem dM{w wr:NY}{b o:Nat}{v:Option N2}(hX:Ext w wr)(hB:b<w.heap.size)(h:w.cell? ⟨b,o,N0⟩=v):wr.cell? ⟨b,o,N0⟩=v:=(hX.cell (p:=⟨b,o,N0⟩) hB).trans h
def Mu(f:FuncId)(t:Oo)(k:Nat):Prop:=∀(w:NY) (A A':Option Addr) (cap cap':Nat) (rows:List (List N2)),bC k w w.heap.size A cap rows→bC k w w.heap.size A' cap' rows→cG k rows→
  (∀r∈rows,∀W,(binOp .neq t (.agg r.toArray) (.agg r.toArray)).run prog W= .ok (.bool N1) W)→
  Of prog f #[.slice A rows.length cap,.slice A' rows.length cap'] w fun e w'=>e= .returned (.bool Oc)∧Ext w w'
theorem lr{p:Prop}(h:p:=by
  obtain⟨h1,h2,h3⟩:=hr
  obtain⟨h1',h2',h3'⟩:=hr'
  unfold Ol at h2 h2'
  have H3:=NW h3
  have H4:=NW h3'
  have HW:=NW hw
  have HS:=NW hs
  clear h3 h3' hw hs
  go_wp2
  go_loopw [13] (fun i wr=>Nb w rows.length i wr) (fun i _=>((rows.length:Int)-Oh i).toNat)
  case atStart=>exact⟨0,Ot,rfl,Ext.an _⟩
  case round=>
   obtain⟨m,hm,rfl,hX⟩:=hrel
   have HX:=NW hX
   clear hX
   by_cases hlt:m<rows.length
   ·obtain⟨b,off,rfl,hB,hc⟩:=H3.out Ot
    obtain⟨b',off',rfl,hB',hc'⟩:=H4.out Ot
    obtain⟨r,hr⟩:∃r,rows.getD m []=r:=⟨_,rfl⟩
    have hmem:r∈rows:=by rw[←hr,N8,Oa hlt];exact List.getElem_mem hlt
    have hlen:=HW.out r hmem
    have hself:=HS.out r hmem
    try have c0:=dM HX.out hB (hc m hlt 0 Ov)
    try have d0:=dM HX.out hB' (hc' m hlt 0 Ov)
    try rw[hr,Og] at c0 d0
    try have c1:=dM HX.out hB (hc m hlt 1 Ov)
    try have d1:=dM HX.out hB' (hc' m hlt 1 Ov)
    try rw[hr,Og] at c1 d1
    try have c2:=dM HX.out hB (hc m hlt 2 Ov)
    try have d2:=dM HX.out hB' (hc' m hlt 2 Ov)
    try rw[hr,Og] at c2 d2
    try have c3:=dM HX.out hB (hc m hlt 3 Ov)
    try have d3:=dM HX.out hB' (hc' m hlt 3 Ov)
    try rw[hr,Og] at c3 d3
    try have c4:=dM HX.out hB (hc m hlt 4 Ov)
    try have d4:=dM HX.out hB' (hc' m hlt 4 Ov)
    try rw[hr,Og] at c4 d4
    try have c5:=dM HX.out hB (hc m hlt 5 Ov)
    try have d5:=dM HX.out hB' (hc' m hlt 5 Ov)
    try rw[hr,Og] at c5 d5
    try have c6:=dM HX.out hB (hc m hlt 6 Ov)
    try have d6:=dM HX.out hB' (hc' m hlt 6 Ov)
    try rw[hr,Og] at c6 d6
    rw[Nat.add_zero] at c0 d0
    clear hr hc hc' hmem
    rcases r with _|⟨x0,_|⟨x1,_|⟨x2,_|⟨x3,_|⟨x4,_|⟨x5,_|⟨x6,_|⟨x7,r⟩⟩⟩⟩⟩⟩⟩⟩<;>first|(exfalso;simp only[List.length_cons,List.length_nil] at hlen;omega)|skip
    clear hlen
    have tlt:decide ((m:Int)<(rows.length:Int))=Oc:=decide_eq_true Ot
    have e3:(m:Int)<(rows.length:Int):=Ot
    go_wp2_with fail
    go_quiet (fail)
    go_wp2
    exact⟨⟨m+1,Ot,Ow,below_drewN HX.out _⟩,Oy⟩
   ·have tlt:decide ((m:Int)<(rows.length:Int))=N1:=decide_eq_false Ot
    go_wp2
    go_ret
    exact⟨rfl,HX.out⟩):p:=h
theorem CG(x0:Int)(x1:Int)(x2:Int)(W:NY):(binOp .neq 41 (.agg #[.int .i64 x0,.int .i64 x1,.int .i64 x2]) (.agg #[.int .i64 x0,.int .i64 x1,.int .i64 x2])).run prog W= .ok (.bool N1) W:=by
 have U:=underlying41
 exact lV
theorem Ff:Mu 27 41 3:=by
 intro w A A' cap cap' rows hr hr' hw hs
 go_enter func27,ntmps27
 exact lr
theorem CA(x0:Int)(x1:Int)(x2:List UInt8)(W:NY):(binOp .neq 46 (.agg #[.int .i64 x0,.int .i64 x1,.string (tx x2)]) (.agg #[.int .i64 x0,.int .i64 x1,.string (tx x2)])).run prog W= .ok (.bool N1) W:=by
 have U:=underlying46
 exact lV
theorem Fy:Mu 29 46 3:=by
 intro w A A' cap cap' rows hr hr' hw hs
 go_enter func29,ntmps29
 exact lr
theorem BK(x0:Int)(x1:List UInt8)(x2:List UInt8)(x3:List UInt8)(x4:List UInt8)(W:NY):(binOp .neq 39 (.agg #[.int .i64 x0,.string (tx x1),.string (tx x2),.string (tx x3),.string (tx x4)]) (.agg #[.int .i64 x0,.string (tx x1),.string (tx x2),.string (tx x3),.string (tx x4)])).run prog W= .ok (.bool N1) W:=by
 have U:=underlying39
 exact lV
theorem Fp:Mu 26 39 5:=by
 intro w A A' cap cap' rows hr hr' hw hs
 go_enter func26,ntmps26
 exact lr
theorem BW(x0:Int)(x1:Int)(x2:Int)(x3:Int)(x4:Bool)(x5:Int)(x6:Int)(W:NY):(binOp .neq 36 (.agg #[.int .i64 x0,.int .i64 x1,.int .i64 x2,.int .i64 x3,.bool x4,.int .i64 x5,.int .i64 x6]) (.agg #[.int .i64 x0,.int .i64 x1,.int .i64 x2,.int .i64 x3,.bool x4,.int .i64 x5,.int .i64 x6])).run prog W= .ok (.bool N1) W:=by
 have U:=underlying36
 exact lV
theorem D7:Mu 21 36 7:=by
 intro w A A' cap cap' rows hr hr' hw hs
 go_enter func21,ntmps21
 exact lr
theorem BT(x0:Int)(x1:Int)(x2:Int)(x3:Int)(x4:Int)(W:NY):(binOp .neq 48 (.agg #[.int .i64 x0,.int .i64 x1,.int .i64 x2,.int .i64 x3,.int .i64 x4]) (.agg #[.int .i64 x0,.int .i64 x1,.int .i64 x2,.int .i64 x3,.int .i64 x4])).run prog W= .ok (.bool N1) W:=by
 have U:=underlying48
 exact lV
theorem FO:Mu 30 48 5:=by
 intro w A A' cap cap' rows hr hr' hw hs
 go_enter func30,ntmps30
 exact lr
end
section
open Kp
theorem Cj(w:NY)(A A':Option Addr)(cap cap':Nat)(r:List Sd)(h:bC 7 w w.heap.size A cap (ak r))(h':bC 7 w w.heap.size A' cap' (ak r)):
  Of prog 20 #[.slice A r.length cap,.slice A' r.length cap'] w fun e w'=>e= .returned (.bool Oc)∧Ext w w':=by
 have K:=D7 w A A' cap cap' (ak r) h h' (cL r) (fun x hx W=>by
  obtain⟨s,_,rfl⟩:=List.mem_map.1 hx
  exact BW _ _ _ _ _ _ _ W)
 rw[show(ak r).length=r.length from N9 _] at K
 have K:=NW K
 clear h h'
 go_enter func20,ntmps20
 go_wp2_with(go_at_call 21;go_must(refine K.out.mono ?_);rintro e W1 ⟨rfl,hX⟩)
 go_ret
 exact⟨rfl,hX⟩
theorem FQ(w:NY)(A A':Option Addr)(cap cap':Nat)(rs:List (List Sd))(hr:dR w w.heap.size A cap rs)(hr':dR w w.heap.size A' cap' rs):
  Of prog 24 #[.slice A rs.length cap,.slice A' rs.length cap',.func (.func 20) #[] #[]] w fun e w'=>e= .returned (.bool Oc)∧Ext w w':=by
 obtain⟨h1,h2,h3⟩:=hr
 obtain⟨h1',h2',h3'⟩:=hr'
 unfold Ol at h2 h2'
 have H3:=NW h3
 have H4:=NW h3'
 have g1:=enters_of func20 Ou rfl
 clear h3 h3'
 go_enter func24,ntmps24
 go_wp2
 go_loopw [17] (fun i wr=>Nb w rs.length i wr) (fun i _=>((rs.length:Int)-Oh i).toNat)
 case atStart=>exact⟨0,Ot,rfl,Ext.an _⟩
 case round=>
  obtain⟨m,hm,rfl,hX⟩:=hrel
  have HX:=NW hX
  clear hX
  by_cases hlt:m<rs.length
  ·obtain⟨b,off,rfl,hB,hc⟩:=H3.out Ot
   obtain⟨b',off',rfl,hB',hc'⟩:=H4.out Ot
   obtain⟨Ai,ci,c0,hs⟩:=hc m hlt
   obtain⟨Ai',ci',d0,hs'⟩:=hc' m hlt
   obtain⟨ring,hring⟩:∃ring,rs.getD m []=ring:=⟨_,rfl⟩
   rw[hring] at c0 d0 hs hs'
   have c1:=(HX.out.cell (p:=⟨b,off+m,N0⟩) hB).trans c0
   have d1:=(HX.out.cell (p:=⟨b',off'+m,N0⟩) hB').trans d0
   have K:=NW (Cj wr Ai Ai' ci ci' ring ((hs.below HX.out).more HX.out.size) ((hs'.below HX.out).more HX.out.size))
   clear hring hc hc' c0 d0 hs hs'
   have tlt:decide ((m:Int)<(rs.length:Int))=Oc:=decide_eq_true Ot
   have e3:(m:Int)<(rs.length:Int):=Ot
   go_wp2_with(go_at_call 20;go_must(refine K.out.mono ?_);rintro e W1 ⟨rfl,hX1⟩)
   exact⟨⟨m+1,Ot,Ow,HX.out.tr hX1⟩,Oy⟩
  ·have tlt:decide ((m:Int)<(rs.length:Int))=N1:=decide_eq_false Ot
   go_wp2
   go_ret
   exact⟨rfl,HX.out⟩
end
section
open Kp
structure MA(w:NY)(a b:List (Int×Int))(i:N2)(wr:NY):Prop where
 ex:∃k:Nat,k≤a.length∧i= .int .i64 (k:Int)∧a.take k=b.take k
 low:On w.heap.size w wr
theorem qV(w:NY)(ga gb:Option Addr)(ca cb:Nat)(a b:List (Int×Int))(ha:cU w w.heap.size ga ca a)(hb:cU w w.heap.size gb cb b):
  Of prog 23 #[.slice ga a.length ca,.slice gb b.length cb] w fun e w'=>e= .returned (.bool (a==b))∧On w.heap.size w w':=by
 have la:=ha.1
 have lb:=hb.1
 have ca':=ha.2.1
 have cb':=hb.2.1
 unfold Ol at ca' cb'
 have HA:=NW ha
 have HB:=NW hb
 clear ha hb
 by_cases hl:a.length=b.length
 ·have hl':((a.length:Int) !=(b.length:Int))=N1:=by rw[bne_eq_false_iff_eq,hl]
  have HL:=NW hl
  clear hl
  go_enter func23,ntmps23
  go_wp2
  go_loopw [13] (fun i wr=>MA w a b i wr) (fun i _=>((a.length:Int)-Oh i).toNat)
  case atStart=>exact⟨⟨0,Ot,rfl,Ow⟩,Below.refl _ _⟩
  case round=>
   obtain⟨⟨k,hk,rfl,he⟩,hBr⟩:=hrel
   by_cases hlt:k<a.length
   ·have hltb:k<b.length:=by rw[←HL.out];exact hlt
    obtain⟨_,_,hxa⟩:=HA.out.below hBr
    obtain⟨_,_,hxb⟩:=HB.out.below hBr
    obtain⟨ba,oa,rfl,_,cea⟩:=hxa Ot
    obtain⟨bb,ob,rfl,_,ceb⟩:=hxb Ot
    obtain⟨a1,a2⟩:=cea k hlt
    obtain⟨b1,b2⟩:=ceb k hltb
    rw[Og] at a1 a2 b1 b2
    obtain⟨x,y,hxy⟩:∃x y,a[k]=(x,y):=⟨_,_,rfl⟩
    obtain⟨u,v,huv⟩:∃u v,b[k]=(u,v):=⟨_,_,rfl⟩
    rw[hxy] at a1 a2
    rw[huv] at b1 b2
    have hnq:=fun W=>A8 x y u v W
    cases hq:(x==u&&y==v) with
    |true=>
     have HN:=NW (fun n=>(show MA w a b (.int .i64 ((k:Int)+1)) (wr.drewN n) from⟨⟨k+1,Ot,Ow,by
      rw[mK hlt,mK hltb,he,hxy,huv]
      simp only[Bool.and_eq_true,beq_iff_eq] at hq
      rw[hq.1,hq.2]⟩,below_drewN hBr n⟩))
     rw[hq] at hnq
     clear hq he cea ceb hxa hxb hxy huv
     go_wp2
     go_quiet (fail)
     go_wp2
     exact⟨HN.out _,Oy⟩
    |false=>
     have HN:=NW (show(a==b)=N1 by
      rw[beq_eq_false_iff_ne]
      intro h
      subst h
      rw[hxy] at huv
      simp only[Prod.mk.injEq] at huv
      rw[huv.1,huv.2] at hq
      simp at hq)
     rw[hq] at hnq
     clear hq he cea ceb hxa hxb hxy huv
     go_wp2
     go_quiet (fail)
     go_wp2
     go_ret
     exact⟨by rw[HN.out];rfl,below_drewN hBr _⟩
   ·have HN:=NW (show(a==b)=Oc by
     rw[beq_iff_eq]
     have e1:a.take k=a:=List.take_of_length_le Ot
     have e2:b.take k=b:=List.take_of_length_le (by have:=HL.out;omega)
     rw[e1,e2] at he;exact he)
    have hlt':decide ((k:Int)<(a.length:Int))=N1:=Oz
    clear he
    go_wp2
    go_ret
    exact⟨by rw[HN.out];rfl,hBr⟩
 ·have hl':((a.length:Int) !=(b.length:Int))=Oc:=Ph
  have HN:=NW (show(a==b)=N1 by rw[beq_eq_false_iff_ne];intro h;exact hl (by rw[h]))
  clear hl
  go_enter func23,ntmps23
  go_wp2
  go_ret
  exact⟨by rw[HN.out];rfl,Below.refl _ _⟩
end
end Go.Proofs.YtnpihidbkhehjaaGreatDoor
