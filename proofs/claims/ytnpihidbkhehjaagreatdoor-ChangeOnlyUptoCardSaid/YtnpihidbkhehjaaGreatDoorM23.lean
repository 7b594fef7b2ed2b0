/- ChangeOnly of kingpostlaw58: part 23 of its proof (merged and shortened by program). -/
import Derived.Test.YtnpihidbkhehjaaGreatDoorM22
set_option linter.unusedVariables false
set_option linter.unusedSimpArgs false
set_option linter.defProp false
set_option maxHeartbeats 8000000
set_option maxRecDepth 100000
open Go.RowKit Go.Shelf Go.Proofs.Tryz
open Array renaming getElem?_eq_some_iff→Od
open Bool renaming false→N1,true→Oc
open Go renaming World→NY,Value→N2,undef→N7,wpOp_step→Ob,Calls→Of,maxLen→Ol,TypeId→Oo
open Go.AllReady renaming cons→Oj,nil→Oq
open Go.IntKind renaming i64→Oe
open Go.IntWalk renaming i64_in→Om
open Go.Lib renaming hid→NW
open Go.RowKit renaming intOf→Oh,Below→On
open Go.World renaming size_alloc→Oi
open List renaming getD_eq_getElem?_getD→N8,length_map→N9,getElem?_eq_getElem→Oa
open Nat renaming le_refl→NZ,mul_comm→Og,le_trans→Ok
open Option renaming none→N0,some→N3
open Go.Proofs.YtnpihidbkhehjaaGreatDoor
namespace Go.Proofs.YtnpihidbkhehjaaGreatDoor
section
open Kp
theorem lE{w:NY}{B:Nat}{ga:Option Addr}{gc:Nat}{l:List (Int×Int)}(h:bC 2 w B ga gc (dx l)):cU w B ga gc l:=by
 obtain⟨h1,h2,h3⟩:=h
 rw[N9] at h1 h3
 refine⟨h1,h2,fun hn=> ?_⟩
 obtain⟨b,off,e,hB,hc⟩:=h3 hn
 refine⟨b,off,e,hB,fun j hj=> ?_⟩
 have c0:=hc j hj 0 Ov
 have c1:=hc j hj 1 Ov
 rw[iZ hj] at c0 c1
 have e1:l.getD j (0,0)=l[j]:=by rw[N8,Oa hj];rfl
 rw[e1] at c0 c1
 exact⟨c0,c1⟩
theorem Cr(w:NY)(x:Br)(ga ga':Option Addr)(gc gc':Nat)(h:bC 2 w w.heap.size ga gc (dx x.gaps))(h':bC 2 w w.heap.size ga' gc' (dx x.gaps)):
  Of prog 22 #[.agg (mJ x ga gc).toArray,.agg (mJ x ga' gc').toArray] w fun e w'=>e= .returned (.bool Oc)∧Ext w w':=by
 obtain⟨W0,hW0⟩:∃W0,(w.alloc (.cells (mJ x ga gc).toArray 44)).alloc (.cells (mJ x ga' gc').toArray 44)=W0:=⟨_,rfl⟩
 have e0:Ext w W0:=by rw[←hW0];exact((Below.refl _ _).alloc (NZ _) _).alloc Ow _
 have E0:=NW e0
 have RA:af W0 w.heap.size 44 (mJ x ga gc):=by rw[←hW0];exact(af.new w _ _).ext ((Below.refl _ _).alloc (NZ _) _)
 have RB:af W0 (w.heap.size+1) 44 (mJ x ga' gc'):=by
  have h:=af.new (w.alloc (.cells (mJ x ga gc).toArray 44)) 44 (mJ x ga' gc')
  rw[Oi] at h
  rw[←hW0];exact h
 have K:=qV W0 ga ga' gc gc' x.gaps x.gaps ((lE ((h.below e0).more e0.size))) ((lE ((h'.below e0).more e0.size)))
 rw[beq_self_eq_true] at K
 have KK:=NW K
 have HW:=NW hW0
 have cA:=RA.cell
 have cB:=RB.cell
 clear K hW0 e0 h h' RA RB
 go_enter func22,ntmps22
 go_wp2_with(fail)
 rw[show(w.alloc (.cells #[.int .i64 x.width,.int .i64 x.depth,.int .i64 x.length,.int .i64 x.count,.int .i64 x.cost,.slice ga x.gaps.length gc] 44)).alloc (.cells #[.int .i64 x.width,.int .i64 x.depth,.int .i64 x.length,.int .i64 x.count,.int .i64 x.cost,.slice ga' x.gaps.length gc'] 44)=W0 from HW.out]
 go_wp2_with(go_at_call 23;go_must(refine KK.out.mono ?_);rintro e W1 ⟨rfl,hX1⟩)
 go_ret
 exact⟨rfl,E0.out.tr hX1⟩
theorem EH(w:NY)(A A':Option Addr)(cap cap':Nat)(l:List Br)(hr:fo w w.heap.size A cap l)(hr':fo w w.heap.size A' cap' l):
  Of prog 28 #[.slice A l.length cap,.slice A' l.length cap',.func (.func 22) #[] #[]] w fun e w'=>e= .returned (.bool Oc)∧Ext w w':=by
 obtain⟨h1,h2,h3⟩:=hr
 obtain⟨h1',h2',h3'⟩:=hr'
 unfold Ol at h2 h2'
 have H3:=NW h3
 have H4:=NW h3'
 have g1:=enters_of func22 Ou rfl
 clear h3 h3'
 go_enter func28,ntmps28
 go_wp2
 go_loopw [17] (fun i wr=>Nb w l.length i wr) (fun i _=>((l.length:Int)-Oh i).toNat)
 case atStart=>exact⟨0,Ot,rfl,Ext.an _⟩
 case round=>
  obtain⟨m,hm,rfl,hX⟩:=hrel
  have HX:=NW hX
  clear hX
  by_cases hlt:m<l.length
  ·obtain⟨b,off,rfl,hB,hc⟩:=H3.out Ot
   obtain⟨b',off',rfl,hB',hc'⟩:=H4.out Ot
   obtain⟨ga,gc,c,hs⟩:=hc m hlt
   obtain⟨ga',gc',d,hs'⟩:=hc' m hlt
   obtain⟨x,hx⟩:∃x,l.getD m mA=x:=⟨_,rfl⟩
   rw[hx] at c d hs hs'
   have c0:=(HX.out.cell (p:=⟨b,off+6*m+0,N0⟩) hB).trans (c 0 Ov)
   have d0:=(HX.out.cell (p:=⟨b',off'+6*m+0,N0⟩) hB').trans (d 0 Ov)
   have c1:=(HX.out.cell (p:=⟨b,off+6*m+1,N0⟩) hB).trans (c 1 Ov)
   have d1:=(HX.out.cell (p:=⟨b',off'+6*m+1,N0⟩) hB').trans (d 1 Ov)
   have c2:=(HX.out.cell (p:=⟨b,off+6*m+2,N0⟩) hB).trans (c 2 Ov)
   have d2:=(HX.out.cell (p:=⟨b',off'+6*m+2,N0⟩) hB').trans (d 2 Ov)
   have c3:=(HX.out.cell (p:=⟨b,off+6*m+3,N0⟩) hB).trans (c 3 Ov)
   have d3:=(HX.out.cell (p:=⟨b',off'+6*m+3,N0⟩) hB').trans (d 3 Ov)
   have c4:=(HX.out.cell (p:=⟨b,off+6*m+4,N0⟩) hB).trans (c 4 Ov)
   have d4:=(HX.out.cell (p:=⟨b',off'+6*m+4,N0⟩) hB').trans (d 4 Ov)
   have c5:=(HX.out.cell (p:=⟨b,off+6*m+5,N0⟩) hB).trans (c 5 Ov)
   have d5:=(HX.out.cell (p:=⟨b',off'+6*m+5,N0⟩) hB').trans (d 5 Ov)
   rw[Og] at c0 d0 c1 d1 c2 d2 c3 d3 c4 d4 c5 d5
   rw[Nat.add_zero] at c0 d0
   have KS:=NW (fun(W:NY) (h:Ext wr W)=>Cr W x ga ga' gc gc' ((hs.below (HX.out.tr h)).more (HX.out.tr h).size) ((hs'.below (HX.out.tr h)).more (HX.out.tr h).size))
   have hbw:b<wr.heap.size:=Nat.lt_of_lt_of_le hB HX.out.size
   have hbw':b'<wr.heap.size:=Nat.lt_of_lt_of_le hB' HX.out.size
   clear hx hc hc' c d hs hs'
   have tlt:decide ((m:Int)<(l.length:Int))=Oc:=decide_eq_true Ot
   have e3:(m:Int)<(l.length:Int):=Ot
   have HA:=NW (fun o p=>(show Ext wr ((wr.alloc o).alloc p) from((Below.refl _ _).alloc (NZ _) _).alloc Ow _))
   go_wp2_with(go_at_call 22;go_must(refine(KS.out _ (HA.out _ _)).mono ?_);rintro e W1 ⟨rfl,hX1⟩)
   exact⟨⟨m+1,Ot,Ow,HX.out.tr ((HA.out _ _).tr hX1)⟩,Oy⟩
  ·have tlt:decide ((m:Int)<(l.length:Int))=N1:=decide_eq_false Ot
   go_wp2
   go_ret
   exact⟨rfl,HX.out⟩
end
section
open Kp
attribute [local go_sem] PU Qz QN QK QA QF QG QM Qx QE QI Qo Qd Qi Qt Qq
theorem rK(w:NY)(q:Nat):Ext w (w.drewN q):=below_drewN (Below.refl _ _) q
theorem EV(w:NY)(A A':Option Addr)(cap cap':Nat)(l:List Int)(hr:bC 1 w w.heap.size A cap (bN l))(hr':bC 1 w w.heap.size A' cap' (bN l)):
  Of prog 25 #[.slice A l.length cap,.slice A' l.length cap'] w fun e w'=>e= .returned (.bool Oc)∧Ext w w':=by
 obtain⟨h1,h2,h3⟩:=hr
 obtain⟨h1',h2',h3'⟩:=hr'
 rw[N9] at h1 h3 h1' h3'
 unfold Ol at h2 h2'
 by_cases h0:l.length=0
 ·rw[h0]
  refine(slices_Equal_int_empty A A' cap 0 cap' w Ot).mono ?_
  rintro e w' ⟨rfl,rfl⟩
  exact⟨rfl,Ext.an _⟩
 ·obtain⟨b,off,rfl,hB,hc⟩:=h3 Ot
  obtain⟨b',off',rfl,hB',hc'⟩:=h3' Ot
  refine(slices_Equal_int b off l.length cap b' off' l.length cap' l l w (NZ _) (NZ _) Ot Ot (fun j hj=> ?_) (fun j hj=> ?_)).mono ?_
  ·have:=hc j hj 0 Ov
   rwa[fI hj,Nat.one_mul,Nat.add_zero] at this
  ·have:=hc' j hj 0 Ov
   rwa[fI hj,Nat.one_mul,Nat.add_zero] at this
  ·rintro e w' ⟨rfl,q,rfl⟩
   exact⟨by rw[beq_self_eq_true],rK _ _⟩
theorem BC(x0 x1 x2 x3:Int)(W:NY):(binOp .eql 30 (.agg #[.int .i64 x0,.int .i64 x1,.int .i64 x2,.int .i64 x3]) (.agg #[.int .i64 x0,.int .i64 x1,.int .i64 x2,.int .i64 x3])).run prog W= .ok (.bool Oc) W:=by
 rw[run_eql_struct,run_equalIn_agg _ _ _ _ _ Ou Ou]
 simp only[Program.fieldsOf,underlying30]
 simp[go_sem,Result.andThen,underlying3,isAgg3]
theorem cW(w:NY)(j:du)(a a':fm)(hb:bh w w.heap.size j a)(hb':bh w w.heap.size j a'):
  Of prog 9 #[.agg (dy j a),.agg (dy j a')] w fun e w'=>e= .returned (.bool Oc)∧Ext w w':=by
 obtain⟨W0,hW0⟩:∃W0,(w.alloc (.cells (dy j a) 34)).alloc (.cells (dy j a') 34)=W0:=⟨_,rfl⟩
 have e0:Ext w W0:=by rw[←hW0];exact((Below.refl _ _).alloc (NZ _) _).alloc Ow _
 have E0:=NW e0
 have JA:=NW (show JC W0 w.heap.size j a by rw[←hW0];exact JC.ext (NY.alloc_heap_new w _) ((Below.refl _ _).alloc (NZ _) _))
 have JB:=NW (show JC W0 (w.heap.size+1) j a' by
  have h:=(NY.alloc_heap_new (w.alloc (.cells (dy j a) 34)) (.cells (dy j a') 34))
  rw[Oi] at h
  rw[←hW0];exact h)
 have B1:=NW (hb.grow e0)
 have B2:=NW (hb'.grow e0)
 have HW:=NW hW0
 have K0:=NW (FQ W0 a.pa a'.pa a.pc a'.pc j.rings B1.out.p B2.out.p)
 have K1:=NW (fun(W:NY) (h:Ext W0 W)=>EV W a.ua a'.ua a.uc a'.uc j.purlins (B1.out.grow h).u (B2.out.grow h).u)
 have K2:=NW (fun(W:NY) (h:Ext W0 W)=>(show Of prog 26 #[.slice a.oa j.openings.length a.oc,.slice a'.oa j.openings.length a'.oc] W fun e w'=>e= .returned (.bool Oc)∧Ext W w' from by
  have:=Fp W a.oa a'.oa a.oc a'.oc (aO j.openings) (B1.out.grow h).o (B2.out.grow h).o (j7 _) (fun x hx V=>by obtain⟨s,_,rfl⟩:=List.mem_map.1 hx;exact BK _ _ _ _ _ V)
  rwa[N9] at this))
 have K3:=NW (fun(W:NY) (h:Ext W0 W)=>(show Of prog 27 #[.slice a.za j.sizes.length a.zc,.slice a'.za j.sizes.length a'.zc] W fun e w'=>e= .returned (.bool Oc)∧Ext W w' from by
  have:=Ff W a.za a'.za a.zc a'.zc (bt j.sizes) (B1.out.grow h).z (B2.out.grow h).z (A0 _) (fun x hx V=>by obtain⟨s,_,rfl⟩:=List.mem_map.1 hx;exact CG _ _ _ V)
  rwa[N9] at this))
 have K4:=NW (fun(W:NY) (h:Ext W0 W)=>EH W a.ba a'.ba a.bc a'.bc j.bars (B1.out.grow h).b (B2.out.grow h).b)
 have K5:=NW (fun(W:NY) (h:Ext W0 W)=>(show Of prog 29 #[.slice a.la j.aq.length a.lc,.slice a'.la j.aq.length a'.lc] W fun e w'=>e= .returned (.bool Oc)∧Ext W w' from by
  have:=Fy W a.la a'.la a.lc a'.lc (bD j.aq) (B1.out.grow h).l (B2.out.grow h).l (lL _) (fun x hx V=>by obtain⟨s,_,rfl⟩:=List.mem_map.1 hx;exact CA _ _ _ V)
  rwa[N9] at this))
 have K6:=NW (fun(W:NY) (h:Ext W0 W)=>(show Of prog 30 #[.slice a.sa j.spans.length a.sc,.slice a'.sa j.spans.length a'.sc] W fun e w'=>e= .returned (.bool Oc)∧Ext W w' from by
  have:=FO W a.sa a'.sa a.sc a'.sc (aX j.spans) (B1.out.grow h).s (B2.out.grow h).s (Gv _) (fun x hx V=>by obtain⟨s,_,rfl⟩:=List.mem_map.1 hx;exact BT _ _ _ _ _ V)
  rwa[N9] at this))
 have JX:=NW (fun(W:NY) (h:Ext W0 W)=>JA.out.ext h)
 have JY:=NW (fun(W:NY) (h:Ext W0 W)=>JB.out.ext h)
 have p0:=JA.out.cell
 have q0:=JB.out.cell
 have tile:=BC j.tile.width j.tile.length j.tile.lap j.tile.tail
 clear hW0 e0 hb hb'
 go_enter func9,ntmps9
 go_wp2_with(first
  |(go_at_call 30;go_must(refine(K6.out _ HX6.out).mono ?_);rintro e W7 ⟨rfl,hX⟩;have p7:=fun i=>(JX.out W7 (Ext.tr HX6.out hX)).cell i;have q7:=fun i=>(JY.out W7 (Ext.tr HX6.out hX)).cell i;have HX7:=NW (Ext.tr HX6.out hX);clear hX)
  |(go_at_call 29;go_must(refine(K5.out _ HX5.out).mono ?_);rintro e W6 ⟨rfl,hX⟩;have p6:=fun i=>(JX.out W6 (Ext.tr HX5.out hX)).cell i;have q6:=fun i=>(JY.out W6 (Ext.tr HX5.out hX)).cell i;have HX6:=NW (Ext.tr HX5.out hX);clear hX)
  |(go_at_call 28;go_must(refine(K4.out _ HX4.out).mono ?_);rintro e W5 ⟨rfl,hX⟩;have p5:=fun i=>(JX.out W5 (Ext.tr HX4.out hX)).cell i;have q5:=fun i=>(JY.out W5 (Ext.tr HX4.out hX)).cell i;have HX5:=NW (Ext.tr HX4.out hX);clear hX)
  |(go_at_call 27;go_must(refine(K3.out _ HX3.out).mono ?_);rintro e W4 ⟨rfl,hX⟩;have p4:=fun i=>(JX.out W4 (Ext.tr HX3.out hX)).cell i;have q4:=fun i=>(JY.out W4 (Ext.tr HX3.out hX)).cell i;have HX4:=NW (Ext.tr HX3.out hX);clear hX)
  |(go_at_call 26;go_must(refine(K2.out _ HX2.out).mono ?_);rintro e W3 ⟨rfl,hX⟩;have p3:=fun i=>(JX.out W3 (Ext.tr HX2.out hX)).cell i;have q3:=fun i=>(JY.out W3 (Ext.tr HX2.out hX)).cell i;have HX3:=NW (Ext.tr HX2.out hX);clear hX)
  |(go_at_call 25;go_must(refine(K1.out _ HX1.out).mono ?_);rintro e W2 ⟨rfl,hX⟩;have p2:=fun i=>(JX.out W2 (Ext.tr HX1.out hX)).cell i;have q2:=fun i=>(JY.out W2 (Ext.tr HX1.out hX)).cell i;have HX2:=NW (Ext.tr HX1.out hX);clear hX)
  |(go_at_call 24;rw[HW.out];go_must(refine K0.out.mono ?_);rintro e W1 ⟨rfl,hX⟩;have p1:=fun i=>(JX.out W1 hX).cell i;have q1:=fun i=>(JY.out W1 hX).cell i;have HX1:=NW hX;clear hX))
 go_ret
 exact⟨rfl,E0.out.tr HX7.out⟩
end
section
open Kp
theorem Ic(w:NY)(A:Option Addr)(cap:Nat)(l:List Int)(x:Int)(hr:bC 1 w w.heap.size A cap (bN l))(hs:l.Pairwise (· ≤ ·))(hlen:l.length≤1000000):
  Of prog 127 #[.slice A l.length cap,.int .i64 x] w fun e w'=>e= .returned (.tuple #[.int .i64 (l.countP (· <x):Nat),.bool (l.contains x)])∧Ext w w':=by
 obtain⟨h1,h2,h3⟩:=hr
 rw[N9] at h1 h3
 by_cases h0:l.length=0
 ·obtain rfl:=List.length_eq_zero_iff.1 h0
  refine(slices_BinarySearch_int_empty A cap x w).mono ?_
  rintro e w' ⟨rfl,rfl⟩
  exact⟨rfl,Ext.an _⟩
 ·obtain⟨b,off,rfl,hB,hc⟩:=h3 Ot
  refine(slices_BinarySearch_int b off l.length cap l x w (NZ _) Ot (fun j hj=> ?_) (by rw[List.take_length];exact hs)).mono ?_
  ·have:=hc j hj 0 Ov
   rwa[fI hj,Nat.one_mul,Nat.add_zero] at this
  ·rintro e w' ⟨rfl,q,rfl⟩
   rw[List.take_length]
   exact⟨rfl,rK _ _⟩
theorem xk{l:List Int}(h:fW l=0):l.Pairwise (· ≤ ·)∧l.length≤16:=by
 unfold fW at h
 split at h
 ·omega
 ·rename_i h16
  refine⟨?_,Ot⟩
  have hz:=nt h
  have hstep:∀i,i+1<l.length→l.getD i 0<l.getD (i+1) 0:=by
   intro i hi
   have:=hz (i+1) hi
   simp only[Nat.add_sub_cancel] at this
   split at this
   ·omega
   ·split at this
    ·omega
    ·rename_i h2
     rcases Int.lt_or_le (l.getD i 0) (l.getD (i+1) 0) with h3|h3
     ·exact h3
     ·exact absurd ⟨Nat.succ_pos i,h3⟩ h2
  have hle:∀d i,i+d<l.length→l.getD i 0≤l.getD (i+d) 0:=by
   intro d
   induction d with
   |zero=>intro i _;exact Int.le_refl _
   |succ d ih=>
    intro i hi
    have h1:=ih i Ot
    have h2:=hstep (i+d) Ot
    rw[show i+(d+1)=i+d+1 by omega]
    omega
  rw[List.pairwise_iff_getElem]
  intro i k hi hk hik
  have:=hle (k-i) i Ot
  rw[show i+(k-i)=k by omega] at this
  simpa[List.getD,Oa hi,Oa hk] using this
end
section
variable {P : Program} {ops : Array Oper} {Q : Exit → Act → NY → Prop} {md : Region.Mode}
def Kq(md:Region.Mode)(ops:Array Oper)(n:Nat):Bool:=(List.range n).all fun i=>((ops[i]?).map fun o=>o.after.all fun e=>decide (e.on<i)|| !Region.binds md e).getD N1
theorem BE{n i:Nat}{o:Oper}(h:Kq md ops n=Oc)(hi:i<n)(ho:ops[i]?=N3 o):∀e∈o.after,Region.binds md e=Oc→e.on<i:=by
 have:=List.all_eq_true.1 h i (List.mem_range.2 hi)
 rw[ho] at this
 simp only[Option.map_some,Option.getD_some] at this
 intro e he hb
 have:=Array.all_eq_true_iff_forall_mem.1 this e he
 rw[hb] at this
 simpa using this
def La(ops:Array Oper)(n:Nat):Bool:=
 decide (n<ops.size)&&Region.sinkB .any ops n&&Region.chainB .any ops n&&Region.seqB .any ops (ops.size-n) n (Array.replicate n Oc++Array.replicate (ops.size-n) N1)&&Kq .any ops n
theorem pg{n:Nat}{tl:List Oper}(F:(Nat→N2)→Act)(I:(Nat→Bool)→(Nat→N2)→NY→Prop)
  (hs:Region.sinkB md ops n=Oc)(hc:Region.chainB md ops n=Oc)(hn:n<ops.size)
  (hseq:Region.seqB md ops (ops.size-n) n (Array.replicate n Oc++Array.replicate (ops.size-n) N1)=Oc)(hlex:Kq md ops n=Oc)
  (htl:tl.length=ops.size-n)(htl':∀j,tl[j]?=ops[n+j]?)
  (step:∀i o L vs w,i<n→ops[i]?=N3 o→L i=N1→I L vs w→(∀e∈o.after,Region.binds md e=Oc→L e.on=Oc)→
   wpOp P ops Q i (fun a' w'=>∃v,a'=F (bw vs i v)∧I (gd L i) (bw vs i v) w') (F vs) w)
  (tail:∀L vs w,(∀i,i<n→L i=Oc)→I L vs w→wpList P ops Q tl (F vs) w):
  ∀(f:Nat) (listed:Array Bool) (vs:Nat→N2) (w:NY),HeadInv md ops n listed→qf listed n=f→I (fun j=>listed.getD j N1) vs w→wpAny P md ops Q (f+(ops.size-n)) listed (F vs) w:=by
 intro f
 induction f with
 |zero=>
  intro listed vs w inv hu hI
  have hall:=jX hu
  have he:listed=Array.replicate n Oc++Array.replicate (ops.size-n) N1:=by
   apply Array.ext
   ·simp[inv.size];omega
   ·intro i h1 h2
    rw[inv.size] at h1
    by_cases hi:i<n
    ·have:=hall i hi
     simp[inv.size,h1] at this
     rw[Array.getElem_append_left Pz]
     simp[this]
    ·have:=inv.tail i Ot h1
     simp[inv.size,h1] at this
     rw[Array.getElem_append_right Pz]
     simp[this]
  rw[Nat.zero_add,←htl]
  refine wpAny_of_seq tl n listed (F vs) w htl' (by rw[htl,he];exact hseq) ?_
  exact tail _ vs w hall hI
 |succ f ih=>
  intro listed vs w inv hu hI
  obtain⟨i0,hi0,hun0,hbef⟩:=nU hu
  have hi0s:i0<listed.size:=Pg
  rw[show f+1+(ops.size-n)=(f+(ops.size-n))+1 by omega]
  refine⟨fun h0=> ?_,fun i hi=> ?_⟩
  ·have ho:ops[i0]?=N3 (ops[i0]'Ot):=Array.getElem?_eq_getElem Ot
   have:i0∈Region.ready md ops listed:=mem_ready.2 ⟨getD_in hi0s hun0,_,ho,fun e he hb=>hbef _ (BE hlex hi0 ho e he hb)⟩
   rw[h0] at this;cases this
  ·have hin:i<n:=by
    rcases Nat.lt_or_ge i n with h|h
    ·exact h
    ·exact absurd hi (tail_waits hs hc hn inv (n-i0) i0 rfl hi0 (getD_in hi0s hun0) i h)
   obtain⟨hun,o,ho,hdep⟩:=mem_ready.1 hi
   have hun':=getD_both hun
   refine wpOp_mono ?_ (step i o _ vs w hin ho hun' hI (fun e he hb=>hdep e he hb))
   rintro a' w' ⟨v,rfl,hv⟩
   refine ih _ _ w' (inv.set hi hin) (oe hin Pg hun' hu) ?_
   rw[sA Pg]
   exact hv
theorem bL{l:List Oper}(n:Nat)(F:(Nat→N2)→Act)(I:(Nat→Bool)→(Nat→N2)→NY→Prop)(hB:La l.toArray n=Oc)
  (step:∀i L vs w,i<n→L i=N1→I L vs w→(∀j,Region.waitsFor .any l.toArray i j=Oc→L j=Oc)→
   wpOp P l.toArray Q i (fun a' w'=>∃v,a'=F (bw vs i v)∧I (gd L i) (bw vs i v) w') (F vs) w)
  (tail:∀L vs w,(∀i,i<n→L i=Oc)→I L vs w→wpList P l.toArray Q (l.drop n) (F vs) w)
  (vs:Nat→N2)(w:NY)(h0:I (fun _=>N1) vs w):wpAny P .any l.toArray Q l.toArray.size (Array.replicate l.toArray.size N1) (F vs) w:=by
 simp only[La,Bool.and_eq_true,decide_eq_true_eq] at hB
 obtain⟨⟨⟨⟨hn,hs⟩,hc⟩,hseq⟩,hlex⟩:=hB
 have:=pg (tl:=l.drop n) F I hs hc hn hseq hlex Ow (fun j=>by simp[List.getElem?_drop])
  (fun i o L vs w hi ho hL hd hdep=>step i L vs w hi hL hd (fun j hj=>by
   obtain⟨oj,hoj,e,he,hb,rfl⟩:=Region.waitsFor_spec hj
   obtain rfl:=Option.some.inj (ho.symm.trans hoj)
   exact hdep e he hb)) tail n (Array.replicate l.toArray.size N1) vs w
  ⟨Ow,fun j oj _ hl=>OS,fun t _ ht=>getD_in (by simpa using ht) (getD_replicate_false _ _)⟩ (ml _ _)
  (by simpa only[getD_replicate_false] using h0)
 rwa[show n+(l.toArray.size-n)=l.toArray.size by omega] at this
end
section
theorem fh{L:Nat→Bool}{vs val:Nat→N2}{i:Nat}{v:N2}(h:∀k,L k=Oc→vs k=val k)(hv:v=val i):∀k,gd L i k=Oc→bw vs i v k=val k:=by
 intro k hk
 unfold bw
 by_cases e:k=i
 ·rw[if_pos e,hv,e]
 ·rw[if_neg e]
  refine h k ?_
  simpa[gd,e] using hk
theorem ae{L:Nat→Bool}{i k:Nat}(h:k≠i):gd L i k=L k:=by unfold gd;rw[if_neg h]
theorem dw{L:Nat→Bool}{i:Nat}:gd L i i=Oc:=by unfold gd;rw[if_pos rfl]
theorem aP{vs:Nat→N2}{i k:Nat}{v:N2}(h:k≠i):bw vs i v k=vs k:=by unfold bw;rw[if_neg h]
theorem dn{vs:Nat→N2}{i:Nat}{v:N2}:bw vs i v i=v:=by unfold bw;rw[if_pos rfl]
structure cJ(W0:NY)(val:Nat→N2)(own:N2→NY→Prop)(e:N2)(p:Addr)(ic:Nat)(lo:List Nat)(L:Nat→Bool)(vs:Nat→N2)(W:NY):Prop where
 vals:∀k,L k=Oc→k<ic∨ic+3≤k→vs k=val k
 early:L ic=Oc→∀k∈lo,L k=Oc
 mv:L (ic+1)=Oc→L ic=Oc
 ex:L (ic+2)=Oc→L (ic+1)=Oc
 st:L (ic+6)=Oc→L (ic+2)=Oc
 mem:∃v W1,Ext W0 W1∧(L ic=Oc→own v W1∧vs ic= .tuple #[v,e])∧(L (ic+1)=Oc→vs (ic+1)= .tuple #[v,e])∧(L (ic+2)=Oc→vs (ic+2)=v)∧W=if L (ic+6)=Oc then W1.setCell p v else W1
variable {W0 W : NY} {val : Nat → N2} {own : N2 → NY → Prop} {e : N2} {p : Addr} {ic : Nat} {lo : List Nat} {L : Nat → Bool} {vs : Nat → N2}
theorem cJ.start(h:Ext W0 W):cJ W0 val own e p ic lo (fun _=>N1) (fun _=>N7) W:=
 ⟨fun _ h=>Ox,fun h=>Ox,fun h=>Ox,fun h=>Ox,fun h=>Ox,N7,W,h,fun h=>Ox,fun h=>Ox,fun h=>Ox,Ow⟩
theorem cJ.pure(h:cJ W0 val own e p ic lo L vs W){i:Nat}(hi:i<ic∨i=ic+3∨i=ic+4∨i=ic+5){v:N2}(hv:v=val i):cJ W0 val own e p ic lo (gd L i) (bw vs i v) W:=by
 have n0:ic≠i:=Ot
 have n1:ic+1≠i:=Ot
 have n2:ic+2≠i:=Ot
 have n6:ic+6≠i:=Ot
 obtain⟨a,b,c,d,f,v1,W1,m1,m2,m3,m4,m5⟩:=h
 refine⟨fun k hk hh=> ?_,?_,?_,?_,?_,v1,W1,m1,?_⟩
 ·by_cases q:k=i
  ·subst q;rw[dn];exact hv
  ·rw[aP q];rw[ae q] at hk;exact a k hk hh
 ·rw[ae n0];intro h k hk
  by_cases q:k=i
  ·subst q;exact dw
  ·rw[ae q];exact b h k hk
 ·rw[ae n1,ae n0];exact c
 ·rw[ae n2,ae n1];exact d
 ·rw[ae n6,ae n2];exact f
 ·rw[ae n0,ae n1,ae n2,ae n6,aP n0,aP n1,aP n2];exact⟨m2,m3,m4,m5⟩
theorem cJ.ext(h:cJ W0 val own e p ic lo L vs W)(hL:L ic=N1):Ext W0 W:=by
 obtain⟨a,b,c,d,f,v1,W1,m1,m2,m3,m4,m5⟩:=h
 have:¬L (ic+6)=Oc:=fun h=>by rw[c (d (f h))] at hL;cases hL
 rw[if_neg this] at m5
 rw[m5];exact m1
theorem cJ.load(h:cJ W0 val own e p ic lo L vs W){k:Nat}(hk:k∈lo)(hL:L k=N1):Ext W0 W:=by
 refine h.ext ?_
 cases q:L ic with
 |false=>rfl
 |true=>rw[h.early q k hk] at hL;cases hL
theorem cJ.call(h:cJ W0 val own e p ic lo L vs W)(hL:L ic=N1)(hlo:∀k∈lo,L k=Oc){W':NY}{v:N2}(hx:Ext W W')(ho:own v W'):cJ W0 val own e p ic lo (gd L ic) (bw vs ic (.tuple #[v,e])) W':=by
 have he:=h.ext hL
 obtain⟨a,b,c,d,f,v1,W1,m1,m2,m3,m4,m5⟩:=h
 have f1:L (ic+1)=N1:=by cases q:L (ic+1) with|false=>rfl|true=>rw[c q] at hL;cases hL
 have f2:L (ic+2)=N1:=by cases q:L (ic+2) with|false=>rfl|true=>rw[d q] at f1;cases f1
 have f6:L (ic+6)=N1:=by cases q:L (ic+6) with|false=>rfl|true=>rw[f q] at f2;cases f2
 have n1:ic+1≠ic:=Ot
 have n2:ic+2≠ic:=Ot
 have n6:ic+6≠ic:=Ot
 refine⟨fun k hk hh=> ?_,?_,?_,?_,?_,v,W',he.tr hx,?_⟩
 ·have q:k≠ic:=Ot
  rw[aP q];rw[ae q] at hk;exact a k hk hh
 ·intro _ k hk
  by_cases q:k=ic
  ·subst q;exact dw
  ·rw[ae q];exact hlo k hk
 ·intro _;exact dw
 ·rw[ae n2,ae n1,f2];intro h;cases h
 ·rw[ae n6,f6];intro h;cases h
 ·rw[ae n1,ae n2,ae n6,f1,f2,f6,dn]
  exact⟨fun _=>⟨ho,rfl⟩,fun h=>Ox,fun h=>Ox,rfl⟩
theorem cJ.move(h:cJ W0 val own e p ic lo L vs W)(hL:L (ic+1)=N1)(hc:L ic=Oc):cJ W0 val own e p ic lo (gd L (ic+1)) (bw vs (ic+1) (vs ic)) W:=by
 obtain⟨a,b,c,d,f,v1,W1,m1,m2,m3,m4,m5⟩:=h
 have f2:L (ic+2)=N1:=by cases q:L (ic+2) with|false=>rfl|true=>rw[d q] at hL;cases hL
 have f6:L (ic+6)=N1:=by cases q:L (ic+6) with|false=>rfl|true=>rw[f q] at f2;cases f2
 have n0:ic≠ic+1:=Ot
 have n2:ic+2≠ic+1:=Ot
 have n6:ic+6≠ic+1:=Ot
 refine⟨fun k hk hh=> ?_,?_,?_,?_,?_,v1,W1,m1,?_⟩
 ·have q:k≠ic+1:=Ot
  rw[aP q];rw[ae q] at hk;exact a k hk hh
 ·rw[ae n0];intro h k hk
  by_cases q:k=ic+1
  ·subst q;exact dw
  ·rw[ae q];exact b h k hk
 ·intro _;rw[ae n0];exact hc
 ·intro _;exact dw
 ·rw[ae n6,f6];intro h;cases h
 ·rw[ae n0,ae n2,ae n6,f2,dn,aP n0]
  exact⟨m2,fun _=>(m2 hc).2,fun h=>Ox,m5⟩
theorem cJ.first(h:cJ W0 val own e p ic lo L vs W)(hL:L (ic+2)=N1)(hc:L (ic+1)=Oc):∃v,vs (ic+1)= .tuple #[v,e]∧cJ W0 val own e p ic lo (gd L (ic+2)) (bw vs (ic+2) v) W:=by
 obtain⟨a,b,c,d,f,v1,W1,m1,m2,m3,m4,m5⟩:=h
 have f6:L (ic+6)=N1:=by cases q:L (ic+6) with|false=>rfl|true=>rw[f q] at hL;cases hL
 have n0:ic≠ic+2:=Ot
 have n1:ic+1≠ic+2:=Ot
 have n6:ic+6≠ic+2:=Ot
 refine⟨v1,m3 hc,fun k hk hh=> ?_,?_,?_,?_,?_,v1,W1,m1,?_⟩
 ·by_cases q:k=ic+2
  ·omega
  ·rw[aP q];rw[ae q] at hk;exact a k hk hh
 ·rw[ae n0];intro h k hk
  by_cases q:k=ic+2
  ·subst q;exact dw
  ·rw[ae q];exact b h k hk
 ·rw[ae n1,ae n0];exact c
 ·intro _;rw[ae n1];exact hc
 ·intro _;exact dw
 ·rw[ae n0,ae n1,ae n6,aP n0,aP n1,dn]
  exact⟨m2,m3,fun _=>rfl,m5⟩
theorem cJ.MR(h:cJ W0 val own e p ic lo L vs W)(hc:L (ic+1)=Oc):∃v,vs (ic+1)= .tuple #[v,e]:=by
 obtain⟨a,b,c,d,f,v1,W1,m1,m2,m3,m4,m5⟩:=h
 exact⟨v1,m3 hc⟩
theorem cJ.store(h:cJ W0 val own e p ic lo L vs W)(hL:L (ic+6)=N1)(hc:L (ic+2)=Oc)(hv:val (ic+6)=N7):Ext W0 W∧own (vs (ic+2)) W∧cJ W0 val own e p ic lo (gd L (ic+6)) (bw vs (ic+6) N7) (W.setCell p (vs (ic+2))):=by
 obtain⟨a,b,c,d,f,v1,W1,m1,m2,m3,m4,m5⟩:=h
 have n0:ic≠ic+6:=Ot
 have n1:ic+1≠ic+6:=Ot
 have n2:ic+2≠ic+6:=Ot
 rw[if_neg (by rw[hL];decide)] at m5
 subst m5
 refine⟨m1,by rw[m4 hc];exact(m2 (c (d hc))).1,fun k hk hh=> ?_,?_,?_,?_,?_,v1,W,m1,?_⟩
 ·by_cases q:k=ic+6
  ·subst q;rw[dn];exact hv.symm
  ·rw[aP q];rw[ae q] at hk;exact a k hk hh
 ·rw[ae n0];intro h k hk
  by_cases q:k=ic+6
  ·subst q;exact dw
  ·rw[ae q];exact b h k hk
 ·rw[ae n1,ae n0];exact c
 ·rw[ae n2,ae n1];exact d
 ·intro _;rw[ae n2];exact hc
 ·rw[ae n0,ae n1,ae n2,dw,aP n0,aP n1,aP n2]
  exact⟨m2,m3,m4,by rw[if_pos rfl,m4 hc]⟩
theorem cJ.done(h:cJ W0 val own e p ic lo L vs W)(hL:∀i,i<ic+7→L i=Oc):vs (ic+3)=val (ic+3)∧∃v W1,Ext W0 W1∧own v W1∧W=W1.setCell p v:=by
 obtain⟨a,b,c,d,f,v1,W1,m1,m2,m3,m4,m5⟩:=h
 rw[if_pos (hL _ Ot)] at m5
 exact⟨a _ (hL _ Ot) Ot,v1,W1,m1,(m2 (hL _ Ot)).1,m5⟩
end
section
open Kp
attribute [local go_sem] PU Qz QN QK QA QF QG QM Qx QE QI Qo Qd Qi Qt Qq
attribute [local go_sem] PT P6 Qv PV
theorem FP{α β:Type}(f:α→β)(l:List α)(i:Nat)(x:α):cF (l.map f) i (f x)=(cF l i x).map f:=by
 unfold cF;simp[List.map_take,List.map_drop]
structure ky(W0:NY)(t:Oo)(k n i:Nat)(rows:List (List N2))(x:List N2)(val:Nat→N2)(L:Nat→Bool)(vs:Nat→N2)(W:NY):Prop where
 vals:∀q,L q=Oc→q≠5→q≠9→q≠10→vs q=val q
 ext:Ext W0 W
 own:L 10=N1→L 5=Oc→W.ownsRow W0.heap.size t k (vs 5) n rows.flatten
 bld:L 10=N1→L 9=Oc→∃vb,vs 9= .slice (N3 ⟨vb,0,N0⟩) 1 1∧af W vb t x∧(L 5=Oc→(vs 5).ownBlock≠N3 vb)
 ord:L 10=Oc→L 5=Oc∧L 9=Oc
 ins:L 10=Oc→W.ownsRow W0.heap.size t k (vs 10) (n+1) (cF rows i x).flatten
variable {W0 W : NY} {t : Oo} {k n i : Nat} {rows : List (List N2)} {x : List N2} {val : Nat → N2} {L : Nat → Bool} {vs : Nat → N2}
theorem ky.start(h:Ext W0 W):ky W0 t k n i rows x val (fun _=>N1) (fun _=>N7) W:=
 ⟨fun _ h=>Ox,h,fun _ h=>Ox,fun _ h=>Ox,fun h=>Ox,fun h=>Ox⟩
theorem ky.pure(h:ky W0 t k n i rows x val L vs W){q:Nat}(h5:q≠5)(h9:q≠9)(h10:q≠10){v:N2}(hv:v=val q):ky W0 t k n i rows x val (gd L q) (bw vs q v) W:=by
 refine⟨fun m hm a b c=> ?_,h.ext,?_,?_,?_,?_⟩
 ·by_cases e:m=q
  ·subst e;rw[dn];exact hv
  ·rw[aP e];rw[ae e] at hm;exact h.vals m hm a b c
 ·rw[ae (Ne.symm h10),ae (Ne.symm h5),aP (Ne.symm h5)];exact h.own
 ·rw[ae (Ne.symm h10),ae (Ne.symm h9),ae (Ne.symm h5),aP (Ne.symm h9),aP (Ne.symm h5)];exact h.bld
 ·rw[ae (Ne.symm h10),ae (Ne.symm h5),ae (Ne.symm h9)];exact h.ord
 ·rw[ae (Ne.symm h10),aP (Ne.symm h10)];exact h.ins
theorem ky.clone(h:ky W0 t k n i rows x val L vs W)(hL:L 10=N1){W':NY}{v:N2}(hx:Ext W W')(ho:W'.ownsRow W.heap.size t k v n rows.flatten):ky W0 t k n i rows x val (gd L 5) (bw vs 5 v) W':=by
 refine⟨fun m hm a b c=> ?_,h.ext.tr hx,?_,?_,?_,?_⟩
 ·rw[aP a];rw[ae a] at hm;exact h.vals m hm a b c
 ·intro _ _;rw[dn];exact dZ ho h.ext.size
 ·rw[ae Ov,ae Ov,aP Ov]
  intro a b
  obtain⟨vb,e,hr,_⟩:=h.bld a b
  refine⟨vb,e,hr.ext hx,fun _=> ?_⟩
  rw[dn]
  intro e2
  have:=(aE ho vb e2).1
  have:=hr.lt
  omega
 ·rw[ae (k:=10) Ov,hL];intro h;cases h
 ·rw[ae (k:=10) Ov,hL];intro h;cases h
theorem ky.build(h:ky W0 t k n i rows x val L vs W)(hL:L 10=N1){W':NY}{vb:Nat}(hx:Ext W W')(hr:af W' vb t x)(hvb:W.heap.size≤vb):ky W0 t k n i rows x val (gd L 9) (bw vs 9 (.slice (N3 ⟨vb,0,N0⟩) 1 1)) W':=by
 refine⟨fun m hm a b c=> ?_,h.ext.tr hx,?_,?_,?_,?_⟩
 ·rw[aP b];rw[ae b] at hm;exact h.vals m hm a b c
 ·rw[ae Ov,ae Ov,aP Ov]
  intro a b;exact bB (h.own a b) hx
 ·rw[ae (k:=10) Ov,dw,ae (k:=5) Ov,dn,aP (k:=5) Ov]
  intro a _
  refine⟨vb,rfl,hr,fun h5 e=> ?_⟩
  have:=(aE (h.own a h5) vb e).2
  omega
 ·rw[ae (k:=10) Ov,hL];intro h;cases h
 ·rw[ae (k:=10) Ov,hL];intro h;cases h
theorem ky.insert(h:ky W0 t k n i rows x val L vs W)(l5:L 5=Oc)(l9:L 9=Oc){W':NY}{v:N2}(hx:On W0.heap.size W W')(ho:W'.ownsRow W0.heap.size t k v (n+1) (cF rows i x).flatten):ky W0 t k n i rows x val (gd L 10) (bw vs 10 v) W':=by
 refine⟨fun m hm a b c=> ?_,h.ext.trans hx,?_,?_,?_,?_⟩
 ·rw[aP c];rw[ae c] at hm;exact h.vals m hm a b c
 ·rw[dw];intro h;cases h
 ·rw[dw];intro h;cases h
 ·intro _;rw[ae (k:=5) Ov,ae (k:=9) Ov];exact⟨l5,l9⟩
 ·intro _;rw[dn];exact ho
def kX(c b:Nat)(e:Ed)(A:Option Addr)(n cap m:Nat):Nat→N2
 |0=> .pointer (N3 ⟨c,0,N0⟩)
 |1=> .pointer (N3 ⟨c,0,N0⟩)
 |2=> .pointer (N3 ⟨c,0,N0⟩)
 |3=> .pointer (N3 ⟨c,4,N0⟩)
 |4=> .slice A n cap
 |6=> .int .i64 (m:Int)
 |7=> .pointer (N3 ⟨b,35,N0⟩)
 |8=> .int .i64 e.number
 |11=> .pointer (N3 ⟨c,0,N0⟩)
 |12=> .pointer (N3 ⟨c,4,N0⟩)
 |_=>N7
theorem vD(w:NY)(c:Nat)(j:du)(a:fm)(e:Ed)(g:N2)(hc:JC w c j a)(hb:bh w c j a)(hp:fW j.purlins=0):
  Of prog 71 #[.pointer (N3 ⟨c,0,N0⟩),.agg (aG e g)] w fun x w'=>x= .returned (.int .i64 (if j.purlins.contains e.number then 7 else 0))∧ei c w w'∧(j.purlins.contains e.number=N1→∃a',jC c w w' {j with purlins:=cF j.purlins (j.purlins.countP (· <e.number)) e.number} a'):=by
 have hlt:=hc.lt
 obtain⟨hs,hlen⟩:=xk hp
 obtain⟨W0,hW0⟩:∃W0,w.alloc (.cells (aG e g) 50)=W0:=⟨_,rfl⟩
 have HZ:EC W0 w.heap.size (aG e g):=Pd
 have e0:Ext w W0:=ON
 have hJ:=hc.ext e0
 have HU:=NW (fun(W:NY) (h:Ext W0 W)=>(((hb.u.below ((e0.tr h).mono (Nat.le_of_lt hlt))).more (Ok (Nat.le_of_lt hlt) (e0.tr h).size)):bC 1 W W.heap.size a.ua a.uc (bN j.purlins)))
 have KB:=NW (fun(W:NY) (h:Ext W0 W)=>Ic W a.ua a.uc j.purlins e.number (HU.out W h) hs Ot)
 have hcm:j.purlins.countP (· <e.number)≤j.purlins.length:=List.countP_le_length
 obtain⟨m,hm⟩:∃m,j.purlins.countP (· <e.number)=m:=⟨_,rfl⟩
 obtain⟨d,hd⟩:∃d,j.purlins.contains e.number=d:=⟨_,rfl⟩
 rw[hm] at hcm
 simp only[hm,hd] at KB
 rw[hm,hd]
 have HJ:=NW hJ
 have HE0:=NW e0
 have HZ':=NW HZ
 have HW:=NW hW0
 have b4:=fun w' (h:Ext W0 w')=>(HJ.out.ext h).cell 4
 have z35:=fun w' (h:Ext W0 w')=>(HZ'.out.ext h).cell 35
 have HBl:=NW (fun(W1:NY) (hx:Ext W0 W1)=>(ei.ext (e0.tr hx) hlt:ei c w W1))
 cases d with
 |true=>
  clear hc hb hJ HZ e0 hm hd hs hp hcm hW0
  go_enter func71,ntmps71
  go_wp2_with fail
  rw[HW.out]
  go_region_held3(fun w'=>Ext W0 w') (first|exact hx1|exact Ext.dr W0) (first|(go_at_call 127;go_must(refine(KB.out _ (Ext.dr W0)).mono ?_);rintro e W1 ⟨rfl,hX1⟩;have hx1:Ext W0 W1:=(Ext.dr W0).tr hX1))
  go_wp2
  go_ret
  exact⟨rfl,HBl.out _ hx1⟩
 |false=>
  have hpm:cF (bN j.purlins) m [.int .i64 e.number]=bN (cF j.purlins m e.number):=FP (fun n:Int=>([.int .i64 n]:List N2)) j.purlins m e.number
  have HF:=NW (fun(W1:NY) (v:N2) (hx:Ext W0 W1) (ho:W1.ownsRow W0.heap.size 3 1 v (j.purlins.length+1) (cF (bN j.purlins) m [.int .i64 e.number]).flatten)=>IS (l:=cF j.purlins m e.number) hc hb (e0.tr hx) (by rw[hpm] at ho;rw[N9,iP _ _ _ hcm];exact dZ ho e0.size))
  have KC:=NW (fun(W:NY) (h:Ext W0 W)=>An W a.ua a.uc (bN j.purlins) (HU.out W h) (bz (f:=fun n=>[.int .i64 n]) (fun _=>rfl) _) (yL _) (by rw[N9];omega))
  have HL:=NW (show(bN j.purlins).length=j.purlins.length by exact N9 _)
  have HCM:=NW hcm
  have HLN:=NW hlen
  clear hc hb hJ HZ e0 hm hd hs hp hcm hpm hlen hW0
  go_enter func71,ntmps71
  go_wp2_with fail
  rw[HW.out]
  go_region_held3(fun w'=>Ext W0 w') (first|exact hx1|exact Ext.dr W0) (first|(go_at_call 127;go_must(refine(KB.out _ (Ext.dr W0)).mono ?_);rintro e W1 ⟨rfl,hX1⟩;have hx1:Ext W0 W1:=(Ext.dr W0).tr hX1))
  go_wp2_with fail
  have HX1:=NW hx1
  clear hX1 hx1
  refine wp_region_any Ou (bL 13 (fun vs=>⟨#[.pointer (N3 ⟨c,0,N0⟩),.agg (aG e g),N7,.pointer (N3 ⟨w.heap.size,0,N0⟩),.int .i64 0,.int .i64 (m:Int),.bool N1,.tuple #[.int .i64 (m:Int),.bool N1],.pointer (N3 ⟨c,0,N0⟩),.pointer (N3 ⟨c,0,N0⟩),.pointer (N3 ⟨c,4,N0⟩),.slice a.ua j.purlins.length a.uc,.pointer (N3 ⟨w.heap.size,35,N0⟩),.int .i64 e.number,.tuple #[.int .i64 (m:Int),.bool N1],.int .i64 (m:Int),.bool N1,.bool N1,vs 0,vs 1,vs 2,vs 3,vs 4,vs 5,vs 6,vs 7,vs 8,vs 9,vs 10,vs 11,vs 12],[]⟩)
   (fun L vs W=>ky W0 3 1 j.purlins.length m (bN j.purlins) [.int .i64 e.number] (kX c w.heap.size e a.ua j.purlins.length a.uc m) L vs W) Ou ?step ?tail (fun _=>N7) _ (ky.start (HX1.out.tr (Ext.dr _))))
  case step=>
   intro i L vs W hi hL hI hd
   have HI:=NW hI
   rcases(show i=0∨i=1∨i=2∨i=3∨i=4∨i=5∨i=6∨i=7∨i=8∨i=9∨i=10∨i=11∨i=12 by omega) with rfl|rfl|rfl|rfl|rfl|rfl|rfl|rfl|rfl|rfl|rfl|rfl|rfl<;>clear hi hI
   ·refine Ob rfl (fun K hK=> ?_)
    go_simp
    exact hK _ _ ⟨kX c w.heap.size e a.ua j.purlins.length a.uc m 0,by simp[bw,kX],HI.out.pure Ov Ov Ov rfl⟩
   ·refine Ob rfl (fun K hK=> ?_)
    go_simp
    exact hK _ _ ⟨kX c w.heap.size e a.ua j.purlins.length a.uc m 1,by simp[bw,kX],HI.out.pure Ov Ov Ov rfl⟩
   ·refine Ob rfl (fun K hK=> ?_)
    have d1:=HI.out.vals 1 (hd 1 Ou) Ov Ov Ov
    simp only[kX] at d1
    go_simp
    exact hK _ _ ⟨kX c w.heap.size e a.ua j.purlins.length a.uc m 2,by simp[bw,kX,d1],HI.out.pure Ov Ov Ov rfl⟩
   ·refine Ob rfl (fun K hK=> ?_)
    have d2:=HI.out.vals 2 (hd 2 Ou) Ov Ov Ov
    simp only[kX] at d2
    go_simp
    exact hK _ _ ⟨kX c w.heap.size e a.ua j.purlins.length a.uc m 3,by simp[bw,kX,d2],HI.out.pure Ov Ov Ov rfl⟩
   ·refine Ob rfl (fun K hK=> ?_)
    have d3:=HI.out.vals 3 (hd 3 Ou) Ov Ov Ov
    simp only[kX] at d3
    have mm:=(HJ.out.ext HI.out.ext).cell 4
    go_simp
    exact hK _ _ ⟨kX c w.heap.size e a.ua j.purlins.length a.uc m 4,by simp[bw,kX,d3],HI.out.pure Ov Ov Ov rfl⟩
   ·refine Ob rfl (fun K hK=> ?_)
    have d4:=HI.out.vals 4 (hd 4 Ou) Ov Ov Ov
    simp only[kX] at d4
    have hx:=NW HI.out.ext
    have h10:L 10=N1:=by
      cases q:L 10 with
      |false=>rfl
      |true=>exact absurd (HI.out.ord q).1 (by rw[hL];decide)
    go_simp
    rw[←HL.out]
    refine(KC.out _ hx.out).mono ?_
    rintro x W2 ⟨v,rfl,ho,hX⟩
    rw[HL.out] at ho
    exact hK _ _ ⟨v,by simp[bw,d4,HL.out],HI.out.clone h10 hX ho⟩
   ·refine Ob rfl (fun K hK=> ?_)
    go_simp
    exact hK _ _ ⟨kX c w.heap.size e a.ua j.purlins.length a.uc m 6,by simp[bw,kX],HI.out.pure Ov Ov Ov rfl⟩
   ·refine Ob rfl (fun K hK=> ?_)
    go_simp
    exact hK _ _ ⟨kX c w.heap.size e a.ua j.purlins.length a.uc m 7,by simp[bw,kX],HI.out.pure Ov Ov Ov rfl⟩
   ·refine Ob rfl (fun K hK=> ?_)
    have d7:=HI.out.vals 7 (hd 7 Ou) Ov Ov Ov
    simp only[kX] at d7
    have mm:=(HZ'.out.ext HI.out.ext).cell 35
    go_simp
    exact hK _ _ ⟨kX c w.heap.size e a.ua j.purlins.length a.uc m 8,by simp[bw,kX,d7],HI.out.pure Ov Ov Ov rfl⟩
   ·refine Ob rfl (fun K hK=> ?_)
    have d8:=HI.out.vals 8 (hd 8 Ou) Ov Ov Ov
    simp only[kX] at d8
    have h10:L 10=N1:=by
      cases q:L 10 with
      |false=>rfl
      |true=>exact absurd (HI.out.ord q).2 (by rw[hL];decide)
    go_simp
    exact hK _ _ ⟨_,by simp[bw,d8],HI.out.build h10 ((Below.refl _ _).alloc (NZ _) _) (af.new _ _ _) (NZ _)⟩
   ·refine Ob rfl (fun K hK=> ?_)
    have d6:=HI.out.vals 6 (hd 6 Ou) Ov Ov Ov
    simp only[kX] at d6
    have h5:=hd 5 Ou
    have h9:=hd 9 Ou
    have ho:=HI.out.own hL h5
    obtain⟨vb,hv,hr,hne⟩:=HI.out.bld hL h9
    have KI:=NW (FE W W0.heap.size j.purlins.length m vb 1 (vs 5) (bN j.purlins) [.int .i64 e.number] ho HL.out (bz (f:=fun n=>[.int .i64 n]) (fun _=>rfl) _) (yL _) rfl PI hr (hne h5) HCM.out (by have:=HLN.out;omega) HI.out.ext.size)
    clear ho hr hne
    go_simp
    refine KI.out.mono ?_
    rintro x W2 ⟨v,rfl,ho,hX⟩
    exact hK _ _ ⟨v,by simp[bw,d6,hv],HI.out.insert h5 h9 hX ho⟩
   ·refine Ob rfl (fun K hK=> ?_)
    have d0:=HI.out.vals 0 (hd 0 Ou) Ov Ov Ov
    simp only[kX] at d0
    go_simp
    exact hK _ _ ⟨kX c w.heap.size e a.ua j.purlins.length a.uc m 11,by simp[bw,kX,d0],HI.out.pure Ov Ov Ov rfl⟩
   ·refine Ob rfl (fun K hK=> ?_)
    have d11:=HI.out.vals 11 (hd 11 Ou) Ov Ov Ov
    simp only[kX] at d11
    go_simp
    exact hK _ _ ⟨kX c w.heap.size e a.ua j.purlins.length a.uc m 12,by simp[bw,kX,d11],HI.out.pure Ov Ov Ov rfl⟩
  case tail=>
   intro L vs W hL hI
   have d12:=hI.vals 12 (hL 12 Ov) Ov Ov Ov
   simp only[kX] at d12
   have ho:=hI.ins (hL 10 Ov)
   obtain⟨A1,n1,c1,hv⟩:=lW.of ho
   rw[hv] at ho
   have HO:=NW ho
   have HE:=NW hI.ext
   have mm:=(HJ.out.ext HE.out).cell 4
   have nn:=(HJ.out.ext HE.out).frozen 4
   clear ho hI
   simp only[d12,hv,List.drop_succ_cons,List.drop_zero]
   go_wp2
   go_ret
   exact⟨rfl,((HBl.out W HE.out).put 4 _),HF.out W _ HE.out HO.out⟩
end
section
open Kp
attribute [local go_sem] PU Qz QN QK QA QF QG QM Qx QE QI Qo Qd Qi Qt Qq
attribute [local go_sem] PT P6 Qv QL QJ Qy QH QD QC QO QB Qc Qa Qn Qk Qj P8 P9 P3 P5 PX PZ P4 PW Qm Qe Qg P7 Qp Qr Qb Ql Qs Qh Qf Qu PV PY
theorem Iy{n:Nat}{i:Int}(h:dh n i=0):i.toNat<n:=by
 unfold dh at h
 split at h
 ·omega
 ·cases h
theorem gL{α:Type}{l:List α}{i:Int}(h:dh l.length i=0):l.length-1=(l.eraseIdx i.toNat).length:=by
 rw[List.length_eraseIdx,if_pos (Iy h)]
def fY(c b cell:Nat)(e:Ed)(A:Option Addr)(n cap:Nat):Nat→N2
 |0=> .pointer (N3 ⟨c,0,N0⟩)
 |1=> .pointer (N3 ⟨c,0,N0⟩)
 |2=> .pointer (N3 ⟨c,0,N0⟩)
 |3=> .pointer (N3 ⟨c,cell,N0⟩)
 |4=> .slice A n cap
 |5=> .pointer (N3 ⟨b,1,N0⟩)
 |6=> .int .i64 e.index
 |10=> .int .i64 (dh n e.index)
 |11=> .pointer (N3 ⟨c,0,N0⟩)
 |12=> .pointer (N3 ⟨c,cell,N0⟩)
 |_=>N7
theorem gI{p:Prop}(h:p:=by
  intro i L vs W hi hL hI hd
  have HI:=NW hI
  rcases(show i=0∨i=1∨i=2∨i=3∨i=4∨i=5∨i=6∨i=7∨i=8∨i=9∨i=10∨i=11∨i=12∨i=13 by omega) with rfl|rfl|rfl|rfl|rfl|rfl|rfl|rfl|rfl|rfl|rfl|rfl|rfl|rfl<;>clear hi hI
  ·refine Ob rfl (fun K hK=> ?_)
   go_simp
   exact hK _ _ ⟨_,by simp[bw,fY],HI.out.pure Ov rfl⟩
  ·refine Ob rfl (fun K hK=> ?_)
   go_simp
   exact hK _ _ ⟨_,by simp[bw,fY],HI.out.pure Ov rfl⟩
  ·refine Ob rfl (fun K hK=> ?_)
   have d1:=HI.out.vals 1 (hd 1 Ou) Ov
   simp only[fY] at d1
   go_simp
   exact hK _ _ ⟨_,by simp[bw,fY,d1],HI.out.pure Ov rfl⟩
  ·refine Ob rfl (fun K hK=> ?_)
   have d2:=HI.out.vals 2 (hd 2 Ou) Ov
   simp only[fY] at d2
   go_simp
   exact hK _ _ ⟨_,by simp[bw,fY,d2],HI.out.pure Ov rfl⟩
  ·refine Ob rfl (fun K hK=> ?_)
   have d3:=HI.out.vals 3 (hd 3 Ou) Ov
   simp only[fY] at d3
   have hx:=HI.out.load (k:=4) Ov hL
   have mm:=(HJ.out.ext hx).cell
   clear hx
   go_simp
   exact hK _ _ ⟨_,by simp[bw,fY,d3],HI.out.pure Ov rfl⟩
  ·refine Ob rfl (fun K hK=> ?_)
   go_simp
   exact hK _ _ ⟨_,by simp[bw,fY],HI.out.pure Ov rfl⟩
  ·refine Ob rfl (fun K hK=> ?_)
   have d5:=HI.out.vals 5 (hd 5 Ou) Ov
   simp only[fY] at d5
   have hx:=HI.out.load (k:=6) Ov hL
   have mm:=(HZ'.out.ext hx).cell 1
   clear hx
   go_simp
   exact hK _ _ ⟨_,by simp[bw,fY,d5],HI.out.pure Ov rfl⟩
  ·refine Ob rfl (fun K hK=> ?_)
   have d4:=HI.out.vals 4 (hd 4 Ou) Ov
   simp only[fY] at d4
   have d6:=HI.out.vals 6 (hd 6 Ou) Ov
   simp only[fY] at d6
   have hx:=NW (HI.out.ext hL)
   go_simp
   rw[←HL.out]
   refine(KP.out _ hx.out).mono ?_
   rintro x W1 ⟨v,hsl,rfl,ho,hX⟩
   exact hK _ _ ⟨_,by simp[bw,d4,d6,HL.out],HI.out.call hL (by intro k hk;simp at hk;rcases hk with rfl|rfl<;>exact hd _ Ou) hX ⟨hsl,fun h=>dZ (ho (HL.out.symm▸h)) (Ok HE0.out.size hx.out.size)⟩⟩
  ·refine Ob rfl (fun K hK=> ?_)
   go_simp
   exact hK _ _ ⟨vs 7,by simp[bw],HI.out.move hL (hd 7 Ou)⟩
  ·refine Ob rfl (fun K hK=> ?_)
   obtain⟨v,ht,hn⟩:=HI.out.first hL (hd 8 Ou)
   go_simp
   exact hK _ _ ⟨v,by simp[bw,ht],hn⟩
  ·refine Ob rfl (fun K hK=> ?_)
   obtain⟨v,ht⟩:=HI.out.MR (hd 8 Ou)
   go_simp
   exact hK _ _ ⟨_,by simp[bw,fY,ht],HI.out.pure Ov rfl⟩
  ·refine Ob rfl (fun K hK=> ?_)
   have d0:=HI.out.vals 0 (hd 0 Ou) Ov
   simp only[fY] at d0
   go_simp
   exact hK _ _ ⟨_,by simp[bw,fY,d0],HI.out.pure Ov rfl⟩
  ·refine Ob rfl (fun K hK=> ?_)
   have d11:=HI.out.vals 11 (hd 11 Ou) Ov
   simp only[fY] at d11
   go_simp
   exact hK _ _ ⟨_,by simp[bw,fY,d11],HI.out.pure Ov rfl⟩
  ·refine Ob rfl (fun K hK=> ?_)
   have d12:=HI.out.vals 12 (hd 12 Ou) Ov
   simp only[fY] at d12
   obtain⟨hx,⟨⟨A1,n1,c1,hv⟩,_⟩,hn⟩:=HI.out.store hL (hd 9 Ou) rfl
   rw[hv] at hn
   have hw:vs 9= .slice A1 n1 c1:=hv
   clear hv
   have mm:=(HJ.out.ext hx).cell
   have nn:=(HJ.out.ext hx).frozen
   clear hx
   go_simp
   exact hK _ _ ⟨N7,by simp[bw,d12,hw],hn⟩):p:=h
theorem iW{p:Prop}(h:p:=by
  intro L vs W hL hI
  obtain⟨he,v,W1,hx,⟨_,ho⟩,rfl⟩:=hI.done hL
  have h10:=he
  simp only[Nat.reduceAdd,fY] at h10
  have HX:=NW hx
  have HO:=NW ho
  clear hx ho he hI
  simp only[h10,List.drop_succ_cons,List.drop_zero]
  go_wp2
  go_ret
  exact⟨rfl,HBl.out W1 v HX.out,fun h=>HF.out W1 v HX.out h (HO.out h)⟩):p:=h
theorem j5{w:NY}{c:Nat}{j:du}{a:fm}(e:Ed)(g:N2)(hc:JC w c j a):∃W0,Hid (w.alloc (.cells (aG e g) 50)=W0)∧Hid (EC W0 w.heap.size (aG e g))∧Hid (Ext w W0)∧Hid (JC W0 c j a)∧(w.alloc (.cells (aG e g) 50)).cell? ⟨w.heap.size,35,N0⟩=(aG e g)[35]?:=
 ⟨_,NW rfl,NW (EC.new w _),NW ((Below.refl _ _).alloc (NZ _) _),NW (hc.ext ((Below.refl _ _).alloc (NZ _) _)),(EC.new w (aG e g)).cell 35⟩
theorem FI(w:NY)(c:Nat)(j:du)(a:fm)(e:Ed)(g:N2)(hc:JC w c j a)(hb:bh w c j a)(hlen:j.purlins.length≤1000000)(hnum:e.number=4):
  Of prog 82 #[.pointer (N3 ⟨c,0,N0⟩),.agg (aG e g)] w fun x w'=>x= .returned (.int .i64 (dh j.purlins.length e.index))∧ei c w w'∧(dh j.purlins.length e.index=0→∃a',jC c w w' {j with purlins:=j.purlins.eraseIdx e.index.toNat} a'):=by
 have hlt:=hc.lt
 obtain⟨W0,HW,HZ',HE0,HJ,z35⟩:=j5 e g hc
 have e0:=HE0.out
 have KP:=NW (fun(W:NY) (h:Ext W0 W)=>DY W a.ua a.uc (bN j.purlins) e.index ((hb.u.below ((e0.tr h).mono (Nat.le_of_lt hlt))).more (Ok (Nat.le_of_lt hlt) (e0.tr h).size)) (bz (f:=fun n=>[.int .i64 n]) (fun _=>rfl) _) (yL _) Ps)
 have hpm:(bN j.purlins).eraseIdx e.index.toNat=bN (j.purlins.eraseIdx e.index.toNat):=iK (fun n:Int=>([.int .i64 n]:List N2)) j.purlins e.index.toNat
 have HF:=NW (fun(W1:NY) (v:N2) (hx:Ext W0 W1) (h0:dh j.purlins.length e.index=0) (ho:W1.ownsRow w.heap.size 3 1 v ((bN j.purlins).length-1) ((bN j.purlins).eraseIdx e.index.toNat).flatten)=>IS (l:=j.purlins.eraseIdx e.index.toNat) hc hb (e0.tr hx) (by rw[gL (l:=(bN j.purlins)) PR,hpm] at ho;exact ho))
 have HBl:=NW (fun(W1:NY) (v:N2) (hx:Ext W0 W1)=>((ei.ext (e0.tr hx) hlt).put 4 v:ei c w (W1.setCell ⟨c,4,N0⟩ v)))
 have HL:=NW (show(bN j.purlins).length=j.purlins.length by exact N9 _)
 have t0:(e.number==4)=Oc:=OZ
 clear hc hb e0 hnum hpm
 go_enter func82,ntmps82
 go_wp2_with fail
 rw[HW.out]
 refine wp_region_any Ou (bL 14 (fun vs=>⟨#[.pointer (N3 ⟨c,0,N0⟩),.agg (aG e g),N7,.pointer (N3 ⟨w.heap.size,0,N0⟩),.int .i64 0,.pointer (N3 ⟨w.heap.size,35,N0⟩),.int .i64 e.number,.bool Oc,.bool Oc,vs 8,vs 0,vs 1,vs 2,vs 3,vs 4,vs 5,vs 6,vs 7,vs 9,vs 10,vs 11,vs 12,N7,N7,N7,N7,N7,N7,N7,N7,N7,N7,N7,N7,N7,N7,N7,N7,N7,N7,N7,N7,N7,N7,N7,N7,N7,N7,N7,N7,N7,N7,N7,N7,N7,N7,N7,N7,N7,N7,N7,N7,N7,N7,N7,N7,N7,N7,N7,N7,N7,N7,N7,N7,N7,N7,N7,N7,N7,N7,N7,N7,N7,N7,N7,N7,N7,N7,N7,N7,N7,N7,N7,N7,N7,N7,N7,N7],[]⟩)
  (fun L vs W=>cJ W0 (fY c w.heap.size 4 e a.ua j.purlins.length a.uc) (fun v W1=>lW v∧(dh j.purlins.length e.index=0→W1.ownsRow w.heap.size 3 1 v ((bN j.purlins).length-1) ((bN j.purlins).eraseIdx e.index.toNat).flatten)) (.int .i64 (dh j.purlins.length e.index)) ⟨c,4,N0⟩ 7 [4,6] L vs W) Ou ?step ?tail (fun _=>N7) _ (cJ.start (Ext.dr _)))
 case step=>exact gI
 case tail=>exact iW
theorem F9(w:NY)(c:Nat)(j:du)(a:fm)(e:Ed)(g:N2)(hc:JC w c j a)(hb:bh w c j a)(hlen:j.openings.length≤1000000)(hnum:e.number=5):
  Of prog 82 #[.pointer (N3 ⟨c,0,N0⟩),.agg (aG e g)] w fun x w'=>x= .returned (.int .i64 (dh j.openings.length e.index))∧ei c w w'∧(dh j.openings.length e.index=0→∃a',jC c w w' {j with openings:=j.openings.eraseIdx e.index.toNat} a'):=by
 have hlt:=hc.lt
 obtain⟨W0,HW,HZ',HE0,HJ,z35⟩:=j5 e g hc
 have e0:=HE0.out
 have KP:=NW (fun(W:NY) (h:Ext W0 W)=>D8 W a.oa a.oc (aO j.openings) e.index ((hb.o.below ((e0.tr h).mono (Nat.le_of_lt hlt))).more (Ok (Nat.le_of_lt hlt) (e0.tr h).size)) (j7 _) (Ey _) Ps)
 have hpm:(aO j.openings).eraseIdx e.index.toNat=aO (j.openings.eraseIdx e.index.toNat):=iK qg j.openings e.index.toNat
 have HF:=NW (fun(W1:NY) (v:N2) (hx:Ext W0 W1) (h0:dh j.openings.length e.index=0) (ho:W1.ownsRow w.heap.size 39 5 v ((aO j.openings).length-1) ((aO j.openings).eraseIdx e.index.toNat).flatten)=>Ja (l:=j.openings.eraseIdx e.index.toNat) hc hb (e0.tr hx) (by rw[gL (l:=(aO j.openings)) PR,hpm] at ho;exact ho))
 have HBl:=NW (fun(W1:NY) (v:N2) (hx:Ext W0 W1)=>((ei.ext (e0.tr hx) hlt).put 5 v:ei c w (W1.setCell ⟨c,5,N0⟩ v)))
 have HL:=NW (show(aO j.openings).length=j.openings.length by exact N9 _)
 have t0:(e.number==4)=N1:=OZ
 have t1:(e.number==5)=Oc:=OZ
 clear hc hb e0 hnum hpm
 go_enter func82,ntmps82
 go_wp2_with fail
 rw[HW.out]
 refine wp_region_any Ou (bL 14 (fun vs=>⟨#[.pointer (N3 ⟨c,0,N0⟩),.agg (aG e g),N7,.pointer (N3 ⟨w.heap.size,0,N0⟩),.int .i64 0,.pointer (N3 ⟨w.heap.size,35,N0⟩),.int .i64 e.number,.bool N1,.bool N1,N7,N7,N7,N7,N7,N7,N7,N7,N7,N7,N7,N7,N7,.bool Oc,.bool Oc,vs 8,vs 0,vs 1,vs 2,vs 3,vs 4,vs 5,vs 6,vs 7,vs 9,vs 10,vs 11,vs 12,N7,N7,N7,N7,N7,N7,N7,N7,N7,N7,N7,N7,N7,N7,N7,N7,N7,N7,N7,N7,N7,N7,N7,N7,N7,N7,N7,N7,N7,N7,N7,N7,N7,N7,N7,N7,N7,N7,N7,N7,N7,N7,N7,N7,N7,N7,N7,N7,N7,N7,N7,N7,N7,N7,N7,N7,N7,N7,N7,N7,N7],[]⟩)
  (fun L vs W=>cJ W0 (fY c w.heap.size 5 e a.oa j.openings.length a.oc) (fun v W1=>lW v∧(dh j.openings.length e.index=0→W1.ownsRow w.heap.size 39 5 v ((aO j.openings).length-1) ((aO j.openings).eraseIdx e.index.toNat).flatten)) (.int .i64 (dh j.openings.length e.index)) ⟨c,5,N0⟩ 7 [4,6] L vs W) Ou ?step ?tail (fun _=>N7) _ (cJ.start (Ext.dr _)))
 case step=>exact gI
 case tail=>exact iW
theorem Du(w:NY)(c:Nat)(j:du)(a:fm)(e:Ed)(g:N2)(hc:JC w c j a)(hb:bh w c j a)(hlen:j.sizes.length≤1000000)(hnum:e.number=6):
  Of prog 82 #[.pointer (N3 ⟨c,0,N0⟩),.agg (aG e g)] w fun x w'=>x= .returned (.int .i64 (dh j.sizes.length e.index))∧ei c w w'∧(dh j.sizes.length e.index=0→∃a',jC c w w' {j with sizes:=j.sizes.eraseIdx e.index.toNat} a'):=by
 have hlt:=hc.lt
 obtain⟨W0,HW,HZ',HE0,HJ,z35⟩:=j5 e g hc
 have e0:=HE0.out
 have KP:=NW (fun(W:NY) (h:Ext W0 W)=>Gd W a.za a.zc (bt j.sizes) e.index ((hb.z.below ((e0.tr h).mono (Nat.le_of_lt hlt))).more (Ok (Nat.le_of_lt hlt) (e0.tr h).size)) (A0 _) (F1 _) Ps)
 have hpm:(bt j.sizes).eraseIdx e.index.toNat=bt (j.sizes.eraseIdx e.index.toNat):=iK z8 j.sizes e.index.toNat
 have HF:=NW (fun(W1:NY) (v:N2) (hx:Ext W0 W1) (h0:dh j.sizes.length e.index=0) (ho:W1.ownsRow w.heap.size 41 3 v ((bt j.sizes).length-1) ((bt j.sizes).eraseIdx e.index.toNat).flatten)=>IT (l:=j.sizes.eraseIdx e.index.toNat) hc hb (e0.tr hx) (by rw[gL (l:=(bt j.sizes)) PR,hpm] at ho;exact ho))
 have HBl:=NW (fun(W1:NY) (v:N2) (hx:Ext W0 W1)=>((ei.ext (e0.tr hx) hlt).put 6 v:ei c w (W1.setCell ⟨c,6,N0⟩ v)))
 have HL:=NW (show(bt j.sizes).length=j.sizes.length by exact N9 _)
 have t0:(e.number==4)=N1:=OZ
 have t1:(e.number==5)=N1:=OZ
 have t2:(e.number==6)=Oc:=OZ
 clear hc hb e0 hnum hpm
 go_enter func82,ntmps82
 go_wp2_with fail
 rw[HW.out]
 refine wp_region_any Ou (bL 14 (fun vs=>⟨#[.pointer (N3 ⟨c,0,N0⟩),.agg (aG e g),N7,.pointer (N3 ⟨w.heap.size,0,N0⟩),.int .i64 0,.pointer (N3 ⟨w.heap.size,35,N0⟩),.int .i64 e.number,.bool N1,.bool N1,N7,N7,N7,N7,N7,N7,N7,N7,N7,N7,N7,N7,N7,.bool N1,.bool N1,N7,N7,N7,N7,N7,N7,N7,N7,N7,N7,N7,N7,N7,.bool Oc,.bool Oc,vs 8,vs 0,vs 1,vs 2,vs 3,vs 4,vs 5,vs 6,vs 7,vs 9,vs 10,vs 11,vs 12,N7,N7,N7,N7,N7,N7,N7,N7,N7,N7,N7,N7,N7,N7,N7,N7,N7,N7,N7,N7,N7,N7,N7,N7,N7,N7,N7,N7,N7,N7,N7,N7,N7,N7,N7,N7,N7,N7,N7,N7,N7,N7,N7,N7,N7,N7],[]⟩)
  (fun L vs W=>cJ W0 (fY c w.heap.size 6 e a.za j.sizes.length a.zc) (fun v W1=>lW v∧(dh j.sizes.length e.index=0→W1.ownsRow w.heap.size 41 3 v ((bt j.sizes).length-1) ((bt j.sizes).eraseIdx e.index.toNat).flatten)) (.int .i64 (dh j.sizes.length e.index)) ⟨c,6,N0⟩ 7 [4,6] L vs W) Ou ?step ?tail (fun _=>N7) _ (cJ.start (Ext.dr _)))
 case step=>exact gI
 case tail=>exact iW
theorem EP(w:NY)(c:Nat)(j:du)(a:fm)(e:Ed)(g:N2)(hc:JC w c j a)(hb:bh w c j a)(hlen:j.bars.length≤1000000)(hnum:e.number=7):
  Of prog 82 #[.pointer (N3 ⟨c,0,N0⟩),.agg (aG e g)] w fun x w'=>x= .returned (.int .i64 (dh j.bars.length e.index))∧ei c w w'∧(dh j.bars.length e.index=0→∃a',jC c w w' {j with bars:=j.bars.eraseIdx e.index.toNat} a'):=by
 have hlt:=hc.lt
 obtain⟨rows,hrr,hrs⟩:=xg hb.b
 obtain⟨W0,HW,HZ',HE0,HJ,z35⟩:=j5 e g hc
 have e0:=HE0.out
 have KP:=NW (fun(W:NY) (h:Ext W0 W)=>DX W a.ba a.bc rows e.index ((hrs.below ((e0.tr h).mono (Nat.le_of_lt hlt))).more (Ok (Nat.le_of_lt hlt) (e0.tr h).size)) hrr.wide hrr.one (by rw[hrr.1];exact hlen))
 have HF:=NW (fun(W1:NY) (v:N2) (hx:Ext W0 W1) (h0:dh j.bars.length e.index=0) (ho:W1.ownsRow w.heap.size 44 6 v (rows.length-1) (rows.eraseIdx e.index.toNat).flatten)=>Jn hc hb (e0.tr hx) (hrr.erase e.index.toNat) (by rw[gL (l:=rows) (by rw[hrr.1];exact h0)] at ho;exact ho))
 have HBl:=NW (fun(W1:NY) (v:N2) (hx:Ext W0 W1)=>((ei.ext (e0.tr hx) hlt).put 7 v:ei c w (W1.setCell ⟨c,7,N0⟩ v)))
 have HL:=NW (show rows.length=j.bars.length by exact hrr.1)
 have t0:(e.number==4)=N1:=OZ
 have t1:(e.number==5)=N1:=OZ
 have t2:(e.number==6)=N1:=OZ
 have t3:(e.number==7)=Oc:=OZ
 clear hc hb e0 hnum hrr hrs
 go_enter func82,ntmps82
 go_wp2_with fail
 rw[HW.out]
 refine wp_region_any Ou (bL 14 (fun vs=>⟨#[.pointer (N3 ⟨c,0,N0⟩),.agg (aG e g),N7,.pointer (N3 ⟨w.heap.size,0,N0⟩),.int .i64 0,.pointer (N3 ⟨w.heap.size,35,N0⟩),.int .i64 e.number,.bool N1,.bool N1,N7,N7,N7,N7,N7,N7,N7,N7,N7,N7,N7,N7,N7,.bool N1,.bool N1,N7,N7,N7,N7,N7,N7,N7,N7,N7,N7,N7,N7,N7,.bool N1,.bool N1,N7,N7,N7,N7,N7,N7,N7,N7,N7,N7,N7,N7,N7,.bool Oc,.bool Oc,vs 8,vs 0,vs 1,vs 2,vs 3,vs 4,vs 5,vs 6,vs 7,vs 9,vs 10,vs 11,vs 12,N7,N7,N7,N7,N7,N7,N7,N7,N7,N7,N7,N7,N7,N7,N7,N7,N7,N7,N7,N7,N7,N7,N7,N7,N7,N7,N7,N7,N7,N7,N7],[]⟩)
  (fun L vs W=>cJ W0 (fY c w.heap.size 7 e a.ba j.bars.length a.bc) (fun v W1=>lW v∧(dh j.bars.length e.index=0→W1.ownsRow w.heap.size 44 6 v (rows.length-1) (rows.eraseIdx e.index.toNat).flatten)) (.int .i64 (dh j.bars.length e.index)) ⟨c,7,N0⟩ 7 [4,6] L vs W) Ou ?step ?tail (fun _=>N7) _ (cJ.start (Ext.dr _)))
 case step=>exact gI
 case tail=>exact iW
theorem EI(w:NY)(c:Nat)(j:du)(a:fm)(e:Ed)(g:N2)(hc:JC w c j a)(hb:bh w c j a)(hlen:j.aq.length≤1000000)(hnum:e.number=10):
  Of prog 82 #[.pointer (N3 ⟨c,0,N0⟩),.agg (aG e g)] w fun x w'=>x= .returned (.int .i64 (dh j.aq.length e.index))∧ei c w w'∧(dh j.aq.length e.index=0→∃a',jC c w w' {j with aq:=j.aq.eraseIdx e.index.toNat} a'):=by
 have hlt:=hc.lt
 obtain⟨W0,HW,HZ',HE0,HJ,z35⟩:=j5 e g hc
 have e0:=HE0.out
 have KP:=NW (fun(W:NY) (h:Ext W0 W)=>FX W a.la a.lc (bD j.aq) e.index ((hb.l.below ((e0.tr h).mono (Nat.le_of_lt hlt))).more (Ok (Nat.le_of_lt hlt) (e0.tr h).size)) (lL _) (FM _) Ps)
 have hpm:(bD j.aq).eraseIdx e.index.toNat=bD (j.aq.eraseIdx e.index.toNat):=iK Jc j.aq e.index.toNat
 have HF:=NW (fun(W1:NY) (v:N2) (hx:Ext W0 W1) (h0:dh j.aq.length e.index=0) (ho:W1.ownsRow w.heap.size 46 3 v ((bD j.aq).length-1) ((bD j.aq).eraseIdx e.index.toNat).flatten)=>Jd (l:=j.aq.eraseIdx e.index.toNat) hc hb (e0.tr hx) (by rw[gL (l:=(bD j.aq)) PR,hpm] at ho;exact ho))
 have HBl:=NW (fun(W1:NY) (v:N2) (hx:Ext W0 W1)=>((ei.ext (e0.tr hx) hlt).put 13 v:ei c w (W1.setCell ⟨c,13,N0⟩ v)))
 have HL:=NW (show(bD j.aq).length=j.aq.length by exact N9 _)
 have t0:(e.number==4)=N1:=OZ
 have t1:(e.number==5)=N1:=OZ
 have t2:(e.number==6)=N1:=OZ
 have t3:(e.number==7)=N1:=OZ
 have t4:(e.number==10)=Oc:=OZ
 clear hc hb e0 hnum hpm
 go_enter func82,ntmps82
 go_wp2_with fail
 rw[HW.out]
 refine wp_region_any Ou (bL 14 (fun vs=>⟨#[.pointer (N3 ⟨c,0,N0⟩),.agg (aG e g),N7,.pointer (N3 ⟨w.heap.size,0,N0⟩),.int .i64 0,.pointer (N3 ⟨w.heap.size,35,N0⟩),.int .i64 e.number,.bool N1,.bool N1,N7,N7,N7,N7,N7,N7,N7,N7,N7,N7,N7,N7,N7,.bool N1,.bool N1,N7,N7,N7,N7,N7,N7,N7,N7,N7,N7,N7,N7,N7,.bool N1,.bool N1,N7,N7,N7,N7,N7,N7,N7,N7,N7,N7,N7,N7,N7,.bool N1,.bool N1,N7,N7,N7,N7,N7,N7,N7,N7,N7,N7,N7,N7,N7,.bool Oc,.bool Oc,vs 8,vs 0,vs 1,vs 2,vs 3,vs 4,vs 5,vs 6,vs 7,vs 9,vs 10,vs 11,vs 12,N7,N7,N7,N7,N7,N7,N7,N7,N7,N7,N7,N7,N7,N7,N7,N7],[]⟩)
  (fun L vs W=>cJ W0 (fY c w.heap.size 13 e a.la j.aq.length a.lc) (fun v W1=>lW v∧(dh j.aq.length e.index=0→W1.ownsRow w.heap.size 46 3 v ((bD j.aq).length-1) ((bD j.aq).eraseIdx e.index.toNat).flatten)) (.int .i64 (dh j.aq.length e.index)) ⟨c,13,N0⟩ 7 [4,6] L vs W) Ou ?step ?tail (fun _=>N7) _ (cJ.start (Ext.dr _)))
 case step=>exact gI
 case tail=>exact iW
theorem FY(w:NY)(c:Nat)(j:du)(a:fm)(e:Ed)(g:N2)(hc:JC w c j a)(hb:bh w c j a)(hlen:j.spans.length≤1000000)(hnum:e.number=11):
  Of prog 82 #[.pointer (N3 ⟨c,0,N0⟩),.agg (aG e g)] w fun x w'=>x= .returned (.int .i64 (dh j.spans.length e.index))∧ei c w w'∧(dh j.spans.length e.index=0→∃a',jC c w w' {j with spans:=j.spans.eraseIdx e.index.toNat} a'):=by
 have hlt:=hc.lt
 obtain⟨W0,HW,HZ',HE0,HJ,z35⟩:=j5 e g hc
 have e0:=HE0.out
 have KP:=NW (fun(W:NY) (h:Ext W0 W)=>Eb W a.sa a.sc (aX j.spans) e.index ((hb.s.below ((e0.tr h).mono (Nat.le_of_lt hlt))).more (Ok (Nat.le_of_lt hlt) (e0.tr h).size)) (bz (f:=gF) (fun _=>rfl) _) (yp _) Ps)
 have hpm:(aX j.spans).eraseIdx e.index.toNat=aX (j.spans.eraseIdx e.index.toNat):=iK gF j.spans e.index.toNat
 have HF:=NW (fun(W1:NY) (v:N2) (hx:Ext W0 W1) (h0:dh j.spans.length e.index=0) (ho:W1.ownsRow w.heap.size 48 5 v ((aX j.spans).length-1) ((aX j.spans).eraseIdx e.index.toNat).flatten)=>Df (l:=j.spans.eraseIdx e.index.toNat) hc hb (e0.tr hx) (by rw[gL (l:=(aX j.spans)) PR,hpm] at ho;exact ho))
 have HBl:=NW (fun(W1:NY) (v:N2) (hx:Ext W0 W1)=>((ei.ext (e0.tr hx) hlt).put 14 v:ei c w (W1.setCell ⟨c,14,N0⟩ v)))
 have HL:=NW (show(aX j.spans).length=j.spans.length by exact N9 _)
 have t0:(e.number==4)=N1:=OZ
 have t1:(e.number==5)=N1:=OZ
 have t2:(e.number==6)=N1:=OZ
 have t3:(e.number==7)=N1:=OZ
 have t4:(e.number==10)=N1:=OZ
 have t5:(e.number==11)=Oc:=OZ
 clear hc hb e0 hnum hpm
 go_enter func82,ntmps82
 go_wp2_with fail
 rw[HW.out]
 refine wp_region_any Ou (bL 14 (fun vs=>⟨#[.pointer (N3 ⟨c,0,N0⟩),.agg (aG e g),N7,.pointer (N3 ⟨w.heap.size,0,N0⟩),.int .i64 0,.pointer (N3 ⟨w.heap.size,35,N0⟩),.int .i64 e.number,.bool N1,.bool N1,N7,N7,N7,N7,N7,N7,N7,N7,N7,N7,N7,N7,N7,.bool N1,.bool N1,N7,N7,N7,N7,N7,N7,N7,N7,N7,N7,N7,N7,N7,.bool N1,.bool N1,N7,N7,N7,N7,N7,N7,N7,N7,N7,N7,N7,N7,N7,.bool N1,.bool N1,N7,N7,N7,N7,N7,N7,N7,N7,N7,N7,N7,N7,N7,.bool N1,.bool N1,N7,N7,N7,N7,N7,N7,N7,N7,N7,N7,N7,N7,N7,.bool Oc,.bool Oc,vs 8,vs 0,vs 1,vs 2,vs 3,vs 4,vs 5,vs 6,vs 7,vs 9,vs 10,vs 11,vs 12,N7],[]⟩)
  (fun L vs W=>cJ W0 (fY c w.heap.size 14 e a.sa j.spans.length a.sc) (fun v W1=>lW v∧(dh j.spans.length e.index=0→W1.ownsRow w.heap.size 48 5 v ((aX j.spans).length-1) ((aX j.spans).eraseIdx e.index.toNat).flatten)) (.int .i64 (dh j.spans.length e.index)) ⟨c,14,N0⟩ 7 [4,6] L vs W) Ou ?step ?tail (fun _=>N7) _ (cJ.start (Ext.dr _)))
 case step=>exact gI
 case tail=>exact iW
theorem EF(w:NY)(c:Nat)(e:Ed)(g:N2)(hlt:c<w.heap.size)(n0:e.number≠4)(n1:e.number≠5)(n2:e.number≠6)(n3:e.number≠7)(n4:e.number≠10)(n5:e.number≠11):
  Of prog 82 #[.pointer (N3 ⟨c,0,N0⟩),.agg (aG e g)] w fun x w'=>x= .returned (.int .i64 8)∧ei c w w':=by
 have e0:=NW (show ei c w (w.alloc (.cells (aG e g) 50)) from ei.ext ((Below.refl _ _).alloc (NZ _) _) hlt)
 have z35:=(EC.new w (aG e g)).cell 35
 have t0:(e.number==4)=N1:=beq_eq_false_iff_ne.2 n0
 have t1:(e.number==5)=N1:=beq_eq_false_iff_ne.2 n1
 have t2:(e.number==6)=N1:=beq_eq_false_iff_ne.2 n2
 have t3:(e.number==7)=N1:=beq_eq_false_iff_ne.2 n3
 have t4:(e.number==10)=N1:=beq_eq_false_iff_ne.2 n4
 have t5:(e.number==11)=N1:=beq_eq_false_iff_ne.2 n5
 clear n0 n1 n2 n3 n4 n5
 go_enter func82,ntmps82
 go_wp2
 go_ret
 exact⟨rfl,e0.out⟩
end
section
open Kp
attribute [local go_sem] PU Qz QN QK QA QF QG QM Qx QE QI Qo Qd Qi Qt Qq
attribute [local go_sem] PT P6 Qv QL QJ Qy QH QD QC QO QB Qc Qa Qn Qk Qj P8 P9 P3 P5 PX PZ P4 PW Qm Qe Qg P7 Qp Qr Qb Ql Qs Qh Qf Qu PV PY
theorem GA(p:Nat→Bool)(n:Nat): -1≤gm p n∧gm p n<(n:Int):=by
 induction n with
 |zero=>unfold gm;omega
 |succ n ih=>
  unfold gm
  split
  ·split <;>omega
  ·omega
def Kp(l:List Sz)(k:Int):Int:=if gm (fun i=>(l.getD i kJ).kind==k) l.length<0 then(l.length:Int) else gm (fun i=>(l.getD i kJ).kind==k) l.length
theorem Kt(l:List Sz)(k:Int):dz l.length (Kp l k)=0:=by
 have:=GA (fun i=>(l.getD i kJ).kind==k) l.length
 unfold Kp dz
 split <;>rw[if_pos Ot]
theorem yO(s:Sz)(w:NY)(B:Nat)(e:Ed)(g:N2)(hb:EC w B (aG e g)):
  Of prog 132 #[.agg (z8 s).toArray,.pointer (N3 ⟨B,0,N0⟩)] w fun x w'=>x= .returned (.bool (s.kind==e.zkind))∧Ext w w':=by
 have E0:=NW (show Ext w (w.alloc (.cells (z8 s).toArray 41)) from(Below.refl _ _).alloc (NZ _) _)
 have c:=(hb.ext E0.out).cell 14
 have hz:=hb.lt
 obtain⟨r,hr⟩:∃r,(s.kind==e.zkind)=r:=⟨_,rfl⟩
 rw[hr]
 clear hb
 go_enter func132,ntmps132
 go_wp2
 go_ret
 exact⟨rfl,E0.out⟩
theorem FW(l:List Sz)(w:NY)(B:Nat)(e:Ed)(g:N2)(hb:EC w B (aG e g)):sH 132 #[.pointer (N3 ⟨B,0,N0⟩)] 3 (bt l) (fun i=>(l.getD i kJ).kind==e.zkind) w:=by
 intro W i hi hx
 rw[N9] at hi
 have:(bt l).getD i []=z8 (l.getD i kJ):=by simp[N8,hi]
 rw[this]
 exact yO _ W B e g (hb.ext hx)
def oJ(c b:Nat)(e:Ed)(A:Option Addr)(n cap:Nat)(m:Int):Nat→N2
 |0=> .pointer (N3 ⟨c,0,N0⟩)
 |1=> .pointer (N3 ⟨c,0,N0⟩)
 |2=> .pointer (N3 ⟨c,0,N0⟩)
 |3=> .pointer (N3 ⟨c,6,N0⟩)
 |4=> .slice A n cap
 |5=> .int .i64 m
 |6=> .pointer (N3 ⟨b,14,N0⟩)
 |7=> .agg #[.int .i64 e.zkind,.int .i64 e.zwidth,.int .i64 e.zdepth]
 |11=> .int .i64 (dz n m)
 |12=> .pointer (N3 ⟨c,0,N0⟩)
 |13=> .pointer (N3 ⟨c,6,N0⟩)
 |_=>N7
theorem AB{p:Prop}(h:p:=by
   intro i L vs W hi hL hI hd
   have HI:=NW hI
   rcases(show i=0∨i=1∨i=2∨i=3∨i=4∨i=5∨i=6∨i=7∨i=8∨i=9∨i=10∨i=11∨i=12∨i=13∨i=14 by omega) with rfl|rfl|rfl|rfl|rfl|rfl|rfl|rfl|rfl|rfl|rfl|rfl|rfl|rfl|rfl<;>clear hi hI
   ·refine Ob rfl (fun K hK=> ?_)
    go_simp
    exact hK _ _ ⟨_,by simp[bw,oJ],HI.out.pure Ov rfl⟩
   ·refine Ob rfl (fun K hK=> ?_)
    go_simp
    exact hK _ _ ⟨_,by simp[bw,oJ],HI.out.pure Ov rfl⟩
   ·refine Ob rfl (fun K hK=> ?_)
    have d1:=HI.out.vals 1 (hd 1 Ou) Ov
    simp only[oJ] at d1
    go_simp
    exact hK _ _ ⟨_,by simp[bw,oJ,d1],HI.out.pure Ov rfl⟩
   ·refine Ob rfl (fun K hK=> ?_)
    have d2:=HI.out.vals 2 (hd 2 Ou) Ov
    simp only[oJ] at d2
    go_simp
    exact hK _ _ ⟨_,by simp[bw,oJ,d2],HI.out.pure Ov rfl⟩
   ·refine Ob rfl (fun K hK=> ?_)
    have d3:=HI.out.vals 3 (hd 3 Ou) Ov
    simp only[oJ] at d3
    have hx:=HI.out.load (k:=4) Ov hL
    have mm:=(HJ.out.ext hx).cell 6
    clear hx
    go_simp
    exact hK _ _ ⟨_,by simp[bw,oJ,d3],HI.out.pure Ov rfl⟩
   ·refine Ob rfl (fun K hK=> ?_)
    go_simp
    exact hK _ _ ⟨_,by simp[bw,oJ],HI.out.pure Ov rfl⟩
   ·refine Ob rfl (fun K hK=> ?_)
    go_simp
    exact hK _ _ ⟨_,by simp[bw,oJ],HI.out.pure Ov rfl⟩
   ·refine Ob rfl (fun K hK=> ?_)
    have d6:=HI.out.vals 6 (hd 6 Ou) Ov
    simp only[oJ] at d6
    have hx:=HI.out.load (k:=7) Ov hL
    have m14:=(HZ'.out.ext hx).cell 14
    have m15:=(HZ'.out.ext hx).cell 15
    have m16:=(HZ'.out.ext hx).cell 16
    clear hx
    go_simp
    exact hK _ _ ⟨_,by simp[bw,oJ,d6],HI.out.pure Ov rfl⟩
   ·refine Ob rfl (fun K hK=> ?_)
    have d4:=HI.out.vals 4 (hd 4 Ou) Ov
    simp only[oJ] at d4
    have d5:=HI.out.vals 5 (hd 5 Ou) Ov
    simp only[oJ] at d5
    have d7:=HI.out.vals 7 (hd 7 Ou) Ov
    simp only[oJ] at d7
    have hx:=NW (HI.out.ext hL)
    go_simp
    rw[←HL.out]
    refine(KP.out _ hx.out).mono ?_
    rintro x W1 ⟨v,hsl,rfl,ho,hX⟩
    exact hK _ _ ⟨_,by simp[bw,d4,d5,d7,HL.out],HI.out.call hL (by intro k hk;simp at hk;rcases hk with rfl|rfl|rfl<;>exact hd _ Ou) hX ⟨hsl,fun h=>dZ (ho (HL.out.symm▸h)) (Ok HE0.out.size hx.out.size)⟩⟩
   ·refine Ob rfl (fun K hK=> ?_)
    go_simp
    exact hK _ _ ⟨vs 8,by simp[bw],HI.out.move hL (hd 8 Ou)⟩
   ·refine Ob rfl (fun K hK=> ?_)
    obtain⟨v,ht,hn⟩:=HI.out.first hL (hd 9 Ou)
    go_simp
    exact hK _ _ ⟨v,by simp[bw,ht],hn⟩
   ·refine Ob rfl (fun K hK=> ?_)
    obtain⟨v,ht⟩:=HI.out.MR (hd 9 Ou)
    go_simp
    exact hK _ _ ⟨_,by simp[bw,oJ,ht],HI.out.pure Ov rfl⟩
   ·refine Ob rfl (fun K hK=> ?_)
    have d0:=HI.out.vals 0 (hd 0 Ou) Ov
    simp only[oJ] at d0
    go_simp
    exact hK _ _ ⟨_,by simp[bw,oJ,d0],HI.out.pure Ov rfl⟩
   ·refine Ob rfl (fun K hK=> ?_)
    have d12:=HI.out.vals 12 (hd 12 Ou) Ov
    simp only[oJ] at d12
    go_simp
    exact hK _ _ ⟨_,by simp[bw,oJ,d12],HI.out.pure Ov rfl⟩
   ·refine Ob rfl (fun K hK=> ?_)
    have d13:=HI.out.vals 13 (hd 13 Ou) Ov
    simp only[oJ] at d13
    obtain⟨hx,⟨⟨A1,n1,c1,hv⟩,_⟩,hn⟩:=HI.out.store hL (hd 10 Ou) rfl
    rw[hv] at hn
    have hw:vs 10= .slice A1 n1 c1:=hv
    clear hv
    have mm:=(HJ.out.ext hx).cell 6
    have nn:=(HJ.out.ext hx).frozen 6
    clear hx
    go_simp
    exact hK _ _ ⟨N7,by simp[bw,d13,hw],hn⟩):p:=h
theorem Bc{p:Prop}(h:p:=by
   intro L vs W hL hI
   obtain⟨he,v,W2,hx,⟨_,ho⟩,rfl⟩:=hI.done hL
   have h11:vs 11= .int .i64 (dz j.sizes.length m):=he
   rw[HP0.out] at h11
   have HX:=NW hx
   have HO:=NW (ho HP0.out)
   clear hx ho he hI
   simp only[h11,List.drop_succ_cons,List.drop_zero]
   go_wp2
   go_ret
   exact⟨rfl,HF.out W2 v HX.out HO.out⟩):p:=h
theorem Bh(w:NY)(c:Nat)(j:du)(a:fm)(e:Ed)(g:N2)(hc:JC w c j a)(hb:bh w c j a)(hlen:j.sizes.length≤1000000):
  Of prog 74 #[.pointer (N3 ⟨c,0,N0⟩),.agg (aG e g)] w fun x w'=>x= .returned (.int .i64 0)∧∃a',jC c w w' {j with sizes:=bM j.sizes (Kp j.sizes e.zkind) ⟨e.zkind,e.zwidth,e.zdepth⟩} a':=by
 have hlt:=hc.lt
 obtain⟨W0,hW0⟩:∃W0,w.alloc (.cells (aG e g) 50)=W0:=⟨_,rfl⟩
 have HZ:EC W0 w.heap.size (aG e g):=Pd
 have e0:Ext w W0:=ON
 have hJ:=hc.ext e0
 have KI:=NW (uK W0 a.za a.zc j.sizes.length (bt j.sizes) (N9 _) ((hb.z.below (e0.mono (Nat.le_of_lt hlt))).more (Ok (Nat.le_of_lt hlt) e0.size)) (bz (f:=z8) (fun _=>rfl) _) (fun i=>(j.sizes.getD i kJ).kind==e.zkind) 132 #[.pointer (N3 ⟨w.heap.size,0,N0⟩)] (enters_of func132 Ou rfl) (FW j.sizes W0 w.heap.size e g HZ))
 have hM:Kp j.sizes e.zkind=(if gm (fun i=>(j.sizes.getD i kJ).kind==e.zkind) j.sizes.length<0 then(j.sizes.length:Int) else gm (fun i=>(j.sizes.getD i kJ).kind==e.zkind) j.sizes.length):=rfl
 have hP:=Kt j.sizes e.zkind
 obtain⟨x,hx⟩:∃x,gm (fun i=>(j.sizes.getD i kJ).kind==e.zkind) j.sizes.length=x:=⟨_,rfl⟩
 rw[hx] at KI hM
 obtain⟨m,hm⟩:∃m,Kp j.sizes e.zkind=m:=⟨_,rfl⟩
 rw[hm] at hM hP⊢
 have KP:=NW (fun(W:NY) (h:Ext W0 W)=>E6 W a.za a.zc (bt j.sizes) (.int .i64 e.zkind) (.int .i64 e.zwidth) (.int .i64 e.zdepth) m ((hb.z.below ((e0.tr h).mono (Nat.le_of_lt hlt))).more (Ok (Nat.le_of_lt hlt) (e0.tr h).size)) (bz (f:=z8) (fun _=>rfl) _) (F1 _) rfl Ps)
 have hpm:bM (bt j.sizes) m [.int .i64 e.zkind,.int .i64 e.zwidth,.int .i64 e.zdepth]=bt (bM j.sizes m ⟨e.zkind,e.zwidth,e.zdepth⟩):=pZ z8 j.sizes m ⟨e.zkind,e.zwidth,e.zdepth⟩
 have HF:=NW (fun(W1:NY) (v:N2) (hx:Ext W0 W1) (ho:W1.ownsRow w.heap.size 41 3 v (bM (bt j.sizes) m [.int .i64 e.zkind,.int .i64 e.zwidth,.int .i64 e.zdepth]).length (bM (bt j.sizes) m [.int .i64 e.zkind,.int .i64 e.zwidth,.int .i64 e.zdepth]).flatten)=>IT (l:=bM j.sizes m ⟨e.zkind,e.zwidth,e.zdepth⟩) hc hb (e0.tr hx) (by rw[hpm] at ho;exact ho))
 have HL:=NW (show(bt j.sizes).length=j.sizes.length by exact N9 _)
 have HP0:=NW hP
 have HJ:=NW hJ
 have HE0:=NW e0
 have HZ':=NW HZ
 have HW:=NW hW0
 have q6:=hJ.cell 6
 clear hc hb hJ HZ e0 hpm hx hm hP hlen
 by_cases hx0:x<0
 ·have t:decide (x<0)=Oc:=decide_eq_true hx0
  rw[if_pos hx0] at hM
  have HMM:=NW hM
  clear hM hx0 HW
  subst hW0
  go_enter func74,ntmps74
  go_wp2_with(go_at_call 131;go_must(refine KI.out.mono ?_);rintro e W1 ⟨rfl,hX1⟩;have HX1:=NW hX1;have q6:=(HJ.out.ext hX1).cell 6;clear hX1)
  clear q6
  obtain⟨W0,hW0⟩:∃W0,w.alloc (.cells (aG e g) 50)=W0:=⟨_,rfl⟩
  rw[hW0] at HE0 HJ HZ' HX1
  simp only[hW0] at KP HF
  clear hW0 KI
  rw[←HMM.out]
  refine wp_region_any Ou (bL 15 (fun vs=>⟨#[.pointer (N3 ⟨c,0,N0⟩),.agg (aG e g),N7,.pointer (N3 ⟨w.heap.size,0,N0⟩),.int .i64 0,.int .i64 m,.int .i64 0,.pointer (N3 ⟨c,0,N0⟩),.pointer (N3 ⟨c,0,N0⟩),.pointer (N3 ⟨c,6,N0⟩),.slice a.za j.sizes.length a.zc,.func (.func 132) #[] #[.pointer (N3 ⟨w.heap.size,0,N0⟩)],.int .i64 x,.int .i64 x,.bool Oc,.pointer (N3 ⟨c,0,N0⟩),.pointer (N3 ⟨c,0,N0⟩),.pointer (N3 ⟨c,6,N0⟩),.slice a.za j.sizes.length a.zc,.int .i64 m,vs 9,vs 0,vs 1,vs 2,vs 3,vs 4,vs 5,vs 6,vs 7,vs 8,vs 10,vs 11,vs 12,vs 13,N7],[]⟩)
   (fun L vs W=>cJ W0 (oJ c w.heap.size e a.za j.sizes.length a.zc m) (fun v W1=>lW v∧(dz j.sizes.length m=0→W1.ownsRow w.heap.size 41 3 v (bM (bt j.sizes) m [.int .i64 e.zkind,.int .i64 e.zwidth,.int .i64 e.zdepth]).length (bM (bt j.sizes) m [.int .i64 e.zkind,.int .i64 e.zwidth,.int .i64 e.zdepth]).flatten)) (.int .i64 (dz j.sizes.length m)) ⟨c,6,N0⟩ 8 [4,5,7] L vs W) Ou ?_ ?_ (fun _=>N7) _ (cJ.start (HX1.out.tr (Ext.dr _))))
  ·exact AB
  ·exact Bc
 ·have t:decide (x<0)=N1:=decide_eq_false hx0
  rw[if_neg hx0] at hM
  have HMM:=NW hM
  clear hM hx0 HW
  subst hW0
  go_enter func74,ntmps74
  go_wp2_with(go_at_call 131;go_must(refine KI.out.mono ?_);rintro e W1 ⟨rfl,hX1⟩;have HX1:=NW hX1;have q6:=(HJ.out.ext hX1).cell 6;clear hX1)
  clear q6
  obtain⟨W0,hW0⟩:∃W0,w.alloc (.cells (aG e g) 50)=W0:=⟨_,rfl⟩
  rw[hW0] at HE0 HJ HZ' HX1
  simp only[hW0] at KP HF
  clear hW0 KI
  rw[←HMM.out]
  refine wp_region_any Ou (bL 15 (fun vs=>⟨#[.pointer (N3 ⟨c,0,N0⟩),.agg (aG e g),N7,.pointer (N3 ⟨w.heap.size,0,N0⟩),.int .i64 0,.int .i64 m,.int .i64 0,.pointer (N3 ⟨c,0,N0⟩),.pointer (N3 ⟨c,0,N0⟩),.pointer (N3 ⟨c,6,N0⟩),.slice a.za j.sizes.length a.zc,.func (.func 132) #[] #[.pointer (N3 ⟨w.heap.size,0,N0⟩)],.int .i64 m,.int .i64 m,.bool N1,N7,N7,N7,N7,N7,vs 9,vs 0,vs 1,vs 2,vs 3,vs 4,vs 5,vs 6,vs 7,vs 8,vs 10,vs 11,vs 12,vs 13,N7],[]⟩)
   (fun L vs W=>cJ W0 (oJ c w.heap.size e a.za j.sizes.length a.zc m) (fun v W1=>lW v∧(dz j.sizes.length m=0→W1.ownsRow w.heap.size 41 3 v (bM (bt j.sizes) m [.int .i64 e.zkind,.int .i64 e.zwidth,.int .i64 e.zdepth]).length (bM (bt j.sizes) m [.int .i64 e.zkind,.int .i64 e.zwidth,.int .i64 e.zdepth]).flatten)) (.int .i64 (dz j.sizes.length m)) ⟨c,6,N0⟩ 8 [4,5,7] L vs W) Ou ?_ ?_ (fun _=>N7) _ (cJ.start (HX1.out.tr (Ext.dr _))))
  ·exact AB
  ·exact Bc
end
section
open Kp
attribute [local go_sem] PT P6 Qv PV
def lj(c b:Nat)(x y:Int):Nat→N2
 |2=> .pointer (N3 ⟨b,1,N0⟩)
 |3=> .int .i64 x
 |4=> .pointer (N3 ⟨b,35,N0⟩)
 |5=> .int .i64 y
 |7=> .pointer (N3 ⟨c,2,N0⟩)
 |8=>N7
 |10=> .pointer (N3 ⟨c,3,N0⟩)
 |_=> .pointer (N3 ⟨c,0,N0⟩)
theorem Gr(w:NY)(c:Nat)(j:du)(a:fm)(e:Ed)(g:N2)(hc:JC w c j a)(hb:bh w c j a):
  Of prog 70 #[.pointer (N3 ⟨c,0,N0⟩),.agg (aG e g)] w fun x w'=>x= .returned (.int .i64 0)∧jC c w w' {j with origin:=e.index,spacing:=e.number} a:=by
 have hlt:=hc.lt
 obtain⟨W0,hW0⟩:∃W0,w.alloc (.cells (aG e g) 50)=W0:=⟨_,rfl⟩
 have HZ:EC W0 w.heap.size (aG e g):=Pd
 have e0:Ext w W0:=ON
 have hJ:=hc.ext e0
 have HF:=NW (fun(q:Nat)=>(show jC c w ((((W0.drewN q).setCell ⟨c,2,N0⟩ (.int .i64 e.index)).setCell ⟨c,3,N0⟩ (.int .i64 e.number))) {j with origin:=e.index,spacing:=e.number} a from by
  have h0:ei c w (W0.drewN q):=ei.ext (below_drewN e0 q) hlt
  have h1:=(h0.put 2 (.int .i64 e.index)).put 3 (.int .i64 e.number)
  have h2:=hb.below h1.below
  have hJq:JC (W0.drewN q) c j a:=hJ.ext (below_drewN (Below.refl _ _) q)
  have hp:JC ((W0.drewN q).setCell ⟨c,2,N0⟩ (.int .i64 e.index)) c {j with origin:=e.index} a:=hJq.put _ rfl
  refine⟨h1,hp.put _ rfl,fun W hA=> ?_⟩
  have h3:bh _ c {j with origin:=e.index,spacing:=e.number} a:=⟨h2.p,h2.u,h2.o,h2.z,h2.b,h2.l,h2.s⟩
  exact(h3.below hA.1).more (by have:=h1.below.size;have:=hA.1.size;omega)))
 have k2:=hJ.cell 2
 have k3:=hJ.cell 3
 have f2:=hJ.frozen 2
 have f3:=hJ.frozen 3
 have z1:=HZ.cell 1
 have z2:=HZ.cell 35
 have HW:=NW hW0
 clear hW0 hc hb hJ
 go_enter func70,ntmps70
 go_wp2_with fail
 rw[HW.out]
 refine wp_region_any Ou (bL 11 (fun vs=>⟨#[.pointer (N3 ⟨c,0,N0⟩),.agg (aG e g),N7,.pointer (N3 ⟨w.heap.size,0,N0⟩),.int .i64 0,vs 0,vs 1,vs 2,vs 3,vs 4,vs 5,vs 6,vs 7,vs 9,vs 10],[]⟩)
  (fun L vs W=>(∀k,L k=Oc→vs k=lj c w.heap.size e.index e.number k)∧W=if L 8=Oc then W0.drew.setCell ⟨c,2,N0⟩ (.int .i64 e.index) else W0.drew) Ou ?step ?tail (fun _=>N7) _ ⟨fun k h=>by simp at h,Ow⟩)
 case step=>
  intro i L vs W hi hL hI hd
  obtain⟨hv,hW⟩:=hI
  have hE:EC W w.heap.size (aG e g):=by
   rw[hW]
   split
   ·exact EC.cI (w:=W0.drew) HZ (by show w.heap.size≠c;omega) _
   ·exact HZ
  have y1:=hE.cell 1
  have y2:=hE.cell 35
  have hw8:∀i,i≠8→(W=if gd L i 8=Oc then W0.drew.setCell ⟨c,2,N0⟩ (.int .i64 e.index) else W0.drew):=by
   intro i h
   have:gd L i 8=L 8:=by unfold gd;rw[if_neg (Ne.symm h)]
   rw[this];exact hW
  have HWh:=NW hW
  have H8:=NW hw8
  clear hE hW hw8
  rcases(show i=0∨i=1∨i=2∨i=3∨i=4∨i=5∨i=6∨i=7∨i=8∨i=9∨i=10 by omega) with rfl|rfl|rfl|rfl|rfl|rfl|rfl|rfl|rfl|rfl|rfl<;>clear hi
  ·refine Ob rfl (fun K hK=> ?_)
   go_simp
   exact hK _ _ ⟨lj c w.heap.size e.index e.number 0,by simp[bw,lj],fh hv rfl,H8.out 0 Ov⟩
  ·refine Ob rfl (fun K hK=> ?_)
   go_simp
   exact hK _ _ ⟨lj c w.heap.size e.index e.number 1,by simp[bw,lj],fh hv rfl,H8.out 1 Ov⟩
  ·refine Ob rfl (fun K hK=> ?_)
   go_simp
   exact hK _ _ ⟨lj c w.heap.size e.index e.number 2,by simp[bw,lj],fh hv rfl,H8.out 2 Ov⟩
  ·refine Ob rfl (fun K hK=> ?_)
   have d2:=hv 2 (hd 2 Ou)
   simp only[lj] at d2
   go_simp
   exact hK _ _ ⟨lj c w.heap.size e.index e.number 3,by simp[bw,lj,d2],fh hv rfl,H8.out 3 Ov⟩
  ·refine Ob rfl (fun K hK=> ?_)
   go_simp
   exact hK _ _ ⟨lj c w.heap.size e.index e.number 4,by simp[bw,lj],fh hv rfl,H8.out 4 Ov⟩
  ·refine Ob rfl (fun K hK=> ?_)
   have d4:=hv 4 (hd 4 Ou)
   simp only[lj] at d4
   go_simp
   exact hK _ _ ⟨lj c w.heap.size e.index e.number 5,by simp[bw,lj,d4],fh hv rfl,H8.out 5 Ov⟩
  ·refine Ob rfl (fun K hK=> ?_)
   have d0:=hv 0 (hd 0 Ou)
   simp only[lj] at d0
   go_simp
   exact hK _ _ ⟨lj c w.heap.size e.index e.number 6,by simp[bw,lj,d0],fh hv rfl,H8.out 6 Ov⟩
  ·refine Ob rfl (fun K hK=> ?_)
   have d6:=hv 6 (hd 6 Ou)
   simp only[lj] at d6
   go_simp
   exact hK _ _ ⟨lj c w.heap.size e.index e.number 7,by simp[bw,lj,d6],fh hv rfl,H8.out 7 Ov⟩
  ·refine Ob rfl (fun K hK=> ?_)
   have d3:=hv 3 (hd 3 Ou)
   simp only[lj] at d3
   have d7:=hv 7 (hd 7 Ou)
   simp only[lj] at d7
   have hW:=HWh.out
   rw[if_neg (by rw[hL];decide)] at hW
   subst hW
   clear HWh H8
   have m2:W0.drew.cell? ⟨c,2,N0⟩=_:=k2
   have n2:W0.drew.frozen? ⟨c,2,N0⟩=N1:=f2
   go_simp
   exact hK _ _ ⟨N7,by simp[bw,d3,d7];rfl,fh hv rfl,by rw[if_pos (show gd L 8 8=Oc by simp[gd])];rfl⟩
  ·refine Ob rfl (fun K hK=> ?_)
   have d1:=hv 1 (hd 1 Ou)
   simp only[lj] at d1
   go_simp
   exact hK _ _ ⟨lj c w.heap.size e.index e.number 9,by simp[bw,lj,d1],fh hv rfl,H8.out 9 Ov⟩
  ·refine Ob rfl (fun K hK=> ?_)
   have d9:=hv 9 (hd 9 Ou)
   simp only[lj] at d9
   go_simp
   exact hK _ _ ⟨lj c w.heap.size e.index e.number 10,by simp[bw,lj,d9],fh hv rfl,H8.out 10 Ov⟩
 case tail=>
  intro L vs W hL hI
  obtain⟨hv,hW⟩:=hI
  rw[if_pos (hL 8 Ov)] at hW
  subst hW
  have d5:=hv 5 (hL 5 Ov)
  have d10:=hv 10 (hL 10 Ov)
  simp only[lj] at d5 d10
  have m3:W0.drew.cell? ⟨c,3,N0⟩=_:=k3
  have n3:W0.drew.frozen? ⟨c,3,N0⟩=N1:=f3
  simp only[d5,d10,List.drop_succ_cons,List.drop_zero]
  go_wp2
  go_ret
  exact⟨rfl,HF.out 1⟩
end
section
open Kp
attribute [local go_sem] PU Qz QN QK QA QF QG QM Qx QE QI Qo Qd Qi Qt Qq
attribute [local go_sem] PT P6 Qv QL QJ Qy QH QD QC QO QB Qc Qa Qn Qk Qj P8 P9 P3 P5 PX PZ P4 PW Qm Qe Qg P7 Qp Qr Qb Ql Qs Qh Qf Qu PV PY
def mr(F O:Nat)(X:N2)(m:Int)(c b:Nat)(A:Option Addr)(n cap:Nat):Nat→N2
 |0=> .pointer (N3 ⟨c,0,N0⟩)
 |1=> .pointer (N3 ⟨c,0,N0⟩)
 |2=> .pointer (N3 ⟨c,0,N0⟩)
 |3=> .pointer (N3 ⟨c,F,N0⟩)
 |4=> .slice A n cap
 |5=> .pointer (N3 ⟨b,1,N0⟩)
 |6=> .int .i64 m
 |7=> .pointer (N3 ⟨b,O,N0⟩)
 |8=>X
 |12=> .int .i64 (dz n m)
 |13=> .pointer (N3 ⟨c,0,N0⟩)
 |14=> .pointer (N3 ⟨c,F,N0⟩)
 |_=>N7
theorem uv{p:Prop}(h:p:=by
  intro i L vs W hi hL hI hd
  have HI:=NW hI
  rcases(show i=0∨i=1∨i=2∨i=3∨i=4∨i=5∨i=6∨i=7∨i=8∨i=9∨i=10∨i=11∨i=12∨i=13∨i=14∨i=15 by omega) with rfl|rfl|rfl|rfl|rfl|rfl|rfl|rfl|rfl|rfl|rfl|rfl|rfl|rfl|rfl|rfl<;>clear hi hI
  ·refine Ob rfl (fun K hK=> ?_)
   go_simp
   exact hK _ _ ⟨_,by simp[bw,mr],HI.out.pure Ov rfl⟩
  ·refine Ob rfl (fun K hK=> ?_)
   go_simp
   exact hK _ _ ⟨_,by simp[bw,mr],HI.out.pure Ov rfl⟩
  ·refine Ob rfl (fun K hK=> ?_)
   have d1:=HI.out.vals 1 (hd 1 Ou) Ov
   simp only[mr] at d1
   go_simp
   exact hK _ _ ⟨_,by simp[bw,mr,d1],HI.out.pure Ov rfl⟩
  ·refine Ob rfl (fun K hK=> ?_)
   have d2:=HI.out.vals 2 (hd 2 Ou) Ov
   simp only[mr] at d2
   go_simp
   exact hK _ _ ⟨_,by simp[bw,mr,d2],HI.out.pure Ov rfl⟩
  ·refine Ob rfl (fun K hK=> ?_)
   have d3:=HI.out.vals 3 (hd 3 Ou) Ov
   simp only[mr] at d3
   have hx:=HI.out.load (k:=4) Ov hL
   have mm:=fun i=>(HJ.out.ext hx).cell i
   clear hx
   go_simp
   exact hK _ _ ⟨_,by simp[bw,mr,d3],HI.out.pure Ov rfl⟩
  ·refine Ob rfl (fun K hK=> ?_)
   go_simp
   exact hK _ _ ⟨_,by simp[bw,mr],HI.out.pure Ov rfl⟩
  ·refine Ob rfl (fun K hK=> ?_)
   have d5:=HI.out.vals 5 (hd 5 Ou) Ov
   simp only[mr] at d5
   have hx:=HI.out.load (k:=6) Ov hL
   have mm:=(HZ'.out.ext hx).cell 1
   clear hx
   go_simp
   exact hK _ _ ⟨_,by simp[bw,mr,d5],HI.out.pure Ov rfl⟩
  ·refine Ob rfl (fun K hK=> ?_)
   go_simp
   exact hK _ _ ⟨_,by simp[bw,mr],HI.out.pure Ov rfl⟩
  ·refine Ob rfl (fun K hK=> ?_)
   have d7:=HI.out.vals 7 (hd 7 Ou) Ov
   simp only[mr] at d7
   have hx:=HI.out.load (k:=8) Ov hL
   have m1:=fun i=>(HZ'.out.ext hx).cell i
   clear hx
   go_simp
   exact hK _ _ ⟨_,by simp[bw,mr,d7],HI.out.pure Ov rfl⟩
  ·refine Ob rfl (fun K hK=> ?_)
   have d4:=HI.out.vals 4 (hd 4 Ou) Ov
   simp only[mr] at d4
   have d6:=HI.out.vals 6 (hd 6 Ou) Ov
   simp only[mr] at d6
   have d8:=HI.out.vals 8 (hd 8 Ou) Ov
   simp only[mr] at d8
   have hx:=NW (HI.out.ext hL)
   go_simp
   rw[←HL.out]
   refine(KP.out _ hx.out).mono ?_
   rintro x W1 ⟨v,hsl,rfl,ho,hX⟩
   exact hK _ _ ⟨_,by simp[bw,d4,d6,d8,HL.out],HI.out.call hL (by intro k hk;simp at hk;rcases hk with rfl|rfl|rfl<;>exact hd _ Ou) hX ⟨hsl,fun h=>dZ (ho (HL.out.symm▸h)) (Ok HE0.out.size hx.out.size)⟩⟩
  ·refine Ob rfl (fun K hK=> ?_)
   go_simp
   exact hK _ _ ⟨vs 9,by simp[bw],HI.out.move hL (hd 9 Ou)⟩
  ·refine Ob rfl (fun K hK=> ?_)
   obtain⟨v,ht,hn⟩:=HI.out.first hL (hd 10 Ou)
   go_simp
   exact hK _ _ ⟨v,by simp[bw,ht],hn⟩
  ·refine Ob rfl (fun K hK=> ?_)
   obtain⟨v,ht⟩:=HI.out.MR (hd 10 Ou)
   go_simp
   exact hK _ _ ⟨_,by simp[bw,mr,ht],HI.out.pure Ov rfl⟩
  ·refine Ob rfl (fun K hK=> ?_)
   have d0:=HI.out.vals 0 (hd 0 Ou) Ov
   simp only[mr] at d0
   go_simp
   exact hK _ _ ⟨_,by simp[bw,mr,d0],HI.out.pure Ov rfl⟩
  ·refine Ob rfl (fun K hK=> ?_)
   have d13:=HI.out.vals 13 (hd 13 Ou) Ov
   simp only[mr] at d13
   go_simp
   exact hK _ _ ⟨_,by simp[bw,mr,d13],HI.out.pure Ov rfl⟩
  ·refine Ob rfl (fun K hK=> ?_)
   have d14:=HI.out.vals 14 (hd 14 Ou) Ov
   simp only[mr] at d14
   obtain⟨hx,⟨⟨A1,n1,c1,hv⟩,_⟩,hn⟩:=HI.out.store hL (hd 11 Ou) rfl
   rw[hv] at hn
   have hw:vs 11= .slice A1 n1 c1:=hv
   clear hv
   have mm:=fun i=>(HJ.out.ext hx).cell i
   have nn:=fun i=>(HJ.out.ext hx).frozen i
   clear hx
   go_simp
   exact hK _ _ ⟨N7,by simp[bw,d14,hw],hn⟩):p:=h
theorem ug{p:Prop}(h:p:=by
  intro L vs W hL hI
  obtain⟨he,v,W1,hx,⟨_,ho⟩,rfl⟩:=hI.done hL
  have h12:=he
  simp only[Nat.reduceAdd,mr] at h12
  have HX:=NW hx
  have HO:=NW ho
  clear hx ho he hI
  simp only[h12,List.drop_succ_cons,List.drop_zero]
  go_wp2
  go_ret
  exact⟨rfl,HBl.out W1 v HX.out,fun h=>HF.out W1 v HX.out (HO.out h)⟩):p:=h
theorem Hn(w:NY)(c:Nat)(j:du)(a:fm)(e:Ed)(g:N2)(hc:JC w c j a)(hb:bh w c j a)(hlen:j.openings.length≤1000000):
  Of prog 72 #[.pointer (N3 ⟨c,0,N0⟩),.agg (aG e g)] w fun x w'=>x= .returned (.int .i64 (dz j.openings.length e.index))∧ei c w w'∧(dz j.openings.length e.index=0→∃a',jC c w w' {j with openings:=bM j.openings e.index ⟨e.oside,e.oleft,e.oright,e.olow,e.ohigh⟩} a'):=by
 have hlt:=hc.lt
 obtain⟨W0,hW0⟩:∃W0,w.alloc (.cells (aG e g) 50)=W0:=⟨_,rfl⟩
 have HZ:EC W0 w.heap.size (aG e g):=Pd
 have e0:Ext w W0:=ON
 have hJ:=hc.ext e0
 have KP:=NW (fun(W:NY) (h:Ext W0 W)=>EO W a.oa a.oc (aO j.openings) (.int .i64 e.oside) (.string (tx e.oleft)) (.string (tx e.oright)) (.string (tx e.olow)) (.string (tx e.ohigh)) e.index ((hb.o.below ((e0.tr h).mono (Nat.le_of_lt hlt))).more (Ok (Nat.le_of_lt hlt) (e0.tr h).size)) (j7 _) (Ey _) rfl Ps)
 have hpm:bM (aO j.openings) e.index [.int .i64 e.oside,.string (tx e.oleft),.string (tx e.oright),.string (tx e.olow),.string (tx e.ohigh)]=aO (bM j.openings e.index ⟨e.oside,e.oleft,e.oright,e.olow,e.ohigh⟩):=pZ qg j.openings e.index ⟨e.oside,e.oleft,e.oright,e.olow,e.ohigh⟩
 have HF:=NW (fun(W1:NY) (v:N2) (hx:Ext W0 W1) (ho:W1.ownsRow w.heap.size 39 5 v (bM (aO j.openings) e.index [.int .i64 e.oside,.string (tx e.oleft),.string (tx e.oright),.string (tx e.olow),.string (tx e.ohigh)]).length (bM (aO j.openings) e.index [.int .i64 e.oside,.string (tx e.oleft),.string (tx e.oright),.string (tx e.olow),.string (tx e.ohigh)]).flatten)=>Ja (l:=bM j.openings e.index ⟨e.oside,e.oleft,e.oright,e.olow,e.ohigh⟩) hc hb (e0.tr hx) (by rw[hpm] at ho;exact ho))
 have HBl:=NW (fun(W1:NY) (v:N2) (hx:Ext W0 W1)=>((ei.ext (e0.tr hx) hlt).put 5 v:ei c w (W1.setCell ⟨c,5,N0⟩ v)))
 have HL:=NW (show(aO j.openings).length=j.openings.length by exact N9 _)
 have HJ:=NW hJ
 have HE0:=NW e0
 have HZ':=NW HZ
 have HW:=NW hW0
 clear hW0 hc hb hJ HZ e0 hpm
 go_enter func72,ntmps72
 go_wp2_with fail
 rw[HW.out]
 refine wp_region_any Ou (bL 16 (fun vs=>⟨#[.pointer (N3 ⟨c,0,N0⟩),.agg (aG e g),N7,.pointer (N3 ⟨w.heap.size,0,N0⟩),.int .i64 0,vs 10,vs 0,vs 1,vs 2,vs 3,vs 4,vs 5,vs 6,vs 7,vs 8,vs 9,vs 11,vs 12,vs 13,vs 14,N7],[]⟩)
  (fun L vs W=>cJ W0 (mr 5 9 (.agg #[.int .i64 e.oside,.string (tx e.oleft),.string (tx e.oright),.string (tx e.olow),.string (tx e.ohigh)]) e.index c w.heap.size a.oa j.openings.length a.oc) (fun v W1=>lW v∧(dz j.openings.length e.index=0→W1.ownsRow w.heap.size 39 5 v (bM (aO j.openings) e.index [.int .i64 e.oside,.string (tx e.oleft),.string (tx e.oright),.string (tx e.olow),.string (tx e.ohigh)]).length (bM (aO j.openings) e.index [.int .i64 e.oside,.string (tx e.oleft),.string (tx e.oright),.string (tx e.olow),.string (tx e.ohigh)]).flatten)) (.int .i64 (dz j.openings.length e.index)) ⟨c,5,N0⟩ 9 [4,6,8] L vs W) Ou ?_ ?_ (fun _=>N7) _ (cJ.start (Ext.dr W0)))
 ·exact uv
 ·exact ug
end
section
open Kp
attribute [local go_sem] PU Qz QN QK QA QF QG QM Qx QE QI Qo Qd Qi Qt Qq
attribute [local go_sem] PT P6 Qv QL QJ Qy QH QD QC QO QB Qc Qa Qn Qk Qj P8 P9 P3 P5 PX PZ P4 PW Qm Qe Qg P7 Qp Qr Qb Ql Qs Qh Qf Qu PV PY
theorem Ih(w:NY)(c:Nat)(j:du)(a:fm)(e:Ed)(ga:Option Addr)(gc:Nat)(hc:JC w c j a)(hb:bh w c j a)(hlen:j.bars.length≤1000000)(hg:bC 2 w c ga gc (dx e.gaps)):
  Of prog 75 #[.pointer (N3 ⟨c,0,N0⟩),.agg (aG e (.slice ga e.gaps.length gc))] w fun x w'=>x= .returned (.int .i64 (dz j.bars.length e.index))∧ei c w w'∧(dz j.bars.length e.index=0→∃a',jC c w w' {j with bars:=bM j.bars e.index ⟨e.bwidth,e.bdepth,e.blength,e.bcount,e.bcost,e.gaps⟩} a'):=by
 have hlt:=hc.lt
 obtain⟨rows,hrr,hrs⟩:=xg hb.b
 have HB:=NW hrr
 obtain⟨W0,hW0⟩:∃W0,w.alloc (.cells (aG e (.slice ga e.gaps.length gc)) 50)=W0:=⟨_,rfl⟩
 have HZ:EC W0 w.heap.size (aG e (.slice ga e.gaps.length gc)):=Pd
 have e0:Ext w W0:=ON
 have hJ:=hc.ext e0
 have KP:=NW (fun(W:NY) (h:Ext W0 W)=>Ep W a.ba a.bc rows (.int .i64 e.bwidth) (.int .i64 e.bdepth) (.int .i64 e.blength) (.int .i64 e.bcount) (.int .i64 e.bcost) (.slice ga e.gaps.length gc) e.index ((hrs.below ((e0.tr h).mono (Nat.le_of_lt hlt))).more (Ok (Nat.le_of_lt hlt) (e0.tr h).size)) hrr.wide hrr.one rfl (by rw[hrr.1];exact hlen))
 have HF:=NW (fun(W1:NY) (v:N2) (hx:Ext W0 W1) (ho:W1.ownsRow w.heap.size 44 6 v (bM rows e.index [.int .i64 e.bwidth,.int .i64 e.bdepth,.int .i64 e.blength,.int .i64 e.bcount,.int .i64 e.bcost,.slice ga e.gaps.length gc]).length (bM rows e.index [.int .i64 e.bwidth,.int .i64 e.bdepth,.int .i64 e.blength,.int .i64 e.bcount,.int .i64 e.bcost,.slice ga e.gaps.length gc]).flatten)=>Jn hc hb (e0.tr hx) (hrr.put e.index ⟨e.bwidth,e.bdepth,e.blength,e.bcount,e.bcost,e.gaps⟩ ga gc hg) ho)
 have HBl:=NW (fun(W1:NY) (v:N2) (hx:Ext W0 W1)=>((ei.ext (e0.tr hx) hlt).put 7 v:ei c w (W1.setCell ⟨c,7,N0⟩ v)))
 have HL:=NW (show rows.length=j.bars.length by exact hrr.1)
 have HJ:=NW hJ
 have HE0:=NW e0
 have HZ':=NW HZ
 have HW:=NW hW0
 clear hW0 hc hb hJ HZ e0 hrr hrs hg
 go_enter func75,ntmps75
 go_wp2_with fail
 rw[HW.out]
 refine wp_region_any Ou (bL 16 (fun vs=>⟨#[.pointer (N3 ⟨c,0,N0⟩),.agg (aG e (.slice ga e.gaps.length gc)),N7,.pointer (N3 ⟨w.heap.size,0,N0⟩),.int .i64 0,vs 10,vs 0,vs 1,vs 2,vs 3,vs 4,vs 5,vs 6,vs 7,vs 8,vs 9,vs 11,vs 12,vs 13,vs 14,N7],[]⟩)
  (fun L vs W=>cJ W0 (mr 7 17 (.agg #[.int .i64 e.bwidth,.int .i64 e.bdepth,.int .i64 e.blength,.int .i64 e.bcount,.int .i64 e.bcost,.slice ga e.gaps.length gc]) e.index c w.heap.size a.ba j.bars.length a.bc) (fun v W1=>lW v∧(dz j.bars.length e.index=0→W1.ownsRow w.heap.size 44 6 v (bM rows e.index [.int .i64 e.bwidth,.int .i64 e.bdepth,.int .i64 e.blength,.int .i64 e.bcount,.int .i64 e.bcost,.slice ga e.gaps.length gc]).length (bM rows e.index [.int .i64 e.bwidth,.int .i64 e.bdepth,.int .i64 e.blength,.int .i64 e.bcount,.int .i64 e.bcost,.slice ga e.gaps.length gc]).flatten)) (.int .i64 (dz j.bars.length e.index)) ⟨c,7,N0⟩ 9 [4,6,8] L vs W) Ou ?_ ?_ (fun _=>N7) _ (cJ.start (Ext.dr W0)))
 ·exact uv
 ·exact ug
end
section
open Kp
attribute [local go_sem] PU Qz QN QK QA QF QG QM Qx QE QI Qo Qd Qi Qt Qq
attribute [local go_sem] PT P6 Qv QL QJ Qy QH QD QC QO QB Qc Qa Qn Qk Qj P8 P9 P3 P5 PX PZ P4 PW Qm Qe Qg P7 Qp Qr Qb Ql Qs Qh Qf Qu PV PY
theorem Iz(w:NY)(c:Nat)(j:du)(a:fm)(e:Ed)(g:N2)(hc:JC w c j a)(hb:bh w c j a)(hlen:j.aq.length≤1000000):
  Of prog 79 #[.pointer (N3 ⟨c,0,N0⟩),.agg (aG e g)] w fun x w'=>x= .returned (.int .i64 (dz j.aq.length e.index))∧ei c w w'∧(dz j.aq.length e.index=0→∃a',jC c w w' {j with aq:=bM j.aq e.index ⟨e.lkind,e.lside,e.lweight⟩} a'):=by
 have hlt:=hc.lt
 obtain⟨W0,hW0⟩:∃W0,w.alloc (.cells (aG e g) 50)=W0:=⟨_,rfl⟩
 have HZ:EC W0 w.heap.size (aG e g):=Pd
 have e0:Ext w W0:=ON
 have hJ:=hc.ext e0
 have KP:=NW (fun(W:NY) (h:Ext W0 W)=>DG W a.la a.lc (bD j.aq) (.int .i64 e.lkind) (.int .i64 e.lside) (.string (tx e.lweight)) e.index ((hb.l.below ((e0.tr h).mono (Nat.le_of_lt hlt))).more (Ok (Nat.le_of_lt hlt) (e0.tr h).size)) (lL _) (FM _) rfl Ps)
 have hpm:bM (bD j.aq) e.index [.int .i64 e.lkind,.int .i64 e.lside,.string (tx e.lweight)]=bD (bM j.aq e.index ⟨e.lkind,e.lside,e.lweight⟩):=pZ Jc j.aq e.index ⟨e.lkind,e.lside,e.lweight⟩
 have HF:=NW (fun(W1:NY) (v:N2) (hx:Ext W0 W1) (ho:W1.ownsRow w.heap.size 46 3 v (bM (bD j.aq) e.index [.int .i64 e.lkind,.int .i64 e.lside,.string (tx e.lweight)]).length (bM (bD j.aq) e.index [.int .i64 e.lkind,.int .i64 e.lside,.string (tx e.lweight)]).flatten)=>Jd (l:=bM j.aq e.index ⟨e.lkind,e.lside,e.lweight⟩) hc hb (e0.tr hx) (by rw[hpm] at ho;exact ho))
 have HBl:=NW (fun(W1:NY) (v:N2) (hx:Ext W0 W1)=>((ei.ext (e0.tr hx) hlt).put 13 v:ei c w (W1.setCell ⟨c,13,N0⟩ v)))
 have HL:=NW (show(bD j.aq).length=j.aq.length by exact N9 _)
 have HJ:=NW hJ
 have HE0:=NW e0
 have HZ':=NW HZ
 have HW:=NW hW0
 clear hW0 hc hb hJ HZ e0 hpm
 go_enter func79,ntmps79
 go_wp2_with fail
 rw[HW.out]
 refine wp_region_any Ou (bL 16 (fun vs=>⟨#[.pointer (N3 ⟨c,0,N0⟩),.agg (aG e g),N7,.pointer (N3 ⟨w.heap.size,0,N0⟩),.int .i64 0,vs 10,vs 0,vs 1,vs 2,vs 3,vs 4,vs 5,vs 6,vs 7,vs 8,vs 9,vs 11,vs 12,vs 13,vs 14,N7],[]⟩)
  (fun L vs W=>cJ W0 (mr 13 23 (.agg #[.int .i64 e.lkind,.int .i64 e.lside,.string (tx e.lweight)]) e.index c w.heap.size a.la j.aq.length a.lc) (fun v W1=>lW v∧(dz j.aq.length e.index=0→W1.ownsRow w.heap.size 46 3 v (bM (bD j.aq) e.index [.int .i64 e.lkind,.int .i64 e.lside,.string (tx e.lweight)]).length (bM (bD j.aq) e.index [.int .i64 e.lkind,.int .i64 e.lside,.string (tx e.lweight)]).flatten)) (.int .i64 (dz j.aq.length e.index)) ⟨c,13,N0⟩ 9 [4,6,8] L vs W) Ou ?_ ?_ (fun _=>N7) _ (cJ.start (Ext.dr W0)))
 ·exact uv
 ·exact ug
end
section
open Kp
def Kk:Array N2:=#[.nilFunc,.func (.func 68) #[] #[],.func (.func 69) #[] #[],.func (.func 70) #[] #[],.func (.func 71) #[] #[],.func (.func 72) #[] #[],.func (.func 74) #[] #[],.func (.func 75) #[] #[],.func (.func 77) #[] #[],.func (.func 78) #[] #[],.func (.func 79) #[] #[],.func (.func 81) #[] #[],.func (.func 82) #[] #[]]
theorem wT(w:NY):Of prog 19 #[] w fun e w'=>e= .returned (.agg Kk)∧Ext w w':=by
 have hh:=NY.alloc_heap_new w (.cells #[.nilFunc,.nilFunc,.nilFunc,.nilFunc,.nilFunc,.nilFunc,.nilFunc,.nilFunc,.nilFunc,.nilFunc,.nilFunc,.nilFunc,.nilFunc] 70)
 have hx:Ext w ((w.alloc (.cells #[.nilFunc,.nilFunc,.nilFunc,.nilFunc,.nilFunc,.nilFunc,.nilFunc,.nilFunc,.nilFunc,.nilFunc,.nilFunc,.nilFunc,.nilFunc] 70)).setRow w.heap.size Kk):=ah ((Below.refl _ _).alloc (NZ _) _) (NZ _) _
 have HH:=NW hh
 have HX:=NW hx
 clear hh hx
 go_enter func19,ntmps19
 go_wp2_with(refine wpList_store_row rfl 70 _ _ rfl w.heap.size Kk rfl rfl 70 _ HH.out Ou Ou Ou ?_)
 refine bodyPost_ret (results_cell_row rfl _ _ _ _ _ (0,0) _ rfl (setRow_heap HH.out _) underlying70 rfl Ou) rfl ⟨rfl,HX.out⟩
end
section
open Kp
def vY(j:du)(e:Ed):Int:=
 if e.number=4 then dh j.purlins.length e.index else if e.number=5 then dh j.openings.length e.index else if e.number=6 then dh j.sizes.length e.index
 else if e.number=7 then dh j.bars.length e.index else if e.number=10 then dh j.aq.length e.index else if e.number=11 then dh j.spans.length e.index else 8
def xA(j:du)(e:Ed):du:=
 if e.number=4 then{j with purlins:=j.purlins.eraseIdx e.index.toNat} else if e.number=5 then{j with openings:=j.openings.eraseIdx e.index.toNat} else if e.number=6 then{j with sizes:=j.sizes.eraseIdx e.index.toNat}
 else if e.number=7 then{j with bars:=j.bars.eraseIdx e.index.toNat} else if e.number=10 then{j with aq:=j.aq.eraseIdx e.index.toNat} else if e.number=11 then{j with spans:=j.spans.eraseIdx e.index.toNat} else j
def ej(j:du)(e:Ed):Int:=
 if e.kind=2 then kF j.rings e.index else if e.kind=4 then(if j.purlins.contains e.number then 7 else 0) else if e.kind=5 then dz j.openings.length e.index
 else if e.kind=7 then dz j.bars.length e.index else if e.kind=10 then dz j.aq.length e.index else if e.kind=12 then vY j e else 0
def cT(j:du)(e:Ed):du:=
 if e.kind=1 then{j with name:=e.text} else if e.kind=2 then{j with rings:=eP j.rings e.index (qh e)} else if e.kind=3 then{j with origin:=e.index,spacing:=e.number}
 else if e.kind=4 then{j with purlins:=cF j.purlins (j.purlins.countP (· <e.number)) e.number} else if e.kind=5 then{j with openings:=bM j.openings e.index ⟨e.oside,e.oleft,e.oright,e.olow,e.ohigh⟩}
 else if e.kind=6 then{j with sizes:=bM j.sizes (Kp j.sizes e.zkind) ⟨e.zkind,e.zwidth,e.zdepth⟩} else if e.kind=7 then{j with bars:=bM j.bars e.index ⟨e.bwidth,e.bdepth,e.blength,e.bcount,e.bcost,e.gaps⟩}
 else if e.kind=8 then{j with kerf:=e.number} else if e.kind=9 then{j with tile:=⟨e.twidth,e.tlength,e.tlap,e.ttail⟩} else if e.kind=10 then{j with aq:=bM j.aq e.index ⟨e.lkind,e.lside,e.lweight⟩}
 else if e.kind=11 then{j with spans:=Bb j.spans (nH e)} else if e.kind=12 then xA j e else j
structure GC(j:du):Prop where
 r:j.rings.length≤1000
 rk:∀k,(j.rings.getD k []).length≤1000
 o:j.openings.length≤1000000
 z:j.sizes.length≤1000000
 b:j.bars.length≤1000000
 l:j.aq.length≤1000000
 s:j.spans.length≤1000000
 u:j.purlins.length≤1000000
theorem AT{w:NY}{B:Nat}{ga:Option Addr}{gc:Nat}{l:List (Int×Int)}(h:cU w B ga gc l):bC 2 w B ga gc (dx l):=by
 obtain⟨h1,h2,h3⟩:=h
 refine⟨by rw[N9];exact h1,h2,fun hn=> ?_⟩
 rw[N9] at hn
 obtain⟨gb,go,e,hb,hc⟩:=h3 hn
 refine⟨gb,go,e,hb,fun i hi m hm=> ?_⟩
 rw[N9] at hi
 obtain⟨c0,c1⟩:=hc i hi
 rw[iZ hi,N8,Oa hi]
 rcases(show m=0∨m=1 by omega) with rfl|rfl
 ·exact c0
 ·exact c1
theorem Gn(w:NY)(c:Nat)(j:du)(a:fm)(e:Ed)(g:N2)(hc:JC w c j a)(hb:bh w c j a)(hl:GC j):
  Of prog 82 #[.pointer (N3 ⟨c,0,N0⟩),.agg (aG e g)] w fun x w'=>x= .returned (.int .i64 (vY j e))∧ei c w w'∧(vY j e=0→∃a',jC c w w' (xA j e) a'):=by
 unfold vY xA
 by_cases h4:e.number=4
 ·simp only[h4,if_true];exact FI w c j a e g hc hb hl.u h4
 by_cases h5:e.number=5
 ·simp only[h4,h5,if_true,if_false];exact F9 w c j a e g hc hb hl.o h5
 by_cases h6:e.number=6
 ·simp only[h4,h5,h6,if_true,if_false];exact Du w c j a e g hc hb hl.z h6
 by_cases h7:e.number=7
 ·simp only[h4,h5,h6,h7,if_true,if_false];exact EP w c j a e g hc hb hl.b h7
 by_cases h10:e.number=10
 ·simp only[h4,h5,h6,h7,h10,if_true,if_false];exact EI w c j a e g hc hb hl.l h10
 by_cases h11:e.number=11
 ·simp only[h4,h5,h6,h7,h10,h11,if_true,if_false];exact FY w c j a e g hc hb hl.s h11
 ·simp only[h4,h5,h6,h7,h10,h11,if_false]
  refine(EF w c e g hc.lt h4 h5 h6 h7 h10 h11).mono ?_
  rintro x w' ⟨rfl,hB⟩
  exact⟨rfl,hB,fun h=>absurd h Ov⟩
theorem Ir(w:NY)(c:Nat)(j:du)(a:fm)(e:Ed)(ga:Option Addr)(gc:Nat)(hk:1≤e.kind∧e.kind≤12)(hc:JC w c j a)(hb:bh w c j a)(hl:GC j)(hp:fW j.purlins=0)(hg:bC 2 w c ga gc (dx e.gaps))(hn:e.index≤9223372036854775807):
  ∃f,Kk[e.kind.toNat]?=N3 (.func (.func f) #[] #[])∧(∀args w,(callFunc f args).run prog w= .ok (.enter f args) w)∧
   Of prog f #[.pointer (N3 ⟨c,0,N0⟩),.agg (aG e (.slice ga e.gaps.length gc))] w fun x w'=>x= .returned (.int .i64 (ej j e))∧ei c w w'∧(ej j e=0→∃a',jC c w w' (cT j e) a'):=by
 obtain⟨k1,k2⟩:=hk
 have same:∀{x:Ending} {w':NY} {j':du},(x= .returned (.int .i64 0)∧jC c w w' j' a)→x= .returned (.int .i64 0)∧ei c w w'∧((0:Int)=0→∃a',jC c w w' j' a'):=fun h=>⟨h.1,h.2.1,fun _=>⟨a,h.2⟩⟩
 have some':∀{x:Ending} {w':NY} {j':du},(x= .returned (.int .i64 0)∧∃a',jC c w w' j' a')→x= .returned (.int .i64 0)∧ei c w w'∧((0:Int)=0→∃a',jC c w w' j' a'):=fun h=>⟨h.1,h.2.elim fun _ h=>h.1,fun _=>h.2⟩
 rcases(show e.kind=1∨e.kind=2∨e.kind=3∨e.kind=4∨e.kind=5∨e.kind=6∨e.kind=7∨e.kind=8∨e.kind=9∨e.kind=10∨e.kind=11∨e.kind=12 by omega) with h|h|h|h|h|h|h|h|h|h|h|h
 ·have hE:ej j e=0:=O3
  have hJ:cT j e={j with name:=e.text}:=O4
  rw[hE,hJ,h]
  exact⟨_,rfl,enters_of func68 Ou rfl,(Hd w c j a e _ hc hb).mono fun _ _ h=>same h⟩
 ·have hE:ej j e=kF j.rings e.index:=O3
  have hJ:cT j e={j with rings:=eP j.rings e.index (qh e)}:=O4
  rw[hE,hJ,h]
  exact⟨_,rfl,enters_of func69 Ou rfl,BL w c j a e _ hc hb hl.r hl.rk hn⟩
 ·have hE:ej j e=0:=O3
  have hJ:cT j e={j with origin:=e.index,spacing:=e.number}:=O4
  rw[hE,hJ,h]
  exact⟨_,rfl,enters_of func70 Ou rfl,(Gr w c j a e _ hc hb).mono fun _ _ h=>same h⟩
 ·have hE:ej j e=if j.purlins.contains e.number then 7 else 0:=O3
  have hJ:cT j e={j with purlins:=cF j.purlins (j.purlins.countP (· <e.number)) e.number}:=O4
  rw[hE,hJ,h]
  refine⟨_,rfl,enters_of func71 Ou rfl,(vD w c j a e _ hc hb hp).mono ?_⟩
  rintro x w' ⟨e1,e2,e3⟩
  refine⟨e1,e2,fun h0=>e3 ?_⟩
  cases hd:j.purlins.contains e.number with
  |false=>rfl
  |true=>rw[hd] at h0;cases h0
 ·have hE:ej j e=dz j.openings.length e.index:=O3
  have hJ:cT j e={j with openings:=bM j.openings e.index ⟨e.oside,e.oleft,e.oright,e.olow,e.ohigh⟩}:=O4
  rw[hE,hJ,h]
  exact⟨_,rfl,enters_of func72 Ou rfl,Hn w c j a e _ hc hb hl.o⟩
 ·have hE:ej j e=0:=O3
  have hJ:cT j e={j with sizes:=bM j.sizes (Kp j.sizes e.zkind) ⟨e.zkind,e.zwidth,e.zdepth⟩}:=O4
  rw[hE,hJ,h]
  exact⟨_,rfl,enters_of func74 Ou rfl,(Bh w c j a e _ hc hb hl.z).mono fun _ _ h=>some' h⟩
 ·have hE:ej j e=dz j.bars.length e.index:=O3
  have hJ:cT j e={j with bars:=bM j.bars e.index ⟨e.bwidth,e.bdepth,e.blength,e.bcount,e.bcost,e.gaps⟩}:=O4
  rw[hE,hJ,h]
  exact⟨_,rfl,enters_of func75 Ou rfl,Ih w c j a e ga gc hc hb hl.b hg⟩
 ·have hE:ej j e=0:=O3
  have hJ:cT j e={j with kerf:=e.number}:=O4
  rw[hE,hJ,h]
  exact⟨_,rfl,enters_of func77 Ou rfl,(Ij w c j a e _ hc hb).mono fun _ _ h=>same h⟩
 ·have hE:ej j e=0:=O3
  have hJ:cT j e={j with tile:=⟨e.twidth,e.tlength,e.tlap,e.ttail⟩}:=O4
  rw[hE,hJ,h]
  exact⟨_,rfl,enters_of func78 Ou rfl,(Gs w c j a e _ hc hb).mono fun _ _ h=>same h⟩
 ·have hE:ej j e=dz j.aq.length e.index:=O3
  have hJ:cT j e={j with aq:=bM j.aq e.index ⟨e.lkind,e.lside,e.lweight⟩}:=O4
  rw[hE,hJ,h]
  exact⟨_,rfl,enters_of func79 Ou rfl,Iz w c j a e _ hc hb hl.l⟩
 ·have hE:ej j e=0:=O3
  have hJ:cT j e={j with spans:=Bb j.spans (nH e)}:=O4
  rw[hE,hJ,h]
  exact⟨_,rfl,enters_of func81 Ou rfl,(BG w c j a e _ hc hb hl.s).mono fun _ _ h=>some' h⟩
 ·have hE:ej j e=vY j e:=O3
  have hJ:cT j e=xA j e:=O4
  rw[hE,hJ,h]
  exact⟨_,rfl,enters_of func82 Ou rfl,Gn w c j a e _ hc hb hl⟩
end
end Go.Proofs.YtnpihidbkhehjaaGreatDoor
