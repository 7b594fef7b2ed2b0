/- ChangeOnly of kingpostlaw58: part 13 of its proof (merged and shortened by program). -/
import Derived.Test.YtnpihidbkhehjaaGreatDoorM12
set_option linter.unusedVariables false
set_option linter.unusedSimpArgs false
set_option linter.defProp false
set_option maxHeartbeats 8000000
set_option maxRecDepth 100000
open Go.RowKit Go.Shelf Go.Proofs.Tryz
open Array renaming getElem?_eq_some_iff→Od
open Bool renaming false→N1,true→Oc
open Go renaming World→NY,Value→N2,undef→N7,wpOp_step→Ob,Calls→Of,maxLen→Ol,TypeId→Oo
open Go.AllReady renaming cons→Oj,nil→Oq
open Go.IntKind renaming i64→Oe
open Go.IntWalk renaming i64_in→Om
open Go.Lib renaming hid→NW
open Go.RowKit renaming intOf→Oh,Below→On
open Go.World renaming size_alloc→Oi
open List renaming getD_eq_getElem?_getD→N8,length_map→N9,getElem?_eq_getElem→Oa
open Nat renaming le_refl→NZ,mul_comm→Og,le_trans→Ok
open Option renaming none→N0,some→N3
open Go.Proofs.YtnpihidbkhehjaaGreatDoor
namespace Go.Proofs.YtnpihidbkhehjaaGreatDoor
section
open Kp
def sg(m:Bool)(n:Nat):Int:=if m then -(n:Int) else n
theorem Kh{a b:List Nat}(ha:Small a)(hb:Small b){n:Nat}(hn:max a.length b.length+1=n):Canon (aj (bK (kx a b) n))∧val (aj (bK (kx a b) n))=val a+val b:=by
 have hs:Small (bK (kx a b) n):=by
  intro d hd
  unfold bK at hd
  obtain⟨i,_,rfl⟩:=List.mem_map.1 hd
  exact(Ei ha hb i).2
 refine⟨dA hs,?_⟩
 rw[eN]
 have h1:=Hr (a:=a) (b:=b) n
 have e1:S (fv a) n=val a:=gK Ot
 have e2:S (fv b) n=val b:=gK Ot
 have e3:S (fv (bK (kx a b) n)) n=val (bK (kx a b) n):=by unfold val;rw[aY]
 rw[e1,e2,e3] at h1
 have la:=Nat.lt_of_lt_of_le (mn ha) (Nat.pow_le_pow_right Ov (show a.length≤n-1 by omega):B^a.length≤B^(n-1))
 have lb:=Nat.lt_of_lt_of_le (mn hb) (Nat.pow_le_pow_right Ov (show b.length≤n-1 by omega):B^b.length≤B^(n-1))
 have hp:B^n=B^(n-1)*B:=by rw[←Nat.pow_succ];congr 1;omega
 have hB:B^(n-1)*2≤B^(n-1)*B:=Nat.mul_le_mul_left _ Ov
 rcases Nat.eq_zero_or_pos (kx a b n).2 with h0|h0
 ·rw[h0] at h1;omega
 ·have:1*B^n≤(kx a b n).2*B^n:=Nat.mul_le_mul_right _ h0
  omega
theorem Eh{a b:List Nat}(ha:Small a)(hb:Small b){n:Nat}(hn:max a.length b.length+1=n)(hle:val b≤val a):Canon (aj (bK (jz a b) n))∧val (aj (bK (jz a b) n))=val a-val b:=by
 have hs:Small (bK (jz a b) n):=by
  intro d hd
  unfold bK at hd
  obtain⟨i,_,rfl⟩:=List.mem_map.1 hd
  exact(zq ha hb i).2
 refine⟨dA hs,?_⟩
 rw[eN]
 have h1:=Hu ha hb n
 have e1:S (fv a) n=val a:=gK Ot
 have e2:S (fv b) n=val b:=gK Ot
 have e3:S (fv (bK (jz a b) n)) n=val (bK (jz a b) n):=by unfold val;rw[aY]
 have l3:=mn hs
 rw[aY] at l3
 rw[e1,e2,e3] at h1
 rcases Nat.eq_zero_or_pos (jz a b n).2 with h0|h0
 ·rw[h0] at h1;omega
 ·have:1*B^n≤(jz a b n).2*B^n:=Nat.mul_le_mul_right _ h0
  omega
def uf(w:NY)(z:Int)(e:Ending)(w':NY):Prop:=
 ∃m v l,e= .returned (.agg #[.bool m,v])∧aR w' w'.heap.size v l∧Canon l∧sg m (val l)=z∧Ext w w'
def Gh(p0 q1 q2:Nat)(m:Bool)(v1 v2:N2)(L:List Nat):Nat→N2→NY→Prop
 |0,v,_=>v= .pointer (N3 ⟨p0,0,N0⟩)
 |1,v,_=>v= .bool m
 |2,v,_=>v= .pointer (N3 ⟨q1,1,N0⟩)
 |3,v,_=>v=v1
 |4,v,_=>v= .pointer (N3 ⟨q2,1,N0⟩)
 |5,v,_=>v=v2
 |6,v,w=>aR w w.heap.size v L
 |_,v,w=>∃u,v= .agg #[.bool m,u]∧aR w w.heap.size u L
theorem uu{p0 q1 q2:Nat}{m:Bool}{v1 v2:N2}{L:List Nat}{i:Nat}{v:N2}{w w':NY}(h:Gh p0 q1 q2 m v1 v2 L i v w)(hx:Ext w w'):Gh p0 q1 q2 m v1 v2 L i v w':=by
 match i,h with
 |0,h|1,h|2,h|3,h|4,h|5,h=>exact h
 |6,h=>exact aR.grow h hx
 |_+7,h=>obtain⟨u,e,hu⟩:=h;exact⟨u,e,hu.grow hx⟩
theorem JT{w:NY}{b:Nat}{l:List Nat}{v:N2}(h:aR w w.heap.size v l)(hr:af w b 292 [.bool N1,.slice N0 0 0])(x y:N2):
  aR ((w.setCell ⟨b,0,N0⟩ x).setCell ⟨b,1,N0⟩ y) ((w.setCell ⟨b,0,N0⟩ x).setCell ⟨b,1,N0⟩ y).heap.size v l:=by
 obtain⟨A,cap,rfl,h1,h2,hc⟩:=h
 refine⟨A,cap,rfl,h1,h2,fun hn=> ?_⟩
 obtain⟨b',off,e,hb,hcell⟩:=hc hn
 refine⟨b',off,e,by simpa[World.setCell] using hb,fun j hj=> ?_⟩
 by_cases hbb:b'=b
 ·exfalso
  subst hbb
  have h5:=hcell j hj
  rw[hr.cell] at h5
  rcases(show off+j=0∨off+j=1∨2≤off+j by omega) with h6|h6|h6
  ·rw[h6] at h5;simp at h5
  ·rw[h6] at h5;simp at h5
  ·rw[List.getElem?_eq_none (by simpa using h6)] at h5;cases h5
 ·rw[World.cell?_of_block (w:=w.setCell ⟨b,0,N0⟩ x) (Below.heap_setCell _ _ _ _ hbb),World.cell?_of_block (w:=w) (Below.heap_setCell _ _ _ _ hbb)]
  exact hcell j hj
theorem zb(w:NY)(x1 x2 x3:List N2)(t:Oo):∃W0,Hid (((w.alloc (.cells x1.toArray t)).alloc (.cells x2.toArray t)).alloc (.cells x3.toArray t)=W0)∧Hid (Ext w W0)∧af W0 w.heap.size t x1∧af W0 (w.heap.size+1) t x2∧af W0 (w.heap.size+1+1) t x3:=by
 have R2:=(af.new (w.alloc (.cells x1.toArray t)) t x2).ext ((Below.refl _ _).alloc (NZ _) (.cells x3.toArray t))
 have R3:=af.new ((w.alloc (.cells x1.toArray t)).alloc (.cells x2.toArray t)) t x3
 rw[Oi] at R2
 rw[Oi,Oi] at R3
 exact⟨_,NW rfl,NW (wK w _ _ _),(af.new w t x1).ext (dI _ _ _),R2,R3⟩
theorem th{p:Prop}(h:p:=by
  intro i vs w' hi hD hd
  have hw0:Ext W0 w':=(Ext.tr hX0 hD)
  have cA:=fun i=>(R1.ext hw0).cell i
  have cB:=fun i=>(R2.ext hw0).cell i
  rcases(show i=0∨i=1∨i=2∨i=3∨i=4∨i=5∨i=6∨i=7 by omega) with rfl|rfl|rfl|rfl|rfl|rfl|rfl|rfl<;>clear hi
  ·refine Ob rfl (fun K hK=> ?_)
   go_simp
   exact hK _ _ ⟨_,rfl,Ext.an _,rfl,fun h=>Ox⟩
  ·refine Ob rfl (fun K hK=> ?_)
   have d0:=hd 0 Ou
   simp only[Gh] at d0
   go_simp
   exact hK _ _ ⟨_,by simp[d0],Ext.an _,rfl,fun h=>Ox⟩
  ·refine Ob rfl (fun K hK=> ?_)
   go_simp
   exact hK _ _ ⟨_,rfl,Ext.an _,rfl,fun h=>Ox⟩
  ·refine Ob rfl (fun K hK=> ?_)
   have d2:=hd 2 Ou
   simp only[Gh] at d2
   go_simp
   exact hK _ _ ⟨_,by simp[d2],Ext.an _,rfl,fun h=>Ox⟩
  ·refine Ob rfl (fun K hK=> ?_)
   go_simp
   exact hK _ _ ⟨_,rfl,Ext.an _,rfl,fun h=>Ox⟩
  ·refine Ob rfl (fun K hK=> ?_)
   have d4:=hd 4 Ou
   simp only[Gh] at d4
   go_simp
   exact hK _ _ ⟨_,by simp[d4],Ext.an _,rfl,fun h=>Ox⟩
  ·refine Ob rfl (fun K hK=> ?_)
   have d3:=hd 3 Ou
   have d5:=hd 5 Ou
   simp only[Gh] at d3 d5
   clear cA cB
   go_simp
   refine(KC.out _ (E3.out.tr hw0)).mono ?_
   rintro e W4 ⟨v,rfl,hs,hX⟩
   exact hK _ _ ⟨v,by simp[d3,d5],hX,hs,fun h=>Ox⟩
  ·refine Ob rfl (fun K hK=> ?_)
   have d1:=hd 1 Ou
   obtain⟨A6,c6,e6,h61,h62,h63⟩:=id (hd 6 Ou:aR _ _ _ _)
   have d6:aR _ _ _ _:=hd 6 Ou
   simp only[Gh] at d1
   rw[e6] at d6
   clear cA cB h63
   go_simp
   exact hK _ _ ⟨_,by simp[d1,e6],Ext.an _,⟨_,rfl,d6⟩,fun h=>Ox⟩):p:=h
theorem vj{p:Prop}(h:p:=by
  intro vs w' hD hv _
  have hw0:Ext W0 w':=(Ext.tr hX0 hD)
  obtain⟨v,e7,hs⟩:=hv 7 Ov
  obtain⟨A7,c7,rfl,_,_,_⟩:=id hs
  have HS:=NW hs
  have r3:=R3.ext hw0
  have c0:=r3.cell 0
  have c1:=r3.cell 1
  have f0:=r3.frozen 0
  have f1:=r3.frozen 1
  have HR3:=NW r3
  clear hv hs r3
  simp only[List.drop_succ_cons,List.drop_zero]
  go_wp2
  have q0:=fun x y=>(HR3.out.lU x y).cell 0
  have q1:=fun x y=>(HR3.out.lU x y).cell 1
  refine bodyPost_ret (v:=vs 7) ?_ rfl ⟨_,_,_,congrArg _ e7,?_,HC.out,HV.out,?_⟩
  ·rw[e7];simp[results,results284,go_sem,q0,q1]
  ·have hb4:On w'.heap.size w' w':=Below.refl _ _
   exact JT HS.out HR3.out _ _
  ·exact((E3.out.tr hw0).setCell (p:=⟨w.heap.size+1+1,0,N0⟩) OB _).setCell (p:=⟨w.heap.size+1+1,1,N0⟩) OB _):p:=h
theorem Cv(w:NY)(m:Bool)(a b:List Nat)(va vb:N2)(ha:aR w w.heap.size va a)(hb:aR w w.heap.size vb b)(hca:Canon a)(hcb:Canon b)(hla:a.length≤400000)(hlb:b.length≤400000):
  Of prog 284 #[.agg #[.bool m,va],.agg #[.bool m,vb]] w (uf w (sg m (val a)+sg m (val b))):=by
 have hsa:=hca.small
 have hsb:=hcb.small
 obtain⟨hcan,hval⟩:=Kh hsa hsb (n:=max a.length b.length+1) rfl
 have HV:=NW (show sg m (val (aj (bK (kx a b) (max a.length b.length+1))))=sg m (val a)+sg m (val b) by rw[hval];unfold sg;cases m<;>simp <;>omega)
 have HC:=NW hcan
 have HP:=NW (BF hsa hsb)
 have HA:=NW ha
 have HB:=NW hb
 have HCA:=NW hca
 have HCB:=NW hcb
 obtain⟨A,ca,rfl,_,_,_⟩:=id ha
 obtain⟨A',cb,rfl,_,_,_⟩:=id hb
 obtain⟨W0,HW0,E3,R1,R2,R3⟩:=zb w [.bool m,.slice A a.length ca] [.bool m,.slice A' b.length cb] [.bool N1,.slice N0 0 0] 292
 have KC:=NW (fun(W:NY) (h:Ext w W)=>ji W a b (.slice A a.length ca) (.slice A' b.length cb) 317 _ (HA.out.grow h) (HB.out.grow h) Ot Ot (enters_of func317 Ou rfl) HP.out rfl)
 have tm:(m==m)=Oc:=Ow
 clear ha hb hcan hval hca hcb
 go_enter func284,ntmps284
 go_wp2
 simp only[HW0.out]
 have hX0:=Ext.an W0
 refine wp_region_any Ou (bA 8 (fun vs=>⟨#[.agg #[.bool m,.slice A a.length ca],.agg #[.bool m,.slice A' b.length cb],.pointer (N3 ⟨w.heap.size,0,N0⟩),.pointer (N3 ⟨w.heap.size+1,0,N0⟩),.pointer (N3 ⟨w.heap.size+1+1,0,N0⟩),.bool Oc,.pointer (N3 ⟨w.heap.size,0,N0⟩),.bool m,.pointer (N3 ⟨w.heap.size+1,0,N0⟩),.bool m,.bool Oc,vs 0,vs 1,vs 2,vs 3,vs 4,vs 5,vs 6,vs 7,N7,N7,N7,N7,N7,N7,N7,N7,N7,N7,N7,N7,N7,N7,N7,N7,N7,N7,N7,N7,N7,N7,N7],[]⟩)
  (fun w'=>Ext W0 w') (Gh (w.heap.size) (w.heap.size) (w.heap.size+1) m (.slice A a.length ca) (.slice A' b.length cb) (aj (bK (kx a b) (max a.length b.length+1)))) (fun _=>N1) Ou (fun _ _ h k=>h.tr k) (fun i v _ _ h k=>uu h k) (fun _ _ _ _ h=>Ox) ?_ ?_ (fun _=>N7) _ (Ext.dr W0))
 ·exact th
 ·exact vj
theorem IM(w:NY)(m1 m2:Bool)(a b:List Nat)(va vb:N2)(ha:aR w w.heap.size va a)(hb:aR w w.heap.size vb b)(hca:Canon a)(hcb:Canon b)(hla:a.length≤400000)(hlb:b.length≤400000)(hm:m1≠m2)(hle:val b≤val a):
  Of prog 284 #[.agg #[.bool m1,va],.agg #[.bool m2,vb]] w (uf w (sg m1 (val a)+sg m2 (val b))):=by
 have hsa:=hca.small
 have hsb:=hcb.small
 obtain⟨hcan,hval⟩:=Eh hsa hsb (n:=max a.length b.length+1) rfl hle
 have HV:=NW (show sg m1 (val (aj (bK (jz a b) (max a.length b.length+1))))=sg m1 (val a)+sg m2 (val b) by rw[hval];unfold sg;cases m1<;>cases m2<;>simp at hm⊢ <;>omega)
 have HC:=NW hcan
 have HP:=NW (oL hsa hsb)
 have HA:=NW ha
 have HB:=NW hb
 have HCA:=NW hca
 have HCB:=NW hcb
 obtain⟨A,ca,rfl,_,_,_⟩:=id ha
 obtain⟨A',cb,rfl,_,_,_⟩:=id hb
 obtain⟨W0,HW0,E3,R1,R2,R3⟩:=zb w [.bool m1,.slice A a.length ca] [.bool m2,.slice A' b.length cb] [.bool N1,.slice N0 0 0] 292
 have KC:=NW (fun(W:NY) (h:Ext w W)=>ji W a b (.slice A a.length ca) (.slice A' b.length cb) 318 _ (HA.out.grow h) (HB.out.grow h) Ot Ot (enters_of func318 Ou rfl) HP.out rfl)
 have KD:=NW (fV W0 a b (.slice A a.length ca) (.slice A' b.length cb) (HA.out.grow E3.out) (HB.out.grow E3.out) hca hcb Ot)
 have tm:(m1==m2)=N1:=by rw[beq_eq_false_iff_ne];exact hm
 clear ha hb hcan hval hca hcb
 go_enter func284,ntmps284
 clear hm
 go_wp2_with(go_at_call 290;rw[HW0.out];go_must(refine KD.out.mono ?_);rintro e X0 ⟨c,rfl,hc1,hc2,hX0⟩;have tc:decide (0≤c)=Oc:=(by rw[decide_eq_true_eq];rcases Int.lt_or_le c 0 with h|h;(have:=hc1.1 h;omega);exact h);clear hc1 hc2)
 refine wp_region_any Ou (bA 8 (fun vs=>⟨#[.agg #[.bool m1,.slice A a.length ca],.agg #[.bool m2,.slice A' b.length cb],.pointer (N3 ⟨w.heap.size,0,N0⟩),.pointer (N3 ⟨w.heap.size+1,0,N0⟩),.pointer (N3 ⟨w.heap.size+1+1,0,N0⟩),.bool N1,.pointer (N3 ⟨w.heap.size,0,N0⟩),.bool m1,.pointer (N3 ⟨w.heap.size+1,0,N0⟩),.bool m2,.bool N1,N7,N7,N7,N7,N7,N7,N7,N7,.bool Oc,.pointer (N3 ⟨w.heap.size,1,N0⟩),.slice A a.length ca,.pointer (N3 ⟨w.heap.size+1,1,N0⟩),.slice A' b.length cb,.int .i64 c,.bool Oc,vs 0,vs 1,vs 2,vs 3,vs 4,vs 5,vs 6,vs 7,N7,N7,N7,N7,N7,N7,N7,N7],[]⟩)
  (fun w'=>Ext X0 w') (Gh (w.heap.size) (w.heap.size) (w.heap.size+1) m1 (.slice A a.length ca) (.slice A' b.length cb) (aj (bK (jz a b) (max a.length b.length+1)))) (fun _=>N1) Ou (fun _ _ h k=>h.tr k) (fun i v _ _ h k=>uu h k) (fun _ _ _ _ h=>Ox) ?_ ?_ (fun _=>N7) _ (Ext.dr X0))
 ·exact th
 ·exact vj
theorem GF(w:NY)(m1 m2:Bool)(a b:List Nat)(va vb:N2)(ha:aR w w.heap.size va a)(hb:aR w w.heap.size vb b)(hca:Canon a)(hcb:Canon b)(hla:a.length≤400000)(hlb:b.length≤400000)(hm:m1≠m2)(hle:val a<val b):
  Of prog 284 #[.agg #[.bool m1,va],.agg #[.bool m2,vb]] w (uf w (sg m1 (val a)+sg m2 (val b))):=by
 have hsa:=hca.small
 have hsb:=hcb.small
 obtain⟨hcan,hval⟩:=Eh hsb hsa (n:=max b.length a.length+1) rfl Ot
 have HV:=NW (show sg m2 (val (aj (bK (jz b a) (max b.length a.length+1))))=sg m1 (val a)+sg m2 (val b) by rw[hval];unfold sg;cases m1<;>cases m2<;>simp at hm⊢ <;>omega)
 have HC:=NW hcan
 have HP:=NW (oL hsb hsa)
 have HA:=NW ha
 have HB:=NW hb
 have HCA:=NW hca
 have HCB:=NW hcb
 obtain⟨A,ca,rfl,_,_,_⟩:=id ha
 obtain⟨A',cb,rfl,_,_,_⟩:=id hb
 obtain⟨W0,HW0,E3,R1,R2,R3⟩:=zb w [.bool m1,.slice A a.length ca] [.bool m2,.slice A' b.length cb] [.bool N1,.slice N0 0 0] 292
 have KC:=NW (fun(W:NY) (h:Ext w W)=>ji W b a (.slice A' b.length cb) (.slice A a.length ca) 318 _ (HB.out.grow h) (HA.out.grow h) Ot Ot (enters_of func318 Ou rfl) HP.out rfl)
 have KD:=NW (fV W0 a b (.slice A a.length ca) (.slice A' b.length cb) (HA.out.grow E3.out) (HB.out.grow E3.out) hca hcb Ot)
 have tm:(m1==m2)=N1:=by rw[beq_eq_false_iff_ne];exact hm
 clear ha hb hcan hval hca hcb
 go_enter func284,ntmps284
 clear hm
 go_wp2_with(go_at_call 290;rw[HW0.out];go_must(refine KD.out.mono ?_);rintro e X0 ⟨c,rfl,hc1,hc2,hX0⟩;have tc:decide (0≤c)=N1:=(by rw[decide_eq_false_iff_not];have:=hc1.2 hle;omega);clear hc1 hc2)
 refine wp_region_any Ou (bA 8 (fun vs=>⟨#[.agg #[.bool m1,.slice A a.length ca],.agg #[.bool m2,.slice A' b.length cb],.pointer (N3 ⟨w.heap.size,0,N0⟩),.pointer (N3 ⟨w.heap.size+1,0,N0⟩),.pointer (N3 ⟨w.heap.size+1+1,0,N0⟩),.bool N1,.pointer (N3 ⟨w.heap.size,0,N0⟩),.bool m1,.pointer (N3 ⟨w.heap.size+1,0,N0⟩),.bool m2,.bool N1,N7,N7,N7,N7,N7,N7,N7,N7,.bool N1,.pointer (N3 ⟨w.heap.size,1,N0⟩),.slice A a.length ca,.pointer (N3 ⟨w.heap.size+1,1,N0⟩),.slice A' b.length cb,.int .i64 c,.bool N1,N7,N7,N7,N7,N7,N7,N7,N7,vs 0,vs 1,vs 2,vs 3,vs 4,vs 5,vs 6,vs 7],[]⟩)
  (fun w'=>Ext X0 w') (Gh (w.heap.size+1) (w.heap.size+1) (w.heap.size) m2 (.slice A' b.length cb) (.slice A a.length ca) (aj (bK (jz b a) (max b.length a.length+1)))) (fun _=>N1) Ou (fun _ _ h k=>h.tr k) (fun i v _ _ h k=>uu h k) (fun _ _ _ _ h=>Ox) ?_ ?_ (fun _=>N7) _ (Ext.dr X0))
 ·exact th
 ·exact vj
theorem Dj(w:NY)(m1 m2:Bool)(a b:List Nat)(va vb:N2)(ha:aR w w.heap.size va a)(hb:aR w w.heap.size vb b)(hca:Canon a)(hcb:Canon b)(hla:a.length≤400000)(hlb:b.length≤400000):
  Of prog 284 #[.agg #[.bool m1,va],.agg #[.bool m2,vb]] w (uf w (sg m1 (val a)+sg m2 (val b))):=by
 by_cases hm:m1=m2
 ·subst hm;exact Cv w m1 a b va vb ha hb hca hcb hla hlb
 ·by_cases hle:val b≤val a
  ·exact IM w m1 m2 a b va vb ha hb hca hcb hla hlb hm hle
  ·exact GF w m1 m2 a b va vb ha hb hca hcb hla hlb hm Ot
end
section
open Kp
def lX(x y:Int):Int:=if x<y then -1 else if y<x then 1 else 0
theorem EE(l:List UInt8):num l=sg (Lib.hasPrefix l [45]) (aC (own l)):=by unfold num sg;rfl
theorem Hv{m na nb:Bool}{l la lb:List Nat}{x y:Nat}{p q:Int}(hc:Canon l)(hz:sg m (val l)=sg na (val la)+sg (!nb) (val lb))(h3:val la=x)(h4:val lb=y)(hp:p=sg na x)(hq:q=sg nb y):
  lX p q=if((l.length:Int)==0)=Oc then 0 else if m then -1 else 1:=by
 have hle:(if((l.length:Int)==0)=Oc then(0:Int) else if m then -1 else 1)=if l.length=0 then 0 else if m then -1 else 1:=by
  by_cases h:l.length=0<;>simp[h]
 rw[hle]
 subst hp hq
 rw[h3,h4] at hz
 have hz2:sg m (val l)=sg na x-sg nb y:=by
  rw[hz];unfold sg;cases nb<;>simp <;>omega
 have h0:=val_eq_zero hc.trim
 by_cases hl:l.length=0
 ·have:l=[]:=List.length_eq_zero_iff.1 hl
  have hv:=h0.2 this
  rw[if_pos hl]
  unfold lX
  rw[hv] at hz2
  have:sg m 0=0:=by unfold sg;cases m<;>rfl
  rw[if_neg Ot,if_neg Ot]
 ·have hv:0<val l:=by
   rcases Nat.eq_zero_or_pos (val l) with h|h
   ·exact absurd (by rw[h0.1 h];rfl) hl
   ·exact h
  rw[if_neg hl]
  unfold lX
  cases m
  ·have:sg N1 (val l)=val l:=rfl
   rw[if_neg Ot,if_pos Ot];rfl
  ·have:sg Oc (val l)= -(val l:Int):=rfl
   rw[if_pos Ot];rfl
theorem pR(a b:List UInt8)(w:NY)(ha:a.length≤100000)(hb:b.length≤100000)(h18:18<a.length∨18<b.length)(h:df a b=0):
  Of prog 254 #[.string (tx a),.string (tx b)] w fun e w'=>e= .returned (.tuple #[.int .i64 (lX (num a) (num b)),.int .i64 0])∧Ext w w':=by
 obtain⟨ca,cb⟩:=hH h
 obtain⟨fa,la⟩:=dP ca
 obtain⟨fb,lb⟩:=dP cb
 have da:=dB fa
 have db:=dB fb
 have K1:=NW (fg a b w Ot Ot)
 rw[h] at K1
 have K2:=NW (fun W=>pY a b W h18 Ot Ot)
 have K3:=NW (fun W=>iM W a da Ot)
 have K4:=NW (fun W=>iM W b db Ot)
 have HNA:=NW (EE a)
 have HNB:=NW (EE b)
 have HLA:=NW la
 have HLB:=NW lb
 clear h ca cb fa fb da db ha hb h18 la lb
 go_enter func254,ntmps254
 go_wp2_with(first
  |(go_at_call 260;refine K1.out.mono ?_;rintro e W1 ⟨rfl,hX1⟩)
  |(go_at_call 261;refine(K2.out _).mono ?_;rintro e W2 ⟨rfl,hX2⟩)
  |(go_at_call 262;((with_reducible refine(K4.out _).mono ?_);rintro e W4 ⟨v4,l4,rfl,⟨g4,cap4,rfl,hg4,hr4⟩,hc4,hv4,hl4,hX4⟩;have HR4:=NW hr4;have HV4:=NW hv4;have HL4:=NW hl4;have HC4:=NW hc4;clear hr4 hv4 hl4 hc4))
  |(go_at_call 262;((with_reducible refine(K3.out _).mono ?_);rintro e W3 ⟨v3,l3,rfl,⟨g3,cap3,rfl,hg3,hr3⟩,hc3,hv3,hl3,hX3⟩;have HR3:=NW hr3;have HV3:=NW hv3;have HL3:=NW hl3;have HC3:=NW hc3;clear hr3 hv3 hl3 hc3))
  |(go_at_call 284;go_must(refine(Dj _ _ _ l3 l4 _ _ (((HR3.out.sl HR3.out.lt).grow hX4).grow (dI W4 _ _)) ((HR4.out.sl HR4.out.lt).grow (dI W4 _ _)) HC3.out HC4.out (by have:=HL3.out;have:=HLA.out;omega) (by have:=HL4.out;have:=HLB.out;omega)).mono ?_);rintro e W5 ⟨m,v,l,rfl,hs5,hc5,hz5,hX5⟩;obtain⟨A5,c5,rfl,q1,q2,_⟩:=id hs5;unfold Ol at q2;have HKY:=NW (Hv hc5 hz5 HV3.out HV4.out HNA.out HNB.out);have HX5:=NW ((Ext.tr (Ext.tr (Ext.tr hX1 hX2) hX3) hX4).tr ((dI W4 _ _).tr hX5));clear hs5 hc5 hz5))
 all_goals
  go_ret2
  refine⟨?_,HX5.out.alloc HX5.out.size _⟩
  rw[HKY.out]
  simp[*]
theorem Dp(x y:Int):Lib.compareInt x y=lX x y:=by
 unfold Lib.compareInt lX
 rcases Int.lt_trichotomy x y with h|h|h
 ·first|simp[h]|(rw[if_pos h,if_pos h])
 ·subst h;simp
 ·have:¬x<y:=Ot
  simp[h,this]
theorem pr(x y:Int)(w:NY):Of prog 191 #[.int .i64 x,.int .i64 y] w fun e w'=>e= .returned (.int .i64 (lX x y))∧w'=w:=by
 rw[←Dp];exact cmp_Compare_int x y w
theorem qF(a b:List UInt8)(w:NY)(ha:a.length≤100000)(hb:b.length≤100000)(h:df a b=0):
  Of prog 254 #[.string (tx a),.string (tx b)] w fun e w'=>e= .returned (.tuple #[.int .i64 (lX (num a) (num b)),.int .i64 0])∧Ext w w':=by
 by_cases h18:18<a.length∨18<b.length
 ·exact pR a b w ha hb h18 h
 obtain⟨ca,cb⟩:=hH h
 obtain⟨fa,la⟩:=dP ca
 obtain⟨fb,lb⟩:=dP cb
 have K1:=NW (fg a b w Ot Ot)
 rw[h] at K1
 have K2:=NW (fun W=>jW a b W Ot Ot fa fb)
 have K3:=NW (fun W=>pr (num a) (num b) W)
 obtain⟨z,hz⟩:∃z,lX (num a) (num b)=z:=⟨_,rfl⟩
 rw[hz]
 simp only[hz] at K3
 clear h ca cb fa fb ha hb h18 la lb hz
 go_enter func254,ntmps254
 go_wp2_with(first
  |(go_at_call 260;refine K1.out.mono ?_;rintro e W1 ⟨rfl,hX1⟩)
  |(go_at_call 261;refine(K2.out _).mono ?_;rintro e W2 ⟨rfl,hX2⟩)
  |(go_at_call 191;go_must(refine(K3.out _).mono ?_);rintro e W3 ⟨rfl,rfl⟩))
 go_ret2
 exact⟨rfl,Ext.tr hX1 hX2⟩
end
section
open Kp
noncomputable def sR(a b:List UInt8):List UInt8×Int:=
 if a.length+b.length≤18 then(Lib.itoa (num a*num b),0) else mw (Lib.hasPrefix a [45] !=Lib.hasPrefix b [45]) (dj (aC (own a)*aC (own b)))
theorem rC{a:List UInt8}(fa:cP a=Oc): -((10:Int)^a.length)≤num a∧num a≤(10:Int)^a.length:=by
 have h1:=mh (dB fa)
 have h2:10^(own a).length≤10^a.length:=Nat.pow_le_pow_right Ov (lH a)
 have h3:((10^a.length:Nat):Int)=(10:Int)^a.length:=Ow
 rw[←h3]
 unfold num
 split <;>omega
theorem kM{a b:List UInt8}(fa:cP a=Oc)(fb:cP b=Oc)(h:a.length+b.length≤18): -1000000000000000000≤num a*num b∧num a*num b≤1000000000000000000:=by
 have h1:=tT (rC fa) (rC fb)
 have h2:(10:Int)^a.length*(10:Int)^b.length≤1000000000000000000:=by
  rw[←Int.pow_add]
  have:((10^(a.length+b.length):Nat):Int)≤((10^18:Nat):Int):=Int.ofNat_le.2 (Nat.pow_le_pow_right Ov h)
  have e:((10^(a.length+b.length):Nat):Int)=(10:Int)^(a.length+b.length):=Ow
  rw[←e];exact this
 omega
def CO(Z:Nat)(sa sb:Bool)(v1 v2:N2)(L:List Nat)(r:List UInt8×Int):Nat→N2→NY→Prop
 |0,v,_=>v= .pointer (N3 ⟨Z,0,N0⟩)
 |1,v,_=>v= .bool sa
 |2,v,_=>v= .pointer (N3 ⟨Z+1,0,N0⟩)
 |3,v,_=>v= .bool sb
 |4,v,_=>v= .bool (sa !=sb)
 |5,v,_=>v= .pointer (N3 ⟨Z,1,N0⟩)
 |6,v,_=>v=v1
 |7,v,_=>v= .pointer (N3 ⟨Z+1,1,N0⟩)
 |8,v,_=>v=v2
 |9,v,w=>aR w w.heap.size v L∧Small L∧L.length≤1000
 |10,v,w=>∃u,v= .agg #[.bool (sa !=sb),u]∧aR w w.heap.size u L∧Small L∧L.length≤1000
 |11,v,_=>v= .tuple #[.string (tx r.1),.int .i64 r.2]
 |12,v,_=>v= .string (tx r.1)
 |_,v,_=>v= .int .i64 r.2
theorem Hb{Z:Nat}{sa sb:Bool}{v1 v2:N2}{L:List Nat}{r:List UInt8×Int}{i:Nat}{v:N2}{w w':NY}(h:CO Z sa sb v1 v2 L r i v w)(hx:Ext w w'):CO Z sa sb v1 v2 L r i v w':=by
 match i,h with
 |0,h|1,h|2,h|3,h|4,h|5,h|6,h|7,h|8,h|11,h|12,h=>exact h
 |9,h=>exact⟨aR.grow h.1 hx,h.2⟩
 |10,h=>obtain⟨u,e,hu,h2⟩:=h;exact⟨u,e,hu.grow hx,h2⟩
 |_+13,h=>exact h
theorem BB(a b:List UInt8)(w:NY)(ha:a.length≤100000)(hb:b.length≤100000)(h18:18<a.length+b.length)(h:df a b=0)(ht:aL w):
  Of prog 283 #[.string (tx a),.string (tx b)] w (fM w (sR a b)):=by
 obtain⟨ca,cb⟩:=hH h
 obtain⟨fa,la⟩:=dP ca
 obtain⟨fb,lb⟩:=dP cb
 have da:=dB fa
 have db:=dB fb
 have K1:=NW (fg a b w Ot Ot)
 rw[h] at K1
 have K3:=NW (fun W=>iM W a da Ot)
 have K4:=NW (fun W=>iM W b db Ot)
 have HLA:=NW la
 have HLB:=NW lb
 have HT:=NW ht
 have HM:=NW (show sR a b=mw (Lib.hasPrefix a [45] !=Lib.hasPrefix b [45]) (dj (aC (own a)*aC (own b))) by unfold sR;rw[if_neg Ot])
 have t18:decide ((a.length:Int)+(b.length:Int)≤18)=N1:=Oz
 obtain⟨sa,hsa⟩:∃s,Lib.hasPrefix a [45]=s:=⟨_,rfl⟩
 obtain⟨sb,hsb⟩:∃s,Lib.hasPrefix b [45]=s:=⟨_,rfl⟩
 rw[hsa,hsb] at HM
 unfold Er at K3 K4
 simp only[hsa] at K3
 simp only[hsb] at K4
 clear h ca cb fa fb da db h18 la lb ht hsa hsb
 go_enter func283,ntmps283
 go_wp2_with(first
  |(go_at_call 260;refine K1.out.mono ?_;rintro e W1 ⟨rfl,hX1⟩)
  |(go_at_call 262;((with_reducible refine(K4.out _).mono ?_);rintro e W4 ⟨v4,l4,rfl,⟨g4,cap4,rfl,hg4,hr4⟩,hc4,hv4,hl4,hX4⟩;have HR4:=NW hr4;have HV4:=NW hv4;have HL4:=NW hl4;have HC4:=NW hc4;clear hr4 hv4 hl4 hc4))
  |(go_at_call 262;((with_reducible refine(K3.out _).mono ?_);rintro e W3 ⟨v3,l3,rfl,⟨g3,cap3,rfl,hg3,hr3⟩,hc3,hv3,hl3,hX3⟩;have HR3:=NW hr3;have HV3:=NW hv3;have HL3:=NW hl3;have HC3:=NW hc3;clear hr3 hv3 hl3 hc3)))
 have EW:=NW (Ext.tr (Ext.tr (Ext.tr hX1 hX3) hX4) (dI W4 (.cells #[.bool sa,.slice (N3 ⟨g3,0,N0⟩) l3.length cap3] 292) (.cells #[.bool sb,.slice (N3 ⟨g4,0,N0⟩) l4.length cap4] 292)))
 have R1:=(af.new W4 292 [.bool sa,.slice (N3 ⟨g3,0,N0⟩) l3.length cap3]).ext ((Below.refl _ _).alloc (NZ _) (.cells #[.bool sb,.slice (N3 ⟨g4,0,N0⟩) l4.length cap4] 292))
 have R2:=af.new (W4.alloc (.cells #[.bool sa,.slice (N3 ⟨g3,0,N0⟩) l3.length cap3] 292)) 292 [.bool sb,.slice (N3 ⟨g4,0,N0⟩) l4.length cap4]
 rw[Oi] at R2
 have S3:=((HR3.out.sl HR3.out.lt).grow hX4).grow (dI W4 (.cells #[.bool sa,.slice (N3 ⟨g3,0,N0⟩) l3.length cap3] 292) (.cells #[.bool sb,.slice (N3 ⟨g4,0,N0⟩) l4.length cap4] 292))
 have S4:=(HR4.out.sl HR4.out.lt).grow (dI W4 (.cells #[.bool sa,.slice (N3 ⟨g3,0,N0⟩) l3.length cap3] 292) (.cells #[.bool sb,.slice (N3 ⟨g4,0,N0⟩) l4.length cap4] 292))
 obtain⟨W0,hW0⟩:∃W0,(W4.alloc (.cells #[.bool sa,.slice (N3 ⟨g3,0,N0⟩) l3.length cap3] 292)).alloc (.cells #[.bool sb,.slice (N3 ⟨g4,0,N0⟩) l4.length cap4] 292)=W0:=⟨_,rfl⟩
 simp only[hW0] at EW R1 R2 S3 S4⊢
 clear hW0
 have l3b:l3.length≤300:=by have:=HL3.out;have:=HLA.out;omega
 have l4b:l4.length≤300:=by have:=HL4.out;have:=HLB.out;omega
 have KT:=NW (fun(W:NY) (h:Ext W0 W)=>mM W l3 l4 _ _ (S3.grow h) (S4.grow h) HC3.out.small HC4.out.small Ot Ot)
 have KRS:=NW (fun(W:NY) (u:N2) (h:Ext W0 W) (hs:aR W W.heap.size u (dj (aC (own a)*aC (own b)))) (h1:Small (dj (aC (own a)*aC (own b)))) (h2:(dj (aC (own a)*aC (own b))).length≤1000)=>nd W (sa !=sb) _ u hs h1 Ot (HT.out.below (EW.out.tr h) (NZ _)))
 refine wp_region_any Ou (bA 14 (fun vs=>⟨#[.string (tx a),.string (tx b),N7,N7,.string ⟨#[]⟩,.int .i64 0,.int .i64 0,N7,N7,N7,.pointer (N3 ⟨W4.heap.size,0,N0⟩),.pointer (N3 ⟨W4.heap.size+1,0,N0⟩),.string (tx a),.string (tx b),.int .i64 0,.int .i64 0,.bool N1,N7,.string (tx a),.int .i64 (a.length:Int),.string (tx b),.int .i64 (b.length:Int),.int .i64 ((a.length:Int)+(b.length:Int)),.bool N1,N7,N7,N7,N7,N7,N7,N7,N7,N7,N7,N7,N7,.string (tx a),.agg #[.bool sa,.slice (N3 ⟨g3,0,N0⟩) l3.length cap3],.string (tx b),.agg #[.bool sb,.slice (N3 ⟨g4,0,N0⟩) l4.length cap4],vs 0,vs 1,vs 2,vs 3,vs 4,vs 5,vs 6,vs 7,vs 8,vs 9,vs 10,vs 11,vs 12,vs 13],[]⟩)
  (fun w'=>Ext W0 w') (CO W4.heap.size sa sb (.slice (N3 ⟨g3,0,N0⟩) l3.length cap3) (.slice (N3 ⟨g4,0,N0⟩) l4.length cap4) (dj (aC (own a)*aC (own b))) (mw (sa !=sb) (dj (aC (own a)*aC (own b))))) (fun _=>N1) Ou (fun _ _ h k=>h.tr k) (fun i v _ _ h k=>Hb h k) (fun _ _ _ _ h=>Ox) ?step ?tail (fun _=>N7) _ (Ext.dr W0))
 case step=>
  intro i vs w' hi hD hd
  have cA:=fun i=>(R1.ext hD).cell i
  have cB:=fun i=>(R2.ext hD).cell i
  rcases(show i=0∨i=1∨i=2∨i=3∨i=4∨i=5∨i=6∨i=7∨i=8∨i=9∨i=10∨i=11∨i=12∨i=13 by omega) with rfl|rfl|rfl|rfl|rfl|rfl|rfl|rfl|rfl|rfl|rfl|rfl|rfl|rfl<;>clear hi
  ·refine Ob rfl (fun K hK=> ?_)
   go_simp
   exact hK _ _ ⟨_,rfl,Ext.an _,rfl,fun h=>Ox⟩
  ·refine Ob rfl (fun K hK=> ?_)
   have d0:=hd 0 Ou
   simp only[CO] at d0
   go_simp
   exact hK _ _ ⟨.bool sa,by simp[d0],Ext.an _,rfl,fun h=>Ox⟩
  ·refine Ob rfl (fun K hK=> ?_)
   go_simp
   exact hK _ _ ⟨_,rfl,Ext.an _,rfl,fun h=>Ox⟩
  ·refine Ob rfl (fun K hK=> ?_)
   have d2:=hd 2 Ou
   simp only[CO] at d2
   go_simp
   exact hK _ _ ⟨.bool sb,by simp[d2],Ext.an _,rfl,fun h=>Ox⟩
  ·refine Ob rfl (fun K hK=> ?_)
   have d1:=hd 1 Ou
   have d3:=hd 3 Ou
   simp only[CO] at d1 d3
   go_simp
   exact hK _ _ ⟨.bool (sa !=sb),by(simp[d1,d3];try(cases sa<;>cases sb<;>rfl)),Ext.an _,rfl,fun h=>Ox⟩
  ·refine Ob rfl (fun K hK=> ?_)
   go_simp
   exact hK _ _ ⟨_,rfl,Ext.an _,rfl,fun h=>Ox⟩
  ·refine Ob rfl (fun K hK=> ?_)
   have d5:=hd 5 Ou
   simp only[CO] at d5
   go_simp
   exact hK _ _ ⟨(.slice (N3 ⟨g3,0,N0⟩) l3.length cap3),by simp[d5],Ext.an _,rfl,fun h=>Ox⟩
  ·refine Ob rfl (fun K hK=> ?_)
   go_simp
   exact hK _ _ ⟨_,rfl,Ext.an _,rfl,fun h=>Ox⟩
  ·refine Ob rfl (fun K hK=> ?_)
   have d7:=hd 7 Ou
   simp only[CO] at d7
   go_simp
   exact hK _ _ ⟨(.slice (N3 ⟨g4,0,N0⟩) l4.length cap4),by simp[d7],Ext.an _,rfl,fun h=>Ox⟩
  ·refine Ob rfl (fun K hK=> ?_)
   have d6:=hd 6 Ou
   have d8:=hd 8 Ou
   simp only[CO] at d6 d8
   clear cA cB
   go_simp
   refine(KT.out _ hD).mono ?_
   rintro e W5 ⟨v,l,rfl,ho,hc,hv,hll,hX⟩
   have hL:dj (aC (own a)*aC (own b))=l:=pS hc (by rw[hv,HV3.out,HV4.out])
   have hs:aR W5 W5.heap.size v (dj (aC (own a)*aC (own b))):=by rw[hL];exact ho.sl
   exact hK _ _ ⟨v,by simp[d6,d8],hX,⟨hs,by rw[hL];exact hc.small,by rw[hL];omega⟩,fun h=>Ox⟩
  ·refine Ob rfl (fun K hK=> ?_)
   have d4:=hd 4 Ou
   obtain⟨d9,ds9,dl9⟩:=hd 9 Ou
   obtain⟨A9,c9,e9,_,_,_⟩:=id d9
   simp only[CO] at d4
   rw[e9] at d9
   have D9:=NW d9
   clear cA cB d9
   go_simp
   exact hK _ _ ⟨.agg #[.bool (sa !=sb),.slice A9 (dj (aC (own a)*aC (own b))).length c9],by simp[d4,e9],Ext.an _,⟨_,rfl,D9.out,ds9,dl9⟩,fun h=>Ox⟩
  ·refine Ob rfl (fun K hK=> ?_)
   obtain⟨u,e10,hs10,hs10b,hs10c⟩:=hd 10 Ou
   have KR:=NW (KRS.out w' u hD hs10 hs10b hs10c)
   clear cA cB hs10
   go_simp
   refine KR.out.mono ?_
   rintro e W6 ⟨rfl,hX⟩
   exact hK _ _ ⟨_,by simp[e10],hX,rfl,fun h=>Ox⟩
  ·refine Ob rfl (fun K hK=> ?_)
   have d11:=hd 11 Ou
   simp only[CO] at d11
   go_simp
   exact hK _ _ ⟨.string (tx (mw (sa !=sb) (dj (aC (own a)*aC (own b)))).1),by simp[d11],Ext.an _,rfl,fun h=>Ox⟩
  ·refine Ob rfl (fun K hK=> ?_)
   have d11:=hd 11 Ou
   simp only[CO] at d11
   go_simp
   exact hK _ _ ⟨.int .i64 (mw (sa !=sb) (dj (aC (own a)*aC (own b)))).2,by simp[d11],Ext.an _,rfl,fun h=>Ox⟩
 case tail=>
  intro vs w' hD hv _
  have v12:=hv 12 Ov
  have v13:=hv 13 Ov
  simp only[CO] at v12 v13
  clear hv
  simp only[List.drop_succ_cons,List.drop_zero]
  go_wp2
  go_ret2
  rw[HM.out]
  refine⟨?_,EW.out.tr hD⟩
  simp[v12,v13]
theorem Dz(a b:List UInt8)(w:NY)(ha:a.length≤100000)(hb:b.length≤100000)(h:df a b=0)(ht:aL w):
  Of prog 283 #[.string (tx a),.string (tx b)] w (fM w (sR a b)):=by
 by_cases h18:a.length+b.length≤18
 ·obtain⟨ca,cb⟩:=hH h
  obtain⟨fa,la⟩:=dP ca
  obtain⟨fb,lb⟩:=dP cb
  have K1:=NW (fg a b w Ot Ot)
  rw[h] at K1
  have K2:=NW (fun W=>jW a b W Ot Ot fa fb)
  have HM:=NW (show sR a b=(Lib.itoa (num a*num b),0) by unfold sR;rw[if_pos h18])
  have HT:=NW ht
  have hbd:=kM fa fb h18
  obtain⟨x,hx⟩:∃x,num a=x:=⟨_,rfl⟩
  obtain⟨y,hy⟩:∃y,num b=y:=⟨_,rfl⟩
  rw[hx,hy] at hbd HM
  simp only[hx,hy] at K2
  obtain⟨hb1,hb2⟩:=hbd
  have w1:Oe.wrap (x*y)=x*y:=Om _ Ot
  have t18:decide ((a.length:Int)+(b.length:Int)≤18)=Oc:=OH
  clear h ca cb fa fb ha hb la lb ht hx hy
  go_enter func283,ntmps283
  go_wp2_with(first
   |(go_at_call 260;refine K1.out.mono ?_;rintro e W1 ⟨rfl,hX1⟩)
   |(go_at_call 261;refine(K2.out _).mono ?_;rintro e W2 ⟨rfl,hX2⟩)
   |(go_at_call 181;go_must(refine(fT (x*y) _ Ot Ot (HT.out.below (Ext.tr hX1 hX2) (NZ _))).mono ?_);rintro e W3 ⟨rfl,hX3⟩))
  go_ret2
  rw[HM.out]
  exact⟨rfl,Ext.tr (Ext.tr hX1 hX2) hX3⟩
 ·exact BB a b w ha hb Ot h ht
end
section
open Kp
theorem oB(a:List UInt8)(w:NY)(hs:a.length≤300000)(hm:fl w)(ht:aL w):Of prog 205 #[.string (tx a)] w fun e w'=>
  ∃x y:ByteArray,e= .returned (.tuple #[.string x,.string y,.int .i64 (bG a)])∧(bG a=0→∃n d,dK a=N3 (n,d)∧x=tx n∧y=tx d)∧Ext w w':=by
 have cr:=NW (kg a w hs hm ht)
 obtain⟨c,hc⟩:∃c,bG a=c:=⟨_,rfl⟩
 unfold uG at cr
 rw[hc] at cr⊢
 clear hm ht hc
 go_enter func205,ntmps205
 go_wp2_with(go_at_call 204;go_must(refine cr.out.mono ?_);rintro e W1 ⟨x,y,rfl,hp,hX1⟩;have HP:=NW hp;clear hp)
 go_quiet (fail)
 go_wp2
 refine bodyPost_ret (v:= .tuple #[.string x,.string y,.int .i64 c]) ?_ rfl ⟨x,y,rfl,HP.out,?_⟩
 ·simp[results,results205,go_sem]
 ·exact below_drewN (hX1.alloc hX1.size _) _
end
section
open Kp
noncomputable def jl(a b:List UInt8):List UInt8×Int:=if df a b=0 then sR a b else([],df a b)
noncomputable def jM(a b:List UInt8):Int×Int:=if df a b=0 then(lX (num a) (num b),0) else(0,df a b)
theorem F3(s:List UInt8):s.length≤(own s).length+1:=by
 rcases qS s with⟨r,rfl,h⟩|⟨h,_⟩
 ·rw[h];simp
 ·rw[h];omega
theorem xh(a b:List UInt8):(jl a b).1.length≤1000:=by
 unfold jl
 split
 ·rename_i h
  obtain⟨ca,cb⟩:=hH h
  unfold sR
  split
  ·rename_i h18
   have hb:=kM (dP ca).1 (dP cb).1 h18
   have:=kW (n:=num a*num b) (by unfold aN;omega)
   show(Lib.itoa _).length≤_
   omega
  ·unfold mw
   split
   ·simp
   ·rename_i h300
    have:=F3 (AV (Lib.hasPrefix a [45] !=Lib.hasPrefix b [45]) (dj (aC (own a)*aC (own b))))
    show(AV _ _).length≤_
    omega
 ·simp
theorem rM(a b:List UInt8)(w:NY)(ha:a.length≤100000)(hb:b.length≤100000)(ht:aL w):
  Of prog 283 #[.string (tx a),.string (tx b)] w (fM w (jl a b)):=by
 by_cases h:df a b=0
 ·rw[show jl a b=sR a b by unfold jl;rw[if_pos h]];exact Dz a b w ha hb h ht
 ·have HR:=NW (show jl a b=([],df a b) by unfold jl;rw[if_neg h])
  have h':(df a b !=0)=Oc:=O5
  have K1:=NW (fg a b w Ot Ot)
  clear h ht
  go_enter func283,ntmps283
  go_wp2_with(go_at_call 260;refine K1.out.mono ?_;rintro e w1 ⟨rfl,hB1⟩)
  go_ret2
  rw[HR.out]
  exact⟨rfl,hB1⟩
theorem Ci(a b:List UInt8)(w:NY)(ha:a.length≤100000)(hb:b.length≤100000):
  Of prog 254 #[.string (tx a),.string (tx b)] w fun e w'=>e= .returned (.tuple #[.int .i64 (jM a b).1,.int .i64 (jM a b).2])∧Ext w w':=by
 by_cases h:df a b=0
 ·rw[show jM a b=(lX (num a) (num b),0) by unfold jM;rw[if_pos h]];exact qF a b w ha hb h
 ·have HR:=NW (show jM a b=(0,df a b) by unfold jM;rw[if_neg h])
  have h':(df a b !=0)=Oc:=O5
  have K1:=NW (fg a b w Ot Ot)
  clear h
  go_enter func254,ntmps254
  go_wp2_with(go_at_call 260;refine K1.out.mono ?_;rintro e w1 ⟨rfl,hB1⟩)
  go_ret2
  rw[HR.out]
  exact⟨rfl,hB1⟩
structure NU where
 u:List UInt8
 v:List UInt8
 e:Int
noncomputable def qe(n1 d1 n2 d2:List UInt8):NU:=
 if(jl n1 d2).2≠0 then⟨[],[],(jl n1 d2).2⟩ else⟨(jl n1 d2).1,(jl n2 d1).1,(jl n2 d1).2⟩
theorem Ip(n1 d1 n2 d2:List UInt8):(qe n1 d1 n2 d2).u.length≤1000∧(qe n1 d1 n2 d2).v.length≤1000:=by
 unfold qe
 split
 ·simp
 ·exact⟨xh _ _,xh _ _⟩
theorem uW(n1 d1 n2 d2:List UInt8)(w:NY)(h1:n1.length≤100000)(h2:d1.length≤100000)(h3:n2.length≤100000)(h4:d2.length≤100000)(ht:aL w):
  Of prog 253 #[.agg #[.string (tx n1),.string (tx d1)],.agg #[.string (tx n2),.string (tx d2)]] w fun e w'=>
   e= .returned (.tuple #[.string (tx (qe n1 d1 n2 d2).u),.string (tx (qe n1 d1 n2 d2).v),.int .i64 (qe n1 d1 n2 d2).e])∧Ext w w':=by
 have E0:=NW (dI w (.cells #[.string (tx n1),.string (tx d1)] 244) (.cells #[.string (tx n2),.string (tx d2)] 244))
 have R1:=NW ((af.new w 244 [.string (tx n1),.string (tx d1)]).ext ((Below.refl _ _).alloc (NZ _) (.cells #[.string (tx n2),.string (tx d2)] 244)))
 have r2:=af.new (w.alloc (.cells #[.string (tx n1),.string (tx d1)] 244)) 244 [.string (tx n2),.string (tx d2)]
 rw[Oi] at r2
 have R2:=NW r2
 clear r2
 have HT:=NW ht
 have K1:=NW (fun(W:NY) (h:Ext w W)=>rM n1 d2 W h1 h4 (HT.out.below h (NZ _)))
 have K2:=NW (fun(W:NY) (h:Ext w W)=>rM n2 d1 W h3 h2 (HT.out.below h (NZ _)))
 have HC:=NW (show qe n1 d1 n2 d2=if(jl n1 d2).2≠0 then⟨[],[],(jl n1 d2).2⟩ else⟨(jl n1 d2).1,(jl n2 d1).1,(jl n2 d1).2⟩ from rfl)
 clear ht
 obtain⟨⟨u,c⟩,hu⟩:∃r,jl n1 d2=r:=⟨_,rfl⟩
 obtain⟨⟨v,d⟩,hv⟩:∃r,jl n2 d1=r:=⟨_,rfl⟩
 rw[hu,hv] at HC
 unfold fM at K1 K2
 simp only[hu] at K1
 simp only[hv] at K2
 dsimp only at HC
 clear hu hv
 by_cases hc:c=0
 ·have HV:=NW (show qe n1 d1 n2 d2=⟨u,v,d⟩ by rw[HC.out,if_neg (fun h=>h hc)])
  subst hc
  go_enter func253,ntmps253
  go_wp2_with(first
   |(go_at_call 283;((with_reducible refine(K1.out _ E0.out).mono ?_);rintro e W1 ⟨rfl,hX1⟩;have q1:=fun i=>(R1.out.ext hX1).cell i;have q2:=fun i=>(R2.out.ext hX1).cell i;have HX1:=NW (Ext.tr E0.out hX1)))
   |(go_at_call 283;((with_reducible refine(K2.out _ HX1.out).mono ?_);rintro e W2 ⟨rfl,hX2⟩)))
  rw[HV.out]
  refine bodyPost_ret (v:= .tuple #[.string (tx u),.string (tx v),.int .i64 d]) ?_ rfl ⟨rfl,Ext.tr HX1.out hX2⟩
  simp[results,results253,go_sem]
 ·have HV:=NW (show qe n1 d1 n2 d2=⟨[],[],c⟩ by rw[HC.out,if_pos hc])
  have t:(c !=0)=Oc:=by rw[bne_iff_ne];exact hc
  clear hc
  go_enter func253,ntmps253
  go_wp2_with(go_at_call 283;((with_reducible refine(K1.out _ E0.out).mono ?_);rintro e W1 ⟨rfl,hX1⟩;have HX1:=NW (Ext.tr E0.out hX1)))
  rw[HV.out]
  refine bodyPost_ret (v:= .tuple #[.string (tx []),.string (tx []),.int .i64 c]) ?_ rfl ⟨rfl,HX1.out⟩
  simp[results,results253,go_sem,tx]
end
section
open Kp
theorem pI{a:List UInt8}{x y:Int}(h:cE a=(x,y)): -1000000000≤x∧x≤1000000000∧ -1000000000≤y∧y≤1000000000:=by
 unfold cE at h
 split at h
 ·unfold rQ at h
  cases hn:cQ (own a) with
  |none=>rw[hn] at h;injection h with h1 h2;omega
  |some p=>
   obtain⟨n,r⟩:=p
   rw[hn] at h
   dsimp only at h
   have hb:=bF hn
   injection h with h1 h2
   have hx: -1000000000≤x∧x≤1000000000:=by
    rw[←h1];split <;>omega
   have hy: -1000000000≤y∧y≤1000000000:=by
    rw[←h2]
    cases r with
    |nil=>simp
    |cons c r'=>
     dsimp only
     cases hm:cQ r' with
     |none=>simp
     |some q=>
      obtain⟨d,q'⟩:=q
      have:=bF hm
      dsimp only
      omega
   exact⟨hx.1,hx.2,hy.1,hy.2⟩
 ·injection h with h1 h2;omega
def aW(a:List UInt8):List UInt8×List UInt8:=(dK a).getD ([],[])
noncomputable def fk(a b:List UInt8):Int×Int:=
 if bf a&&bf b then(lX ((cE a).1*(cE b).2) ((cE b).1*(cE a).2),0)
 else if(qe (aW a).1 (aW a).2 (aW b).1 (aW b).2).e≠0 then(0,(qe (aW a).1 (aW a).2 (aW b).1 (aW b).2).e)
 else jM (qe (aW a).1 (aW a).2 (aW b).1 (aW b).2).u (qe (aW a).1 (aW a).2 (aW b).1 (aW b).2).v
def Ez(w:NY)(r:Int×Int)(e:Ending)(w':NY):Prop:=e= .returned (.tuple #[.int .i64 r.1,.int .i64 r.2])∧Ext w w'
theorem uX(a b:List UInt8)(w:NY)(ha:a.length≤99999)(hb:b.length≤99999)(ca:bG a=0)(cb:bG b=0)(hm:fl w)(ht:aL w):
  Of prog 226 #[.string (tx a),.string (tx b)] w (Ez w (fk a b)):=by
 have HM:=NW hm
 have HT:=NW ht
 have KA:=NW (fun W=>iA a W Ot)
 have KB:=NW (fun W=>iA b W Ot)
 have KRA:=NW (fun(W:NY) (h:Ext w W)=>kg a W Ot (HM.out.below h (NZ _)) (HT.out.below h (NZ _)))
 have KRB:=NW (fun(W:NY) (h:Ext w W)=>kg b W Ot (HM.out.below h (NZ _)) (HT.out.below h (NZ _)))
 unfold bV at KA KB
 unfold uG at KRA KRB
 simp only[ca] at KRA
 simp only[cb] at KRB
 have HQ:=NW (show fk a b=if bf a&&bf b then(lX ((cE a).1*(cE b).2) ((cE b).1*(cE a).2),0)
  else if(qe (aW a).1 (aW a).2 (aW b).1 (aW b).2).e≠0 then(0,(qe (aW a).1 (aW a).2 (aW b).1 (aW b).2).e)
  else jM (qe (aW a).1 (aW a).2 (aW b).1 (aW b).2).u (qe (aW a).1 (aW a).2 (aW b).1 (aW b).2).v from rfl)
 obtain⟨oa,hoa⟩:∃o,bf a=o:=⟨_,rfl⟩
 obtain⟨ob,hob⟩:∃o,bf b=o:=⟨_,rfl⟩
 rw[hoa,hob] at HQ
 simp only[hoa] at KA
 simp only[hob] at KB
 have KZ:=NW (fun(x y:Int) (W:NY)=>pr x y W)
 clear hm ht hoa hob
 by_cases hab:(oa&&ob)=Oc
 ·obtain⟨rfl,rfl⟩:oa=Oc∧ob=Oc:=by simpa using hab
  have HV:=NW (show fk a b=(lX ((cE a).1*(cE b).2) ((cE b).1*(cE a).2),0) by rw[HQ.out];rfl)
  clear hab ca cb
  go_enter func226,ntmps226
  go_wp2_with(first
   |(go_at_call 228;((with_reducible refine(KA.out _).mono ?_);rintro e W1 ⟨x1,y1,rfl,hz1,hX1⟩;obtain⟨b1,b2,b3,b4⟩:=pI hz1;have HZ1:=NW hz1;clear hz1;have R1:=NW (af.new W1 262 [.int .i64 x1,.int .i64 y1]);have HX1:=NW hX1;clear hX1))
   |(go_at_call 228;((with_reducible refine(KB.out _).mono ?_);rintro e W2 ⟨x2,y2,rfl,hz2,hX2⟩;obtain⟨b5,b6,b7,b8⟩:=pI hz2;have HZ2:=NW hz2;clear hz2;have q0:=(R1.out.ext hX2).cell 0;have q1:=(R1.out.ext hX2).cell 1;have qz:=(R1.out.ext hX2).lt;have HX2:=NW (Ext.tr (HX1.out.alloc (Below.size HX1.out) _) hX2);clear hX2;have ja:=tT (a:=x1) (b:=y2) (m:=1000000000) (n:=1000000000) Ot Ot;have nl:=tT (a:=x2) (b:=y1) (m:=1000000000) (n:=1000000000) Ot Ot;obtain⟨p1,p2⟩:=ja;obtain⟨p3,p4⟩:=nl))
   |(go_at_call 191;go_must(refine(KZ.out _ _ _).mono ?_);rintro e W3 ⟨rfl,rfl⟩))
  go_ret2
  refine⟨?_,HX2.out.alloc (Below.size HX2.out) _⟩
  rw[HV.out,HZ1.out,HZ2.out]
  rfl
 ·obtain⟨n1,d1,hc1⟩:∃n d,dK a=N3 (n,d):=by
   cases h:dK a with
   |none=>unfold bG at ca;rw[h] at ca;cases ca
   |some p=>exact⟨p.1,p.2,rfl⟩
  obtain⟨n2,d2,hc2⟩:∃n d,dK b=N3 (n,d):=by
   cases h:dK b with
   |none=>unfold bG at cb;rw[h] at cb;cases cb
   |some p=>exact⟨p.1,p.2,rfl⟩
  have hl1:=lv hc1
  have hl2:=lv hc2
  have KC:=NW (fun(W:NY) (h:Ext w W)=>uW n1 d1 n2 d2 W Ot Ot Ot Ot (HT.out.below h (NZ _)))
  have hcl:=Ip n1 d1 n2 d2
  have HV:=NW (show fk a b=if(qe n1 d1 n2 d2).e≠0 then(0,(qe n1 d1 n2 d2).e) else jM (qe n1 d1 n2 d2).u (qe n1 d1 n2 d2).v by
   have e1:aW a=(n1,d1):=by unfold aW;rw[hc1];rfl
   have e2:aW b=(n2,d2):=by unfold aW;rw[hc2];rfl
   rw[HQ.out,if_neg hab,e1,e2])
  obtain⟨⟨u,v,c⟩,hu⟩:∃r,qe n1 d1 n2 d2=r:=⟨_,rfl⟩
  rw[hu] at HV hcl
  simp only[hu] at KC
  dsimp only at HV hcl
  have KI:=NW (fun W=>Ci u v W Ot Ot)
  have HCA:=NW hc1
  have HCB:=NW hc2
  have HAB:=NW hab
  clear hu hcl hc1 hc2 hl1 hl2 ca cb hab
  by_cases hc:c=0
  ·have HW:=NW (show fk a b=jM u v by rw[HV.out,if_neg (fun h=>h hc)])
   subst hc
   obtain⟨⟨z,f⟩,hz⟩:∃r,jM u v=r:=⟨_,rfl⟩
   rw[hz] at HW
   simp only[hz] at KI
   clear hz
   cases oa
   ·go_enter func226,ntmps226
    go_wp2_with(first
     |(go_at_call 228;((with_reducible refine(KA.out _).mono ?_);rintro e W1 ⟨x1,y1,rfl,_,hX1⟩;have HX1:=NW (Ext.tr (Ext.an w) hX1);clear hX1))
     |(go_at_call 204;((with_reducible refine(KRA.out _ (HX1.out.alloc (Below.size HX1.out) _)).mono ?_);rintro e W3 ⟨x3,y3,rfl,hp3,hX3⟩;obtain⟨n',d',e1,rfl,rfl⟩:=hp3 trivial;rw[HCA.out] at e1;obtain⟨rfl,rfl⟩:n1=n'∧d1=d':=by{injection e1 with e1;injection e1 with e2 e3;exact⟨e2,e3⟩};have R3:=NW (af.new W3 244 [.string (tx n1),.string (tx d1)]);have HX3:=NW (Ext.tr (HX1.out.alloc (Below.size HX1.out) _) hX3);clear hX3 hp3))
     |(go_at_call 204;((with_reducible refine(KRB.out _ (HX3.out.alloc (Below.size HX3.out) _)).mono ?_);rintro e W4 ⟨x4,y4,rfl,hp4,hX4⟩;obtain⟨n',d',e1,rfl,rfl⟩:=hp4 trivial;rw[HCB.out] at e1;obtain⟨rfl,rfl⟩:n2=n'∧d2=d':=by{injection e1 with e1;injection e1 with e2 e3;exact⟨e2,e3⟩};have s0:=(R3.out.ext hX4).cell 0;have s1:=(R3.out.ext hX4).cell 1;have sz:=(R3.out.ext hX4).lt;have HX4:=NW (Ext.tr (HX3.out.alloc (Below.size HX3.out) _) hX4);clear hX4 hp4))
     |(go_at_call 253;((with_reducible refine(KC.out _ (HX4.out.alloc (Below.size HX4.out) _)).mono ?_);rintro e W5 ⟨rfl,hX5⟩;have HX5:=NW (Ext.tr (HX4.out.alloc (Below.size HX4.out) _) hX5);clear hX5))
     |(go_at_call 254;go_must(refine(KI.out _).mono ?_);rintro e W6 ⟨rfl,hX6⟩))
    go_ret2
    rw[HW.out]
    exact⟨rfl,Ext.tr HX5.out hX6⟩
   ·cases ob
    ·go_enter func226,ntmps226
     go_wp2_with(first
      |(go_at_call 228;((with_reducible refine(KA.out _).mono ?_);rintro e W1 ⟨x1,y1,rfl,_,hX1⟩;have HX1:=NW (Ext.tr (Ext.an w) hX1);clear hX1))
      |(go_at_call 228;((with_reducible refine(KB.out _).mono ?_);rintro e W2 ⟨x2,y2,rfl,_,hX2⟩;have HX2:=NW (Ext.tr (HX1.out.alloc (Below.size HX1.out) _) hX2);clear hX2))
      |(go_at_call 204;((with_reducible refine(KRA.out _ (HX2.out.alloc (Below.size HX2.out) _)).mono ?_);rintro e W3 ⟨x3,y3,rfl,hp3,hX3⟩;obtain⟨n',d',e1,rfl,rfl⟩:=hp3 trivial;rw[HCA.out] at e1;obtain⟨rfl,rfl⟩:n1=n'∧d1=d':=by{injection e1 with e1;injection e1 with e2 e3;exact⟨e2,e3⟩};have R3:=NW (af.new W3 244 [.string (tx n1),.string (tx d1)]);have HX3:=NW (Ext.tr (HX2.out.alloc (Below.size HX2.out) _) hX3);clear hX3 hp3))
      |(go_at_call 204;((with_reducible refine(KRB.out _ (HX3.out.alloc (Below.size HX3.out) _)).mono ?_);rintro e W4 ⟨x4,y4,rfl,hp4,hX4⟩;obtain⟨n',d',e1,rfl,rfl⟩:=hp4 trivial;rw[HCB.out] at e1;obtain⟨rfl,rfl⟩:n2=n'∧d2=d':=by{injection e1 with e1;injection e1 with e2 e3;exact⟨e2,e3⟩};have s0:=(R3.out.ext hX4).cell 0;have s1:=(R3.out.ext hX4).cell 1;have sz:=(R3.out.ext hX4).lt;have HX4:=NW (Ext.tr (HX3.out.alloc (Below.size HX3.out) _) hX4);clear hX4 hp4))
      |(go_at_call 253;((with_reducible refine(KC.out _ (HX4.out.alloc (Below.size HX4.out) _)).mono ?_);rintro e W5 ⟨rfl,hX5⟩;have HX5:=NW (Ext.tr (HX4.out.alloc (Below.size HX4.out) _) hX5);clear hX5))
      |(go_at_call 254;go_must(refine(KI.out _).mono ?_);rintro e W6 ⟨rfl,hX6⟩))
     go_ret2
     rw[HW.out]
     exact⟨rfl,Ext.tr HX5.out hX6⟩
    ·exact absurd rfl HAB.out
  ·have HW:=NW (show fk a b=(0,c) by rw[HV.out,if_pos hc])
   have t:(c !=0)=Oc:=by rw[bne_iff_ne];exact hc
   clear hc
   cases oa
   ·go_enter func226,ntmps226
    go_wp2_with(first
     |(go_at_call 228;((with_reducible refine(KA.out _).mono ?_);rintro e W1 ⟨x1,y1,rfl,_,hX1⟩;have HX1:=NW (Ext.tr (Ext.an w) hX1);clear hX1))
     |(go_at_call 204;((with_reducible refine(KRA.out _ (HX1.out.alloc (Below.size HX1.out) _)).mono ?_);rintro e W3 ⟨x3,y3,rfl,hp3,hX3⟩;obtain⟨n',d',e1,rfl,rfl⟩:=hp3 trivial;rw[HCA.out] at e1;obtain⟨rfl,rfl⟩:n1=n'∧d1=d':=by{injection e1 with e1;injection e1 with e2 e3;exact⟨e2,e3⟩};have R3:=NW (af.new W3 244 [.string (tx n1),.string (tx d1)]);have HX3:=NW (Ext.tr (HX1.out.alloc (Below.size HX1.out) _) hX3);clear hX3 hp3))
     |(go_at_call 204;((with_reducible refine(KRB.out _ (HX3.out.alloc (Below.size HX3.out) _)).mono ?_);rintro e W4 ⟨x4,y4,rfl,hp4,hX4⟩;obtain⟨n',d',e1,rfl,rfl⟩:=hp4 trivial;rw[HCB.out] at e1;obtain⟨rfl,rfl⟩:n2=n'∧d2=d':=by{injection e1 with e1;injection e1 with e2 e3;exact⟨e2,e3⟩};have s0:=(R3.out.ext hX4).cell 0;have s1:=(R3.out.ext hX4).cell 1;have sz:=(R3.out.ext hX4).lt;have HX4:=NW (Ext.tr (HX3.out.alloc (Below.size HX3.out) _) hX4);clear hX4 hp4))
     |(go_at_call 253;((with_reducible refine(KC.out _ (HX4.out.alloc (Below.size HX4.out) _)).mono ?_);rintro e W5 ⟨rfl,hX5⟩;have HX5:=NW (Ext.tr (HX4.out.alloc (Below.size HX4.out) _) hX5);clear hX5)))
    go_ret2
    rw[HW.out]
    exact⟨rfl,HX5.out⟩
   ·cases ob
    ·go_enter func226,ntmps226
     go_wp2_with(first
      |(go_at_call 228;((with_reducible refine(KA.out _).mono ?_);rintro e W1 ⟨x1,y1,rfl,_,hX1⟩;have HX1:=NW (Ext.tr (Ext.an w) hX1);clear hX1))
      |(go_at_call 228;((with_reducible refine(KB.out _).mono ?_);rintro e W2 ⟨x2,y2,rfl,_,hX2⟩;have HX2:=NW (Ext.tr (HX1.out.alloc (Below.size HX1.out) _) hX2);clear hX2))
      |(go_at_call 204;((with_reducible refine(KRA.out _ (HX2.out.alloc (Below.size HX2.out) _)).mono ?_);rintro e W3 ⟨x3,y3,rfl,hp3,hX3⟩;obtain⟨n',d',e1,rfl,rfl⟩:=hp3 trivial;rw[HCA.out] at e1;obtain⟨rfl,rfl⟩:n1=n'∧d1=d':=by{injection e1 with e1;injection e1 with e2 e3;exact⟨e2,e3⟩};have R3:=NW (af.new W3 244 [.string (tx n1),.string (tx d1)]);have HX3:=NW (Ext.tr (HX2.out.alloc (Below.size HX2.out) _) hX3);clear hX3 hp3))
      |(go_at_call 204;((with_reducible refine(KRB.out _ (HX3.out.alloc (Below.size HX3.out) _)).mono ?_);rintro e W4 ⟨x4,y4,rfl,hp4,hX4⟩;obtain⟨n',d',e1,rfl,rfl⟩:=hp4 trivial;rw[HCB.out] at e1;obtain⟨rfl,rfl⟩:n2=n'∧d2=d':=by{injection e1 with e1;injection e1 with e2 e3;exact⟨e2,e3⟩};have s0:=(R3.out.ext hX4).cell 0;have s1:=(R3.out.ext hX4).cell 1;have sz:=(R3.out.ext hX4).lt;have HX4:=NW (Ext.tr (HX3.out.alloc (Below.size HX3.out) _) hX4);clear hX4 hp4))
      |(go_at_call 253;((with_reducible refine(KC.out _ (HX4.out.alloc (Below.size HX4.out) _)).mono ?_);rintro e W5 ⟨rfl,hX5⟩;have HX5:=NW (Ext.tr (HX4.out.alloc (Below.size HX4.out) _) hX5);clear hX5)))
     go_ret2
     rw[HW.out]
     exact⟨rfl,HX5.out⟩
    ·exact absurd rfl HAB.out
theorem fH(a b:List UInt8)(w:NY)(ha:a.length≤99999)(hb:b.length≤99999)(ca:bG a=0)(cb:bG b=0)(hm:fl w)(ht:aL w):
  Of prog 203 #[.string (tx a),.string (tx b)] w fun e w'=>e= .returned (.int .i64 (fk a b).1)∧Ext w w':=by
 have K:=NW (uX a b w ha hb ca cb hm ht)
 obtain⟨⟨z,f⟩,hz⟩:∃r,fk a b=r:=⟨_,rfl⟩
 unfold Ez at K
 rw[hz] at K⊢
 clear hz ca cb hm ht
 go_enter func203,ntmps203
 go_wp2_with(go_at_call 226;go_must(refine K.out.mono ?_);rintro e W1 ⟨rfl,hX1⟩)
 go_ret
 exact⟨rfl,hX1⟩
end
section
open Kp
noncomputable def jY(a:List UInt8):Int:=if bG a=0 then(match dK a with|none=>0|some (n,d)=>if 12<(own n).length∨12<d.length then 4 else 0) else bG a
theorem vW(a:List UInt8)(w:NY)(hs:a.length≤300000)(hm:fl w)(ht:aL w):Of prog 225 #[.string (tx a)] w fun e w'=>e= .returned (.int .i64 (jY a))∧Ext w w':=by
 have cr:=NW (oB a w hs hm ht)
 clear hm ht
 by_cases h0:bG a=0
 ·rw[h0] at cr
  cases hcu:dK a with
  |none=>
   have HX:=NW hcu
   refine absurd hcu ?_
   intro _
   obtain⟨n,d,hnd⟩:∃n d,dK a=N3 (n,d):=by
    unfold bG at h0
    rw[hcu] at h0
    cases h0
   rw[hnd] at hcu;cases hcu
  |some p=>
   obtain⟨n,d⟩:=p
   have HN:=NW (show jY a=if 12<(own n).length∨12<d.length then 4 else 0 by unfold jY;rw[if_pos h0,hcu])
   have HC:=NW hcu
   clear h0 hcu
   obtain⟨o,ho⟩:∃o,own n=o:=⟨_,rfl⟩
   rw[ho] at HN
   have HO:=NW ho
   clear ho
   by_cases h1:12<o.length
   ·have HR:=NW (show jY a=4 by rw[HN.out,if_pos (.inl h1)])
    go_enter func225,ntmps225
    go_wp2_with(first
     |(go_at_call 205;go_must(refine cr.out.mono ?_);rintro e W1 ⟨x,y,rfl,hp,hX1⟩;obtain⟨n',d',e1,rfl,rfl⟩:=hp rfl;rw[HC.out] at e1;obtain⟨rfl,rfl⟩:n=n'∧d=d':=by{injection e1 with e1;injection e1 with e2 e3;exact⟨e2,e3⟩})
     |(go_at_call 206;go_must(refine(cH _ _).mono ?_);rintro e W2 ⟨rfl,rfl⟩;rw[HO.out]))
    go_ret
    exact⟨OA,hX1⟩
   by_cases h2:12<d.length
   ·have HR:=NW (show jY a=4 by rw[HN.out,if_pos (.inr h2)])
    go_enter func225,ntmps225
    go_wp2_with(first
     |(go_at_call 205;go_must(refine cr.out.mono ?_);rintro e W1 ⟨x,y,rfl,hp,hX1⟩;obtain⟨n',d',e1,rfl,rfl⟩:=hp rfl;rw[HC.out] at e1;obtain⟨rfl,rfl⟩:n=n'∧d=d':=by{injection e1 with e1;injection e1 with e2 e3;exact⟨e2,e3⟩})
     |(go_at_call 206;go_must(refine(cH _ _).mono ?_);rintro e W2 ⟨rfl,rfl⟩;rw[HO.out]))
    go_ret
    exact⟨OA,hX1⟩
   ·have HR:=NW (show jY a=0 by rw[HN.out,if_neg Ot])
    go_enter func225,ntmps225
    go_wp2_with(first
     |(go_at_call 205;go_must(refine cr.out.mono ?_);rintro e W1 ⟨x,y,rfl,hp,hX1⟩;obtain⟨n',d',e1,rfl,rfl⟩:=hp rfl;rw[HC.out] at e1;obtain⟨rfl,rfl⟩:n=n'∧d=d':=by{injection e1 with e1;injection e1 with e2 e3;exact⟨e2,e3⟩})
     |(go_at_call 206;go_must(refine(cH _ _).mono ?_);rintro e W2 ⟨rfl,rfl⟩;rw[HO.out]))
    go_ret
    exact⟨OA,hX1⟩
 ·have HR:=NW (show jY a=bG a by unfold jY;rw[if_neg h0])
  obtain⟨c,hc⟩:∃c,bG a=c:=⟨_,rfl⟩
  rw[hc] at cr HR h0
  have h0':(c !=0)=Oc:=by rw[bne_iff_ne];exact h0
  clear hc h0
  go_enter func225,ntmps225
  go_wp2_with(go_at_call 205;go_must(refine cr.out.mono ?_);rintro e W1 ⟨x,y,rfl,hp,hX1⟩;clear hp)
  go_ret
  exact⟨OA,hX1⟩
end
end Go.Proofs.YtnpihidbkhehjaaGreatDoor
