/- ChangeOnly of kingpostlaw58: part 25 of its proof (merged and shortened by program). -/
import Derived.Test.YtnpihidbkhehjaaGreatDoorM24
set_option linter.unusedVariables false
set_option linter.unusedSimpArgs false
set_option linter.defProp false
set_option maxHeartbeats 8000000
set_option maxRecDepth 100000
open Go.RowKit Go.Shelf Go.Proofs.Tryz
open Array renaming getElem?_eq_some_iff→Od
open Bool renaming false→N1,true→Oc
open Go renaming World→NY,Value→N2,undef→N7,wpOp_step→Ob,Calls→Of,maxLen→Ol,TypeId→Oo
open Go.AllReady renaming cons→Oj,nil→Oq
open Go.IntKind renaming i64→Oe
open Go.IntWalk renaming i64_in→Om
open Go.Lib renaming hid→NW
open Go.RowKit renaming intOf→Oh,Below→On
open Go.World renaming size_alloc→Oi
open List renaming getD_eq_getElem?_getD→N8,length_map→N9,getElem?_eq_getElem→Oa
open Nat renaming le_refl→NZ,mul_comm→Og,le_trans→Ok
open Option renaming none→N0,some→N3
open Go.Proofs.YtnpihidbkhehjaaGreatDoor
namespace Go.Proofs.YtnpihidbkhehjaaGreatDoor
section
open Kp
set_option maxHeartbeats 40000000 in
theorem vo(w:NY)(A:Option Addr)(cap:Nat)(r:List Sd)(h:bC 7 w w.heap.size A cap (ak r))(i:Nat)(hi:i<r.length)
  (A2:Option Addr)(cap2:Nat)(r2:List Sd)(h2:bC 7 w w.heap.size A2 cap2 (ak r2))(k:Nat)(hk:k<r2.length):
  Of prog 171 #[.slice A r.length cap,.int .i64 (i:Int),.slice A2 r2.length cap2,.int .i64 (k:Int)] w fun x w'=>(∃b:Bool,x= .returned (.bool b))∧Ext w w':=by
 have a1:=h.1
 have a2:=h.2.1
 have b1:=h2.1
 have b2:=h2.2.1
 rw[N9] at a1 b1
 unfold Ol at a2 b2
 have KE:=NW (iO w A cap r h i hi)
 have KF:=NW (fun(W:NY) (hx:Ext w W)=>iO W A2 cap2 r2 ((h2.below hx).more hx.size) k hk)
 obtain⟨b,off,rfl,hb,hc⟩:=eu h Ot
 obtain⟨b',off',rfl,hb',hc'⟩:=eu h2 Ot
 obtain⟨c0,c1,_⟩:=hc i hi
 obtain⟨e0,e1,_⟩:=hc' k hk
 have HB:=NW hb
 have HB':=NW hb'
 obtain⟨x,hx⟩:∃x,(bj r i).x=x:=⟨_,rfl⟩
 obtain⟨y,hy⟩:∃y,(bj r i).y=y:=⟨_,rfl⟩
 obtain⟨u,hu⟩:∃u,(bj r2 k).x=u:=⟨_,rfl⟩
 obtain⟨v,hv⟩:∃v,(bj r2 k).y=v:=⟨_,rfl⟩
 rw[hx,hy] at KE
 simp only[hu,hv] at KF
 obtain⟨ax,hax⟩:∃x,(az r i).x=x:=⟨_,rfl⟩
 obtain⟨ay,hay⟩:∃x,(az r i).y=x:=⟨_,rfl⟩
 obtain⟨bx,hbx⟩:∃x,(az r2 k).x=x:=⟨_,rfl⟩
 obtain⟨by',hby⟩:∃x,(az r2 k).y=x:=⟨_,rfl⟩
 rw[hax] at c0
 rw[hay] at c1
 rw[hbx] at e0
 rw[hby] at e1
 clear hx hy hu hv hc hc' h h2 hb hb' hax hay hbx hby
 obtain⟨m0,hm0⟩:∃m,min ax x=m:=⟨_,rfl⟩
 obtain⟨m1,hm1⟩:∃m,max bx u=m:=⟨_,rfl⟩
 obtain⟨m2,hm2⟩:∃m,min bx u=m:=⟨_,rfl⟩
 obtain⟨m3,hm3⟩:∃m,max ax x=m:=⟨_,rfl⟩
 obtain⟨m4,hm4⟩:∃m,min ay y=m:=⟨_,rfl⟩
 obtain⟨m5,hm5⟩:∃m,max by' v=m:=⟨_,rfl⟩
 obtain⟨m6,hm6⟩:∃m,min by' v=m:=⟨_,rfl⟩
 obtain⟨m7,hm7⟩:∃m,max ay y=m:=⟨_,rfl⟩
 obtain⟨p1,ja⟩:∃p,decide (m0≤m1)=p:=⟨_,rfl⟩
 obtain⟨p2,nl⟩:∃p,decide (m2≤m3)=p:=⟨_,rfl⟩
 obtain⟨p3,hp3⟩:∃p,decide (m4≤m5)=p:=⟨_,rfl⟩
 cases p1 with
 |false=>
  go_enter func171,ntmps171
  go_wp2_with(first
   |(go_at_call 208;have hX0:=hX1;clear hX1;refine(KF.out _ hX0.out).mono ?_;rintro e W2 ⟨rfl,hX2⟩;have HX2:=NW (Ext.tr hX0.out hX2);have d0:=(HX2.out.cell (p:=⟨b,off+i*7,N0⟩) HB.out).trans c0;have d1:=(HX2.out.cell (p:=⟨b,off+i*7+1,N0⟩) HB.out).trans c1;have f0:=(HX2.out.cell (p:=⟨b',off'+k*7,N0⟩) HB'.out).trans e0;have f1:=(HX2.out.cell (p:=⟨b',off'+k*7+1,N0⟩) HB'.out).trans e1;clear c0 c1 e0 e1 hX2)
   |(go_at_call 208;refine KE.out.mono ?_;rintro e W1 ⟨rfl,hX1⟩;have hX1:=NW hX1))
  simp only[List.append_eq,List.cons_append,List.nil_append]
  refine bP 66 Ou Ou (fun W3 hW3=> ?_)
  have g0:=(hW3.cell (p:=⟨b,off+i*7,N0⟩) (Nat.lt_of_lt_of_le HB.out HX2.out.size)).trans d0
  have g1:=(hW3.cell (p:=⟨b,off+i*7+1,N0⟩) (Nat.lt_of_lt_of_le HB.out HX2.out.size)).trans d1
  have g2:=(hW3.cell (p:=⟨b',off'+k*7,N0⟩) (Nat.lt_of_lt_of_le HB'.out HX2.out.size)).trans f0
  have g3:=(hW3.cell (p:=⟨b',off'+k*7+1,N0⟩) (Nat.lt_of_lt_of_le HB'.out HX2.out.size)).trans f1
  have HX3:=NW (HX2.out.tr hW3)
  clear hW3 d0 d1 f0 f1
  refine ix (fun OPS hOPS=> ?_)
  have D15:(OPS[15]?).bind (·.dst)=N3 40:=Py
  have D32:(OPS[32]?).bind (·.dst)=N3 57:=Py
  have D49:(OPS[49]?).bind (·.dst)=N3 74:=Py
  clear hOPS
  simp only[List.take_succ_cons,List.take_zero,List.drop_succ_cons,List.drop_zero]
  iterate 16 still_step
  iterate 15 (refine wpStill_step (fun K hK=> ?_);rw[if_neg (gH rfl D15 rfl rfl)];go_simp;refine hK _ ?_;clear hK K)
  iterate 2 still_step
  iterate 15 (refine wpStill_step (fun K hK=> ?_);rw[if_neg (gH rfl D32 rfl rfl)];go_simp;refine hK _ ?_;clear hK K)
  iterate 2 still_step
  iterate 15 (refine wpStill_step (fun K hK=> ?_);rw[if_neg (gH rfl D49 rfl rfl)];go_simp;refine hK _ ?_;clear hK K)
  still_step
  refine wpStill_nil ?_
  go_wp2
  go_ret
  exact⟨⟨_,rfl⟩,HX3.out⟩
 |true=>
  cases p2 with
  |false=>
   go_enter func171,ntmps171
   go_wp2_with(first
    |(go_at_call 208;have hX0:=hX1;clear hX1;refine(KF.out _ hX0.out).mono ?_;rintro e W2 ⟨rfl,hX2⟩;have HX2:=NW (Ext.tr hX0.out hX2);have d0:=(HX2.out.cell (p:=⟨b,off+i*7,N0⟩) HB.out).trans c0;have d1:=(HX2.out.cell (p:=⟨b,off+i*7+1,N0⟩) HB.out).trans c1;have f0:=(HX2.out.cell (p:=⟨b',off'+k*7,N0⟩) HB'.out).trans e0;have f1:=(HX2.out.cell (p:=⟨b',off'+k*7+1,N0⟩) HB'.out).trans e1;clear c0 c1 e0 e1 hX2)
    |(go_at_call 208;refine KE.out.mono ?_;rintro e W1 ⟨rfl,hX1⟩;have hX1:=NW hX1))
   simp only[List.append_eq,List.cons_append,List.nil_append]
   refine bP 66 Ou Ou (fun W3 hW3=> ?_)
   have g0:=(hW3.cell (p:=⟨b,off+i*7,N0⟩) (Nat.lt_of_lt_of_le HB.out HX2.out.size)).trans d0
   have g1:=(hW3.cell (p:=⟨b,off+i*7+1,N0⟩) (Nat.lt_of_lt_of_le HB.out HX2.out.size)).trans d1
   have g2:=(hW3.cell (p:=⟨b',off'+k*7,N0⟩) (Nat.lt_of_lt_of_le HB'.out HX2.out.size)).trans f0
   have g3:=(hW3.cell (p:=⟨b',off'+k*7+1,N0⟩) (Nat.lt_of_lt_of_le HB'.out HX2.out.size)).trans f1
   have HX3:=NW (HX2.out.tr hW3)
   clear hW3 d0 d1 f0 f1
   refine ix (fun OPS hOPS=> ?_)
   have D15:(OPS[15]?).bind (·.dst)=N3 40:=Py
   have D32:(OPS[32]?).bind (·.dst)=N3 57:=Py
   have D49:(OPS[49]?).bind (·.dst)=N3 74:=Py
   clear hOPS
   simp only[List.take_succ_cons,List.take_zero,List.drop_succ_cons,List.drop_zero]
   iterate 16 still_step
   iterate 15 (refine wpStill_step (fun K hK=> ?_);rw[if_pos (fx rfl D15 rfl rfl)];go_simp;refine hK _ ?_;clear hK K)
   iterate 2 still_step
   iterate 15 (refine wpStill_step (fun K hK=> ?_);rw[if_neg (gH rfl D32 rfl rfl)];go_simp;refine hK _ ?_;clear hK K)
   iterate 2 still_step
   iterate 15 (refine wpStill_step (fun K hK=> ?_);rw[if_neg (gH rfl D49 rfl rfl)];go_simp;refine hK _ ?_;clear hK K)
   still_step
   refine wpStill_nil ?_
   go_wp2
   go_ret
   exact⟨⟨_,rfl⟩,HX3.out⟩
  |true=>
   cases p3 with
   |false=>
    go_enter func171,ntmps171
    go_wp2_with(first
     |(go_at_call 208;have hX0:=hX1;clear hX1;refine(KF.out _ hX0.out).mono ?_;rintro e W2 ⟨rfl,hX2⟩;have HX2:=NW (Ext.tr hX0.out hX2);have d0:=(HX2.out.cell (p:=⟨b,off+i*7,N0⟩) HB.out).trans c0;have d1:=(HX2.out.cell (p:=⟨b,off+i*7+1,N0⟩) HB.out).trans c1;have f0:=(HX2.out.cell (p:=⟨b',off'+k*7,N0⟩) HB'.out).trans e0;have f1:=(HX2.out.cell (p:=⟨b',off'+k*7+1,N0⟩) HB'.out).trans e1;clear c0 c1 e0 e1 hX2)
     |(go_at_call 208;refine KE.out.mono ?_;rintro e W1 ⟨rfl,hX1⟩;have hX1:=NW hX1))
    simp only[List.append_eq,List.cons_append,List.nil_append]
    refine bP 66 Ou Ou (fun W3 hW3=> ?_)
    have g0:=(hW3.cell (p:=⟨b,off+i*7,N0⟩) (Nat.lt_of_lt_of_le HB.out HX2.out.size)).trans d0
    have g1:=(hW3.cell (p:=⟨b,off+i*7+1,N0⟩) (Nat.lt_of_lt_of_le HB.out HX2.out.size)).trans d1
    have g2:=(hW3.cell (p:=⟨b',off'+k*7,N0⟩) (Nat.lt_of_lt_of_le HB'.out HX2.out.size)).trans f0
    have g3:=(hW3.cell (p:=⟨b',off'+k*7+1,N0⟩) (Nat.lt_of_lt_of_le HB'.out HX2.out.size)).trans f1
    have HX3:=NW (HX2.out.tr hW3)
    clear hW3 d0 d1 f0 f1
    refine ix (fun OPS hOPS=> ?_)
    have D15:(OPS[15]?).bind (·.dst)=N3 40:=Py
    have D32:(OPS[32]?).bind (·.dst)=N3 57:=Py
    have D49:(OPS[49]?).bind (·.dst)=N3 74:=Py
    clear hOPS
    simp only[List.take_succ_cons,List.take_zero,List.drop_succ_cons,List.drop_zero]
    iterate 16 still_step
    iterate 15 (refine wpStill_step (fun K hK=> ?_);rw[if_pos (fx rfl D15 rfl rfl)];go_simp;refine hK _ ?_;clear hK K)
    iterate 2 still_step
    iterate 15 (refine wpStill_step (fun K hK=> ?_);rw[if_pos (fx rfl D32 rfl rfl)];go_simp;refine hK _ ?_;clear hK K)
    iterate 2 still_step
    iterate 15 (refine wpStill_step (fun K hK=> ?_);rw[if_neg (gH rfl D49 rfl rfl)];go_simp;refine hK _ ?_;clear hK K)
    still_step
    refine wpStill_nil ?_
    go_wp2
    go_ret
    exact⟨⟨_,rfl⟩,HX3.out⟩
   |true=>
    go_enter func171,ntmps171
    go_wp2_with(first
     |(go_at_call 208;have hX0:=hX1;clear hX1;refine(KF.out _ hX0.out).mono ?_;rintro e W2 ⟨rfl,hX2⟩;have HX2:=NW (Ext.tr hX0.out hX2);have d0:=(HX2.out.cell (p:=⟨b,off+i*7,N0⟩) HB.out).trans c0;have d1:=(HX2.out.cell (p:=⟨b,off+i*7+1,N0⟩) HB.out).trans c1;have f0:=(HX2.out.cell (p:=⟨b',off'+k*7,N0⟩) HB'.out).trans e0;have f1:=(HX2.out.cell (p:=⟨b',off'+k*7+1,N0⟩) HB'.out).trans e1;clear c0 c1 e0 e1 hX2)
     |(go_at_call 208;refine KE.out.mono ?_;rintro e W1 ⟨rfl,hX1⟩;have hX1:=NW hX1))
    simp only[List.append_eq,List.cons_append,List.nil_append]
    refine bP 66 Ou Ou (fun W3 hW3=> ?_)
    have g0:=(hW3.cell (p:=⟨b,off+i*7,N0⟩) (Nat.lt_of_lt_of_le HB.out HX2.out.size)).trans d0
    have g1:=(hW3.cell (p:=⟨b,off+i*7+1,N0⟩) (Nat.lt_of_lt_of_le HB.out HX2.out.size)).trans d1
    have g2:=(hW3.cell (p:=⟨b',off'+k*7,N0⟩) (Nat.lt_of_lt_of_le HB'.out HX2.out.size)).trans f0
    have g3:=(hW3.cell (p:=⟨b',off'+k*7+1,N0⟩) (Nat.lt_of_lt_of_le HB'.out HX2.out.size)).trans f1
    have HX3:=NW (HX2.out.tr hW3)
    clear hW3 d0 d1 f0 f1
    refine ix (fun OPS hOPS=> ?_)
    have D15:(OPS[15]?).bind (·.dst)=N3 40:=Py
    have D32:(OPS[32]?).bind (·.dst)=N3 57:=Py
    have D49:(OPS[49]?).bind (·.dst)=N3 74:=Py
    clear hOPS
    simp only[List.take_succ_cons,List.take_zero,List.drop_succ_cons,List.drop_zero]
    iterate 16 still_step
    iterate 15 (refine wpStill_step (fun K hK=> ?_);rw[if_pos (fx rfl D15 rfl rfl)];go_simp;refine hK _ ?_;clear hK K)
    iterate 2 still_step
    iterate 15 (refine wpStill_step (fun K hK=> ?_);rw[if_pos (fx rfl D32 rfl rfl)];go_simp;refine hK _ ?_;clear hK K)
    iterate 2 still_step
    iterate 15 (refine wpStill_step (fun K hK=> ?_);rw[if_pos (fx rfl D49 rfl rfl)];go_simp;refine hK _ ?_;clear hK K)
    still_step
    refine wpStill_nil ?_
    go_wp2
    go_ret
    exact⟨⟨_,rfl⟩,HX3.out⟩
end
end Go.Proofs.YtnpihidbkhehjaaGreatDoor
