/- ChangeOnly of kingpostlaw58: part 4 of its proof (merged and shortened by program). -/
import Derived.Maps.AppendAt
import Derived.Test.YtnpihidbkhehjaaGreatDoorM03
set_option linter.unusedVariables false
set_option linter.unusedSimpArgs false
set_option linter.defProp false
set_option maxHeartbeats 8000000
set_option maxRecDepth 100000
open Go.RowKit Go.Shelf Go.Proofs.Tryz
open Array renaming getElem?_eq_some_iff→Od
open Bool renaming false→N1,true→Oc
open Go renaming World→NY,Value→N2,undef→N7,wpOp_step→Ob,Calls→Of,maxLen→Ol,TypeId→Oo
open Go.AllReady renaming cons→Oj,nil→Oq
open Go.IntKind renaming i64→Oe
open Go.IntWalk renaming i64_in→Om
open Go.Lib renaming hid→NW
open Go.RowKit renaming intOf→Oh,Below→On
open Go.World renaming size_alloc→Oi
open List renaming getD_eq_getElem?_getD→N8,length_map→N9,getElem?_eq_getElem→Oa
open Nat renaming le_refl→NZ,mul_comm→Og,le_trans→Ok
open Option renaming none→N0,some→N3
open Go.Proofs.YtnpihidbkhehjaaGreatDoor
namespace Go.Proofs.YtnpihidbkhehjaaGreatDoor
section
open Kp
attribute [local go_sem] Oper.semAt_some
theorem zf{t:Nat}(h1:1≤t)(h2:t<1000000000):∃f:Nat,(1000000000:Int)/((t:Int)+1)=f∧1≤f∧f<1000000000:=by
 refine⟨1000000000/(t+1),Ow,?_,?_⟩
 ·exact(Nat.le_div_iff_mul_le Ot).2 Ot
 ·exact Nat.div_lt_self Ot Ot
theorem DU{w:NY}{base g cap:Nat}{l:List Nat}(h:w.ownsRow base 3 1 (.slice (N3 ⟨g,0,N0⟩) (l.length+1) cap) (l.length+1) ((l.map fun(d:Nat)=>Value.int .i64 (d:Int))++[.int .i64 0])):Row w g cap (l++[0]):=by
 refine oQ h Ow (fun j hj=> ?_)
 simp only[List.length_append,List.length_singleton] at hj
 by_cases hlt:j<l.length
 ·rw[List.getElem?_append_left (by simpa using hlt),List.getElem?_map,Oa hlt]
  have:fv (l++[0]) j=l[j]:=by unfold fv;simp[List.getElem?_append_left hlt,hlt]
  rw[this];rfl
 ·have e:j=l.length:=Ot
  subst e
  have:fv (l++[0]) l.length=0:=by unfold fv;simp
  rw[this];simp
theorem vk(w:NY)(a b:List Nat)(va vb:N2)(ha:aR w w.heap.size va a)(hb:aR w w.heap.size vb b)(hca:Canon a)(hcb:Canon b)(hlen:a.length≤400000)(h2:2≤b.length)(hge:val b≤val a):
  Of prog 263 #[va,vb] w (ki w a b):=by
 have hbl:b.length≤a.length:=by
  rcases Nat.lt_or_ge a.length b.length with h|h
  ·have:=bm hca.small hcb.trim h;omega
  ·exact h
 have hcmp:=NW (fV (w.alloc (.cells #[.slice N0 0 0] 25)) a b va vb (ha.new _) (hb.new _) hca hcb Ot)
 have HA:=NW ha
 have HB:=NW hb
 obtain⟨A,ca,rfl,_,_,hac⟩:=ha
 obtain⟨A',cb,rfl,hb1,hb2,hbc⟩:=hb
 clear hac
 obtain⟨bb,bo,rfl,hbb,hcell⟩:=hbc Ot
 have hx:=hcell (b.length-1) Ot
 have ht1:1≤fv b (b.length-1):=by
  rcases jh b with rfl|⟨m,d,rfl⟩
  ·simp at h2
  ·have:=hcb.trim.last
   have e:fv (m++[d]) ((m++[d]).length-1)=d:=by unfold fv;simp
   rw[e];omega
 have ht2:fv b (b.length-1)<1000000000:=ai hcb.small _
 clear hbc hcell
 unfold Ol at *
 have hb1e:((b.length:Int)==1)=N1:=OF
 refine(callsIn_wide (n:=9)).1 (callsIn_of_wp_marks func263 rfl trivial ?_)
 simp only[ntmps263,List.size_toArray,List.length_cons,List.length_nil,Nat.reduceAdd,Nat.reduceSub,Array.replicate_succ,Array.replicate_zero,List.push_toArray,List.append_toArray,List.nil_append,List.cons_append]
 gi_wp2_with(refine⟨trivial,?_⟩;gi_at_call 290;refine(callsIn_wide.2 hcmp.out).mono ?_;clear hcmp;rintro e w1 ⟨c,rfl,h1,h2,hB⟩;have hc:¬c<0:=(fun h=>absurd (h1.1 h) Ot);clear h1 h2;have b1:=((Bx.new w 25 (.slice N0 0 0)).below hB Ow);have x1:w1.cell? ⟨bb,bo+(b.length-1),N0⟩=N3 (.int .i64 (fv b (b.length-1))):=((hB.cell (p:=⟨bb,bo+(b.length-1),N0⟩) OB).trans (NY.cell?_alloc_lt w _ ⟨bb,bo+(b.length-1),N0⟩ hbb)).trans hx)
 obtain⟨f,hf,hf1,hf2⟩:=zf ht1 ht2
 rw[hf]
 have hB1:On w.heap.size w w1:=((Below.refl _ _).alloc (NZ _) _).trans (hB.mono Ow)
 have hN1:w.heap.size<w1.heap.size:=b1.lt
 have fsm:Small [f]:=by intro x hx;rw[List.mem_singleton.1 hx];exact hf2
 have one1:=row_one w1 f
 refine⟨trivial,(callsIn_wide.2 (mM (w1.alloc (.cells #[.int .i64 f] 3)) a [f] _ _ ((HA.out.grow hB1).new _) (one1.sl one1.lt) hca.small fsm Ot Ow)).mono ?_⟩
 rintro e w2 ⟨v,l,rfl,⟨gu,cu,rfl,hgu,hru⟩,hcl,hvl,hll,hB2⟩
 have hgu':w1.heap.size<gu:=by simp at hgu;omega
 have hll':l.length≤a.length+2:=by simp at hll;omega
 have hB02:On w.heap.size w w2:=hB1.trans (((Below.refl _ _).alloc Ot _).trans (hB2.mono OB))
 have b2:=(b1.alloc (.cells #[.int .i64 f] 3)).below hB2 OB
 have hown:=yG (base:=w1.heap.size+1) hru hgu'
 obtain⟨i0,hi,hz0,hz1,hz2⟩:=info_parts dW
 have hN2:w1.heap.size+1≤w2.heap.size:=by have:=hB2.size;simpa using this
 have H:=NW hf
 clear hf x1 hx
 gi_wp2_with(gi_at_builtin;refine wpListIn_append_own _ rfl _ _ 25 rfl (w1.heap.size+1) 3 i0 (.int .i64 0) 1 8 underlying25 hi hz0 hz1 hz2 rfl Ov _ _ _ rfl (hown.alloc _) ⟨w2.heap.size,0,N0⟩ 1 1 [.int .i64 0] rfl rfl (cell_one_new _ _ _) Pj OE Ot OB ?_;intro v' w3 hown3 hgrow _;obtain⟨gv,capv,rfl⟩:=ownsRow_succ hown3)
 have hru3:Row w3 gv capv (l++[0]):=DU hown3
 have hgv:w1.heap.size+1≤gv:=(hown3.lt gv rfl).1
 have hgl:gv<w3.heap.size:=hru3.lt
 have hB03:On w.heap.size w w3:=(hB02.alloc Ot _).grown hgrow OB (fun k e=>by have e':gu=k:=Option.some.inj e;omega)
 have b3:Bx w3 w.heap.size 25 (.slice N0 0 0):=(hgrow.block _ OB (fun e=>by have e':w.heap.size=gu:=Option.some.inj e;omega)).trans (b2.alloc _)
 have one3:=row_one w3 f
 have hN3:w.heap.size<w3.heap.size:=b3.lt
 clear hgrow hown3 hown hru b2 one1 b1 hB2
 refine⟨trivial,(callsIn_wide.2 (mM (w3.alloc (.cells #[.int .i64 f] 3)) b [f] _ _ ((HB.out.grow hB03).new _) (one3.sl one3.lt) hcb.small fsm Ot Ow)).mono ?_⟩
 rintro e w4 ⟨v,tv,rfl,⟨gb,cv,rfl,hgb,hrv⟩,hcv,hvv,hlv,hB4⟩
 have hgb':w3.heap.size<gb:=by simp at hgb;omega
 have hlv':tv.length≤b.length+2:=by simp at hlv;omega
 have hru4:=(hru3.alloc (.cells #[.int .i64 f] 3)).below hB4 OB
 have b4:=(b3.alloc (.cells #[.int .i64 f] 3)).below hB4 OB
 have hB04:On w.heap.size w w4:=hB03.trans (((Below.refl _ _).alloc Ot _).trans (hB4.mono OB))
 have hN4:w3.heap.size+1≤w4.heap.size:=by have:=hB4.size;simpa using this
 have hgbl:gb<w4.heap.size:=hrv.lt
 clear b3 hru3 one3 hB4 hB03 hB02 hi hz0 hz1 hz2
 have c0:=b4.cell
 have f0:=b4.frozen
 have hla:a.length≤l.length:=by
  rcases Nat.lt_or_ge l.length a.length with h|h
  ·have h1:=bm hcl.small hca.trim h
   have h3:val a*1≤val a*f:=Nat.mul_le_mul_left _ hf1
   rw[hvl,val_one] at h1
   omega
  ·exact h
 have hnot:decide ((l.length:Int)+1<(a.length:Int)+1)=N1:=OB
 gi_wp2_with fail
 gi_loopw [44] (fun _ wr=>wr=((w4.alloc (.cells #[.slice (N3 ⟨gv,0,N0⟩) (l.length+1) capv] 25)).alloc (.cells #[.slice (N3 ⟨gb,0,N0⟩) tv.length cv] 25))) (fun _ _=>0)
 case atStart=>rfl
 case round=>
  subst hrel
  have hvge:val b≤val tv:=by rw[hvv,val_one];exact Nat.le_mul_of_pos_right _ hf1
  have htb:b.length≤tv.length:=by
   rcases Nat.lt_or_ge tv.length b.length with h|h
   ·have:=bm hcv.small hcb.trim h;omega
   ·exact h
  have htl:tv.length≤l.length:=by
   rcases Nat.lt_or_ge l.length tv.length with h|h
   ·have h1:=bm hcl.small hcv.trim h
    rw[hvl,hvv] at h1
    have:val b*val [f]≤val a*val [f]:=Nat.mul_le_mul_right _ hge
    omega
   ·exact h
  obtain⟨mq,hmq⟩:∃mq,l.length+1=mq+tv.length:=⟨l.length+1-tv.length,Ot⟩
  have em:(l.length:Int)+1-tv.length=(mq:Int):=Ot
  have hmk:=iy mq Ot
  rw[←em] at hmk
  have HM:=NW hmq
  have HE:=NW em
  have hlt4:w.heap.size<w4.heap.size:=Ot
  have hne4:¬w.heap.size=w4.heap.size:=Ot
  have hne5:¬w.heap.size=w4.heap.size+1:=Ot
  have hne6:¬w.heap.size=w4.heap.size+1+1:=Ot
  have hl4:w.heap.size<w4.heap.size+1:=Ot
  have hl5:w.heap.size<w4.heap.size+1+1:=Ot
  clear hmq em hnot
  gi_wp2_with(refine⟨trivial,?_⟩;gi_at_call 293;refine(callsIn_wide.2 (eT _ _ _ _)).mono ?_;rintro e w' ⟨rfl,rfl⟩)
  have hmq:=HM.out
  refine ef (gf:=322) (lb:=#[.pointer (N3 ⟨w4.heap.size+3,0,N0⟩)]) rfl (enters_of func322 Ou rfl)
   (eC (w4.heap.size+3) (N3 ⟨w4.heap.size+2,0,N0⟩) mq mq (fun _ _=>True) Ot) (fun k x ⟨_,_,e⟩=>PS)
   (Kb w w4.heap.size gv capv gb cv tv (val a*f) mq (l.length+1)) (fun _ _ _=>False) (fun k W W' ⟨u,q,h⟩ hs=>⟨u,q,h.stays hs OB⟩) (fun c k W W' h hs=>h) (fun k W ⟨u,q,h⟩=>h.back) ?start ?round ?done ?stop
  case start=>
   have hsz:(w4.setCell ⟨w.heap.size,0,N0⟩ (.slice (N3 ⟨w4.heap.size+1+1,0,N0⟩) mq mq)).heap.size=w4.heap.size:=by simp[World.setCell]
   have hz:=mG (((w4.setCell ⟨w.heap.size,0,N0⟩ (.slice (N3 ⟨w4.heap.size+1+1,0,N0⟩) mq mq)).alloc (.cells #[.slice (N3 ⟨gv,0,N0⟩) (l.length+1) capv] 25)).alloc (.cells #[.slice (N3 ⟨gb,0,N0⟩) tv.length cv] 25)) mq Ot
   simp only[Oi,hsz] at hz
   have hsm:Small (l++[0]):=hcl.small.snoc Ov
   refine⟨l++[0],List.replicate mq 0,((((b4.put _).alloc _).alloc _).alloc _).alloc _,(((Bx.at_ hsz).alloc _).alloc _).alloc _,((Bx.at_ (by simp[hsz])).alloc _).alloc _,Bx.at_ (by simp[hsz]),?_,?_,hz.alloc _,Ow,Ow,?_,?_⟩
   ·exact((((hru4.cI OB _).alloc _).alloc _).alloc _).alloc _
   ·exact((((hrv.cI OB _).alloc _).alloc _).alloc _).alloc _
   ·refine Bv.start hsm OB (by rw[kI,hvl,val_one]) (by unfold fv;simp) Ot (uE hcv.trim (by intro h0;rw[h0,List.length_nil] at htb;omega))
   ·have h1:On w.heap.size w (w4.setCell ⟨w.heap.size,0,N0⟩ (.slice (N3 ⟨w4.heap.size+1+1,0,N0⟩) mq mq)):=hB04.setCell (p:=⟨w.heap.size,0,N0⟩) (NZ _) _
    exact(((h1.alloc (by rw[hsz];omega) _).alloc (by simp[hsz];omega) _).alloc (by simp[hsz];omega) _).alloc (by simp[hsz];omega) _
  case round=>
   have hn2:2≤tv.length:=Ot
   have hgw:w.heap.size<gv:=Ot
   have hguN:gv<w4.heap.size:=Ot
   have hgg:gv≠gb:=Ot
   have hm4:l.length+1≤500000:=Ot
   have hv1:1≤fv tv (tv.length-1):=by
    rcases jh tv with rfl|⟨m,d,rfl⟩
    ·exact absurd hn2 Ow
    ·have:=hcv.trim.last
     have e:fv (m++[d]) ((m++[d]).length-1)=d:=by unfold fv;simp
     rw[e];omega
   have hvs:=hcv.small
   clear hvge htb htl hmk HE hla c0 f0 b4 hru4 hrv hcl hvl hvv hcv hll hlv hll' hlv' hgu hgu' hgb hgb' hgv hgl hB04 hB1 hB hN1 hN2 hN3 hN4 ht1 ht2 fsm H HA HB hca hcb hbb hb1 hb2 hc hb1e hbl hge h2 hlen
   intro lp k x W K hk hx hi hK
   obtain⟨v,_,rfl⟩:=hx
   have HK:=NW hK
   clear hK
   gi_wp2
   refine HK.out _ (fun W2 hi2 _=> ?_)
   clear HK hi
   obtain⟨u,q,h⟩:=hi2
   have c1:=h.bq.cell
   have c2:=h.bu.cell
   have c3:=h.bv.cell
   have hlu:=h.lu
   have hlq:=h.lq
   have hdl:=h.dm.len
   have htop:=h.dm.top (v:=tv) Ot hvs rfl Ot rfl
   have hlt:=h.dm.lt Ot
   rw[hlq] at htop hlt
   have HE1:=NW (ve W2 gv capv u tv (N3 ⟨gb,0,N0⟩) cv (mq-1-k) W2.heap.size h.ru (h.rv.sl h.rv.lt) h.dm.small hvs hn2 Ot Ot hv1 htop hlt)
   have h':=NW h
   rw[hlu] at HE1
   have HDL:=NW hdl
   have HLQ:=NW hlq
   have HLU:=NW hlu
   have hml:mq≤500000:=Ot
   clear htop hlt hlu hlq hdl h hmq
   gi_wp2_with(refine⟨trivial,?_⟩;gi_at_call 294;refine(CallsIn.inRound lp (callsIn_wide.2 HE1.out)).mono ?_;clear HE1;rintro e w5 ⟨d,n5,rfl,hd1,hd2,rfl⟩)
   have HD:=NW hd1
   clear hd1
   gi_loopw [10] (fun d wr=>De W2 gv capv tv u (mq-1-k) d wr) (fun d _=>(Oh d).toNat)
   case atStart=>exact⟨d,u,rfl,h'.out.ru,rfl,h'.out.dm.small,fun _ _=>rfl,rfl,HD.out,hd2,(cV.refl _ _).drewN n5⟩
   case round=>
    obtain⟨d',x,rfl,hrel⟩:=hrel
    clear HD hd2
    have e1:=(h'.out.bu.only hrel.only Ot)
    have e2:=(h'.out.bv.only hrel.only Ot)
    have g1:=e1.cell
    have g2:=e2.cell
    have g3:=e1.frozen
    have HT:=NW (Ex wr gv capv x tv (.slice (N3 ⟨gb,0,N0⟩) tv.length cv) (mq-1-k) d' hrel.row ((h'.out.rv.only hrel.only (Ne.symm hgg)).Kx (Ne.symm hgg)) hrel.small hvs (by have:=hrel.len;have:=HLU.out;have:=HM.out;omega) hrel.bound (by have:=hrel.len;have:=HLU.out;omega))
    rw[hrel.len,HLU.out] at HT
    have HR:=NW hrel
    clear hrel
    gi_wp2_with fail
    refine⟨trivial,(CallsIn.inRound lp (callsIn_wide.2 HT.out)).mono ?_⟩
    clear HT
    rintro e w6 ⟨c,y,rfl,ht⟩
    have O6:=HR.out.only.trans ht.2.2.2.2.2.2
    have p1:=h'.out.bq.only O6 Ot
    have p2:=h'.out.bu.only O6 Ot
    have p3:=h'.out.bv.only O6 Ot
    have q1:=p1.cell
    have q2:=p2.cell
    have q2f:=p2.frozen
    have q3:=p3.cell
    by_cases hc0:c=0
    ·subst hc0
     have hn:=h'.out.next hk hvs hgw hguN hgbl hgg hlt4 HR.out ht
     have hd9:=hn.1
     have HN:=NW hn.2
     have z1:=(h'.out.rq.only O6 Ot).cell (j:=mq-1-k) (by rw[h'.out.lq];omega)
     have z2:=(h'.out.rq.only O6 Ot).frozen (mq-1-k)
     have i1:((mq-1-k:Nat):Int)<mq:=Ot
     clear ht O6 p1 p2 p3 hn e1 e2
     gi_wp2_with fail
     exact⟨HN.out.1,_,_,HN.out.2⟩
    ·have hcp:0<c:=Ot
     have hcb:decide (0<c)=Oc:=by simpa using hcp
     have hyl:=ht.2.1
     have hxl:=HR.out.len
     have HRS:=NW (xT w6 gv capv y tv (.slice (N3 ⟨gb,0,N0⟩) tv.length cv) (mq-1-k) d' ht.1 ((h'.out.rv.only O6 (Ne.symm hgg)).Kx (Ne.symm hgg)) ht.2.2.1 hvs (by have:=HLU.out;have:=HM.out;omega) HR.out.bound (by have:=HLU.out;omega))
     rw[hyl,hxl,HLU.out] at HRS
     have HTk:=NW ht
     have HY:Hid (y.length=l.length+1):=by rw[hyl,hxl,HLU.out];exact NW rfl
     have hdb:=HR.out.bound
     clear ht p1 p3 hyl hxl e1 e2 hc0
     gi_wp2_with(refine⟨trivial,?_⟩;gi_at_call 296;refine(CallsIn.inRound lp (callsIn_wide.2 HRS.out)).mono ?_;clear HRS;rintro e w7 ⟨c2,z,rfl,hr7⟩;have hless:=HR.out.less HTk.out hr7 hcp;have hle1:=hless.1;have HL:=NW hless.2;have y2:=p2.only hr7.2.2.2.2.2.2 Ot;have y2c:=y2.cell;have y2f:=y2.frozen;clear hless hr7)
     rw[HY.out]
     have hfin:=HL.out
     have e9:(d':Int)-1=((d'-1:Nat):Int):=Ot
     rw[e9]
     exact⟨⟨d'-1,z,rfl,hfin.row.cI (p:=⟨w4.heap.size,0,N0⟩) OB _,hfin.len,hfin.small,hfin.same,hfin.seg,hfin.lt,hfin.bound,hfin.only.again y2⟩,Oy⟩
  case done=>
   rintro D W hD ⟨u,q,h⟩ hK
   have hsm:=h.dm.small
   have hbl4:0<val b:=Nat.lt_of_lt_of_le (by decide:0<1) (Ok (Nat.one_le_pow _ _ Ov) (uE hcb.trim (by intro h0;rw[h0,List.length_nil] at h2;omega)))
   have hdone:val q=val a/val b∧val u=(val a%val b)*f:=by
    have hd:=h.dm
    rw[hvv,val_one] at hd
    rw[←h.lq] at hd
    exact hd.done hf1 hbl4
   have hT:=NW (gX h.ru h.lu)
   have hru:=h.ru.trimmed
   have hlt:(aj u).length≤l.length+1:=by have:=aI u;have:=h.lu;omega
   have hDS:=NW (pJ W (aj u) (.slice (N3 ⟨gv,0,N0⟩) (aj u).length capv) f (hru.sl hru.lt) (dA hsm).small hf1 hf2 Ot)
   have c2:=h.bu.cell
   have HH:=NW h
   have HDn:=NW hdone
   clear hvge htb htl hmk HE hla c0 f0 b4 hru4 hrv hcl hvl hvv hcv hll hlv hll' hlv' hgu hgu' hgb hgb' hgv hgl hB04 hB1 hB hN1 hN2 hN3 hN4 ht1 ht2 fsm H HA HB hca hcb hbb hb1 hb2 hc hb1e hbl hge h2 h hdone hru hsm hbl4 hmq HM
   gi_wp2_with(first
    |(refine⟨trivial,?_⟩;gi_at_call 291;refine(callsIn_wide.2 hDS.out).mono ?_;clear hDS;rintro e w6 ⟨vq,vr,ql,rl,rfl,⟨gq,cq,rfl,hgq,hrq⟩,hcq,hvq,⟨gr,cr,rfl,hgr,hrr⟩,hcr,hvr,hB6⟩;have p1:=HH.out.bq.below hB6 HH.out.bq.lt;have q1:=p1.cell;have q2:=p1.frozen;have hT2:=NW (gX (HH.out.rq.below hB6 HH.out.rq.lt) HH.out.lq))
    |(refine⟨trivial,?_⟩;gi_at_call 289;have _t:=hT;refine(callsIn_wide.2 hT.out).mono ?_;clear hT;rintro e w' ⟨rfl,rfl⟩)
    |(refine⟨trivial,?_⟩;gi_at_call 289;refine(callsIn_wide.2 hT2.out).mono ?_;clear hT2;rintro e w' ⟨rfl,rfl⟩))
   obtain⟨X,hX⟩:∃X,w6.setCell ⟨w.heap.size,0,N0⟩ (.slice (N3 ⟨w4.heap.size+2,0,N0⟩) (aj q).length mq)=X:=⟨_,rfl⟩
   have hWw:w.heap.size<W.heap.size:=HH.out.bq.lt
   have hDk:w6.heap[D]?=N3 (.deferred (N3 [])):=(hB6.block D (Od.1 hK).1).trans hK
   have k1:X.heap[D]?=N3 (.deferred (N3 [])):=by rw[←hX];exact(KeepsOthers.setCell _ _ _).same D _ hDk rfl
   have k2:Bx X w.heap.size 25 (.slice (N3 ⟨w4.heap.size+2,0,N0⟩) (aj q).length mq):=by rw[←hX];exact p1.put _
   have k3:Row X (w4.heap.size+2) mq (aj q):=by rw[←hX];exact((HH.out.rq.below hB6 HH.out.rq.lt).cI OB _).trimmed
   have k4:Row X gq cq ql:=by rw[←hX];exact hrq.cI OB _
   have k5:On w.heap.size w X:=by rw[←hX];exact(HH.out.low.trans (hB6.mono Ot)).setCell (p:=⟨w.heap.size,0,N0⟩) (NZ _) _
   rw[hX]
   have hs:=al.putObj (n0:=w.heap.size) (.deferred N0) k1 rfl Pp
   have hcl:=hs.cell k2.cell
   refine⟨Ow,.inl ⟨_,_,rfl,run_takeDeferred k1,?_⟩⟩
   have r1:=k3.stays hs
   have r2:=k4.stays hs
   refine⟨.tuple #[.slice (N3 ⟨w4.heap.size+2,0,N0⟩) (aj q).length mq,.slice (N3 ⟨gq,0,N0⟩) ql.length cq],by simp[results,results263,go_sem,hcl],_,_,aj q,ql,rfl,r1.sl r1.lt,dA HH.out.dm.smallq,?_,r2.sl r2.lt,hcq,?_,k5.trans hs.below⟩
   ·rw[eN];exact HDn.out.1
   ·rw[hvq,eN,HDn.out.2,Nat.mul_div_cancel _ hf1]
  case stop=>
   rintro D c k W hD hk h
   exact h.elim
theorem yY(w:NY)(a b:List Nat)(va vb:N2)(ha:aR w w.heap.size va a)(hb:aR w w.heap.size vb b)(hca:Canon a)(hcb:Canon b)(hlen:a.length≤400000)(hb0:b≠[]):
  Of prog 263 #[va,vb] w (ki w a b):=by
 rcases Nat.lt_or_ge (val a) (val b) with hlt|hge
 ·exact xO w a b va vb ha hb hca hcb Ot hlt
 ·match b,hb0 with
  |[d],_=>exact yu w a d va vb ha hb hca hcb Ot hge
  |d::d2::r,_=>exact vk w a _ va vb ha hb hca hcb hlen Ow hge
end
end Go.Proofs.YtnpihidbkhehjaaGreatDoor
namespace Kp
theorem val_inj{a b:List Nat}(ha:Canon a)(hb:Canon b)(h:val a=val b):a=b:=by
 have hl:a.length=b.length:=by
  rcases Nat.lt_trichotomy a.length b.length with hlt|heq|hgt
  ·have:=bm ha.small hb.trim hlt;omega
  ·exact heq
  ·have:=bm hb.small ha.trim hgt;omega
 unfold val at h
 rw[←hl] at h
 have hk:=Lo (fun k _=>ai ha.small k) (fun k _=>ai hb.small k) h
 refine List.ext_getElem hl (fun i h1 h2=> ?_)
 have:=hk i h1
 rwa[jA h1,jA h2] at this
open Classical in
noncomputable def dj(n:Nat):List Nat:=if h:∃l,Canon l∧val l=n then Classical.choose h else []
theorem pS{l:List Nat}{n:Nat}(h:Canon l)(hv:val l=n):dj n=l:=by
 have hx:∃l,Canon l∧val l=n:=⟨l,h,hv⟩
 unfold dj
 rw[dif_pos hx]
 have:=Classical.choose_spec hx
 exact val_inj this.1 h (this.2.trans hv.symm)
end Kp
namespace Go.Proofs.YtnpihidbkhehjaaGreatDoor
section
open Kp
def EJ(l:List Nat):List UInt8×Int:=if 300<(own (ME l)).length then([],4) else(ME l,0)
def fM(w:NY)(r:List UInt8×Int)(e:Ending)(w':NY):Prop:=e= .returned (.tuple #[.string (tx r.1),.int .i64 r.2])∧On w.heap.size w w'
theorem lH(l:List UInt8):(own l).length≤l.length:=by unfold own Lib.trimPrefix;split <;>simp
theorem cH(s:List UInt8)(w:NY):Of prog 206 #[.string (tx s),.string ⟨#[45]⟩] w fun e w'=>e= .returned (.string (tx (own s)))∧w'=w:=by
 have:=strings_TrimPrefix (tx s) (tx [45]) w
 rw[bE,bE] at this
 exact this
def mw(neg:Bool)(l:List Nat):List UInt8×Int:=if 300<(own (AV neg l)).length then([],4) else(AV neg l,0)
theorem yW(l:List Nat):mw N1 l=EJ l:=by unfold mw EJ;rw[CH]
theorem GS(neg:Bool){l:List Nat}(h:Small l):(AV neg l).length≤9*l.length+2:=by
 unfold AV
 split
 ·simp
 ·have:=sU h l.length
  have:=ub neg
  rw[List.length_append];omega
theorem nd(w:NY)(neg:Bool)(l:List Nat)(v:N2)(ha:aR w w.heap.size v l)(hs:Small l)(hlen:l.length≤1000000)(ht:aL w):
  Of prog 264 #[.agg #[.bool neg,v]] w (fM w (mw neg l)):=by
 obtain⟨A,ca,rfl,ha1,ha2,hac⟩:=id ha
 clear hac ha1 ha2
 have hB0:On w.heap.size w (w.alloc (.cells #[.bool neg,.slice A l.length ca] 292)):=(Below.refl _ _).alloc (NZ _) _
 have ha'':aR (w.alloc (.cells #[.bool neg,.slice A l.length ca] 292)) (w.alloc (.cells #[.bool neg,.slice A l.length ca] 292)).heap.size (.slice A l.length ca) l:=ha.new _
 have cw:=NW (zn _ neg l _ ha'' hs hlen (ht.below hB0 (NZ _)))
 have h1:=GS neg hs
 have h2:=lH (AV neg l)
 have HB0:=NW hB0
 clear ha ha'' hs ht hB0
 by_cases h300:300<(own (AV neg l)).length
 ·have HR:=NW (show mw neg l=([],4) by unfold mw;rw[if_pos h300])
  go_enter func264,ntmps264
  go_wp2_with(first|(go_at_call 297;refine cw.out.mono ?_;rintro e w1 ⟨rfl,hB1⟩)|(go_at_call 206;refine(cH _ _).mono ?_;rintro e w2 ⟨rfl,rfl⟩))
  go_ret2
  rw[HR.out]
  exact⟨rfl,HB0.out.trans (hB1.mono HB0.out.size)⟩
 ·have HR:=NW (show mw neg l=(AV neg l,0) by unfold mw;rw[if_neg h300])
  go_enter func264,ntmps264
  go_wp2_with(first|(go_at_call 297;refine cw.out.mono ?_;rintro e w1 ⟨rfl,hB1⟩)|(go_at_call 206;refine(cH _ _).mono ?_;rintro e w2 ⟨rfl,rfl⟩))
  go_ret2
  rw[HR.out]
  exact⟨rfl,HB0.out.trans (hB1.mono HB0.out.size)⟩
theorem wb(w:NY)(l:List Nat)(v:N2)(ha:aR w w.heap.size v l)(hs:Small l)(hlen:l.length≤1000000)(ht:aL w):
  Of prog 264 #[.agg #[.bool N1,v]] w (fM w (EJ l)):=by
 rw[←yW];exact nd w N1 l v ha hs hlen ht
noncomputable def mH(a b:List UInt8):List UInt8×Int:=
 if df a b=0 then(if a.length≤18∧b.length≤18 then(Lib.itoa (Nat.gcd (aC (own a)) (aC (own b)):Nat),0) else EJ (dj (Nat.gcd (aC (own a)) (aC (own b))))) else([],df a b)
theorem hH{a b:List UInt8}(h:df a b=0):jB a=0∧jB b=0:=by
 unfold df at h
 split at h
 ·rename_i h1;exact⟨h1,h⟩
 ·rename_i h1;exact absurd h h1
theorem dP{a:List UInt8}(h:jB a=0):cP a=Oc∧(own a).length≤300:=by
 unfold jB at h
 split at h
 ·rename_i h1
  split at h
  ·omega
  ·exact⟨h1,Ot⟩
 ·omega
theorem dB{a:List UInt8}(h:cP a=Oc):(own a).all gz=Oc:=by
 unfold cP at h
 simp only[Bool.and_eq_true] at h
 exact h.1.1
theorem mh{l:List UInt8}(h:l.all gz=Oc):aC l<10^l.length:=by
 induction l with
 |nil=>decide
 |cons b r ih=>
  simp only[List.all_cons,Bool.and_eq_true] at h
  have h1:=(mu h.1).1
  have h2:=ih h.2
  rw[py,List.length_cons,Nat.pow_succ]
  have:kB b*10^r.length≤9*10^r.length:=Nat.mul_le_mul_right _ Ot
  omega
theorem tq(l:List UInt8):(num l).natAbs=aC (own l):=by unfold num;split <;>simp
theorem DW{l:List UInt8}(h:cP l=Oc)(hl:l.length≤18):(num l).natAbs<1000000000000000000:=by
 rw[tq]
 have h1:=mh (dB h)
 have h2:=lH l
 have:10^(own l).length≤10^18:=Nat.pow_le_pow_right Ov Ot
 exact Nat.lt_of_lt_of_le h1 this
def DK(w:NY)(g:Nat)(x y:N2)(wr:NY):Prop:=
 ∃xi yi:Int,x= .int .i64 xi∧y= .int .i64 yi∧xi.natAbs<1000000000000000000∧yi.natAbs<1000000000000000000∧Nat.gcd xi.natAbs yi.natAbs=g∧On w.heap.size w wr
theorem G2{w wr:NY}{g n:Nat}{xi yi:Int}(h0:¬yi=0)(hy:yi.natAbs<1000000000000000000)(hg:Nat.gcd xi.natAbs yi.natAbs=g)(hB:On w.heap.size w wr):
  DK w g (.int .i64 yi) (.int .i64 (xi.tmod yi)) (wr.drewN n)∧(xi.tmod yi).natAbs<yi.natAbs:=by
 have h1:(xi.tmod yi).natAbs=xi.natAbs%yi.natAbs:=Int.natAbs_tmod _ _
 have h2:xi.natAbs%yi.natAbs<yi.natAbs:=Nat.mod_lt _ Ot
 refine⟨⟨yi,_,rfl,rfl,hy,Ot,?_,below_drewN hB _⟩,Ot⟩
 rw[h1,Nat.gcd_comm,←Nat.gcd_rec,Nat.gcd_comm];exact hg
theorem ID(a b:List UInt8)(w:NY)(ha:a.length≤1000000)(hb:b.length≤1000000)(h:df a b≠0):
  Of prog 229 #[.string (tx a),.string (tx b)] w (fM w (mH a b)):=by
 have HR:=NW (show mH a b=([],df a b) by unfold mH;rw[if_neg h])
 have h':(df a b !=0)=Oc:=O5
 clear h
 go_enter func229,ntmps229
 go_wp2_with(go_at_call 260;refine(fg _ _ _ OD OD).mono ?_;rintro e w1 ⟨rfl,hB1⟩)
 go_ret2
 rw[HR.out]
 exact⟨rfl,hB1⟩
theorem CL(a b:List UInt8)(w:NY)(ha:a.length≤18)(hb:b.length≤18)(h:df a b=0)(ht:aL w):
  Of prog 229 #[.string (tx a),.string (tx b)] w (fM w (mH a b)):=by
 have HR:=NW (show mH a b=(Lib.itoa (Nat.gcd (aC (own a)) (aC (own b)):Nat),0) by unfold mH;rw[if_pos h,if_pos ⟨ha,hb⟩])
 obtain⟨ca,cb⟩:=hH h
 have fa:=(dP ca).1
 have fb:=(dP cb).1
 have h':(df a b !=0)=N1:=O5
 have ha':a.length≤1000000:=Ot
 have hb':b.length≤1000000:=Ot
 have HA:=NW (DW fa ha)
 have HB:=NW (DW fb hb)
 have HT:=NW ht
 clear h ca cb ht
 go_enter func229,ntmps229
 go_wp2_with(first|(go_at_call 260;refine(fg _ _ _ OD OD).mono ?_;rintro e w1 ⟨rfl,hB1⟩)|(go_at_call 261;refine(jW _ _ _ OD OD OD OD).mono ?_;rintro e w2 ⟨rfl,hB2⟩))
 have hB:=hB1.trans (hB2.mono hB1.size)
 go_loopw [7,8] (fun x y wr=>DK w (Nat.gcd (aC (own a)) (aC (own b))) x y wr) (fun _ y _=>(Oh y).natAbs)
 case atStart=>exact⟨_,_,rfl,rfl,HA.out,HB.out,by rw[tq,tq],hB⟩
 case round=>
  obtain⟨xi,yi,rfl,rfl,hx,hy,hg,hBr⟩:=hrel
  by_cases h0:yi=0
  ·subst h0
   rw[Int.natAbs_zero,Nat.gcd_zero_right] at hg
   obtain⟨G,hG⟩:∃G,Nat.gcd (aC (own a)) (aC (own b))=G:=⟨_,rfl⟩
   rw[hG] at hg HR
   have hmx:max xi (-xi)=(G:Int):=Ot
   have hGb:G<1000000000000000000:=Ot
   have ct:=NW (fT (G:Int) wr Ot Ot (HT.out.below hBr (NZ _)))
   clear hg hG hx hy
   go_wp2_with(go_at_call 181;refine ct.out.mono ?_;rintro e w3 ⟨rfl,hB3⟩)
   go_ret2
   rw[HR.out]
   exact⟨rfl,hBr.trans (hB3.mono hBr.size)⟩
  ·have hn:=NW (fun n=>G2 (n:=n) h0 hy hg hBr)
   have h0':(yi !=0)=Oc:=by simpa using h0
   clear hg
   go_wp2
   go_quiet (fail)
   go_roundw
   case rel=>exact⟨_,_,_,_,_,_,_,_,(hn.out _).1,rfl⟩
   case measure=>exact(hn.out 0).2
end
section
open Kp
def JU(v:N2)(w:NY):Nat:=
 match v with
 | .slice (N3 a) n _=>S (fun j=>match w.cell? ⟨a.block,a.off+j,N0⟩ with|some (.int _ x)=>x.toNat|_=>0) n
 |_=>0
theorem AE{w:NY}{b0:Nat}{v:N2}{l:List Nat}(h:aR w b0 v l):JU v w=val l:=by
 obtain⟨A,cap,rfl,_,_,hc⟩:=h
 by_cases hl:0<l.length
 ·obtain⟨b,off,rfl,_,hcell⟩:=hc hl
  unfold JU val
  refine dO (fun j hj=> ?_)
  simp only
  rw[hcell j hj];simp
 ·have:l=[]:=PO
  subst this
  cases A<;>rfl
structure DJ(w:NY)(g:Nat)(x y:N2)(wr:NY):Prop where
 ex:∃a b,aR wr wr.heap.size x a∧aR wr wr.heap.size y b∧Canon a∧Canon b∧a.length≤400000∧b.length≤400000∧Nat.gcd (val a) (val b)=g
 low:On w.heap.size w wr
theorem CZ{r b:List Nat}(hr:Canon r)(hb:Canon b)(h:val r<val b):r.length≤b.length:=by
 rcases Nat.lt_or_ge b.length r.length with hlt|hge
 ·have:=bm hb.small hr.trim hlt;omega
 ·exact hge
theorem Ga(a b:List UInt8)(w:NY)(ha:a.length≤1000000)(hb:b.length≤1000000)(h18:18<a.length∨18<b.length)(h:df a b=0)(ht:aL w):
  Of prog 229 #[.string (tx a),.string (tx b)] w (fM w (mH a b)):=by
 have HR:=NW (show mH a b=EJ (dj (Nat.gcd (aC (own a)) (aC (own b)))) by unfold mH;rw[if_pos h,if_neg Ot])
 obtain⟨ca,cb⟩:=hH h
 obtain⟨fa,la⟩:=dP ca
 obtain⟨fb,lb⟩:=dP cb
 have da:=dB fa
 have db:=dB fb
 have h':(df a b !=0)=N1:=O5
 have hfd:∀(p:Bool) (A:Option Addr) (n c:Nat) (W:NY),(Instr.field 292 (.agg #[.bool p,.slice A n c]) 1).run prog W= .ok (.slice A n c) W:=fun _ _ _ _ _=>Ou
 have HT:=NW ht
 have HLA:=NW la
 have HLB:=NW lb
 clear h ca cb ht fa fb la lb
 go_enter func229,ntmps229
 go_wp2_with(first|(go_at_call 260;refine(fg _ _ _ OD OD).mono ?_;rintro e w1 ⟨rfl,hB1⟩)|(go_at_call 261;refine(pY _ _ _ OD OD OD).mono ?_;rintro e w2 ⟨rfl,hB2⟩)|(go_at_call 262;refine(iM _ _ OD OD).mono ?_;rintro e w3 ⟨v3,l3,rfl,⟨g3,cap3,rfl,hg3,hr3⟩,hc3,hv3,hl3,hB3⟩;have HV3:=NW hv3;clear hv3))
 rename_i wa la ga capa hga hra hca hla hBa HVa _ _
 have hB:=((hB1.trans (hB2.mono hB1.size)).trans (hBa.mono (by have:=hB1.size;have:=hB2.size;omega))).trans (hB3.mono (by have:=hB1.size;have:=hB2.size;have:=hBa.size;omega))
 have hsa:aR w3 w3.heap.size (.slice (N3 ⟨ga,0,N0⟩) la.length capa) la:=(hra.sl hra.lt).grow hB3
 have hsb:aR w3 w3.heap.size (.slice (N3 ⟨g3,0,N0⟩) l3.length cap3) l3:=hr3.sl hr3.lt
 have hst:DJ w (Nat.gcd (aC (own a)) (aC (own b))) (.slice (N3 ⟨ga,0,N0⟩) la.length capa) (.slice (N3 ⟨g3,0,N0⟩) l3.length cap3) w3:=
  ⟨⟨la,l3,hsa,hsb,hca,hc3,by have:=HLA.out;omega,by have:=HLB.out;omega,by rw[HVa.out,HV3.out]⟩,hB⟩
 have HST:=NW hst
 clear hst hsa hsb hra hr3 hla hl3 hca hc3
 go_loopw [10,11] (fun x y wr=>DJ w (Nat.gcd (aC (own a)) (aC (own b))) x y wr) (fun _ y wr=>JU y wr)
 case atStart=>exact HST.out
 case round=>
  obtain⟨⟨a',b',sx,sy,cx,cy,lx,ly,hg⟩,hBr⟩:=hrel
  have hvy:=AE sy
  obtain⟨Ay,cpy,rfl,hy1,hy2,_⟩:=id sy
  obtain⟨Ax,cpx,rfl,hx1,hx2,_⟩:=id sx
  unfold Ol at hy2 hx2
  have HSX:=NW sx
  have HSY:=NW sy
  have HVY:=NW hvy
  by_cases h0:b'=[]
  ·subst h0
   have e1:val ([]:List Nat)=0:=rfl
   rw[e1,Nat.gcd_zero_right] at hg
   have hlim:=pS cx hg
   rw[hlim] at HR
   have cr:=NW (wb wr a' _ sx cx.small Ot (HT.out.below hBr (NZ _)))
   clear hg hlim sx sy hvy
   go_wp2_with(go_at_call 264;refine cr.out.mono ?_;rintro e w4 ⟨rfl,hB4⟩)
   go_ret2
   rw[HR.out]
   exact⟨rfl,hBr.trans (hB4.mono hBr.size)⟩
  ·have hpos:0<b'.length:=List.length_pos_iff.2 h0
   have hpos':decide (0<(b'.length:Int))=Oc:=OH
   have cd:=NW (yY wr a' b' _ _ sx sy cx cy lx h0)
   have HG:=NW hg
   clear sx sy hvy hg
   go_wp2_with(go_at_call 263;refine cd.out.mono ?_;rintro e w4 ⟨vq,vr,ql,rl,rfl,hsq,hcq,hvq,hsr,hcr,hvr,hB4⟩)
   have hlt:val rl<val b':=by rw[hvr];exact Nat.mod_lt _ (Ba cy.trim h0)
   refine⟨⟨⟨b',rl,HSY.out.grow hB4,hsr,cy,hcr,ly,?_,?_⟩,hBr.trans (hB4.mono hBr.size)⟩,?_⟩
   ·have:=CZ hcr cy hlt;omega
   ·rw[hvr,Nat.gcd_comm,←Nat.gcd_rec,Nat.gcd_comm];exact HG.out
   ·rw[AE hsr,HVY.out];exact hlt
theorem GY(a b:List UInt8)(w:NY)(ha:a.length≤1000000)(hb:b.length≤1000000)(ht:aL w):
  Of prog 229 #[.string (tx a),.string (tx b)] w (fM w (mH a b)):=by
 by_cases h:df a b=0
 ·by_cases h18:a.length≤18∧b.length≤18
  ·exact CL a b w h18.1 h18.2 h ht
  ·exact Ga a b w ha hb Ot h ht
 ·exact ID a b w ha hb h
end
section
open Kp
def lead(s:List UInt8):List UInt8:=s.takeWhile gz
def cQ(s:List UInt8):Option (Nat×List UInt8):=
 if(lead s).length=0∨8<(lead s).length∨(1<(lead s).length∧s.head?=N3 48) then N0 else N3 (aC (lead s),s.drop (lead s).length)
theorem mE{s:List UInt8}{k:Nat}(h:(s.take k).all gz=Oc)(hk:k≤s.length):k≤(lead s).length:=by
 induction s generalizing k with
 |nil=>simp at hk;omega
 |cons b r ih=>
  cases k with
  |zero=>omega
  |succ k=>
   simp only[List.take_succ_cons,List.all_cons,Bool.and_eq_true] at h
   have:=ih h.2 (by simpa using hk)
   unfold lead at *
   rw[List.takeWhile_cons_of_pos h.1]
   simpa using this
theorem xb(s:List UInt8):(lead s).all gz=Oc:=by
 unfold lead
 induction s with
 |nil=>rfl
 |cons b r ih=>
  by_cases h:gz b=Oc
  ·rw[List.takeWhile_cons_of_pos h,List.all_cons,h,ih];rfl
  ·rw[List.takeWhile_cons_of_neg h];rfl
theorem sG(s:List UInt8):s.take (lead s).length=lead s:=by
 have:lead s<+:s:=List.takeWhile_prefix _
 obtain⟨t,ht⟩:=this
 have h:(lead s++t).take (lead s).length=lead s:=Ow
 rwa[ht] at h
theorem rU{s:List UInt8}{k:Nat}(h:(s.take k).all gz=Oc)(hk:k<s.length)(hb:gz s[k]=N1):(lead s).length=k:=by
 have h1:=mE h Ot
 rcases Nat.lt_or_ge k (lead s).length with h2|h2
 ·have h3:=xb s
  rw[List.all_eq_true] at h3
  have h4:s[k]∈lead s:=by
   have e:(lead s)[k]=s[k]:=by
    have:(s.take (lead s).length)[k]'OB=s[k]:=Ow
    rw[←this];congr 1;rw[sG]
   rw[←e];exact List.getElem_mem _
  rw[h3 _ h4] at hb;cases hb
 ·omega
theorem wH{s:List UInt8}(h:(s.take s.length).all gz=Oc):(lead s).length=s.length:=by
 have h1:=mE h (NZ _)
 have:(lead s).length≤s.length:=(List.takeWhile_prefix _).length_le
 omega
def Ee(s:List UInt8)(n i:N2):Prop:=
 ∃k:Nat,k≤s.length∧k≤9∧n= .int .i64 (aC (s.take k):Int)∧i= .int .i64 (k:Int)∧(s.take k).all gz=Oc
theorem zi{s:List UInt8}{k:Nat}(hk:k<s.length):aC (s.take (k+1))=aC (s.take k)*10+kB s[k]:=by
 rw[List.take_succ_eq_append_getElem hk,pz]
theorem wG{s:List UInt8}{k:Nat}(hk:k<s.length)(h:(s.take k).all gz=Oc)(hb:gz s[k]=Oc):(s.take (k+1)).all gz=Oc:=by
 rw[List.take_succ_eq_append_getElem hk,List.all_append,h];simp[hb]
theorem zW(b:UInt8):gz b=(decide (48≤(b.toNat:Int))&&decide ((b.toNat:Int)≤57)):=by
 have h:∀n:Fin 256,gz (UInt8.ofNat n.1)=(decide (48≤((UInt8.ofNat n.1).toNat:Int))&&decide (((UInt8.ofNat n.1).toNat:Int)≤57)):=PN
 have:=h ⟨b.toNat,b.toNat_lt⟩
 simpa using this
def jT(s:List UInt8):N2:=match cQ s with|none=> .tuple #[.int .i64 0,.string ⟨#[]⟩,.bool N1]|some (n,r)=> .tuple #[.int .i64 n,.string (tx r),.bool Oc]
theorem kj{s:List UInt8}{k:Nat}(h:(k≤8∧(lead s).length=k)∨(k=9∧8<(lead s).length))(hk:k=0∨8<k∨(1<k∧s.head?=N3 48)):jT s= .tuple #[.int .i64 0,.string ⟨#[]⟩,.bool N1]:=by
 unfold jT cQ
 rw[if_pos]
 rcases h with⟨h1,h2⟩|⟨h1,h2⟩
 ·rw[h2];omega
 ·exact .inr (.inl h2)
theorem kv{s:List UInt8}{k:Nat}(h:(k≤8∧(lead s).length=k)∨(k=9∧8<(lead s).length))(hk:¬(k=0∨8<k∨(1<k∧s.head?=N3 48))):jT s= .tuple #[.int .i64 (aC (s.take k)),.string (tx (s.drop k)),.bool Oc]:=by
 unfold jT cQ
 rcases h with⟨h1,h2⟩|⟨h1,h2⟩
 ·rw[if_neg (by rw[h2];exact hk),←sG s,h2]
  simp
 ·omega
theorem jr{s:List UInt8}{h:0<(tx s).size}(h48:(((tx s)[0]'h).toNat:Int)=48):s.head?=N3 48:=by
 cases s with
 |nil=>simp[av] at h
 |cons b r=>simp only[List.head?_cons];rw[I9 (c:=b) h48]
theorem nY{s:List UInt8}{h:0<(tx s).size}(h48:¬(((tx s)[0]'h).toNat:Int)=48):¬s.head?=N3 48:=by
 cases s with
 |nil=>simp[av] at h
 |cons b r=>
  simp only[List.head?_cons,Option.some.injEq]
  intro e;subst e;exact h48 rfl
theorem lF(s:List UInt8)(k:Nat):(tx s).extract k s.length=tx (s.drop k):=by
 unfold tx
 rw[Lib.extract_eq]
 congr 2
 rw[List.take_of_length_le];simp
theorem ng (s : List UInt8) (w : NY) (hs : s.length ≤ 1000000) :
    Of prog 258 #[.string (tx s)] w fun e w' => e = .returned (jT s) ∧ On w.heap.size w w' := by
  go_enter func258, ntmps258
  go_wp2
  go_loop [5, 6] (fun n i => Ee s n i) (fun _ i => ((10 : Int) - Oh i).toNat)
  case atStart => exact ⟨0, Ot, Ot, rfl, rfl, rfl⟩
  case round =>
    obtain ⟨k, hk, hk9, rfl, rfl, hall⟩ := hrel
    by_cases hgo : k < s.length ∧ k ≤ 8 ∧ ∃ h : k < s.length, gz (s[k]'h) = Oc
    · obtain ⟨hlt, hk8, _, hd⟩ := hgo
      have hb : k < (tx s).size := by rw [av]; exact hlt
      have hx : (tx s)[k]'hb = s[k] := rfl
      have hdl := mu hd
      have d1 : 48 ≤ (((tx s)[k]'hb).toNat : Int) := by rw [hx]; omega
      have d2 : (((tx s)[k]'hb).toNat : Int) ≤ 57 := by rw [hx]; omega
      have d3 : ((((tx s)[k]'hb).toNat : Int) - 48) % 256 = (kB s[k] : Int) := by rw [hx]; unfold kB; omega
      have hnb := mh hall
      have hnb2 : aC (s.take k) < 1000000000 := Nat.lt_of_lt_of_le hnb (show 10 ^ (s.take k).length ≤ 10 ^ 9 from Nat.pow_le_pow_right Ov (by rw [List.length_take]; omega))
      have hnx : Ee s (.int .i64 (10 * (aC (s.take k) : Int) + ((((tx s)[k]'hb).toNat : Int) - 48))) (.int .i64 ((k : Int) + 1)) := ⟨k + 1, Ot, Ot, by rw [zi hlt, hx]; congr 1; unfold kB; omega, Ow, wG hlt hall hd⟩
      have HNX := NW hnx
      have hd10 : kB s[k] < 10 := hdl.1
      clear hnx hnb hdl hx hall hd
      go_wp2
      exact ⟨HNX.out, OP⟩
    · have hL : (k ≤ 8 ∧ (lead s).length = k) ∨ (k = 9 ∧ 8 < (lead s).length) := by
        by_cases h9 : k = 9
        · exact .inr ⟨h9, by have := mE hall hk; omega⟩
        · refine .inl ⟨Ot, ?_⟩
          by_cases hlt : k < s.length
          · refine rU hall hlt ?_
            cases hd : gz s[k] with
            | false => rfl
            | true => exact absurd ⟨hlt, Ot, hlt, hd⟩ hgo
          · have e : k = s.length := by omega
            rw [e] at hall; rw [e]; exact wH hall
      have hstop : k < s.length → k ≤ 8 → ∃ h : k < s.length, gz (s[k]'h) = N1 := fun hlt h8 => ⟨hlt, by
        cases hd : gz s[k] with
        | false => rfl
        | true => exact absurd ⟨hlt, h8, hlt, hd⟩ hgo⟩
      have HL := NW hL
      have HALL := NW hall
      clear hgo hL hall
      have hwhy : (¬ k < s.length) ∨ (k = 9 ∧ k < s.length) ∨ (k ≤ 8 ∧ ∃ h : k < (tx s).size, (((tx s)[k]'h).toNat : Int) < 48) ∨ (k ≤ 8 ∧ ∃ h : k < (tx s).size, 57 < (((tx s)[k]'h).toNat : Int)) := by
        by_cases h1 : k < s.length
        · by_cases h2 : k ≤ 8
          · obtain ⟨_, hdb⟩ := hstop h1 h2
            have h1' : k < (tx s).size := by rw [av]; exact h1
            rw [zW] at hdb
            simp only [Bool.and_eq_false_iff, decide_eq_false_iff_not] at hdb
            rcases hdb with h | h
            · exact .inr (.inr (.inl ⟨h2, h1', by show ((s[k]).toNat : Int) < 48; omega⟩))
            · exact .inr (.inr (.inr ⟨h2, h1', by show 57 < ((s[k]).toNat : Int); omega⟩))
          · exact .inr (.inl ⟨Ot, h1⟩)
        · exact .inl h1
      clear hstop
      rcases hwhy with hw | ⟨hw1, hw2⟩ | ⟨hw1, hw2, hw3⟩ | ⟨hw1, hw2, hw3⟩
      · skip
        go_wp2
        all_goals first
          | (have hr : k = 0 ∨ 8 < k ∨ (1 < k ∧ s.head? = N3 48) := by
               first
                 | omega
                 | (rename_i h; simp only [beq_iff_eq] at h; omega)
                 | (rename_i h; rcases h with (h | h) | h
                    · simp only [beq_iff_eq] at h; omega
                    · omega
                    · exact .inr (.inr ⟨Ot, jr O5⟩))
                 | (rename_i h _; rcases h with (h | h) | h
                    · simp only [beq_iff_eq] at h; omega
                    · omega
                    · exact .inr (.inr ⟨Ot, jr O5⟩))
                 | (rename_i h _ _; simp only [beq_iff_eq] at h; omega)
                 | (rename_i h _; simp only [beq_iff_eq] at h; omega)
                 | (rename_i h _ _ _; simp only [beq_iff_eq] at h; omega)
                 | (rename_i h _ _ _ _; simp only [beq_iff_eq] at h; omega)
             exact bodyPost_ret (v := jT s) (by rw [kj HL.out hr]; simp [results, results258, go_sem]) rfl ⟨rfl, Below.refl _ _⟩)
          | (have hr : ¬ (k = 0 ∨ 8 < k ∨ (1 < k ∧ s.head? = N3 48)) := by
               first
                 | omega
                 | (rename_i h _ _; have h48 := nY (s := s) (by simpa using h.2); rintro (h1 | h1 | ⟨_, h1⟩) <;> first | omega | exact h48 h1)
             go_quiet (fail)
             go_wp2
             exact bodyPost_ret (v := jT s) (by rw [kv HL.out hr]; simp [lF, results, results258, go_sem]) rfl ⟨rfl, below_drewN (Below.refl _ _) _⟩)
      · have hw3 : 8 < (k : Int) := by omega
        clear hw1
        go_wp2
        all_goals first
          | (have hr : k = 0 ∨ 8 < k ∨ (1 < k ∧ s.head? = N3 48) := by
               first
                 | omega
                 | (rename_i h; simp only [beq_iff_eq] at h; omega)
                 | (rename_i h; rcases h with (h | h) | h
                    · simp only [beq_iff_eq] at h; omega
                    · omega
                    · exact .inr (.inr ⟨Ot, jr O5⟩))
                 | (rename_i h _; rcases h with (h | h) | h
                    · simp only [beq_iff_eq] at h; omega
                    · omega
                    · exact .inr (.inr ⟨Ot, jr O5⟩))
                 | (rename_i h _ _; simp only [beq_iff_eq] at h; omega)
                 | (rename_i h _; simp only [beq_iff_eq] at h; omega)
                 | (rename_i h _ _ _; simp only [beq_iff_eq] at h; omega)
                 | (rename_i h _ _ _ _; simp only [beq_iff_eq] at h; omega)
             exact bodyPost_ret (v := jT s) (by rw [kj HL.out hr]; simp [results, results258, go_sem]) rfl ⟨rfl, Below.refl _ _⟩)
          | (have hr : ¬ (k = 0 ∨ 8 < k ∨ (1 < k ∧ s.head? = N3 48)) := by
               first
                 | omega
                 | (rename_i h _ _; have h48 := nY (s := s) (by simpa using h.2); rintro (h1 | h1 | ⟨_, h1⟩) <;> first | omega | exact h48 h1)
             go_quiet (fail)
             go_wp2
             exact bodyPost_ret (v := jT s) (by rw [kv HL.out hr]; simp [lF, results, results258, go_sem]) rfl ⟨rfl, below_drewN (Below.refl _ _) _⟩)
      · have hw4 : k < s.length := by rw [av] at hw2; exact hw2
        go_wp2
        all_goals first
          | (have hr : k = 0 ∨ 8 < k ∨ (1 < k ∧ s.head? = N3 48) := by
               first
                 | omega
                 | (rename_i h; simp only [beq_iff_eq] at h; omega)
                 | (rename_i h; rcases h with (h | h) | h
                    · simp only [beq_iff_eq] at h; omega
                    · omega
                    · exact .inr (.inr ⟨Ot, jr O5⟩))
                 | (rename_i h _; rcases h with (h | h) | h
                    · simp only [beq_iff_eq] at h; omega
                    · omega
                    · exact .inr (.inr ⟨Ot, jr O5⟩))
                 | (rename_i h _ _; simp only [beq_iff_eq] at h; omega)
                 | (rename_i h _; simp only [beq_iff_eq] at h; omega)
                 | (rename_i h _ _ _; simp only [beq_iff_eq] at h; omega)
                 | (rename_i h _ _ _ _; simp only [beq_iff_eq] at h; omega)
             exact bodyPost_ret (v := jT s) (by rw [kj HL.out hr]; simp [results, results258, go_sem]) rfl ⟨rfl, Below.refl _ _⟩)
          | (have hr : ¬ (k = 0 ∨ 8 < k ∨ (1 < k ∧ s.head? = N3 48)) := by
               first
                 | omega
                 | (rename_i h _ _; have h48 := nY (s := s) (by simpa using h.2); rintro (h1 | h1 | ⟨_, h1⟩) <;> first | omega | exact h48 h1)
             go_quiet (fail)
             go_wp2
             exact bodyPost_ret (v := jT s) (by rw [kv HL.out hr]; simp [lF, results, results258, go_sem]) rfl ⟨rfl, below_drewN (Below.refl _ _) _⟩)
      · have hw4 : k < s.length := by rw [av] at hw2; exact hw2
        go_wp2
        all_goals first
          | (have hr : k = 0 ∨ 8 < k ∨ (1 < k ∧ s.head? = N3 48) := by
               first
                 | omega
                 | (rename_i h; simp only [beq_iff_eq] at h; omega)
                 | (rename_i h; rcases h with (h | h) | h
                    · simp only [beq_iff_eq] at h; omega
                    · omega
                    · exact .inr (.inr ⟨Ot, jr O5⟩))
                 | (rename_i h _; rcases h with (h | h) | h
                    · simp only [beq_iff_eq] at h; omega
                    · omega
                    · exact .inr (.inr ⟨Ot, jr O5⟩))
                 | (rename_i h _ _; simp only [beq_iff_eq] at h; omega)
                 | (rename_i h _; simp only [beq_iff_eq] at h; omega)
                 | (rename_i h _ _ _; simp only [beq_iff_eq] at h; omega)
                 | (rename_i h _ _ _ _; simp only [beq_iff_eq] at h; omega)
             exact bodyPost_ret (v := jT s) (by rw [kj HL.out hr]; simp [results, results258, go_sem]) rfl ⟨rfl, Below.refl _ _⟩)
          | (have hr : ¬ (k = 0 ∨ 8 < k ∨ (1 < k ∧ s.head? = N3 48)) := by
               first
                 | omega
                 | (rename_i h _ _; have h48 := nY (s := s) (by simpa using h.2); rintro (h1 | h1 | ⟨_, h1⟩) <;> first | omega | exact h48 h1)
             go_quiet (fail)
             go_wp2
             exact bodyPost_ret (v := jT s) (by rw [kv HL.out hr]; simp [lF, results, results258, go_sem]) rfl ⟨rfl, below_drewN (Below.refl _ _) _⟩)
end
end Go.Proofs.YtnpihidbkhehjaaGreatDoor
