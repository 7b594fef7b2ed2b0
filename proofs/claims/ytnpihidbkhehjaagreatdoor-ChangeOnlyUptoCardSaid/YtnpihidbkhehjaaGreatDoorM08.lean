/- ChangeOnly of kingpostlaw58: part 8 of its proof (merged and shortened by program). -/
import Derived.Test.YtnpihidbkhehjaaGreatDoorM07
set_option linter.unusedVariables false
set_option linter.unusedSimpArgs false
set_option linter.defProp false
set_option maxHeartbeats 8000000
set_option maxRecDepth 100000
open Go.RowKit Go.Shelf Go.Proofs.Tryz
open Array renaming getElem?_eq_some_iff→Od
open Bool renaming false→N1,true→Oc
open Go renaming World→NY,Value→N2,undef→N7,wpOp_step→Ob,Calls→Of,maxLen→Ol,TypeId→Oo
open Go.AllReady renaming cons→Oj,nil→Oq
open Go.IntKind renaming i64→Oe
open Go.IntWalk renaming i64_in→Om
open Go.Lib renaming hid→NW
open Go.RowKit renaming intOf→Oh,Below→On
open Go.World renaming size_alloc→Oi
open List renaming getD_eq_getElem?_getD→N8,length_map→N9,getElem?_eq_getElem→Oa
open Nat renaming le_refl→NZ,mul_comm→Og,le_trans→Ok
open Option renaming none→N0,some→N3
open Go.Proofs.YtnpihidbkhehjaaGreatDoor
namespace Go.Proofs.YtnpihidbkhehjaaGreatDoor
section
open Kp
attribute [local go_sem] PT P6 Qv Qj P8 P9 P3 P5 PX PZ P4 PW PV
theorem Gl.drew{w:NY}(h:Gl w):Gl w.drew:=h.keep (B:=9) (Below.refl 9 w).drew (NZ _)
theorem DE(n:Int):(ti n).length≤16:=by
 unfold ti
 repeat' split
 all_goals decide
theorem Ev(B b:Nat)(e:Ed)(ga:Option Addr)(gl gc:Nat)(w:NY)(h:j9 B b 0 0 [] w)(hs:Ea e)(hk:e.kind=12)(hg:Gl w)(hB:9≤B)(hBw:B≤w.heap.size):
  Of prog 61 #[nZ b,.agg (aG e (.slice ga gl gc))] w (Au B b e w):=by
 have k1:(e.kind==1)=N1:=O1
 have k2:(e.kind==2)=N1:=O1
 have k3:(e.kind==3)=N1:=O1
 have k4:(e.kind==4)=N1:=O1
 have k5:(e.kind==5)=N1:=O1
 have k6:(e.kind==6)=N1:=O1
 have k7:(e.kind==7)=N1:=O1
 have k8:(e.kind==8)=N1:=O1
 have k9:(e.kind==9)=N1:=O1
 have k10:(e.kind==10)=N1:=O1
 have k11:(e.kind==11)=N1:=O1
 have k12:(e.kind==12)=Oc:=O1
 have HI:=NW (show gh e=[e.index] by unfold gh;rw[hk];simp)
 have HNM:=NW (show numsOf e=[] by unfold numsOf;rw[hk];simp)
 have HH:=NW (show lB e=[eS,ti e.number] by unfold lB;rw[hk];simp)
 have HIN:=NW (show∀n∈([e.index]:List Int),aN n by have:=hs.ints;rw[HI.out] at this;exact this)
 have hrl:=DE e.number
 have hbl:=h.lt
 have HA:=NW (h.alloc (.cells (aG e (.slice ga gl gc)) 50))
 have E0:=NW (fj.new w e (.slice ga gl gc))
 have HK0:=NW (aK.alloc (B:=B) (b:=b) w hBw (.cells (aG e (.slice ga gl gc)) 50))
 have HG:=NW hg
 clear h hs hg hk
 go_enter func61,ntmps61
 go_upto_region 3 with(go_at_call 117;refine(gM B b 0 0 [] eS _ HA.out Ov OB).mono ?_;rintro r W1 ⟨rfl,hw1,hk1⟩;have E1:=NW (E0.out.bd hk1 Ot);have ec1:=fun i=>E1.out.cell i;have hz1:=hk1.low.size;simp only[Oi] at hz1;have HW1:=NW hw1;have HK1:=NW (HK0.out.trans hk1);clear hw1 hk1)
 go_region_with (first
  |(go_at_call 59;go_loud (refine(nA _).mono ?_;rintro r W2 ⟨rfl,hW2⟩;have HB2:=NW (show On W1.heap.size W1 W2 by rw[hW2];exact(Below.refl _ W1).drew.alloc (NZ _) _);have hlk:=wM W2 W1.heap.size 6 (by rw[hW2];exact NY.alloc_heap_new W1.drew _) e.number N1;have E2:=NW (E1.out.below HB2.out E1.out.lt);have ec2:=fun i=>E2.out.cell i;have hz2:=HB2.out.size;simp only[Bool.false_eq_true,if_false] at hlk;clear hW2))
  |(go_at_call 117;go_loud (refine(gM B b 0 0 _ (ti e.number) _ (HW1.out.below HB2.out) (by show 6+_≤_;omega) Ot).mono ?_;rintro r W3 ⟨rfl,hw3,hk3⟩;have E3:=NW (E2.out.bd hk3 Ot);have ec3:=fun i=>E3.out.cell i;have hz3:=hk3.low.size;have HW3:=NW hw3;have HK3:=NW ((HK1.out.trans (aK.aH HB2.out Ot)).trans hk3);clear hw3 hk3)))
 all_goals
  go_wp2_with(go_at_call 118;go_must(refine(rY B b _ 3 0 0 _ [e.index] _ _ (HW3.out.alloc _) (bO.new W3 _ (Jw [e.index])) (by have:=HW3.out.lt;omega) Ov HIN.out (by have:=xQ (lS [] eS) (ti e.number);have h4:(lS [] eS).length=6:=rfl;show _+21*1≤_;omega) OB ((HG.out.keep HK3.out.low hB).keep ((Below.refl _ _).alloc (NZ _) _) Ot) hB).mono ?_);rintro r W4 ⟨rfl,hw4,hk4⟩)
  go_end0
  refine⟨rfl,?_,(HK3.out.trans (aK.alloc W3 Ot _)).trans hk4⟩
  rw[HI.out,HNM.out]
  unfold fL
  rw[HI.out,HNM.out,HH.out]
  simp only[List.append_nil]
  exact hw4
end
section
open Kp
structure eF(B N b:Nat)(r:nN)(w:NY):Prop where
 lo:B≤b
 hi:b<N
 ex:∃sb off cap,w.heap[b]?=N3 (.cells #[.slice (N3 ⟨sb,off,N0⟩) r.1.length cap,.bool r.2] 117 (0,0))∧sb≠b∧sb<N∧r.1.length≤cap∧cap≤1000000∧
  (∃cur:Array N2,w.heap[sb]?=N3 (.cells cur 9 (0,0)))∧∀j (hj:j<r.1.length),w.cell? ⟨sb,off+j,N0⟩=N3 (.string (tx (r.1[j]'hj)))
 len:∀x∈r.1,x.length≤100000
theorem eF.cI{B N b:Nat}{r:nN}{w:NY}(h:eF B N b r w){p:Addr}(hp:N≤p.block)(x:N2):eF B N b r (w.setCell p x):=by
 obtain⟨lo,hi,⟨sb,off,cap,h1,h2,h3,h4,h5,⟨cur,h7⟩,h8⟩,hl⟩:=h
 exact⟨lo,hi,⟨sb,off,cap,(Below.heap_setCell w p x b Ot).trans h1,h2,h3,h4,h5,⟨cur,(Below.heap_setCell w p x sb Ot).trans h7⟩,fun j hj=>by
  rw[World.cell?_setCell_other]
  ·exact h8 j hj
  ·intro e
   have e1:p.block=sb:=congrArg Addr.block e
   omega⟩,hl⟩
structure be(B b:Nat)(w w':NY):Prop where
 low:On B w w'
 others:∀k,k<w.heap.size→k≠b→w'.heap[k]?=w.heap[k]?
theorem be.refl(B b:Nat)(w:NY):be B b w w:=⟨Below.refl _ _,fun _ _ _=>rfl⟩
theorem be.trans{B b:Nat}{u v w:NY}(h:be B b u v)(k:be B b v w):be B b u w:=
 ⟨h.low.trans k.low,fun j hj hb=>(k.others j (Nat.lt_of_lt_of_le hj h.low.size) hb).trans (h.others j hj hb)⟩
theorem be.aH{B b:Nat}{w w':NY}(h:On w.heap.size w w')(hB:B≤w.heap.size):be B b w w':=⟨h.mono hB,fun k hk _=>h.block k hk⟩
theorem be.set{B b:Nat}(w:NY)(hB:B≤b)(i:Nat)(x:N2):be B b w (w.setCell ⟨b,i,N0⟩ x):=
 ⟨(Below.refl _ _).setCell (p:=⟨b,i,N0⟩) hB _,fun k _ hk=>Below.heap_setCell w ⟨b,i,N0⟩ x k hk⟩
theorem eF.below{B N b:Nat}{r:nN}{w w':NY}(h:eF B N b r w)(hb:On w.heap.size w w'):eF B N b r w':=by
 obtain⟨lo,hi,⟨sb,off,cap,h1,h2,h3,h4,h5,⟨cur,h7⟩,h8⟩,hl⟩:=h
 have l1:b<w.heap.size:=(Od.1 h1).1
 have l2:sb<w.heap.size:=(Od.1 h7).1
 exact⟨lo,hi,⟨sb,off,cap,(hb.block b l1).trans h1,h2,h3,h4,h5,⟨cur,(hb.block sb l2).trans h7⟩,fun j hj=>(hb.cell l2).trans (h8 j hj)⟩,hl⟩
theorem eF.lt{B N b:Nat}{r:nN}{w:NY}(h:eF B N b r w):b<w.heap.size:=by
 obtain⟨lo,hi,⟨sb,off,cap,h1,_⟩,hl⟩:=h
 exact(Od.1 h1).1
def Aj(B N b:Nat)(v:N2)(r:nN)(w:NY)(e:Ending)(w':NY):Prop:=e= .returned v∧eF B N b r w'∧be B b w w'
theorem px(B N b:Nat)(r:nN)(w:NY)(h:eF B N b r w):
  Of prog 122 #[nZ b] w (Aj B N b (.string (tx (rW r).1)) (rW r).2 w):=by
 obtain⟨ws,wrong⟩:=r
 obtain⟨lo,hi,⟨sb,off,cap,h1,h2,h3,h4,h5,⟨cur,h7⟩,h8⟩,hl⟩:=h
 have X:dS w b 117 (.slice (N3 ⟨sb,off,N0⟩) ws.length cap) (.bool wrong):=h1
 have c0:=X.cell0
 have c1:=X.dv
 have f0:=X.frozen 0
 have f1:=X.frozen 1
 cases ws with
 |nil=>
  have HX:=NW X
  have HS:=NW (show eF B N b ([],Oc) (w.setCell ⟨b,1,N0⟩ (.bool Oc)) from⟨lo,hi,⟨sb,off,cap,X.nK _,h2,h3,h4,h5,⟨cur,(Below.heap_setCell w ⟨b,1,N0⟩ _ sb h2).trans h7⟩,fun j hj=>absurd hj Ow⟩,hl⟩)
  clear h1 X h7 h8 hl
  go_enter func122,ntmps122
  go_wp2
  go_ret
  exact⟨rfl,HS.out,be.set w lo 1 _⟩
 |cons s t=>
  have hc:=h8 0 Ow
  simp only[List.getElem_cons_zero,Nat.add_zero] at hc
  have h4':t.length+1≤cap:=by simpa using h4
  by_cases hcap:cap=1
  ·subst hcap
   have ht0:t=[]:=List.length_eq_zero_iff.1 Ot
   subst ht0
   have HS:=NW (show eF B N b ([],wrong) (w.setCell ⟨b,0,N0⟩ (.slice (N3 ⟨sb,off,N0⟩) 0 0)) from⟨lo,hi,⟨sb,off,0,X.jq _,h2,h3,Ow,Ot,⟨cur,(Below.heap_setCell w ⟨b,0,N0⟩ _ sb h2).trans h7⟩,fun j hj=>absurd hj Ow⟩,fun x hx=>by cases hx⟩)
   clear h1 X h7 h8 hl h4
   go_enter func122,ntmps122
   go_wp2
   go_ret
   exact⟨rfl,HS.out,be.set w lo 0 _⟩
  ·have HS:=NW (show eF B N b (t,wrong) (w.setCell ⟨b,0,N0⟩ (.slice (N3 ⟨sb,off+1,N0⟩) t.length (cap-1))) from⟨lo,hi,⟨sb,off+1,cap-1,X.jq _,h2,h3,by show t.length≤_;omega,Ot,⟨cur,(Below.heap_setCell w ⟨b,0,N0⟩ _ sb h2).trans h7⟩,fun j hj=>by
    have:=h8 (j+1) (by simp;exact hj)
    simp only[List.getElem_cons_succ] at this
    rw[show off+1+j=off+(j+1) by omega]
    rw[World.cell?_setCell_other]
    ·exact this
    ·intro e;exact h2 (congrArg Addr.block e).symm⟩,fun x hx=>hl x (List.mem_cons_of_mem _ hx)⟩)
   have hcap0:(cap-1==0)=N1:=OF
   have hcap1:¬cap-1=0:=Ot
   clear h1 X h7 h8 hl h4
   go_enter func122,ntmps122
   go_wp2
   go_ret
   exact⟨rfl,HS.out,be.set w lo 0 _⟩
def JJ(w:NY)(s:By)(e:Ending)(w':NY):Prop:=
 ∃ev,e= .returned (.tuple #[.int .i64 (jV s).1,ev])∧(((jV s).2=N1∧ev= .nilIface)∨((jV s).2=Oc∧∃t p,ev= .iface t p))∧On w.heap.size w w'
theorem Fh(s:By)(w:NY)(hs:s.length≤100000)(hg:Gl w):Of prog 185 #[.string (tx s)] w (JJ w s):=by
 cases ha:Lib.atoiAll s
 ·rename_i v
  have hv:jV s=(v,N1):=by unfold jV;rw[ha]
  refine(strconv_Atoi_ok (tx s) PL v (by rw[bE];exact ha) w).mono ?_
  rintro e w' ⟨rfl,hw⟩
  refine⟨_,by rw[hv],.inl ⟨by rw[hv],rfl⟩,?_⟩
  rcases hw with rfl|⟨t,rfl⟩
  ·exact Below.refl _ _
  ·exact Lib.bytesWorld_below _ _ _
 ·have hv:jV s=(0,Oc):=by unfold jV;rw[ha]
  obtain⟨tp,p,hvar⟩:=hg.syn
  refine(strconv_Atoi_syntax_var (tx s) PL (by rw[bE];exact ha.trans rfl) tp p w hvar).mono ?_
  rintro e w' ⟨N,rfl,_,_,hB⟩
  exact⟨_,by rw[hv],.inr ⟨by rw[hv],_,_,rfl⟩,hB⟩
 ·have hv:jV s=(Lib.atoiSat s,Oc):=by unfold jV;rw[ha]
  obtain⟨tp,p,hvar⟩:=hg.rng
  refine(strconv_Atoi_range_var (tx s) PL (by rw[bE];exact ha) tp p w hvar).mono ?_
  rintro e w' ⟨N,rfl,_,_,hB⟩
  exact⟨_,by rw[hv,bE],.inr ⟨by rw[hv],_,_,rfl⟩,hB⟩
theorem eF.Eu{B N b:Nat}{r:nN}{w:NY}(h:eF B N b r w)(x:Bool):eF B N b (r.1,x) (w.setCell ⟨b,1,N0⟩ (.bool x)):=by
 obtain⟨lo,hi,⟨sb,off,cap,h1,h2,h3,h4,h5,⟨cur,h7⟩,h8⟩,hl⟩:=h
 have X:dS w b 117 (.slice (N3 ⟨sb,off,N0⟩) r.1.length cap) (.bool r.2):=h1
 exact⟨lo,hi,⟨sb,off,cap,X.nK _,h2,h3,h4,h5,⟨cur,(Below.heap_setCell w ⟨b,1,N0⟩ _ sb h2).trans h7⟩,fun j hj=>by
  rw[World.cell?_setCell_other]
  ·exact h8 j hj
  ·intro e;exact h2 (congrArg Addr.block e).symm⟩,hl⟩
theorem eF.cells{B N b:Nat}{r:nN}{w:NY}(h:eF B N b r w):w.cell? ⟨b,1,N0⟩=N3 (.bool r.2)∧w.frozen? ⟨b,1,N0⟩=N1∧∃A c,w.cell? ⟨b,0,N0⟩=N3 (.slice A r.1.length c):=by
 obtain⟨lo,hi,⟨sb,off,cap,h1,_⟩,hl⟩:=h
 have X:dS w b 117 (.slice (N3 ⟨sb,off,N0⟩) r.1.length cap) (.bool r.2):=h1
 exact⟨X.dv,X.frozen 1,_,_,X.cell0⟩
theorem Kr{B N b:Nat}{r:nN}{w:NY}(h:eF B N b r w):(rW r).1.length≤100000:=by
 obtain⟨ws,x⟩:=r
 cases ws with
 |nil=>simp[rW]
 |cons s t=>exact h.len s (List.mem_cons_self ..)
theorem Cx(B N b:Nat)(r:nN)(w:NY)(h:eF B N b r w)(hg:Gl w)(hB:9≤B)(hBw:B≤w.heap.size):
  Of prog 123 #[nZ b] w (Aj B N b (.int .i64 (rI r).1) (rI r).2 w):=by
 have hc:=NW (px B N b r w h)
 have hl:=Kr h
 have hnil:=fun W=>run_eql_nil_nil (P:=prog) W 220 Ou
 have HG:=NW hg
 have lo:=h.lo
 clear h hg
 go_enter func123,ntmps123
 go_upto_region 2 with(first
  |(go_at_call 122;refine hc.out.mono ?_;rintro e w1 ⟨rfl,h1,h2⟩;have H1:=NW h1;have K1:=NW h2;clear h1 h2)
  |(go_at_call 185;refine(Fh _ _ hl (HG.out.keep K1.out.low hB)).mono ?_;rintro e w2 ⟨ev,rfl,hev,hB2⟩;have H2:=NW (H1.out.below hB2);have K2:=NW (K1.out.trans (be.aH hB2 (by have:=K1.out.low.size;omega)));have HEV:=NW hev;clear hev))
 obtain⟨c1,f1,_⟩:=H2.out.cells
 have HS:=NW (fun x=>(H2.out.Eu x))
 cases hr:(rW r).2.2 with
 |true=>
  have HR:=NW (show(rI r).2=((rW r).2.1,Oc) by unfold rI;rw[hr];rfl)
  rw[hr] at c1
  go_wp2
  go_ret
  exact⟨rfl,by rw[HR.out];exact HS.out Oc,K2.out.trans (be.set _ lo 1 _)⟩
 |false=>
  rw[hr] at c1
  rcases HEV.out with⟨hv,rfl⟩|⟨hv,t,p,rfl⟩
  ·have HR:=NW (show(rI r).2=((rW r).2.1,N1) by unfold rI;rw[hr,hv];rfl)
   clear HEV
   go_wp2
   go_ret
   exact⟨rfl,by rw[HR.out];exact HS.out N1,K2.out.trans (be.set _ lo 1 _)⟩
  ·have HR:=NW (show(rI r).2=((rW r).2.1,Oc) by unfold rI;rw[hr,hv];rfl)
   clear HEV
   go_wp2
   go_ret
   exact⟨rfl,by rw[HR.out];exact HS.out Oc,K2.out.trans (be.set _ lo 1 _)⟩
end
section
open Kp
attribute [local go_sem] PT P6 Qv P3 P5 PX PZ P4 PW
def cU(w:NY)(B:Nat)(ga:Option Addr)(gc:Nat)(l:List (Int×Int)):Prop:=
 l.length≤gc∧gc≤Ol∧(0<l.length→∃gb go,ga=N3 ⟨gb,go,N0⟩∧gb<B∧∀j (hj:j<l.length),w.cell? ⟨gb,go+2*j,N0⟩=N3 (.int .i64 (l[j]'hj).1)∧w.cell? ⟨gb,go+2*j+1,N0⟩=N3 (.int .i64 (l[j]'hj).2))
theorem cU.below{w w':NY}{B:Nat}{ga:Option Addr}{gc:Nat}{l:List (Int×Int)}(h:cU w B ga gc l)(hb:On B w w'):cU w' B ga gc l:=by
 refine⟨h.1,h.2.1,fun h0=> ?_⟩
 obtain⟨gb,go,e,hg,hc⟩:=h.2.2 h0
 exact⟨gb,go,e,hg,fun j hj=>⟨(hb.cell hg).trans (hc j hj).1,(hb.cell hg).trans (hc j hj).2⟩⟩
theorem cU.more{w:NY}{B B':Nat}{ga:Option Addr}{gc:Nat}{l:List (Int×Int)}(h:cU w B ga gc l)(hb:B≤B'):cU w B' ga gc l:=by
 refine⟨h.1,h.2.1,fun h0=> ?_⟩
 obtain⟨gb,go,e,hg,hc⟩:=h.2.2 h0
 exact⟨gb,go,e,Ot,hc⟩
theorem bO.JP(w:NY)(o:Obj)(T:Oo)(l:List N2):bO ((w.alloc o).alloc (.cells l.toArray T)) (w.heap.size+1) T l:=by
 have:=bO.new (w.alloc o) T l
 rw[Oi] at this
 exact this
end
end Go.Proofs.YtnpihidbkhehjaaGreatDoor
