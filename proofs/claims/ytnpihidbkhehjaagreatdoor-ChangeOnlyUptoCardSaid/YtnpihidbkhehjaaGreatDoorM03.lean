/- ChangeOnly of kingpostlaw58: part 3 of its proof (merged and shortened by program). -/
import Derived.Lib.AtoiErrMem
import Derived.WideLaws
import Derived.Lib.OthersKept
import Derived.Lib.OwnKind
import Derived.Lib.BufferKept
import Derived.Test.YtnpihidbkhehjaaGreatDoorM02
set_option linter.unusedVariables false
set_option linter.unusedSimpArgs false
set_option linter.defProp false
set_option maxHeartbeats 8000000
set_option maxRecDepth 100000
open Go.RowKit Go.Shelf Go.Proofs.Tryz
open Array renaming getElem?_eq_some_iff→Od
open Bool renaming false→N1,true→Oc
open Go renaming World→NY,Value→N2,undef→N7,wpOp_step→Ob,Calls→Of,maxLen→Ol,TypeId→Oo
open Go.AllReady renaming cons→Oj,nil→Oq
open Go.IntKind renaming i64→Oe
open Go.IntWalk renaming i64_in→Om
open Go.Lib renaming hid→NW
open Go.RowKit renaming intOf→Oh,Below→On
open Go.World renaming size_alloc→Oi
open List renaming getD_eq_getElem?_getD→N8,length_map→N9,getElem?_eq_getElem→Oa
open Nat renaming le_refl→NZ,mul_comm→Og,le_trans→Ok
open Option renaming none→N0,some→N3
open Go.Proofs.YtnpihidbkhehjaaGreatDoor
namespace Go.Proofs.YtnpihidbkhehjaaGreatDoor
section
open Kp
attribute [local go_sem] Oper.semAt_some
def Kd(Bs:Nat)(l:List UInt8)(W:NY):Prop:=W.cell? ⟨Bs,0,N0⟩=N3 (.string (tx l))
def LB(l:List UInt8)(k:Nat)(x:Array N2):Prop:=x=#[.int .i64 (k:Int),.int .i64 (dg l k:Int)]
theorem Lj{l:List UInt8}{k:Nat}(hk:k<l.length):dg l k=kB (l[l.length-1-k]'Ot):=by
 unfold dg;rw[N8,Oa Ot];rfl
theorem wD(Bs:Nat)(l:List UInt8)(hn:l.length≤1000000)(hd:l.all gz=Oc):
  wv prog 320 #[.pointer (N3 ⟨Bs,0,N0⟩)] (LB l) (Kd Bs l) l.length:=by
 intro m lp J Jx W hM hJ hJx hY h0
 refine callsIn_of_wp func320 rfl trivial ?_ rfl
 have hc0:=hM 0 W h0
 unfold Kd at hc0
 simp only[ntmps320,List.size_toArray,List.length_cons,List.length_nil,Nat.reduceAdd,Nat.reduceSub,Array.replicate_succ,Array.replicate_zero,List.push_toArray,List.append_toArray,List.nil_append,List.cons_append]
 gi_wp2
 gi_loopw [6] (fun i wr=>∃k:Nat,k≤l.length∧i= .int .i64 (k:Int)∧J k wr) (fun i _=>((l.length:Int)-Oh i).toNat)
 case atStart=>exact⟨0,Ot,Ow,h0⟩
 case round=>
  obtain⟨k,hk,rfl,hj⟩:=hrel
  have hc:=hM k wr hj
  unfold Kd at hc
  by_cases hlt:k<l.length
  ·obtain⟨fn,tmps,assign,body,hy,hR⟩:=hY k _ wr hlt rfl hj
   have e1:((l.length:Int)-1-k).toNat=l.length-1-k:=Ot
   have hb:l.length-1-k<(tx l).size:=PL
   have ev:((((tx l)[l.length-1-k]'hb).toNat:Int)-48)%256=(dg l k:Int):=by
    have hx:(tx l)[l.length-1-k]'hb=l[l.length-1-k]'Ot:=rfl
    rw[hx,Lj hlt]
    have:=mu (List.all_eq_true.1 hd _ (List.getElem_mem (n:=l.length-1-k) (h:=Ot)))
    unfold kB at *
    omega
   have HD:=NW hd
   clear hd
   gi_wp2
   refine⟨fun h=>Ox,hR.mono ?_⟩
   rintro e W3 (⟨rfl,hJ3⟩|⟨rfl,hJx3⟩)
   ·gi_wp2
    go_roundw
    case rel=>exact⟨k+1,Ot,Ow,hJ3⟩
    case measure=>simp[Oh];omega
   ·gi_wp2
    refine bodyPost_ret (results_none rfl _ _ _) rfl ?_
    exact⟨⟨_,rfl⟩,.inr ⟨k,hlt,hJx3⟩⟩
  ·obtain rfl:k=l.length:=Ot
   gi_wp2
   go_end0
   exact⟨⟨_,rfl⟩,.inl hj⟩
theorem yC(w:NY)(s:ByteArray):
  Of prog 288 #[.string s] w fun e w'=>e= .returned (.func (.func 320) #[] #[.pointer (N3 ⟨w.heap.size,0,N0⟩)])∧w'=w.alloc (.cells #[.string s] 9):=by
 go_enter func288,ntmps288
 go_wp2
 go_ret
 exact⟨rfl,rfl⟩
end
section
open Kp
attribute [local go_sem] Oper.semAt_some
def dS(W:NY)(b:Nat)(t:Oo)(u v:N2):Prop:=W.heap[b]?=N3 (.cells #[u,v] t (0,0))
theorem dS.cell0{W:NY}{b:Nat}{t:Oo}{u v:N2}(h:dS W b t u v):W.cell? ⟨b,0,N0⟩=N3 u:=by unfold dS at h;simp[World.cell?,h]
theorem dS.dv{W:NY}{b:Nat}{t:Oo}{u v:N2}(h:dS W b t u v):W.cell? ⟨b,1,N0⟩=N3 v:=by unfold dS at h;simp[World.cell?,h]
theorem dS.frozen{W:NY}{b:Nat}{t:Oo}{u v:N2}(h:dS W b t u v)(i:Nat):W.frozen? ⟨b,i,N0⟩=N1:=by unfold dS at h;simp[World.frozen?,h]
theorem dS.stays{n0:Nat}{W W':NY}{b:Nat}{t:Oo}{u v:N2}(h:dS W b t u v)(hs:al n0 W W'):dS W' b t u v:=hs.cells _ _ _ _ h
theorem dS.lt{W:NY}{b:Nat}{t:Oo}{u v:N2}(h:dS W b t u v):b<W.heap.size:=(Od.1 h).1
theorem dS.cI{W:NY}{b:Nat}{t:Oo}{u v:N2}(h:dS W b t u v){p:Addr}(hp:b≠p.block)(x:N2):dS (W.setCell p x) b t u v:=(Below.heap_setCell W p x b hp).trans h
theorem dS.jq{W:NY}{b:Nat}{t:Oo}{u v:N2}(h:dS W b t u v)(x:N2):dS (W.setCell ⟨b,0,N0⟩ x) b t x v:=by
 unfold dS at h⊢;simp[World.setCell,Array.getElem?_modify,h]
theorem dS.nK{W:NY}{b:Nat}{t:Oo}{u v:N2}(h:dS W b t u v)(x:N2):dS (W.setCell ⟨b,1,N0⟩ x) b t u x:=by
 unfold dS at h⊢;simp[World.setCell,Array.getElem?_modify,h]
theorem dS.alloc{W:NY}{b:Nat}{t:Oo}{u v:N2}(h:dS W b t u v)(o:Obj):dS (W.alloc o) b t u v:=(Below.heap_alloc W o b h.lt).trans h
theorem dS.drew{W:NY}{b:Nat}{t:Oo}{u v:N2}(h:dS W b t u v):dS W.drew b t u v:=h
theorem dS.at_{W:NY}{t:Oo}{u v:N2}{n:Nat}(h:W.heap.size=n):dS (W.alloc (.cells #[u,v] t)) n t u v:=by subst h;exact NY.alloc_heap_new W _
structure BV(w:NY)(ds:List UInt8)(neg:Bool)(n:Nat)(k:Nat)(lim:List Nat)(u:Nat)(W:NY):Prop where
 res:dS W w.heap.size 292 (.bool N1) (.slice N0 0 0)
 row:Row W (w.heap.size+1) n lim
 x:dS W (w.heap.size+2) 292 (.bool neg) (.slice (N3 ⟨w.heap.size+1,0,N0⟩) n n)
 unit:Bx W (w.heap.size+3) 3 (.int .i64 u)
 it:Bx W (w.heap.size+4) 9 (.string (tx ds))
 len:lim.length=n
 hu:k%9≠0→u=10^(k%9)
 m:JE ds k lim
 low:On w.heap.size w W
theorem BV.stays{w:NY}{ds:List UInt8}{neg:Bool}{n k:Nat}{lim:List Nat}{u n0:Nat}{W W':NY}(h:BV w ds neg n k lim u W)(hs:al n0 W W')(hn:w.heap.size≤n0):BV w ds neg n k lim u W':=
 ⟨h.res.stays hs,h.row.stays hs,h.x.stays hs,h.unit.stays hs,h.it.stays hs,h.len,h.hu,h.m,h.low.trans (hs.below.mono hn)⟩
def yZ(w:NY)(ds:List UInt8)(neg:Bool)(n:Nat)(k:Nat)(W:NY):Prop:=∃lim u,BV w ds neg n k lim u W
theorem AW{w W:NY}{ds:List UInt8}{neg:Bool}{n k:Nat}{lim:List Nat}{u:Nat}(h:BV w ds neg n k lim u W)(hd:ds.all gz=Oc)(hk:k/9<n)(hu:u=10^(k%9)):
  BV w ds neg n (k+1) (lim.set (k/9) (fv lim (k/9)+dg ds k*u)) (u*10) ((W.setCell ⟨w.heap.size+1,k/9,N0⟩ (.int .i64 ((fv lim (k/9):Int)+(dg ds k:Int)*u))).setCell ⟨w.heap.size+3,0,N0⟩ (.int .i64 ((u:Int)*10))):=by
 obtain⟨res,row,x,unit,it,len,_,m,low⟩:=h
 have e1:((fv lim (k/9):Int)+(dg ds k:Int)*u)=((fv lim (k/9)+dg ds k*u:Nat):Int):=Ow
 have e2:((u:Int)*10)=((u*10:Nat):Int):=Ow
 rw[e1,e2]
 refine⟨(res.cI Ow _).cI Ow _,(row.set Ot _).cI Ow _,(x.cI Ow _).cI Ow _,(unit.cI Ow _).put _,(it.cI Ow _).cI Ow _,by simpa using len,?_,?_,?_⟩
 ·intro h9
  rw[hu,←Nat.pow_succ]
  congr 1;omega
 ·refine m.step hd Ot Ow (fun j hj=>by rw[eY Ot,if_neg hj]) ?_
  rw[eY Ot,if_pos rfl,hu]
 ·exact(low.setCell (p:=⟨w.heap.size+1,_,N0⟩) Ow _).setCell (p:=⟨w.heap.size+3,0,N0⟩) Ow _
theorem Kg{w W:NY}{ds:List UInt8}{neg:Bool}{n k:Nat}{lim:List Nat}{u:Nat}(h:BV w ds neg n k lim u W)(hk:k%9=0):
  BV w ds neg n k lim 1 (W.setCell ⟨w.heap.size+3,0,N0⟩ (.int .i64 1)):=
 ⟨h.res.cI Ow _,h.row.cI Ow _,h.x.cI Ow _,h.unit.put _,h.it.cI Ow _,h.len,fun h=>absurd hk h,h.m,h.low.setCell (p:=⟨w.heap.size+3,0,N0⟩) Ow _⟩
theorem BV.drew{w:NY}{ds:List UInt8}{neg:Bool}{n k:Nat}{lim:List Nat}{u:Nat}{W:NY}(h:BV w ds neg n k lim u W):BV w ds neg n k lim u W.drew:=
 ⟨h.res,h.row,h.x,h.unit,h.it,h.len,h.hu,h.m,h.low.drew⟩
theorem jP{w W:NY}{ds:List UInt8}{neg:Bool}{n k:Nat}{lim:List Nat}{u g1 o1 g2 o2:Nat}{v1 v2:N2}
  (h:BV w ds neg n k lim u ((W.setCell ⟨g1,o1,N0⟩ v1).setCell ⟨g2,o2,N0⟩ v2)):
  KeepsOthers W ((W.setCell ⟨g1,o1,N0⟩ v1).setCell ⟨g2,o2,N0⟩ v2).drew∧yZ w ds neg n k ((W.setCell ⟨g1,o1,N0⟩ v1).setCell ⟨g2,o2,N0⟩ v2).drew:=
 ⟨((KeepsOthers.setCell _ _ _).trans (KeepsOthers.setCell _ _ _)).trans (KeepsOthers.drew _),_,_,h.drew⟩
theorem pW{w W0 W:NY}{ds:List UInt8}{neg:Bool}{n k:Nat}{lim:List Nat}{u g1 o1 g2 o2:Nat}{v1 v2:N2}(hk:KeepsOthers W0 W)
  (h:BV w ds neg n k lim u ((W.setCell ⟨g1,o1,N0⟩ v1).setCell ⟨g2,o2,N0⟩ v2)):
  KeepsOthers W0 ((W.setCell ⟨g1,o1,N0⟩ v1).setCell ⟨g2,o2,N0⟩ v2).drew∧yZ w ds neg n k ((W.setCell ⟨g1,o1,N0⟩ v1).setCell ⟨g2,o2,N0⟩ v2).drew:=
 ⟨hk.trans (jP h).1,(jP h).2⟩
def Er(w:NY)(s:List UInt8)(e:Ending)(w':NY):Prop:=
 ∃v l,e= .returned (.agg #[.bool (Lib.hasPrefix s [45]),v])∧Bq w w' v l∧Canon l∧val l=aC (own s)∧l.length≤(own s).length∧On w.heap.size w w'
theorem iM(w:NY)(s:List UInt8)(hd:(own s).all gz=Oc)(hl:s.length≤1000000):
  Of prog 262 #[.string (tx s)] w (Er w s):=by
 obtain⟨ds,hds⟩:∃ds,own s=ds:=⟨_,rfl⟩
 obtain⟨neg,hneg⟩:∃neg,Lib.hasPrefix s [45]=neg:=⟨_,rfl⟩
 have hdl:ds.length≤s.length:=by rw[←hds];unfold own Lib.trimPrefix;split <;>simp
 have hds':Lib.trimPrefix s [45]=ds:=hds
 have hcut:∀W,Of prog 256 #[.string (tx s),.string ⟨#[45]⟩] W fun e w'=>e= .returned (.tuple #[.string (tx ds),.bool neg])∧w'=W:=fun W=>by
  have:=strings_CutPrefix (tx s) (tx [45]) W
  rw[bE,bE,hds',hneg] at this
  exact this
 rw[hds] at hd
 have HDS:=NW hds
 have HNEG:=NW hneg
 have HD:=NW hd
 have HCUT:=NW hcut
 clear hds hds' hneg hcut hd
 have w1:((ds.length:Int)+9-1)/9=(((ds.length+8)/9:Nat):Int):=Ot
 obtain⟨n,hn⟩:∃n,(ds.length+8)/9=n:=⟨_,rfl⟩
 rw[hn] at w1
 have HN0:=NW hn
 have hn1:n≤1000000:=Ot
 have hn2:ds.length≤n*9:=Ot
 clear hn
 have hmk:=iy n Ot
 refine(callsIn_wide (n:=9)).1 (callsIn_of_wp_marks func262 rfl trivial ?_)
 simp only[ntmps262,List.size_toArray,List.length_cons,List.length_nil,Nat.reduceAdd,Nat.reduceSub,Array.replicate_succ,Array.replicate_zero,List.push_toArray,List.append_toArray,List.nil_append,List.cons_append]
 gi_wp2_with(refine⟨trivial,?_⟩;first|(gi_at_call 256;refine(callsIn_wide.2 (HCUT.out _)).mono ?_;rintro e w' ⟨rfl,rfl⟩)|(gi_at_call 288;refine(callsIn_wide.2 (yC _ _)).mono ?_;rintro e w' ⟨rfl,rfl⟩))
 refine ef (gf:=320) (lb:=#[.pointer (N3 ⟨w.heap.size+4,0,N0⟩)]) rfl (enters_of func320 Ou rfl)
  (wD (w.heap.size+4) ds Ot HD.out) (fun k x e=>PS)
  (yZ w ds neg n) (fun _ _ _=>False) (fun k W W' ⟨q,r,h⟩ hs=>⟨q,r,h.stays hs OB⟩) (fun c k W W' h hs=>h) (fun k W ⟨q,r,h⟩=>h.it.cell) ?start ?round ?done ?stop
 case start=>
  have hB:On w.heap.size w (((((w.alloc (.cells #[.bool N1,.slice N0 0 0] 292)).alloc (.cells (kV n) 3)).alloc (.cells #[.bool neg,.slice (N3 ⟨w.heap.size+1,0,N0⟩) n n] 292)).alloc (.cells #[.int .i64 1] 3)).alloc (.cells #[.string (tx ds)] 9)):=
   (mC w _ _ _).trans ((((Below.refl _ _).alloc OB _).alloc OB _))
  refine⟨List.replicate n 0,1,((((dS.at_ rfl).alloc _).alloc _).alloc _).alloc _,?_,((dS.at_ Ow).alloc _).alloc _,(Bx.at_ Ow).alloc _,Bx.at_ Ow,Ow,fun h=>absurd rfl h,JE.start ds n,hB⟩
  have:=mG (w.alloc (.cells #[.bool N1,.slice N0 0 0] 292)) n Ot
  simp only[Oi] at this
  exact((this.alloc _).alloc _).alloc _
 case round=>
  intro l k x W K hk hx hi hK
  unfold LB at hx
  subst hx
  have HK:=NW hK
  clear hK
  gi_wp2
  refine HK.out _ (fun W2 hi2 _=> ?_)
  clear HK hi
  obtain⟨lim,u,h⟩:=hi2
  have hkn:k/9<n:=Ot
  have hdg:=IY HD.out k
  have hfv:fv lim (k/9)<1000000000:=ai h.m.small _
  have hq:((k:Int)/9).toNat=k/9:=Ot
  have i0:0≤(k:Int)/9:=Ot
  have i1:(k:Int)/9<n:=Ot
  by_cases h9:k%9=0
  ·have h1:=Kg h h9
   obtain⟨W3,hW3⟩:∃W3,W2.setCell ⟨w.heap.size+3,0,N0⟩ (.int .i64 1)=W3:=⟨_,rfl⟩
   have hk3:=NW (show KeepsOthers W2 W3 by rw[←hW3];exact KeepsOthers.setCell _ _ _)
   rw[hW3] at h1
   obtain⟨u1,hu1⟩:∃u1:Nat,u1=1:=⟨_,rfl⟩
   rw[←hu1] at h1
   have hu:u1=10^(k%9):=by rw[h9,hu1]
   clear hu1
   have HN:=NW (AW h1 HD.out hkn hu)
   have f2:=h.unit.frozen
   have b2:=h.unit.cell
   have hub:u1≤100000000:=by
    rw[hu]
    calc 10^(k%9)≤10^8:=Nat.pow_le_pow_right Ov Ot
     _=100000000:=rfl
   have hmul:dg ds k*u1≤900000000:=by
    calc dg ds k*u1≤9*100000000:=Nat.mul_le_mul Ot hub
     _=900000000:=rfl
   have hmul':(dg ds k:Int)*(u1:Int)≤900000000:=by rw[←Int.natCast_mul];omega
   have hmul0:0≤(dg ds k:Int)*(u1:Int):=by rw[←Int.natCast_mul];omega
   have b0:=h1.x.dv
   have b1:=h1.unit.cell
   have f1:=h1.unit.frozen
   have f3:=h1.row.frozen (k/9)
   have b3:=h1.row.cell (j:=k/9) (by rw[h1.len];omega)
   have wq:Oe.wrap ((k:Int)/9)=(k:Int)/9:=bI Ot Ot
   have w5:Oe.wrap ((dg ds k:Int)*(u1:Int))=dg ds k*u1:=bI Ot Ot
   have w6:Oe.wrap ((fv lim (k/9):Int)+(dg ds k:Int)*(u1:Int))=fv lim (k/9)+dg ds k*u1:=bI Ot Ot
   have w7:Oe.wrap ((u1:Int)*10)=u1*10:=bI Ot Ot
   have ht:((k:Int)%9==0)=Oc:=by rw[beq_iff_eq];omega
   have HW3:=NW hW3
   clear h h1 h9 hW3 hu hmul
   gi_wp2
   rw[HW3.out]
   refine wpIn_region_any Ou (eG Ou (by rintro⟨_,_,h⟩;exact h) _ _ _ _ ?_)
   try(change wpAny _ _ _ _ _ _ _ (NY.drew _))
   refine wpAny_take (i:=0) (v:= ?vc1) rfl Ou Ou Ou (fun _ _ _ h=>h) (Or.inl ⟨OR,?hyc1⟩) ?_
   case hyc1=>(intro w;go_simp;try with_reducible rfl)
   refine wpAny_take (i:=2) (v:= ?vc2) rfl Ou Ou Ou (fun _ _ _ h=>h) (Or.inl ⟨OR,?hyc2⟩) ?_
   case hyc2=>(intro w;go_simp;try with_reducible rfl)
   refine wpAny_take (i:=3) (v:= ?vc3) rfl Ou Ou Ou (fun _ _ _ h=>h) (Or.inl ⟨OR,?hyc3⟩) ?_
   case hyc3=>(intro w;go_simp;try with_reducible rfl)
   refine wpAny_take (i:=6) (v:= ?vc4) rfl Ou Ou Ou (fun _ _ _ h=>h) (Or.inl ⟨OR,?hyc4⟩) ?_
   case hyc4=>(intro w;go_simp;try with_reducible rfl)
   refine wpAny_ready (rs:=[1,7]) Ou Ow ?_
   refine Oj rfl (fun K hK=> ?_) ?_
   ·go_simp
    refine hK _ _ ?_
    clear hK K
    refine wpAny_take (i:=4) (v:= ?vc5) rfl Ou Ou Ou (fun _ _ _ h=>h) (Or.inl ⟨OR,?hyc5⟩) ?_
    case hyc5=>(intro w;go_simp;try with_reducible rfl)
    refine wpAny_ready (rs:=[5,7]) Ou Ow ?_
    refine Oj rfl (fun K hK=> ?_) ?_
    ·go_simp
     refine hK _ _ ?_
     clear hK K
     refine wpAny_ready (rs:=[7]) Ou Ow ?_
     refine Oj rfl (fun K hK=> ?_) ?_
     ·go_simp
      refine hK _ _ ?_
      clear hK K
      refine wpAny_take (i:=8) (v:= ?vc6) rfl Ou Ou Ou (fun _ _ _ h=>h) (Or.inl ⟨OR,?hyc6⟩) ?_
      case hyc6=>(intro w;go_simp;try with_reducible rfl)
      refine wpAny_take (i:=9) (v:= ?vc7) rfl Ou Ou Ou (fun _ _ _ h=>h) (Or.inl ⟨OR,?hyc7⟩) ?_
      case hyc7=>(intro w;go_simp;try with_reducible rfl)
      refine wpAny_take (i:=10) (v:= ?vc8) rfl Ou Ou Ou (fun _ _ _ h=>h) (Or.inl ⟨OR,?hyc8⟩) ?_
      case hyc8=>(intro w;go_simp;try with_reducible rfl)
      refine wpAny_ready (rs:=[11]) Ou Ow ?_
      refine Oj rfl (fun K hK=> ?_) ?_
      ·go_simp
       refine hK _ _ ?_
       clear hK K
       refine wpAny_done Ou ?_ _
       gi_wp2
       exact pW hk3.out HN.out
      exact Oq
     exact Oq
    refine Oj rfl (fun K hK=> ?_) ?_
    ·go_simp
     refine hK _ _ ?_
     clear hK K
     refine wpAny_take (i:=8) (v:= ?vc9) rfl Ou Ou Ou (fun _ _ _ h=>h) (Or.inl ⟨OR,?hyc9⟩) ?_
     case hyc9=>(intro w;go_simp;try with_reducible rfl)
     refine wpAny_ready (rs:=[5]) Ou Ow ?_
     refine Oj rfl (fun K hK=> ?_) ?_
     ·go_simp
      refine hK _ _ ?_
      clear hK K
      refine wpAny_take (i:=9) (v:= ?vc10) rfl Ou Ou Ou (fun _ _ _ h=>h) (Or.inl ⟨OR,?hyc10⟩) ?_
      case hyc10=>(intro w;go_simp;try with_reducible rfl)
      refine wpAny_take (i:=10) (v:= ?vc11) rfl Ou Ou Ou (fun _ _ _ h=>h) (Or.inl ⟨OR,?hyc11⟩) ?_
      case hyc11=>(intro w;go_simp;try with_reducible rfl)
      refine wpAny_ready (rs:=[11]) Ou Ow ?_
      refine Oj rfl (fun K hK=> ?_) ?_
      ·go_simp
       refine hK _ _ ?_
       clear hK K
       refine wpAny_done Ou ?_ _
       gi_wp2
       exact pW hk3.out HN.out
      exact Oq
     exact Oq
    exact Oq
   refine Oj rfl (fun K hK=> ?_) ?_
   ·go_simp
    refine hK _ _ ?_
    clear hK K
    refine wpAny_take (i:=8) (v:= ?vc12) rfl Ou Ou Ou (fun _ _ _ h=>h) (Or.inl ⟨OR,?hyc12⟩) ?_
    case hyc12=>(intro w;go_simp;try with_reducible rfl)
    refine wpAny_ready (rs:=[1]) Ou Ow ?_
    refine Oj rfl (fun K hK=> ?_) ?_
    ·go_simp
     refine hK _ _ ?_
     clear hK K
     refine wpAny_take (i:=4) (v:= ?vc13) rfl Ou Ou Ou (fun _ _ _ h=>h) (Or.inl ⟨OR,?hyc13⟩) ?_
     case hyc13=>(intro w;go_simp;try with_reducible rfl)
     refine wpAny_ready (rs:=[5]) Ou Ow ?_
     refine Oj rfl (fun K hK=> ?_) ?_
     ·go_simp
      refine hK _ _ ?_
      clear hK K
      refine wpAny_take (i:=9) (v:= ?vc14) rfl Ou Ou Ou (fun _ _ _ h=>h) (Or.inl ⟨OR,?hyc14⟩) ?_
      case hyc14=>(intro w;go_simp;try with_reducible rfl)
      refine wpAny_take (i:=10) (v:= ?vc15) rfl Ou Ou Ou (fun _ _ _ h=>h) (Or.inl ⟨OR,?hyc15⟩) ?_
      case hyc15=>(intro w;go_simp;try with_reducible rfl)
      refine wpAny_ready (rs:=[11]) Ou Ow ?_
      refine Oj rfl (fun K hK=> ?_) ?_
      ·go_simp
       refine hK _ _ ?_
       clear hK K
       refine wpAny_done Ou ?_ _
       gi_wp2
       exact pW hk3.out HN.out
      exact Oq
     exact Oq
    exact Oq
   exact Oq
  ·have hu:=h.hu h9
   have HN:=NW (AW h HD.out hkn hu)
   have hub:u≤100000000:=by
    rw[hu]
    calc 10^(k%9)≤10^8:=Nat.pow_le_pow_right Ov Ot
     _=100000000:=rfl
   have hmul:dg ds k*u≤900000000:=by
    calc dg ds k*u≤9*100000000:=Nat.mul_le_mul Ot hub
     _=900000000:=rfl
   have hmul':(dg ds k:Int)*(u:Int)≤900000000:=by rw[←Int.natCast_mul];omega
   have hmul0:0≤(dg ds k:Int)*(u:Int):=by rw[←Int.natCast_mul];omega
   have b0:=h.x.dv
   have b1:=h.unit.cell
   have f1:=h.unit.frozen
   have f3:=h.row.frozen (k/9)
   have b3:=h.row.cell (j:=k/9) (by rw[h.len];omega)
   have wq:Oe.wrap ((k:Int)/9)=(k:Int)/9:=bI Ot Ot
   have w5:Oe.wrap ((dg ds k:Int)*(u:Int))=dg ds k*u:=bI Ot Ot
   have w6:Oe.wrap ((fv lim (k/9):Int)+(dg ds k:Int)*(u:Int))=fv lim (k/9)+dg ds k*u:=bI Ot Ot
   have w7:Oe.wrap ((u:Int)*10)=u*10:=bI Ot Ot
   have ht:((k:Int)%9==0)=N1:=OF
   clear h h9 hu hmul
   gi_wp2
   refine wpIn_region_any Ou (eG Ou (by rintro⟨_,_,h⟩;exact h) _ _ _ _ ?_)
   try(change wpAny _ _ _ _ _ _ _ (NY.drew _))
   refine wpAny_take (i:=0) (v:= ?vb1) rfl Ou Ou Ou (fun _ _ _ h=>h) (Or.inl ⟨OR,?hyb1⟩) ?_
   case hyb1=>(intro w;go_simp;try with_reducible rfl)
   refine wpAny_take (i:=2) (v:= ?vb2) rfl Ou Ou Ou (fun _ _ _ h=>h) (Or.inl ⟨OR,?hyb2⟩) ?_
   case hyb2=>(intro w;go_simp;try with_reducible rfl)
   refine wpAny_take (i:=3) (v:= ?vb3) rfl Ou Ou Ou (fun _ _ _ h=>h) (Or.inl ⟨OR,?hyb3⟩) ?_
   case hyb3=>(intro w;go_simp;try with_reducible rfl)
   refine wpAny_take (i:=6) (v:= ?vb4) rfl Ou Ou Ou (fun _ _ _ h=>h) (Or.inl ⟨OR,?hyb4⟩) ?_
   case hyb4=>(intro w;go_simp;try with_reducible rfl)
   refine wpAny_ready (rs:=[1,7]) Ou Ow ?_
   refine Oj rfl (fun K hK=> ?_) ?_
   ·go_simp
    refine hK _ _ ?_
    clear hK K
    refine wpAny_take (i:=4) (v:= ?vb5) rfl Ou Ou Ou (fun _ _ _ h=>h) (Or.inl ⟨OR,?hyb5⟩) ?_
    case hyb5=>(intro w;go_simp;try with_reducible rfl)
    refine wpAny_ready (rs:=[5,7]) Ou Ow ?_
    refine Oj rfl (fun K hK=> ?_) ?_
    ·go_simp
     refine hK _ _ ?_
     clear hK K
     refine wpAny_ready (rs:=[7]) Ou Ow ?_
     refine Oj rfl (fun K hK=> ?_) ?_
     ·go_simp
      refine hK _ _ ?_
      clear hK K
      refine wpAny_take (i:=8) (v:= ?vb6) rfl Ou Ou Ou (fun _ _ _ h=>h) (Or.inl ⟨OR,?hyb6⟩) ?_
      case hyb6=>(intro w;go_simp;try with_reducible rfl)
      refine wpAny_take (i:=9) (v:= ?vb7) rfl Ou Ou Ou (fun _ _ _ h=>h) (Or.inl ⟨OR,?hyb7⟩) ?_
      case hyb7=>(intro w;go_simp;try with_reducible rfl)
      refine wpAny_take (i:=10) (v:= ?vb8) rfl Ou Ou Ou (fun _ _ _ h=>h) (Or.inl ⟨OR,?hyb8⟩) ?_
      case hyb8=>(intro w;go_simp;try with_reducible rfl)
      refine wpAny_ready (rs:=[11]) Ou Ow ?_
      refine Oj rfl (fun K hK=> ?_) ?_
      ·go_simp
       refine hK _ _ ?_
       clear hK K
       refine wpAny_done Ou ?_ _
       gi_wp2
       exact jP HN.out
      exact Oq
     exact Oq
    refine Oj rfl (fun K hK=> ?_) ?_
    ·go_simp
     refine hK _ _ ?_
     clear hK K
     refine wpAny_take (i:=8) (v:= ?vb9) rfl Ou Ou Ou (fun _ _ _ h=>h) (Or.inl ⟨OR,?hyb9⟩) ?_
     case hyb9=>(intro w;go_simp;try with_reducible rfl)
     refine wpAny_ready (rs:=[5]) Ou Ow ?_
     refine Oj rfl (fun K hK=> ?_) ?_
     ·go_simp
      refine hK _ _ ?_
      clear hK K
      refine wpAny_take (i:=9) (v:= ?vb10) rfl Ou Ou Ou (fun _ _ _ h=>h) (Or.inl ⟨OR,?hyb10⟩) ?_
      case hyb10=>(intro w;go_simp;try with_reducible rfl)
      refine wpAny_take (i:=10) (v:= ?vb11) rfl Ou Ou Ou (fun _ _ _ h=>h) (Or.inl ⟨OR,?hyb11⟩) ?_
      case hyb11=>(intro w;go_simp;try with_reducible rfl)
      refine wpAny_ready (rs:=[11]) Ou Ow ?_
      refine Oj rfl (fun K hK=> ?_) ?_
      ·go_simp
       refine hK _ _ ?_
       clear hK K
       refine wpAny_done Ou ?_ _
       gi_wp2
       exact jP HN.out
      exact Oq
     exact Oq
    exact Oq
   refine Oj rfl (fun K hK=> ?_) ?_
   ·go_simp
    refine hK _ _ ?_
    clear hK K
    refine wpAny_take (i:=8) (v:= ?vb12) rfl Ou Ou Ou (fun _ _ _ h=>h) (Or.inl ⟨OR,?hyb12⟩) ?_
    case hyb12=>(intro w;go_simp;try with_reducible rfl)
    refine wpAny_ready (rs:=[1]) Ou Ow ?_
    refine Oj rfl (fun K hK=> ?_) ?_
    ·go_simp
     refine hK _ _ ?_
     clear hK K
     refine wpAny_take (i:=4) (v:= ?vb13) rfl Ou Ou Ou (fun _ _ _ h=>h) (Or.inl ⟨OR,?hyb13⟩) ?_
     case hyb13=>(intro w;go_simp;try with_reducible rfl)
     refine wpAny_ready (rs:=[5]) Ou Ow ?_
     refine Oj rfl (fun K hK=> ?_) ?_
     ·go_simp
      refine hK _ _ ?_
      clear hK K
      refine wpAny_take (i:=9) (v:= ?vb14) rfl Ou Ou Ou (fun _ _ _ h=>h) (Or.inl ⟨OR,?hyb14⟩) ?_
      case hyb14=>(intro w;go_simp;try with_reducible rfl)
      refine wpAny_take (i:=10) (v:= ?vb15) rfl Ou Ou Ou (fun _ _ _ h=>h) (Or.inl ⟨OR,?hyb15⟩) ?_
      case hyb15=>(intro w;go_simp;try with_reducible rfl)
      refine wpAny_ready (rs:=[11]) Ou Ow ?_
      refine Oj rfl (fun K hK=> ?_) ?_
      ·go_simp
       refine hK _ _ ?_
       clear hK K
       refine wpAny_done Ou ?_ _
       gi_wp2
       exact jP HN.out
      exact Oq
     exact Oq
    exact Oq
   exact Oq
 case done=>
  rintro D W hD ⟨lim,u,h⟩ hK
  have c1:=h.x.dv
  have c0:=h.x.cell0
  have f1:=h.x.frozen 1
  have d0:=h.res.cell0
  have d1:=h.res.dv
  have g0:=h.res.frozen 0
  have g1:=h.res.frozen 1
  have hw1:=h.row
  have HI:=NW h
  clear h
  gi_wp2_with(refine⟨trivial,?_⟩;gi_at_call 289;refine(callsIn_wide.2 (gX hw1 HI.out.len)).mono ?_;rintro e w' ⟨rfl,rfl⟩)
  have hh:=HI.out
  obtain⟨X,hX⟩:∃X,((W.setCell ⟨w.heap.size+2,1,N0⟩ (.slice (N3 ⟨w.heap.size+1,0,N0⟩) (aj lim).length n)).setCell ⟨w.heap.size,0,N0⟩ (.bool neg)).setCell ⟨w.heap.size,1,N0⟩ (.slice (N3 ⟨w.heap.size+1,0,N0⟩) (aj lim).length n)=X:=⟨_,rfl⟩
  have k1:X.heap[D]?=N3 (.deferred (N3 [])):=by
   rw[←hX];exact(((KeepsOthers.setCell _ _ _).trans (KeepsOthers.setCell _ _ _)).trans (KeepsOthers.setCell _ _ _)).same D _ hK rfl
  have k2:dS X w.heap.size 292 (.bool neg) (.slice (N3 ⟨w.heap.size+1,0,N0⟩) (aj lim).length n):=by
   rw[←hX];exact((hh.res.cI Ow _).jq _).nK _
  have k3:Row X (w.heap.size+1) n lim:=by rw[←hX];exact((hh.row.cI Ow _).cI Ow _).cI Ow _
  have k5:On w.heap.size w X:=by
   rw[←hX];exact((hh.low.setCell (p:=⟨w.heap.size+2,1,N0⟩) Ow _).setCell (p:=⟨w.heap.size,0,N0⟩) Ow _).setCell (p:=⟨w.heap.size,1,N0⟩) Ow _
  rw[hX]
  refine⟨Ow,.inl ⟨_,_,rfl,run_takeDeferred k1,?_⟩⟩
  have hs:=al.putObj (n0:=w.heap.size) (.deferred N0) k1 rfl Pp
  have q0:=(k2.stays hs).cell0
  have q1:=(k2.stays hs).dv
  have hm:=hh.m
  refine⟨.agg #[.bool neg,.slice (N3 ⟨w.heap.size+1,0,N0⟩) (aj lim).length n],by simp[results,results262,go_sem,q0,q1],_,aj lim,by rw[HNEG.out],⟨_,_,rfl,Ot,(k3.stays hs).trimmed⟩,dA hm.small,?_,?_,k5.trans hs.below⟩
  ·rw[eN,HDS.out,←Hz];exact hm.eq
  ·have:=aI lim
   have:=hh.len
   have:=HN0.out
   rw[HDS.out];omega
 case stop=>intro D c k W hD hk h;exact h.elim
end
section
open Kp
theorem Cn{P:Program}{n:String}{w w':NY}{cs:Array N2}(h:w.var? P n=N3 cs){B0:Nat}(hb:On B0 w w')(hB:w.heap.size≤B0):w'.var? P n=N3 cs:=by
 unfold NY.var? at h⊢
 cases hg:P.globalNamed n with
 |none=>rw[hg] at h;cases h
 |some g=>
  rw[hg] at h
  simp only[Option.bind_some] at h⊢
  have hlt:g<w.heap.size:=by
   rcases Nat.lt_or_ge g w.heap.size with h'|h'
   ·exact h'
   ·rw[Array.getElem?_eq_none h'] at h;cases h
  rw[hb.block g Ot]
  exact h
theorem below_drewN{B0:Nat}{w w':NY}(h:On B0 w w')(n:Nat):On B0 w (w'.drewN n):=⟨h.os,h.tape,h.output,h.size,h.block⟩
def df(a b:List UInt8):Int:=if jB a=0 then jB b else jB a
theorem fg(a b:List UInt8)(w:NY)(ha:a.length≤1000000)(hb:b.length≤1000000):
  Of prog 260 #[.string (tx a),.string (tx b)] w fun e w'=>e= .returned (.int .i64 (df a b))∧On w.heap.size w w':=by
 by_cases h0:jB a=0
 ·have h0':(jB a !=0)=N1:=by simp[h0]
  have H0:=NW h0
  clear h0
  go_enter func260,ntmps260
  go_wp2_with(go_at_call 287;refine(o4 _ _ OD).mono ?_;first|(rintro e w1 ⟨rfl,hB1⟩))
  go_ret
  exact⟨bJ (by unfold df;rw[H0.out,if_pos rfl]),On.trans OD (On.mono OD (Below.size OD))⟩
 ·have h0':(jB a !=0)=Oc:=by simpa using h0
  have H0:=NW h0
  clear h0
  go_enter func260,ntmps260
  go_wp2_with(go_at_call 287;refine(o4 _ _ OD).mono ?_;first|(rintro e w1 ⟨rfl,hB1⟩))
  go_ret
  exact⟨bJ (by unfold df;rw[if_neg H0.out]),hB1⟩
def num(l:List UInt8):Int:=if Lib.hasPrefix l [45] then -(aC (own l):Int) else aC (own l)
theorem FU{l:List UInt8}(h:cP l=Oc):Lib.atoi l=N3 (num l):=by
 unfold cP at h
 simp only[Bool.and_eq_true,Bool.not_eq_true'] at h
 obtain⟨⟨hd,hne⟩,_⟩:=h
 have hne':own l≠[]:=by intro e;rw[e] at hne;simp at hne
 have hdec:=kZ hd hne'
 unfold num
 cases l with
 |nil=>exact absurd rfl hne'
 |cons b r=>
  by_cases hb:b=45
  ·subst hb
   have e1:Lib.hasPrefix (45::r) [45]=Oc:=by simp[Lib.hasPrefix]
   have e2:own (45::r)=r:=by unfold own Lib.trimPrefix;rw[if_pos e1];rfl
   rw[e2] at hdec
   rw[e1,e2]
   simp[Lib.atoi,hdec]
  ·have e1:Lib.hasPrefix (b::r) [45]=N1:=by simp[Lib.hasPrefix,List.isPrefixOf,Ne.symm hb]
   have e2:own (b::r)=b::r:=by unfold own Lib.trimPrefix;rw[e1];rfl
   rw[e2] at hdec hd
   rw[e1,e2]
   have hb43:b≠43:=by
    intro e;subst e
    simp[gz] at hd
   simp[Lib.atoi,hdec,hb,hb43]
theorem pY(a b:List UInt8)(w:NY)(h:18<a.length∨18<b.length)(ha:a.length≤1000000)(hb:b.length≤1000000):
  Of prog 261 #[.string (tx a),.string (tx b),.int .i64 18] w fun e w'=>e= .returned (.tuple #[.int .i64 0,.int .i64 0,.bool N1])∧On w.heap.size w w':=by
 by_cases h1:18<a.length
 ·clear h
  go_enter func261,ntmps261
  go_wp2
  exact bodyPost_ret (v:= .tuple #[.int .i64 0,.int .i64 0,.bool N1]) (by simp[results,results261,go_sem]) rfl ⟨rfl,Below.refl _ _⟩
 ·have h2:18<b.length:=Ot
  clear h
  go_enter func261,ntmps261
  go_wp2
  exact bodyPost_ret (v:= .tuple #[.int .i64 0,.int .i64 0,.bool N1]) (by simp[results,results261,go_sem]) rfl ⟨rfl,Below.refl _ _⟩
theorem Bl(a:List UInt8)(ha:a.length≤18)(fa:cP a=Oc)(w:NY):
  Of prog 185 #[.string (tx a)] w fun e w'=>e= .returned (.tuple #[.int .i64 (num a),.nilIface])∧On w.heap.size w w':=
 (strconv_Atoi (tx a) (num a) (by rw[av];exact ha) (by rw[bE];exact FU fa) w).mono fun _ _ ⟨h1,t,h2⟩=>⟨h1,by rw[h2];exact Lib.bytesWorld_below _ _ _⟩
theorem jW(a b:List UInt8)(w:NY)(ha:a.length≤18)(hb:b.length≤18)(fa:cP a=Oc)(fb:cP b=Oc):
  Of prog 261 #[.string (tx a),.string (tx b),.int .i64 18] w fun e w'=>e= .returned (.tuple #[.int .i64 (num a),.int .i64 (num b),.bool Oc])∧On w.heap.size w w':=by
 have hnil:=fun W=>run_eql_nil_nil (P:=prog) W 220 Ou
 go_enter func261,ntmps261
 go_wp2_with(go_at_call 185;refine(Bl _ OD OD _).mono ?_;rintro e w1 ⟨rfl,hB1⟩)
 go_quiet (fail)
 go_wp2
 have hB:On w.heap.size w w1:=On.trans OD (On.mono OD (Below.size OD))
 exact bodyPost_ret (v:= .tuple #[.int .i64 (num a),.int .i64 (num b),.bool Oc]) (by simp[results,results261,go_sem]) rfl ⟨rfl,below_drewN hB _⟩
end
section
open Kp
def Bd(B b:Nat)(T:Oo)(p:N2)(rest bs:List N2)(w:NY):Prop:=
 B≤b∧∃v,w.heap[b]?=N3 (.cells (p::v::rest).toArray T (0,0))∧w.ownsRow B 5 1 v bs.length bs∧v.ownBlock≠N3 b
structure KM(T:Oo)(n:Nat):Prop where
 lies:liesAt prog prog.depth T (n/prog.cellsOf T) 0 110 1=Oc
 ne:T≠5
theorem jk:KM 110 2:=⟨Ou,Ov⟩
theorem kT:KM 112 4:=⟨Ou,Ov⟩
def wJ(b:Nat)(p:N2):Prop:=p= .pointer N0∨p= .pointer (N3 ⟨b,0,N0⟩)
abbrev nZ(b:Nat):N2:= .pointer (N3 ⟨b,0,N0⟩)
theorem lJ:(prog.info? 110).map (·.size)=N3 2:=Ou
theorem rA:(prog.info? 5).map (fun i=>(i.zero,i.size,i.bytes))=N3 (N3 (.int .u8 0),1,1):=Ou
theorem fD{w:NY}{b:Nat}{T:Oo}{p v:N2}{rest:List N2}(h:w.heap[b]?=N3 (.cells (p::v::rest).toArray T (0,0))):w.cell? ⟨b,0,N0⟩=N3 p:=by simp[World.cell?,h]
theorem fC{w:NY}{b:Nat}{T:Oo}{p v:N2}{rest:List N2}(h:w.heap[b]?=N3 (.cells (p::v::rest).toArray T (0,0))):w.cell? ⟨b,1,N0⟩=N3 v:=by simp[World.cell?,h]
theorem jG{w:NY}{b:Nat}{T:Oo}{cs:Array N2}(h:w.heap[b]?=N3 (.cells cs T (0,0)))(i:Nat):w.frozen? ⟨b,i,N0⟩=N1:=by simp[World.frozen?,h]
theorem yz{w:NY}{b:Nat}{T:Oo}{cs:List N2}(h:w.heap[b]?=N3 (.cells cs.toArray T (0,0))):w.shape? b=N3 (T,cs.length):=by simp[World.shape?,h]
theorem zD(b:Nat)(w:NY)(h0:w.cell? ⟨b,0,N0⟩=N3 (nZ b)):
  Of prog 214 #[nZ b] w fun e w'=>e= .returned (.tuple #[])∧w'=w:=by
 obtain⟨j,hj,_⟩:=Option.map_eq_some_iff.1 lJ
 go_enter func214,ntmps214
 go_wp2
 rw[Lib.run_neq_ptr_same w _ underlying107 hj]
 go_wp2
 go_end0
 exact⟨rfl,rfl⟩
theorem wL(b:Nat)(T:Oo)(n:Nat)(w:NY)(h0:w.cell? ⟨b,0,N0⟩=N3 (.pointer N0))(hsh:w.shape? b=N3 (T,n))(hn:2≤n)(hT:KM T n)(hfz:w.frozen? ⟨b,0,N0⟩=N1):
  Of prog 214 #[nZ b] w fun e w'=>e= .returned (.tuple #[])∧w'=w.setCell ⟨b,0,N0⟩ (nZ b):=by
 obtain⟨j,hj,hjs⟩:=Option.map_eq_some_iff.1 lJ
 go_enter func214,ntmps214
 go_wp2
 rw[Lib.run_to_unsafe w ⟨b,0,N0⟩ underlying107 underlying270 hj (by rw[hjs];decide) hsh (by show 0<n;omega)]
 simp only[Result.andThen]
 rw[Oper.upon_value]
 go_wp2
 rw[run_callFunc_extern func239 Ou Ou Ou (e:=Extern.AbiNoEscape.same) Ou]
 rw[Lib.run_noEscape]
 simp only[Result.andThen]
 rw[Oper.upon_value]
 go_wp2
 rw[Lib.run_from_unsafe w ⟨b,0,N0⟩ underlying270 underlying107 hj hsh hT.lies]
 simp only[Result.andThen]
 rw[Oper.upon_value]
 go_wp2
 go_end0
 exact⟨rfl,rfl⟩
theorem Cf{w:NY}{b:Nat}{T:Oo}{p v:N2}{rest:List N2}(h:w.heap[b]?=N3 (.cells (p::v::rest).toArray T (0,0)))(x:N2):
  (w.setCell ⟨b,0,N0⟩ x).heap[b]?=N3 (.cells (x::v::rest).toArray T (0,0)):=by simp[World.setCell,Array.getElem?_modify,h]
theorem Ck{w:NY}{b:Nat}{T:Oo}{p v:N2}{rest:List N2}(h:w.heap[b]?=N3 (.cells (p::v::rest).toArray T (0,0)))(x:N2):
  (w.setCell ⟨b,1,N0⟩ x).heap[b]?=N3 (.cells (p::x::rest).toArray T (0,0)):=by simp[World.setCell,Array.getElem?_modify,h]
theorem sZ{w:NY}{B b i n:Nat}{v:N2}{xs:List N2}(h:w.ownsRow B 5 1 v n xs)(hne:v.ownBlock≠N3 b)(x:N2):(w.setCell ⟨b,i,N0⟩ x).ownsRow B 5 1 v n xs:=
 h.kept (row:=N3 b) ⟨rfl,rfl,rfl,by simp[World.setCell],fun k _ hk=>Below.heap_setCell _ _ _ _ (fun e=>hk (by simp[e]))⟩ (Or.inr hne)
structure aK(B b:Nat)(w w':NY):Prop where
 low:On B w w'
 kept:Lib.OthersKept 5 (N3 b) w w'
theorem aK.trans{B b:Nat}{a c d:NY}(h:aK B b a c)(k:aK B b c d):aK B b a d:=⟨h.low.trans k.low,h.kept.trans k.kept⟩
theorem aK.refl(B b:Nat)(w:NY):aK B b w w:=⟨Below.refl _ _,Lib.OthersKept.refl _ _ _⟩
theorem aK.others{B b:Nat}{w w':NY}(h:aK B b w w'){cs:Array N2}{t:Oo}{m:Nat×Nat}(hb:w.heap[b]?=N3 (.cells cs t m)):KeepsOthers w w':=
 ⟨h.low.size,fun k o hk ho=>h.kept k o hk (fun e=>by cases e;rw[hb] at hk;cases hk;cases ho) (fun c fz e=>by subst e;cases ho)⟩
theorem rp(B b:Nat)(T:Oo)(p:N2)(rest bs:List N2)(w:NY)(h:Bd B b T p rest bs w)(hp:wJ b p)(hT:KM T (rest.length+2)):
  Of prog 214 #[nZ b] w fun e w'=>e= .returned (.tuple #[])∧Bd B b T (nZ b) rest bs w'∧aK B b w w':=by
 obtain⟨hB,v,hb,hown,hne⟩:=h
 rcases hp with rfl|rfl
 ·refine(wL b T (rest.length+2) w (fD hb) (yz hb) Ot hT (jG hb 0)).mono ?_
  rintro e w' ⟨rfl,rfl⟩
  exact⟨rfl,⟨hB,v,Cf hb _,sZ hown hne _,hne⟩,(Below.refl _ _).setCell (p:=⟨b,0,N0⟩) hB _,(Lib.OthersKept.refl _ _ _).setCell ⟨b,0,N0⟩ rfl _⟩
 ·refine(zD b w (fD hb)).mono ?_
  rintro e w' ⟨rfl,rfl⟩
  exact⟨rfl,⟨hB,v,hb,hown,hne⟩,aK.refl _ _ _⟩
theorem Fz{B b:Nat}{T:Oo}{p v v':N2}{rest bs':List N2}{w:NY}(hB:B≤b)(hb:w.heap[b]?=N3 (.cells (p::v::rest).toArray T (0,0)))(hown:w.ownsRow B 5 1 v' bs'.length bs')(hTe:T≠5):
  Bd B b T p rest bs' (w.setCell ⟨b,1,N0⟩ v'):=by
 have hne:=Lib.ownBlock_ne hown hb hTe
 exact⟨hB,v',Ck hb _,sZ hown hne _,hne⟩
theorem fP(B b:Nat)(T:Oo)(p:N2)(rest bs:List N2)(s:ByteArray)(w:NY)(h:Bd B b T p rest bs w)(hp:wJ b p)(hT:KM T (rest.length+2))(hlen:bs.length+s.size≤140737488355328)(hBw:B≤w.heap.size):
  Of prog 180 #[nZ b,.string s] w fun e w'=>e= .returned (.tuple #[.int .i64 s.size,.nilIface])∧Bd B b T (nZ b) rest (bs++Lib.strCells s) w'∧aK B b w w':=by
 obtain⟨i0,hi,hz0,hz1,hz2⟩:=info_parts rA
 go_enter func180,ntmps180
 go_wp2_with(go_at_call 214;refine(rp B b T p rest bs _ h hp hT).mono ?_)
 rintro e w1 ⟨rfl,h1,hk1⟩
 obtain⟨hB,v,hbk,hown,hne⟩:=h1
 have c0:=fD hbk
 have c1:=fC hbk
 go_wp2_with(at_builtin;refine Lib.wpList_append_own_string _ rfl _ _ 108 9 rfl B 5 i0 underlying108 underlying9 hi hz0 hz1 hz2 _ _ _ rfl hown s rfl ?c3 ?c4 ?c5 ?_)
 case c3=>unfold Ol;omega
 case c4=>omega
 case c5=>have:=hk1.low.size;omega
 intro v' w2 hown' hgrow _
 have hlt:b<w1.heap.size:=(Od.1 hbk).1
 have hb2:w2.heap[b]?=N3 (.cells (nZ b::v::rest).toArray T (0,0)):=by
  rw[hgrow.block b hlt (fun e=>hne e.symm)]
  exact hbk
 have d0:=fD hb2
 have d1:=fC hb2
 have f1:=jG hb2 1
 obtain⟨ao,n',cap,rfl⟩:∃ao n' cap,v'= .slice ao n' cap:=by
  rcases hown'.2 with⟨hv,_⟩|⟨g,cap,cur,hv,_⟩
  ·exact⟨_,_,_,hv⟩
  ·exact⟨_,_,_,hv⟩
 go_wp2
 go_ret2
 refine⟨rfl,?_,?_,?_⟩
 ·exact Fz hB hb2 (bs':=bs++Lib.strCells s) (by simpa[Lib.strCells_length] using hown') hT.ne
 ·exact(hk1.low.grown hgrow (by have:=hk1.low.size;omega) (fun k hk=>(hown.lt k hk).1)).setCell (p:=⟨b,1,N0⟩) hB _
 ·exact(hk1.kept.grown hgrow (Lib.ownsRow_kind hown)).setCell ⟨b,1,N0⟩ rfl _
theorem rf(B b:Nat)(T:Oo)(p:N2)(rest bs:List N2)(c:Int)(w:NY)(h:Bd B b T p rest bs w)(hp:wJ b p)(hT:KM T (rest.length+2))(hlen:bs.length+1≤140737488355328)(hBw:B≤w.heap.size):
  Of prog 179 #[nZ b,.int .u8 c] w fun e w'=>e= .returned .nilIface∧Bd B b T (nZ b) rest (bs++[.int .u8 c]) w'∧aK B b w w':=by
 obtain⟨i0,hi,hz0,hz1,hz2⟩:=info_parts rA
 go_enter func179,ntmps179
 go_wp2_with(go_at_call 214;refine(rp B b T p rest bs _ h hp hT).mono ?_)
 rintro e w1 ⟨rfl,h1,hk1⟩
 obtain⟨hB,v,hbk,hown,hne⟩:=h1
 have c0:=fD hbk
 have c1:=fC hbk
 go_wp2_with(at_builtin;refine wpList_append_own _ rfl _ _ 108 rfl B 5 i0 (.int .u8 0) 1 1 underlying108 hi hz0 hz1 hz2 rfl Ov _ _ _ rfl (hown.alloc _) ⟨w1.heap.size,0,N0⟩ 1 1 [.int .u8 c] rfl rfl ?c1 ?c2 ?c3 ?c4 ?c5 ?_)
 case c1=>
  intro j u hj
  match j,hj with
  |0,hj=>simp at hj;subst hj;simp[Addr.add]
 case c2=>intro u hu;simp at hu;subst hu;rfl
 case c3=>unfold Ol;omega
 case c4=>omega
 case c5=>have:=hk1.low.size;simp;omega
 intro v' w2 hown' hgrow _
 have hlt:b<w1.heap.size:=(Od.1 hbk).1
 have hb2:w2.heap[b]?=N3 (.cells (nZ b::v::rest).toArray T (0,0)):=by
  rw[hgrow.block b OB (fun e=>hne e.symm),Lib.alloc_old w1 _ b hlt]
  exact hbk
 have d0:=fD hb2
 have d1:=fC hb2
 have f1:=jG hb2 1
 obtain⟨ao,n',cap,rfl⟩:∃ao n' cap,v'= .slice ao n' cap:=by
  rcases hown'.2 with⟨hv,_⟩|⟨g,cap,cur,hv,_⟩
  ·exact⟨_,_,_,hv⟩
  ·exact⟨_,_,_,hv⟩
 go_wp2
 go_ret
 refine⟨rfl,?_,?_,?_⟩
 ·exact Fz hB hb2 (bs':=bs++[.int .u8 c]) (by simpa using hown') hT.ne
 ·exact((hk1.low.alloc (by have:=hk1.low.size;omega) _).grown hgrow (by have:=hk1.low.size;simp;omega) (fun k hk=>(hown.lt k hk).1)).setCell (p:=⟨b,1,N0⟩) hB _
 ·exact((hk1.kept.alloc _).grown hgrow (Lib.ownsRow_kind (hown.alloc _))).setCell ⟨b,1,N0⟩ rfl _
theorem Dh(B b:Nat)(T:Oo)(p:N2)(rest bs:List N2)(w:NY)(h:Bd B b T p rest bs w):
  Of prog 178 #[nZ b] w fun e w'=>e= .returned (.int .i64 bs.length)∧w'=w:=by
 obtain⟨hB,v,hbk,hown,hne⟩:=h
 have c1:=fC hbk
 obtain⟨ao,cap,rfl⟩:∃ao cap,v= .slice ao bs.length cap:=by
  rcases hown.2 with⟨hv,h0⟩|⟨g,cap,cur,hv,_⟩
  ·exact⟨_,_,by rw[hv,h0]⟩
  ·exact⟨_,_,hv⟩
 clear hbk hown hne
 go_enter func178,ntmps178
 go_wp2
 go_ret
 exact⟨rfl,rfl⟩
end
section
open Kp
theorem jZ(B b:Nat)(T:Oo)(p:N2)(rest:List N2)(l:List UInt8)(w:NY)(h:Bd B b T p rest (Lib.byteCells l) w)(h0:l≠[]):
  Of prog 62 #[nZ b] w fun e w'=>e= .returned (.string (tx l))∧aK B b w w':=by
 obtain⟨hB,v,hbk,hown,hne⟩:=h
 have hl0:l.length≠0:=by simpa using h0
 rw[Lib.byteCells_length] at hown
 obtain⟨g,cap,cur,rfl,hbg,hg,hnc,hcm,hcs,htake⟩:∃g cap cur,v= .slice (N3 ⟨g,0,N0⟩) l.length cap∧B≤g∧w.heap[g]?=N3 (.cells cur 5 (0,0))∧l.length≤cap∧cap≤Ol∧cur.size=cap*1∧cur.toList.take (l.length*1)=Lib.byteCells l:=by
  rcases hown.2 with⟨_,hz⟩|⟨g,cap,cur,hv,r⟩
  ·exact absurd hz hl0
  ·exact⟨g,cap,cur,hv,r⟩
 have c1:w.drew.cell? ⟨b,1,N0⟩=N3 (.slice (N3 ⟨g,0,N0⟩) l.length cap):=fC (w:=w.drew) hbk
 have hSD:(Builtin.unsafeSliceData_ #[108] 152 #[.slice (N3 ⟨g,0,N0⟩) l.length cap]).run prog w.drew= .ok (.pointer (N3 ⟨g,0,N0⟩)) w.drew:=
  Lib.run_unsafeSliceData_row _ _ _ _ _ _ Ot
 have hUS:(Builtin.unsafeString_ #[152,3] 9 #[.pointer (N3 ⟨g,0,N0⟩),.int .i64 l.length]).run prog w.drew= .ok (.string (tx l)) (w.drew.freeze ⟨g,0,N0⟩ l.length):=by
  refine Lib.run_unsafeString_row w.drew 152 3 9 5 underlying152 Ou g cur.size (by have hg':w.drew.heap[g]?=N3 (.cells cur 5 (0,0)):=hg;simp[World.shape?,hg']) l h0 Ot (by unfold Ol at hcm;omega) ?_
  intro j x hx
  have:=hown.cells (g:=g) rfl j (.int .u8 x.toNat) (by simp[Lib.byteCells,hx])
  exact this
 clear hown htake hne hcm hnc hcs
 have mixed:prog.follows .mixedOrders=Oc:=Ou
 go_enter func62,ntmps62
 go_wp2
 go_region_o
 all_goals(go_wp2;go_ret;exact⟨rfl,Lib.below_freeze (Below.drew (Below.refl B w)) (p:=⟨g,0,N0⟩) hbg _,(Lib.OthersKept.refl _ _ _).drew.freeze ⟨g,0,N0⟩ _ ⟨_,_,hg⟩⟩)
end
section
open Kp
attribute [local go_sem] Oper.semAt_some
abbrev aL(w:NY):Prop:=Lib.TabIs prog w "internal/strconv.uint64pow10" .u64 Lib.pow10Tab
theorem aL.below{w w':NY}(h:aL w){B0:Nat}(hb:On B0 w w')(hB:w.heap.size≤B0):aL w':=Cn h hb hB
theorem fT(n:Int)(w:NY)(h0: -9223372036854775808≤n)(h1:n≤9223372036854775807)(ht:aL w):
  Of prog 181 #[.int .i64 n] w fun e w'=>e= .returned (.string (tx (Lib.itoa n)))∧On w.heap.size w w':=
 (strconv_Itoa n h0 h1 w ht).mono fun _ _ ⟨e,k,os,hw⟩=>⟨e,by rw[hw];exact⟨rfl,rfl,rfl,by simp[Sort.grow,NY.drewN],fun b hb=>by simp[Sort.grow,NY.drewN,Array.getElem?_append,hb]⟩⟩
theorem kY(n k:Nat)(hk:1≤k)(h:n<10^k):Lib.nDigits n≤k:=by
 induction k generalizing n with
 |zero=>omega
 |succ k ih=>
  by_cases h10:n<10
  ·rw[Lib.nDigits_small h10];omega
  ·rw[Lib.nDigits,dif_neg h10]
   have:n/10<10^k:=by rw[Nat.div_lt_iff_lt_mul Ov];rw[Nat.pow_succ] at h;exact h
   have hk1:1≤k:=by
    rcases Nat.eq_zero_or_pos k with h0|h0
    ·subst h0;simp at this;omega
    ·exact h0
   have:=ih (n/10) hk1 this
   omega
theorem lg(n:Nat)(h:n<1000000000):(Lib.itoa (n:Int)).length≤9:=by
 unfold Lib.itoa
 rw[if_neg Ot,Int.toNat_natCast,Lib.decDigits_length]
 exact kY n 9 Ov h
theorem AI(n:Int):Lib.itoa n≠[]:=by
 unfold Lib.itoa
 split
 ·simp
 ·intro h
  have:=congrArg List.length h
  rw[Lib.decDigits_length,Lib.nDigits] at this
  split at this<;>simp at this
def xV(first:Bool)(n:Nat):List UInt8:=if first then Lib.itoa n else Lib.repeatL [48] (9-(Lib.itoa n).length)++Lib.itoa n
def nz(l:List Nat):Nat→List UInt8
 |0=>[]
 |k+1=>nz l k++xV (k==0) (fv l (l.length-1-k))
def ME(l:List Nat):List UInt8:=if l=[] then [48] else nz l l.length
theorem gV(c:Nat):(Lib.repeatL [48] c).length=c:=by
 induction c with
 |zero=>rfl
 |succ c ih=>simp[Lib.repeatL,ih]
theorem F6{b:Bool}{n:Nat}(h:n<1000000000):(xV b n).length≤9:=by
 have:=lg n h
 unfold xV
 split
 ·exact this
 ·simp[gV];omega
theorem sU{l:List Nat}(h:Small l)(k:Nat):(nz l k).length≤9*k:=by
 induction k with
 |zero=>simp[nz]
 |succ k ih=>
  have:=F6 (b:=k==0) (ai h (l.length-1-k))
  simp[nz];omega
theorem E9{l:List Nat}{k:Nat}(hk:0<k):nz l k≠[]:=by
 cases k with
 |zero=>omega
 |succ k=>
  intro h
  simp[nz,xV] at h
  obtain⟨_,h⟩:=h
  split at h
  ·exact AI _ h
  ·simp at h;exact AI _ h.2
theorem bT(a b:List UInt8):Lib.byteCells (a++b)=Lib.byteCells a++Lib.byteCells b:=by simp[Lib.byteCells]
theorem qA{w w':NY}{n0 B n:Nat}{v:N2}{xs:List N2}(h:w.ownsRow B 5 1 v n xs)(hs:al n0 w w'):w'.ownsRow B 5 1 v n xs:=by
 obtain⟨hl,h|⟨g,cap,cur,e,hb,hh,r⟩⟩:=h
 ·exact⟨hl,.inl h⟩
 ·exact⟨hl,.inr ⟨g,cap,cur,e,hb,hs.cells _ _ _ _ hh,r⟩⟩
theorem Bd.stays{B b n0:Nat}{T:Oo}{p:N2}{rest bs:List N2}{w w':NY}(h:Bd B b T p rest bs w)(hs:al n0 w w'):Bd B b T p rest bs w':=by
 obtain⟨hB,v,hb,hown,hne⟩:=h
 exact⟨hB,v,hs.cells _ _ _ _ hb,qA hown hs,hne⟩
theorem Bd.below{B b:Nat}{T:Oo}{p:N2}{rest bs:List N2}{w w':NY}(h:Bd B b T p rest bs w)(hs:On w.heap.size w w'):Bd B b T p rest bs w':=
 h.stays (al.aH hs (NZ _))
theorem dS.bd{B b c:Nat}{t:Oo}{u v:N2}{w w':NY}(h:dS w c t u v)(hk:aK B b w w')(hc:c≠b)(ht:t≠5):dS w' c t u v:=
 hk.kept c _ h (fun e=>hc (by cases e;rfl)) (fun cs fz e=>ht (by cases e;rfl))
theorem Bx.bd{B b c:Nat}{t:Oo}{v:N2}{w w':NY}(h:Bx w c t v)(hk:aK B b w w')(hc:c≠b)(ht:t≠5):Bx w' c t v:=
 hk.kept c _ h (fun e=>hc (by cases e;rfl)) (fun cs fz e=>ht (by cases e;rfl))
def Gi(neg:Bool):List UInt8:=if neg then [45] else []
theorem ub(neg:Bool):(Gi neg).length≤1:=by cases neg<;>simp[Gi]
def AV(neg:Bool)(l:List Nat):List UInt8:=if l=[] then [48] else Gi neg++nz l l.length
theorem CH(l:List Nat):AV N1 l=ME l:=by unfold AV ME Gi;simp
structure H5(neg:Bool)(bi:Nat)(w:NY)(l:List Nat)(A:Option Addr)(ca:Nat)(k:Nat)(W:NY):Prop where
 x:dS W w.heap.size 292 (.bool neg) (.slice A l.length ca)
 bd:∃p,wJ (w.heap.size+1) p∧Bd w.heap.size (w.heap.size+1) 110 p [] (Lib.byteCells (Gi neg++nz l k)) W
 it:Bx W bi 25 (.slice A l.length ca)
 bi:w.heap.size+2≤bi
 low:On w.heap.size w W
theorem H5.stays{neg:Bool}{bi:Nat}{w:NY}{l:List Nat}{A:Option Addr}{ca k n0:Nat}{W W':NY}(h:H5 neg bi w l A ca k W)(hs:al n0 W W')(hn:w.heap.size≤n0):H5 neg bi w l A ca k W':=by
 obtain⟨p,hp,hb⟩:=h.bd
 exact⟨h.x.stays hs,⟨p,hp,hb.stays hs⟩,h.it.stays hs,h.bi,h.low.trans (hs.below.mono hn)⟩
theorem H5.sl{neg:Bool}{bi:Nat}{w:NY}{l:List Nat}{A:Option Addr}{ca k:Nat}{W:NY}(h:H5 neg bi w l A ca k W)(ha:aR w w.heap.size (.slice A l.length ca) l):aR W w.heap.size (.slice A l.length ca) l:=ha.below h.low
theorem nS{neg:Bool}{bi:Nat}{w W2 W6:NY}{l:List Nat}{A:Option Addr}{ca k:Nat}(h:H5 neg bi w l A ca k W2)(hk:aK w.heap.size (w.heap.size+1) W2 W6)
  (hb:Bd w.heap.size (w.heap.size+1) 110 (nZ (w.heap.size+1)) [] (Lib.byteCells (Gi neg++nz l (k+1))) W6):
  KeepsOthers W2 W6∧H5 neg bi w l A ca (k+1) W6:=by
 obtain⟨p,hp,hB,v,hb0,_⟩:=h.bd
 exact⟨hk.others hb0,h.x.bd hk Ot Ov,⟨_,.inr rfl,hb⟩,h.it.bd hk (by have:=h.bi;omega) Ov,h.bi,h.low.trans hk.low⟩
theorem aK.aH{B b:Nat}{w w':NY}(h:On w.heap.size w w')(hB:B≤w.heap.size):aK B b w w':=
 ⟨h.mono hB,(Lib.OthersKept.refl _ _ _).below h⟩
def FD(w:NY)(neg:Bool)(l:List Nat)(e:Ending)(w':NY):Prop:=e= .returned (.string (tx (AV neg l)))∧On w.heap.size w w'
theorem zw(w:NY)(neg:Bool)(A:Option Addr)(ca:Nat):Of prog 297 #[.agg #[.bool neg,.slice A 0 ca]] w (FD w neg []):=by
 go_enter func297,ntmps297
 go_wp2
 go_ret
 exact⟨rfl,(Below.refl _ _).alloc (NZ _) _⟩
theorem zn(w:NY)(neg:Bool)(l:List Nat)(v:N2)(ha:aR w w.heap.size v l)(hs:Small l)(hlen:l.length≤1000000)(ht:aL w):
  Of prog 297 #[.agg #[.bool neg,v]] w (FD w neg l):=by
 obtain⟨A,ca,rfl,ha1,ha2,hac⟩:=id ha
 clear hac
 unfold Ol at ha2
 by_cases hne:l=[]
 ·subst hne;exact zw w neg A ca
 have hpos:0<l.length:=List.length_pos_iff.2 hne
 have HNE:=NW hne
 have HT:=NW ht
 have HS:=NW hs
 clear hne ht hs
 have hl0:((l.length:Int)==0)=N1:=OF
 refine(callsIn_wide (n:=9)).1 (callsIn_of_wp_marks func297 rfl trivial ?_)
 simp only[ntmps297,List.size_toArray,List.length_cons,List.length_nil,Nat.reduceAdd,Nat.reduceSub,Array.replicate_succ,Array.replicate_zero,List.push_toArray,List.append_toArray,List.nil_append,List.cons_append]
 cases neg with
 |false=>
  gi_wp2_with(refine⟨trivial,?_⟩;gi_at_call 293;refine(callsIn_wide.2 (eT _ _ _ _)).mono ?_;rintro e w' ⟨rfl,rfl⟩)
  refine ef (gf:=322) (lb:=#[.pointer (N3 ⟨w.heap.size+2,0,N0⟩)]) rfl (enters_of func322 Ou rfl)
   (eC (w.heap.size+2) A l.length ca (fun j x=>x=fv l j) Ot) (fun k x ⟨_,_,e⟩=>PS)
   (H5 N1 (w.heap.size+2) w l A ca) (fun _ _ _=>False) (fun k W W' h hs=>h.stays hs OB) (fun c k W W' h hs=>h) (fun k W h=>oG h.it (h.sl ha)) ?start ?round ?done ?stop
  case start=>
   have hB:=mC w (.cells #[.bool N1,.slice A l.length ca] 292) (.cells #[.pointer N0,.slice N0 0 0] 110) (.cells #[.slice A l.length ca] 25)
   refine⟨((dS.at_ rfl).alloc _).alloc _,⟨_,.inl rfl,Ot,.slice N0 0 0,?_,⟨rfl,.inl ⟨rfl,rfl⟩⟩,by simp[Value.ownBlock]⟩,Bx.at_ Ow,Ot,hB⟩
   exact Ag _ _ _ _
  case round=>
   intro lp k x W K hk hx hi hK
   obtain⟨v,rfl,rfl⟩:=hx
   have HK:=NW hK
   clear hK
   gi_wp2
   refine HK.out _ (fun W2 hi2 _=> ?_)
   clear HK hi
   have hsz:=hi2.low.size
   have hfv:fv l (l.length-1-k)<1000000000:=ai HS.out _
   have hshort:=lg _ hfv
   have hwl:=sU HS.out k
   have hsg:=ub N1
   have hci:=NW (fT (fv l (l.length-1-k)) W2 Ot Ot (HT.out.below hi2.low (NZ _)))
   have HI:=NW hi2
   clear hi2
   obtain⟨n,hn⟩:∃n,fv l (l.length-1-k)=n:=⟨_,rfl⟩
   rw[hn] at hci hfv hshort⊢
   have HN:=NW hn
   clear hn
   by_cases hk0:k=0
   ·subst hk0
    have ht:decide (((l.length-1-0:Nat):Int)<(l.length:Int)-1)=N1:=Oz
    gi_wp2_with(refine⟨trivial,?_⟩;first|(gi_at_call 181;refine(CallsIn.inRound lp (callsIn_wide.2 hci.out)).mono ?_;rintro e W3 ⟨rfl,hB3⟩;have H3:=NW (HI.out.stays (al.aH hB3 (NZ _)) hsz);have c3:=H3.out.x.dv)|(gi_at_call 180;skip))
    have h3:=H3.out
    obtain⟨p,hp,hb3⟩:=h3.bd
    have hsz3:=h3.low.size
    refine(CallsIn.inRound lp (callsIn_wide.2 (fP w.heap.size (w.heap.size+1) _ p [] _ (tx (Lib.itoa (n:Int))) W3 hb3 hp jk (by rw[Lib.byteCells_length,List.length_append,av];omega) hsz3))).mono ?_
    rintro e W6 ⟨rfl,hb6,hk6⟩
    clear h3 hp hb3
    gi_wp2
    refine nS HI.out ((aK.aH hB3 hsz).trans hk6) ?_
    have e1:nz l (0+1)=nz l 0++Lib.itoa n:=by
     show nz l 0++xV Oc _=_
     rw[HN.out];rfl
    rw[e1,←List.append_assoc,bT]
    exact hb6
   ·have ht:decide (((l.length-1-k:Nat):Int)<(l.length:Int)-1)=Oc:=OH
    obtain⟨c,hc⟩:∃c:Nat,9-(Lib.itoa (n:Int)).length=c:=⟨_,rfl⟩
    have hcI:(9:Int)-((Lib.itoa (n:Int)).length:Int)=(c:Int):=Ot
    have hc9:c≤9:=Ot
    have HC:=NW hc
    clear hc
    gi_wp2_with(refine⟨trivial,?_⟩;first|(gi_at_call 181;refine(CallsIn.inRound lp (callsIn_wide.2 hci.out)).mono ?_;rintro e W3 ⟨rfl,hB3⟩;have H3:=NW (HI.out.stays (al.aH hB3 (NZ _)) hsz);have c3:=H3.out.x.dv)|(gi_at_call 323;refine(CallsIn.inRound lp (callsIn_wide.2 (strings_Repeat ⟨#[48]⟩ c _ Ot (by show 1*c≤_;omega)))).mono ?_;rintro e W4 ⟨rfl,hB4⟩)|(gi_at_call 180;skip))
    have h3:=H3.out
    have h4:=h3.stays (al.aH hB4 (NZ _)) h3.low.size
    have k4:=(aK.aH (b:=w.heap.size+1) hB3 hsz).trans (aK.aH hB4 h3.low.size)
    obtain⟨p,hp,hb4⟩:=h4.bd
    have hsz4:=h4.low.size
    refine(CallsIn.inRound lp (callsIn_wide.2 (fP w.heap.size (w.heap.size+1) _ p [] _ (tx (Lib.repeatL [48] c)) W4 hb4 hp jk (by rw[Lib.byteCells_length,List.length_append,av,gV];omega) hsz4))).mono ?_
    rintro e W5 ⟨rfl,hb5,hk5⟩
    have HK5:=NW (k4.trans hk5)
    have hsz5:=(h4.low.trans hk5.low).size
    clear h3 h4 hp hb4 k4 hk5
    gi_wp2_with(refine⟨trivial,?_⟩;gi_at_call 180;skip)
    refine(CallsIn.inRound lp (callsIn_wide.2 (fP w.heap.size (w.heap.size+1) _ _ [] _ (tx (Lib.itoa (n:Int))) W5 hb5 (.inr rfl) jk Pf hsz5))).mono ?_
    rintro e W6 ⟨rfl,hb6,hk6⟩
    gi_wp2
    refine nS HI.out (HK5.out.trans hk6) ?_
    have e1:nz l (k+1)=nz l k++Lib.repeatL [48] c++Lib.itoa n:=by
     show nz l k++xV (k==0) _=_
     have e0:(k==0)=N1:=by simpa using hk0
     rw[HN.out,e0,List.append_assoc,←HC.out];rfl
    rw[e1,←List.append_assoc,←List.append_assoc,bT,bT]
    exact hb6
  case done=>
   rintro D W hD h hK
   obtain⟨p,hp,hb⟩:=h.bd
   have cs:=NW (jZ w.heap.size (w.heap.size+1) _ p [] (Gi N1++nz l l.length) W hb (fun h=>E9 hpos (List.append_eq_nil_iff.1 h).2))
   have HI:=NW h
   clear h hb
   gi_wp2_with(refine⟨trivial,?_⟩;gi_at_call 62;refine(callsIn_wide.2 cs.out).mono ?_;rintro e w' ⟨rfl,hB'⟩)
   have k1:w'.heap[D]?=N3 (.deferred (N3 [])):=hB'.kept D _ hK (fun e=>by cases e;simp at hD;omega) (fun c fz e=>by cases e)
   refine⟨Ow,.inl ⟨_,_,rfl,run_takeDeferred k1,?_⟩⟩
   have hs:=al.putObj (n0:=w.heap.size) (.deferred N0) k1 rfl Pp
   refine⟨.string (tx (Gi N1++nz l l.length)),by simp[results,results297,go_sem],?_,HI.out.low.trans (hB'.low.trans hs.below)⟩
   unfold AV;rw[if_neg HNE.out]
  case stop=>intro D c k W hD hk h;exact h.elim
 |true=>
  have b0:=NW (show Bd w.heap.size (w.heap.size+1) 110 (.pointer N0) [] (Lib.byteCells []) ((w.alloc (.cells #[.bool Oc,.slice A l.length ca] 292)).alloc (.cells #[.pointer N0,.slice N0 0 0] 110)) from
   ⟨Ot,.slice N0 0 0,by have:=NY.alloc_heap_new (w.alloc (.cells #[.bool Oc,.slice A l.length ca] 292)) (.cells #[.pointer N0,.slice N0 0 0] 110);rw[Oi] at this;exact this,⟨rfl,.inl ⟨rfl,rfl⟩⟩,by simp[Value.ownBlock]⟩)
  have X0:=NW (show dS ((w.alloc (.cells #[.bool Oc,.slice A l.length ca] 292)).alloc (.cells #[.pointer N0,.slice N0 0 0] 110)) w.heap.size 292 (.bool Oc) (.slice A l.length ca) from(dS.at_ rfl).alloc _)
  have L0:=NW (show On w.heap.size w ((w.alloc (.cells #[.bool Oc,.slice A l.length ca] 292)).alloc (.cells #[.pointer N0,.slice N0 0 0] 110)) from((Below.refl _ _).alloc (NZ _) _).alloc Ow _)
  have cb:=NW (rf w.heap.size (w.heap.size+1) _ (.pointer N0) [] (Lib.byteCells []) 45 _ b0.out (.inl rfl) jk (by simp[Lib.byteCells]) L0.out.size)
  gi_wp2_with(refine⟨trivial,?_⟩;first
   |(gi_at_call 293;refine(callsIn_wide.2 (eT _ _ _ _)).mono ?_;rintro e w' ⟨rfl,rfl⟩)
   |(gi_at_call 179;refine(callsIn_wide.2 cb.out).mono ?_;rintro e W1 ⟨rfl,hb1,hk1⟩;have X1:=NW (X0.out.bd hk1 Ot Ov);have hz1:=hk1.low.size;have hc1:=X1.out.dv))
  have hz1':w.heap.size+2≤W1.heap.size:=by simp at hz1;omega
  refine ef (gf:=322) (lb:=#[.pointer (N3 ⟨W1.heap.size,0,N0⟩)]) rfl (enters_of func322 Ou rfl)
   (eC (W1.heap.size) A l.length ca (fun j x=>x=fv l j) Ot) (fun k x ⟨_,_,e⟩=>PS)
   (H5 Oc (W1.heap.size) w l A ca) (fun _ _ _=>False) (fun k W W' h hs=>h.stays hs OB) (fun c k W W' h hs=>h) (fun k W h=>oG h.it (h.sl ha)) ?start ?round ?done ?stop
  case start=>
   have hA:On W1.heap.size W1 (W1.alloc (.cells #[.slice A l.length ca] 25)):=(Below.refl _ _).alloc (NZ _) _
   exact⟨X1.out.alloc _,⟨_,.inr rfl,hb1.below hA⟩,Bx.at_ rfl,hz1',(L0.out.trans hk1.low).trans (hA.mono Ot)⟩
  case round=>
   intro lp k x W K hk hx hi hK
   obtain⟨v,rfl,rfl⟩:=hx
   have HK:=NW hK
   clear hK
   gi_wp2
   refine HK.out _ (fun W2 hi2 _=> ?_)
   clear HK hi
   have hsz:=hi2.low.size
   have hfv:fv l (l.length-1-k)<1000000000:=ai HS.out _
   have hshort:=lg _ hfv
   have hwl:=sU HS.out k
   have hsg:=ub Oc
   have hci:=NW (fT (fv l (l.length-1-k)) W2 Ot Ot (HT.out.below hi2.low (NZ _)))
   have HI:=NW hi2
   clear hi2
   obtain⟨n,hn⟩:∃n,fv l (l.length-1-k)=n:=⟨_,rfl⟩
   rw[hn] at hci hfv hshort⊢
   have HN:=NW hn
   clear hn
   by_cases hk0:k=0
   ·subst hk0
    have ht:decide (((l.length-1-0:Nat):Int)<(l.length:Int)-1)=N1:=Oz
    gi_wp2_with(refine⟨trivial,?_⟩;first|(gi_at_call 181;refine(CallsIn.inRound lp (callsIn_wide.2 hci.out)).mono ?_;rintro e W3 ⟨rfl,hB3⟩;have H3:=NW (HI.out.stays (al.aH hB3 (NZ _)) hsz);have c3:=H3.out.x.dv)|(gi_at_call 180;skip))
    have h3:=H3.out
    obtain⟨p,hp,hb3⟩:=h3.bd
    have hsz3:=h3.low.size
    refine(CallsIn.inRound lp (callsIn_wide.2 (fP w.heap.size (w.heap.size+1) _ p [] _ (tx (Lib.itoa (n:Int))) W3 hb3 hp jk (by rw[Lib.byteCells_length,List.length_append,av];omega) hsz3))).mono ?_
    rintro e W6 ⟨rfl,hb6,hk6⟩
    clear h3 hp hb3
    gi_wp2
    refine nS HI.out ((aK.aH hB3 hsz).trans hk6) ?_
    have e1:nz l (0+1)=nz l 0++Lib.itoa n:=by
     show nz l 0++xV Oc _=_
     rw[HN.out];rfl
    rw[e1,←List.append_assoc,bT]
    exact hb6
   ·have ht:decide (((l.length-1-k:Nat):Int)<(l.length:Int)-1)=Oc:=OH
    obtain⟨c,hc⟩:∃c:Nat,9-(Lib.itoa (n:Int)).length=c:=⟨_,rfl⟩
    have hcI:(9:Int)-((Lib.itoa (n:Int)).length:Int)=(c:Int):=Ot
    have hc9:c≤9:=Ot
    have HC:=NW hc
    clear hc
    gi_wp2_with(refine⟨trivial,?_⟩;first|(gi_at_call 181;refine(CallsIn.inRound lp (callsIn_wide.2 hci.out)).mono ?_;rintro e W3 ⟨rfl,hB3⟩;have H3:=NW (HI.out.stays (al.aH hB3 (NZ _)) hsz);have c3:=H3.out.x.dv)|(gi_at_call 323;refine(CallsIn.inRound lp (callsIn_wide.2 (strings_Repeat ⟨#[48]⟩ c _ Ot (by show 1*c≤_;omega)))).mono ?_;rintro e W4 ⟨rfl,hB4⟩)|(gi_at_call 180;skip))
    have h3:=H3.out
    have h4:=h3.stays (al.aH hB4 (NZ _)) h3.low.size
    have k4:=(aK.aH (b:=w.heap.size+1) hB3 hsz).trans (aK.aH hB4 h3.low.size)
    obtain⟨p,hp,hb4⟩:=h4.bd
    have hsz4:=h4.low.size
    refine(CallsIn.inRound lp (callsIn_wide.2 (fP w.heap.size (w.heap.size+1) _ p [] _ (tx (Lib.repeatL [48] c)) W4 hb4 hp jk (by rw[Lib.byteCells_length,List.length_append,av,gV];omega) hsz4))).mono ?_
    rintro e W5 ⟨rfl,hb5,hk5⟩
    have HK5:=NW (k4.trans hk5)
    have hsz5:=(h4.low.trans hk5.low).size
    clear h3 h4 hp hb4 k4 hk5
    gi_wp2_with(refine⟨trivial,?_⟩;gi_at_call 180;skip)
    refine(CallsIn.inRound lp (callsIn_wide.2 (fP w.heap.size (w.heap.size+1) _ _ [] _ (tx (Lib.itoa (n:Int))) W5 hb5 (.inr rfl) jk Pf hsz5))).mono ?_
    rintro e W6 ⟨rfl,hb6,hk6⟩
    gi_wp2
    refine nS HI.out (HK5.out.trans hk6) ?_
    have e1:nz l (k+1)=nz l k++Lib.repeatL [48] c++Lib.itoa n:=by
     show nz l k++xV (k==0) _=_
     have e0:(k==0)=N1:=by simpa using hk0
     rw[HN.out,e0,List.append_assoc,←HC.out];rfl
    rw[e1,←List.append_assoc,←List.append_assoc,bT,bT]
    exact hb6
  case done=>
   rintro D W hD h hK
   obtain⟨p,hp,hb⟩:=h.bd
   have cs:=NW (jZ w.heap.size (w.heap.size+1) _ p [] (Gi Oc++nz l l.length) W hb (fun h=>E9 hpos (List.append_eq_nil_iff.1 h).2))
   have HI:=NW h
   clear h hb
   gi_wp2_with(refine⟨trivial,?_⟩;gi_at_call 62;refine(callsIn_wide.2 cs.out).mono ?_;rintro e w' ⟨rfl,hB'⟩)
   have k1:w'.heap[D]?=N3 (.deferred (N3 [])):=hB'.kept D _ hK (fun e=>by cases e;simp at hD;omega) (fun c fz e=>by cases e)
   refine⟨Ow,.inl ⟨_,_,rfl,run_takeDeferred k1,?_⟩⟩
   have hs:=al.putObj (n0:=w.heap.size) (.deferred N0) k1 rfl Pp
   refine⟨.string (tx (Gi Oc++nz l l.length)),by simp[results,results297,go_sem],?_,HI.out.low.trans (hB'.low.trans hs.below)⟩
   unfold AV;rw[if_neg HNE.out]
  case stop=>intro D c k W hD hk h;exact h.elim
end
end Go.Proofs.YtnpihidbkhehjaaGreatDoor
namespace Kp
structure Bv(A V n k:Nat)(u q:List Nat):Prop where
 small:Small u
 smallq:Small q
 len:u.length=q.length+n
 hk:k≤q.length
 eq:A=S (fv u) u.length+B^(q.length-k)*S (sh (fv q) (q.length-k)) k*V
 zero:∀i,q.length-k+n≤i→fv u i=0
 seg:S (sh (fv u) (q.length-k)) n<V
theorem xn(f:Nat→Nat)(n:Nat):f n*B^n≤S f (n+1):=by rw[bn];exact Nat.le_add_left _ _
theorem AA{l:List Nat}{j x k:Nat}(hj:j<l.length):fv (l.set j x) k=if k=j then x else fv l k:=by
 unfold fv
 simp only[N8,List.getElem?_set]
 by_cases h:j=k
 ·subst h;simp[hj]
 ·simp[h,Ne.symm h]
theorem Small.Nd{l:List Nat}(h:Small l){j x:Nat}(hx:x<B):Small (l.set j x):=by
 intro d hd
 rcases List.mem_or_eq_of_mem_set hd with h1|h1
 ·exact h d h1
 ·rw[h1];exact hx
theorem Bv.lt{A V n k:Nat}{u q:List Nat}(h:Bv A V n k u q)(hk:k<q.length):S (sh (fv u) (q.length-1-k)) (n+1)<B*V:=by
 have hs:=h.seg
 have e:q.length-k=(q.length-1-k)+1:=Ot
 rw[e] at hs
 rw[H7]
 have hb:fv u (q.length-1-k)<B:=ai h.small _
 have:B*(S (sh (fv u) (q.length-1-k+1)) n+1)≤B*V:=Nat.mul_le_mul_left _ hs
 rw[Nat.mul_add] at this
 omega
theorem Bv.top{A V n k:Nat}{u q v:List Nat}(h:Bv A V n k u q)(hk:k<q.length)(hv:Small v)(hn:v.length=n)(h1:1≤n)(hV:val v=V):fv u (q.length-1-k+n)≤fv v (n-1):=by
 have hl:=h.lt hk
 have ht:fv u (q.length-1-k+n)*B^n≤S (sh (fv u) (q.length-1-k)) (n+1):=xn (sh (fv u) (q.length-1-k)) n
 obtain⟨m,rfl⟩:∃m,n=m+1:=⟨n-1,Ot⟩
 have hVlt:V<(fv v m+1)*B^m:=by
  rw[←hV];unfold val;rw[hn,bn,Nat.add_mul,Nat.one_mul]
  have:S (fv v) m<B^m:=nI (fun k _=>ai hv k)
  omega
 have h3:B*V<B*((fv v m+1)*B^m):=Nat.mul_lt_mul_of_pos_left hVlt Ov
 have e:B*((fv v m+1)*B^m)=(fv v m+1)*B^(m+1):=by rw[Nat.pow_succ,Nat.mul_left_comm,Og B]
 rw[e] at h3
 have h4:fv u (q.length-1-k+(m+1))*B^(m+1)<(fv v m+1)*B^(m+1):=Ot
 have h5:=Nat.lt_of_mul_lt_mul_right h4
 show _≤fv v m
 omega
theorem Bv.step{A V n k d X:Nat}{u u3 q:List Nat}(h:Bv A V n k u q)(hk:k<q.length)(hV:V<B^n)
  (hl:u3.length=u.length)(hs:Small u3)(hsame:∀i,i<q.length-1-k∨q.length-1-k+(n+1)≤i→fv u3 i=fv u i)
  (hX:S (sh (fv u3) (q.length-1-k)) (n+1)=X)(he:X+d*V=S (sh (fv u) (q.length-1-k)) (n+1))(hlt:S (sh (fv u) (q.length-1-k)) (n+1)<(d+1)*V):
  d<B∧Bv A V n (k+1) u3 (q.set (q.length-1-k) d):=by
 have hltB:=h.lt hk
 obtain⟨j,hj⟩:∃j,q.length-1-k=j:=⟨_,rfl⟩
 have e1:q.length-(k+1)=j:=Ot
 have e2:q.length-k=j+1:=Ot
 obtain⟨hsm,hsq,hlen,hkq,heq,hz,hseg⟩:=h
 rw[hj] at hsame hX he hlt hltB⊢
 rw[e2] at heq hz hseg
 have hXV:X<V:=by rw[Nat.add_mul,Nat.one_mul] at hlt;omega
 have hVpos:0<V:=Ot
 have hd:d<B:=by
  have:d*V<B*V:=Ot
  exact Nat.lt_of_mul_lt_mul_right this
 refine⟨hd,hs,Small.Nd hsq hd,by simpa[hl] using hlen,OB,?_,?_,?_⟩
 ·rw[List.length_set,e1,hl]
  have ht:=zh (f:=fv u) (g:=fv u3) (m:=u.length) (j:=j) (n:=n+1) Ot (fun i hi=>hsame i (.inl hi)) (fun i hi _=>hsame i (.inr hi))
  have q1:S (sh (fv (q.set j d)) j) (k+1)=d+B*S (sh (fv q) (j+1)) k:=by
   rw[H7,AA Ot,if_pos rfl,dO (g:=sh (fv q) (j+1))]
   intro i _;unfold sh;rw[AA Ot,if_neg Ot]
  rw[q1,heq]
  rw[hX,←he] at ht
  have x1:B^j*(d+B*S (sh (fv q) (j+1)) k)*V=B^j*(d*V)+B^(j+1)*S (sh (fv q) (j+1)) k*V:=by
   rw[Nat.mul_add,Nat.add_mul,Nat.pow_succ,Nat.mul_assoc (B^j) d V,Nat.mul_assoc (B^j) B]
  rw[x1]
  have x2:B^j*(X+d*V)=B^j*X+B^j*(d*V):=Nat.mul_add _ _ _
  omega
 ·rw[List.length_set,e1]
  intro i hi
  by_cases hin:i=j+n
  ·subst hin
   have h1:fv u3 (j+n)*B^n≤X:=by rw[←hX];exact xn (sh (fv u3) j) n
   rcases Nat.eq_zero_or_pos (fv u3 (j+n)) with h0|h0
   ·exact h0
   ·have:1*B^n≤fv u3 (j+n)*B^n:=Nat.mul_le_mul_right _ h0
    omega
  ·rw[hsame i (.inr Ot)];exact hz i Ot
 ·rw[List.length_set,e1]
  have:S (sh (fv u3) j) n≤X:=by rw[←hX,bn];exact Nat.le_add_right _ _
  omega
theorem Bv.done{a b f n:Nat}{u q:List Nat}(h:Bv (a*f) (b*f) n q.length u q)(hf:0<f)(hb:0<b):val q=a/b∧val u=(a%b)*f:=by
 obtain⟨hsm,hsq,hlen,hkq,heq,hz,hseg⟩:=h
 rw[Nat.sub_self] at heq hz hseg
 have e0:∀g:Nat→Nat,sh g 0=g:=fun g=>by funext k;unfold sh;rw[Nat.zero_add]
 rw[e0,Nat.pow_zero,Nat.one_mul] at heq
 rw[e0] at hseg
 have hR:S (fv u) u.length=S (fv u) n:=Jj Ot (fun i hi _=>hz i Ot)
 have:=zv (Q:=S (fv q) q.length) (R:=S (fv u) u.length) hf hb (by rw[heq,Nat.add_comm]) (by rw[hR];exact hseg)
 exact this
theorem Bv.start{A V n:Nat}{u:List Nat}{mq:Nat}(hu:Small u)(hl:u.length=mq+n)(hA:val u=A)(hz:fv u (u.length-1)=0)(h1:1≤n)(hV:B^(n-1)≤V):
  Bv A V n 0 u (List.replicate mq 0):=by
 refine⟨hu,?_,PO,Nat.zero_le _,?_,?_,?_⟩
 ·intro d hd;rw[List.eq_of_mem_replicate hd];decide
 ·simp[S];rw[←hA];rfl
 ·intro i hi
  simp at hi
  exact ju Ot
 ·simp
  obtain⟨m,rfl⟩:∃m,n=m+1:=⟨n-1,Ot⟩
  rw[bn]
  have:sh (fv u) mq m=0:=by
   have:u.length-1=mq+m:=Ot
   rw[this] at hz;exact hz
  rw[this,Nat.zero_mul,Nat.add_zero]
  have h2:S (sh (fv u) mq) m<B^m:=nI (fun k _=>ai hu _)
  show _<V
  exact Nat.lt_of_lt_of_le h2 hV
end Kp
namespace Go.Proofs.YtnpihidbkhehjaaGreatDoor
section
open Kp
theorem aR.new{w:NY}{v:N2}{l:List Nat}(h:aR w w.heap.size v l)(o:Obj):aR (w.alloc o) (w.alloc o).heap.size v l:=
 (h.below ((Below.refl _ _).alloc (NZ _) o)).more Ow
theorem aR.grow{w w':NY}{v:N2}{l:List Nat}(h:aR w w.heap.size v l)(hb:On w.heap.size w w'):aR w' w'.heap.size v l:=(h.below hb).more hb.size
theorem Bq.sl{w w':NY}{v:N2}{l:List Nat}(h:Bq w w' v l):aR w' w'.heap.size v l:=by
 obtain⟨g,cap,rfl,hg,hr⟩:=h
 exact hr.sl hr.lt
def ki(w:NY)(a b:List Nat)(e:Ending)(w':NY):Prop:=
 ∃vq vr ql rl,e= .returned (.tuple #[vq,vr])∧aR w' w'.heap.size vq ql∧Canon ql∧val ql=val a/val b∧aR w' w'.heap.size vr rl∧Canon rl∧val rl=val a%val b∧On w.heap.size w w'
theorem C4:Canon []:=⟨fun _ h=>Ox,lC⟩
theorem Iw(w:NY)(b0:Nat):aR w b0 (.slice N0 0 0) []:=⟨N0,0,rfl,Ow,by simp[Ol],fun h=>by simp at h⟩
theorem xO(w:NY)(a b:List Nat)(va vb:N2)(ha:aR w w.heap.size va a)(hb:aR w w.heap.size vb b)(hca:Canon a)(hcb:Canon b)(hlen:a.length≤1000000)(hlt:val a<val b):
  Of prog 263 #[va,vb] w (ki w a b):=by
 have hcmp:=NW (fV (w.alloc (.cells #[.slice N0 0 0] 25)) a b va vb (ha.new _) (hb.new _) hca hcb Ot)
 have HA:=NW ha
 obtain⟨A,ca,rfl,_,_,hac⟩:=ha
 obtain⟨A',cb,rfl,_,_,hbc⟩:=hb
 clear hac hbc
 go_enter func263,ntmps263
 go_wp2_with(go_at_call 290;refine hcmp.out.mono ?_;rintro e w1 ⟨c,rfl,h1,h2,hB⟩;have hc:c<0:=h1.2 hlt;clear h1 h2;have b1:=((Bx.new w 25 (.slice N0 0 0)).below hB Ow).cell;have f1:=((Bx.new w 25 (.slice N0 0 0)).below hB Ow).frozen)
 have hfin:ki w a b (.returned (.tuple #[.slice N0 0 0,.slice A a.length ca])) (w1.setCell ⟨w.heap.size,0,N0⟩ (.slice N0 0 0)):=by
  have hb1:On w.heap.size w (w1.setCell ⟨w.heap.size,0,N0⟩ (.slice N0 0 0)):=(((Below.refl _ _).alloc (NZ _) _).trans (hB.mono Ow)).setCell (p:=⟨w.heap.size,0,N0⟩) (NZ _) _
  exact⟨_,_,[],a,rfl,Iw _ _,C4,by rw[Nat.div_eq_of_lt hlt];rfl,HA.out.grow hb1,hca,(Nat.mod_eq_of_lt hlt).symm,hb1⟩
 have hcell:=World.cell?_setCell_same' w1 ⟨w.heap.size,0,N0⟩ (.slice N0 0 0) (by rw[b1];rfl)
 exact bodyPost_ret (v:= .tuple #[.slice N0 0 0,.slice A a.length ca]) (by simp[results,results263,go_sem,hcell]) rfl hfin
theorem yu(w:NY)(a:List Nat)(d:Nat)(va vb:N2)(ha:aR w w.heap.size va a)(hb:aR w w.heap.size vb [d])(hca:Canon a)(hcb:Canon [d])(hlen:a.length≤1000000)(hge:val [d]≤val a):
  Of prog 263 #[va,vb] w (ki w a [d]):=by
 have hcmp:=NW (fV (w.alloc (.cells #[.slice N0 0 0] 25)) a [d] va vb (ha.new _) (hb.new _) hca hcb Ot)
 have hd1:d<1000000000:=hcb.small d Ow
 have hd0:1≤d:=by have:d≠0:=mf.last (l:=[]) hcb.trim;omega
 have HA:=NW ha
 obtain⟨A,ca,rfl,_,_,hac⟩:=ha
 obtain⟨A',cb,rfl,_,_,hbc⟩:=hb
 obtain⟨bb,bo,rfl,hbb,hcell⟩:=hbc Ow
 have hx:w.cell? ⟨bb,bo,N0⟩=N3 (.int .i64 d):=hcell 0 Ow
 clear hac hbc hcell
 go_enter func263,ntmps263
 go_wp2_with(first
  |(go_at_call 290;refine hcmp.out.mono ?_;rintro e w1 ⟨c,rfl,h1,h2,hB⟩;have hc:¬c<0:=fun h=>absurd (h1.1 h) Ot;clear h1 h2;have b1:=((Bx.new w 25 (.slice N0 0 0)).below hB Ow);have x1:w1.cell? ⟨bb,bo,N0⟩=N3 (.int .i64 d):=((hB.cell (p:=⟨bb,bo,N0⟩) OB).trans (NY.cell?_alloc_lt w _ ⟨bb,bo,N0⟩ hbb)).trans hx)
  |(go_at_call 291;refine(pJ w1 a _ d (HA.out.grow (((Below.refl _ _).alloc (NZ _) _).trans (hB.mono Ow))) hca.small hd0 hd1 Ot).mono ?_;rintro e w2 ⟨vq,vr,ql,rl,rfl,hq,hcq,hvq,hr,hcr,hvr,hB2⟩;obtain⟨gq,cq,rfl,hgq,hrq⟩:=hq;obtain⟨gr,cr,rfl,hgr,hrr⟩:=hr;have bx2:=b1.below hB2 b1.lt;have b2:=bx2.cell;have f2:=bx2.frozen))
 have hne1:gq≠w.heap.size:=by have:=b1.lt;omega
 have hne2:gr≠w.heap.size:=by have:=b1.lt;omega
 have hcell:=World.cell?_setCell_same' w2 ⟨w.heap.size,0,N0⟩ (.slice (N3 ⟨gq,0,N0⟩) ql.length cq) (by rw[b2];rfl)
 have hb1:On w.heap.size w (w2.setCell ⟨w.heap.size,0,N0⟩ (.slice (N3 ⟨gq,0,N0⟩) ql.length cq)):=
  ((((Below.refl _ _).alloc (NZ _) _).trans (hB.mono Ow)).trans (hB2.mono (by have:=b1.lt;omega))).setCell (p:=⟨w.heap.size,0,N0⟩) (NZ _) _
 have hfin:ki w a [d] (.returned (.tuple #[.slice (N3 ⟨gq,0,N0⟩) ql.length cq,.slice (N3 ⟨gr,0,N0⟩) rl.length cr])) (w2.setCell ⟨w.heap.size,0,N0⟩ (.slice (N3 ⟨gq,0,N0⟩) ql.length cq)):=by
  have r1:=hrq.cI (p:=⟨w.heap.size,0,N0⟩) hne1 (.slice (N3 ⟨gq,0,N0⟩) ql.length cq)
  have r2:=hrr.cI (p:=⟨w.heap.size,0,N0⟩) hne2 (.slice (N3 ⟨gq,0,N0⟩) ql.length cq)
  exact⟨_,_,ql,rl,rfl,r1.sl r1.lt,hcq,by rw[val_one];exact hvq,r2.sl r2.lt,hcr,by rw[val_one];exact hvr,hb1⟩
 exact bodyPost_ret (v:= .tuple #[.slice (N3 ⟨gq,0,N0⟩) ql.length cq,.slice (N3 ⟨gr,0,N0⟩) rl.length cr]) (by simp[results,results263,go_sem,hcell]) rfl hfin
end
section
open Kp
theorem Bx.only{g:Nat}{W W':NY}{b:Nat}{t:Oo}{v:N2}(h:Bx W b t v)(ho:cV g W W')(hb:b≠g):Bx W' b t v:=(ho.block b hb).trans h
theorem Row.only{g g' cap:Nat}{W W':NY}{l:List Nat}(h:Row W g' cap l)(ho:cV g W W')(hb:g'≠g):Row W' g' cap l:=h.keep (ho.block g' hb)
theorem cV.again{g:Nat}{W W':NY}{b:Nat}{t:Oo}{v:N2}(ho:cV g W W')(h:Bx W' b t v):cV g W (W'.setCell ⟨b,0,N0⟩ v):=by
 refine⟨ho.os,ho.tape,ho.output,by simpa[World.setCell] using ho.size,fun k hk=> ?_⟩
 by_cases hb:k=b
 ·subst hb
  rw[←ho.block k hk]
  exact(h.put v).trans h.symm
 ·exact(Below.heap_setCell W' ⟨b,0,N0⟩ v k hb).trans (ho.block k hk)
theorem cV.others{g:Nat}{W W':NY}(ho:cV g W W'){cs:Array N2}{t:Oo}{m:Nat×Nat}(hg:W.heap[g]?=N3 (.cells cs t m)):KeepsOthers W W':=
 ⟨by rw[ho.size];exact NZ _,fun k o hk hc=>by
  by_cases e:k=g
  ·subst e;rw[hg] at hk;cases hk;cases hc
  ·exact(ho.block k e).trans hk⟩
structure Hg(w:NY)(nb gu cu gb cv:Nat)(tv:List Nat)(A mq m:Nat)(k:Nat)(u q:List Nat)(W:NY):Prop where
 bq:Bx W w.heap.size 25 (.slice (N3 ⟨nb+2,0,N0⟩) mq mq)
 bu:Bx W nb 25 (.slice (N3 ⟨gu,0,N0⟩) m cu)
 bv:Bx W (nb+1) 25 (.slice (N3 ⟨gb,0,N0⟩) tv.length cv)
 it:Bx W (nb+3) 25 (.slice (N3 ⟨nb+2,0,N0⟩) mq mq)
 ru:Row W gu cu u
 rv:Row W gb cv tv
 rq:Row W (nb+2) mq q
 lu:u.length=m
 lq:q.length=mq
 dm:Bv A (val tv) tv.length k u q
 low:On w.heap.size w W
theorem Hg.stays{w:NY}{nb gu cu gb cv:Nat}{tv:List Nat}{A mq m k:Nat}{u q:List Nat}{n0:Nat}{W W':NY}(h:Hg w nb gu cu gb cv tv A mq m k u q W)(hs:al n0 W W')(hn:w.heap.size≤n0):
  Hg w nb gu cu gb cv tv A mq m k u q W':=
 ⟨h.bq.stays hs,h.bu.stays hs,h.bv.stays hs,h.it.stays hs,h.ru.stays hs,h.rv.stays hs,h.rq.stays hs,h.lu,h.lq,h.dm,h.low.trans (hs.below.mono hn)⟩
def Kb(w:NY)(nb gu cu gb cv:Nat)(tv:List Nat)(A mq m:Nat)(k:Nat)(W:NY):Prop:=∃u q,Hg w nb gu cu gb cv tv A mq m k u q W
theorem Hg.back{w:NY}{nb gu cu gb cv:Nat}{tv:List Nat}{A mq m k:Nat}{u q:List Nat}{W:NY}(h:Hg w nb gu cu gb cv tv A mq m k u q W):
  Av (nb+3) (N3 ⟨nb+2,0,N0⟩) mq mq (fun _ _=>True) W:=
 ⟨h.it.cell,fun _=>⟨nb+2,0,rfl,fun j hj=>⟨_,by rw[Nat.zero_add];exact h.rq.cell (by rw[h.lq];exact hj),trivial⟩⟩⟩
structure Fw(W:NY)(gu cu:Nat)(tv u:List Nat)(j:Nat)(d:Nat)(x:List Nat)(W':NY):Prop where
 row:Row W' gu cu x
 len:x.length=u.length
 small:Small x
 same:∀i,i<j∨j+(tv.length+1)≤i→fv x i=fv u i
 seg:S (sh (fv x) j) (tv.length+1)=S (sh (fv u) j) (tv.length+1)
 lt:S (sh (fv u) j) (tv.length+1)<(d+1)*val tv
 bound:d≤2000000000
 only:cV gu W W'
def De(W:NY)(gu cu:Nat)(tv u:List Nat)(j:Nat)(d:N2)(W':NY):Prop:=∃dN x,d= .int .i64 (dN:Nat)∧Fw W gu cu tv u j dN x W'
theorem p9{l:List Nat}:S (fv l) (l.length+1)=val l:=gK Ot
theorem Fw.less{W W1 W2 W3:NY}{gu cu:Nat}{tv u x y z:List Nat}{j d c c2:Nat}(h:Fw W gu cu tv u j d x W1)(ht:j2 W1 gu cu x tv j d (tv.length+1) c y W2)
  (hr:ir W2 gu cu y tv j d (tv.length+1) c2 z W3)(hc:0<c):1≤d∧Fw W gu cu tv u j (d-1) z W3:=by
 obtain⟨row,len,small,same,seg,lt,bound,only⟩:=h
 obtain⟨tR,tl,tS,tsame,teq,tc,tO⟩:=ht
 obtain⟨rR,rl,rS,rsame,req,rc,rO⟩:=hr
 rw[p9] at teq req
 have hU:S (sh (fv x) j) (tv.length+1)<B^(tv.length+1):=nI (fun k _=>ai small _)
 have hX:S (sh (fv y) j) (tv.length+1)<B^(tv.length+1):=nI (fun k _=>ai tS _)
 have hZ:S (sh (fv z) j) (tv.length+1)<B^(tv.length+1):=nI (fun k _=>ai rS _)
 have hbig:S (sh (fv x) j) (tv.length+1)<d*val tv:=by
  have:=BS teq hX hU
  rcases Nat.lt_or_ge (S (sh (fv x) j) (tv.length+1)) (d*val tv) with h|h
  ·exact h
  ·have:=this.2 h;omega
 have hz:S (sh (fv z) j) (tv.length+1)=S (sh (fv x) j) (tv.length+1):=ur teq req hZ hU
 have h1:1≤d:=by
  rcases Nat.eq_zero_or_pos d with h0|h0
  ·subst h0;omega
  ·exact h0
 refine⟨h1,rR,Ot,rS,fun i hi=> ?_,by rw[hz,seg],by rw[Nat.sub_add_cancel h1,←seg];exact hbig,Ot,(only.trans tO).trans rO⟩
 rw[rsame i hi,tsame i hi,same i hi]
theorem Hg.next{w W W1 W2:NY}{nb gu cu gb cv:Nat}{tv:List Nat}{A mq m k d:Nat}{u q x y:List Nat}(h:Hg w nb gu cu gb cv tv A mq m k u q W)(hk:k<mq)(htv:Small tv)
  (hgw:w.heap.size<gu)(hgu:gu<nb)(hgb:gb<nb)(hne:gu≠gb)(hwn:w.heap.size<nb)
  (hi:Fw W gu cu tv u (mq-1-k) d x W1)(ht:j2 W1 gu cu x tv (mq-1-k) d (tv.length+1) 0 y W2):
  d<1000000000∧KeepsOthers W (W2.setCell ⟨nb+2,mq-1-k,N0⟩ (.int .i64 d))∧Hg w nb gu cu gb cv tv A mq m (k+1) y (q.set (mq-1-k) d) (W2.setCell ⟨nb+2,mq-1-k,N0⟩ (.int .i64 d)):=by
 obtain⟨row,len,small,same,seg,lt,bound,only⟩:=hi
 obtain⟨tR,tl,tS,tsame,teq,tc,tO⟩:=ht
 have lq:=h.lq
 subst lq
 rw[p9,seg,Nat.zero_mul,Nat.add_zero] at teq
 have hO:cV gu W W2:=only.trans tO
 obtain⟨hd,hM⟩:=h.dm.step hk (mn htv) Ot tS (fun i hi=>by rw[tsame i hi,same i hi]) rfl teq lt
 obtain⟨cur,hcur,_⟩:=h.ru
 refine⟨hd,(hO.others hcur).trans (KeepsOthers.setCell _ _ _),(h.bq.only hO Ot).cI OB _,(h.bu.only hO Ot).cI Ow _,(h.bv.only hO Ot).cI Ow _,(h.it.only hO Ot).cI Ow _,
  tR.cI OB _,(h.rv.only hO Ot).cI OB _,(h.rq.only hO Ot).set Ot d,by have:=h.lu;omega,Ow,hM,?_⟩
 exact(h.low.trans (hO.below Ot)).setCell (p:=⟨nb+2,_,N0⟩) OB _
end
end Go.Proofs.YtnpihidbkhehjaaGreatDoor
