/- ChangeOnly of kingpostlaw58: part 2 of its proof (merged and shortened by program). -/
import Derived.BigRegionIn
import Derived.Deep.RegionWith
import Derived.Lib.SlTrimSet
import Derived.Lib.ItoaNum
import Derived.Lib.AtoiAll
import Derived.Lib.Strings
import Derived.Lib.Atoi
import Derived.Lib.AtoiTie
import Derived.Shelf.Strings.SlTrimAscii
import Derived.Test.YtnpihidbkhehjaaGreatDoorM00
import Derived.Test.YtnpihidbkhehjaaGreatDoorM01
set_option linter.unusedVariables false
set_option linter.unusedSimpArgs false
set_option linter.defProp false
set_option maxHeartbeats 8000000
set_option maxRecDepth 100000
open Go.RowKit Go.Shelf Go.Proofs.Tryz
open Array renaming getElem?_eq_some_iff→Od
open Bool renaming false→N1,true→Oc
open Go renaming World→NY,Value→N2,undef→N7,wpOp_step→Ob,Calls→Of,maxLen→Ol,TypeId→Oo
open Go.AllReady renaming cons→Oj,nil→Oq
open Go.IntKind renaming i64→Oe
open Go.IntWalk renaming i64_in→Om
open Go.Lib renaming hid→NW
open Go.RowKit renaming intOf→Oh,Below→On
open Go.World renaming size_alloc→Oi
open List renaming getD_eq_getElem?_getD→N8,length_map→N9,getElem?_eq_getElem→Oa
open Nat renaming le_refl→NZ,mul_comm→Og,le_trans→Ok
open Option renaming none→N0,some→N3
open Go.Proofs.YtnpihidbkhehjaaGreatDoor
namespace Go.Proofs.YtnpihidbkhehjaaGreatDoor
section
open Kp
attribute [local go_sem] Oper.semAt_some
def Bx(W:NY)(b:Nat)(t:Oo)(v:N2):Prop:=W.heap[b]?=N3 (.cells #[v] t (0,0))
theorem Bx.cell{W:NY}{b:Nat}{t:Oo}{v:N2}(h:Bx W b t v):W.cell? ⟨b,0,N0⟩=N3 v:=cell_of_heap h
theorem Bx.frozen{W:NY}{b:Nat}{t:Oo}{v:N2}(h:Bx W b t v):W.frozen? ⟨b,0,N0⟩=N1:=frozen_of_heap h
theorem Bx.stays{n0:Nat}{W W':NY}{b:Nat}{t:Oo}{v:N2}(h:Bx W b t v)(hs:al n0 W W'):Bx W' b t v:=hs.cells _ _ _ _ h
theorem Bx.lt{W:NY}{b:Nat}{t:Oo}{v:N2}(h:Bx W b t v):b<W.heap.size:=(Od.1 h).1
theorem Bx.cI{W:NY}{b:Nat}{t:Oo}{v:N2}(h:Bx W b t v){p:Addr}(hp:b≠p.block)(u:N2):Bx (W.setCell p u) b t v:=(Below.heap_setCell W p u b hp).trans h
theorem Bx.put{W:NY}{b:Nat}{t:Oo}{v:N2}(h:Bx W b t v)(u:N2):Bx (W.setCell ⟨b,0,N0⟩ u) b t u:=by
 unfold Bx at h⊢
 simp[World.setCell,Array.getElem?_modify,h]
theorem Bx.alloc{W:NY}{b:Nat}{t:Oo}{v:N2}(h:Bx W b t v)(o:Obj):Bx (W.alloc o) b t v:=(Below.heap_alloc W o b h.lt).trans h
theorem Bx.drew{W:NY}{b:Nat}{t:Oo}{v:N2}(h:Bx W b t v):Bx W.drew b t v:=h
theorem Bx.drewN{W:NY}{b:Nat}{t:Oo}{v:N2}(h:Bx W b t v)(n:Nat):Bx (W.drewN n) b t v:=h
theorem Bx.below{B0:Nat}{W W':NY}{b:Nat}{t:Oo}{v:N2}(h:Bx W b t v)(hb:On B0 W W')(hlt:b<B0):Bx W' b t v:=(hb.block b hlt).trans h
theorem Bx.new(W:NY)(t:Oo)(v:N2):Bx (W.alloc (.cells #[v] t)) W.heap.size t v:=NY.alloc_heap_new W _
theorem Bx.at_{W:NY}{t:Oo}{v:N2}{n:Nat}(h:W.heap.size=n):Bx (W.alloc (.cells #[v] t)) n t v:=by subst h;exact Bx.new W t v
theorem Row.stays{n0:Nat}{W W':NY}{g cap:Nat}{l:List Nat}(h:Row W g cap l)(hs:al n0 W W'):Row W' g cap l:=by
 obtain⟨cur,hh,r⟩:=h
 exact⟨cur,hs.cells _ _ _ _ hh,r⟩
theorem Row.cI{W:NY}{g cap:Nat}{l:List Nat}(h:Row W g cap l){p:Addr}(hp:g≠p.block)(u:N2):Row (W.setCell p u) g cap l:=h.keep (Below.heap_setCell W p u g hp)
theorem Row.alloc{W:NY}{g cap:Nat}{l:List Nat}(h:Row W g cap l)(o:Obj):Row (W.alloc o) g cap l:=h.keep (Below.heap_alloc W o g h.lt)
theorem Row.below{B0:Nat}{W W':NY}{g cap:Nat}{l:List Nat}(h:Row W g cap l)(hb:On B0 W W')(hlt:g<B0):Row W' g cap l:=h.keep (hb.block g hlt)
structure Jo(w:NY)(a:List Nat)(d:Nat)(A:Option Addr)(ca:Nat)(k:Nat)(q:List Nat)(r:Nat)(W:NY):Prop where
 bd:Bx W w.heap.size 3 (.int .i64 d)
 bq:Bx W (w.heap.size+1) 25 (.slice (N3 ⟨w.heap.size+2,0,N0⟩) a.length a.length)
 row:Row W (w.heap.size+2) a.length q
 br:Bx W (w.heap.size+3) 3 (.int .i64 r)
 it:Bx W (w.heap.size+4) 25 (.slice A a.length ca)
 sa:aR W w.heap.size (.slice A a.length ca) a
 len:q.length=a.length
 small:Small q
 lt:r<d
 eq:S (sh (fv a) (a.length-k)) k=d*S (sh (fv q) (a.length-k)) k+r
 low:On w.heap.size w W
theorem Jo.stays{w:NY}{a:List Nat}{d:Nat}{A:Option Addr}{ca k:Nat}{q:List Nat}{r n0:Nat}{W W':NY}(h:Jo w a d A ca k q r W)(hs:al n0 W W')(hn:w.heap.size≤n0):Jo w a d A ca k q r W':=
 ⟨h.bd.stays hs,h.bq.stays hs,h.row.stays hs,h.br.stays hs,h.it.stays hs,h.sa.stays hs,h.len,h.small,h.lt,h.eq,h.low.trans (hs.below.mono hn)⟩
def Fs(w:NY)(a:List Nat)(d:Nat)(A:Option Addr)(ca:Nat)(k:Nat)(W:NY):Prop:=∃q r,Jo w a d A ca k q r W
theorem oG{W:NY}{Bs:Nat}{A:Option Addr}{ca b0:Nat}{a:List Nat}(hb:Bx W Bs 25 (.slice A a.length ca))(hs:aR W b0 (.slice A a.length ca) a):
  Av Bs A a.length ca (fun j x=>x=fv a j) W:=by
 refine⟨hb.cell,fun hn=> ?_⟩
 obtain⟨_,_,e,_,_,hc⟩:=hs
 injection e with e1 e2 e3
 subst e1 e3
 obtain⟨b,off,e,_,hcell⟩:=hc hn
 exact⟨b,off,e,fun j hj=>⟨_,hcell j hj,rfl⟩⟩
theorem IG{w W:NY}{a:List Nat}{d:Nat}{A:Option Addr}{ca k:Nat}{q:List Nat}{r:Nat}(h:Jo w a d A ca k q r W)(hk:k<a.length)(ha:Small a):
  (fv a (a.length-1-k)+r*1000000000)/d<1000000000∧
  Jo w a d A ca (k+1) (q.set (a.length-1-k) ((fv a (a.length-1-k)+r*1000000000)/d)) ((fv a (a.length-1-k)+r*1000000000)%d)
   ((W.setCell ⟨w.heap.size+2,a.length-1-k,N0⟩ (.int .i64 ((fv a (a.length-1-k)+r*1000000000)/d:Nat))).setCell ⟨w.heap.size+3,0,N0⟩ (.int .i64 ((fv a (a.length-1-k)+r*1000000000)%d:Nat))):=by
 obtain⟨bd,bq,row,br,it,sa,len,small,lt,eq,low⟩:=h
 have hb:=ai ha (a.length-1-k)
 have hs:=F0 lt hb rfl
 have e1:a.length-(k+1)=a.length-1-k:=Ot
 have e2:a.length-k=(a.length-1-k)+1:=Ot
 refine⟨hs.1,(bd.cI Ow _).cI Ow _,(bq.cI Ow _).cI Ow _,(row.set Ot _).cI Ow _,(br.cI Ow _).put _,(it.cI Ow _).cI Ow _,?_,by simpa using len,Small.set small hs.1,hs.2,?_,?_⟩
 ·exact sa.keep fun p hp=>(World.cell?_setCell_other _ _ _ _ (fun e=>by subst e;simp at hp;omega)).trans (World.cell?_setCell_other _ _ _ _ (fun e=>by subst e;simp at hp;omega))
 ·rw[e1,H7,H7,←e2]
  have e3:fv (q.set (a.length-1-k) ((fv a (a.length-1-k)+r*1000000000)/d)) (a.length-1-k)=(fv a (a.length-1-k)+r*1000000000)/d:=by rw[eY Ot,if_pos rfl]
  have e4:S (sh (fv (q.set (a.length-1-k) ((fv a (a.length-1-k)+r*1000000000)/d))) (a.length-k)) k=S (sh (fv q) (a.length-k)) k:=dO (fun i _=>by unfold sh;rw[eY Ot,if_neg Ot])
  rw[e3,e4]
  exact zA eq rfl
 ·exact(low.setCell (p:=⟨w.heap.size+2,_,N0⟩) Ow _).setCell (p:=⟨w.heap.size+3,0,N0⟩) Ow _
theorem iw{w W:NY}{a:List Nat}{d:Nat}{A:Option Addr}{ca k:Nat}{q:List Nat}{r g1 o1 g2 o2:Nat}{v1 v2:N2}
  (h:Jo w a d A ca (k+1) q r ((W.setCell ⟨g1,o1,N0⟩ v1).setCell ⟨g2,o2,N0⟩ v2)):
  KeepsOthers W ((W.setCell ⟨g1,o1,N0⟩ v1).setCell ⟨g2,o2,N0⟩ v2).drew∧Fs w a d A ca (k+1) ((W.setCell ⟨g1,o1,N0⟩ v1).setCell ⟨g2,o2,N0⟩ v2).drew:=
 ⟨((KeepsOthers.setCell _ _ _).trans (KeepsOthers.setCell _ _ _)).trans (KeepsOthers.drew _),q,r,h.bd,h.bq,h.row,h.br,h.it,h.sa,h.len,h.small,h.lt,h.eq,⟨h.low.os,h.low.tape,h.low.output,h.low.size,h.low.block⟩⟩
def kV(n:Nat):Array N2:=madeCells (Value.int .i64 0).cells n
theorem iy(n:Nat)(hn:n≤1000000000)(W:NY):
  (Instr.makeSlice 25 (.int .i64 (n:Int)) (.int .i64 (n:Int))).run prog W= .ok (.slice (N3 ⟨W.heap.size,0,N0⟩) n n) (W.alloc (.cells (kV n) 3)):=by
 obtain⟨i0,hi,hz0,hz1,hz2⟩:=info_parts dW
 have hr:=run_make (P:=prog) W 25 3 i0 _ underlying25 hi hz0 .i64 .i64 n n Ot Ot PQ Ot
 simp only[Int.toNat_natCast,hz1,Nat.mul_one] at hr
 exact hr
theorem mG(W:NY)(n:Nat)(hn:n≤1000000000):Row (W.alloc (.cells (kV n) 3)) W.heap.size n (List.replicate n 0):=by
 refine⟨kV n,NY.alloc_heap_new W _,by simp[kV,size_madeCells],Ow,OE,fun j hj=> ?_⟩
 simp at hj
 rw[iU]
 simp[kV,madeCells,Value.cells,hj,Nat.mod_one]
theorem Cu{a r d:Nat}(h1:a<1000000000)(h2:r<1000000000)(h3:1≤d):
  Oe.wrap (((a:Int)+(r:Int)*1000000000).tdiv d)=(((a+r*1000000000)/d:Nat):Int):=by
 rw[IntWalk.i64_quo _ _ ⟨Ot,Ot,Ot⟩];simp
theorem Co{a r d:Nat}:((a:Int)+(r:Int)*1000000000).tmod d=(((a+r*1000000000)%d:Nat):Int):=by
 rw[IntWalk.rem_in _ _ Ot];simp
theorem row_one(X:NY)(r:Nat):Row (X.alloc (.cells #[.int .i64 r] 3)) X.heap.size 1 [r]:=by
 refine⟨#[.int .i64 r],NY.alloc_heap_new X _,rfl,Ow,OE,fun j hj=> ?_⟩
 have:j=0:=by simpa using hj
 subst this;rfl
def DZ(w:NY)(a:List Nat)(d:Nat)(e:Ending)(w':NY):Prop:=
 ∃vq vr ql rl,e= .returned (.tuple #[vq,vr])∧Bq w w' vq ql∧Canon ql∧val ql=val a/d∧Bq w w' vr rl∧Canon rl∧val rl=val a%d∧On w.heap.size w w'
theorem GB{a q:List Nat}{d r:Nat}(hl:q.length=a.length)(hr:r<d)(he:S (sh (fv a) (a.length-a.length)) a.length=d*S (sh (fv q) (a.length-a.length)) a.length+r):
  val q=val a/d∧r=val a%d:=by
 have e1:S (sh (fv a) (a.length-a.length)) a.length=val a:=dO (fun k _=>by unfold sh;congr 1;omega)
 have e2:S (sh (fv q) (a.length-a.length)) a.length=val q:=by unfold val;rw[hl];exact dO (fun k _=>by unfold sh;congr 1;omega)
 rw[e1,e2] at he
 rw[he]
 constructor
 ·rw[Nat.mul_add_div Ot,Nat.div_eq_of_lt hr,Nat.add_zero]
 ·rw[Nat.mul_add_mod,Nat.mod_eq_of_lt hr]
theorem val_one(r:Nat):val [r]=r:=by simp[val,S,fv]
theorem Jq{w W:NY}{a:List Nat}{d:Nat}{A:Option Addr}{ca:Nat}{q:List Nat}{r D:Nat}(h:Jo w a d A ca a.length q r W)(hd1:d<1000000000)(hD:w.heap.size≤D)(hK:W.heap[D]?=N3 (.deferred (N3 []))):
  ((W.alloc (.cells #[.int .i64 r] 3)).setCell ⟨w.heap.size+1,0,N0⟩ (.slice (N3 ⟨w.heap.size+2,0,N0⟩) (aj q).length a.length)).drew.heap[D]?=N3 (.deferred (N3 []))∧
  (((W.alloc (.cells #[.int .i64 r] 3)).setCell ⟨w.heap.size+1,0,N0⟩ (.slice (N3 ⟨w.heap.size+2,0,N0⟩) (aj q).length a.length)).drew.putObj D (.deferred N0)).cell? ⟨w.heap.size+1,0,N0⟩=N3 (.slice (N3 ⟨w.heap.size+2,0,N0⟩) (aj q).length a.length)∧
  DZ w a d (.returned (.tuple #[.slice (N3 ⟨w.heap.size+2,0,N0⟩) (aj q).length a.length,.slice (N3 ⟨W.heap.size,0,N0⟩) (aj [r]).length 1])) (((W.alloc (.cells #[.int .i64 r] 3)).setCell ⟨w.heap.size+1,0,N0⟩ (.slice (N3 ⟨w.heap.size+2,0,N0⟩) (aj q).length a.length)).drew.putObj D (.deferred N0)):=by
 obtain⟨X,hX⟩:∃X,((W.alloc (.cells #[.int .i64 r] 3)).setCell ⟨w.heap.size+1,0,N0⟩ (.slice (N3 ⟨w.heap.size+2,0,N0⟩) (aj q).length a.length)).drew=X:=⟨_,rfl⟩
 have hwW:w.heap.size<W.heap.size:=h.bd.lt
 have k1:X.heap[D]?=N3 (.deferred (N3 [])):=by
  rw[←hX];exact(((KeepsOthers.alloc _ _).trans (KeepsOthers.setCell _ _ _)).trans (KeepsOthers.drew _)).same D _ hK rfl
 have k2:Bx X (w.heap.size+1) 25 (.slice (N3 ⟨w.heap.size+2,0,N0⟩) (aj q).length a.length):=by rw[←hX];exact((h.bq.alloc _).put _).drew
 have k3:Row X (w.heap.size+2) a.length q:=by rw[←hX];exact((h.row.alloc _).cI Ow _).drew
 have k4:Row X W.heap.size 1 [r]:=by
  rw[←hX];exact((row_one W r).cI (by have:=h.bq.lt;simp;omega) _).drew
 have k5:On w.heap.size w X:=by
  rw[←hX];exact(((h.low.alloc Ot _).setCell (p:=⟨w.heap.size+1,0,N0⟩) Ow _)).drew
 rw[hX]
 have hs:=al.putObj (n0:=w.heap.size) (.deferred N0) k1 rfl hD
 obtain⟨v1,v2⟩:=GB h.len h.lt h.eq
 have hr1:Small [r]:=by
  intro x hx
  have e:x=r:=by simpa using hx
  have:=h.lt
  rw[e];show r<1000000000;omega
 refine⟨k1,hs.cell k2.cell,_,_,aj q,aj [r],rfl,⟨_,_,rfl,Ot,(k3.stays hs).trimmed⟩,dA h.small,by rw[eN];exact v1,⟨_,_,rfl,Ot,(k4.stays hs).trimmed⟩,dA hr1,by rw[eN,val_one];exact v2,k5.trans hs.below⟩
theorem pJ(w:NY)(a:List Nat)(va:N2)(d:Nat)(ha:aR w w.heap.size va a)(hsa:Small a)(hd0:1≤d)(hd1:d<1000000000)(hlen:a.length≤2000000):
  Of prog 291 #[va,.int .i64 d] w (DZ w a d):=by
 obtain⟨A,ca,rfl,ha1,ha2,hac⟩:=id ha
 clear hac
 unfold Ol at ha2
 refine(callsIn_wide (n:=9)).1 (callsIn_of_wp_marks func291 rfl trivial ?_)
 simp only[ntmps291,List.size_toArray,List.length_cons,List.length_nil,Nat.reduceAdd,Nat.reduceSub,Array.replicate_succ,Array.replicate_zero,List.push_toArray,List.append_toArray,List.nil_append,List.cons_append]
 have hmk:=iy a.length Ot
 gi_wp2_with(refine⟨trivial,?_⟩;gi_at_call 293;refine(callsIn_wide.2 (eT _ _ _ _)).mono ?_;rintro e w' ⟨rfl,rfl⟩)
 refine ef (gf:=322) (lb:=#[.pointer (N3 ⟨w.heap.size+4,0,N0⟩)]) rfl (enters_of func322 Ou rfl)
  (eC (w.heap.size+4) A a.length ca (fun j x=>x=fv a j) Ot) (fun k x ⟨_,_,e⟩=>PS)
  (Fs w a d A ca) (fun _ _ _=>False) (fun k W W' ⟨q,r,h⟩ hs=>⟨q,r,h.stays hs OB⟩) (fun c k W W' h hs=>h) (fun k W ⟨q,r,h⟩=>oG h.it h.sa) ?start ?round ?done ?stop
 case start=>
  have hB:On w.heap.size w (((((w.alloc (.cells #[.int .i64 d] 3)).alloc (.cells #[.slice (N3 ⟨w.heap.size+1+1,0,N0⟩) a.length a.length] 25)).alloc (.cells (kV a.length) 3)).alloc (.cells #[.int .i64 0] 3)).alloc (.cells #[.slice A a.length ca] 25)):=
   (mC w _ _ _).trans ((((Below.refl _ _).alloc OB _).alloc OB _))
  refine⟨List.replicate a.length 0,0,((((Bx.new w _ _).alloc _).alloc _).alloc _).alloc _,(((Bx.at_ Ow).alloc _).alloc _).alloc _,?_,(Bx.at_ Ow).alloc _,Bx.at_ Ow,ha.below hB,Ow,mS _,Ot,by simp[S],hB⟩
  have:=mG ((w.alloc (.cells #[.int .i64 d] 3)).alloc (.cells #[.slice (N3 ⟨w.heap.size+1+1,0,N0⟩) a.length a.length] 25)) a.length Ot
  simp only[Oi] at this
  exact(this.alloc _).alloc _
 case round=>
  intro l k x W K hk hx hi hK
  obtain⟨v,rfl,rfl⟩:=hx
  have HK:=NW hK
  clear hK
  gi_wp2
  refine HK.out _ (fun W2 hi2 _=> ?_)
  clear HK hi
  obtain⟨q,r,h⟩:=hi2
  have hn:=IG h hk hsa
  have b0:=h.bd.cell
  have b1:=h.bq.cell
  have b2:=h.br.cell
  have f2:=h.br.frozen
  have f3:=h.row.frozen (a.length-1-k)
  have b3:=h.row.cell (j:=a.length-1-k) (by rw[h.len];omega)
  have ba:fv a (a.length-1-k)<1000000000:=ai hsa _
  have hr:r<d:=h.lt
  have i1:((a.length-1-k:Nat):Int)<a.length:=Ot
  have HN:=NW hn.2
  have hq:=hn.1
  clear hn
  have hd2:¬d=0:=Ot
  have hrb:r<1000000000:=Ot
  have hrd:r*1000000000<1000000000000000000:=Ot
  have w6:=Cu (a:=fv a (a.length-1-k)) ba hrb hd0
  have w7:=Co (a:=fv a (a.length-1-k)) (r:=r) (d:=d)
  gi_wp2
  refine wpIn_region_any Ou (eG Ou (by rintro⟨_,_,h⟩;exact h) _ _ _ _ ?_)
  try(change wpAny _ _ _ _ _ _ _ (NY.drew _))
  refine wpAny_take (i:=1) (v:= ?va1) rfl Ou Ou Ou (fun _ _ _ h=>h) (Or.inl ⟨OR,?hya1⟩) ?_
  case hya1=>(intro w;go_simp;try with_reducible rfl)
  refine wpAny_take (i:=2) (v:= ?va2) rfl Ou Ou Ou (fun _ _ _ h=>h) (Or.inl ⟨OR,?hya2⟩) ?_
  case hya2=>(intro w;go_simp;try with_reducible rfl)
  refine wpAny_take (i:=5) (v:= ?va3) rfl Ou Ou Ou (fun _ _ _ h=>h) (Or.inl ⟨OR,?hya3⟩) ?_
  case hya3=>(intro w;go_simp;try with_reducible rfl)
  refine wpAny_ready (rs:=[0,3,6]) Ou Ow ?_
  refine Oj rfl (fun K hK=> ?_) ?_
  ·go_simp
   refine hK _ _ ?_
   clear hK K
   refine wpAny_ready (rs:=[3,6]) Ou Ow ?_
   refine Oj rfl (fun K hK=> ?_) ?_
   ·go_simp
    refine hK _ _ ?_
    clear hK K
    refine wpAny_take (i:=4) (v:= ?va4) rfl Ou Ou Ou (fun _ _ _ h=>h) (Or.inl ⟨OR,?hya4⟩) ?_
    case hya4=>(intro w;go_simp;try with_reducible rfl)
    refine wpAny_take (i:=8) (v:= ?va5) rfl Ou Ou Ou (fun _ _ _ h=>h) (Or.inl ⟨OR,?hya5⟩) ?_
    case hya5=>(intro w;go_simp;try with_reducible rfl)
    refine wpAny_ready (rs:=[6,9]) Ou Ow ?_
    refine Oj rfl (fun K hK=> ?_) ?_
    ·go_simp
     refine hK _ _ ?_
     clear hK K
     refine wpAny_take (i:=7) (v:= ?va6) rfl Ou Ou Ou (fun _ _ _ h=>h) (Or.inl ⟨OR,?hya6⟩) ?_
     case hya6=>(intro w;go_simp;try with_reducible rfl)
     refine wpAny_ready (rs:=[9]) Ou Ow ?_
     refine Oj rfl (fun K hK=> ?_) ?_
     ·go_simp
      refine hK _ _ ?_
      clear hK K
      refine wpAny_ready (rs:=[10]) Ou Ow ?_
      refine Oj rfl (fun K hK=> ?_) ?_
      ·go_simp
       refine hK _ _ ?_
       clear hK K
       refine wpAny_done Ou ?_ _
       gi_wp2
       exact iw HN.out
      exact Oq
     exact Oq
    refine Oj rfl (fun K hK=> ?_) ?_
    ·go_simp
     refine hK _ _ ?_
     clear hK K
     refine wpAny_ready (rs:=[6]) Ou Ow ?_
     refine Oj rfl (fun K hK=> ?_) ?_
     ·go_simp
      refine hK _ _ ?_
      clear hK K
      refine wpAny_take (i:=7) (v:= ?va7) rfl Ou Ou Ou (fun _ _ _ h=>h) (Or.inl ⟨OR,?hya7⟩) ?_
      case hya7=>(intro w;go_simp;try with_reducible rfl)
      refine wpAny_ready (rs:=[10]) Ou Ow ?_
      refine Oj rfl (fun K hK=> ?_) ?_
      ·go_simp
       refine hK _ _ ?_
       clear hK K
       refine wpAny_done Ou ?_ _
       gi_wp2
       exact iw HN.out
      exact Oq
     exact Oq
    exact Oq
   refine Oj rfl (fun K hK=> ?_) ?_
   ·go_simp
    refine hK _ _ ?_
    clear hK K
    refine wpAny_take (i:=7) (v:= ?va8) rfl Ou Ou Ou (fun _ _ _ h=>h) (Or.inl ⟨OR,?hya8⟩) ?_
    case hya8=>(intro w;go_simp;try with_reducible rfl)
    refine wpAny_ready (rs:=[3]) Ou Ow ?_
    refine Oj rfl (fun K hK=> ?_) ?_
    ·go_simp
     refine hK _ _ ?_
     clear hK K
     refine wpAny_take (i:=4) (v:= ?va9) rfl Ou Ou Ou (fun _ _ _ h=>h) (Or.inl ⟨OR,?hya9⟩) ?_
     case hya9=>(intro w;go_simp;try with_reducible rfl)
     refine wpAny_take (i:=8) (v:= ?va10) rfl Ou Ou Ou (fun _ _ _ h=>h) (Or.inl ⟨OR,?hya10⟩) ?_
     case hya10=>(intro w;go_simp;try with_reducible rfl)
     refine wpAny_ready (rs:=[9]) Ou Ow ?_
     refine Oj rfl (fun K hK=> ?_) ?_
     ·go_simp
      refine hK _ _ ?_
      clear hK K
      refine wpAny_ready (rs:=[10]) Ou Ow ?_
      refine Oj rfl (fun K hK=> ?_) ?_
      ·go_simp
       refine hK _ _ ?_
       clear hK K
       refine wpAny_done Ou ?_ _
       gi_wp2
       exact iw HN.out
      exact Oq
     exact Oq
    exact Oq
   exact Oq
  refine Oj rfl (fun K hK=> ?_) ?_
  ·go_simp
   refine hK _ _ ?_
   clear hK K
   refine wpAny_take (i:=4) (v:= ?va11) rfl Ou Ou Ou (fun _ _ _ h=>h) (Or.inl ⟨OR,?hya11⟩) ?_
   case hya11=>(intro w;go_simp;try with_reducible rfl)
   refine wpAny_ready (rs:=[0,6]) Ou Ow ?_
   refine Oj rfl (fun K hK=> ?_) ?_
   ·go_simp
    refine hK _ _ ?_
    clear hK K
    refine wpAny_take (i:=8) (v:= ?va12) rfl Ou Ou Ou (fun _ _ _ h=>h) (Or.inl ⟨OR,?hya12⟩) ?_
    case hya12=>(intro w;go_simp;try with_reducible rfl)
    refine wpAny_ready (rs:=[6,9]) Ou Ow ?_
    refine Oj rfl (fun K hK=> ?_) ?_
    ·go_simp
     refine hK _ _ ?_
     clear hK K
     refine wpAny_take (i:=7) (v:= ?va13) rfl Ou Ou Ou (fun _ _ _ h=>h) (Or.inl ⟨OR,?hya13⟩) ?_
     case hya13=>(intro w;go_simp;try with_reducible rfl)
     refine wpAny_ready (rs:=[9]) Ou Ow ?_
     refine Oj rfl (fun K hK=> ?_) ?_
     ·go_simp
      refine hK _ _ ?_
      clear hK K
      refine wpAny_ready (rs:=[10]) Ou Ow ?_
      refine Oj rfl (fun K hK=> ?_) ?_
      ·go_simp
       refine hK _ _ ?_
       clear hK K
       refine wpAny_done Ou ?_ _
       gi_wp2
       exact iw HN.out
      exact Oq
     exact Oq
    refine Oj rfl (fun K hK=> ?_) ?_
    ·go_simp
     refine hK _ _ ?_
     clear hK K
     refine wpAny_ready (rs:=[6]) Ou Ow ?_
     refine Oj rfl (fun K hK=> ?_) ?_
     ·go_simp
      refine hK _ _ ?_
      clear hK K
      refine wpAny_take (i:=7) (v:= ?va14) rfl Ou Ou Ou (fun _ _ _ h=>h) (Or.inl ⟨OR,?hya14⟩) ?_
      case hya14=>(intro w;go_simp;try with_reducible rfl)
      refine wpAny_ready (rs:=[10]) Ou Ow ?_
      refine Oj rfl (fun K hK=> ?_) ?_
      ·go_simp
       refine hK _ _ ?_
       clear hK K
       refine wpAny_done Ou ?_ _
       gi_wp2
       exact iw HN.out
      exact Oq
     exact Oq
    exact Oq
   refine Oj rfl (fun K hK=> ?_) ?_
   ·go_simp
    refine hK _ _ ?_
    clear hK K
    refine wpAny_take (i:=7) (v:= ?va15) rfl Ou Ou Ou (fun _ _ _ h=>h) (Or.inl ⟨OR,?hya15⟩) ?_
    case hya15=>(intro w;go_simp;try with_reducible rfl)
    refine wpAny_ready (rs:=[0]) Ou Ow ?_
    refine Oj rfl (fun K hK=> ?_) ?_
    ·go_simp
     refine hK _ _ ?_
     clear hK K
     refine wpAny_take (i:=8) (v:= ?va16) rfl Ou Ou Ou (fun _ _ _ h=>h) (Or.inl ⟨OR,?hya16⟩) ?_
     case hya16=>(intro w;go_simp;try with_reducible rfl)
     refine wpAny_ready (rs:=[9]) Ou Ow ?_
     refine Oj rfl (fun K hK=> ?_) ?_
     ·go_simp
      refine hK _ _ ?_
      clear hK K
      refine wpAny_ready (rs:=[10]) Ou Ow ?_
      refine Oj rfl (fun K hK=> ?_) ?_
      ·go_simp
       refine hK _ _ ?_
       clear hK K
       refine wpAny_done Ou ?_ _
       gi_wp2
       exact iw HN.out
      exact Oq
     exact Oq
    exact Oq
   exact Oq
  refine Oj rfl (fun K hK=> ?_) ?_
  ·go_simp
   refine hK _ _ ?_
   clear hK K
   refine wpAny_take (i:=7) (v:= ?va17) rfl Ou Ou Ou (fun _ _ _ h=>h) (Or.inl ⟨OR,?hya17⟩) ?_
   case hya17=>(intro w;go_simp;try with_reducible rfl)
   refine wpAny_ready (rs:=[0,3]) Ou Ow ?_
   refine Oj rfl (fun K hK=> ?_) ?_
   ·go_simp
    refine hK _ _ ?_
    clear hK K
    refine wpAny_ready (rs:=[3]) Ou Ow ?_
    refine Oj rfl (fun K hK=> ?_) ?_
    ·go_simp
     refine hK _ _ ?_
     clear hK K
     refine wpAny_take (i:=4) (v:= ?va18) rfl Ou Ou Ou (fun _ _ _ h=>h) (Or.inl ⟨OR,?hya18⟩) ?_
     case hya18=>(intro w;go_simp;try with_reducible rfl)
     refine wpAny_take (i:=8) (v:= ?va19) rfl Ou Ou Ou (fun _ _ _ h=>h) (Or.inl ⟨OR,?hya19⟩) ?_
     case hya19=>(intro w;go_simp;try with_reducible rfl)
     refine wpAny_ready (rs:=[9]) Ou Ow ?_
     refine Oj rfl (fun K hK=> ?_) ?_
     ·go_simp
      refine hK _ _ ?_
      clear hK K
      refine wpAny_ready (rs:=[10]) Ou Ow ?_
      refine Oj rfl (fun K hK=> ?_) ?_
      ·go_simp
       refine hK _ _ ?_
       clear hK K
       refine wpAny_done Ou ?_ _
       gi_wp2
       exact iw HN.out
      exact Oq
     exact Oq
    exact Oq
   refine Oj rfl (fun K hK=> ?_) ?_
   ·go_simp
    refine hK _ _ ?_
    clear hK K
    refine wpAny_take (i:=4) (v:= ?va20) rfl Ou Ou Ou (fun _ _ _ h=>h) (Or.inl ⟨OR,?hya20⟩) ?_
    case hya20=>(intro w;go_simp;try with_reducible rfl)
    refine wpAny_ready (rs:=[0]) Ou Ow ?_
    refine Oj rfl (fun K hK=> ?_) ?_
    ·go_simp
     refine hK _ _ ?_
     clear hK K
     refine wpAny_take (i:=8) (v:= ?va21) rfl Ou Ou Ou (fun _ _ _ h=>h) (Or.inl ⟨OR,?hya21⟩) ?_
     case hya21=>(intro w;go_simp;try with_reducible rfl)
     refine wpAny_ready (rs:=[9]) Ou Ow ?_
     refine Oj rfl (fun K hK=> ?_) ?_
     ·go_simp
      refine hK _ _ ?_
      clear hK K
      refine wpAny_ready (rs:=[10]) Ou Ow ?_
      refine Oj rfl (fun K hK=> ?_) ?_
      ·go_simp
       refine hK _ _ ?_
       clear hK K
       refine wpAny_done Ou ?_ _
       gi_wp2
       exact iw HN.out
      exact Oq
     exact Oq
    exact Oq
   exact Oq
  exact Oq
 case done=>
  rintro D W hD ⟨q,r,h⟩ hK
  have hrow:=h.row
  have hq:=h.len
  have b1:=h.bq.cell
  have f1:=h.bq.frozen
  have b2:=h.br.cell
  have hrb:r<1000000000:=by have:=h.lt;omega
  have b1':∀o,(W.alloc o).cell? ⟨w.heap.size+1,0,N0⟩=N3 (.slice (N3 ⟨w.heap.size+2,0,N0⟩) a.length a.length):=fun o=>(h.bq.alloc o).cell
  have f1':∀o,(W.alloc o).frozen? ⟨w.heap.size+1,0,N0⟩=N1:=fun o=>(h.bq.alloc o).frozen
  have b2':∀o,(W.alloc o).cell? ⟨w.heap.size+3,0,N0⟩=N3 (.int .i64 r):=fun o=>(h.br.alloc o).cell
  have hone:∀X:NY,Row (X.alloc (.cells #[.int .i64 r] 3)) X.heap.size 1 [r]:=fun X=>row_one X r
  have HO:=NW hone
  have HR:=NW hrow
  have HQ:=NW hq
  have HE:=NW (Jq h hd1 Pp hK)
  clear hone hrow hq hmk
  gi_wp2
  refine yK ?_
  go_region_with (go_at_call 289;first|((with_reducible refine(gX (g:=w.heap.size+2) (l:=q) (Row.drew HR.out) HQ.out).mono ?_);rintro e w' ⟨rfl,rfl⟩)|((with_reducible refine(gX (g:=w.heap.size+2) (l:=q) (Row.drew (HR.out.alloc _)) HQ.out).mono ?_);rintro e w' ⟨rfl,rfl⟩)|((with_reducible refine(gX (l:=[r]) (n:=1) (Row.drew (HO.out W)) (List.length_singleton)).mono ?_);rintro e w' ⟨rfl,rfl⟩))
  all_goals
   refine bR ?_
   gi_wp2
   refine⟨Ow,.inl ⟨_,_,rfl,run_takeDeferred HE.out.1,?_⟩⟩
   exact⟨.tuple #[.slice (N3 ⟨w.heap.size+2,0,N0⟩) (aj q).length a.length,.slice (N3 ⟨W.heap.size,0,N0⟩) (aj [r]).length 1],by simp[results,results291,go_sem,HE.out.2.1],HE.out.2.2⟩
 case stop=>
  rintro D c k W hD hk h
  exact h.elim
end
end Go.Proofs.YtnpihidbkhehjaaGreatDoor
namespace Kp
section
open Go
def gz(b:UInt8):Bool:=48≤b&&b≤57
def yU:List UInt8:=[48,49,50,51,52,53,54,55,56,57]
theorem xr(b:UInt8):yU.contains b=gz b:=by
 have h:∀n:Fin 256,yU.contains (UInt8.ofNat n.1)=gz (UInt8.ofNat n.1):=PN
 have:=h ⟨b.toNat,b.toNat_lt⟩
 simpa using this
theorem re(l:List UInt8):Lib.trimS l yU=[]↔l.all gz=Oc:=by
 have h1:∀m:List UInt8,Lib.trimLeftS m yU=[]↔m.all gz=Oc:=by
  intro m
  unfold Lib.trimLeftS
  simp only[xr]
  induction m with
  |nil=>simp
  |cons b m ih=>
   by_cases hb:gz b=Oc
   ·simp[hb,ih]
   ·simp[hb]
 unfold Lib.trimS
 rw[h1]
 unfold Lib.trimRightS
 simp only[xr]
 constructor
 ·intro h
  rw[List.all_eq_true] at h⊢
  intro b hb
  have h2:∀m:List UInt8,(∀x∈m.dropWhile (fun x=>gz x),gz x=Oc)→∀x∈m,gz x=Oc:=by
   intro m
   induction m with
   |nil=>intro _ x hx;cases hx
   |cons c m ih=>
    intro hm x hx
    by_cases hc:gz c=Oc
    ·rw[List.dropWhile_cons_of_pos hc] at hm
     rcases List.mem_cons.1 hx with rfl|hx
     ·exact hc
     ·exact ih hm x hx
    ·rw[List.dropWhile_cons_of_neg hc] at hm
     exact hm x hx
  exact h2 l.reverse (fun x hx=>h x (List.mem_reverse.2 hx)) b (List.mem_reverse.2 hb)
 ·intro h
  rw[List.all_eq_true] at h⊢
  intro b hb
  exact h b (List.mem_reverse.1 ((List.dropWhile_suffix _).mem (List.mem_reverse.1 hb)))
def own(l:List UInt8):List UInt8:=Lib.trimPrefix l [45]
def cP(l:List UInt8):Bool:=(own l).all gz&& !(own l).isEmpty&&(!((own l).head?==N3 48)||l==[48])
def jB(l:List UInt8):Int:=if cP l then(if 300<(own l).length then 4 else 0) else 11
theorem BI{l r:List UInt8}{c:UInt8}(h:own l=c::r)(hc:c=48)(hl:¬l=[48]):jB l=11:=by
 unfold jB cP
 rw[h,hc]
 simp[hl]
theorem xK{l r:List UInt8}{c:UInt8}(h:own l=c::r)(ht:(!(Lib.trimS (c::r) yU).isEmpty)=Oc):jB l=11:=by
 have:(c::r).all gz=N1:=by
  rw[Bool.eq_false_iff]
  intro h1
  rw[(re _).2 h1] at ht
  simp at ht
 unfold jB cP
 rw[h,this]
 simp
theorem kq{l r:List UInt8}{c:UInt8}(h:own l=c::r)(hc:¬c=48∨l=[48])(ht:(!(Lib.trimS (c::r) yU).isEmpty)=N1):jB l=if 300<r.length+1 then 4 else 0:=by
 have:(c::r).all gz=Oc:=(re _).1 (by simpa using ht)
 have hf:cP l=Oc:=by
  unfold cP
  rw[h,this]
  rcases hc with hc|hc
  ·simp[hc]
  ·simp[hc]
 unfold jB
 rw[hf,h]
 simp
theorem I9{c:UInt8}(h:(c.toNat:Int)=48):c=48:=UInt8.toNat.inj OB
end
section
open Go
def kB(b:UInt8):Nat:=b.toNat-48
theorem mu{b:UInt8}(h:gz b=Oc):kB b<10∧48≤b.toNat∧b.toNat≤57:=by
 unfold gz at h
 simp[UInt8.le_iff_toNat_le] at h
 unfold kB
 omega
def aC(l:List UInt8):Nat:=l.foldl (fun a b=>a*10+kB b) 0
theorem pz(l:List UInt8)(b:UInt8):aC (l++[b])=aC l*10+kB b:=by simp[aC]
theorem tj{b:UInt8}(h:gz b=Oc):Lib.digitVal b=N3 (kB b):=by
 have:=mu h
 unfold Lib.digitVal
 rw[if_pos Ot];rfl
theorem wV(l:List UInt8)(h:l.all gz=Oc):∀acc,Lib.decFrom acc l=N3 (l.foldl (fun a b=>a*10+kB b) acc):=by
 induction l with
 |nil=>intro acc;rfl
 |cons b r ih=>
  intro acc
  simp only[List.all_cons,Bool.and_eq_true] at h
  simp only[Lib.decFrom,tj h.1,List.foldl_cons]
  exact ih h.2 _
theorem kZ{l:List UInt8}(h:l.all gz=Oc)(hn:l≠[]):Lib.decNat l=N3 (aC l):=by
 unfold Lib.decNat
 rw[if_neg (by simpa using hn),wV l h];rfl
def dg(l:List UInt8)(p:Nat):Nat:=kB (l.getD (l.length-1-p) 48)
def low(l:List UInt8):Nat→Nat
 |0=>0
 |i+1=>low l i+dg l i*10^i
theorem wQ(l:List UInt8):∀a:Nat,l.foldl (fun a b=>a*10+kB b) a=a*10^l.length+aC l:=by
 induction l with
 |nil=>intro a;simp[aC]
 |cons b r ih=>
  intro a
  simp only[List.foldl_cons,List.length_cons]
  have e:aC (b::r)=r.foldl (fun a b=>a*10+kB b) (0*10+kB b):=rfl
  rw[ih,e,ih]
  rw[Nat.pow_succ,Nat.add_mul,Nat.zero_mul,Nat.zero_add]
  have:a*10*10^r.length=a*(10^r.length*10):=by rw[Nat.mul_assoc,Og 10]
  omega
theorem py(b:UInt8)(r:List UInt8):aC (b::r)=kB b*10^r.length+aC r:=by
 have:=wQ r (kB b)
 unfold aC at *
 simp only[List.foldl_cons,Nat.zero_mul,Nat.zero_add]
 exact this
theorem DM(b:UInt8)(r:List UInt8)(i:Nat)(hi:i≤r.length):low (b::r) i=low r i:=by
 induction i with
 |zero=>rfl
 |succ i ih=>
  rw[low,low,ih Ot]
  have:dg (b::r) i=dg r i:=by
   unfold dg
   have e:(b::r).length-1-i=(r.length-1-i)+1:=OB
   rw[e];simp
  rw[this]
theorem Hz(l:List UInt8):low l l.length=aC l:=by
 induction l with
 |nil=>rfl
 |cons b r ih=>
  rw[List.length_cons,low,DM b r _ (NZ _),ih,py]
  have:dg (b::r) r.length=kB b:=by unfold dg;simp
  rw[this];omega
theorem IY{l:List UInt8}(h:l.all gz=Oc)(i:Nat):dg l i<10:=by
 unfold dg
 rw[N8]
 cases hx:l[l.length-1-i]? with
 |none=>decide
 |some b=>
  rw[List.all_eq_true] at h
  exact(mu (h b (List.mem_of_getElem? hx))).1
structure JE(l:List UInt8)(i:Nat)(lim:List Nat):Prop where
 small:Small lim
 eq:S (fv lim) lim.length=low l i
 part:fv lim (i/9)<10^(i%9)
 zero:∀k,i/9<k→fv lim k=0
theorem G0(i:Nat):10^(i%9)*B^(i/9)=10^i:=by
 have:B=10^9:=rfl
 rw[this,←Nat.pow_mul,←Nat.pow_add]
 congr 1
 omega
theorem Cb{f g:Nat→Nat}{n j x:Nat}(hj:j<n)(hs:∀k,k≠j→g k=f k)(hx:g j=f j+x):S g n=S f n+x*B^j:=by
 have h:=zh (f:=f) (g:=g) (m:=n) (j:=j) (n:=1) Ot (fun k hk=>hs k Ot) (fun k hk _=>hs k Ot)
 have e:∀h:Nat→Nat,S (sh h j) 1=h j:=fun h=>by unfold S S sh;simp
 rw[e,e,hx,Nat.mul_add] at h
 have:B^j*x=x*B^j:=Og _ _
 omega
theorem JE.step{l:List UInt8}{i:Nat}{lim lim':List Nat}(h:JE l i lim)(hd:l.all gz=Oc)(hn:i/9<lim.length)(hl:lim'.length=lim.length)
  (hs:∀k,k≠i/9→fv lim' k=fv lim k)(hx:fv lim' (i/9)=fv lim (i/9)+dg l i*10^(i%9)):JE l (i+1) lim':=by
 have h10:=IY hd i
 have hb:fv lim' (i/9)<10^(i%9+1):=by
  rw[hx,Nat.pow_succ]
  have:dg l i*10^(i%9)≤9*10^(i%9):=Nat.mul_le_mul_right _ Ot
  have:=h.part
  omega
 have hB:fv lim' (i/9)<B:=by
  have:10^(i%9+1)≤10^9:=Nat.pow_le_pow_right Ov Ot
  exact Nat.lt_of_lt_of_le hb this
 refine⟨?_,?_,?_,?_⟩
 ·intro x hx'
  obtain⟨k,hk,e⟩:=List.mem_iff_getElem.1 hx'
  rw[←e,←jA hk]
  by_cases hki:k=i/9
  ·rw[hki];exact hB
  ·rw[hs k hki];exact ai h.small k
 ·rw[hl,Cb hn hs hx,h.eq,low,Nat.mul_assoc,G0]
 ·by_cases h8:i%9=8
  ·have e1:(i+1)/9=i/9+1:=Ot
   have e2:(i+1)%9=0:=Ot
   rw[e1,e2,hs _ Ot,h.zero _ Ot];decide
  ·have e1:(i+1)/9=i/9:=Ot
   have e2:(i+1)%9=i%9+1:=Ot
   rw[e1,e2];exact hb
 ·intro k hk
  have:i/9<k:=Ot
  rw[hs k Ot];exact h.zero k this
theorem JE.start(l:List UInt8)(n:Nat):JE l 0 (List.replicate n 0):=by
 have hz:∀k,fv (List.replicate n 0) k=0:=fun k=>by unfold fv;rw[N8,List.getElem?_replicate];split <;>rfl
 refine⟨fun d hd=>by rw[List.eq_of_mem_replicate hd];decide,?_,by rw[hz];decide,fun k _=>hz k⟩
 rw[mF (fun k _=>hz k)];rfl
end
end Kp
namespace Go.Proofs.YtnpihidbkhehjaaGreatDoor
section
open Kp
abbrev tx(l:List UInt8):ByteArray:=⟨l.toArray⟩
theorem bE(l:List UInt8):(tx l).data.toList=l:=Ow
theorem av(l:List UInt8):(tx l).size=l.length:=O7
theorem lz(s:ByteArray):tx s.data.toList=s:=by cases s;simp
theorem xv(l:List UInt8)(w:NY)(hl:l.length≤1000000):
  Of prog 319 #[.string (tx l),.string ⟨#[48,49,50,51,52,53,54,55,56,57]⟩] w fun e w'=>e= .returned (.string (tx (Lib.trimS l yU)))∧On w.heap.size w w':=by
 have h:=Go.Proofs.Any.strings_Trim_laid GU Ou (tx l) ⟨#[48,49,50,51,52,53,54,55,56,57]⟩ w PL Ov (ascii_of_all Ov)
 rw[bE] at h
 exact h
theorem bJ{k:IntKind}{a b:Int}(h:a=b):Ending.returned (.int k a)= .returned (.int k b):=by rw[h]
theorem o4(l:List UInt8)(w:NY)(hl:l.length≤1000000):
  Of prog 287 #[.string (tx l)] w fun e w'=>e= .returned (.int .i64 (jB l))∧On w.heap.size w w':=by
 have hp:=NW (strings_TrimPrefix (tx l) (tx [45]) w)
 obtain⟨ds,hds⟩:∃ds,own l=ds:=⟨_,rfl⟩
 have hdl:ds.length≤l.length:=by rw[←hds];unfold own Lib.trimPrefix;split <;>simp
 have hds':Lib.trimPrefix l [45]=ds:=hds
 have HDS:=NW hds
 rw[hds'] at hp
 clear hds hds'
 cases ds with
 |nil=>
  go_enter func287,ntmps287
  go_wp2_with(go_at_call 206;refine hp.out.mono ?_;rintro e w' ⟨rfl,rfl⟩)
  go_ret
  exact⟨bJ (by unfold jB cP;rw[HDS.out];rfl),Below.refl _ _⟩
 |cons c r=>
  go_enter func287,ntmps287
  go_wp2_with(first|(go_at_call 206;refine hp.out.mono ?_;rintro e w' ⟨rfl,rfl⟩)|(go_at_call 319;refine(xv (c::r) _ (by simp at hdl⊢;omega)).mono ?_;rintro e w2 ⟨rfl,hB⟩))
  ·go_ret
   exact⟨bJ (xK HDS.out OD).symm,hB⟩
  ·have hl0:l=[48]:=OD
   have h300:300<(r.length:Int)+1:=OD
   go_ret
   exact⟨bJ (by rw[kq HDS.out (.inr hl0) OD,if_pos Ot]),hB⟩
  ·have hl0:l=[48]:=OD
   have h300:(r.length:Int)+1≤300:=OD
   go_ret
   exact⟨bJ (by rw[kq HDS.out (.inr hl0) OD,if_neg Ot]),hB⟩
  ·have h48:(c.toNat:Int)=48:=OD
   go_ret
   exact⟨bJ (BI HDS.out (I9 h48) OD).symm,Below.refl _ _⟩
  ·go_ret
   exact⟨bJ (xK HDS.out OD).symm,hB⟩
  ·have h48:¬(c.toNat:Int)=48:=OD
   have h300:300<(r.length:Int)+1:=OD
   go_ret
   exact⟨bJ (by rw[kq HDS.out (.inl (fun h=>h48 (by rw[h];rfl))) OD,if_pos Ot]),hB⟩
  ·have h48:¬(c.toNat:Int)=48:=OD
   have h300:(r.length:Int)+1≤300:=OD
   go_ret
   exact⟨bJ (by rw[kq HDS.out (.inl (fun h=>h48 (by rw[h];rfl))) OD,if_neg Ot]),hB⟩
end
end Go.Proofs.YtnpihidbkhehjaaGreatDoor
