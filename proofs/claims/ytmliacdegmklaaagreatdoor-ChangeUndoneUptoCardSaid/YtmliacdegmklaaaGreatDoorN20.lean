/- ChangeUndone of kingpostlaw58: part 20 of its proof (merged and shortened by program). -/
import Derived.Great.BuildSlice
import Derived.Test.YtmliacdegmklaaaGreatDoorN18
import Derived.Test.YtmliacdegmklaaaGreatDoorN19
set_option linter.unusedVariables false
set_option linter.unusedSimpArgs false
set_option linter.defProp false
set_option maxHeartbeats 8000000
set_option maxRecDepth 100000
open Go.RowKit Go.Shelf Go.Proofs.Tryz
open Array renaming getElem?_eq_some_iff→VF
open Bool renaming false→Vw,true→VD
open Go renaming World→Vt,Value→Vy,undef→VB,wpOp_step→VE,Calls→VJ,maxLen→VP,TypeId→VR,Addr→VT
open Go.AllReady renaming cons→VO,nil→VU
open Go.Ending renaming returned→V0
open Go.IntKind renaming i64→VH
open Go.IntWalk renaming i64_in→VQ
open Go.Lib renaming hid→Vs
open Go.RowKit renaming intOf→VN,Below→VS
open Go.Value renaming slice→VV,string→VW,bool→VX,pointer→VY,int→VZ,agg→V5,tuple→V6
open Go.World renaming alloc_heap_new→VG,size_alloc→VK
open List renaming getD_eq_getElem?_getD→Vv,getElem?_eq_getElem→VA,length_map→VC,length_append→VM,length→ln
open Nat renaming le_refl→Vu,le_trans→VI,mul_comm→VL
open Option renaming none→Vx,some→Vz
open Go.Proofs.YtmliacdegmklaaaGreatDoor
variable{cs cs0:Array Vy}{u:Bool}{us:List Bool}{ys:List Vy}{m i q gc:Nat}{ga:Option VT}{t:VR}{w W' W0 W:Vt}{j:bI}{a:kQ}
namespace Go.Proofs.YtmliacdegmklaaaGreatDoor
section
open Kp
theorem nX{P:Program}{o:Oper}{a:Act}{K:Act->Vt->Prop}{Q:Exit->Act->Vt->Prop}(s x:Operand)(t:VR)
  (ho:o.op= .call {callee:= .builtin .append,args:=#[s,x],argTypes:=#[t,t]})
  (base:Nat)(e:VR)(i:TypeInfo)(z:Vy)(size bytes:Nat)(ht:P.underlying t=Vz (.slice e))(hi:P.info? e=Vz i)(hz:i.zero=Vz z)
  (hsize:i.size=size)(hby:i.bytes=bytes)(hzs:z.cells.size=size)(hsz:0<size)
  (v:Vy)(n:Nat)(xs:List Vy)(hs:a.eval s=v)(hown:w.ownsRow base e size v n xs)
  (ad:VT)(m c:Nat)(news:List Vy)(hx:a.eval x=VV (Vz ad) m c)(hl:ln news=m*size)(hnews:∀j u,news[j]?=Vz u->w.cell? (ad.add j)=Vz u)(h1:∀u∈news,u.oneCell'=VD)
  (h63:n+m<=VP)(hbytes:(n+m)*bytes<=140737488355328)(hbase:base<=w.heap.size)
  (h:∀v' w',w'.ownsRow base e size v' (n+m) (xs++news)->w.grownBy w' v.ownBlock->K (a.put o.dst v') w'):o.wp P a w K Q:=by
 obtain⟨v',w',hr,h2,h3,h4⟩:=lL (P:=P) w base t o.type e i z size bytes ht hi hz hsize hby hzs hsz v n xs hown ad m c news hl hnews h1 h63 hbytes hbase;unfold Oper.wp execOp;simp only[ho,resolve,invoke,builtin,Sem.run_bind,Sem.run_pure,Result.andThen_ok,List.map_toArray,List.map_cons,List.map_nil,hs,hx,hr];exact h v' w' h2 h3
structure vS(B:Nat)(t:VR)(k n:Nat)(xs x:List Vy)(p q r:Nat)(L:Nat->Bool)(vs:Nat->Vy)(W:Vt):Prop where
 own:L r=Vw->L p=VD->W.ownsRow B t k (vs p) n xs
 bld:L r=Vw->L q=VD->∃vb,vs q=VV (Vz ⟨vb,0,Vx⟩) 1 1/\ai W vb t x/\(L p=VD->(vs p).ownBlock≠Vz vb)
 app:L r=VD->W.ownsRow B t k (vs r) (n+1) (xs++x)
section
variable {B : Nat} {t : VR} {k n : Nat} {xs x : List Vy} {p q r : Nat} {L : Nat → Bool} {vs : Nat → Vy} {W : Vt}
theorem vS.ext(h:vS B t k n xs x p q r L vs W)(hx:Ext W W'):vS B t k n xs x p q r L vs W':=
 ⟨λa b=>aO (h.own a b) hx,λa b=>by obtain⟨vb,e,h1,h2⟩:=h.bld a b;exact⟨vb,e,h1.ext hx,h2⟩,λa=>aO (h.app a) hx⟩
theorem vS.grown(h:vS B t k n xs x p q r L vs W){base m s:Nat}{e:VR}{v:Vy}(ho:W.ownsRow base e s v m ys)(hg:W.grownBy W' v.ownBlock)(hne:t≠e):vS B t k n xs x p q r L vs W':=
 ⟨λa b=>kv (h.own a b) ho hg hne,λa b=>by obtain⟨vb,e,h1,h2⟩:=h.bld a b;exact⟨vb,e,h1.grown ho hg hne,h2⟩,λa=>kv (h.app a) ho hg hne⟩
theorem vS.other(h:vS B t k n xs x p q r L vs W)(hp:p≠i)(hq:q≠i)(hr:r≠i)(v:Vy):vS B t k n xs x p q r (gF L i) (bA vs i v) W:=by
 constructor
 ·rw[af hr,af hp,aU hp];exact h.own
 ·rw[af hr,af hq,af hp,aU hp,aU hq];exact h.bld
 ·rw[af hr,aU hr];exact h.app
theorem vS.clone(h:vS B t k n xs x p q r L vs W)(hq:q≠p)(hr:r≠p)(hL:L r=Vw)(hx:Ext W W'){v:Vy}(ho:W'.ownsRow W.heap.size t k v n xs)(hB:B<=W.heap.size):vS B t k n xs x p q r (gF L p) (bA vs p v) W':=by
 constructor
 ·rw[cG];exactλ_ _=>dA ho hB
 ·rw[af hr,af hq,aU hq,cG];intro a b;obtain⟨vb,e,h1,_⟩:=h.bld a b;refine⟨vb,e,h1.ext hx,λ_ e2=> ?_⟩;have:=(az ho vb e2).1;have:=h1.lt;omega
 ·rw[af hr,hL];intro h;cases h
theorem vS.build(h:vS B t k n xs x p q r L vs W)(hp:p≠q)(hr:r≠q)(hL:L r=Vw)(hc:cs.toList=x):vS B t k n xs x p q r (gF L q) (bA vs q (VV (Vz ⟨W.heap.size,0,Vx⟩) 1 1)) (W.alloc (.cells cs t)):=by
 have hx:Ext W (W.alloc (.cells cs t)):=(Below.refl _ _).alloc (Vu _) _;constructor
 ·rw[af hr,af hp,aU hp];exactλa b=>aO (h.own a b) hx
 ·rw[af hr,dj,af hp,aU hp,cG];refineλa _=>⟨W.heap.size,rfl,?_,λb e=> ?_⟩
  ·subst hc;exact ai.new W t cs.toList
  ·have:=(az (h.own a b) _ e).2;omega
 ·rw[af hr,hL];intro h;cases h
theorem vS.append(hp:p≠r)(hq:q≠r){v:Vy}(ho:W'.ownsRow B t k v (n+1) (xs++x)):vS B t k n xs x p q r (gF L r) (bA vs r v) W':=by
 constructor
 ·rw[dj];intro h;cases h
 ·rw[dj];intro h;cases h
 ·rw[cG];exactλ_=>ho
end
def GB(c:Nat)(l:Log)(a:kQ)(ev:Vy):Nat->Vy
 |0=> VY (Vz ⟨c,15,Vx⟩)
 |1=> VV a.ea (ln l.edits) a.ec
 |3=>ev
 |6=> VY (Vz ⟨c,16,Vx⟩)
 |11=> VY (Vz ⟨c,15,Vx⟩)
 |7=> VV a.ua (ln l.undone) a.uc
 |_=>VB
def T8(L:Nat->Bool):Prop:=(L 5=VD->L 2=VD/\L 4=VD)/\(L 10=VD->L 8=VD/\L 9=VD)
def qq{L:Nat->Bool}{q k:Nat}(h:L k=VD):gF L q k=VD:=by unfold gF;split <;>first|rfl|exact h
theorem T8.up{L:Nat->Bool}(h:T8 L)(h5:q=5->L 2=VD/\L 4=VD)(h10:q=10->L 8=VD/\L 9=VD):T8 (gF L q):=by
 refine⟨λh1=> ?_,λh1=> ?_⟩
 ·have h2:L 2=VD/\L 4=VD:=by
   by_cases e:q=5
   ·exact h5 e
   ·rw[af (Ne.symm e)] at h1;exact h.1 h1
  exact⟨qq h2.1,qq h2.2⟩
 ·have h2:L 8=VD/\L 9=VD:=by
   by_cases e:q=10
   ·exact h10 e
   ·rw[af (Ne.symm e)] at h1;exact h.2 h1
  exact⟨qq h2.1,qq h2.2⟩
structure FV(W0:Vt)(c:Nat)(l:Log)(a:kQ)(ev:Array Vy)(xs:List Vy)(L:Nat->Bool)(vs:Nat->Vy)(W:Vt):Prop where
 ext:Ext W0 W
 vals:∀q,L q=VD->q≠2->q≠4->q≠5->q≠8->q≠9->q≠10->vs q=GB c l a (V5 ev) q
 ord:T8 L
 ed:vS W0.heap.size 68 37 (ln l.edits) xs ev.toList 2 4 5 L vs W
 bl:vS W0.heap.size 4 1 (ln l.undone) (eW l.undone).flatten [VX Vw] 8 9 10 L vs W
section
variable {W0 : Vt} {c : Nat} {l : Log} {a : kQ} {ev : Array Vy} {xs : List Vy} {L : Nat → Bool} {vs : Nat → Vy} {W : Vt}
def FV.start(h:Ext W0 W):FV W0 c l a ev xs (λ_=>Vw) (λ_=>VB) W:=
 ⟨h,λ_ h=>Wb,⟨λh=>Wb,λh=>Wb⟩,⟨λ_ h=>Wb,λ_ h=>Wb,λh=>Wb⟩,⟨λ_ h=>Wb,λ_ h=>Wb,λh=>Wb⟩⟩
theorem FV.pure(h:FV W0 c l a ev xs L vs W)(hq:q=0\/q=1\/q=3\/q=6\/q=7\/q=11){v:Vy}(hv:v=GB c l a (V5 ev) q):FV W0 c l a ev xs (gF L q) (bA vs q v) W:=by
 refine⟨h.ext,λm hm a1 a2 a3 a4 a5 a6=> ?_,h.ord.up V7 V7,h.ed.other V7 V7 V7 v,h.bl.other V7 V7 V7 v⟩;by_cases e:m=q
 ·subst e;rw[cG];exact hv
 ·rw[aU e];rw[af e] at hm;exact h.vals m hm a1 a2 a3 a4 a5 a6
theorem FV.up(h:FV W0 c l a ev xs L vs W)(hq:q=2\/q=4\/q=5\/q=8\/q=9\/q=10){v:Vy}(hx:Ext W0 W')(h5:q=5->L 2=VD/\L 4=VD)(h10:q=10->L 8=VD/\L 9=VD)(h1:vS W0.heap.size 68 37 (ln l.edits) xs ev.toList 2 4 5 (gF L q) (bA vs q v) W')(h2:vS W0.heap.size 4 1 (ln l.undone) (eW l.undone).flatten [VX Vw] 8 9 10 (gF L q) (bA vs q v) W'):FV W0 c l a ev xs (gF L q) (bA vs q v) W':=by
 refine⟨hx,λm hm a1 a2 a3 a4 a5 a6=> ?_,h.ord.up h5 h10,h1,h2⟩;have e:m≠q:=V7;rw[aU e];rw[af e] at hm;exact h.vals m hm a1 a2 a3 a4 a5 a6
def FV.U7(h:FV W0 c l a ev xs L vs W)(hL:L 2=Vw\/L 4=Vw):L 5=Vw:=by
 cases q:L 5 with
 |false=>rfl
 |true=>obtain⟨h2,h4⟩:=h.ord.1 q;rcases hL with e|e<;>simp_all
def FV.TM(h:FV W0 c l a ev xs L vs W)(hL:L 8=Vw\/L 9=Vw):L 10=Vw:=by
 cases q:L 10 with
 |false=>rfl
 |true=>obtain⟨h2,h4⟩:=h.ord.2 q;rcases hL with e|e<;>simp_all
end
end
section
open Kp
attribute [local go_sem] bM aM jn kA kI
def iE(l:Log)(e:Ed):Log:=⟨l.start,l.edits++[e],l.undone++[Vw]⟩
theorem Fe.rp{l:Log}(h:j5 l.edits l.undone l.start m){e:Ed}(hg:dt e=Vw)(hx:e.index<=9223372036854775807):Fe (dy l.edits l.undone l.start (l.edits.length)) e:=by
 obtain⟨a,b⟩:=D7 (us:=l.undone) h.sm h.ln h.gr (l.edits.length) (Vu _);have:=h.mx;exact⟨a,b.ln V7,a.Tc hg,hx⟩
theorem vY.snoc{B:Nat}{rows:List (List Vy)}{l:List Ed}(h:vY w B rows l){e:Ed}(hg:bz w B ga gc e.gaps):vY w B (rows++[(aE e (VV ga (ln e.gaps) gc)).toList]) (l++[e]):=by
 refine⟨by simp[h.1],λi hi=> ?_⟩;rw[VM,List.length_singleton] at hi;have h1:=h.1;by_cases e1:i<ln l
 ·obtain⟨ga',gc',q1,q2⟩:=h.2 i e1;have e2:(l++[e]).getD i ef=l.getD i ef:=by simp[Vv,List.getElem?_append_left e1]
  rw[e2];refine⟨ga',gc',?_,q2⟩;rw[<-q1];simp[Vv,List.getElem?_append_left (show i<ln rows by omega)]
 ·obtain rfl:i=ln l:=V7;have e2:(l++[e]).getD (ln l) ef=e:=by simp[Vv]
  rw[e2];refine⟨ga,gc,?_,hg⟩;rw[<-h1];simp[Vv]
theorem RZ{B:Nat}{l:Log}{e:Ed}{rows:List (List Vy)}{v2 v5:Vy}(hb:iH w B l a)(hB:B<=w.heap.size)(he:vY w B rows l.edits)(hg:bz w B ga gc e.gaps)(h0:Ext w W0)(hs:w.heap.size+3<=W0.heap.size)
  (hx:Ext W0 W)(o2:W.ownsRow W0.heap.size 68 37 v2 (ln l.edits+1) (rows.flatten++(aE e (VV ga (ln e.gaps) gc)).toList))(o5:W.ownsRow W0.heap.size 4 1 v5 (ln l.undone+1) ((eW l.undone).flatten++[VX Vw])):
  ∃a',((dL l a).setIfInBounds 15 v2).setIfInBounds 16 v5=dL (iE l e) a'/\Ext w ((fV W w.heap.size v2 v5).setRow (w.heap.size+2) (dL (iE l e) a'))/\iH ((fV W w.heap.size v2 v5).setRow (w.heap.size+2) (dL (iE l e) a')) ((fV W w.heap.size v2 v5).setRow (w.heap.size+2) (dL (iE l e) a')).heap.size (iE l e) a':=by
 have hse:=he.snoc hg;have hn:(rows++[(aE e (VV ga (ln e.gaps) gc)).toList]).length=ln l.edits+1:=by simp[he.1]
 rw[show rows.flatten++(aE e (VV ga (ln e.gaps) gc)).toList=(rows++[(aE e (VV ga (ln e.gaps) gc)).toList]).flatten by simp] at o2;rw[show(eW l.undone).flatten++[VX Vw]=(eW (l.undone++[Vw])).flatten by rw[tH,tH];simp] at o5;obtain⟨A2,c2,rfl,s2⟩:=aK o2 hn hse.wide;obtain⟨A5,c5,rfl,s5⟩:=aK o5 Wa (oO _);have p2:=qO o2 (c:=w.heap.size) V7 (VV A2 (ln l.edits+1) c2) (VV A5 (ln l.undone+1) c5);have p5:=qO o5 (c:=w.heap.size) V7 (VV A2 (ln l.edits+1) c2) (VV A5 (ln l.undone+1) c5);have hE:=CK (h0.tr hx) (Vu _) (VV A2 (ln l.edits+1) c2) (VV A5 (ln l.undone+1) c5);have hl:((dL l a).setIfInBounds 15 (VV A2 (ln l.edits+1) c2)).setIfInBounds 16 (VV A5 (ln l.undone+1) c5)=dL (iE l e) {a with ea:=A2,ec:=c2,ua:=A5,uc:=c5}:=by
  unfold dL iE;simp
 obtain⟨a',ha⟩:∃x,({a with ea:=A2,ec:=c2,ua:=A5,uc:=c5}:kQ)=x:=⟨_,rfl⟩;rw[ha] at hl;have hxx:=ah hE (n:=w.heap.size+2) V7 (dL (iE l e) a');generalize fV W w.heap.size (VV A2 (ln l.edits+1) c2) (VV A5 (ln l.undone+1) c5)=W2 at p2 p5 hxx⊢;have nr:∀(q:Nat),W0.heap.size<=q->(W2.setRow (w.heap.size+2) (dL (iE l e) a')).heap[q]?=W2.heap[q]?:=λq h=>lI _ _ V7
 have r2:=oE p2 (λq hq=>nr q (az o2 _ hq).1);have r5:=oE p5 (λq hq=>nr q (az o5 _ hq).1);refine⟨a',hl,hxx,?_⟩;obtain⟨A3,c3,e3,s3⟩:=aK r2 hn hse.wide;obtain⟨A6,c6,e6,s6⟩:=aK r5 Wa (oO _);injection e3 with e31 _ e33
 injection e6 with e61 _ e63
 subst e31 e33 e61 e63 ha;exact⟨((hb.j.below (hxx.mono hB)).more (VI hB hxx.size)),MQ ((hse.below (hxx.mono hB)).more (VI hB hxx.size)) s3,s6⟩
end
section
open Kp
attribute [local go_sem] bM aM jn kA kI
def RC(w:Vt)(l:Log)(a:kQ)(x:Array Vy):∃W0,((w.alloc (.cells (dL l a) 38)).alloc (.cells x 68)).alloc (.cells #[VW {data:=#[]},VV Vx 0 0,VZ VH 0,VZ VH 0,VV Vx 0 0,VV Vx 0 0,VV Vx 0 0,VV Vx 0 0,VZ VH 0,VZ VH 0,VZ VH 0,VZ VH 0,VZ VH 0,VV Vx 0 0,VV Vx 0 0,VV Vx 0 0,VV Vx 0 0] 38)=W0/\Ext w W0/\W0.heap.size=w.heap.size+3/\LC W0 w.heap.size l a/\EC W0 (w.heap.size+1) x/\LC W0 (w.heap.size+2) nM nP:=by
 refine⟨_,rfl,(((Below.refl _ _).alloc (Vu _) _).alloc Wa _).alloc Wf _,Wa,LC.ext (VG w _) (((Below.refl _ _).alloc (Vu _) _).alloc Wa _),?_,?_⟩
 ·have:=EC.new (w.alloc (.cells (dL l a) 38)) x;rw[VK] at this;exact EC.ext this ((Below.refl _ _).alloc (Vu _) _)
 ·have:=VG ((w.alloc (.cells (dL l a) 38)).alloc (.cells x 68)) (.cells (dL nM nP) 38);rw[VK,VK] at this;exact this
def LN{b:Act}{ie:TypeInfo}{z:Vy}(h1:ie.size=37){x:Operand}{e:Ed}{v:Vy}(hx:b.eval x=V5 (aE e v)):
  Instr.fill (λi=>Vz (i*ie.size,ie.size)) ((Array.range (1*ie.size)).map (z.cells[· %z.cells.size]!)) ((#[(0,x)]:Array (Nat×Operand)).map λ(i,x)=>(i,b.eval x)).toList=Vz (aE e v):=by
 rw[h1,show((#[(0,x)]:Array (Nat×Operand)).map λ(i,x)=>(i,b.eval x)).toList=[(0,V5 (aE e v))] by simp[hx]]
 kernel_rfl
def Lr(w:Vt)(l:Log)(e:Ed)(z:Int)(x:Ending)(w':Vt):Prop:=
 Ext w w'/\if z=0 then∃a',x=V0 (V6 #[V5 (dL (iE l e) a'),VZ VH 0])/\iH w' w'.heap.size (iE l e) a' else x=V0 (V6 #[V5 (dL nM nP),VZ VH z])
def KM (w : Vt) (l : Log) (a : kQ) (e : Ed) (ga : Option VT) (gc : Nat) {m B : Nat} (hb : iH w B l a) (hB : B <= w.heap.size) (hgp : bz w B ga gc e.gaps) (hr : j5 l.edits l.undone l.start m) (hfew : ln l.edits <= 4000) (hg : dt e = Vw) (hx : e.index <= 9223372036854775807) (hm : fG w) (ht : aW w) :
    VJ prog 17 #[V5 (dL l a), V5 (aE e (VV ga (ln e.gaps) gc))] w (Lr w l e (vW (dy l.edits l.undone l.start (ln l.edits)) e)) := by
  obtain ⟨v, hv⟩ : ∃ v, Value.slice ga (ln e.gaps) gc = v := ⟨_, rfl⟩;have HV := Vs hv;obtain ⟨W0, hW0, e0, hs0, hL, hZ, hR⟩ := RC w l a (aE e v);have HW := Vs hW0;have E0 := Vs e0;have HL := Vs (λW (h : Ext W0 W) => LC.ext hL h);have HZ := Vs (λW (h : Ext W0 W) => EC.ext hZ h);have HR := Vs (λW (h : Ext W0 W) => LC.ext hR h);have KS := Vs (xu W0 l a m B (X := λ_ => False) (hb.below (e0.mono hB)) (VI hB e0.size) (λ_ h => h.elim) hr (hm.below e0 (Vu _)) (ht.below e0 (Vu _)));have hap := Fe.rp hr hg hx;obtain ⟨j', hj'⟩ : ∃ x, dy l.edits l.undone l.start (ln l.edits) = x := ⟨_, rfl⟩;rw [hj'] at hap KS ⊢;obtain ⟨z, hz⟩ : ∃ z, vW j' e = z := ⟨_, rfl⟩;have KC := Vs (λW (h : Ext W0 W) a' (hj : fg W W.heap.size j' a') => rP W j' a' e ga gc hj ((hgp.below ((e0.tr h).mono hB)).more (VI hB (e0.tr h).size)) hap (hm.below (e0.tr h) (Vu _)) (ht.below (e0.tr h) (Vu _)));rw [hv, hz] at KC;rw [hz, hv];obtain ⟨rows, he, hsl⟩ := BI hb.e;have hn := he.1;have KE := Vs (λW (h : Ext W0 W) => CV W a.ea a.ec rows ((hsl.below ((e0.tr h).mono hB)).more (VI hB (e0.tr h).size)) he.wide he.one V7);have KB := Vs (λW (h : Ext W0 W) => BC W a.ua a.uc (eW l.undone) ((hb.u.below ((e0.tr h).mono hB)).more (VI hB (e0.tr h).size)) (oO _) (LX _) (by have := hr.eq; rw [VC]; omega));rw [hn] at KE;rw [VC] at KB;have HE := Vs (λW1 W v2 v5 (h1 : Ext W0 W1) (hx : Ext W1 W) o2 o5 => RZ (W0 := W1) (W := W) (v2 := v2) (v5 := v5) hb hB he hgp (e0.tr h1) (by have := h1.size; omega) hx o2 o5);rw [hv] at HE;have HOC := Vs (show ((aE e v).all λx => x.oneCell') = VD by rw [<- hv]; kernel_rfl);have h4 : ((ln l.edits : Int) == 4096) = Vw := beq_eq_false_iff_ne.2 V7;have hu := hr.eq;have H4 := Vs (And.intro h4 (And.intro hu hfew));have HS := Vs hs0;clear hW0 e0 hL hZ hR hb hB hgp hr hg hx hm ht hap hj' hz hv he hsl hn h4 hu hs0;go_enter func17, ntmps17;go_upto_region 1 with (fail)
  rw [HW.o];go_wp2_with (first
    | (go_at_call 9; fail)
    | (refine wpList_load_row rfl 38 _ rfl _ rfl 38 _ (0, 0) _ (HL.o _ (Ext.aC _)) underlying38 rfl V8 ?_))
  refine KS.o.mono ?_;rintro x1 W1 ⟨a', rfl, hX1, hb1⟩;have X1 := Vs hX1;have B1 := Vs hb1.tofg;clear hX1 hb1;go_wp2_with (first
    | (go_at_call 18; fail)
    | (refine wpList_store_row rfl 34 _ _ rfl _ _ rfl rfl 34 _ (VG W1 _) V8 V8 V8 ?_
       generalize hW2 : World.setRow _ W1.heap.size (cQ j' a') = W2;have X12 := Vs (show Ext W1 W2 by rw [<- hW2]; exact ah ((Below.refl _ _).alloc (Vu _) _) (Vu _) _);have N2 := Vs (show JC W2 W1.heap.size j' a' by unfold JC; rw [<- hW2]; exact setRow_heap (VG W1 _) _);have X2 := Vs (X1.o.tr X12.o);clear hW2)
    | (refine wpList_load_row rfl 34 _ rfl _ rfl 34 _ (0, 0) _ N2.o underlying34 rfl V8 ?_)
    | (refine wpList_load_row rfl 68 _ rfl _ rfl 68 _ (0, 0) _ (HZ.o _ X2.o) underlying68 rfl V8 ?_))
  refine (KC.o _ X2.o a' (B1.o.grow X12.o)).mono ?_;rintro x3 W3 ⟨rfl, hX3⟩;have X3 := Vs (X2.o.tr hX3);clear hX3;by_cases hz0 : z = 0
  case neg =>
    have t0 : (z != 0) = VD := bne_iff_ne.2 hz0;go_wp2_with (first
      | (refine wpList_build rfl 38 _ rfl V8 ?_; rw [show Value.agg (Option.getD (prog.built 38 _) #[]) =V5 (dL nM nP) from V8])
      | (refine wpList_store_row rfl 38 _ _ rfl _ _ rfl rfl 38 _ (HR.o _ X3.o) V8 V8 V8 ?_))
    refine bodyPost_ret (j1 rfl _ _ _ _ rfl (setRow_heap (HR.o _ X3.o) _) V8) rfl ?_;exact ⟨ah (E0.o.tr X3.o) V7 _, by rw [if_neg hz0]; rfl⟩
  subst hz0;have c15 := (HL.o _ X3.o).cell 15;have h4 := H4.o.1;go_wp2_with fail
  have hfew := H4.o.2.2;obtain ⟨ie, hie, ze0, ze1, ze2⟩ := info_parts yr;obtain ⟨ib, hib, zb0, zb1, zb2⟩ := info_parts xC;have IE := Vs (And.intro hie (And.intro ze0 (And.intro ze1 ze2)));have IB := Vs (And.intro hib (And.intro zb0 (And.intro zb1 zb2)));have UE := underlying35;have UB := underlying36;clear hie ze0 ze1 ze2 hib zb0 zb1 zb2;refine wp_region_any V8 (cn 12 (λvs => ⟨#[V5 (dL l a), V5 (aE e v), VY (Vz ⟨w.heap.size, 0, Vx⟩), VY (Vz ⟨w.heap.size + 1, 0, Vx⟩), VY (Vz ⟨w.heap.size + 1 + 1, 0, Vx⟩), VZ VH 0, VY (Vz ⟨W1.heap.size, 0, Vx⟩), VZ VH 0, VZ VH 0, V6 #[V5 (cQ j' a'), VZ VH 0], V5 (dL l a), V6 #[V5 (cQ j' a'), VZ VH 0], V5 (cQ j' a'), VZ VH 0, VZ VH 0, VX Vw, VB, VB, V5 (cQ j' a'), V5 (aE e v), VZ VH 0, VZ VH 0, VX Vw, VB, VB, VY (Vz ⟨w.heap.size, 15, Vx⟩), VV a.ea (ln l.edits) a.ec, VZ VH (ln l.edits : Int), VX Vw, VB, vs 0, vs 1, vs 2, vs 3, vs 4, vs 5, vs 6, vs 7, vs 8, vs 9, vs 10, vs 11, VB, VB], []⟩)
    (λL vs W => FV W3 w.heap.size l a (aE e v) rows.flatten L vs W) V8 ?step ?tail (λ_ => VB) _ (FV.start (Ext.dr _)))
  case step =>
    intro i L vs W hi hL hI hd;have HI := Vs hI;have X := Vs (X3.o.tr hI.ext);have V := λq h1 h2 h3 h4 h5 h6 h7 => hI.vals q (hd q h1) h2 h3 h4 h5 h6 h7
    clear hI;rcases (show i = 0 \/ i = 1 \/ i = 2 \/ i = 3 \/ i = 4 \/ i = 5 \/ i = 6 \/ i = 7 \/ i = 8 \/ i = 9 \/ i = 10 \/ i = 11 by omega) with rfl | rfl | rfl | rfl | rfl | rfl | rfl | rfl | rfl | rfl | rfl | rfl <;> clear hi
    ·exact a0G
    · refine VE rfl (λK hK => ?_)
      have d0 := V 0 V8 V9 V9 V9 V9 V9 V9;simp only [GB] at d0;have m := (HL.o _ X.o).cell 15;go_simp;exact hK _ _ ⟨_, by simp [bA, d0, GB], HI.o.pure V7 rfl⟩
    · refine VE rfl (λK hK => ?_)
      have d1 := V 1 V8 V9 V9 V9 V9 V9 V9;simp only [GB] at d1;have h5 := HI.o.U7 (.inl hL);go_simp;refine (KE.o _ X.o).mono ?_;rintro x W4 ⟨y, rfl, ho, hX⟩;exact hK _ _ ⟨y, by simp [bA, d1], HI.o.up V7 (HI.o.ext.tr hX) V7 V7 (HI.o.ed.clone V9 V9 h5 hX ho HI.o.ext.size) ((HI.o.bl.ext hX).other V9 V9 V9 _)⟩
    · refine VE rfl (λK hK => ?_)
      exact wp_load_row 68 (.tmp 3) rfl (w.heap.size + 1) rfl 68 _ (0, 0) _ (HZ.o _ X.o) underlying68 rfl V8 (hK _ _ ⟨_, by simp [Act.put, bA, GB], HI.o.pure V7 rfl⟩)
    · refine VE rfl (λK hK => ?_)
      have d3 := V 3 V8 V9 V9 V9 V9 V9 V9;simp only [GB] at d3;have h5 := HI.o.U7 (.inr hL);have hX : Ext W (W.alloc (.cells (aE e v) 68)) := (Below.refl _ _).alloc (Vu _) _;exact wp_buildSlice 35 68 1 _ rfl (aE e v) ie _ UE IE.o.1 IE.o.2.1 (by rw [IE.o.2.2.1]; decide) (by rw [IE.o.2.2.1]; decide) (LN IE.o.2.2.1 d3)
        (hK _ _ ⟨_, by simp [Act.put, bA], HI.o.up V7 (HI.o.ext.tr hX) V7 V7 (HI.o.ed.build V9 V9 h5 rfl) ((HI.o.bl.ext hX).other V9 V9 V9 _)⟩)
    · refine VE rfl (λK hK => ?_)
      have l2 := hd 2 V8;have l4 := hd 4 V8;have ho := HI.o.ed.own hL l2;obtain ⟨vb, hv4, hr4, -⟩ := HI.o.ed.bld hL l4;refine nX _ _ 35 rfl W3.heap.size 68 ie _ 37 360 UE IE.o.1 IE.o.2.1 IE.o.2.2.1 IE.o.2.2.2 V8 V9 (vs 2) (ln l.edits) rows.flatten rfl ho ⟨vb, 0, Vx⟩ 1 1 (aE e v).toList hv4 V8 (Vt.news_of_block (t := _) (fr := (0, 0)) hr4) (λu hu => Array.all_eq_true_iff_forall_mem.1 HOC.o u (by simpa using hu)) (by unfold VP; omega) V7 HI.o.ext.size ?_;intro y W4 hw hg;exact hK _ _ ⟨y, by simp [Act.put, bA], HI.o.up V7 (ei HI.o.ext hg (λq hq => (az ho q hq).1)) (λ_ => ⟨l2, l4⟩) V7 (vS.append V9 V9 hw) ((HI.o.bl.grown ho hg V9).other V9 V9 V9 _)⟩
    ·exact a0G
    · refine VE rfl (λK hK => ?_)
      have d6 := V 6 V8 V9 V9 V9 V9 V9 V9;simp only [GB] at d6;have m := (HL.o _ X.o).cell 16;go_simp;exact hK _ _ ⟨_, by simp [bA, d6, GB], HI.o.pure V7 rfl⟩
    · refine VE rfl (λK hK => ?_)
      have d7 := V 7 V8 V9 V9 V9 V9 V9 V9;simp only [GB] at d7;have h10 := HI.o.TM (.inl hL);go_simp;refine (KB.o _ X.o).mono ?_;rintro x W4 ⟨y, rfl, ho, hX⟩;exact hK _ _ ⟨y, by simp [bA, d7], HI.o.up V7 (HI.o.ext.tr hX) V7 V7 ((HI.o.ed.ext hX).other V9 V9 V9 _) (HI.o.bl.clone V9 V9 h10 hX ho HI.o.ext.size)⟩
    · refine VE rfl (λK hK => ?_)
      have h10 := HI.o.TM (.inr hL);have hX : Ext W (W.alloc (.cells #[VX Vw] 4)) := (Below.refl _ _).alloc (Vu _) _;go_simp;exact hK _ _ ⟨_, by simp [bA], HI.o.up V7 (HI.o.ext.tr hX) V7 V7 ((HI.o.ed.ext hX).other V9 V9 V9 _) (HI.o.bl.build V9 V9 h10 rfl)⟩
    · refine VE rfl (λK hK => ?_)
      have l8 := hd 8 V8;have l9 := hd 9 V8;have ho := HI.o.bl.own hL l8;obtain ⟨vb, hv9, hr9, -⟩ := HI.o.bl.bld hL l9;have hun := H4.o.2.1;refine nX _ _ 36 rfl W3.heap.size 4 ib _ 1 1 UB IB.o.1 IB.o.2.1 IB.o.2.2.1 IB.o.2.2.2 rfl V9 (vs 8) (ln l.undone) (eW l.undone).flatten rfl ho ⟨vb, 0, Vx⟩ 1 1 [VX Vw] hv9 rfl (Vt.news_of_block (t := _) (fr := (0, 0)) hr9) (λu hu => by simp at hu; subst hu; rfl) (by unfold VP; omega) V7 HI.o.ext.size ?_;intro y W4 hw hg;exact hK _ _ ⟨y, by simp [Act.put, bA], HI.o.up V7 (ei HI.o.ext hg (λq hq => (az ho q hq).1)) V7 (λ_ => ⟨l8, l9⟩) ((HI.o.ed.grown ho hg V9).other V9 V9 V9 _) (vS.append V9 V9 hw)⟩
    ·exact a0G
  case tail =>
    intro L vs W hL hI;have o5 := hI.ed.app (hL 5 V9);have o10 := hI.bl.app (hL 10 V9);have d11 := hI.vals 11 (hL 11 V9) V9 V9 V9 V9 V9 V9;simp only [GB] at d11;obtain ⟨a', hl, hE, hX⟩ := HE.o W3 W _ _ X3.o hI.ext o5 o10;obtain ⟨A5, n5, c5, e5⟩ := ng.of o5;obtain ⟨A6, n6, c6, e6⟩ := ng.of o10;rw [e5, e6] at hl hE hX;have hx := X3.o.tr hI.ext;have m15 := (HL.o _ hx).cell 15;have m16 := (HL.o _ hx).cell 16;have f15 := LC.frozen (HL.o _ hx) 15;have f16 := LC.frozen (HL.o _ hx) 16;have hc := LC.Po (HL.o _ hx) hl;have hr := (q8 (VV A5 n5 c5) (VV A6 n6 c6) (show w.heap.size + 2 ≠ w.heap.size by omega)).trans (HR.o _ hx);unfold fV at hc hr hE hX;have HLC := Vs hc;have HRC := Vs hr;have HF := Vs (And.intro hE hX);clear hI hL hl hE hX o5 o10 hx hc hr;simp only [e5, e6, d11, List.drop_succ_cons, List.drop_zero];clear e5 e6 d11;go_wp2_with (first
      | (refine wpList_load_row rfl 38 _ rfl _ rfl 38 _ (0, 0) _ HLC.o underlying38 rfl V8 ?_)
      | (refine wpList_store_row rfl 38 _ _ rfl _ _ rfl rfl 38 _ HRC.o V8 V8 V8 ?_))
    refine bodyPost_ret (j1 rfl _ _ _ _ rfl (setRow_heap HRC.o _) V8) rfl ?_;exact ⟨HF.o.1, by rw [if_pos rfl]; exact ⟨a', rfl, HF.o.2⟩⟩
end
section
open Kp
attribute [local go_sem] bM aM jn kA kI
theorem nC.step{B:Nat}{l:Log}{x:Ending}(h0:Ext w W0)(hs:W0.heap.size=w.heap.size+2)(hB:B<=w.heap.size)(hR:LC W0 (w.heap.size+1) nM nP)(h:nC B W0 l x W):
  ∃a',x=V0 (V6 #[V5 (dL l a'),VZ VH 0])/\LC W (w.heap.size+1) nM nP/\∃W',W'=W.setRow (w.heap.size+1) (dL l a')/\LC W' (w.heap.size+1) l a'/\nC B w l (V0 (V6 #[V5 (dL l a'),VZ VH 0])) W':=by
 obtain⟨a',rfl,hx,hv⟩:=h;have r1:=LC.ext hR hx;refine⟨a',rfl,r1,_,rfl,setRow_heap r1 _,a',rfl,ah (h0.tr hx) V7 _,?_⟩;have hv':=QT.row hv (c:=w.heap.size+1) (by constructor <;>omega) (dL l a');exactλV hO=>hv' V ⟨hO.1,λb hb hn=>hO.2 b hb (λq=>hn ⟨q.1,V7⟩)⟩
def FT{p:Prop}(h:p:=by
  subst hq;obtain⟨W0,hW0,e0,hs0,hL,hR⟩:=GN w l a;have HW:=Vs hW0;have HL0:=Vs hL;have HS:=Vs (λ(l':Log) (x:Ending) (W:Vt) (h:nC B W0 l' x W)=>nC.step e0 hs0 hB hR h);have KS:=Vs (JF W0 l a i _ (hb.below (e0.mono hB)) (VI hB e0.size) hr hi hu (hm.below e0 (Vu _)) (ht.below e0 (Vu _)));clear hW0 e0 hs0 hL hR hb hB hr hm ht hu;go_upto_region 1 with(fail)
  rw[HW.o];go_wp2_with(first
   |(go_at_call 36;fail)
   |(refine wpList_load_row rfl 38 _ rfl _ rfl 38 _ (0,0) _ HL0.o underlying38 rfl V8 ?_))
  refine KS.o.mono ?_;intro x1 W1 hp;obtain⟨a',rfl,r1,W2,hW2,n2,hP⟩:=HS.o _ _ _ hp;have R1:=Vs r1;have N2:=Vs n2;have HP:=Vs hP;have HW2:=Vs hW2;clear hp r1 n2 hP hW2;go_wp2_with(refine wpList_store_row rfl 38 _ _ rfl _ _ rfl rfl 38 _ R1.o V8 V8 V8 ?_;rw[<-HW2.o])
  refine bodyPost_ret (j1 rfl _ _ _ _ rfl N2.o V8) rfl ?_;exact HP.o):p:=h
theorem MJ(w:Vt)(l:Log)(a:kQ)(i:Nat)(hq:u=VD){m B:Nat}(hb:iH w B l a)(hB:B<=w.heap.size)(hr:j5 l.edits l.undone l.start m)(hi:i<ln l.edits)(hu:l.undone.getD i Vw= !u)(hm:fG w)(ht:aW w):
  VJ prog 14 #[V5 (dL l a),VZ VH (i:Int)] w (nC B w (lJ l i u)):=by
 go_enter func14,ntmps14;exact FT
theorem Ni(w:Vt)(l:Log)(a:kQ)(i:Nat)(hq:u=Vw){m B:Nat}(hb:iH w B l a)(hB:B<=w.heap.size)(hr:j5 l.edits l.undone l.start m)(hi:i<ln l.edits)(hu:l.undone.getD i Vw= !u)(hm:fG w)(ht:aW w):
  VJ prog 13 #[V5 (dL l a),VZ VH (i:Int)] w (nC B w (lJ l i u)):=by
 go_enter func13,ntmps13;exact FT
end
section
open Kp
attribute [local go_sem] bM jQ jK jJ jO jN jR jL jP jS jU gi fX fZ gj gw
def SK{rs:List (List Sd)}(h:pG rs=0):∀r∈rs,r≠[]:=by
 rintro r hr rfl;unfold pG at h;rw[if_pos (by rw[Bool.or_eq_true];exact .inl (List.any_eq_true.2 ⟨[],hr,rfl⟩))] at h;cases h
def Vh(rs:List (List Sd))(x:Ending):Prop:=∃(A:Option VT) (n c:Nat) (k:Int),x=V0 (V6 #[VV A n c,VZ VH k])/\n<=1000000/\(pG rs=0->n=ln rs.flatten)
def Ez(w:Vt)(A:Option VT)(cap:Nat)(rs:List (List Sd))(hr:fj w w.heap.size A cap rs)(hfl:ln rs.flatten<=1000000):
  VJ prog 111 #[V5 #[VV A (ln rs) cap]] w λx w'=>Vh rs x/\Ext w w':=by
 obtain⟨i0,hi0,hz0,hz1,hz2⟩:=info_parts ry;have I0:=Vs hi0;have I1:=Vs hz0;have I2:=Vs hz1;have I3:=Vs hz2;have h1:=hr.1;have h2:=hr.2.1;unfold VP at h2;have E0:=Vs (show Ext w (w.alloc (.cells #[VV A (ln rs) cap] 24)) from(Below.refl _ _).alloc (Vu _) _);have R0:=Vs (Bx.new w 24 (VV A (ln rs) cap));have hr0:=(hr.below E0.o).more E0.o.size;obtain⟨w0,hw0⟩:∃w0,w.alloc (.cells #[VV A (ln rs) cap] 24)=w0:=⟨_,rfl⟩;rw[hw0] at E0 R0 hr0;have KC:=Vs (uK w0 A cap rs hr0 hfl);have HR:=Vs hr0;have HW0:=Vs hw0;have HB:=Vs (λW (h:Ext w0 W)=>(R0.o.below h R0.o.lt).cell);have HFL:=Vs hfl;clear hr hr0 hfl hi0 hz0 hz1 hz2 hw0;go_enter func111,ntmps111;go_wp2_with(go_at_call 46;fail)
 rw[HW0.o];refine KC.o.mono ?_;obtain⟨k,hkv⟩:∃k,pG rs=k:=⟨_,rfl⟩;rw[hkv];have HKV:=Vs hkv;have hk:k=0->∀r∈rs,r≠[]:=λe=>SK (hkv.trans e)
 clear hkv;rintro e W1 ⟨rfl,hX1⟩;have X1:=Vs hX1;by_cases hk0:k=0
 ·subst hk0;have hne:=hk rfl;have HNE:=Vs hne;clear hk hX1 hne;go_wp2_with fail
  have ST:=Vs (show W1.ownsRow w0.heap.size 54 7 (VV Vx 0 0) 0 [] from⟨rfl,.inl ⟨rfl,rfl⟩⟩);go_loopw [4,5] (λv i wr=>U8 w0 rs v i wr) (λ_ i _=>((ln rs:Int)-VN i).toNat)
  case atStart=>exact⟨0,V7,rfl,by simpa using ST.o,X1.o⟩
  case round=>
   obtain⟨k,hk,rfl,hown,hX⟩:=hrel;have HOW:=Vs hown;have HXW:=Vs hX;have c0:=HB.o _ hX;clear hown hX;by_cases hlt:k<ln rs
   ·obtain⟨b,off,rfl,hB,hcell⟩:=(HR.o.below HXW.o).2.2 V7;obtain⟨Ai,ci,c1,hsl⟩:=hcell k hlt;have hrne:rs.getD k []≠[]:=by
     have e:rs.getD k []=rs[k]:=by rw[Vv,VA hlt];rfl
     rw[e];exact HNE.o _ (List.getElem_mem hlt)
    have hq:=dE hlt;have hle:=eG rs (k+1);obtain⟨ring,hring⟩:∃ring,rs.getD k []=ring:=⟨_,rfl⟩;rw[hring] at c1 hsl hrne hq;have hpos:0<ln ring:=List.length_pos_iff.2 hrne;obtain⟨ba,oa,rfl,_,_⟩:=id (hsl.2.2 (by rw[VC];exact hpos));have hnews:=Vs (hsl.cells (dG ring) V9);have hfl:=Vs (show(aD ring).flatten.length=ln ring*7 by rw[bt (dG ring),VC]);have hlen2:(rs.take k).flatten.length+ln ring<=1000000:=by rw[hq,VM] at hle;have:=HFL.o;omega
    have hone:=Vs (show∀u∈(aD ring).flatten,u.oneCell'=VD by
     intro u hu;obtain⟨r,hr,hur⟩:=List.mem_flatten.1 hu;obtain⟨s,_,rfl⟩:=List.mem_map.1 hr;simp only[List.mem_cons,List.not_mem_nil,or_false] at hur;rcases hur with rfl|rfl|rfl|rfl|rfl|rfl|rfl<;>rfl)
    have HQ:=Vs hq;have hbase:=HXW.o.size;clear hcell hsl hrne hq hle hring;go_wp2_with(at_builtin;(refine wpList_append_own _ rfl _ _ _ rfl w0.heap.size 54 i0 _ 7 56 underlying80 I0.o I1.o I2.o I3.o rfl V7 _ _ _ rfl HOW.o ⟨ba,oa,Vx⟩ (ln ring) ci (aD ring).flatten rfl hfl.o hnews.o hone.o Wh V7 hbase ?_);intro v' w' hown' hgr' hnil)
    exact Zg
   ·obtain rfl:k=ln rs:=V7;have ho:=HOW.o;rw[List.take_length] at ho;obtain⟨A',cap',rfl,hsl⟩:=aK ho (by rw[VC]) (dG _);clear ho hsl;go_wp2;go_ret2;exact⟨⟨A',_,cap',_,rfl,HFL.o,λ_=>rfl⟩,E0.o.tr HXW.o⟩
 ·have t0:(k !=0)=VD:=bne_iff_ne.2 hk0;clear hk hX1;go_wp2_with fail
  go_ret2;exact⟨⟨Vx,0,0,_,rfl,V7,λh=>absurd (HKV.o.symm.trans h) hk0⟩,E0.o.tr X1.o⟩
def Ss(rs:List (List Sd))(l:List kN):Prop:=ln l<=32/\(∀i,i<ln l->qY (l.getD i eB))/\(∀i,i<ln l->∀j,j<i->JJ (l.getD i eB) (l.getD j eB)=Vw)/\(pG rs=0->∀i,i<ln l->aP (l.getD i eB).side 0 ((ln rs.flatten:Int)-1)=VD)
def Nj(rs:List (List Sd))(l:List kN)(x:Ending):Prop:=∃k:Int,x=V0 (VZ VH k)/\(k=0->Ss rs l)
def wK(w:Vt)(A:Option VT)(cap:Nat)(rs:List (List Sd))(hr:fj w w.heap.size A cap rs)(hfl:ln rs.flatten<=1000000)(Ao:Option VT)(co:Nat)(l:List kN)(hl:bJ 5 w w.heap.size Ao co (bw l))(hs:ln l<=32->∀i,i<ln l->uw (l.getD i eB))(ht:aW w):
  VJ prog 49 #[V5 #[VV A (ln rs) cap],VV Ao (ln l) co] w λx w'=>Nj rs l x/\Ext w w':=by
 have h1:=hl.1;have h2:=hl.2.1;rw[VC] at h1;unfold VP at h2;have E0:=Vs (show Ext w (w.alloc (.cells #[VV A (ln rs) cap] 24)) from(Below.refl _ _).alloc (Vu _) _);have R0:=Vs (Bx.new w 24 (VV A (ln rs) cap));obtain⟨w0,hw0⟩:∃w0,w.alloc (.cells #[VV A (ln rs) cap] 24)=w0:=⟨_,rfl⟩;rw[hw0] at E0 R0;have HW0:=Vs hw0;have HB:=Vs (λW (h:Ext w0 W)=>(R0.o.below h R0.o.lt).cell);have HL:=Vs (λ(W:Vt) (hx:Ext w W)=>((hl.below hx).more hx.size:bJ 5 W W.heap.size Ao co (bw l)));have KD:=Vs (wF w0 Ao co l (HL.o _ E0.o) hs (ht.below E0.o (Vu _)));have KS:=Vs (λW (h:Ext w W)=>Ez W A cap rs ((hr.below h).more h.size) hfl);clear hr hfl hw0 hl hs ht;go_enter func49,ntmps49;go_wp2_with(go_at_call 110;fail)
 rw[HW0.o];refine KD.o.mono ?_;rintro e W1 ⟨⟨b,k,rfl,hk⟩,hX1⟩;have X1:=Vs hX1;have HK:=Vs hk;have c0:=HB.o _ hX1;clear hX1 hk;by_cases hk0:k=0
 ·subst hk0;have h32:=Vs (HK.o rfl);have HNZ:=Vs (show∀k:Int,k≠0->Nj rs l (V0 (VZ VH k)) fromλk h=>⟨k,rfl,λe=>absurd e h⟩);go_wp2_with(go_at_call 111;fail)
  refine(KS.o _ (E0.o.tr X1.o)).mono ?_;rintro e W2 ⟨⟨As,n,c,k2,rfl,hn,hnv⟩,hX2⟩;have HNV:=Vs hnv;clear hnv;have X2:=Vs (X1.o.tr hX2);clear hX2 c0;go_wp2_with fail
  go_loopw [9] (λi wr=>∃k:Nat,i=VZ VH (k:Int)/\k<=ln l/\(∀j,j<k->aP (l.getD j eB).side 0 ((n:Int)-1)=VD)/\Ext w0 wr) (λi _=>((ln l:Int)-VN i).toNat)
  case atStart=>exact⟨0,rfl,V7,λj hj=>V7,X2.o⟩
  case round=>
   obtain⟨m,rfl,hm,hbt,hX⟩:=hrel;have HBT:=Vs hbt;clear hbt;have HX:=Vs hX;by_cases hlt:m<ln l
   ·obtain⟨b',off,rfl,hb,hc⟩:=qv (HL.o _ (E0.o.tr hX)) V7;have y0:=(hc m hlt).1;obtain⟨s,hs⟩:∃s,(l.getD m eB).side=s:=⟨_,rfl⟩;rw[hs] at y0;have HSV:=Vs hs;have w1:VH.wrap ((n:Int)-1)=(n:Int)-1:=VQ _ V7;have e1:(m:Int)<(ln l:Int):=V7;clear hX hc hb hs;go_wp2_with(go_at_call 47;fail)
    refine(gS _ _ _ _).mono ?_;rintro e W3 ⟨rfl,rfl⟩;obtain⟨p,hp⟩:∃p,(!aP s 0 ((n:Int)-1))=p:=⟨_,rfl⟩;rw[hp];have HPV:=Vs hp;clear hp;cases p
    ·go_wp2_with fail
     exact⟨⟨m+1,by go_num,V7,λj hj=>(by
      by_cases e:j=m
      ·rw[e,HSV.o];simpa using HPV.o
      ·exact HBT.o j V7),HX.o⟩,Wc⟩
    ·go_wp2_with fail
     go_ret;exact⟨HNZ.o _ V9,E0.o.tr HX.o⟩
   ·obtain rfl:m=ln l:=V7;clear hX;have HAC:=Vs (show b=VD->Nj rs l (V0 (VZ VH 0)) fromλhb=>⟨0,rfl,λ_=>⟨h32.o.1,h32.o.2.1,h32.o.2.2 hb,λhck i hi=>by rw[<-HNV.o hck];exact HBT.o i hi⟩⟩);cases b
    ·go_wp2_with fail
     go_ret;exact⟨HNZ.o _ V9,E0.o.tr HX.o⟩
    ·go_wp2_with fail
     go_ret;exact⟨HAC.o WW,E0.o.tr HX.o⟩
 ·have t0:(k !=0)=VD:=bne_iff_ne.2 hk0;go_wp2_with fail
  go_ret;exact⟨⟨_,rfl,λh=>absurd h hk0⟩,E0.o.tr X1.o⟩
theorem Oc(h1:pX j.name=VD)(h2:pG j.rings=0)(h3:(!aP j.origin 0 65536)=Vw)(h4:(!aP j.spacing 1 65536)=Vw)(h5:iT j.purlins=0)(h6:Ss j.rings j.openings)(h7:fW j.sizes=0)(h8:iM j.bars=0)(h9:(!aP j.kerf 0 100)=Vw)(h10:dM j.tile=0)(h11:gm j.aG=0)(h12:gG j.spans=0):mF j=0:=by
 have hp:=Pn h2;obtain⟨o1,o2,o3,o4⟩:=h6;have hc:=PR hp o1 o2 o3 (o4 h2);simp only[Bool.not_eq_false'] at h3 h4 h9;unfold mF;rw[h1,hp,h3,h4,h5,hc,h7,h8,h9,h10,h11,h12];simp
def Vg(j:bI)(x:Ending):Prop:=∃k:Int,x=V0 (VZ VH k)/\(k=0->mF j=0)
def Ff(w:Vt)(j:bI)(a:dS)(hb:fg w w.heap.size j a)(hj:Tp j)(ht:aW w):
  VJ prog 21 #[V5 (cQ j a)] w λx w'=>Vg j x/\Ext w w':=by
 have E0:=Vs (show Ext w (w.alloc (.cells (cQ j a) 34)) from(Below.refl _ _).alloc (Vu _) _);have J0:JC (w.alloc (.cells (cQ j a) 34)) w.heap.size j a:=VG w _;obtain⟨w0,hw0⟩:∃w0,w.alloc (.cells (cQ j a) 34)=w0:=⟨_,rfl⟩;rw[hw0] at E0 J0;have HW0:=Vs hw0;have HC:=Vs (λW (h:Ext w0 W) i=>(JC.ext J0 h).cell i);have HB:=Vs (λW (h:Ext w0 W)=>hb.grow (E0.o.tr h));have HT:=Vs (λW (h:Ext w0 W)=>ht.below (E0.o.tr h) (Vu _));have KN:=Vs (λW=>Dv j.name W hj.name);have KP:=Vs (λW (h:Ext w0 W)=>uK W a.pa a.pc j.rings (HB.o W h).p hj.rings);have KU:=Vs (λW (h:Ext w0 W)=>zY W a.ua a.uc j.purlins (HB.o W h).u);have KO:=Vs (λW (h:Ext w0 W)=>wK W a.pa a.pc j.rings (HB.o W h).p hj.rings a.oa a.oc j.openings (HB.o W h).o hj.ops (HT.o W h));have KZ:=Vs (λW (h:Ext w0 W)=>D6 W a.za a.zc j.sizes (HB.o W h).z);have KB:=Vs (λW (h:Ext w0 W)=>DW W a.ba a.bc j.bars (HB.o W h).b);have KT:=Vs (λW=>Al j.tile W);have KL:=Vs (λW (h:Ext w0 W)=>EL W a.la a.lc j.aG (HB.o W h).l hj.aG (HT.o W h));have KS:=Vs (λW (h:Ext w0 W)=>Fy W a.sa a.sc j.spans (HB.o W h).s);clear hb hj ht hw0 J0;go_enter func21,ntmps21;go_wp2_with(go_at_call 45;fail)
 rw[HW0.o];have X0:=Vs (Ext.aC w0);refine(KN.o _).mono ?_;obtain⟨b1,hb1⟩:∃b,pX j.name=b:=⟨_,rfl⟩;rw[hb1];have F1:=Vs hb1;clear hb1;rintro e W1 ⟨rfl,hW1⟩;have hX1:Ext w0 W1:=by first|(rw[hW1];exact Ext.aC _)|(rw[<-hW1];exact Ext.aC _)
 clear hW1;have X1:=Vs (X0.o.tr hX1);have c1:=HC.o _ X1.o;clear hX1;cases b1
 case false=>
  go_wp2_with fail
  go_ret;exact⟨⟨_,rfl,λh=>absurd h V9⟩,E0.o.tr X1.o⟩
 go_wp2_with(go_at_call 46;fail)
 refine(KP.o _ X1.o).mono ?_;obtain⟨k2,hk2v⟩:∃k,pG j.rings=k:=⟨_,rfl⟩;rw[hk2v];have F2:=Vs hk2v;clear hk2v;rintro e W2 ⟨rfl,hX2⟩;have X2:=Vs (X1.o.tr hX2);have c2:=HC.o _ X2.o;clear hX2 c1;by_cases hk2:k2=0
 case neg=>
  have tk2:(k2 !=0)=VD:=bne_iff_ne.2 hk2;go_wp2_with fail
  go_ret;exact⟨⟨_,rfl,λh=>absurd h hk2⟩,E0.o.tr X2.o⟩
 subst hk2;go_wp2_with(go_at_call 47;fail)
 refine(gS _ _ _ _).mono ?_;rintro e Vpa ⟨rfl,rfl⟩;obtain⟨pa,hpa⟩:∃p,(!aP j.origin 0 65536)=p:=⟨_,rfl⟩;rw[hpa];have Fhpa:=Vs hpa;clear hpa;cases pa
 case true=>
  exact a0X
 go_wp2_with(go_at_call 47;fail)
 refine(gS _ _ _ _).mono ?_;rintro e Vpb ⟨rfl,rfl⟩;obtain⟨pb,hpb⟩:∃p,(!aP j.spacing 1 65536)=p:=⟨_,rfl⟩;rw[hpb];have Fhpb:=Vs hpb;clear hpb;cases pb
 case true=>
  exact a0X
 go_wp2_with(go_at_call 48;fail)
 refine(KU.o _ X2.o).mono ?_;rintro e W3 ⟨rfl,hX3⟩;have X3:=Vs (X2.o.tr hX3);have c3:=HC.o _ X3.o;clear hX3 c2;obtain⟨ku,hku⟩:∃k,iT j.purlins=k:=⟨_,rfl⟩;rw[hku];have Fku:=Vs hku;clear hku;by_cases hku:ku=0
 case neg=>
  have tku:(ku !=0)=VD:=bne_iff_ne.2 hku;go_wp2_with fail
  go_ret;exact⟨⟨_,rfl,λh=>absurd h hku⟩,E0.o.tr X3.o⟩
 subst hku;go_wp2_with(go_at_call 49;fail)
 refine(KO.o _ X3.o).mono ?_;rintro e W4 ⟨⟨ko,rfl,hko⟩,hX4⟩;have X4:=Vs (X3.o.tr hX4);have c4:=HC.o _ X4.o;clear hX4 c3;have HKO:=Vs hko;clear hko;by_cases hko:ko=0
 case neg=>
  have tko:(ko !=0)=VD:=bne_iff_ne.2 hko;go_wp2_with fail
  go_ret;exact⟨⟨_,rfl,λh=>absurd h hko⟩,E0.o.tr X4.o⟩
 subst hko;have h32:=Vs (HKO.o rfl);go_wp2_with(go_at_call 50;fail)
 refine(KZ.o _ X4.o).mono ?_;obtain⟨kz,hkz⟩:∃k,fW j.sizes=k:=⟨_,rfl⟩;rw[hkz];have Fkz:=Vs hkz;clear hkz;rintro e W5 ⟨rfl,hX5⟩;have X5:=Vs (X4.o.tr hX5);have c5:=HC.o _ X5.o;clear hX5 c4;by_cases hkz:kz=0
 case neg=>
  have tkz:(kz !=0)=VD:=bne_iff_ne.2 hkz;go_wp2_with fail
  go_ret;exact⟨⟨_,rfl,λh=>absurd h hkz⟩,E0.o.tr X5.o⟩
 subst hkz;go_wp2_with(go_at_call 51;fail)
 refine(KB.o _ X5.o).mono ?_;obtain⟨kb,hkb⟩:∃k,iM j.bars=k:=⟨_,rfl⟩;rw[hkb];have Fkb:=Vs hkb;clear hkb;rintro e W6 ⟨rfl,hX6⟩;have X6:=Vs (X5.o.tr hX6);have c6:=HC.o _ X6.o;clear hX6 c5;by_cases hkb:kb=0
 case neg=>
  have tkb:(kb !=0)=VD:=bne_iff_ne.2 hkb;go_wp2_with fail
  go_ret;exact⟨⟨_,rfl,λh=>absurd h hkb⟩,E0.o.tr X6.o⟩
 subst hkb;go_wp2_with(go_at_call 47;fail)
 refine(gS _ _ _ _).mono ?_;rintro e Vpc ⟨rfl,rfl⟩;obtain⟨pc,hpc⟩:∃p,(!aP j.kerf 0 100)=p:=⟨_,rfl⟩;rw[hpc];have Fhpc:=Vs hpc;clear hpc;cases pc
 case true=>
  go_wp2_with fail
  go_ret;exact⟨⟨_,rfl,λh=>absurd h V9⟩,E0.o.tr X6.o⟩
 go_wp2_with(go_at_call 52;fail)
 refine(KT.o _).mono ?_;rintro e W7 ⟨rfl,hX7⟩;have X7:=Vs (X6.o.tr hX7);have c7:=HC.o _ X7.o;clear hX7 c6;obtain⟨kt,hkt⟩:∃k,dM j.tile=k:=⟨_,rfl⟩;rw[hkt];have Fkt:=Vs hkt;clear hkt;by_cases hkt:kt=0
 case neg=>
  have tkt:(kt !=0)=VD:=bne_iff_ne.2 hkt;go_wp2_with fail
  go_ret;exact⟨⟨_,rfl,λh=>absurd h hkt⟩,E0.o.tr X7.o⟩
 subst hkt;go_wp2_with(go_at_call 53;fail)
 refine(KL.o _ X7.o).mono ?_;rintro e W8 ⟨⟨kl,rfl,hkl⟩,hX8⟩;have Fkl:=Vs hkl;clear hkl;have X8:=Vs (X7.o.tr hX8);have c8:=HC.o _ X8.o;clear hX8 c7;by_cases hkl:kl=0
 case neg=>
  have tkl:(kl !=0)=VD:=bne_iff_ne.2 hkl;go_wp2_with fail
  go_ret;exact⟨⟨_,rfl,λh=>absurd h hkl⟩,E0.o.tr X8.o⟩
 subst hkl;go_wp2_with(go_at_call 54;go_loud (refine(KS.o _ X8.o).mono ?_);rintro e W9 ⟨rfl,hX9⟩;have X9:=Vs (X8.o.tr hX9))
 go_ret;exact⟨⟨_,rfl,λh=>Oc F1.o F2.o Fhpa.o Fhpb.o Fku.o h32.o Fkz.o Fkb.o Fhpc.o Fkt.o (Fkl.o WW) h⟩,E0.o.tr X9.o⟩
end
section
open Kp
attribute [local go_sem] jn kA kI aM
def yQ(w:Vt)(l:Log)(a:kQ)(hb:iH w w.heap.size l a)(hbig:ln l.start.rings.flatten<=4000000000):
  VJ prog 20 #[V5 (dL l a)] w λx w'=>jv (Sw l) x/\Ext w w':=by
 have E0:=Vs (show Ext w (w.alloc (.cells (dL l a) 38)) from(Below.refl _ _).alloc (Vu _) _);have L0:LC (w.alloc (.cells (dL l a) 38)) w.heap.size l a:=VG w _;obtain⟨w0,hw0⟩:∃w0,w.alloc (.cells (dL l a) 38)=w0:=⟨_,rfl⟩;rw[hw0] at E0 L0;have HW0:=Vs hw0;have HL:=Vs (λW (h:Ext w0 W)=>LC.ext L0 h);have HB:=Vs (λW (h:Ext w0 W)=>hb.grow (E0.o.tr h));have KG:=Vs (λW (h:Ext w0 W)=>Cn W l.start a.ja (HB.o W h).j hbig);have H1:=hb.e.1;have H2:=hb.e.2.1;unfold VP at H2;clear hb hbig hw0 L0;obtain⟨p,tp⟩:∃p,decide ((ln l.edits:Int)<=6)=p:=⟨_,rfl⟩;obtain⟨q,tq⟩:∃q,decide ((ln l.edits:Int)>6)=q:=⟨_,rfl⟩;obtain⟨r,tr⟩:∃r,decide ((ln l.undone:Int)>6)=r:=⟨_,rfl⟩;have HR:=Vs (And.intro tp (And.intro tq tr));go_enter func20,ntmps20;go_wp2_with fail
 rw[HW0.o];go_loopw [3] (λi wr=>∃k:Nat,i=VZ VH (k:Int)/\k<=ln l.edits/\Ext w0 wr/\∀m,m<k->dt (l.edits.getD m ef)=Vw) (λi _=>((ln l.edits:Int)-VN i).toNat)
 case atStart=>exact⟨0,rfl,V7,Ext.aC _,λm hm=>absurd hm V7⟩
 case round=>
  obtain⟨k,rfl,hk,hX,hG⟩:=hrel;have HX:=Vs hX;have HG:=Vs hG;have c15:=(HL.o _ hX).cell 15;have c16:=(HL.o _ hX).cell 16;clear hX hG;by_cases hlt:k<ln l.edits
  ·have tlt:decide ((k:Int)<(ln l.edits:Int))=VD:=decide_eq_true V7;cases p with
   |true=>
    obtain⟨b,off,f,hA,hB,hc⟩:=(HB.o _ HX.o).e.at V7;obtain⟨hc1,_⟩:=hc k hlt;obtain⟨ed,hed⟩:∃x,l.edits.getD k ef=x:=⟨_,rfl⟩;have HED:=Vs hed;rw[hed] at hc1;obtain⟨g,hg⟩:∃g,dt ed=g:=⟨_,rfl⟩;have HGK:=Vs hg;have KE:=Vs (λW=>pg W ed (f k).1 (f k).2);rw[hg] at KE;obtain⟨v,hv⟩:∃v,Value.slice (f k).1 (ln ed.gaps) (f k).2=v:=⟨_,rfl⟩;rw[hv] at KE hc1;rw[kA,hA] at c15;rw[VL] at hc1;have HC1:=Vs hc1;clear hc hc1 hB hg hed hv hA;cases g<;>
     go_wp2_with(first
      |(go_at_call 16;go_must(refine(KE.o _).mono ?_);rintro x1 W1 ⟨rfl,hX1⟩;have HX1:=Vs hX1;clear hX1)
      |(refine jA rfl _ rfl b (off+k*37) rfl _ _ HC1.o ?_))
    ·exact⟨⟨k+1,by go_num,V7,HX.o.tr HX1.o,λm hm=>by
      by_cases e:m=k
      ·rw[e,HED.o];exact HGK.o
      ·exact HG.o m V7⟩,Wc⟩
    ·go_ret;exact⟨⟨_,rfl,λh=>Wb⟩,E0.o.tr (HX.o.tr HX1.o)⟩
   |false=>
    cases r<;>
     go_wp2_with(first
      |(go_at_call 44;go_must(refine(KG.o _ HX.o).mono ?_);rintro x1 W1 ⟨⟨b1,rfl,h1⟩,hX1⟩;have HX1:=Vs hX1;have c15:=(HL.o _ (HX.o.tr hX1)).cell 15;have c16:=(HL.o _ (HX.o.tr hX1)).cell 16;clear hX1;cases b1)
      |(refine dh Wl _ rfl _ _ rfl _ _ (HL.o _ HX.o).start ?_))
    all_goals
     go_ret;refine⟨⟨_,rfl,λh=> ?_⟩,E0.o.tr (HX.o.tr HX1.o)⟩;have h6:=of_decide_eq_false HR.o.1;have h7:=HR.o.2.1;have h8:q=VD:=by rw[<-h7];exact decide_eq_true V7
     first
      |exact absurd h8 Wi
      |(simp[h8] at h;done)
  ·obtain rfl:k=ln l.edits:=V7;cases q<;>cases r<;>
    go_wp2_with(first
     |(go_at_call 44;go_must(refine(KG.o _ HX.o).mono ?_);rintro x1 W1 ⟨⟨b1,rfl,h1⟩,hX1⟩;have HX1:=Vs hX1;have G1:=Vs h1;have c15:=(HL.o _ (HX.o.tr hX1)).cell 15;have c16:=(HL.o _ (HX.o.tr hX1)).cell 16;clear hX1 h1;cases b1)
     |(refine dh Wl _ rfl _ _ rfl _ _ (HL.o _ HX.o).start ?_))
   all_goals
    go_ret;refine⟨⟨_,rfl,λh=> ?_⟩,E0.o.tr (HX.o.tr HX1.o)⟩
    first
     |(cases h;done)
     |exact⟨G1.o WW,HG.o,by have:=of_decide_eq_false HR.o.2.1;omega,by have:=of_decide_eq_false HR.o.2.2;omega⟩
def Am(w:Vt)(l:Log)(a:kQ)(hb:iH w w.heap.size l a)(hbig:ln l.start.rings.flatten<=4000000000)(ht:aW w):
  VJ prog 6 #[V5 (dL l a)] w λx w'=>TB (LI l) x/\Ext w w':=by
 have E0:=Vs (show Ext w (w.alloc (.cells (dL l a) 38)) from(Below.refl _ _).alloc (Vu _) _);have L0:LC (w.alloc (.cells (dL l a) 38)) w.heap.size l a:=VG w _;obtain⟨w0,hw0⟩:∃w0,w.alloc (.cells (dL l a) 38)=w0:=⟨_,rfl⟩;rw[hw0] at E0 L0;have HW0:=Vs hw0;have HL:=Vs (λW (h:Ext w0 W)=>LC.ext L0 h);have HL0:=Vs L0;have HB:=Vs (λW (h:Ext w0 W)=>hb.grow (E0.o.tr h));have KG:=Vs (yQ w0 l a (HB.o _ (Ext.aC _)) hbig);have KC:=Vs (λW (h:Ext w0 W) (g:yZ l.start)=>Ff W l.start a.ja (HB.o W h).j g.fw (ht.below (E0.o.tr h) (Vu _)));clear hb hbig hw0 L0 ht;go_enter func6,ntmps6;go_wp2_with(first
  |(go_at_call 20;fail)
  |(rw[HW0.o];refine wpList_load_row rfl 38 _ rfl _ rfl 38 _ (0,0) _ HL0.o underlying38 rfl V8 ?_))
 try rw[HW0.o]
 refine KG.o.mono ?_;rintro x1 W1 ⟨⟨b1,rfl,h1⟩,hX1⟩;have X1:=Vs hX1;have G1:=Vs h1;clear hX1 h1;cases b1 with
 |true=>
  go_wp2_with fail
  go_ret;exact⟨⟨_,rfl,λh=>Wb⟩,E0.o.tr X1.o⟩
 |false=>
  have HG:=Vs (G1.o rfl);go_wp2_with(first
   |(go_at_call 21;fail)
   |(refine dh Wl _ rfl _ _ rfl _ _ (HL.o _ X1.o).start ?_))
  refine(KC.o _ X1.o HG.o.j).mono ?_;rintro x2 W2 ⟨⟨k,rfl,hk⟩,hX2⟩;have X2:=Vs (X1.o.tr hX2);have HK:=Vs hk;have c15:=(HL.o _ X2.o).cell 15;have c16:=(HL.o _ X2.o).cell 16;clear hX2 hk;by_cases hk0:k=0
  ·subst hk0;obtain⟨p,tp⟩:∃p,((ln l.edits:Int)==(ln l.undone:Int))=p:=⟨_,rfl⟩;have HP:=Vs tp;go_wp2_with fail
   go_ret;refine⟨⟨_,rfl,λh=>⟨HG.o,HK.o WW,?_⟩⟩,E0.o.tr X2.o⟩;have h2:(ln l.edits:Int)=(ln l.undone:Int):=by
    have:=HP.o
    first
     |(simp only[h] at this;simpa using this)
     |simpa using h
   omega
  ·have tk:(k==0)=Vw:=by simpa using hk0
   go_wp2_with fail
   go_ret;exact⟨⟨_,rfl,λh=>Wb⟩,E0.o.tr X2.o⟩
end
section
open Kp
theorem j5.set{l:Log}(h:j5 l.edits l.undone l.start m)(i:Nat)(u:Bool):j5 (lJ l i u).edits (lJ l i u).undone (lJ l i u).start m:=
 ⟨h.sm,h.ln,h.mx,h.gr,h.ix,h.ok,(List.length_set ..).trans h.eq,h.NV⟩
theorem Q4{l:Log}(u:Bool)(hi:i<ln l.undone):(lJ l i u).undone.getD i Vw=u:=by
 show(l.undone.set i u).getD i Vw=u;simp[Vv,hi]
theorem LY{l:Log}(hi:i<ln l.undone)(hu:l.undone.getD i Vw= !u):lJ (lJ l i u) i (!u)=l:=by
 show{l with undone:=(l.undone.set i u).set i (!u)}=l;rw[List.set_set,<-hu,Vv,VA hi,Option.getD_some,List.set_getElem_self]
def cE{A B:Vt}{P:Vt->Prop}(h:Hid (∀W,Ext A W->P W))(y:Hid (Ext A B)):Hid (∀W,Ext B W->P W):=Vs (λW k=>h.o W (y.o.tr k))
theorem bQ{ops:Array Oper}{rest:List Oper}{o:Oper}{b:Act}{Q:Exit->Act->Vt->Prop}(hw:Region.wanted o (yielded ops b.tmps)=VD)(x:Operand)(ho:o.op= .load 38 x)
  (g:Nat)(hx:b.eval x=VY (Vz ⟨g,0,Vx⟩))(l:Log)(hg:LC w g l a)(h:wpList prog ops Q rest (b.put o.dst (V5 (dL l a))) w):wpList prog ops Q (o::rest) b w:=
 wpList_step λ_ hK=>by
  rw[if_pos hw];exact wp_load_row 38 x ho g hx 38 _ (0,0) _ hg underlying38 rfl V8 (hK _ _ h)
theorem nV{ops:Array Oper}{rest:List Oper}{o:Oper}{b:Act}{Q:Exit->Act->Vt->Prop}{x y:Operand}(hg:o.guard=Vx)(ho:o.op= .store t x y)(hx:b.eval x=VY (Vz ⟨w.heap.size,0,Vx⟩))(hy:b.eval y=V5 cs)
  (hi:(prog.info? t).map (·.size)=Vz cs.size)(h0:cs0.size=cs.size)(h1:cs.all (λx=>x.oneCell')=VD)
  (h:∀W,Hid (Ext w W)->Hid (W.heap[w.heap.size]?=Vz (.cells cs t (0,0)))->wpList prog ops Q rest (b.put o.dst VB) W):wpList prog ops Q (o::rest) b (w.alloc (.cells cs0 t)):=
 wpList_store_row hg t x y ho _ cs hx hy t cs0 (VG w _) hi h0 h1 (h _ (Vs (ah ((Below.refl _ _).alloc (Vu _) _) (Vu _) _)) (Vs (setRow_heap (VG w _) _)))
end
section
open Kp
attribute [local go_sem] bM aM jn kA kI
theorem Ht{es:List Ed}(e:Ed)(u:Bool)(hu:ln us=ln es):∀n,n<=ln es->dy (es++[e]) (us++[u]) j n=dy es us j n:=by
 intro n
 induction n with
 |zero=>exactλ_=>rfl
 |succ n ih=>
  intro hn;show nN (dy (es++[e]) (us++[u]) j n) _ _=nN (dy es us j n) _ _;rw[ih V7];simp only[Vv,List.getElem?_append_left (show n<ln es by omega),List.getElem?_append_left (show n<ln us by omega)]
theorem xS{es:List Ed}(e:Ed)(u:Bool)(hu:ln us=ln es):dy (es++[e]) (us++[u]) j (es++[e]).length=nN (dy es us j (ln es)) e u:=by
 rw[VM,List.length_singleton];show nN (dy (es++[e]) (us++[u]) j (ln es)) ((es++[e]).getD (ln es) ef) ((us++[u]).getD (ln es) Vw)=_;rw[Ht e u hu _ (Vu _)];simp[Vv,<-hu]
theorem j5.add{l:Log}(h:j5 l.edits l.undone l.start m){e:Ed}(hg:dt e=Vw)(hx:e.index<=9223372036854775807)(h1:m+l.edits.length+1<=1000000)(h2:l.edits.length+1<=4096):j5 (iE l e).edits (iE l e).undone (iE l e).start m:=by
 have ha:∀i,i<(l.edits++[e]).length->(l.edits++[e]).getD i ef=if i<l.edits.length then l.edits.getD i ef else e:=by
  intro i hi;rw[VM,List.length_singleton] at hi;split
  ·rename_i h;simp[Vv,List.getElem?_append_left h]
  ·obtain rfl:i=l.edits.length:=V7;simp[Vv]
 refine⟨h.sm,h.ln,?_,λi hi=> ?_,λi hi=> ?_,h.ok,?_,?_⟩
 ·show m+(l.edits++[e]).length<=_;simp;omega
 ·show dt ((l.edits++[e]).getD i ef)=Vw;rw[ha i hi];split
  ·rename_i q;exact h.gr i q
  ·exact hg
 ·show((l.edits++[e]).getD i ef).index<=_;rw[ha i hi];split
  ·rename_i q;exact h.ix i q
  ·exact hx
 ·show(l.undone++[Vw]).length=(l.edits++[e]).length;simp[h.eq]
 ·show(l.edits++[e]).length<=_;simp;omega
set_option maxHeartbeats 40000000 in
def wy(w:Vt)(l:Log)(a:kQ)(e:Ed)(ga:Option VT)(gc:Nat)(hb:iH w w.heap.size l a)(hgp:bz w w.heap.size ga gc e.gaps)(hbig:ln l.start.rings.flatten<=4000000000)(hix:∀e∈l.edits,bj e.index)(hxe:e.index<=9223372036854775807)(hg:Gl w)(hB:9<=w.heap.size):
  VJ prog 5 #[V5 (dL l a),V5 (aE e (VV ga (ln e.gaps) gc))] w λr w'=>r=V0 (VX VD)/\Ext w w':=by
 obtain⟨v,hv⟩:∃v,Value.slice ga (ln e.gaps) gc=v:=⟨_,rfl⟩;have HVE:=Vs hv;rw[hv];have E0:Ext w ((w.alloc (.cells (dL l a) 38)).alloc (.cells (aE e v) 68)):=fh w _ _;have L0:LC ((w.alloc (.cells (dL l a) 38)).alloc (.cells (aE e v) 68)) w.heap.size l a:=LC.ext (VG w _) ((Below.refl _ _).alloc (Vu _) _);have D0:EC ((w.alloc (.cells (dL l a) 38)).alloc (.cells (aE e v) 68)) (w.heap.size+1) (aE e v):=by
  have:=EC.new (w.alloc (.cells (dL l a) 38)) (aE e v);exact YG
 obtain⟨w0,hw0⟩:∃w0,(w.alloc (.cells (dL l a) 38)).alloc (.cells (aE e v) 68)=w0:=⟨_,rfl⟩;rw[hw0] at E0 L0 D0;have HW0:=Vs hw0;have E0:=Vs E0;have NL:=Vs (λW (h:Ext w0 W)=>LC.ext L0 h);have ND:=Vs (λW (h:Ext w0 W)=>(EC.ext D0 h:EC W (w.heap.size+1) (aE e v)));have LL:=Vs (λW (h:Ext w0 W)=>hb.grow (E0.o.tr h));have GP:=Vs (λW (h:Ext w0 W)=>(hgp.below (E0.o.tr h)).more (E0.o.tr h).size);have HG:=Vs (λW (h:Ext w0 W)=>hg.keep (E0.o.tr h) hB);have KR:=Vs (Am w0 l a (LL.now) hbig (HG.now).pow);have KE:=Vs (λW=>pg W e ga gc);rw[hv] at KE;have KA:=Vs (λW (h:Ext w0 W)=>Iw W (HG.o W h) (VI hB (E0.o.tr h).size));have KST:=Vs (λW (h:Ext w0 W) (l':Log) (a':kQ) (hl:iH W W.heap.size l' a') (hr:j5 l'.edits l'.undone l'.start 4100)=>xu W l' a' 4100 W.heap.size (X:=λ_=>False) hl (Vu _) (λ_ h=>h.elim) hr (HG.o W h).maxl (HG.o W h).pow);have HIX:=Vs hix;have HXE:=Vs hxe;clear hb hgp hg hw0 hbig hix L0 D0 hv hxe;go_enter func5,ntmps5;go_wp2_with(first
  |(go_at_call 6;fail)
  |(rw[HW0.o];refine bQ Wl _ rfl _ rfl _ (NL.now) ?_))
 try rw[HW0.o]
 refine KR.o.mono ?_;rintro r1 W1 ⟨⟨b1,rfl,h1⟩,hX1⟩;have X1:=Vs hX1;have H1:=Vs h1;clear hX1 h1;cases b1
 case false=>
  exact a0Y
 have HOK:=Vs (H1.o WW);have hsix:=HOK.o.gr.n;have HRP:=Vs (HOK.o.rp HIX.o);have c15:=(NL.o _ X1.o).cell 15;by_cases h5:ln l.edits>5
 ·have t5:decide ((ln l.edits:Int)>5)=VD:=decide_eq_true V7;exact a0Y
 have t5:decide ((ln l.edits:Int)>5)=Vw:=decide_eq_false V7;go_wp2_with(first
  |(go_at_call 16;fail)
  |(refine ew Wl _ rfl _ rfl _ (ND.o _ X1.o) V8 ?_))
 refine(KE.o _).mono ?_;rintro r2 W2 ⟨rfl,hX2⟩;have X2:=Vs (X1.o.tr hX2);clear hX2;obtain⟨g,hgr⟩:∃g,dt e=g:=⟨_,rfl⟩;rw[hgr];have HGR:=Vs hgr;clear hgr;cases g
 case true=>
  go_wp2_with(go_at_call 7;go_must(refine(KA.o _ X2.o).mono ?_);rintro r3 W3 ⟨rfl,hX3⟩)
  go_ret;exact⟨rfl,E0.o.tr (X2.o.tr hX3)⟩
 have AO:=Vs (Fe.rp HRP.o HGR.o HXE.o);obtain⟨jb,hjb⟩:∃x,dy l.edits l.undone l.start (ln l.edits)=x:=⟨_,rfl⟩;have HJB:=Vs hjb;rw[hjb] at AO;obtain⟨z,hz⟩:∃z,vW jb e=z:=⟨_,rfl⟩;have HZ:=Vs hz;have KL:=KST.o W2 X2.o l a (LL.o _ X2.o) HRP.o;rw[hjb] at KL;have KDO:=Vs (λW (h:Ext w0 W)=>KM W l a e ga gc (LL.o W h) (Vu _) (GP.o W h) HRP.o V7 HGR.o HXE.o (HG.o W h).maxl (HG.o W h).pow);rw[hjb,hz,HVE.o] at KDO;have KLH:=Vs KL;clear KL hjb hz c15;have HX:=Vs (λW (h:Ext W2 W)=>X2.o.tr h);have NL:=Vs (λW (h:Ext W2 W)=>NL.o W (X2.o.tr h));have ND:=Vs (λW (h:Ext W2 W)=>ND.o W (X2.o.tr h));clear X1 X2;go_wp2_with(first
  |(go_at_call 9;fail)
  |(refine bQ Wl _ rfl _ rfl _ (NL.now) ?_))
 refine KLH.o.mono ?_;rintro r3 W3 ⟨aj,rfl,hY,hx⟩;have Y:=Vs hY;have BB:=Vs (λW (h:Ext W3 W)=>hx.tofg.grow h);clear hY hx;have HX:=cE HX Y;have NL:=cE NL Y;have ND:=cE ND Y;go_wp2_with(first
  |(go_at_call 17;fail)
  |(refine nV Wl Wl Wl Wl V8 V8 V8 ?_;intro W4 Y nb)
  |(refine bQ Wl _ rfl _ rfl _ (NL.o _ Y.o) ?_)
  |(refine ew Wl _ rfl _ rfl _ (ND.o _ Y.o) V8 ?_))
 have NB:=Vs (λW (h:Ext W4 W)=>JC.ext nb.o h);have HX:=cE HX Y;have NL:=cE NL Y;have ND:=cE ND Y;have BB:=cE BB Y;refine(KDO.o _ (HX.now)).mono ?_;intro r5 W5 hP;unfold Lr at hP;obtain⟨hY,hP⟩:=hP;have Y:=Vs hY;clear hY;have HX:=cE HX Y;have NL:=cE NL Y;have ND:=cE ND Y;have BB:=cE BB Y;have NB:=cE NB Y;by_cases hz0:z=0
 case neg=>
  rw[if_neg hz0] at hP;subst hP;have t0:(z !=0)=VD:=bne_iff_ne.2 hz0;have hzz:(z==z)=VD:=Wa;go_wp2_with(first
   |(go_at_call 18;fail)
   |(refine nV Wl Wl Wl Wl V8 V8 V8 ?_;intro W6 Y nq)
   |(refine dw Wl _ rfl _ rfl _ (NB.o _ Y.o) V8 ?_)
   |(refine ew Wl _ rfl _ rfl _ (ND.o _ Y.o) V8 ?_))
  have KC:=rP W6 jb aj e ga gc (BB.o _ Y.o) (GP.o _ (HX.o _ Y.o)) AO.o (HG.o _ (HX.o _ Y.o)).maxl (HG.o _ (HX.o _ Y.o)).pow;rw[HVE.o,HZ.o] at KC;refine KC.mono ?_;clear KC;rintro r7 W7 ⟨rfl,hX7⟩;go_wp2_with(go_at_call 7;go_must(refine(KA.o _ (HX.o _ (Y.o.tr hX7))).mono ?_);rintro r8 W8 ⟨rfl,hX8⟩)
  go_ret;exact⟨rfl,E0.o.tr ((HX.o _ (Y.o.tr hX7)).tr hX8)⟩
 subst hz0;rw[if_pos rfl] at hP;obtain⟨am,rfl,hm⟩:=hP;obtain⟨n,hn⟩:∃n,ln l.edits=n:=⟨_,rfl⟩;have heq:=HOK.o.eq;have RM:=Vs (HRP.o.add HGR.o HXE.o V7 V7);have IM:=Vs (show n<(iE l e).edits.length by show n<(l.edits++[e]).length;simp;omega);have UM:=Vs (show(iE l e).undone.getD n Vw= !VD by show(l.undone++[Vw]).getD n Vw=_;rw[<-hn,<-heq];simp[Vv]);have JM:=Vs (show dy (iE l e).edits (iE l e).undone (iE l e).start (iE l e).edits.length=th jb e by
  show dy (l.edits++[e]) (l.undone++[Vw]) l.start (l.edits++[e]).length=_;rw[xS e Vw heq,HJB.o];unfold nN;rw[if_neg V9,if_pos HZ.o])
 have JU:=Vs (show dy (lJ (iE l e) n VD).edits (lJ (iE l e) n VD).undone (lJ (iE l e) n VD).start (lJ (iE l e) n VD).edits.length=jb by
  show dy (l.edits++[e]) ((l.undone++[Vw]).set n VD) l.start (l.edits++[e]).length=_;rw[show(l.undone++[Vw]).set n VD=l.undone++[VD] by rw[<-hn,<-heq];simp,xS e VD heq,HJB.o]
  rfl)
 have IU:n<(iE l e).undone.length:=by show n<(l.undone++[Vw]).length;simp;omega
 have UU:=Vs (show(lJ (iE l e) n VD).undone.getD n Vw= !Vw by rw[Q4 VD IU];rfl);have BK:=Vs (LY IU UM.o);have RU:=Vs (RM.o.set n VD);have GU:=Vs (show n<(lJ (iE l e) n VD).edits.length from IM.o);obtain⟨lm,hlm⟩:∃x,iE l e=x:=⟨_,rfl⟩;rw[hlm] at RM IM UM JM JU UU BK RU GU hm;rw[hlm];obtain⟨lu,hlu⟩:∃x,lJ lm n VD=x:=⟨_,rfl⟩;have HLU:=Vs hlu;rw[hlu] at JU UU BK RU GU;have LM:=Vs (λW (h:Ext W5 W)=>hm.grow h);obtain⟨jw,hjw⟩:∃x,th jb e=x:=⟨_,rfl⟩;have HJW:=Vs hjw;rw[hjw] at JM;have c15:=(NL.now).cell 15;clear hlm hlu hm IU heq hjw;go_wp2_with(first
  |(go_at_call 14;fail)
  |(refine nV Wl Wl Wl Wl V8 V8 V8 ?_;intro W6 Y nm;have c15:=(NL.o _ Y.o).cell 15)
  |(refine bQ Wl _ rfl _ rfl _ (nm.o) ?_))
 have NM:=Vs (λW (h:Ext W6 W)=>LC.ext nm.o h);have HX:=cE HX Y;have ND:=cE ND Y;have BB:=cE BB Y;have NB:=cE NB Y;have LM:=cE LM Y;refine(MJ W6 lm am n rfl (LM.now) (Vu _) RM.o IM.o UM.o (HG.o _ (HX.now)).maxl (HG.o _ (HX.now)).pow).mono ?_;rw[HLU.o];rintro r7 W7 ⟨au,rfl,hY,hx⟩;have Y:=Vs hY;have LU:=Vs (λW (h:Ext W7 W)=>hx.at_.grow h);clear hY hx NL;have HX:=cE HX Y;have ND:=cE ND Y;have BB:=cE BB Y;have NB:=cE NB Y;have LM:=cE LM Y;have NM:=cE NM Y;go_wp2_with(first
  |(go_at_call 13;fail)
  |(refine nV Wl Wl Wl Wl V8 V8 V8 ?_;intro W8 Y nu)
  |(refine bQ Wl _ rfl _ rfl _ (nu.o) ?_))
 have NU:=Vs (λW (h:Ext W8 W)=>LC.ext nu.o h);have HX:=cE HX Y;have ND:=cE ND Y;have BB:=cE BB Y;have NB:=cE NB Y;have LM:=cE LM Y;have NM:=cE NM Y;have LU:=cE LU Y;refine(Ni W8 lu au n (u:=Vw) rfl (LU.now) (Vu _) RU.o GU.o UU.o (HG.o _ (HX.now)).maxl (HG.o _ (HX.now)).pow).mono ?_;rw[show lJ lu n Vw=lm from BK.o];rintro r9 W9 ⟨ag,rfl,hY,hx⟩;have Y:=Vs hY;have LA:=Vs (λW (h:Ext W9 W)=>hx.at_.grow h);clear hY hx;have HX:=cE HX Y;have ND:=cE ND Y;have BB:=cE BB Y;have NB:=cE NB Y;have LM:=cE LM Y;have NM:=cE NM Y;have LU:=cE LU Y;have NU:=cE NU Y;go_wp2_with(first
  |(go_at_call 9;fail)
  |(refine nV Wl Wl Wl Wl V8 V8 V8 ?_;intro W10 Y na)
  |(refine bQ Wl _ rfl _ rfl _ (NM.o _ Y.o) ?_))
 have NA:=Vs (λW (h:Ext W10 W)=>LC.ext na.o h);have HX:=cE HX Y;have ND:=cE ND Y;have BB:=cE BB Y;have NB:=cE NB Y;have LM:=cE LM Y;have NM:=cE NM Y;have LU:=cE LU Y;have NU:=cE NU Y;have LA:=cE LA Y;have K1:=KST.o _ (HX.now) lm am (LM.now) RM.o;rw[JM.o] at K1;refine K1.mono ?_;clear K1;rintro r11 W11 ⟨ab,rfl,hY,hx⟩;have Y:=Vs hY;have BH:=Vs (λW (h:Ext W11 W)=>hx.tofg.grow h);clear hY hx;have HX:=cE HX Y;have ND:=cE ND Y;have BB:=cE BB Y;have NB:=cE NB Y;have LM:=cE LM Y;have NM:=cE NM Y;have LU:=cE LU Y;have NU:=cE NU Y;have LA:=cE LA Y;have NA:=cE NA Y;go_wp2_with(first
  |(go_at_call 9;fail)
  |(refine nV Wl Wl Wl Wl V8 V8 V8 ?_;intro W12 Y nh)
  |(refine bQ Wl _ rfl _ rfl _ (NU.o _ Y.o) ?_))
 have NH:=Vs (λW (h:Ext W12 W)=>JC.ext nh.o h);have HX:=cE HX Y;have ND:=cE ND Y;have BB:=cE BB Y;have NB:=cE NB Y;have LM:=cE LM Y;have NM:=cE NM Y;have LU:=cE LU Y;have LA:=cE LA Y;have NA:=cE NA Y;have BH:=cE BH Y;have K1:=KST.o _ (HX.now) lu au (LU.now) RU.o;rw[JU.o] at K1;refine K1.mono ?_;clear K1;rintro r13 W13 ⟨ac,rfl,hY,hx⟩;have Y:=Vs hY;have BK:=Vs (λW (h:Ext W13 W)=>hx.tofg.grow h);clear hY hx LU;have HX:=cE HX Y;have ND:=cE ND Y;have BB:=cE BB Y;have NB:=cE NB Y;have LM:=cE LM Y;have NM:=cE NM Y;have LA:=cE LA Y;have NA:=cE NA Y;have BH:=cE BH Y;have NH:=cE NH Y;go_wp2_with(first
  |(go_at_call 19;fail)
  |(refine nV Wl Wl Wl Wl V8 V8 V8 ?_;intro W14 Y nk)
  |(refine dw Wl _ rfl _ rfl _ (NB.o _ Y.o) V8 ?_)
  |(refine ew Wl _ rfl _ rfl _ (ND.o _ Y.o) V8 ?_))
 have NK:=Vs (λW (h:Ext W14 W)=>JC.ext nk.o h);have HX:=cE HX Y;have BB:=cE BB Y;have NB:=cE NB Y;have LM:=cE LM Y;have NM:=cE NM Y;have LA:=cE LA Y;have NA:=cE NA Y;have BH:=cE BH Y;have NH:=cE NH Y;have BK:=cE BK Y;have KP:=qW W14 jb aj e ga gc (X:=λ_=>False) ((BB.now).v (Vu _) (λ_ _ h=>h)) (GP.o _ (HX.now)) (λW hO=>((GP.o _ (HX.now)).off hO.1 λb hb=>hO.2 b hb id).more hO.1) (λ_ h=>h.elim) AO.o (HG.o _ (HX.now)).maxl (HG.o _ (HX.now)).pow;rw[HVE.o] at KP;refine KP.mono ?_;clear KP;rintro r15 W15 ⟨aa,rfl,hY,hx⟩;rw[HJW.o] at hx⊢;rw[HZ.o];have Y:=Vs hY;have BW:=Vs (λW (h:Ext W15 W)=>hx.tofg.grow h);clear hY hx;have HX:=cE HX Y;have BB:=cE BB Y;have NB:=cE NB Y;have LM:=cE LM Y;have NM:=cE NM Y;have LA:=cE LA Y;have NA:=cE NA Y;have BH:=cE BH Y;have NH:=cE NH Y;have BK:=cE BK Y;have NK:=cE NK Y;go_wp2_with(first
  |(go_at_call 10;fail)
  |(refine nV Wl Wl Wl Wl V8 V8 V8 ?_;intro W16 Y nw)
  |(refine dw Wl _ rfl _ rfl _ (NK.o _ Y.o) V8 ?_)
  |(refine dw Wl _ rfl _ rfl _ (NB.o _ Y.o) V8 ?_))
 have NW:=Vs (λW (h:Ext W16 W)=>JC.ext nw.o h);have HX:=cE HX Y;have BB:=cE BB Y;have LM:=cE LM Y;have NM:=cE NM Y;have LA:=cE LA Y;have NA:=cE NA Y;have BH:=cE BH Y;have NH:=cE NH Y;have BK:=cE BK Y;have BW:=cE BW Y;refine(xF W16 jb ac aj (BK.now) (BB.now)).mono ?_;rintro r17 W17 ⟨rfl,hY⟩;have Y:=Vs hY;clear hY;have HX:=cE HX Y;have LM:=cE LM Y;have NM:=cE NM Y;have LA:=cE LA Y;have NA:=cE NA Y;have BH:=cE BH Y;have NH:=cE NH Y;have BW:=cE BW Y;have NW:=cE NW Y;go_wp2_with(first
  |(go_at_call 10;fail)
  |(refine dw Wl _ rfl _ rfl _ (NH.now) V8 ?_)
  |(refine dw Wl _ rfl _ rfl _ (NW.now) V8 ?_))
 refine(xF W17 jw ab aa (BH.now) (BW.now)).mono ?_;rintro r18 W18 ⟨rfl,hY⟩;have Y:=Vs hY;clear hY;have HX:=cE HX Y;have LM:=cE LM Y;have NM:=cE NM Y;have LA:=cE LA Y;have NA:=cE NA Y;go_wp2_with(first
  |(go_at_call 15;fail)
  |(refine bQ Wl _ rfl _ rfl _ (NA.now) ?_)
  |(refine bQ Wl _ rfl _ rfl _ (NM.now) ?_))
 refine(E7 W18 lm ag am (LA.now) (LM.now)).mono ?_;rintro r19 W19 ⟨rfl,hX19⟩;go_wp2_with(go_at_call 7;go_must(refine(KA.o _ (HX.o _ hX19)).mono ?_);rintro r20 W20 ⟨rfl,hX20⟩)
 go_ret;exact⟨rfl,E0.o.tr ((HX.o _ hX19).tr hX20)⟩
end
end Go.Proofs.YtmliacdegmklaaaGreatDoor
