/- ChangeOnly of kingpostlaw58: part 21 of its proof (merged and shortened by program). -/
import Derived.Deep.AppendLies
import Derived.Deep.RegionLaw
import Derived.Lib.SliceRun
import Derived.Shelf.RegionOpenPlain
import Derived.Lib.AppendZerosOnto
import Derived.Lib.Overlaps
import Derived.Shelf.Spec.SlicesInsert
import Derived.Shelf.Spec.SlicesInsertGrow
import Derived.Test.YtnpihidbkhehjaaGreatDoorM20
set_option linter.unusedVariables false
set_option linter.unusedSimpArgs false
set_option linter.defProp false
set_option maxHeartbeats 8000000
set_option maxRecDepth 100000
open Go.RowKit Go.Shelf Go.Proofs.Tryz
open Array renaming getElem?_eq_some_iff→Od
open Bool renaming false→N1,true→Oc
open Go renaming World→NY,Value→N2,undef→N7,wpOp_step→Ob,Calls→Of,maxLen→Ol,TypeId→Oo
open Go.AllReady renaming cons→Oj,nil→Oq
open Go.IntKind renaming i64→Oe
open Go.IntWalk renaming i64_in→Om
open Go.Lib renaming hid→NW
open Go.RowKit renaming intOf→Oh,Below→On
open Go.World renaming size_alloc→Oi
open List renaming getD_eq_getElem?_getD→N8,length_map→N9,getElem?_eq_getElem→Oa
open Nat renaming le_refl→NZ,mul_comm→Og,le_trans→Ok
open Option renaming none→N0,some→N3
open Go.Proofs.YtnpihidbkhehjaaGreatDoor
namespace Go.Proofs.YtnpihidbkhehjaaGreatDoor
section
open Kp
attribute [local go_sem] PU Qz QN QK QA QF QG QM Qx QE QI Qo Qd Qi Qt Qq
attribute [local go_sem] PT P6 Qv QL QJ Qy QH QD QC QO QB Qc Qa Qn Qk Qj P8 P9 P3 P5 PX PZ P4 PW Qm Qe Qg P7 Qp Qr Qb Ql Qs Qh Qf Qu PV PY
structure ei(c:Nat)(w w':NY):Prop where
 below:On c w w'
 others:∀b,b<w.heap.size→b≠c→w'.heap[b]?=w.heap[b]?
theorem ei.ext{c:Nat}{w W:NY}(h:Ext w W)(hc:c<w.heap.size):ei c w W:=⟨h.mono (Nat.le_of_lt hc),fun b hb _=>h.block b hb⟩
theorem ei.put{c:Nat}{w W:NY}(h:ei c w W)(i:Nat)(v:N2):ei c w (W.setCell ⟨c,i,N0⟩ v):=
 ⟨h.below.setCell (NZ _) v,fun b hb hne=>(Below.heap_setCell _ _ _ _ hne).trans (h.others b hb hne)⟩
theorem ei.row{c:Nat}{w W:NY}(h:ei c w W)(cs:Array N2):ei c w (W.setRow c cs):=
 ⟨ah h.below (NZ _) cs,fun b hb hne=>(by
  have:(W.setRow c cs).heap[b]?=W.heap[b]?:=by simp only[World.setRow,Array.getElem?_modify];rw[if_neg (Ne.symm hne)]
  exact this.trans (h.others b hb hne))⟩
theorem ei.alloc{c:Nat}{w W:NY}(h:ei c w W)(hc:c≤W.heap.size)(o:Obj):ei c w (W.alloc o):=
 ⟨h.below.alloc hc o,fun b hb hne=>(Below.heap_alloc _ _ _ (Nat.lt_of_lt_of_le hb h.below.size)).trans (h.others b hb hne)⟩
def vT(c n:Nat)(w W:NY):Prop:=On c w W∧∀b,b<w.heap.size→n≤b→W.heap[b]?=w.heap[b]?
theorem vT.self(c n:Nat)(w:NY):vT c n w w:=⟨Below.refl _ _,fun _ _ _=>rfl⟩
def jC(c:Nat)(w w':NY)(j':du)(a':fm):Prop:=ei c w w'∧JC w' c j' a'∧∀W,vT c w.heap.size w' W→bh W W.heap.size j' a'
theorem jC.at_{c:Nat}{w w':NY}{j':du}{a':fm}(h:jC c w w' j' a'):bh w' w'.heap.size j' a':=h.2.2 w' (vT.self _ _ _)
theorem JC.put{w:NY}{c i:Nat}{j j':du}{a a':fm}(h:JC w c j a)(x:N2)(e:(dy j a).setIfInBounds i x=dy j' a'):JC (w.setCell ⟨c,i,N0⟩ x) c j' a':=by
 unfold JC at *
 rw[←e]
 simp[World.setCell,Array.getElem?_modify,h]
theorem Hd(w:NY)(c:Nat)(j:du)(a:fm)(e:Ed)(g:N2)(hc:JC w c j a)(hb:bh w c j a):
  Of prog 68 #[.pointer (N3 ⟨c,0,N0⟩),.agg (aG e g)] w fun x w'=>x= .returned (.int .i64 0)∧jC c w w' {j with name:=e.text} a:=by
 have hlt:=hc.lt
 have HZ:=EC.new w (aG e g)
 have c10:=HZ.cell 36
 have hJ:=hc.ext ((Below.refl _ _).alloc (NZ _) (.cells (aG e g) 50))
 have k0:=hJ.cell 0
 have f0:=hJ.frozen 0
 have HF:=NW (show jC c w ((w.setCell ⟨c,0,N0⟩ (.string (tx e.text))).alloc (.cells (aG e g) 50)) {j with name:=e.text} a from by
  have h1:ei c w ((w.setCell ⟨c,0,N0⟩ (.string (tx e.text))).alloc (.cells (aG e g) 50)):=((ei.ext (Below.refl _ w) hlt).put 0 _).alloc OB _
  have h2:=hb.below h1.below
  have hp:JC (w.setCell ⟨c,0,N0⟩ (.string (tx e.text))) c {j with name:=e.text} a:=hc.put _ rfl
  refine⟨h1,hp.ext ((Below.refl _ _).alloc (NZ _) _),fun W hA=> ?_⟩
  have h3:bh _ c {j with name:=e.text} a:=⟨h2.p,h2.u,h2.o,h2.z,h2.b,h2.l,h2.s⟩
  exact(h3.below hA.1).more Px)
 clear hc hb hJ
 go_enter func68,ntmps68
 go_wp2
 go_ret
 exact⟨rfl,HF.out⟩
theorem Ij(w:NY)(c:Nat)(j:du)(a:fm)(e:Ed)(g:N2)(hc:JC w c j a)(hb:bh w c j a):
  Of prog 77 #[.pointer (N3 ⟨c,0,N0⟩),.agg (aG e g)] w fun x w'=>x= .returned (.int .i64 0)∧jC c w w' {j with kerf:=e.number} a:=by
 have hlt:=hc.lt
 have HZ:=EC.new w (aG e g)
 have c10:=HZ.cell 35
 have hJ:=hc.ext ((Below.refl _ _).alloc (NZ _) (.cells (aG e g) 50))
 have k0:=hJ.cell 8
 have f0:=hJ.frozen 8
 have HF:=NW (show jC c w ((w.setCell ⟨c,8,N0⟩ (.int .i64 e.number)).alloc (.cells (aG e g) 50)) {j with kerf:=e.number} a from by
  have h1:ei c w ((w.setCell ⟨c,8,N0⟩ (.int .i64 e.number)).alloc (.cells (aG e g) 50)):=((ei.ext (Below.refl _ w) hlt).put 8 _).alloc OB _
  have h2:=hb.below h1.below
  have hp:JC (w.setCell ⟨c,8,N0⟩ (.int .i64 e.number)) c {j with kerf:=e.number} a:=hc.put _ rfl
  refine⟨h1,hp.ext ((Below.refl _ _).alloc (NZ _) _),fun W hA=> ?_⟩
  have h3:bh _ c {j with kerf:=e.number} a:=⟨h2.p,h2.u,h2.o,h2.z,h2.b,h2.l,h2.s⟩
  exact(h3.below hA.1).more Px)
 clear hc hb hJ
 go_enter func77,ntmps77
 go_wp2
 go_ret
 exact⟨rfl,HF.out⟩
theorem Gs(w:NY)(c:Nat)(j:du)(a:fm)(e:Ed)(g:N2)(hc:JC w c j a)(hb:bh w c j a):
  Of prog 78 #[.pointer (N3 ⟨c,0,N0⟩),.agg (aG e g)] w fun x w'=>x= .returned (.int .i64 0)∧jC c w w' {j with tile:=⟨e.twidth,e.tlength,e.tlap,e.ttail⟩} a:=by
 have hlt:=hc.lt
 have HZ:=EC.new w (aG e g)
 have c1:=HZ.cell 31
 have c2:=HZ.cell 32
 have c3:=HZ.cell 33
 have c4:=HZ.cell 34
 have hJ:=hc.ext ((Below.refl _ _).alloc (NZ _) (.cells (aG e g) 50))
 have HJ:=NW (show(w.alloc (.cells (aG e g) 50)).heap[c]?=N3 (.cells (dy j a) 34 (0,0)) from hJ)
 have HF:=NW (show jC c w ((w.alloc (.cells (aG e g) 50)).setRow c (putAt (dy j a) 9 #[.int .i64 e.twidth,.int .i64 e.tlength,.int .i64 e.tlap,.int .i64 e.ttail])) {j with tile:=⟨e.twidth,e.tlength,e.tlap,e.ttail⟩} a from by
  have h1:ei c w ((w.alloc (.cells (aG e g) 50)).setRow c (putAt (dy j a) 9 #[.int .i64 e.twidth,.int .i64 e.tlength,.int .i64 e.tlap,.int .i64 e.ttail])):=((ei.ext (Below.refl _ w) hlt).alloc Ot _).row _
  have h2:=hb.below h1.below
  refine⟨h1,setRow_heap HJ.out _,fun W hA=> ?_⟩
  have h3:bh _ c {j with tile:=⟨e.twidth,e.tlength,e.tlap,e.ttail⟩} a:=⟨h2.p,h2.u,h2.o,h2.z,h2.b,h2.l,h2.s⟩
  exact(h3.below hA.1).more Px)
 clear hc hb hJ
 go_enter func78,ntmps78
 go_wp2_with(first
  |(refine cC rfl 30 _ _ rfl c 9 _ rfl rfl 34 _ HJ.out Ou (Nat.le_of_ble_eq_true Ou) Ou ?_))
 go_ret
 exact⟨rfl,HF.out⟩
end
section
open Kp
def gZ(rows:List (List N2)):Prop:=∀r∈rows,∀u∈r,u.oneCell'=Oc
theorem gZ.flat{rows:List (List N2)}(h:gZ rows):∀u∈rows.flatten,u.oneCell'=Oc:=by
 intro u hu
 obtain⟨r,hr,hur⟩:=List.mem_flatten.1 hu
 exact h r hr u hur
theorem bC.DQ{k:Nat}{w:NY}{B cap:Nat}{rows:List (List N2)}(h:bC k w B N0 cap rows):rows=[]:=by
 cases rows with
 |nil=>rfl
 |cons r l=>
  obtain⟨b,off,e,_⟩:=h.2.2 Ow
  cases e
theorem bC.Ki{k:Nat}{w:NY}{B:Nat}{p:Addr}{cap:Nat}{rows:List (List N2)}(h:bC k w B (N3 p) cap rows)(hw:cG k rows)(hk:0<k):
  ∀j u,rows.flatten[j]?=N3 u→w.cell? (p.add j)=N3 u:=by
 intro j u hj
 have hpos:0<rows.length:=by
  cases rows with
  |nil=>simp at hj
  |cons=>simp
 obtain⟨b,off,e,_⟩:=id (h.2.2 hpos)
 cases e
 exact h.cells hw hk j u hj
def Js(f:FuncId)(t:Oo)(k:Nat):Prop:=∀(w:NY) (A:Option Addr) (cap:Nat) (rows:List (List N2)),bC k w w.heap.size A cap rows→cG k rows→gZ rows→rows.length≤1000000→
  Of prog f #[.slice A rows.length cap] w fun e w'=>∃v,e= .returned v∧w'.ownsRow w.heap.size t k v rows.length rows.flatten∧Ext w w'
theorem jw{p:Prop}(h:p:=by
  have q:=fun(w:NY) (a:Option Addr) (n c n' c':Nat)=>Lib.run_eql_slice_nil w _ _ a n c n' c' U
  cases A with
  |none=>
   have:=hr.DQ
   subst this
   clear hr hw h1 hlen
   go_wp2
   go_ret
   exact⟨_,rfl,⟨rfl,.inl ⟨rfl,rfl⟩⟩,Ext.an _⟩
  |some p=>
   have hnews:=NW (hr.Ki hw Ov)
   have hfl:=NW (aM hw)
   have hone:=NW h1.flat
   clear hr hw h1
   go_wp2_with(at_builtin;refine wpList_append_own _ rfl _ _ _ rfl w.heap.size _ i0 _ _ _ U hi hz0 hz1 hz2 rfl Ov _ _ _ rfl (NY.ownsRow_made w #[] 0 (NZ _) (Nat.zero_le _) rfl) p rows.length cap rows.flatten rfl hfl.out ?qc2 hone.out ?qc4 ?qc5 ?qc6 ?_)
   case qc2=>
    intro j u hj
    have:=hnews.out j u hj
    revert this
    obtain⟨b,off,x⟩:=p
    intro this
    exact Lib.cell?_alloc_some _ this
   case qc4=>unfold Ol;omega
   case qc5=>omega
   case qc6=>simp
   intro v' w1 hown hgrow hnil
   go_wp2
   go_ret
   refine⟨v',rfl,by simpa using hown,?_⟩
   exact((Below.refl _ w).alloc (NZ _) _).grown hgrow Ow (by intro q hq;simp[Value.ownBlock] at hq;omega)):p:=h
theorem E4:(prog.info? 36).map (fun i=>(i.zero,i.size,i.bytes))=N3 (N3 (.agg #[.int .i64 0,.int .i64 0,.int .i64 0,.int .i64 0,.bool N1,.int .i64 0,.int .i64 0]),7,56):=Ou
theorem Iq:Js 126 36 7:=by
 intro w A cap rows hr hw h1 hlen
 obtain⟨i0,hi,hz0,hz1,hz2⟩:=info_parts E4
 have U:=underlying73
 go_enter func126,ntmps126
 exact jw
theorem jQ:(prog.info? 3).map (fun i=>(i.zero,i.size,i.bytes))=N3 (N3 (.int .i64 0),1,8):=Ou
theorem An:Js 129 3 1:=by
 intro w A cap rows hr hw h1 hlen
 obtain⟨i0,hi,hz0,hz1,hz2⟩:=info_parts jQ
 have U:=underlying25
 go_enter func129,ntmps129
 exact jw
theorem oV:(prog.info? 39).map (fun i=>(i.zero,i.size,i.bytes))=N3 (N3 (.agg #[.int .i64 0,.string {data:=#[]},.string {data:=#[]},.string {data:=#[]},.string {data:=#[]}]),5,72):=Ou
theorem AG:Js 130 39 5:=by
 intro w A cap rows hr hw h1 hlen
 obtain⟨i0,hi,hz0,hz1,hz2⟩:=info_parts oV
 have U:=underlying26
 go_enter func130,ntmps130
 exact jw
theorem pn:(prog.info? 41).map (fun i=>(i.zero,i.size,i.bytes))=N3 (N3 (.agg #[.int .i64 0,.int .i64 0,.int .i64 0]),3,24):=Ou
theorem zR:Js 190 41 3:=by
 intro w A cap rows hr hw h1 hlen
 obtain⟨i0,hi,hz0,hz1,hz2⟩:=info_parts pn
 have U:=underlying27
 go_enter func190,ntmps190
 exact jw
theorem oS:(prog.info? 44).map (fun i=>(i.zero,i.size,i.bytes))=N3 (N3 (.agg #[.int .i64 0,.int .i64 0,.int .i64 0,.int .i64 0,.int .i64 0,.slice N0 0 0]),6,64):=Ou
theorem Ap:Js 134 44 6:=by
 intro w A cap rows hr hw h1 hlen
 obtain⟨i0,hi,hz0,hz1,hz2⟩:=info_parts oS
 have U:=underlying28
 go_enter func134,ntmps134
 exact jw
theorem pQ:(prog.info? 46).map (fun i=>(i.zero,i.size,i.bytes))=N3 (N3 (.agg #[.int .i64 0,.int .i64 0,.string {data:=#[]}]),3,32):=Ou
theorem zZ:Js 135 46 3:=by
 intro w A cap rows hr hw h1 hlen
 obtain⟨i0,hi,hz0,hz1,hz2⟩:=info_parts pQ
 have U:=underlying31
 go_enter func135,ntmps135
 exact jw
theorem jN:(prog.info? 48).map (fun i=>(i.zero,i.size,i.bytes))=N3 (N3 (.agg #[.int .i64 0,.int .i64 0,.int .i64 0,.int .i64 0,.int .i64 0]),5,40):=Ou
theorem zT:Js 136 48 5:=by
 intro w A cap rows hr hw h1 hlen
 obtain⟨i0,hi,hz0,hz1,hz2⟩:=info_parts jN
 have U:=underlying32
 go_enter func136,ntmps136
 exact jw
end
section
open Kp
def dz(n:Nat)(i:Int):Int:=if 0≤i∧i≤(n:Int) then 0 else 6
def bM{α:Type}(l:List α)(i:Int)(x:α):List α:=if i=(l.length:Int) then l++[x] else l.set i.toNat x
theorem FG{k:Nat}{rows:List (List N2)}(hw:cG k rows){x:List N2}(hx:x.length=k)(m:Nat):cG k (rows.set m x):=by
 intro r hr
 rcases List.mem_or_eq_of_mem_set hr with h|h
 ·exact hw r h
 ·subst h;exact hx
theorem mN{k:Nat}{rows:List (List N2)}(hw:cG k rows){m:Nat}(hm:m≤rows.length):rows.flatten.take (m*k)=(rows.take m).flatten:=by
 have e:rows.flatten=(rows.take m).flatten++(rows.drop m).flatten:=PG
 have hl:(rows.take m).flatten.length=m*k:=by
  rw[aM (fun r hr=>hw r (List.mem_of_mem_take hr)),List.length_take,Nat.min_eq_left hm]
 rw[e,List.take_left' hl]
theorem gG{k:Nat}{rows:List (List N2)}(hw:cG k rows){m:Nat}(hm:m≤rows.length):rows.flatten.drop (m*k)=(rows.drop m).flatten:=by
 have e:rows.flatten=(rows.take m).flatten++(rows.drop m).flatten:=PG
 have hl:(rows.take m).flatten.length=m*k:=by
  rw[aM (fun r hr=>hw r (List.mem_of_mem_take hr)),List.length_take,Nat.min_eq_left hm]
 rw[e,List.drop_left' hl]
theorem EL{k:Nat}{rows:List (List N2)}(hw:cG k rows){m:Nat}(hm:m<rows.length)(x:List N2):
  (rows.set m x).flatten=rows.flatten.take (m*k)++x++rows.flatten.drop (m*k+k):=by
 rw[List.set_eq_take_append_cons_drop,if_pos hm,List.flatten_append,List.flatten_cons,mN hw (Nat.le_of_lt hm),←Nat.succ_mul,gG hw hm,List.append_assoc]
theorem je{w:NY}{base k n g cap m:Nat}{e:Oo}{cur:Array N2}{rows:List (List N2)}{x:List N2}(hb:base≤g)(hh:w.heap[g]?=N3 (.cells cur e (0,0)))(h1:n≤cap)(h2:cap≤Ol)
  (h3:cur.size=cap*k)(h4:cur.toList.take (n*k)=rows.flatten)(hn:rows.length=n)(hw:cG k rows)(hx:x.length=k)(hm:m<n):
  (w.setRow g (putAt cur (m*k) x.toArray)).ownsRow base e k (.slice (N3 ⟨g,0,N0⟩) n cap) n (rows.set m x).flatten:=by
 subst hn
 have hmk:m*k+k≤rows.length*k:=by rw[←Nat.succ_mul];exact Nat.mul_le_mul_right k hm
 have hck:rows.length*k≤cap*k:=Nat.mul_le_mul_right k h1
 have hL:cur.toList=rows.flatten++cur.toList.drop (rows.length*k):=by rw[←h4,List.take_append_drop]
 have hF:rows.flatten.length=rows.length*k:=aM hw
 have hsz:cur.toList.length=cap*k:=by simp[h3]
 refine⟨by rw[aM (FG hw hx m),List.length_set],.inr ⟨g,cap,_,rfl,hb,setRow_heap hh _,h1,h2,?_,?_⟩⟩
 ·unfold putAt
  simp only[List.size_toArray,List.length_append,List.length_take,List.length_drop,hsz,hx]
  omega
 ·unfold putAt
  rw[EL hw hm]
  simp only[Nat.add_zero]
  rw[hx]
  generalize cur.toList.drop (rows.length*k)=D at hL
  have e1:(rows.flatten++D).take (m*k)=rows.flatten.take (m*k):=List.take_append_of_le_length Ot
  have e2:(rows.flatten++D).drop (m*k+k)=rows.flatten.drop (m*k+k)++D:=List.drop_append_of_le_length Ot
  rw[hL,e1,e2,←List.append_assoc,List.take_left']
  simp only[List.length_append,List.length_take,List.length_drop,hx,hF]
  omega
end
section
open Kp
def Hk(A:Option Addr)(n cap B k:Nat)(E:Oo)(rows:List (List N2))(x:List N2)(i:Nat)(v:N2)(W:NY):Prop:=
 match i with
 |0=>v= .slice A n cap
 |1=>W.ownsRow B E k v n rows.flatten
 |2=>v= .agg x.toArray
 |_=>∃g,v= .slice (N3 ⟨g,0,N0⟩) 1 1∧af W g E x
theorem iF{w:NY}{base n s:Nat}{e:Oo}{v:N2}{xs:List N2}(h:w.ownsRow base e s v n xs)(hn:0<n):
  ∃g cap cur,v= .slice (N3 ⟨g,0,N0⟩) n cap∧base≤g∧w.heap[g]?=N3 (.cells cur e (0,0))∧n≤cap∧cap≤Ol∧cur.size=cap*s∧cur.toList.take (n*s)=xs:=by
 obtain⟨_,⟨_,h0⟩|⟨g,cap,cur,h⟩⟩:=h
 ·omega
 ·exact⟨g,cap,cur,h⟩
theorem dZ{w:NY}{base base' n s:Nat}{e:Oo}{v:N2}{xs:List N2}(h:w.ownsRow base e s v n xs)(hb:base'≤base):w.ownsRow base' e s v n xs:=by
 obtain⟨hl,h0|⟨g,cap,cur,e,h1,h2⟩⟩:=h
 ·exact⟨hl,.inl h0⟩
 ·exact⟨hl,.inr ⟨g,cap,cur,e,Ok hb h1,h2⟩⟩
theorem om{A:Option Addr}{n cap B k:Nat}{E:Oo}{rows:List (List N2)}{x:List N2}{i:Nat}{v:N2}{W W':NY}(h:Hk A n cap B k E rows x i v W)(hx:Ext W W'):Hk A n cap B k E rows x i v W':=by
 rcases(show i=0∨i=1∨i=2∨3≤i by omega) with rfl|rfl|rfl|hi
 ·exact h
 ·exact bB h hx
 ·exact h
 ·obtain⟨j,rfl⟩:∃j,i=j+3:=⟨i-3,Ot⟩
  obtain⟨g,e,hr⟩:=h
  exact⟨g,e,hr.ext hx⟩
def KH(A:Option Addr)(n cap:Nat)(i:Int)(X:N2)(g:Nat)(vs:Nat→N2):Act:=⟨#[.slice A n cap,.int .i64 i,X,N7,N7,.pointer (N3 ⟨g,0,N0⟩),.slice N0 0 0,.int .i64 0,N7,
 .bool N1,.int .i64 i,.bool N1,.bool N1,.int .i64 i,.slice A n cap,.int .i64 (n:Int),.bool N1,.bool N1,.bool Oc,.int .i64 i,.slice A n cap,.int .i64 (n:Int),
 .bool Oc,vs 0,vs 1,vs 2,vs 3,N7,N7,N7,N7,N7,N7,N7,N7],[]⟩
theorem uP(w:NY)(x:List N2)(t:Oo):∃W0,Hid (w.alloc (.cells x.toArray t)=W0)∧Hid (Ext w W0)∧Hid (af W0 w.heap.size t x):=⟨_,NW rfl,NW ((Below.refl _ _).alloc (NZ _) _),NW (af.new w _ _)⟩
theorem lP{rows:List (List N2)}{i:Int}(x:List N2)(h:i=(rows.length:Int)):bM rows i x=rows++[x]:=if_pos h
theorem Dr{rows:List (List N2)}{m:Nat}(x:List N2)(h:¬(m:Int)=(rows.length:Int)):bM rows (m:Int) x=rows.set m x:=if_neg h
theorem uC{p:Prop}(h:p:=by
  obtain rfl:=HW0.out
  rw[show dz rows.length i=6 from if_neg hi]
  by_cases hi0:i<0
  ·have t1:decide (i<0)=Oc:=decide_eq_true hi0
   clear hi hi0
   go_wp2
   go_ret2
   exact⟨_,⟨_,_,_,rfl⟩,rfl,E0.out⟩
  ·have t1:decide (i<0)=N1:=decide_eq_false hi0
   have t2:decide (i>(rows.length:Int))=Oc:=decide_eq_true Ot
   clear hi hi0
   go_wp2
   go_ret2
   exact⟨_,⟨_,_,_,rfl⟩,rfl,E0.out⟩):p:=h
theorem Fk{m n cap k s:Nat}(hm:m<n)(h1:n≤cap)(hs:s=cap*k):m*k+k≤s:=by
 rw[hs,←Nat.succ_mul];exact Nat.mul_le_mul_right k Ot
theorem sV{p:Prop}(h:p:=by
  obtain rfl:=HW0.out
  have t3:(i==(rows.length:Int))=N1:=beq_eq_false_iff_ne.2 hi2
  obtain⟨m,rfl⟩:∃m:Nat,i=(m:Int):=⟨i.toNat,Ot⟩
  have hm:m<rows.length:=Ot
  rw[Dr _ hi2]
  have HW:=NW hw
  clear hi hi2 hw
  have H1:=NW hx1
  go_wp2_with(first
   |(refine cC rfl _ _ _ rfl _ _ _ rfl rfl _ _ HH.out Ou HS.out (by simpa using H1.out) ?_)
   |(refine(KC.out _ E0.out).mono ?_;rintro e W1 ⟨v,rfl,ho,hX⟩;obtain⟨g,cp,cur,rfl,hb,hh,q1,q2,q3,q4⟩:=iF ho Ot;have HH:=NW hh;have HQ:=NW q3;have HF:=NW q4;have cR:=fun i=>(R0.out.ext hX).cell i;have HX:=NW (E0.out.tr hX);have HB:=NW hb;have HS:=NW (Fk hm q1 q3);clear ho hh q3 q4 hX hb))
  go_ret2
  refine⟨_,⟨_,_,_,rfl⟩,rfl,?_,?_⟩
  ·exact je (Ok E0.out.size HB.out) HH.out q1 q2 HQ.out HF.out rfl HW.out rfl hm
  ·exact ah HX.out (Ok E0.out.size HB.out) _):p:=h
theorem od{p:Prop}(h:p:=by
  intro i vs w' hi hD hd
  unfold KH
  have cA:=fun i=>(R0.out.ext hD).cell i
  rcases(show i=0∨i=1∨i=2∨i=3 by omega) with rfl|rfl|rfl|rfl<;>clear hi
  ·refine Ob rfl (fun K hK=> ?_)
   go_simp
   exact hK _ _ ⟨_,rfl,Ext.an _,rfl,fun h=>Ox⟩
  ·refine Ob rfl (fun K hK=> ?_)
   have d0:=hd 0 Ou
   simp only[Hk] at d0
   have hE:=NW (E0.out.tr hD)
   go_simp
   refine(KC.out _ hE.out).mono ?_
   rintro e W1 ⟨v,rfl,ho,hX⟩
   exact hK _ _ ⟨v,by simp[d0],hX,dZ ho hE.out.size,fun h=>Ox⟩
  ·refine Ob rfl (fun K hK=> ?_)
   go_simp
   exact hK _ _ ⟨_,rfl,Ext.an _,rfl,fun h=>Ox⟩
  ·refine Ob rfl (fun K hK=> ?_)
   have d2:=hd 2 Ou
   simp only[Hk] at d2
   go_simp
   exact hK _ _ ⟨_,by simp[d2],(Below.refl _ _).alloc (NZ _) _,⟨_,rfl,af.new _ _ _⟩,fun h=>Ox⟩):p:=h
theorem oh{p:Prop}(h:p:=by
  intro vs w' hD hV _
  have v1:=hV 1 Ot
  obtain⟨g,v3,r3⟩:=hV 3 Ot
  simp only[Hk] at v1
  have HO:=NW v1
  have RG:=NW r3
  have HX:=NW (E0.out.tr hD)
  have hone:=NW (List.all_eq_true.1 hx1)
  clear hV v1 r3 hD hx1
  unfold KH
  simp only[v3,List.drop_succ_cons,List.drop_zero]
  refine wpList_append_own _ rfl _ _ _ rfl w.heap.size _ i0 _ _ _ U I0.out I1.out I2.out I3.out rfl Ov _ _ _ rfl HO.out ⟨g,0,N0⟩ 1 1 _ rfl rfl (NY.news_of_block (t:=_) (fr:=(0,0)) RG.out) hone.out OE Ot HX.out.size ?_
  intro v' w1 hown hgrow hnil
  go_wp2
  go_ret2
  exact⟨v',lW.of hown,rfl,by simpa using hown,eM HX.out hgrow (fun q hq=>(aE HO.out q hq).1)⟩):p:=h
theorem EO(w:NY)(A:Option Addr)(cap:Nat)(rows:List (List N2))(x0 x1 x2 x3 x4:N2)(i:Int)(hr:bC 5 w w.heap.size A cap rows)(hw:cG 5 rows)(h1:gZ rows)(hx1:[x0,x1,x2,x3,x4].all (·.oneCell')=Oc)(hlen:rows.length≤1000000):
  Of prog 73 #[.slice A rows.length cap,.int .i64 i,.agg #[x0,x1,x2,x3,x4]] w fun e w'=>∃v,lW v∧e= .returned (.tuple #[v,.int .i64 (dz rows.length i)])∧(dz rows.length i=0→w'.ownsRow w.heap.size 39 5 v (bM rows i [x0,x1,x2,x3,x4]).length (bM rows i [x0,x1,x2,x3,x4]).flatten)∧Ext w w':=by
 obtain⟨W0,HW0,E0,R0⟩:=uP w [x0,x1,x2,x3,x4] 39
 have HR:=NW hr
 clear hr
 go_enter func73,ntmps73
 by_cases hi:0≤i∧i≤(rows.length:Int)
 case neg=>exact uC
 have t1:decide (i<0)=N1:=decide_eq_false Ot
 have t2:decide (i>(rows.length:Int))=N1:=decide_eq_false Ot
 rw[show dz rows.length i=0 from if_pos hi]
 have KC:=NW (fun(W:NY) (h:Ext w W)=>AG W A cap rows ((HR.out.below h).more h.size) hw h1 hlen)
 by_cases hi2:i=(rows.length:Int)
 case neg=>exact sV
 have t3:(i==(rows.length:Int))=Oc:=beq_iff_eq.2 hi2
 rw[lP _ hi2]
 obtain⟨i0,hI,hz0,hz1,hz2⟩:=info_parts oV
 have I0:=NW hI
 have I1:=NW hz0
 have I2:=NW hz1
 have I3:=NW hz2
 have U:=underlying26
 clear hI hz0 hz1 hz2 hi hi2
 go_wp2_with fail
 rw[HW0.out]
 refine wp_region_any Ou (bA 4 (KH A rows.length cap i (.agg #[x0,x1,x2,x3,x4]) w.heap.size) (fun w'=>Ext W0 w') (Hk A rows.length cap w.heap.size 5 39 rows [x0,x1,x2,x3,x4]) (fun _=>N1) Ou (fun _ _ h k=>h.tr k) (fun i v _ _ h k=>om h k) (fun _ _ _ _ h=>Ox) ?_ ?_ (fun _=>N7) _ (Ext.dr W0))
 ·exact od
 ·exact oh
theorem E6(w:NY)(A:Option Addr)(cap:Nat)(rows:List (List N2))(x0 x1 x2:N2)(i:Int)(hr:bC 3 w w.heap.size A cap rows)(hw:cG 3 rows)(h1:gZ rows)(hx1:[x0,x1,x2].all (·.oneCell')=Oc)(hlen:rows.length≤1000000):
  Of prog 133 #[.slice A rows.length cap,.int .i64 i,.agg #[x0,x1,x2]] w fun e w'=>∃v,lW v∧e= .returned (.tuple #[v,.int .i64 (dz rows.length i)])∧(dz rows.length i=0→w'.ownsRow w.heap.size 41 3 v (bM rows i [x0,x1,x2]).length (bM rows i [x0,x1,x2]).flatten)∧Ext w w':=by
 obtain⟨W0,HW0,E0,R0⟩:=uP w [x0,x1,x2] 41
 have HR:=NW hr
 clear hr
 go_enter func133,ntmps133
 by_cases hi:0≤i∧i≤(rows.length:Int)
 case neg=>exact uC
 have t1:decide (i<0)=N1:=decide_eq_false Ot
 have t2:decide (i>(rows.length:Int))=N1:=decide_eq_false Ot
 rw[show dz rows.length i=0 from if_pos hi]
 have KC:=NW (fun(W:NY) (h:Ext w W)=>zR W A cap rows ((HR.out.below h).more h.size) hw h1 hlen)
 by_cases hi2:i=(rows.length:Int)
 case neg=>exact sV
 have t3:(i==(rows.length:Int))=Oc:=beq_iff_eq.2 hi2
 rw[lP _ hi2]
 obtain⟨i0,hI,hz0,hz1,hz2⟩:=info_parts pn
 have I0:=NW hI
 have I1:=NW hz0
 have I2:=NW hz1
 have I3:=NW hz2
 have U:=underlying27
 clear hI hz0 hz1 hz2 hi hi2
 go_wp2_with fail
 rw[HW0.out]
 refine wp_region_any Ou (bA 4 (KH A rows.length cap i (.agg #[x0,x1,x2]) w.heap.size) (fun w'=>Ext W0 w') (Hk A rows.length cap w.heap.size 3 41 rows [x0,x1,x2]) (fun _=>N1) Ou (fun _ _ h k=>h.tr k) (fun i v _ _ h k=>om h k) (fun _ _ _ _ h=>Ox) ?_ ?_ (fun _=>N7) _ (Ext.dr W0))
 ·exact od
 ·exact oh
theorem Ep(w:NY)(A:Option Addr)(cap:Nat)(rows:List (List N2))(x0 x1 x2 x3 x4 x5:N2)(i:Int)(hr:bC 6 w w.heap.size A cap rows)(hw:cG 6 rows)(h1:gZ rows)(hx1:[x0,x1,x2,x3,x4,x5].all (·.oneCell')=Oc)(hlen:rows.length≤1000000):
  Of prog 76 #[.slice A rows.length cap,.int .i64 i,.agg #[x0,x1,x2,x3,x4,x5]] w fun e w'=>∃v,lW v∧e= .returned (.tuple #[v,.int .i64 (dz rows.length i)])∧(dz rows.length i=0→w'.ownsRow w.heap.size 44 6 v (bM rows i [x0,x1,x2,x3,x4,x5]).length (bM rows i [x0,x1,x2,x3,x4,x5]).flatten)∧Ext w w':=by
 obtain⟨W0,HW0,E0,R0⟩:=uP w [x0,x1,x2,x3,x4,x5] 44
 have HR:=NW hr
 clear hr
 go_enter func76,ntmps76
 by_cases hi:0≤i∧i≤(rows.length:Int)
 case neg=>exact uC
 have t1:decide (i<0)=N1:=decide_eq_false Ot
 have t2:decide (i>(rows.length:Int))=N1:=decide_eq_false Ot
 rw[show dz rows.length i=0 from if_pos hi]
 have KC:=NW (fun(W:NY) (h:Ext w W)=>Ap W A cap rows ((HR.out.below h).more h.size) hw h1 hlen)
 by_cases hi2:i=(rows.length:Int)
 case neg=>exact sV
 have t3:(i==(rows.length:Int))=Oc:=beq_iff_eq.2 hi2
 rw[lP _ hi2]
 obtain⟨i0,hI,hz0,hz1,hz2⟩:=info_parts oS
 have I0:=NW hI
 have I1:=NW hz0
 have I2:=NW hz1
 have I3:=NW hz2
 have U:=underlying28
 clear hI hz0 hz1 hz2 hi hi2
 go_wp2_with fail
 rw[HW0.out]
 refine wp_region_any Ou (bA 4 (KH A rows.length cap i (.agg #[x0,x1,x2,x3,x4,x5]) w.heap.size) (fun w'=>Ext W0 w') (Hk A rows.length cap w.heap.size 6 44 rows [x0,x1,x2,x3,x4,x5]) (fun _=>N1) Ou (fun _ _ h k=>h.tr k) (fun i v _ _ h k=>om h k) (fun _ _ _ _ h=>Ox) ?_ ?_ (fun _=>N7) _ (Ext.dr W0))
 ·exact od
 ·exact oh
theorem DG(w:NY)(A:Option Addr)(cap:Nat)(rows:List (List N2))(x0 x1 x2:N2)(i:Int)(hr:bC 3 w w.heap.size A cap rows)(hw:cG 3 rows)(h1:gZ rows)(hx1:[x0,x1,x2].all (·.oneCell')=Oc)(hlen:rows.length≤1000000):
  Of prog 80 #[.slice A rows.length cap,.int .i64 i,.agg #[x0,x1,x2]] w fun e w'=>∃v,lW v∧e= .returned (.tuple #[v,.int .i64 (dz rows.length i)])∧(dz rows.length i=0→w'.ownsRow w.heap.size 46 3 v (bM rows i [x0,x1,x2]).length (bM rows i [x0,x1,x2]).flatten)∧Ext w w':=by
 obtain⟨W0,HW0,E0,R0⟩:=uP w [x0,x1,x2] 46
 have HR:=NW hr
 clear hr
 go_enter func80,ntmps80
 by_cases hi:0≤i∧i≤(rows.length:Int)
 case neg=>exact uC
 have t1:decide (i<0)=N1:=decide_eq_false Ot
 have t2:decide (i>(rows.length:Int))=N1:=decide_eq_false Ot
 rw[show dz rows.length i=0 from if_pos hi]
 have KC:=NW (fun(W:NY) (h:Ext w W)=>zZ W A cap rows ((HR.out.below h).more h.size) hw h1 hlen)
 by_cases hi2:i=(rows.length:Int)
 case neg=>exact sV
 have t3:(i==(rows.length:Int))=Oc:=beq_iff_eq.2 hi2
 rw[lP _ hi2]
 obtain⟨i0,hI,hz0,hz1,hz2⟩:=info_parts pQ
 have I0:=NW hI
 have I1:=NW hz0
 have I2:=NW hz1
 have I3:=NW hz2
 have U:=underlying31
 clear hI hz0 hz1 hz2 hi hi2
 go_wp2_with fail
 rw[HW0.out]
 refine wp_region_any Ou (bA 4 (KH A rows.length cap i (.agg #[x0,x1,x2]) w.heap.size) (fun w'=>Ext W0 w') (Hk A rows.length cap w.heap.size 3 46 rows [x0,x1,x2]) (fun _=>N1) Ou (fun _ _ h k=>h.tr k) (fun i v _ _ h k=>om h k) (fun _ _ _ _ h=>Ox) ?_ ?_ (fun _=>N7) _ (Ext.dr W0))
 ·exact od
 ·exact oh
end
section
open Kp
theorem uz{w:NY}{g o:Nat}{cur:Array N2}{t:Oo}{vs:List N2}(hh:w.heap[g]?=N3 (.cells cur t (0,0)))(h:o+vs.length≤cur.size)(h1:∀v∈vs,v.oneCell'=Oc):
  w.setCells g o vs=w.setRow g (putAt cur o vs.toArray):=by
 have e1:=run_storeCells_cells (P:=prog) g o vs 0 w (fun j hj=>by simp[World.cell?,hh];omega) (fun j hj=>by simp[World.frozen?,hh]) h1
 have e2:=run_storeCells_at (P:=prog) g o t vs 0 cur w hh Ot h1
 rw[e1] at e2
 have:=(Result.ok.inj e2).2
 simpa[putAt] using this
theorem qx(w:NY)(t e ty:Oo)(z:N2)(i0:TypeInfo)(ht:prog.underlying t=N3 (.slice e))(hi:prog.info? e=N3 i0)(hz:i0.zero=N3 z)(h1:z.cells.all (·.oneCell')=Oc)(g o c:Nat)(cur:Array N2)
  (hh:w.heap[g]?=N3 (.cells cur e (0,0)))(ho:o+z.cells.size≤cur.size):
  (Builtin.clear_ #[t] ty #[.slice (N3 ⟨g,o,N0⟩) 1 c]).run prog w= .ok (.tuple #[]) (w.setRow g (putAt cur o z.cells)):=by
 have hzc:Builtin.zeroCells z.cells 1=z.cells:=by
  apply Array.ext
  ·simp[Builtin.zeroCells]
  ·intro i h1 h2
   simp[Builtin.zeroCells,Nat.mod_eq_of_lt h2]
   exact getElem!_pos z.cells i h2
 have hst:=run_storeCells_at (P:=prog) g o e z.cells.toList 0 cur w hh (by simpa using ho) (fun v hv=>(Array.all_eq_true_iff_forall_mem.1 h1) v (by simpa using hv))
 have hv:(zeroValue e).run prog w= .ok z w:=by simp[zeroValue,typeInfo,hi,hz]
 unfold putAt
 simp[Builtin.clear_,run_underlying ht,hv,hzc] at hst⊢
 simp[hst]
theorem yN{k:Nat}{rows:List (List N2)}(hw:cG k rows)(m:Nat):cG k (rows.eraseIdx m):=fun r hr=>hw r (List.mem_of_mem_eraseIdx hr)
theorem BA{k n cap m:Nat}{cur:Array N2}{rows:List (List N2)}{z:Array N2}(h1:n≤cap)(h3:cur.size=cap*k)(h4:cur.toList.take (n*k)=rows.flatten)(hn:rows.length=n)(hw:cG k rows)(hm:m<n)(hz:z.size=k):
  (putAt (putAt cur (m*k) (rows.drop (m+1)).flatten.toArray) ((n-1)*k) z).size=cap*k∧(putAt (putAt cur (m*k) (rows.drop (m+1)).flatten.toArray) ((n-1)*k) z).toList.take ((n-1)*k)=(rows.eraseIdx m).flatten:=by
 subst hn
 have hd:(rows.drop (m+1)).flatten.length=(rows.length-(m+1))*k:=by rw[aM (fun r hr=>hw r (List.mem_of_mem_drop hr)),List.length_drop]
 have hF:rows.flatten.length=rows.length*k:=aM hw
 have hsz:cur.toList.length=cap*k:=by simp[h3]
 have hck:rows.length*k≤cap*k:=Nat.mul_le_mul_right k h1
 obtain⟨p,hp⟩:∃p,rows.length=m+1+p:=⟨rows.length-(m+1),Ot⟩
 have e1:rows.length-(m+1)=p:=Ot
 have e2:rows.length-1=m+p:=Ot
 have e3:rows.length*k=m*k+k+p*k:=by rw[hp,Nat.add_mul,Nat.add_mul,Nat.one_mul]
 have e4:(m+p)*k=m*k+p*k:=Nat.add_mul _ _ _
 rw[e1] at hd
 rw[e2,e4]
 have s1:(putAt cur (m*k) (rows.drop (m+1)).flatten.toArray).toList.length=cap*k:=by
  unfold putAt
  simp only[List.length_append,List.length_take,List.length_drop,hsz,hd]
  omega
 refine⟨?_,?_⟩
 ·unfold putAt at s1⊢
  simp only[List.size_toArray,List.length_append,List.length_take,List.length_drop,s1] at s1⊢
  simp only[Array.length_toList,hz]
  omega
 ·have e5:(rows.eraseIdx m).flatten=rows.flatten.take (m*k)++(rows.drop (m+1)).flatten:=by
   rw[List.eraseIdx_eq_take_drop_succ,List.flatten_append,mN hw Ot]
  have e6:rows.flatten.take (m*k)=cur.toList.take (m*k):=by rw[←h4,List.take_take,Nat.min_eq_left Ot]
  rw[e5,e6]
  generalize hY:putAt cur (m*k) (rows.drop (m+1)).flatten.toArray=Y at s1⊢
  have e7:(putAt Y (m*k+p*k) z).toList.take (m*k+p*k)=Y.toList.take (m*k+p*k):=by
   unfold putAt
   simp only[Nat.add_zero,List.append_assoc]
   rw[List.take_append_of_le_length (by rw[List.length_take,s1];omega),List.take_take,Nat.min_self]
  rw[e7,←hY]
  unfold putAt
  simp only[Nat.add_zero]
  rw[List.take_left']
  simp only[List.length_append,List.length_take,hsz,hd]
  omega
end
section
open Kp
theorem pZ{α β:Type}(f:α→β)(l:List α)(i:Int)(x:α):bM (l.map f) i (f x)=(bM l i x).map f:=by
 unfold bM
 rw[N9]
 split
 ·simp
 ·simp[List.map_set]
theorem iK{α β:Type}(f:α→β)(l:List α)(m:Nat):(l.map f).eraseIdx m=(l.eraseIdx m).map f:=by
 induction l generalizing m with
 |nil=>rfl
 |cons a l ih=>cases m with
  |zero=>rfl
  |succ m=>simp[ih]
theorem Ey(l:List jD):gZ (aO l):=fun r hr u hu=>by
 obtain⟨s,_,rfl⟩:=List.mem_map.1 hr;simp at hu;rcases hu with rfl|rfl|rfl|rfl|rfl<;>rfl
theorem yL(l:List Int):gZ (bN l):=fun r hr u hu=>by
 obtain⟨s,_,rfl⟩:=List.mem_map.1 hr;simp at hu;subst hu;rfl
theorem F1(l:List Sz):gZ (bt l):=fun r hr u hu=>by
 obtain⟨s,_,rfl⟩:=List.mem_map.1 hr;simp at hu;rcases hu with rfl|rfl|rfl<;>rfl
theorem FM(l:List Ld):gZ (bD l):=fun r hr u hu=>by
 obtain⟨s,_,rfl⟩:=List.mem_map.1 hr;simp at hu;rcases hu with rfl|rfl|rfl<;>rfl
theorem yp(l:List Aw):gZ (aX l):=fun r hr u hu=>by
 obtain⟨s,_,rfl⟩:=List.mem_map.1 hr;simp at hu;rcases hu with rfl|rfl|rfl|rfl|rfl<;>rfl
theorem JV(l:List Sd):gZ (ak l):=fun r hr u hu=>by
 obtain⟨s,_,rfl⟩:=List.mem_map.1 hr;simp at hu;rcases hu with rfl|rfl|rfl|rfl|rfl|rfl|rfl<;>rfl
theorem EC.ext{w w':NY}{b:Nat}{C:Array N2}(h:EC w b C)(hx:Ext w w'):EC w' b C:=(hx.block b (Od.1 h).1).trans h
def nQ(w:NY)(B:Nat)(rows:List (List N2))(l:List Br):Prop:=
 rows.length=l.length∧∀i,i<l.length→∃ga gc,rows.getD i []=mJ (l.getD i mA) ga gc∧bC 2 w B ga gc (dx (l.getD i mA).gaps)
theorem nQ.below{w w':NY}{B:Nat}{rows:List (List N2)}{l:List Br}(h:nQ w B rows l)(hb:On B w w'):nQ w' B rows l:=by
 refine⟨h.1,fun i hi=> ?_⟩
 obtain⟨ga,gc,e,s⟩:=h.2 i hi
 exact⟨ga,gc,e,s.below hb⟩
theorem nQ.more{w:NY}{B B':Nat}{rows:List (List N2)}{l:List Br}(h:nQ w B rows l)(hb:B≤B'):nQ w B' rows l:=by
 refine⟨h.1,fun i hi=> ?_⟩
 obtain⟨ga,gc,e,s⟩:=h.2 i hi
 exact⟨ga,gc,e,s.more hb⟩
theorem nQ.wide{w:NY}{B:Nat}{rows:List (List N2)}{l:List Br}(h:nQ w B rows l):cG 6 rows:=by
 intro r hr
 obtain⟨i,hi,rfl⟩:=List.mem_iff_getElem.1 hr
 obtain⟨ga,gc,e,_⟩:=h.2 i (by rw[←h.1];exact hi)
 rw[N8,Oa hi] at e
 simp only[Option.getD_some] at e
 rw[e];rfl
theorem nQ.one{w:NY}{B:Nat}{rows:List (List N2)}{l:List Br}(h:nQ w B rows l):gZ rows:=by
 intro r hr
 obtain⟨i,hi,rfl⟩:=List.mem_iff_getElem.1 hr
 obtain⟨ga,gc,e,_⟩:=h.2 i (by rw[←h.1];exact hi)
 rw[N8,Oa hi] at e
 simp only[Option.getD_some] at e
 rw[e]
 intro u hu
 simp at hu
 rcases hu with rfl|rfl|rfl|rfl|rfl|rfl<;>rfl
theorem xg{w:NY}{B:Nat}{A:Option Addr}{cap:Nat}{l:List Br}(h:fo w B A cap l):∃rows,nQ w B rows l∧bC 6 w B A cap rows:=by
 obtain⟨h1,h2,h3⟩:=h
 by_cases hn:0<l.length
 ·obtain⟨b,off,e,hb,hc⟩:=h3 hn
  have hx:∀i,∃r:List N2,i<l.length→∃ga gc,r=mJ (l.getD i mA) ga gc∧(∀j,j<6→w.cell? ⟨b,off+6*i+j,N0⟩=r[j]?)∧bC 2 w B ga gc (dx (l.getD i mA).gaps):=by
   intro i
   by_cases hi:i<l.length
   ·obtain⟨ga,gc,q1,q2⟩:=hc i hi
    exact⟨_,fun _=>⟨ga,gc,rfl,q1,q2⟩⟩
   ·exact⟨[],fun h=>absurd h hi⟩
  obtain⟨f,hf⟩:=Classical.axiomOfChoice hx
  have hlen:((List.range l.length).map f).length=l.length:=Ow
  have hat:∀i,i<l.length→((List.range l.length).map f).getD i []=f i:=by
   intro i hi
   simp[N8,hi]
  refine⟨(List.range l.length).map f,⟨hlen,fun i hi=> ?_⟩,?_,h2,fun _=>⟨b,off,e,hb,fun i hi j hj=> ?_⟩⟩
  ·obtain⟨ga,gc,q1,q2,q3⟩:=hf i hi
   exact⟨ga,gc,(hat i hi).trans q1,q3⟩
  ·rw[hlen];exact h1
  ·rw[hlen] at hi
   obtain⟨ga,gc,q1,q2,q3⟩:=hf i hi
   rw[hat i hi]
   exact q2 j hj
 ·have:l=[]:=List.eq_nil_of_length_eq_zero Ot
  subst this
  exact⟨[],⟨rfl,fun i hi=>absurd hi Ow⟩,h1,h2,fun h=>absurd h Ow⟩
theorem JK{w:NY}{B:Nat}{A:Option Addr}{cap:Nat}{rows:List (List N2)}{l:List Br}(h:nQ w B rows l)(hs:bC 6 w B A cap rows):fo w B A cap l:=by
 obtain⟨h1,h2,h3⟩:=hs
 rw[h.1] at h1
 refine⟨h1,h2,fun hn=> ?_⟩
 obtain⟨b,off,e,hb,hc⟩:=h3 (by rw[h.1];exact hn)
 refine⟨b,off,e,hb,fun i hi=> ?_⟩
 obtain⟨ga,gc,q1,q2⟩:=h.2 i hi
 refine⟨ga,gc,fun j hj=> ?_,q2⟩
 rw[←q1]
 exact hc i (by rw[h.1];exact hi) j hj
theorem nQ.snoc{w:NY}{B:Nat}{rows:List (List N2)}{l:List Br}(h:nQ w B rows l)(x:Br)(ga:Option Addr)(gc:Nat)(hx:bC 2 w B ga gc (dx x.gaps)):nQ w B (rows++[mJ x ga gc]) (l++[x]):=by
 refine⟨by simp[h.1],fun i hi=> ?_⟩
 have hl:=h.1
 rw[List.length_append,List.length_singleton] at hi
 by_cases q:i<l.length
 ·obtain⟨g1,g2,e,s⟩:=h.2 i q
  refine⟨g1,g2,?_,?_⟩
  ·rw[N8,List.getElem?_append_left Ot,N8,List.getElem?_append_left q,←N8,←N8]
   exact e
  ·rw[N8,List.getElem?_append_left q,←N8];exact s
 ·have:i=l.length:=Ot
  subst this
  refine⟨ga,gc,?_,?_⟩
  ·rw[N8,List.getElem?_append_right Ot,hl];simp
  ·simp;exact hx
theorem nQ.set{w:NY}{B:Nat}{rows:List (List N2)}{l:List Br}(h:nQ w B rows l)(m:Nat)(x:Br)(ga:Option Addr)(gc:Nat)(hx:bC 2 w B ga gc (dx x.gaps)):nQ w B (rows.set m (mJ x ga gc)) (l.set m x):=by
 refine⟨by simp[h.1],fun i hi=> ?_⟩
 have hl:=h.1
 rw[List.length_set] at hi
 by_cases q:m=i
 ·subst q
  refine⟨ga,gc,?_,?_⟩
  ·rw[N8,List.getElem?_set_self Ot,N8,List.getElem?_set_self hi];rfl
  ·rw[N8,List.getElem?_set_self hi];exact hx
 ·obtain⟨g1,g2,e,s⟩:=h.2 i hi
  refine⟨g1,g2,?_,?_⟩
  ·rw[N8,List.getElem?_set_ne q,N8,List.getElem?_set_ne q,←N8,←N8]
   exact e
  ·rw[N8,List.getElem?_set_ne q,←N8];exact s
theorem nQ.put{w:NY}{B:Nat}{rows:List (List N2)}{l:List Br}(h:nQ w B rows l)(i:Int)(x:Br)(ga:Option Addr)(gc:Nat)(hx:bC 2 w B ga gc (dx x.gaps)):nQ w B (bM rows i (mJ x ga gc)) (bM l i x):=by
 unfold bM
 rw[h.1]
 split
 ·exact h.snoc x ga gc hx
 ·exact h.set _ x ga gc hx
theorem nQ.erase{w:NY}{B:Nat}{rows:List (List N2)}{l:List Br}(h:nQ w B rows l)(m:Nat):nQ w B (rows.eraseIdx m) (l.eraseIdx m):=by
 have hl:=h.1
 refine⟨by rw[List.length_eraseIdx,List.length_eraseIdx,hl],fun i hi=> ?_⟩
 have hi':(if i<m then i else i+1)<l.length:=by
  rw[List.length_eraseIdx] at hi
  split at hi<;>split <;>omega
 obtain⟨ga,gc,e,s⟩:=h.2 _ hi'
 refine⟨ga,gc,?_,?_⟩
 ·rw[N8,N8,List.getElem?_eraseIdx,List.getElem?_eraseIdx]
  rw[N8,N8] at e
  split <;>rename_i q<;>simp only[q,if_true,if_false] at e<;>exact e
 ·rw[N8,List.getElem?_eraseIdx]
  rw[N8] at s
  split <;>rename_i q<;>simp only[q,if_true,if_false] at s<;>exact s
theorem iR{w W1:NY}{c i n k:Nat}{t:Oo}{v:N2}{xs:List N2}(ho:W1.ownsRow w.heap.size t k v n xs)(hc:c<w.heap.size)(x:N2):(W1.setCell ⟨c,i,N0⟩ x).ownsRow w.heap.size t k v n xs:=
 di ho (fun e=>by have:=(aE ho c e).1;omega) x
theorem ia{w' W:NY}{c m n k:Nat}{t:Oo}{v:N2}{xs:List N2}(h:w'.ownsRow m t k v n xs)(hA:vT c m w' W):W.ownsRow m t k v n xs:=by
 obtain⟨hl,h0|⟨g,cap,cur,rfl,hb,hh,h1⟩⟩:=h
 ·exact⟨hl,.inl h0⟩
 ·exact⟨hl,.inr ⟨g,cap,cur,rfl,hb,(hA.2 g (Od.1 hh).1 hb).trans hh,h1⟩⟩
theorem iX{k:Nat}{w:NY}{base n cap:Nat}{e:Oo}{A:Option Addr}{rows:List (List N2)}(h:w.ownsRow base e k (.slice A n cap) n rows.flatten)(hn:rows.length=n)(hw:cG k rows):bC k w w.heap.size A cap rows:=by
 obtain⟨A',cap',hv,hs⟩:=aS h hn hw
 injection hv with h1 h2 h3
 subst h1;subst h3
 exact hs
theorem iJ{w W1:NY}{c i:Nat}{j:du}{a:fm}(hb:bh w c j a)(hx:Ext w W1)(hlt:c<w.heap.size)(v:N2):ei c w (W1.setCell ⟨c,i,N0⟩ v)∧∀W,vT c w.heap.size (W1.setCell ⟨c,i,N0⟩ v) W→bh W W.heap.size j a:=by
 have h1:ei c w (W1.setCell ⟨c,i,N0⟩ v):=(ei.ext hx hlt).put i v
 refine⟨h1,fun W hA=>(hb.below (h1.below.trans hA.1)).more ?_⟩
 have:=h1.below.size
 have:=hA.1.size
 omega
theorem Ja{w W1:NY}{c:Nat}{j:du}{a:fm}{v:N2}{l:List jD}(hc:JC w c j a)(hb:bh w c j a)(hx:Ext w W1)(ho:W1.ownsRow w.heap.size 39 5 v (aO l).length (aO l).flatten):
  ∃a',jC c w (W1.setCell ⟨c,5,N0⟩ v) {j with openings:=l} a':=by
 obtain⟨h1,h2⟩:=iJ (i:=5) hb hx hc.lt v
 have ho1:=iR (i:=5) ho hc.lt v
 obtain⟨A,cap,rfl,_⟩:=aS ho1 rfl (j7 l)
 have hs:=fun W (hA:vT c w.heap.size _ W)=>iX (ia ho1 hA) rfl (j7 l)
 rw[N9] at *
 exact⟨{a with oa:=A,oc:=cap},h1,(hc.ext hx).put _ rfl,fun W hA=>(by
  have h3:=h2 W hA
  have HS:=hs W hA
  exact⟨h3.p,h3.u,HS,h3.z,h3.b,h3.l,h3.s⟩)⟩
theorem IS{w W1:NY}{c:Nat}{j:du}{a:fm}{v:N2}{l:List Int}(hc:JC w c j a)(hb:bh w c j a)(hx:Ext w W1)(ho:W1.ownsRow w.heap.size 3 1 v (bN l).length (bN l).flatten):
  ∃a',jC c w (W1.setCell ⟨c,4,N0⟩ v) {j with purlins:=l} a':=by
 obtain⟨h1,h2⟩:=iJ (i:=4) hb hx hc.lt v
 have ho1:=iR (i:=4) ho hc.lt v
 obtain⟨A,cap,rfl,_⟩:=aS ho1 rfl (bz (f:=fun n=>[.int .i64 n]) (fun _=>rfl) l)
 have hs:=fun W (hA:vT c w.heap.size _ W)=>iX (ia ho1 hA) rfl (bz (f:=fun n=>[.int .i64 n]) (fun _=>rfl) l)
 rw[N9] at *
 exact⟨{a with ua:=A,uc:=cap},h1,(hc.ext hx).put _ rfl,fun W hA=>(by
  have h3:=h2 W hA
  have HS:=hs W hA
  exact⟨h3.p,HS,h3.o,h3.z,h3.b,h3.l,h3.s⟩)⟩
theorem IT{w W1:NY}{c:Nat}{j:du}{a:fm}{v:N2}{l:List Sz}(hc:JC w c j a)(hb:bh w c j a)(hx:Ext w W1)(ho:W1.ownsRow w.heap.size 41 3 v (bt l).length (bt l).flatten):
  ∃a',jC c w (W1.setCell ⟨c,6,N0⟩ v) {j with sizes:=l} a':=by
 obtain⟨h1,h2⟩:=iJ (i:=6) hb hx hc.lt v
 have ho1:=iR (i:=6) ho hc.lt v
 obtain⟨A,cap,rfl,_⟩:=aS ho1 rfl (bz (f:=z8) (fun _=>rfl) l)
 have hs:=fun W (hA:vT c w.heap.size _ W)=>iX (ia ho1 hA) rfl (bz (f:=z8) (fun _=>rfl) l)
 rw[N9] at *
 exact⟨{a with za:=A,zc:=cap},h1,(hc.ext hx).put _ rfl,fun W hA=>(by
  have h3:=h2 W hA
  have HS:=hs W hA
  exact⟨h3.p,h3.u,h3.o,HS,h3.b,h3.l,h3.s⟩)⟩
theorem Jd{w W1:NY}{c:Nat}{j:du}{a:fm}{v:N2}{l:List Ld}(hc:JC w c j a)(hb:bh w c j a)(hx:Ext w W1)(ho:W1.ownsRow w.heap.size 46 3 v (bD l).length (bD l).flatten):
  ∃a',jC c w (W1.setCell ⟨c,13,N0⟩ v) {j with aq:=l} a':=by
 obtain⟨h1,h2⟩:=iJ (i:=13) hb hx hc.lt v
 have ho1:=iR (i:=13) ho hc.lt v
 obtain⟨A,cap,rfl,_⟩:=aS ho1 rfl (lL l)
 have hs:=fun W (hA:vT c w.heap.size _ W)=>iX (ia ho1 hA) rfl (lL l)
 rw[N9] at *
 exact⟨{a with la:=A,lc:=cap},h1,(hc.ext hx).put _ rfl,fun W hA=>(by
  have h3:=h2 W hA
  have HS:=hs W hA
  exact⟨h3.p,h3.u,h3.o,h3.z,h3.b,HS,h3.s⟩)⟩
theorem Df{w W1:NY}{c:Nat}{j:du}{a:fm}{v:N2}{l:List Aw}(hc:JC w c j a)(hb:bh w c j a)(hx:Ext w W1)(ho:W1.ownsRow w.heap.size 48 5 v (aX l).length (aX l).flatten):
  ∃a',jC c w (W1.setCell ⟨c,14,N0⟩ v) {j with spans:=l} a':=by
 obtain⟨h1,h2⟩:=iJ (i:=14) hb hx hc.lt v
 have ho1:=iR (i:=14) ho hc.lt v
 obtain⟨A,cap,rfl,_⟩:=aS ho1 rfl (bz (f:=gF) (fun _=>rfl) l)
 have hs:=fun W (hA:vT c w.heap.size _ W)=>iX (ia ho1 hA) rfl (bz (f:=gF) (fun _=>rfl) l)
 rw[N9] at *
 exact⟨{a with sa:=A,sc:=cap},h1,(hc.ext hx).put _ rfl,fun W hA=>(by
  have h3:=h2 W hA
  have HS:=hs W hA
  exact⟨h3.p,h3.u,h3.o,h3.z,h3.b,h3.l,HS⟩)⟩
theorem Jn{w W1:NY}{c:Nat}{j:du}{a:fm}{v:N2}{l:List Br}{rows:List (List N2)}(hc:JC w c j a)(hb:bh w c j a)(hx:Ext w W1)(hr:nQ w c rows l)(ho:W1.ownsRow w.heap.size 44 6 v rows.length rows.flatten):
  ∃a',jC c w (W1.setCell ⟨c,7,N0⟩ v) {j with bars:=l} a':=by
 obtain⟨h1,h2⟩:=iJ (i:=7) hb hx hc.lt v
 have ho1:=iR (i:=7) ho hc.lt v
 obtain⟨A,cap,rfl,_⟩:=aS ho1 rfl hr.wide
 have hs:=fun W (hA:vT c w.heap.size _ W)=>iX (ia ho1 hA) rfl hr.wide
 have hq:=fun W (hA:vT c w.heap.size (W1.setCell ⟨c,7,N0⟩ (.slice A rows.length cap)) W)=>(hr.below (h1.below.trans hA.1)).more (B':=W.heap.size) (by have:=h1.below.size;have:=hA.1.size;have:=hc.lt;omega)
 have hl:=hr.1
 refine⟨{a with ba:=A,bc:=cap},h1,(hc.ext hx).put _ (by rw[hl];rfl),fun W hA=> ?_⟩
 have h3:=h2 W hA
 exact⟨h3.p,h3.u,h3.o,h3.z,JK (hq W hA) (hs W hA),h3.l,h3.s⟩
end
section
open Kp
attribute [local go_sem] PU Qz QN QK QA QF QG QM Qx QE QI Qo Qd Qi Qt Qq
attribute [local go_sem] PT Qv QL QJ Qy QH QD QC QO
theorem Bu:(prog.info? 73).map (fun i=>(i.zero,i.size,i.bytes))=N3 (N3 (.slice N0 0 0),1,24):=Ou
abbrev qh(e:Ed):Sd:=⟨e.sx,e.sy,e.srise,e.srun,e.gable,e.splate,e.sover⟩
def tB(rs:List (List Sd))(n:Int):Nat→Int×Bool
 |0=>(n,N1)
 |k+1=>(Oe.wrap ((tB rs n k).1-((rs.getD k []).length:Int)),(tB rs n k).2||(!(tB rs n k).2&&decide ((tB rs n k).1<((rs.getD k []).length:Int))))
def eE(rs:List (List Sd))(n:Int)(s:Sd)(k:Nat):List Sd:=
 if !(tB rs n k).2&&decide ((tB rs n k).1<((rs.getD k []).length:Int)) then(rs.getD k []).set (tB rs n k).1.toNat s else rs.getD k []
def eP(rs:List (List Sd))(n:Int)(s:Sd):List (List Sd):=(List.range rs.length).map (eE rs n s)
def kF(rs:List (List Sd))(n:Int):Int:=if n<0 then 6 else if(tB rs n rs.length).2 then 0 else 6
theorem yH(rs:List (List Sd))(n:Int)(s:Sd)(k:Nat):(eE rs n s k).length=(rs.getD k []).length:=by
 unfold eE;split <;>simp
theorem vM(rs:List (List Sd))(n:Int)(s:Sd){k:Nat}(hk:k<rs.length):(eP rs n s).getD k []=eE rs n s k:=by
 unfold eP;simp[N8,hk]
theorem km(rs:List (List Sd))(n:Int)(s:Sd):(eP rs n s).length=rs.length:=by unfold eP;simp
theorem II{rs:List (List Sd)}{n:Int}(h0:0≤n)(hn:n≤9223372036854775807)(hl:∀k,(rs.getD k []).length≤1000):∀k,(tB rs n k).2=N1→0≤(tB rs n k).1∧(tB rs n k).1≤n:=by
 intro k
 induction k with
 |zero=>intro _;exact⟨h0,Int.le_refl _⟩
 |succ k ih=>
  intro h
  simp only[tB,Bool.or_eq_false_iff] at h
  obtain⟨h1,h2⟩:=h
  obtain⟨a,b⟩:=ih h1
  rw[h1] at h2
  simp only[Bool.not_false,Bool.true_and,decide_eq_false_iff_not] at h2
  have hw:Oe.wrap ((tB rs n k).1-((rs.getD k []).length:Int))=(tB rs n k).1-((rs.getD k []).length:Int):=Om _ Ot
  simp only[tB]
  rw[hw]
  omega
theorem Fi{w:NY}{B n k q:Nat}{t:Oo}{V:N2}{xs:List N2}(h:w.ownsRow B t k V n xs)(hq:w.heap.size≤q∨V.ownBlock≠N3 q)(cs:Array N2):(w.setRow q cs).ownsRow B t k V n xs:=by
 obtain⟨hl,h0|⟨g,cap,cur,rfl,hb,hh,h1⟩⟩:=h
 ·exact⟨hl,.inl h0⟩
 ·refine⟨hl,.inr ⟨g,cap,cur,rfl,hb,?_,h1⟩⟩
  have hne:q≠g:=by
   intro e
   subst e
   rcases hq with hq|hq
   ·have:=(Od.1 hh).1;omega
   ·exact hq rfl
  have:(w.setRow q cs).heap[g]?=w.heap[g]?:=by simp only[World.setRow,Array.getElem?_modify];rw[if_neg hne]
  exact this.trans hh
theorem sC{w:NY}{B n k q:Nat}{t t':Oo}{V:N2}{xs cs:_}(h:w.ownsRow B t k V n xs)(hq:w.heap[q]?=N3 (.cells cs t' (0,0)))(hne:t≠t'):V.ownBlock≠N3 q:=by
 intro e
 obtain⟨hl,⟨rfl,_⟩|⟨g,cap,cur,rfl,hb,hh,h1⟩⟩:=h
 ·cases e
 ·have e2:g=q:=by simpa[Value.ownBlock] using e
  subst e2
  rw[hh] at hq
  injection hq with hq
  injection hq with _ h3
  exact hne h3
structure Nu(W0:NY)(pb:Nat)(rs:List (List Sd))(n:Int)(s:Sd)(k:Nat)(wr:NY):Prop where
 ext:Ext W0 wr
 mem:∃v vals,Bx wr pb 24 v∧wr.ownsRow W0.heap.size 73 1 v k vals∧vals.length=k∧∀i,i<k→wr.ownsRow W0.heap.size 36 7 (vals.getD i N7) (eE rs n s i).length (ak (eE rs n s i)).flatten
theorem FA{w:NY}{r:List Sd}{b B:Nat}{V:N2}(h:w.ownsRow b 36 7 V r.length (ak r).flatten)(hB:w.heap.size≤B):∃A c,V= .slice A r.length c∧bC 7 w B A c (ak r):=by
 obtain⟨A,c,e,hs⟩:=aS h (N9 _) (cL r)
 exact⟨A,c,e,hs.more hB⟩
theorem rg_of{w:NY}{B0:Nat}{v:N2}{vals:List N2}{rs':List (List Sd)}(ho:w.ownsRow B0 73 1 v rs'.length vals)(hl:vals.length=rs'.length)
  (hr:∀i,i<rs'.length→w.ownsRow B0 36 7 (vals.getD i N7) (rs'.getD i []).length (ak (rs'.getD i [])).flatten):∃A cap,v= .slice A rs'.length cap∧dR w w.heap.size A cap rs':=by
 obtain⟨hl2,⟨rfl,h0⟩|⟨g,cap,cur,rfl,hb,hh,h1,h2,h3,h4⟩⟩:=ho
 ·exact⟨N0,0,by rw[h0],Ot,OE,fun hp=>Ot⟩
 ·refine⟨_,cap,rfl,h1,h2,fun hp=>⟨g,0,rfl,(Od.1 hh).1,fun i hi=> ?_⟩⟩
  obtain⟨A,c,e,hs⟩:=FA (hr i hi) (NZ _)
  refine⟨A,c,?_,hs⟩
  have hc:cur[i]?=vals[i]?:=by
   rw[←h4,List.getElem?_take,if_pos Ot];simp
  rw[Nat.zero_add]
  simp only[World.cell?,hh]
  rw[N8,Oa Ot] at e
  simp only[Option.getD_some] at e
  simp only[hc]
  rw[Oa Ot,e]
  rfl
theorem tK{W0 wr W1 w2:NY}{pb:Nat}{rs:List (List Sd)}{n:Int}{s:Sd}{k:Nat}{v v' V1:N2}{vals:List N2}(hx:Ext W0 wr)(hbx:Bx wr pb 24 v)(ho:wr.ownsRow W0.heap.size 73 1 v k vals)(hl:vals.length=k)
  (hr:∀i,i<k→wr.ownsRow W0.heap.size 36 7 (vals.getD i N7) (eE rs n s i).length (ak (eE rs n s i)).flatten)(h1:Ext wr W1)
  (hV:W1.ownsRow W0.heap.size 36 7 V1 (eE rs n s k).length (ak (eE rs n s k)).flatten)(hown:w2.ownsRow W0.heap.size 73 1 v' (k+1) (vals++[V1]))(hg:W1.grownBy w2 v.ownBlock)(hpb:W0.heap.size≤pb):
  Nu W0 pb rs n s (k+1) (w2.setCell ⟨pb,0,N0⟩ v'):=by
 have ho1:=bB ho h1
 have hb1:=hbx.below h1 hbx.lt
 have hb2:=hb1.grown ho1 hg Ov
 have key:∀V m xs,W1.ownsRow W0.heap.size 36 7 V m xs→(w2.setCell ⟨pb,0,N0⟩ v').ownsRow W0.heap.size 36 7 V m xs:=by
  intro V m xs h
  have h2:=kS h ho1 hg Ov
  exact di h2 (sC (q:=pb) (t':=24) (cs:=#[v]) h2 hb2 Ov) _
 refine⟨(eM (hx.tr h1) hg (fun q hq=>(aE ho1 q hq).1)).setCell hpb _,v',vals++[V1],hb2.put _,di hown (sC (q:=pb) (t':=24) (cs:=#[v]) hown hb2 Ov) _,by simp[hl],fun i hi=> ?_⟩
 by_cases hik:i<k
 ·rw[N8,List.getElem?_append_left Ot,←N8]
  exact key _ _ _ (bB (hr i hik) h1)
 ·obtain rfl:i=k:=Ot
  rw[N8,List.getElem?_append_right Ot,hl]
  simpa using key _ _ _ hV
theorem BL(w:NY)(c:Nat)(j:du)(a:fm)(e:Ed)(g:N2)(hc:JC w c j a)(hb:bh w c j a)(hlen:j.rings.length≤1000)(hle:∀k,(j.rings.getD k []).length≤1000)(hn:e.index≤9223372036854775807):
  Of prog 69 #[.pointer (N3 ⟨c,0,N0⟩),.agg (aG e g)] w fun x w'=>x= .returned (.int .i64 (kF j.rings e.index))∧ei c w w'∧(kF j.rings e.index=0→∃a',jC c w w' {j with rings:=eP j.rings e.index (qh e)} a'):=by
 have hlt:=hc.lt
 obtain⟨W0,hW0⟩:∃W0,w.alloc (.cells (aG e g) 50)=W0:=⟨_,rfl⟩
 have HZ:EC W0 w.heap.size (aG e g):=Pd
 have e0:Ext w W0:=ON
 have hJ:=hc.ext e0
 have z1:=HZ.cell 1
 have HJ:=NW hJ
 have HE0:=NW e0
 have HZ':=NW HZ
 by_cases h0:e.index<0
 ·have hE:kF j.rings e.index=6:=by unfold kF;rw[if_pos h0]
  have t0:decide (e.index<0)=Oc:=decide_eq_true h0
  rw[hE]
  have HB:=NW (ei.ext e0 hlt:ei c w W0)
  clear hc hb hJ HZ e0 h0 hE
  subst hW0
  go_enter func69,ntmps69
  go_wp2
  go_ret
  exact⟨rfl,HB.out,fun h=>absurd h Ov⟩
 have hE:kF j.rings e.index=if(tB j.rings e.index j.rings.length).2 then 0 else 6:=by unfold kF;rw[if_neg h0]
 have t0:decide (e.index<0)=N1:=decide_eq_false h0
 have HPOS:=NW (II (rs:=j.rings) (n:=e.index) Ot hn hle)
 have HR:=NW (fun(W:NY) (h:Ext W0 W)=>(((hb.p.below ((e0.tr h).mono (Nat.le_of_lt hlt))).more (Ok (Nat.le_of_lt hlt) (e0.tr h).size)):dR W W.heap.size a.pa a.pc j.rings))
 have HLE:=NW hle
 have HEE:=NW hE
 have HF:=NW (fun(W1:NY) (v:N2) (A:Option Addr) (cap:Nat) (hv:v= .slice A (eP j.rings e.index (qh e)).length cap) (hx:Ext W0 W1) (hrs:∀W,vT c w.heap.size (W1.setRow c (putAt (dy j a) 1 #[v])) W→dR W W.heap.size A cap (eP j.rings e.index (qh e)))=>(show∃a',jC c w (W1.setRow c (putAt (dy j a) 1 #[v])) {j with rings:=eP j.rings e.index (qh e)} a' from by
  have h1:ei c w (W1.setRow c (putAt (dy j a) 1 #[v])):=(ei.ext (e0.tr hx) hlt).row _
  have h2:=fun W (hA:vT c w.heap.size (W1.setRow c (putAt (dy j a) 1 #[v])) W)=>(hb.below (h1.below.trans hA.1)).more (B':=W.heap.size) (by have:=h1.below.size;have:=hA.1.size;omega)
  subst hv
  refine⟨{a with pa:=A,pc:=cap},h1,setRow_heap ((hc.ext (e0.tr hx))) _,fun W hA=> ?_⟩
  have h3:=h2 W hA
  exact⟨hrs W hA,h3.u,h3.o,h3.z,h3.b,h3.l,h3.s⟩))
 obtain⟨i0,hi0,hz0,hz1,hz2⟩:=info_parts Bu
 have I0:=NW hi0
 have I1:=NW hz0
 have I2:=NW hz1
 have I3:=NW hz2
 have HBl:=NW (fun(W1:NY) (h:Ext W0 W1)=>(ei.ext (e0.tr h) hlt:ei c w W1))
 have hr1:=hb.p.1
 have hr2:=hb.p.2.1
 unfold Ol at hr2
 have z1':=fun W (h:Ext W0 W)=>(HZ.ext h).cell 1
 have k1:=hJ.cell 1
 have HN:=NW hW0
 have q1:(((w.alloc (.cells (aG e g) 50)).alloc (.cells #[.slice N0 0 0] 24)).setCell ⟨(w.alloc (.cells (aG e g) 50)).heap.size,0,N0⟩ (.slice N0 0 0)).cell? ⟨c,1,N0⟩=(dy j a)[1]?:=by rw[hW0];exact(HJ.out.ext (((Below.refl _ _).alloc (NZ _) _).setCell (NZ _) _)).cell 1
 clear hc hb hJ HZ e0 h0 hE hi0 hz0 hz1 hz2 hn hle
 subst hW0
 go_enter func69,ntmps69
 go_wp2_with fail
 have HS0:=NW (show(w.alloc (.cells (aG e g) 50)).heap.size=w.heap.size+1 by simp)
 obtain⟨W0,hW0⟩:∃W0,w.alloc (.cells (aG e g) 50)=W0:=⟨_,rfl⟩
 rw[hW0] at HJ HE0 HZ' HS0
 simp only[hW0] at HR HF HBl z1'⊢
 clear hW0 HN q1 k1 z1
 obtain⟨pa,hpa⟩:∃x,a.pa=x:=⟨_,rfl⟩
 simp only[hpa] at HR⊢
 clear hpa
 have HPB:=NW (show W0.heap.size≤w.heap.size+1 by rw[HS0.out];exact NZ _)
 go_loopw [5,7,22] (fun at_ f_ i wr=>∃(k:Nat) (z:Int) (f:Bool),k≤j.rings.length∧i= .int .i64 (k:Int)∧at_= .int .i64 z∧f_= .bool f∧tB j.rings e.index k=(z,f)∧Nu W0 (w.heap.size+1) j.rings e.index (qh e) k wr) (fun _ _ i _=>((j.rings.length:Int)-Oh i).toNat)
 case atStart=>exact⟨0,_,_,Ot,rfl,rfl,rfl,rfl,(Below.refl _ _).alloc (NZ _) _,_,[],Bx.at_ HS0.out,⟨rfl,.inl ⟨rfl,rfl⟩⟩,rfl,fun i hi=>absurd hi Ot⟩
 case round=>
  obtain⟨k,z,f,hk,rfl,rfl,rfl,hzf,hx,v,vals,hbx,ho,hvl,hvr⟩:=hrel
  by_cases hlt2:k<j.rings.length
  ·obtain⟨b,off,rfl,hB,hcell⟩:=(HR.out wr hx).2.2 Ot
   obtain⟨Ai,ci,c1,hsl⟩:=hcell k hlt2
   have hd:=HLE.out k
   have hpos:=HPOS.out k
   obtain⟨ring,hring⟩:∃r,j.rings.getD k []=r:=⟨_,rfl⟩
   have hA1:tB j.rings e.index (k+1)=(Oe.wrap (z-(ring.length:Int)),f||(!f&&decide (z<(ring.length:Int)))):=by simp only[tB];rw[hzf,hring]
   have hRG:eE j.rings e.index (qh e) k=if !f&&decide (z<(ring.length:Int)) then ring.set z.toNat (qh e) else ring:=by unfold eE;rw[hzf,hring]
   rw[hring] at c1 hsl hd
   rw[hzf] at hpos
   have KC:=Iq wr Ai ci (ak ring) hsl (cL _) (JV _) (by rw[N9];omega)
   rw[N9] at KC
   have KC:=NW KC
   have HX:=NW hx
   have HBX:=NW hbx
   have HO:=NW ho
   have HVL:=NW hvl
   have HVR:=NW hvr
   have hbz:=hbx.cell
   clear hx hbx ho hvl hvr hcell hsl hring hzf
   cases f with
   |true=>
    have HA1:=NW hA1
    have HRG:=NW (hRG.trans (by rw[Bool.not_true,Bool.false_and];rfl):eE j.rings e.index (qh e) k=ring)
    clear hA1 hRG hpos
    go_wp2_with(first
     |(refine wpList_append_own _ rfl _ _ 22 rfl W0.heap.size 73 i0 (.slice N0 0 0) 1 24 underlying22 I0.out I1.out I2.out I3.out rfl Ov _ _ _ rfl HO2.out ⟨W1.heap.size,0,N0⟩ 1 1 [.slice A1 ring.length c1] rfl rfl (NY.news_of_block (cs:=#[.slice A1 ring.length c1]) (t:=73) (fr:=(0,0)) NB.out) PI OE Ot (Ok HX.out.size HW2.out.size) ?_;intro v' w2 hown hgrow _;have HOW:=NW hown;have HGR:=NW hgrow;obtain⟨A3,n3,c3,hv3⟩:=lW.of hown;subst hv3;have b3:=((HBX.out.below HW2.out HBX.out.lt).grown HO2.out hgrow Ov).cell;have f3:=((HBX.out.below HW2.out HBX.out.lt).grown HO2.out hgrow Ov).frozen;clear hown hgrow)
     |(go_at_call 126;go_must(refine KC.out.mono ?_);rintro e W1 ⟨v1,rfl,ho1,hX1⟩;obtain⟨A1,c1,hv1,_⟩:=aS ho1 (N9 _) (cL ring);subst hv1;have b1:=(HBX.out.below hX1 HBX.out.lt).cell;have HO1:=NW ho1;have HW2:=NW (hX1.tr ((Below.refl _ _).alloc (NZ _) (.cells #[.slice A1 ring.length c1] 73)));have b2:=(HBX.out.below HW2.out HBX.out.lt).cell;have HO2:=NW (bB HO.out HW2.out);have NB:=NW (Bx.new W1 73 (.slice A1 ring.length c1));have HV1:=NW (dZ (bB ho1 ((Below.refl _ _).alloc (NZ _) (.cells #[.slice A1 ring.length c1] 73))) HX.out.size);clear ho1 hX1))
    go_round
    case rel=>exact⟨k+1,_,_,Ot,by go_num,rfl,rfl,HA1.out.trans (by first|rfl|simp[IntWalk.i64_left]),tK HX.out HBX.out HO.out HVL.out HVR.out HW2.out (by rw[HRG.out];exact HV1.out) HOW.out HGR.out HPB.out⟩
    case measure=>simp[Oh];omega
   |false=>
    by_cases hz:z<(ring.length:Int)
    ·obtain⟨p1,p2⟩:=hpos rfl
     have t1:decide (z<(ring.length:Int))=Oc:=decide_eq_true hz
     rw[t1] at hA1 hRG
     dsimp only at p1
     obtain⟨m,rfl⟩:∃m:Nat,z=(m:Int):=⟨z.toNat,Ot⟩
     have HML:=NW (show m<ring.length by omega)
     rw[show Oe.wrap ((m:Int)-(ring.length:Int))=(m:Int)-(ring.length:Int) from Om _ Ot] at hA1
     have HA1:=NW hA1
     have HRG:=NW (hRG.trans OR:eE j.rings e.index (qh e) k=ring.set m (qh e))
     clear hA1 hRG hpos p2
     go_wp2_with(first
      |(refine wpList_append_own _ rfl _ _ 22 rfl W0.heap.size 73 i0 (.slice N0 0 0) 1 24 underlying22 I0.out I1.out I2.out I3.out rfl Ov _ _ _ rfl HO2.out ⟨W1.heap.size,0,N0⟩ 1 1 [.slice (N3 ⟨gg,0,N0⟩) ring.length cp] rfl rfl (NY.news_of_block (cs:=#[.slice (N3 ⟨gg,0,N0⟩) ring.length cp]) (t:=73) (fr:=(0,0)) NB.out) PI OE Ot (Ok HX.out.size HW2.out.size) ?_;intro v' w2 hown hgrow _;have HOW:=NW hown;have HGR:=NW hgrow;obtain⟨A3,n3,c3,hv3⟩:=lW.of hown;subst hv3;have b3:=((HBX.out.below HW2.out HBX.out.lt).grown HO2.out hgrow Ov).cell;have f3:=((HBX.out.below HW2.out HBX.out.lt).grown HO2.out hgrow Ov).frozen;clear hown hgrow)
      |(refine cC rfl 36 _ _ rfl _ _ _ rfl rfl 36 _ HH1.out Ou HS.out Ou ?_;have hW:=ah (n:=gg) HX1.out HGB.out (putAt cur (m*7) #[.int .i64 e.sx,.int .i64 e.sy,.int .i64 e.srise,.int .i64 e.srun,.bool e.gable,.int .i64 e.splate,.int .i64 e.sover]);have b1:=(HBX.out.below hW HBX.out.lt).cell;have HW2:=NW (Ext.tr hW ((Below.refl _ _).alloc (NZ _) (.cells #[(.slice (N3 ⟨gg,0,N0⟩) ring.length cp)] 73)));have b2:=(HBX.out.below HW2.out HBX.out.lt).cell;have HO2:=NW (bB HO.out HW2.out);have NB:=NW (Bx.at_ (W:=(W1.setRow gg (putAt cur (m*7) #[.int .i64 e.sx,.int .i64 e.sy,.int .i64 e.srise,.int .i64 e.srun,.bool e.gable,.int .i64 e.splate,.int .i64 e.sover]))) (t:=73) (v:= .slice (N3 ⟨gg,0,N0⟩) ring.length cp) (n:=W1.heap.size) Ow);have HV1:=NW (bB (je (k:=7) (x:=jF (qh e)) (Ok HX.out.size HGB.out) HH1.out HQ1.out HQ2.out HQ3.out HQ4.out (N9 _) (cL ring) rfl HML.out) ((Below.refl _ _).alloc (NZ _) (.cells #[(.slice (N3 ⟨gg,0,N0⟩) ring.length cp)] 73)));clear hW)
      |(go_at_call 126;go_must(refine KC.out.mono ?_);rintro e W1 ⟨v1,rfl,ho1,hX1⟩;obtain⟨gg,cp,cur,rfl,hgb,hh,q1,q2,q3,q4⟩:=iF ho1 Ot;have HH1:=NW hh;have HQ1:=NW q1;have HQ2:=NW q2;have HQ3:=NW q3;have HQ4:=NW q4;have HGB:=NW hgb;have HX1:=NW hX1;have HS:=NW (show m*7+7≤cur.size by rw[q3];omega);have zz:=fun i=>(HZ'.out.ext (HX.out.tr hX1)).cell i;clear ho1 hX1 hh q1 q2 q3 q4 hgb))
     go_round
     case rel=>exact⟨k+1,_,_,Ot,by go_num,rfl,rfl,HA1.out.trans (by first|rfl|simp[IntWalk.i64_left]),tK HX.out HBX.out HO.out HVL.out HVR.out HW2.out (by rw[HRG.out,List.length_set,show ak (ring.set m (qh e))=(ak ring).set m (jF (qh e)) from List.map_set ..];exact HV1.out) HOW.out HGR.out HPB.out⟩
     case measure=>simp[Oh];omega
    ·have t1:decide (z<(ring.length:Int))=N1:=decide_eq_false hz
     rw[t1] at hA1 hRG
     have HA1:=NW hA1
     have HRG:=NW (hRG.trans OR:eE j.rings e.index (qh e) k=ring)
     clear hA1 hRG hpos
     go_wp2_with(first
      |(refine wpList_append_own _ rfl _ _ 22 rfl W0.heap.size 73 i0 (.slice N0 0 0) 1 24 underlying22 I0.out I1.out I2.out I3.out rfl Ov _ _ _ rfl HO2.out ⟨W1.heap.size,0,N0⟩ 1 1 [.slice A1 ring.length c1] rfl rfl (NY.news_of_block (cs:=#[.slice A1 ring.length c1]) (t:=73) (fr:=(0,0)) NB.out) PI OE Ot (Ok HX.out.size HW2.out.size) ?_;intro v' w2 hown hgrow _;have HOW:=NW hown;have HGR:=NW hgrow;obtain⟨A3,n3,c3,hv3⟩:=lW.of hown;subst hv3;have b3:=((HBX.out.below HW2.out HBX.out.lt).grown HO2.out hgrow Ov).cell;have f3:=((HBX.out.below HW2.out HBX.out.lt).grown HO2.out hgrow Ov).frozen;clear hown hgrow)
      |(go_at_call 126;go_must(refine KC.out.mono ?_);rintro e W1 ⟨v1,rfl,ho1,hX1⟩;obtain⟨A1,c1,hv1,_⟩:=aS ho1 (N9 _) (cL ring);subst hv1;have b1:=(HBX.out.below hX1 HBX.out.lt).cell;have HO1:=NW ho1;have HW2:=NW (hX1.tr ((Below.refl _ _).alloc (NZ _) (.cells #[.slice A1 ring.length c1] 73)));have b2:=(HBX.out.below HW2.out HBX.out.lt).cell;have HO2:=NW (bB HO.out HW2.out);have NB:=NW (Bx.new W1 73 (.slice A1 ring.length c1));have HV1:=NW (dZ (bB ho1 ((Below.refl _ _).alloc (NZ _) (.cells #[.slice A1 ring.length c1] 73))) HX.out.size);clear ho1 hX1))
     go_round
     case rel=>exact⟨k+1,_,_,Ot,by go_num,rfl,rfl,HA1.out.trans (by first|rfl|simp[IntWalk.i64_left]),tK HX.out HBX.out HO.out HVL.out HVR.out HW2.out (by rw[HRG.out];exact HV1.out) HOW.out HGR.out HPB.out⟩
     case measure=>simp[Oh];omega
  ·obtain rfl:k=j.rings.length:=Ot
   have hEE:=HEE.out
   rw[hzf] at hEE
   have HX:=NW hx
   have hbz:=hbx.cell
   cases f with
   |false=>
    have HE6:=NW (hEE.trans OR:kF j.rings e.index=6)
    clear hbx ho hvl hvr hx hzf hEE
    go_wp2
    go_ret
    exact⟨by rw[HE6.out];rfl,HBl.out _ HX.out,fun h=>absurd (HE6.out.symm.trans h) Ov⟩
   |true=>
    have HE6:=NW (hEE.trans OR:kF j.rings e.index=0)
    have HBX:=NW hbx
    have HO:=NW ho
    have HVL:=NW hvl
    have HVR:=NW hvr
    have HJ2:=NW (HJ.out.ext hx)
    obtain⟨A1,n1,c1,hv⟩:=lW.of ho
    subst hv
    clear hbx ho hvl hvr hx hzf hEE
    go_wp2_with(refine cC rfl 24 _ _ rfl _ _ _ rfl rfl 34 _ HJ2.out Ou (Nat.le_of_ble_eq_true Ou) Ou ?_)
    go_ret
    have ho2:=HO.out
    have hr2:∀i,i<(eP j.rings e.index (qh e)).length→wr.ownsRow W0.heap.size 36 7 (vals.getD i N7) ((eP j.rings e.index (qh e)).getD i []).length (ak ((eP j.rings e.index (qh e)).getD i [])).flatten:=by
     intro i hi
     rw[km] at hi
     rw[vM _ _ _ hi]
     exact HVR.out i hi
    rw[←km j.rings e.index (qh e)] at ho2
    obtain⟨A2,cap2,hv2,_⟩:=rg_of ho2 (by rw[HVL.out,km]) hr2
    have hrg:∀W,vT c w.heap.size (wr.setRow c (putAt (dy j a) 1 #[.slice A1 n1 c1])) W→dR W W.heap.size A2 cap2 (eP j.rings e.index (qh e)):=by
     intro W hA
     have hA':vT c W0.heap.size (wr.setRow c (putAt (dy j a) 1 #[.slice A1 n1 c1])) W:=⟨hA.1,fun b h1 h2=>hA.2 b h1 (Ok HE0.out.size h2)⟩
     have hfar:∀{V:N2} {t:Oo} {q m:Nat} {xs:List N2},wr.ownsRow W0.heap.size t q V m xs→W.ownsRow W0.heap.size t q V m xs:=fun h=>ia (Fi h (.inr (fun e=>by have:=(aE h c e).1;have:=HE0.out.size;omega)) _) hA'
     obtain⟨A3,cap3,hv3,hrg3⟩:=rg_of (hfar ho2) (by rw[HVL.out,km]) (fun i hi=>hfar (hr2 i hi))
     obtain⟨rfl,rfl⟩:A2=A3∧cap2=cap3:=by rw[hv2] at hv3;injection hv3 with h1 h2 h3;exact⟨h1,h3⟩
     exact hrg3
    exact⟨by rw[HE6.out];rfl,(HBl.out _ HX.out).row _,fun _=>HF.out wr _ A2 cap2 hv2 HX.out hrg⟩
end
section
open Kp
def dh(n:Nat)(i:Int):Int:=if 0≤i∧i<(n:Int) then 0 else 6
theorem kc{t s:Oo}{z:N2}{k:Nat}{i0:TypeInfo}(U:prog.underlying s=N3 (.slice t))(hi:prog.info? t=N3 i0)(hz0:i0.zero=N3 z)(hk:z.cells.size=k)(hz:z.cells.all (·.oneCell')=Oc){w:NY}{g n cap m j:Nat}{cur:Array N2}{rows:List (List N2)}
  (hh:w.heap[g]?=N3 (.cells cur t (0,0)))(h1:n≤cap)(h3:cur.size=cap*k)(h4:cur.toList.take (n*k)=rows.flatten)(hn:rows.length=n)(hw:cG k rows)(ho:gZ rows)(hm:m<n)(hj:j=m+1):
  ∃news A W1 D,(if cap=j then(N3 ⟨g,0,N0⟩:Option Addr) else N3 ⟨g,j*k,N0⟩)=N3 A∧Hid (news.length=(n-j)*k)∧Hid (∀t u,news[t]?=N3 u→w.drew.cell? (A.add t)=N3 u)∧Hid (∀u∈news,u.oneCell'=Oc)∧
   Hid (∀t,t<news.length→(w.drew.cell? ⟨g,0+m*k+t,N0⟩).isSome=Oc∧w.drew.frozen? ⟨g,0+m*k+t,N0⟩=N1)∧Hid (w.drew.setCells g (0+m*k) news=W1)∧
   (∀ty,(Builtin.clear_ #[s] ty #[.slice (N3 ⟨g,(m+(n-j))*k,N0⟩) (n-(m+(n-j))) (cap-(m+(n-j)))]).run prog W1= .ok (.tuple #[]) (W1.setRow g D))∧
   Hid (On g w W1)∧(∃C,Hid (W1.heap[g]?=N3 (.cells C t (0,0))))∧Hid (D.size=cap*k∧D.toList.take ((n-1)*k)=(rows.eraseIdx m).flatten):=by
 subst hj
 obtain⟨p,rfl⟩:∃p,n=m+1+p:=⟨n-(m+1),Ot⟩
 have e1:m+1+p-(m+1)=p:=Ot
 have e2:m+1+p-(m+p)=1:=Ot
 have e3:m+1+p-1=m+p:=Ot
 have a1:(m+1+p)*k=m*k+k+p*k:=by rw[Nat.add_mul,Nat.add_mul,Nat.one_mul]
 have a2:(m+1)*k=m*k+k:=by rw[Nat.add_mul,Nat.one_mul]
 have a3:(m+p)*k=m*k+p*k:=Nat.add_mul _ _ _
 have hck:(m+1+p)*k≤cap*k:=Nat.mul_le_mul_right _ h1
 obtain⟨news,hnews⟩:∃news,(rows.drop (m+1)).flatten=news:=⟨_,rfl⟩
 have hnl:news.length=p*k:=by rw[←hnews,aM (fun r hr=>hw r (List.mem_of_mem_drop hr)),List.length_drop,hn,e1]
 have hcell:∀i,w.cell? ⟨g,i,N0⟩=cur[i]?:=fun i=>by simp[World.cell?,hh]
 have s2:∀u∈news,u.oneCell'=Oc:=by
  intro u hu
  rw[←hnews] at hu
  obtain⟨r,hr,hur⟩:=List.mem_flatten.1 hu
  exact ho r (List.mem_of_mem_drop hr) u hur
 have hd:=BA (z:=z.cells) h1 h3 h4 hn hw hm hk
 rw[hnews,e3] at hd
 have c1:(putAt cur (m*k) news.toArray).size=cap*k:=by
  unfold putAt
  simp only[List.size_toArray,List.length_append,List.length_take,List.length_drop,Array.length_toList,h3,hnl]
  omega
 have hrow:w.drew.setCells g (0+m*k) news=w.drew.setRow g (putAt cur (m*k) news.toArray):=by
  rw[Nat.zero_add]
  exact uz (t:=t) (w:=w.drew) hh (by rw[hnl,h3];omega) s2
 have hh1:(w.drew.setRow g (putAt cur (m*k) news.toArray)).heap[g]?=N3 (.cells (putAt cur (m*k) news.toArray) t (0,0)):=setRow_heap (w:=w.drew) hh _
 rw[e1,e2,e3]
 refine⟨news,if cap=m+1 then⟨g,0,N0⟩ else⟨g,(m+1)*k,N0⟩,_,_,by split <;>rfl,NW hnl,NW fun t u hu=> ?_,NW s2,NW fun t ht=> ?_,NW hrow,fun ty=>qx _ s t ty z i0 U hi hz0 hz g _ _ _ hh1 (by rw[c1,hk,a3];omega),NW (ah (Below.drew (Below.refl _ _)) (NZ _) _),⟨_,NW hh1⟩,NW (by rw[a3] at hd⊢;exact hd)⟩
 ·by_cases h:cap=m+1
  ·have h0:news.length=0:=by rw[hnl,show p=0 by omega,Nat.zero_mul]
   rw[List.length_eq_zero_iff.1 h0] at hu
   simp at hu
  ·have ht:t<news.length:=(List.getElem?_eq_some_iff.1 hu).1
   rw[←hnews,←gG hw Ot,List.getElem?_drop,←h4,List.getElem?_take,if_pos (by rw[hnl] at ht;omega)] at hu
   rw[if_neg h,Addr.add_lit]
   show w.cell? _=_
   rw[hcell]
   simpa using hu
 ·rw[hnl] at ht
  refine⟨?_,?_⟩
  ·show(w.cell? ⟨g,0+m*k+t,N0⟩).isSome=Oc
   rw[hcell]
   simp
   omega
  ·show w.frozen? ⟨g,0+m*k+t,N0⟩=N1
   simp[World.frozen?,hh]
def Cy(f:FuncId)(t:Oo)(k:Nat):Prop:=∀(w:NY) (g n cap m j:Nat) (cur:Array N2) (rows:List (List N2)),w.heap[g]?=N3 (.cells cur t (0,0))→n≤cap→cap≤Ol→cur.size=cap*k→cur.toList.take (n*k)=rows.flatten→
  rows.length=n→cG k rows→gZ rows→m<n→j=m+1→n≤1000000→
  Of prog f #[.slice (N3 ⟨g,0,N0⟩) n cap,.int .i64 (m:Int),.int .i64 (j:Int)] w fun e w'=>e= .returned (.slice (N3 ⟨g,0,N0⟩) (n-1) cap)∧On g w w'∧
   ∃cur',w'.heap[g]?=N3 (.cells cur' t (0,0))∧cur'.size=cap*k∧cur'.toList.take ((n-1)*k)=(rows.eraseIdx m).flatten
theorem iQ{p:Prop}(h:p:=by
  try simp only[Nat.mul_one] at hA hcl
  unfold Ol at h2
  have hjc:j≤cap:=Ot
  have hmc:m≤cap:=Ot
  have hlt:m<j:=Ot
  have hjn:j≤n:=Ot
  have heq:((m:Int)==(j:Int))=N1:=beq_eq_false_iff_ne.2 Ot
  have HF:=NW (show m+(n-j)=n-1 by omega)
  have mixed:prog.follows .mixedOrders=Oc:=Ou
  clear hj U hi hz0 hz1 hz2 h3 h4 hh ho hw hn
  go_wp2_with fail
  go_region_law_o(refine AR.out _ _ _ _ _ _ _ rfl rfl g 0 m cap O8 A (n-j) (cap-j) news O8 s1.out s0.out s2.out Ot s3.out ?_;rw[HW.out])
  go_wp2
  go_ret
  exact⟨PC,ah HB.out (NZ _) _,_,setRow_heap HH.out _,HD.out⟩):p:=h
def Bk(f:FuncId)(t:Oo)(k:Nat):Prop:=∀(w:NY) (A:Option Addr) (cap:Nat) (rows:List (List N2)) (i:Int),bC k w w.heap.size A cap rows→cG k rows→gZ rows→rows.length≤1000000→
  Of prog f #[.slice A rows.length cap,.int .i64 i] w fun e w'=>∃v,lW v∧e= .returned (.tuple #[v,.int .i64 (dh rows.length i)])∧(dh rows.length i=0→w'.ownsRow w.heap.size t k v (rows.length-1) (rows.eraseIdx i.toNat).flatten)∧Ext w w'
theorem iH{p:Prop}(h:p:=by
  by_cases hi:0≤i∧i<(rows.length:Int)
  ·have t1:decide (i<0)=N1:=decide_eq_false Ot
   have t2:decide (i≥(rows.length:Int))=N1:=decide_eq_false Ot
   rw[show dh rows.length i=0 from if_pos hi]
   obtain⟨m,rfl⟩:∃m:Nat,i=(m:Int):=⟨i.toNat,Ot⟩
   have hm:m<rows.length:=Ot
   have HW:=NW hw
   have H1:=NW h1
   clear hi hr hw h1
   go_wp2_with(first
    |(refine(KD.out W1 g rows.length cp m (m+1) cur rows HH.out q1 q2 HQ.out HF.out rfl HW.out H1.out hm rfl hlen).mono ?_;rintro e W2 ⟨rfl,hb2,cur2,hh2,hs2,ht2⟩;have HX2:=NW (HX.out.trans (hb2.mono HB.out));have HH2:=NW hh2;have HS2:=NW hs2;have HT2:=NW ht2;clear hb2 hh2 hs2 ht2)
    |(refine KC.out.mono ?_;rintro e W1 ⟨v,rfl,ho,hX⟩;obtain⟨g,cp,cur,rfl,hb,hh,q1,q2,q3,q4⟩:=iF ho Ot;have HH:=NW hh;have HQ:=NW q3;have HF:=NW q4;have HX:=NW hX;have HB:=NW hb;clear ho hh q3 q4 hX hb))
   go_ret2
   refine⟨_,⟨_,_,_,rfl⟩,rfl,⟨?_,.inr ⟨g,cp,cur2,rfl,HB.out,HH2.out,Ot,q2,HS2.out,HT2.out⟩⟩,HX2.out⟩
   show(rows.eraseIdx m).flatten.length=_
   rw[aM (yN HW.out m),List.length_eraseIdx,if_pos hm]
  ·rw[show dh rows.length i=6 from if_neg hi]
   clear hr
   by_cases hi0:i<0
   ·have t1:decide (i<0)=Oc:=decide_eq_true hi0
    clear hi hi0
    go_wp2
    go_ret2
    exact⟨_,⟨_,_,_,rfl⟩,rfl,fun h=>Ox,Ext.an _⟩
   ·have t1:decide (i<0)=N1:=decide_eq_false hi0
    have t2:decide (i≥(rows.length:Int))=Oc:=decide_eq_true Ot
    clear hi hi0
    go_wp2
    go_ret2
    exact⟨_,⟨_,_,_,rfl⟩,rfl,fun h=>Ox,Ext.an _⟩):p:=h
theorem F7:Cy 196 41 3:=by
 intro w g n cap m j cur rows hh h1 h2 h3 h4 hn hw ho hm hj hlen
 obtain⟨i0,hi,hz0,hz1,hz2⟩:=info_parts pn
 have U:=underlying27
 obtain⟨news,A,W1,D,hA,s1,s0,s2,s3,HW,hcl,HB,⟨C,HH⟩,HD⟩:=kc (k:=3) U hi hz0 rfl Ou hh h1 h3 h4 hn hw ho hm hj
 have AR:=NW (fun ops o a w K Q E hg hop=>@step_append_room prog ops o a w K Q E hg (.tmp 22) (.tmp 25) 27 hop 41 i0 3 U hi hz1)
 go_enter func196,ntmps196
 exact iQ
theorem Gd:Bk 142 41 3:=by
 intro w A cap rows i hr hw h1 hlen
 have KC:=NW (zR w A cap rows hr hw h1 hlen)
 have KD:=NW F7
 go_enter func142,ntmps142
 exact iH
theorem Dy:Cy 195 39 5:=by
 intro w g n cap m j cur rows hh h1 h2 h3 h4 hn hw ho hm hj hlen
 obtain⟨i0,hi,hz0,hz1,hz2⟩:=info_parts oV
 have U:=underlying26
 obtain⟨news,A,W1,D,hA,s1,s0,s2,s3,HW,hcl,HB,⟨C,HH⟩,HD⟩:=kc (k:=5) U hi hz0 rfl Ou hh h1 h3 h4 hn hw ho hm hj
 have AR:=NW (fun ops o a w K Q E hg hop=>@step_append_room prog ops o a w K Q E hg (.tmp 22) (.tmp 25) 26 hop 39 i0 5 U hi hz1)
 go_enter func195,ntmps195
 exact iQ
theorem D8:Bk 141 39 5:=by
 intro w A cap rows i hr hw h1 hlen
 have KC:=NW (AG w A cap rows hr hw h1 hlen)
 have KD:=NW Dy
 go_enter func141,ntmps141
 exact iH
theorem Dn:Cy 194 3 1:=by
 intro w g n cap m j cur rows hh h1 h2 h3 h4 hn hw ho hm hj hlen
 obtain⟨i0,hi,hz0,hz1,hz2⟩:=info_parts jQ
 have U:=underlying25
 obtain⟨news,A,W1,D,hA,s1,s0,s2,s3,HW,hcl,HB,⟨C,HH⟩,HD⟩:=kc (k:=1) U hi hz0 rfl Ou hh h1 h3 h4 hn hw ho hm hj
 have AR:=NW (fun ops o a w K Q E hg hop=>@step_append_room prog ops o a w K Q E hg (.tmp 22) (.tmp 25) 25 hop 3 i0 1 U hi hz1)
 go_enter func194,ntmps194
 exact iQ
theorem DY:Bk 140 3 1:=by
 intro w A cap rows i hr hw h1 hlen
 have KC:=NW (An w A cap rows hr hw h1 hlen)
 have KD:=NW Dn
 go_enter func140,ntmps140
 exact iH
theorem Dv:Cy 197 44 6:=by
 intro w g n cap m j cur rows hh h1 h2 h3 h4 hn hw ho hm hj hlen
 obtain⟨i0,hi,hz0,hz1,hz2⟩:=info_parts oS
 have U:=underlying28
 obtain⟨news,A,W1,D,hA,s1,s0,s2,s3,HW,hcl,HB,⟨C,HH⟩,HD⟩:=kc (k:=6) U hi hz0 rfl Ou hh h1 h3 h4 hn hw ho hm hj
 have AR:=NW (fun ops o a w K Q E hg hop=>@step_append_room prog ops o a w K Q E hg (.tmp 22) (.tmp 25) 28 hop 44 i0 6 U hi hz1)
 go_enter func197,ntmps197
 exact iQ
theorem DX:Bk 143 44 6:=by
 intro w A cap rows i hr hw h1 hlen
 have KC:=NW (Ap w A cap rows hr hw h1 hlen)
 have KD:=NW Dv
 go_enter func143,ntmps143
 exact iH
theorem Fx:Cy 198 46 3:=by
 intro w g n cap m j cur rows hh h1 h2 h3 h4 hn hw ho hm hj hlen
 obtain⟨i0,hi,hz0,hz1,hz2⟩:=info_parts pQ
 have U:=underlying31
 obtain⟨news,A,W1,D,hA,s1,s0,s2,s3,HW,hcl,HB,⟨C,HH⟩,HD⟩:=kc (k:=3) U hi hz0 rfl Ou hh h1 h3 h4 hn hw ho hm hj
 have AR:=NW (fun ops o a w K Q E hg hop=>@step_append_room prog ops o a w K Q E hg (.tmp 22) (.tmp 25) 31 hop 46 i0 3 U hi hz1)
 go_enter func198,ntmps198
 exact iQ
theorem FX:Bk 144 46 3:=by
 intro w A cap rows i hr hw h1 hlen
 have KC:=NW (zZ w A cap rows hr hw h1 hlen)
 have KD:=NW Fx
 go_enter func144,ntmps144
 exact iH
theorem DS:Cy 199 48 5:=by
 intro w g n cap m j cur rows hh h1 h2 h3 h4 hn hw ho hm hj hlen
 obtain⟨i0,hi,hz0,hz1,hz2⟩:=info_parts jN
 have U:=underlying32
 obtain⟨news,A,W1,D,hA,s1,s0,s2,s3,HW,hcl,HB,⟨C,HH⟩,HD⟩:=kc (k:=5) U hi hz0 rfl Ou hh h1 h3 h4 hn hw ho hm hj
 have AR:=NW (fun ops o a w K Q E hg hop=>@step_append_room prog ops o a w K Q E hg (.tmp 22) (.tmp 25) 32 hop 48 i0 5 U hi hz1)
 go_enter func199,ntmps199
 exact iQ
theorem Eb:Bk 145 48 5:=by
 intro w A cap rows i hr hw h1 hlen
 have KC:=NW (zT w A cap rows hr hw h1 hlen)
 have KD:=NW DS
 go_enter func145,ntmps145
 exact iH
end
section
open Kp
theorem dY(w:NY)(dT sT ty elem:Oo)(g o dLen dCap:Nat)(a:Addr)(sLen sCap:Nat)(cur:Array N2)(t:Oo)(cs:List N2)(k p:Nat)
  (hu:prog.underlying dT=N3 (.slice elem))(hs:(prog.info? elem).map (·.size)=N3 k)
  (hg:w.heap[g]?=N3 (.cells cur t (0,0)))(hp:Nat.min sLen dLen=p)(hn:cs.length=p*k)
  (hsrc:∀j v,cs[j]?=N3 v→w.cell? (a.add j)=N3 v)(hfit:o+cs.length≤cur.size)(h1:∀v∈cs,v.oneCell'=Oc):
  (Builtin.copy_ #[dT,sT] ty #[.slice (N3 ⟨g,o,N0⟩) dLen dCap,.slice (N3 a) sLen sCap]).run prog w=
   .ok (goInt p) (w.setRow g (putAt cur o cs.toArray)):=by
 have hl:=run_loadCells_list (P:=prog) w a cs hsrc
 have hst:=run_storeCells_at (P:=prog) g o t cs 0 cur w hg (by simpa using hfit) h1
 cases hq:prog.info? elem with
 |none=>simp[hq] at hs
 |some i=>
  have hi:i.size=k:=by simpa[hq] using hs
  have hl2:(loadCells a (p*k)).run prog w= .ok cs.toArray w:=by rw[←hn];exact hl
  unfold putAt
  simp[Builtin.copy_,run_underlying hu,Builtin.lenOf,Builtin.firstCells,sizeOf,typeInfo,hq,hi,hp,hl2] at hst⊢
  simp[hst]
def cF{α:Type}(l:List α)(i:Nat)(x:α):List α:=l.take i++x::l.drop i
theorem mj{k:Nat}{rows:List (List N2)}(hw:cG k rows){x:List N2}(hx:x.length=k)(i:Nat):cG k (cF rows i x):=by
 intro r hr
 unfold cF at hr
 rcases List.mem_append.1 hr with h|h
 ·exact hw r (List.mem_of_mem_take h)
 ·rcases List.mem_cons.1 h with rfl|h
  ·exact hx
  ·exact hw r (List.mem_of_mem_drop h)
theorem iP{α:Type}(l:List α)(i:Nat)(x:α)(hi:i≤l.length):(cF l i x).length=l.length+1:=by
 unfold cF
 simp only[List.length_append,List.length_take,List.length_cons,List.length_drop]
 omega
theorem dU{cur X:Array N2}{a:Nat}(h:a+X.size≤cur.size):(putAt cur a X).size=cur.size:=by
 unfold putAt
 simp only[List.size_toArray,List.length_append,List.length_take,List.length_drop,Array.length_toList]
 omega
theorem nC{cur X B:Array N2}{a b:Nat}(hab:a+X.size=b)(hb:b+B.size≤cur.size):
  (putAt (putAt cur b B) a X).toList=cur.toList.take a++X.toList++(B.toList++cur.toList.drop (b+B.size)):=by
 have hl:cur.toList.length=cur.size:=Array.length_toList
 unfold putAt
 simp only[Nat.add_zero,List.append_assoc,Array.length_toList]
 rw[hab,List.take_append_of_le_length (by rw[List.length_take];omega),List.take_take,Nat.min_eq_left Ot,List.drop_left' (by rw[List.length_take];omega)]
theorem pH{cur X B:Array N2}{a b:Nat}(hab:a+X.size=b)(hb:b+B.size≤cur.size):
  (putAt (putAt cur a X) b B).toList=cur.toList.take a++X.toList++(B.toList++cur.toList.drop (b+B.size)):=by
 have hl:cur.toList.length=cur.size:=Array.length_toList
 have e1:(cur.toList.take a++X.toList).length=b:=by simp only[List.length_append,List.length_take,Array.length_toList];omega
 unfold putAt
 simp only[Nat.add_zero,Array.length_toList]
 rw[List.take_left' e1,←List.drop_drop,List.drop_left' e1,hab,List.drop_drop,List.append_assoc,List.append_assoc]
theorem Di{k:Nat}{rows:List (List N2)}(hw:cG k rows){x:List N2}{i:Nat}(hi:i≤rows.length):
  (cF rows i x).flatten=rows.flatten.take (i*k)++x++(rows.drop i).flatten:=by
 unfold cF
 rw[List.flatten_append,List.flatten_cons,mN hw hi,List.append_assoc]
theorem ke{k n i N:Nat}{cur:Array N2}{rows:List (List N2)}{x:List N2}(hw:cG k rows)(hn:rows.length=n)(hx:x.length=k)(hi:i<n)(h4:cur.toList.take (i*k)=rows.flatten.take (i*k))(hN:(n+1)*k≤cur.size)
  {L:List N2}(hL:L=cur.toList.take (i*k)++x.toArray.toList++((rows.drop i).flatten.toArray.toList++cur.toList.drop N)):L.take ((n+1)*k)=(cF rows i x).flatten:=by
 subst hn
 have hd:(rows.drop i).flatten.length=(rows.length-i)*k:=by rw[aM (fun r hr=>hw r (List.mem_of_mem_drop hr)),List.length_drop]
 obtain⟨p,hp⟩:∃p,rows.length=i+p:=⟨rows.length-i,Ot⟩
 have e1:rows.length-i=p:=Ot
 have e3:(rows.length+1)*k=i*k+k+p*k:=by rw[hp,Nat.add_mul,Nat.add_mul,Nat.one_mul];omega
 rw[e1] at hd
 rw[hL,Di hw (Nat.le_of_lt hi),h4,←List.append_assoc,List.take_left']
 have hF:rows.flatten.length=rows.length*k:=aM hw
 have e4:rows.length*k=i*k+p*k:=by rw[hp,Nat.add_mul]
 simp only[List.length_append,List.length_take,hx,hd,hF]
 omega
end
section
open Kp
theorem Gc(w:NY)(base n m vb vc:Nat)(v:N2)(rows:List (List N2))(x:List N2)(ho:w.ownsRow base 48 5 v n rows.flatten)(hx:x.length=5)(h1x:∀u∈x,u.oneCell'=Oc)(hxb:af w vb 48 x)
  (hm:m=1)(hlen:n≤1000000)(hbw:base≤w.heap.size):
  Of prog 139 #[v,.int .i64 (n:Int),.slice (N3 ⟨vb,0,N0⟩) m vc] w fun e w'=>∃v',e= .returned v'∧w'.ownsRow base 48 5 v' (n+1) (rows++[x]).flatten∧On base w w':=by
 obtain⟨i0,hi,hz0,hz1,hz2⟩:=info_parts jN
 have z1:((m:Int)==0)=N1:=beq_eq_false_iff_ne.2 Ot
 have HM:=NW hm
 have HO:=NW ho
 have HL:=NW (show x.length=m*5 by rw[hx,hm])
 have HN:=NW (NY.news_of_block (cs:=x.toArray) (t:=48) (fr:=(0,0)) hxb)
 have H1:=NW h1x
 have HI:=NW hi
 have I1:=NW hz0
 have I2:=NW hz1
 have I3:=NW hz2
 have hm1:m≤1:=Ot
 have hfin:∀v' (w1:NY),w1.ownsRow base 48 5 v' (n+m) (rows.flatten++x)→w.grownBy w1 v.ownBlock→∃v'',Ending.returned v'= .returned v''∧w1.ownsRow base 48 5 v'' (n+1) (rows++[x]).flatten∧On base w w1:=by
  intro v' w1 hown hgrow
  rw[HM.out] at hown
  refine⟨v',rfl,by simpa using hown,(Below.refl base w).grown hgrow hbw (fun q hq=>(aE HO.out q hq).1)⟩
 have HF:=NW hfin
 clear hfin hm hx h1x hxb hi hz0 hz1 hz2
 obtain⟨_,⟨rfl,rfl⟩|⟨g,cap,cur,rfl,hb,hh,h1,h2,h3,h4⟩⟩:=id ho
 ·clear ho
  go_enter func139,ntmps139
  go_wp2_with(at_builtin;refine wpList_append_own _ rfl _ _ 32 rfl base 48 i0 (.agg #[.int .i64 0,.int .i64 0,.int .i64 0,.int .i64 0,.int .i64 0]) 5 40 underlying32 HI.out I1.out I2.out I3.out rfl Ov _ 0 _ rfl HO.out ⟨vb,0,N0⟩ m vc x rfl HL.out HN.out H1.out OE Ot hbw ?_)
  intro v' w1 hown hgrow hnil
  go_wp2
  go_ret
  exact HF.out v' w1 (by rw[Nat.zero_add];exact hown) hgrow
 ·clear ho hh h3 h4
  unfold Ol at h2
  go_enter func139,ntmps139
  go_wp2_with(at_builtin;refine wpList_append_own _ rfl _ _ 32 rfl base 48 i0 (.agg #[.int .i64 0,.int .i64 0,.int .i64 0,.int .i64 0,.int .i64 0]) 5 40 underlying32 HI.out I1.out I2.out I3.out rfl Ov _ n _ rfl HO.out ⟨vb,0,N0⟩ m vc x rfl HL.out HN.out H1.out OE Ot hbw ?_)
  all_goals
   intro v' w1 hown hgrow hnil
   go_wp2
   go_ret
   exact HF.out v' w1 hown hgrow
theorem zd(w:NY)(base g n cap i m vb vc:Nat)(cur:Array N2)(rows:List (List N2))(x:List N2)(hb:base≤g)(hh:w.heap[g]?=N3 (.cells cur 48 (0,0)))(h2:cap≤Ol)(h3:cur.size=cap*5)(h4:cur.toList.take (n*5)=rows.flatten)
  (hn:rows.length=n)(hw:cG 5 rows)(hone:gZ rows)(hx:x.length=5)(h1x:∀u∈x,u.oneCell'=Oc)(hxb:af w vb 48 x)(hvb:vb≠g)(hm:m=1)(hin:i<n)(hroom:n+m≤cap)(hlen:n≤1000000):
  Of prog 139 #[.slice (N3 ⟨g,0,N0⟩) n cap,.int .i64 (i:Int),.slice (N3 ⟨vb,0,N0⟩) m vc] w fun e w'=>∃v',e= .returned v'∧w'.ownsRow base 48 5 v' (n+1) (cF rows i x).flatten∧On g w w':=by
 obtain⟨i0,hi,hz0,hz1,hz2⟩:=info_parts jN
 unfold Ol at h2
 have z1:((m:Int)==0)=N1:=beq_eq_false_iff_ne.2 Ot
 have z2:((i:Int)==(n:Int))=N1:=beq_eq_false_iff_ne.2 Ot
 have hsz:(prog.info? 48).map (·.size)=N3 5:=by rw[hi];simp[hz1]
 have hso:∀w,(Go.sizeOf 48).run prog w= .ok 5 w:=fun w=>by simp[sizeOf,typeInfo,hi,hz1]
 have hfl:rows.flatten.length=n*5:=by rw[aM hw,hn]
 obtain⟨B,hB⟩:∃B,(rows.drop i).flatten=B:=⟨_,rfl⟩
 have hBl:B.length=(n-i)*5:=OW
 have h1B:∀u∈B,u.oneCell'=Oc:=by
  intro u hu
  rw[←hB] at hu
  obtain⟨r,hr,hur⟩:=List.mem_flatten.1 hu
  exact hone r (List.mem_of_mem_drop hr) u hur
 have hsrc:∀t u,B[t]?=N3 u→w.cell? ⟨g,i*5+t,N0⟩=N3 u:=by
  intro t u hu
  have ht:t<B.length:=(List.getElem?_eq_some_iff.1 hu).1
  rw[←hB,←gG hw Ot,List.getElem?_drop,←h4,List.getElem?_take] at hu
  rw[if_pos (by rw[hBl] at ht;omega)] at hu
  rw[show w.cell? ⟨g,i*5+t,N0⟩=cur[i*5+t]? by simp[World.cell?,hh]]
  simpa using hu
 have hov:∀lb cb,(callFunc 192 #[.slice (N3 ⟨vb,0,N0⟩) m vc,.slice (N3 ⟨g,(i+m)*5,N0⟩) lb cb]).run prog w= .ok (.value (.bool N1)) w:=fun lb cb=>by
  rw[run_callFunc_extern func192 Ou Ou Ou (e:=Extern.SlicesOverlaps.overlaps #[32,32] #[4]) Ou,
   Lib.run_overlaps_apart w 32 4 48 underlying32 5 hso ⟨vb,0,N0⟩ ⟨g,(i+m)*5,N0⟩ m vc lb cb hvb 48 48 x.length cur.size (by unfold af at hxb;simp[World.shape?,hxb]) (by simp[World.shape?,hh]) Ot (hxb.frozen _) (hxb.frozen _)]
  rfl
 have hcp1:∀ty dc sc,(Builtin.copy_ #[32,32] ty #[.slice (N3 ⟨g,(i+m)*5,N0⟩) (n+m-(i+m)) dc,.slice (N3 ⟨g,i*5,N0⟩) (n+m-i) sc]).run prog w.drew= .ok (goInt ((n-i:Nat):Int)) (w.drew.setRow g (putAt cur ((i+m)*5) B.toArray)):=fun ty dc sc=>
  dY w.drew _ _ ty 48 g ((i+m)*5) (n+m-(i+m)) dc ⟨g,i*5,N0⟩ (n+m-i) sc cur 48 B 5 (n-i) underlying32 hsz hh OX hBl
   (fun t u hu=>by rw[Addr.add_lit];exact hsrc t u hu) (by rw[hBl,h3];omega) h1B
 have c1:(putAt cur ((i+m)*5) B.toArray).size=cap*5:=by rw[dU (by simp[hBl,h3];omega),h3]
 obtain⟨W1,hW1⟩:∃W1,w.drew.setRow g (putAt cur ((i+m)*5) B.toArray)=W1:=⟨_,rfl⟩
 rw[hW1] at hcp1
 have hh1:W1.heap[g]?=N3 (.cells (putAt cur ((i+m)*5) B.toArray) 48 (0,0)):=by rw[←hW1];exact setRow_heap (w:=w.drew) hh _
 have hb1:On g w W1:=by rw[←hW1];exact ah (Below.drew (Below.refl _ _)) (NZ _) _
 have hx1:af W1 vb 48 x:=by
  have:(w.drew.setRow g (putAt cur ((i+m)*5) B.toArray)).heap[vb]?=w.heap[vb]?:=by simp only[World.setRow,Array.getElem?_modify];rw[if_neg (Ne.symm hvb)];rfl
  unfold af
  rw[←hW1,this]
  exact hxb
 have hcp2:∀(W:NY),W.heap=W1.heap→∀ty dc,(Builtin.copy_ #[32,32] ty #[.slice (N3 ⟨g,i*5,N0⟩) (n+m-i) dc,.slice (N3 ⟨vb,0,N0⟩) m vc]).run prog W= .ok (goInt m) (W.setRow g (putAt (putAt cur ((i+m)*5) B.toArray) (i*5) x.toArray)):=fun W hW ty dc=>
  dY W _ _ ty 48 g (i*5) (n+m-i) dc ⟨vb,0,N0⟩ m vc _ 48 x 5 m underlying32 hsz (by rw[hW];exact hh1) OX (by rw[hx,hm])
   (fun t u hu=>by rw[Addr.add_lit,Nat.zero_add];exact(World.cell?_of_block (by rw[hW])).trans ((hx1.cell t).trans hu)) (by rw[hx,c1];omega) h1x
 have hc2:(putAt (putAt cur ((i+m)*5) B.toArray) (i*5) x.toArray).size=cap*5:=by rw[dU (by rw[c1];simp[hx];omega),c1]
 have htk:(putAt (putAt cur ((i+m)*5) B.toArray) (i*5) x.toArray).toList.take ((n+1)*5)=(cF rows i x).flatten:=by
  refine ke (cur:=cur) hw hn hx hin ?_ (by rw[h3];omega) (N:=(i+m)*5+B.length) ?_
  ·rw[←h4,List.take_take,Nat.min_eq_left Ot]
  ·rw[nC Pr (by simp only[List.size_toArray,hBl,h3];omega),hB,List.size_toArray]
 have hlenF:(cF rows i x).flatten.length=(n+1)*5:=Pn
 have hroom2:n+1≤cap:=Ot
 have hfin:∀W:NY,W.heap=W1.heap→(On g w W1→On g w W)→∃v',Ending.returned (.slice (N3 ⟨g,0,N0⟩) (n+m) cap)= .returned v'∧(W.setRow g (putAt (putAt cur ((i+m)*5) B.toArray) (i*5) x.toArray)).ownsRow base 48 5 v' (n+1) (cF rows i x).flatten∧On g w (W.setRow g (putAt (putAt cur ((i+m)*5) B.toArray) (i*5) x.toArray)):=by
  intro W hW hbW
  refine⟨_,rfl,⟨hlenF,.inr ⟨g,cap,_,by rw[hm],hb,setRow_heap (by rw[hW];exact hh1) _,hroom2,OE,hc2,htk⟩⟩,ah (hbW hb1) (NZ _) _⟩
 have HF:=NW hfin
 have H1:=NW hcp1
 have H2:=NW hcp2
 have mixed:prog.follows .mixedOrders=Oc:=Ou
 have q1:i≤n:=Ot
 have w1:Oe.wrap ((i:Int)+(m:Int))=(i:Int)+(m:Int):=by rw[IntKind.wrap_i64];omega
 have w2:(0:Int)≤(i:Int)+(m:Int):=Ot
 have w3:((i:Int)+(m:Int)).toNat=i+m:=Ot
 have w4:(i:Int)≤(n:Int)+(m:Int):=Ot
 have q2:¬(cap=i+m):=Ot
 have q3:¬(cap=i):=Ot
 have q4:m≤1:=Ot
 have q5:1≤m:=Ot
 clear hfin hcp1 hcp2 hW1 hh1 hb1 hx1 c1 hc2 htk hlenF hroom2 hm hsrc h1B hBl hB hfl hsz hso h3 h4 hh hxb hx h1x hw hone hn hi hz0 hz1 hz2
 go_enter func139,ntmps139
 go_wp2_with(simp only[hov])
 go_region_law_o(refine step_copy_runI rfl _ _ 32 32 rfl _ _ O8 O8 (H1.out 3 (cap-(i+m)) (cap-i)) ?_)
 have hk2:=H2.out W1 rfl
 go_wp2
 go_ret
 exact HF.out _ rfl (fun h=>h)
theorem Cz(w:NY)(base g n cap i m vb vc:Nat)(cur:Array N2)(rows:List (List N2))(x:List N2)(hbw:base≤w.heap.size)(hh:w.heap[g]?=N3 (.cells cur 48 (0,0)))(h3:cur.size=cap*5)(h4:cur.toList.take (n*5)=rows.flatten)
  (hn:rows.length=n)(hw:cG 5 rows)(hone:gZ rows)(hx:x.length=5)(h1x:∀u∈x,u.oneCell'=Oc)(hxb:af w vb 48 x)(hm:m=1)(hin:i<n)(hnc:n≤cap)(hroom:cap<n+m)(hlen:n≤1000000):
  Of prog 139 #[.slice (N3 ⟨g,0,N0⟩) n cap,.int .i64 (i:Int),.slice (N3 ⟨vb,0,N0⟩) m vc] w fun e w'=>∃v',e= .returned v'∧w'.ownsRow base 48 5 v' (n+1) (cF rows i x).flatten∧On base w w':=by
 obtain⟨i0,hi,hz0,hz1,hz2⟩:=info_parts jN
 have z1:((m:Int)==0)=N1:=beq_eq_false_iff_ne.2 Ot
 have z2:((i:Int)==(n:Int))=N1:=beq_eq_false_iff_ne.2 Ot
 have hsz:(prog.info? 48).map (·.size)=N3 5:=by rw[hi];simp[hz1]
 have hgw:g<w.heap.size:=(Od.1 hh).1
 have hfl:rows.flatten.length=n*5:=by rw[aM hw,hn]
 obtain⟨B,hB⟩:∃B,(rows.drop i).flatten=B:=⟨_,rfl⟩
 have hBl:B.length=(n-i)*5:=OW
 have h1B:∀u∈B,u.oneCell'=Oc:=by
  intro u hu
  rw[←hB] at hu
  obtain⟨r,hr,hur⟩:=List.mem_flatten.1 hu
  exact hone r (List.mem_of_mem_drop hr) u hur
 have hsrc:∀t u,B[t]?=N3 u→w.cell? ⟨g,i*5+t,N0⟩=N3 u:=by
  intro t u hu
  have ht:t<B.length:=(List.getElem?_eq_some_iff.1 hu).1
  rw[←hB,←gG hw Ot,List.getElem?_drop,←h4,List.getElem?_take] at hu
  rw[if_pos (by rw[hBl] at ht;omega)] at hu
  rw[show w.cell? ⟨g,i*5+t,N0⟩=cur[i*5+t]? by simp[World.cell?,hh]]
  simpa using hu
 have hol:(rows.flatten.take (i*5)).length=i*5:=by rw[List.length_take,hfl];omega
 have hold:(Builtin.firstCells i0.size i (.slice (N3 ⟨g,0,N0⟩) i cap)).run prog w.drew= .ok (rows.flatten.take (i*5)).toArray w.drew:=by
  rw[hz1]
  exact run_firstCells_some w.drew 5 i ⟨g,0,N0⟩ i cap (rows.flatten.take (i*5)) hol (fun t u hu=>by
   rw[Addr.add_lit,Nat.zero_add]
   have ht:t<i*5:=by rw[←hol];exact(List.getElem?_eq_some_iff.1 hu).1
   rw[List.getElem?_take,if_pos ht,←h4,List.getElem?_take,if_pos Ot] at hu
   show w.cell? ⟨g,t,N0⟩=N3 u
   rw[show w.cell? ⟨g,t,N0⟩=cur[t]? by simp[World.cell?,hh]]
   simpa using hu)
 have hik:i+(n+m-i)=n+m:=Ot
 have hkk:(n:Int)+(m:Int)-(i:Int)=((n+m-i:Nat):Int):=Ot
 obtain⟨G,hG⟩:∃G,grownCap w (n+m) cap 48=G:=⟨_,rfl⟩
 have hGn:n+m≤G:=by rw[←hG];exact grownCap_ge w _ _ _
 have hG63:G≤Ol:=by rw[←hG];exact grownCap_le_maxLen w (n+m) cap 48 OE
 obtain⟨ROW,hROW⟩:∃ROW:Array N2,(rows.flatten.take (i*5)).toArray++Builtin.zeroCells (Value.cells (.agg #[.int .i64 0,.int .i64 0,.int .i64 0,.int .i64 0,.int .i64 0])) (n+m-i)++Builtin.zeroCells (Value.cells (.agg #[.int .i64 0,.int .i64 0,.int .i64 0,.int .i64 0,.int .i64 0])) (G-(n+m))=ROW:=⟨_,rfl⟩
 have hRl:ROW.size=G*5:=by
  rw[←hROW]
  simp only[Array.size_append,List.size_toArray,hol,Builtin.zeroCells,Array.size_map,Array.size_range]
  show i*5+(n+m-i)*5+(G-(n+m))*5=_
  omega
 have hRt:ROW.toList.take (i*5)=rows.flatten.take (i*5):=by
  rw[←hROW,Array.toList_append,Array.toList_append,List.append_assoc,List.take_left' hol]
 have hrz:∀ty,(Builtin.append_ #[32,3] ty #[.slice (N3 ⟨g,0,N0⟩) i cap,.int .i64 ((n:Int)+(m:Int)-(i:Int))]).run prog w=
   .ok (.slice (N3 ⟨w.heap.size,0,N0⟩) (n+m) G) (w.drew.alloc (.cells ROW 48)):=fun ty=>by
  have h:=Lib.run_append_grow_zeros w 32 3 ty 48 i0 _ .i64 .i64 underlying32 underlying3 hi hz0 (N3 ⟨g,0,N0⟩) i cap _ hold (n+m-i) Ot Ot Ot Ot PQ (by rw[hz2,hik];exact growslice_fits hroom Ot)
  rw[hik,hG] at h
  rw[hkk,←hROW]
  exact h
 obtain⟨W1,hW1⟩:∃W1,w.drew.alloc (.cells ROW 48)=W1:=⟨_,rfl⟩
 rw[hW1] at hrz
 have hh1:W1.heap[w.heap.size]?=N3 (.cells ROW 48 (0,0)):=by rw[←hW1];exact NY.alloc_heap_new w.drew _
 have hb1:On w.heap.size w W1:=by rw[←hW1];exact(Below.drew (Below.refl _ _)).alloc (NZ _) _
 have hx1:af W1 vb 48 x:=hxb.ext hb1
 have hg1:∀t u,w.cell? ⟨g,t,N0⟩=N3 u→W1.cell? ⟨g,t,N0⟩=N3 u:=fun t u h=>(hb1.cell hgw).trans h
 have hcpA:∀ty dc,(Builtin.copy_ #[32,32] ty #[.slice (N3 ⟨w.heap.size,i*5,N0⟩) (n+m-i) dc,.slice (N3 ⟨vb,0,N0⟩) m vc]).run prog W1= .ok (goInt m) (W1.setRow w.heap.size (putAt ROW (i*5) x.toArray)):=fun ty dc=>
  dY W1 _ _ ty 48 w.heap.size (i*5) (n+m-i) dc ⟨vb,0,N0⟩ m vc _ 48 x 5 m underlying32 hsz hh1 OX (by rw[hx,hm])
   (fun t u hu=>by rw[Addr.add_lit,Nat.zero_add];exact(hx1.cell t).trans hu) (by rw[hx,hRl];omega) h1x
 obtain⟨W2,hW2⟩:∃W2,W1.setRow w.heap.size (putAt ROW (i*5) x.toArray)=W2:=⟨_,rfl⟩
 rw[hW2] at hcpA
 have c1:(putAt ROW (i*5) x.toArray).size=G*5:=by rw[dU (by simp only[List.size_toArray,hx,hRl];omega),hRl]
 have hh2:W2.heap[w.heap.size]?=N3 (.cells (putAt ROW (i*5) x.toArray) 48 (0,0)):=by rw[←hW2];exact setRow_heap hh1 _
 have hb2:On w.heap.size w W2:=by rw[←hW2];exact ah hb1 (NZ _) _
 have hcpB:∀ty dc sc,(Builtin.copy_ #[32,32] ty #[.slice (N3 ⟨w.heap.size,(i+m)*5,N0⟩) (n+m-(i+m)) dc,.slice (N3 ⟨g,i*5,N0⟩) (n-i) sc]).run prog W2.drew= .ok (goInt ((n-i:Nat):Int)) (W2.drew.setRow w.heap.size (putAt (putAt ROW (i*5) x.toArray) ((i+m)*5) B.toArray)):=fun ty dc sc=>
  dY W2.drew _ _ ty 48 w.heap.size ((i+m)*5) (n+m-(i+m)) dc ⟨g,i*5,N0⟩ (n-i) sc _ 48 B 5 (n-i) underlying32 hsz hh2 OX hBl
   (fun t u hu=>by rw[Addr.add_lit];exact(hb2.cell hgw).trans (hsrc t u hu)) (by rw[hBl,c1];omega) h1B
 have hc2:(putAt (putAt ROW (i*5) x.toArray) ((i+m)*5) B.toArray).size=G*5:=by rw[dU (by simp only[List.size_toArray,hBl,c1];omega),c1]
 have htk:(putAt (putAt ROW (i*5) x.toArray) ((i+m)*5) B.toArray).toList.take ((n+1)*5)=(cF rows i x).flatten:=by
  refine ke (cur:=ROW) hw hn hx hin hRt (by rw[hRl];omega) (N:=(i+m)*5+B.length) ?_
  rw[pH Pr (by simp only[List.size_toArray,hBl,hRl];omega),hB,List.size_toArray]
 have hlenF:(cF rows i x).flatten.length=(n+1)*5:=Pn
 have hG1:n+1≤G:=Ot
 have hfin:∃v',Ending.returned (.slice (N3 ⟨w.heap.size,0,N0⟩) (n+m) G)= .returned v'∧(W2.drew.setRow w.heap.size (putAt (putAt ROW (i*5) x.toArray) ((i+m)*5) B.toArray)).ownsRow base 48 5 v' (n+1) (cF rows i x).flatten∧On base w (W2.drew.setRow w.heap.size (putAt (putAt ROW (i*5) x.toArray) ((i+m)*5) B.toArray)):=
  ⟨_,rfl,⟨hlenF,.inr ⟨w.heap.size,G,_,by rw[hm],hbw,setRow_heap (w:=W2.drew) hh2 _,hG1,hG63,hc2,htk⟩⟩,ah ((Below.drew hb2).mono hbw) hbw _⟩
 have HF:=NW hfin
 have HB:=NW hcpB
 have mixed:prog.follows .mixedOrders=Oc:=Ou
 unfold Ol at hG63
 have q1:i≤n:=Ot
 have w1:Oe.wrap ((i:Int)+(m:Int))=(i:Int)+(m:Int):=by rw[IntKind.wrap_i64];omega
 have w2:(0:Int)≤(i:Int)+(m:Int):=Ot
 have w3:((i:Int)+(m:Int)).toNat=i+m:=Ot
 have w4:(i:Int)≤(n:Int)+(m:Int):=Ot
 have w5:(cap:Int)<(n:Int)+(m:Int):=Ot
 have q2:¬(G=i+m):=Ot
 have q3:¬(G=i):=Ot
 have q4:m≤1:=Ot
 have q5:1≤m:=Ot
 have q6:¬(cap=i):=Ot
 clear hfin hcpB hW1 hW2 hh1 hh2 hb1 hb2 hx1 hg1 c1 hc2 htk hlenF hG1 hm hsrc h1B hBl hB hfl hsz h3 h4 hh hxb hx h1x hw hone hn hi hz0 hz1 hz2 hold hol hik hkk hRl hRt hROW hG hgw
 go_enter func139,ntmps139
 go_wp2_with(at_builtin;refine Lib.wpList_append_run _ rfl _ _ _ _ rfl _ _ rfl rfl _ _ (hrz _) ?_)
 go_region_law_o(refine step_copy_runI rfl _ _ 32 32 rfl (.slice (N3 ⟨w.heap.size,(i+m)*5,N0⟩) (n+m-(i+m)) (G-(i+m))) (.slice (N3 ⟨g,i*5,N0⟩) (n-i) (cap-i)) O8 O8 (HB.out 3 (G-(i+m)) (cap-i)) ?_)
 go_wp2
 go_ret
 exact HF.out
theorem FV(w:NY)(base n i vb vc:Nat)(v:N2)(rows:List (List N2))(x:List N2)(ho:w.ownsRow base 48 5 v n rows.flatten)(hn:rows.length=n)(hw:cG 5 rows)(hone:gZ rows)
  (hx:x.length=5)(h1x:∀u∈x,u.oneCell'=Oc)(hxb:af w vb 48 x)(hvb:v.ownBlock≠N3 vb)(hi:i≤n)(hlen:n≤1000000)(hbw:base≤w.heap.size):
  Of prog 139 #[v,.int .i64 (i:Int),.slice (N3 ⟨vb,0,N0⟩) 1 vc] w fun e w'=>∃v',e= .returned v'∧w'.ownsRow base 48 5 v' (n+1) (cF rows i x).flatten∧On base w w':=by
 by_cases hin:i=n
 ·subst hin
  have e:cF rows i x=rows++[x]:=by unfold cF;rw[←hn,List.take_length,List.drop_length]
  rw[e]
  exact Gc w base i 1 vb vc v rows x ho hx h1x hxb rfl hlen hbw
 ·obtain⟨g,cap,cur,rfl,hb,hh,h1,h2,h3,h4⟩:=iF ho Ot
  by_cases hroom:n+1≤cap
  ·refine(zd w base g n cap i 1 vb vc cur rows x hb hh h2 h3 h4 hn hw hone hx h1x hxb (fun e=>hvb PS) rfl Ot hroom hlen).mono ?_
   rintro e w' ⟨v',rfl,h5,h6⟩
   exact⟨v',rfl,h5,h6.mono hb⟩
  ·exact Cz w base g n cap i 1 vb vc cur rows x hbw hh h3 h4 hn hw hone hx h1x hxb rfl Ot h1 Ot hlen
theorem Da(w:NY)(base n m vb vc:Nat)(v:N2)(rows:List (List N2))(x:List N2)(ho:w.ownsRow base 3 1 v n rows.flatten)(hx:x.length=1)(h1x:∀u∈x,u.oneCell'=Oc)(hxb:af w vb 3 x)
  (hm:m=1)(hlen:n≤1000000)(hbw:base≤w.heap.size):
  Of prog 128 #[v,.int .i64 (n:Int),.slice (N3 ⟨vb,0,N0⟩) m vc] w fun e w'=>∃v',e= .returned v'∧w'.ownsRow base 3 1 v' (n+1) (rows++[x]).flatten∧On base w w':=by
 obtain⟨i0,hi,hz0,hz1,hz2⟩:=info_parts jQ
 have z1:((m:Int)==0)=N1:=beq_eq_false_iff_ne.2 Ot
 have HM:=NW hm
 have HO:=NW ho
 have HL:=NW (show x.length=m*1 by rw[hx,hm])
 have HN:=NW (NY.news_of_block (cs:=x.toArray) (t:=3) (fr:=(0,0)) hxb)
 have H1:=NW h1x
 have HI:=NW hi
 have I1:=NW hz0
 have I2:=NW hz1
 have I3:=NW hz2
 have hm1:m≤1:=Ot
 have hfin:∀v' (w1:NY),w1.ownsRow base 3 1 v' (n+m) (rows.flatten++x)→w.grownBy w1 v.ownBlock→∃v'',Ending.returned v'= .returned v''∧w1.ownsRow base 3 1 v'' (n+1) (rows++[x]).flatten∧On base w w1:=by
  intro v' w1 hown hgrow
  rw[HM.out] at hown
  refine⟨v',rfl,by simpa using hown,(Below.refl base w).grown hgrow hbw (fun q hq=>(aE HO.out q hq).1)⟩
 have HF:=NW hfin
 clear hfin hm hx h1x hxb hi hz0 hz1 hz2
 obtain⟨_,⟨rfl,rfl⟩|⟨g,cap,cur,rfl,hb,hh,h1,h2,h3,h4⟩⟩:=id ho
 ·clear ho
  go_enter func128,ntmps128
  go_wp2_with(at_builtin;refine wpList_append_own _ rfl _ _ 25 rfl base 3 i0 (.int .i64 0) 1 8 underlying25 HI.out I1.out I2.out I3.out rfl Ov _ 0 _ rfl HO.out ⟨vb,0,N0⟩ m vc x rfl HL.out HN.out H1.out OE Ot hbw ?_)
  intro v' w1 hown hgrow hnil
  go_wp2
  go_ret
  exact HF.out v' w1 (by rw[Nat.zero_add];exact hown) hgrow
 ·clear ho hh h3 h4
  unfold Ol at h2
  go_enter func128,ntmps128
  go_wp2_with(at_builtin;refine wpList_append_own _ rfl _ _ 25 rfl base 3 i0 (.int .i64 0) 1 8 underlying25 HI.out I1.out I2.out I3.out rfl Ov _ n _ rfl HO.out ⟨vb,0,N0⟩ m vc x rfl HL.out HN.out H1.out OE Ot hbw ?_)
  all_goals
   intro v' w1 hown hgrow hnil
   go_wp2
   go_ret
   exact HF.out v' w1 hown hgrow
theorem ze(w:NY)(base g n cap i m vb vc:Nat)(cur:Array N2)(rows:List (List N2))(x:List N2)(hb:base≤g)(hh:w.heap[g]?=N3 (.cells cur 3 (0,0)))(h2:cap≤Ol)(h3:cur.size=cap*1)(h4:cur.toList.take (n*1)=rows.flatten)
  (hn:rows.length=n)(hw:cG 1 rows)(hone:gZ rows)(hx:x.length=1)(h1x:∀u∈x,u.oneCell'=Oc)(hxb:af w vb 3 x)(hvb:vb≠g)(hm:m=1)(hin:i<n)(hroom:n+m≤cap)(hlen:n≤1000000):
  Of prog 128 #[.slice (N3 ⟨g,0,N0⟩) n cap,.int .i64 (i:Int),.slice (N3 ⟨vb,0,N0⟩) m vc] w fun e w'=>∃v',e= .returned v'∧w'.ownsRow base 3 1 v' (n+1) (cF rows i x).flatten∧On g w w':=by
 obtain⟨i0,hi,hz0,hz1,hz2⟩:=info_parts jQ
 unfold Ol at h2
 have z1:((m:Int)==0)=N1:=beq_eq_false_iff_ne.2 Ot
 have z2:((i:Int)==(n:Int))=N1:=beq_eq_false_iff_ne.2 Ot
 have hsz:(prog.info? 3).map (·.size)=N3 1:=by rw[hi];simp[hz1]
 have hso:∀w,(Go.sizeOf 3).run prog w= .ok 1 w:=fun w=>by simp[sizeOf,typeInfo,hi,hz1]
 have hfl:rows.flatten.length=n*1:=by rw[aM hw,hn]
 obtain⟨B,hB⟩:∃B,(rows.drop i).flatten=B:=⟨_,rfl⟩
 have hBl:B.length=(n-i)*1:=OW
 have h1B:∀u∈B,u.oneCell'=Oc:=by
  intro u hu
  rw[←hB] at hu
  obtain⟨r,hr,hur⟩:=List.mem_flatten.1 hu
  exact hone r (List.mem_of_mem_drop hr) u hur
 have hsrc:∀t u,B[t]?=N3 u→w.cell? ⟨g,i*1+t,N0⟩=N3 u:=by
  intro t u hu
  have ht:t<B.length:=(List.getElem?_eq_some_iff.1 hu).1
  rw[←hB,←gG hw Ot,List.getElem?_drop,←h4,List.getElem?_take] at hu
  rw[if_pos (by rw[hBl] at ht;omega)] at hu
  rw[show w.cell? ⟨g,i*1+t,N0⟩=cur[i*1+t]? by simp[World.cell?,hh]]
  simpa using hu
 have hov:∀lb cb,(callFunc 188 #[.slice (N3 ⟨vb,0,N0⟩) m vc,.slice (N3 ⟨g,(i+m)*1,N0⟩) lb cb]).run prog w= .ok (.value (.bool N1)) w:=fun lb cb=>by
  rw[run_callFunc_extern func188 Ou Ou Ou (e:=Extern.SlicesOverlaps.overlaps #[25,25] #[4]) Ou,
   Lib.run_overlaps_apart w 25 4 3 underlying25 1 hso ⟨vb,0,N0⟩ ⟨g,(i+m)*1,N0⟩ m vc lb cb hvb 3 3 x.length cur.size (by unfold af at hxb;simp[World.shape?,hxb]) (by simp[World.shape?,hh]) Ot (hxb.frozen _) (hxb.frozen _)]
  rfl
 have hcp1:∀ty dc sc,(Builtin.copy_ #[25,25] ty #[.slice (N3 ⟨g,(i+m)*1,N0⟩) (n+m-(i+m)) dc,.slice (N3 ⟨g,i*1,N0⟩) (n+m-i) sc]).run prog w.drew= .ok (goInt ((n-i:Nat):Int)) (w.drew.setRow g (putAt cur ((i+m)*1) B.toArray)):=fun ty dc sc=>
  dY w.drew _ _ ty 3 g ((i+m)*1) (n+m-(i+m)) dc ⟨g,i*1,N0⟩ (n+m-i) sc cur 3 B 1 (n-i) underlying25 hsz hh OX hBl
   (fun t u hu=>by rw[Addr.add_lit];exact hsrc t u hu) (by rw[hBl,h3];omega) h1B
 have c1:(putAt cur ((i+m)*1) B.toArray).size=cap*1:=by rw[dU (by simp[hBl,h3];omega),h3]
 obtain⟨W1,hW1⟩:∃W1,w.drew.setRow g (putAt cur ((i+m)*1) B.toArray)=W1:=⟨_,rfl⟩
 rw[hW1] at hcp1
 have hh1:W1.heap[g]?=N3 (.cells (putAt cur ((i+m)*1) B.toArray) 3 (0,0)):=by rw[←hW1];exact setRow_heap (w:=w.drew) hh _
 have hb1:On g w W1:=by rw[←hW1];exact ah (Below.drew (Below.refl _ _)) (NZ _) _
 have hx1:af W1 vb 3 x:=by
  have:(w.drew.setRow g (putAt cur ((i+m)*1) B.toArray)).heap[vb]?=w.heap[vb]?:=by simp only[World.setRow,Array.getElem?_modify];rw[if_neg (Ne.symm hvb)];rfl
  unfold af
  rw[←hW1,this]
  exact hxb
 have hcp2:∀(W:NY),W.heap=W1.heap→∀ty dc,(Builtin.copy_ #[25,25] ty #[.slice (N3 ⟨g,i*1,N0⟩) (n+m-i) dc,.slice (N3 ⟨vb,0,N0⟩) m vc]).run prog W= .ok (goInt m) (W.setRow g (putAt (putAt cur ((i+m)*1) B.toArray) (i*1) x.toArray)):=fun W hW ty dc=>
  dY W _ _ ty 3 g (i*1) (n+m-i) dc ⟨vb,0,N0⟩ m vc _ 3 x 1 m underlying25 hsz (by rw[hW];exact hh1) OX (by rw[hx,hm])
   (fun t u hu=>by rw[Addr.add_lit,Nat.zero_add];exact(World.cell?_of_block (by rw[hW])).trans ((hx1.cell t).trans hu)) (by rw[hx,c1];omega) h1x
 have hc2:(putAt (putAt cur ((i+m)*1) B.toArray) (i*1) x.toArray).size=cap*1:=by rw[dU (by rw[c1];simp[hx];omega),c1]
 have htk:(putAt (putAt cur ((i+m)*1) B.toArray) (i*1) x.toArray).toList.take ((n+1)*1)=(cF rows i x).flatten:=by
  refine ke (cur:=cur) hw hn hx hin ?_ (by rw[h3];omega) (N:=(i+m)*1+B.length) ?_
  ·rw[←h4,List.take_take,Nat.min_eq_left Ot]
  ·rw[nC Pr (by simp only[List.size_toArray,hBl,h3];omega),hB,List.size_toArray]
 have hlenF:(cF rows i x).flatten.length=(n+1)*1:=Pn
 have hroom2:n+1≤cap:=Ot
 have hfin:∀W:NY,W.heap=W1.heap→(On g w W1→On g w W)→∃v',Ending.returned (.slice (N3 ⟨g,0,N0⟩) (n+m) cap)= .returned v'∧(W.setRow g (putAt (putAt cur ((i+m)*1) B.toArray) (i*1) x.toArray)).ownsRow base 3 1 v' (n+1) (cF rows i x).flatten∧On g w (W.setRow g (putAt (putAt cur ((i+m)*1) B.toArray) (i*1) x.toArray)):=by
  intro W hW hbW
  refine⟨_,rfl,⟨hlenF,.inr ⟨g,cap,_,by rw[hm],hb,setRow_heap (by rw[hW];exact hh1) _,hroom2,OE,hc2,htk⟩⟩,ah (hbW hb1) (NZ _) _⟩
 have HF:=NW hfin
 have H1:=NW hcp1
 have H2:=NW hcp2
 have mixed:prog.follows .mixedOrders=Oc:=Ou
 have q1:i≤n:=Ot
 have w1:Oe.wrap ((i:Int)+(m:Int))=(i:Int)+(m:Int):=by rw[IntKind.wrap_i64];omega
 have w2:(0:Int)≤(i:Int)+(m:Int):=Ot
 have w3:((i:Int)+(m:Int)).toNat=i+m:=Ot
 have w4:(i:Int)≤(n:Int)+(m:Int):=Ot
 have q2:¬(cap=i+m):=Ot
 have q3:¬(cap=i):=Ot
 have q4:m≤1:=Ot
 have q5:1≤m:=Ot
 clear hfin hcp1 hcp2 hW1 hh1 hb1 hx1 c1 hc2 htk hlenF hroom2 hm hsrc h1B hBl hB hfl hsz hso h3 h4 hh hxb hx h1x hw hone hn hi hz0 hz1 hz2
 simp only[Nat.mul_one] at hov
 go_enter func128,ntmps128
 go_wp2_with(simp only[hov])
 go_region_law_o(refine step_copy_runI rfl _ _ 25 25 rfl _ _ O8 O8 (H1.out 3 (cap-(i+m)) (cap-i)) ?_)
 have hk2:=H2.out W1 rfl
 simp only[Nat.mul_one] at hk2
 go_wp2
 go_ret
 have hf:=HF.out _ rfl (fun h=>h)
 simp only[Nat.mul_one] at hf⊢
 exact hf
theorem Bi(w:NY)(base g n cap i m vb vc:Nat)(cur:Array N2)(rows:List (List N2))(x:List N2)(hbw:base≤w.heap.size)(hh:w.heap[g]?=N3 (.cells cur 3 (0,0)))(h3:cur.size=cap*1)(h4:cur.toList.take (n*1)=rows.flatten)
  (hn:rows.length=n)(hw:cG 1 rows)(hone:gZ rows)(hx:x.length=1)(h1x:∀u∈x,u.oneCell'=Oc)(hxb:af w vb 3 x)(hm:m=1)(hin:i<n)(hnc:n≤cap)(hroom:cap<n+m)(hlen:n≤1000000):
  Of prog 128 #[.slice (N3 ⟨g,0,N0⟩) n cap,.int .i64 (i:Int),.slice (N3 ⟨vb,0,N0⟩) m vc] w fun e w'=>∃v',e= .returned v'∧w'.ownsRow base 3 1 v' (n+1) (cF rows i x).flatten∧On base w w':=by
 obtain⟨i0,hi,hz0,hz1,hz2⟩:=info_parts jQ
 have z1:((m:Int)==0)=N1:=beq_eq_false_iff_ne.2 Ot
 have z2:((i:Int)==(n:Int))=N1:=beq_eq_false_iff_ne.2 Ot
 have hsz:(prog.info? 3).map (·.size)=N3 1:=by rw[hi];simp[hz1]
 have hgw:g<w.heap.size:=(Od.1 hh).1
 have hfl:rows.flatten.length=n*1:=by rw[aM hw,hn]
 obtain⟨B,hB⟩:∃B,(rows.drop i).flatten=B:=⟨_,rfl⟩
 have hBl:B.length=(n-i)*1:=OW
 have h1B:∀u∈B,u.oneCell'=Oc:=by
  intro u hu
  rw[←hB] at hu
  obtain⟨r,hr,hur⟩:=List.mem_flatten.1 hu
  exact hone r (List.mem_of_mem_drop hr) u hur
 have hsrc:∀t u,B[t]?=N3 u→w.cell? ⟨g,i*1+t,N0⟩=N3 u:=by
  intro t u hu
  have ht:t<B.length:=(List.getElem?_eq_some_iff.1 hu).1
  rw[←hB,←gG hw Ot,List.getElem?_drop,←h4,List.getElem?_take] at hu
  rw[if_pos (by rw[hBl] at ht;omega)] at hu
  rw[show w.cell? ⟨g,i*1+t,N0⟩=cur[i*1+t]? by simp[World.cell?,hh]]
  simpa using hu
 have hol:(rows.flatten.take (i*1)).length=i*1:=by rw[List.length_take,hfl];omega
 have hold:(Builtin.firstCells i0.size i (.slice (N3 ⟨g,0,N0⟩) i cap)).run prog w.drew= .ok (rows.flatten.take (i*1)).toArray w.drew:=by
  rw[hz1]
  exact run_firstCells_some w.drew 1 i ⟨g,0,N0⟩ i cap (rows.flatten.take (i*1)) hol (fun t u hu=>by
   rw[Addr.add_lit,Nat.zero_add]
   have ht:t<i*1:=by rw[←hol];exact(List.getElem?_eq_some_iff.1 hu).1
   rw[List.getElem?_take,if_pos ht,←h4,List.getElem?_take,if_pos Ot] at hu
   show w.cell? ⟨g,t,N0⟩=N3 u
   rw[show w.cell? ⟨g,t,N0⟩=cur[t]? by simp[World.cell?,hh]]
   simpa using hu)
 have hik:i+(n+m-i)=n+m:=Ot
 have hkk:(n:Int)+(m:Int)-(i:Int)=((n+m-i:Nat):Int):=Ot
 obtain⟨G,hG⟩:∃G,grownCap w (n+m) cap 3=G:=⟨_,rfl⟩
 have hGn:n+m≤G:=by rw[←hG];exact grownCap_ge w _ _ _
 have hG63:G≤Ol:=by rw[←hG];exact grownCap_le_maxLen w (n+m) cap 3 OE
 obtain⟨ROW,hROW⟩:∃ROW:Array N2,(rows.flatten.take (i*1)).toArray++Builtin.zeroCells (Value.cells (.int .i64 0)) (n+m-i)++Builtin.zeroCells (Value.cells (.int .i64 0)) (G-(n+m))=ROW:=⟨_,rfl⟩
 have hRl:ROW.size=G*1:=by
  rw[←hROW]
  simp only[Array.size_append,List.size_toArray,hol,Builtin.zeroCells,Array.size_map,Array.size_range]
  show i*1+(n+m-i)*1+(G-(n+m))*1=_
  omega
 have hRt:ROW.toList.take (i*1)=rows.flatten.take (i*1):=by
  rw[←hROW,Array.toList_append,Array.toList_append,List.append_assoc,List.take_left' hol]
 have hrz:∀ty,(Builtin.append_ #[25,3] ty #[.slice (N3 ⟨g,0,N0⟩) i cap,.int .i64 ((n:Int)+(m:Int)-(i:Int))]).run prog w=
   .ok (.slice (N3 ⟨w.heap.size,0,N0⟩) (n+m) G) (w.drew.alloc (.cells ROW 3)):=fun ty=>by
  have h:=Lib.run_append_grow_zeros w 25 3 ty 3 i0 _ .i64 .i64 underlying25 underlying3 hi hz0 (N3 ⟨g,0,N0⟩) i cap _ hold (n+m-i) Ot Ot Ot Ot PQ (by rw[hz2,hik];exact growslice_fits hroom Ot)
  rw[hik,hG] at h
  rw[hkk,←hROW]
  exact h
 obtain⟨W1,hW1⟩:∃W1,w.drew.alloc (.cells ROW 3)=W1:=⟨_,rfl⟩
 rw[hW1] at hrz
 have hh1:W1.heap[w.heap.size]?=N3 (.cells ROW 3 (0,0)):=by rw[←hW1];exact NY.alloc_heap_new w.drew _
 have hb1:On w.heap.size w W1:=by rw[←hW1];exact(Below.drew (Below.refl _ _)).alloc (NZ _) _
 have hx1:af W1 vb 3 x:=hxb.ext hb1
 have hg1:∀t u,w.cell? ⟨g,t,N0⟩=N3 u→W1.cell? ⟨g,t,N0⟩=N3 u:=fun t u h=>(hb1.cell hgw).trans h
 have hcpA:∀ty dc,(Builtin.copy_ #[25,25] ty #[.slice (N3 ⟨w.heap.size,i*1,N0⟩) (n+m-i) dc,.slice (N3 ⟨vb,0,N0⟩) m vc]).run prog W1= .ok (goInt m) (W1.setRow w.heap.size (putAt ROW (i*1) x.toArray)):=fun ty dc=>
  dY W1 _ _ ty 3 w.heap.size (i*1) (n+m-i) dc ⟨vb,0,N0⟩ m vc _ 3 x 1 m underlying25 hsz hh1 OX (by rw[hx,hm])
   (fun t u hu=>by rw[Addr.add_lit,Nat.zero_add];exact(hx1.cell t).trans hu) (by rw[hx,hRl];omega) h1x
 obtain⟨W2,hW2⟩:∃W2,W1.setRow w.heap.size (putAt ROW (i*1) x.toArray)=W2:=⟨_,rfl⟩
 rw[hW2] at hcpA
 have c1:(putAt ROW (i*1) x.toArray).size=G*1:=by rw[dU (by simp only[List.size_toArray,hx,hRl];omega),hRl]
 have hh2:W2.heap[w.heap.size]?=N3 (.cells (putAt ROW (i*1) x.toArray) 3 (0,0)):=by rw[←hW2];exact setRow_heap hh1 _
 have hb2:On w.heap.size w W2:=by rw[←hW2];exact ah hb1 (NZ _) _
 have hcpB:∀ty dc sc,(Builtin.copy_ #[25,25] ty #[.slice (N3 ⟨w.heap.size,(i+m)*1,N0⟩) (n+m-(i+m)) dc,.slice (N3 ⟨g,i*1,N0⟩) (n-i) sc]).run prog W2.drew= .ok (goInt ((n-i:Nat):Int)) (W2.drew.setRow w.heap.size (putAt (putAt ROW (i*1) x.toArray) ((i+m)*1) B.toArray)):=fun ty dc sc=>
  dY W2.drew _ _ ty 3 w.heap.size ((i+m)*1) (n+m-(i+m)) dc ⟨g,i*1,N0⟩ (n-i) sc _ 3 B 1 (n-i) underlying25 hsz hh2 OX hBl
   (fun t u hu=>by rw[Addr.add_lit];exact(hb2.cell hgw).trans (hsrc t u hu)) (by rw[hBl,c1];omega) h1B
 have hc2:(putAt (putAt ROW (i*1) x.toArray) ((i+m)*1) B.toArray).size=G*1:=by rw[dU (by simp only[List.size_toArray,hBl,c1];omega),c1]
 have htk:(putAt (putAt ROW (i*1) x.toArray) ((i+m)*1) B.toArray).toList.take ((n+1)*1)=(cF rows i x).flatten:=by
  refine ke (cur:=ROW) hw hn hx hin hRt (by rw[hRl];omega) (N:=(i+m)*1+B.length) ?_
  rw[pH Pr (by simp only[List.size_toArray,hBl,hRl];omega),hB,List.size_toArray]
 have hlenF:(cF rows i x).flatten.length=(n+1)*1:=Pn
 have hG1:n+1≤G:=Ot
 have hfin:∃v',Ending.returned (.slice (N3 ⟨w.heap.size,0,N0⟩) (n+m) G)= .returned v'∧(W2.drew.setRow w.heap.size (putAt (putAt ROW (i*1) x.toArray) ((i+m)*1) B.toArray)).ownsRow base 3 1 v' (n+1) (cF rows i x).flatten∧On base w (W2.drew.setRow w.heap.size (putAt (putAt ROW (i*1) x.toArray) ((i+m)*1) B.toArray)):=
  ⟨_,rfl,⟨hlenF,.inr ⟨w.heap.size,G,_,by rw[hm],hbw,setRow_heap (w:=W2.drew) hh2 _,hG1,hG63,hc2,htk⟩⟩,ah ((Below.drew hb2).mono hbw) hbw _⟩
 have HF:=NW hfin
 have HB:=NW hcpB
 have mixed:prog.follows .mixedOrders=Oc:=Ou
 unfold Ol at hG63
 have q1:i≤n:=Ot
 have w1:Oe.wrap ((i:Int)+(m:Int))=(i:Int)+(m:Int):=by rw[IntKind.wrap_i64];omega
 have w2:(0:Int)≤(i:Int)+(m:Int):=Ot
 have w3:((i:Int)+(m:Int)).toNat=i+m:=Ot
 have w4:(i:Int)≤(n:Int)+(m:Int):=Ot
 have w5:(cap:Int)<(n:Int)+(m:Int):=Ot
 have q2:¬(G=i+m):=Ot
 have q3:¬(G=i):=Ot
 have q4:m≤1:=Ot
 have q5:1≤m:=Ot
 have q6:¬(cap=i):=Ot
 clear hfin hcpB hW1 hW2 hh1 hh2 hb1 hb2 hx1 hg1 c1 hc2 htk hlenF hG1 hm hsrc h1B hBl hB hfl hsz h3 h4 hh hxb hx h1x hw hone hn hi hz0 hz1 hz2 hold hol hik hkk hRl hRt hROW hG hgw
 simp only[Nat.mul_one] at hcpA
 go_enter func128,ntmps128
 go_wp2_with(at_builtin;refine Lib.wpList_append_run _ rfl _ _ _ _ rfl _ _ rfl rfl _ _ (hrz _) ?_)
 go_region_law_o(refine step_copy_runI rfl _ _ 25 25 rfl (.slice (N3 ⟨w.heap.size,(i+m)*1,N0⟩) (n+m-(i+m)) (G-(i+m))) (.slice (N3 ⟨g,i*1,N0⟩) (n-i) (cap-i)) O8 O8 (HB.out 3 (G-(i+m)) (cap-i)) ?_)
 go_wp2
 go_ret
 have hf:=HF.out
 simp only[Nat.mul_one] at hf⊢
 exact hf
theorem FE(w:NY)(base n i vb vc:Nat)(v:N2)(rows:List (List N2))(x:List N2)(ho:w.ownsRow base 3 1 v n rows.flatten)(hn:rows.length=n)(hw:cG 1 rows)(hone:gZ rows)
  (hx:x.length=1)(h1x:∀u∈x,u.oneCell'=Oc)(hxb:af w vb 3 x)(hvb:v.ownBlock≠N3 vb)(hi:i≤n)(hlen:n≤1000000)(hbw:base≤w.heap.size):
  Of prog 128 #[v,.int .i64 (i:Int),.slice (N3 ⟨vb,0,N0⟩) 1 vc] w fun e w'=>∃v',e= .returned v'∧w'.ownsRow base 3 1 v' (n+1) (cF rows i x).flatten∧On base w w':=by
 by_cases hin:i=n
 ·subst hin
  have e:cF rows i x=rows++[x]:=by unfold cF;rw[←hn,List.take_length,List.drop_length]
  rw[e]
  exact Da w base i 1 vb vc v rows x ho hx h1x hxb rfl hlen hbw
 ·obtain⟨g,cap,cur,rfl,hb,hh,h1,h2,h3,h4⟩:=iF ho Ot
  by_cases hroom:n+1≤cap
  ·refine(ze w base g n cap i 1 vb vc cur rows x hb hh h2 h3 h4 hn hw hone hx h1x hxb (fun e=>hvb PS) rfl Ot hroom hlen).mono ?_
   rintro e w' ⟨v',rfl,h5,h6⟩
   exact⟨v',rfl,h5,h6.mono hb⟩
  ·exact Bi w base g n cap i 1 vb vc cur rows x hbw hh h3 h4 hn hw hone hx h1x hxb rfl Ot h1 Ot hlen
end
end Go.Proofs.YtnpihidbkhehjaaGreatDoor
