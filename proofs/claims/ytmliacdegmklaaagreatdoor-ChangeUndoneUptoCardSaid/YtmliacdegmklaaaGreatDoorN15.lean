/- ChangeUndone of kingpostlaw58: part 15 of its proof (merged and shortened by program). -/
import Derived.Test.YtmliacdegmklaaaGreatDoorN12
import Derived.Test.YtmliacdegmklaaaGreatDoorN13
import Derived.Test.YtmliacdegmklaaaGreatDoorN14
set_option linter.unusedVariables false
set_option linter.unusedSimpArgs false
set_option linter.defProp false
set_option maxHeartbeats 8000000
set_option maxRecDepth 100000
open Go.RowKit Go.Shelf Go.Proofs.Tryz
open Array renaming getElem?_eq_some_iff→VF
open Bool renaming false→Vw,true→VD
open Go renaming World→Vt,Value→Vy,undef→VB,wpOp_step→VE,Calls→VJ,maxLen→VP,TypeId→VR,Addr→VT
open Go.AllReady renaming cons→VO,nil→VU
open Go.Ending renaming returned→V0
open Go.IntKind renaming i64→VH
open Go.IntWalk renaming i64_in→VQ
open Go.Lib renaming hid→Vs
open Go.RowKit renaming intOf→VN,Below→VS
open Go.Value renaming slice→VV,string→VW,bool→VX,pointer→VY,int→VZ,agg→V5,tuple→V6
open Go.World renaming alloc_heap_new→VG,size_alloc→VK
open List renaming getD_eq_getElem?_getD→Vv,getElem?_eq_getElem→VA,length_map→VC,length_append→VM,length→ln
open Nat renaming le_refl→Vu,le_trans→VI,mul_comm→VL
open Option renaming none→Vx,some→Vz
open Go.Proofs.YtmliacdegmklaaaGreatDoor
variable{C:Array Vy}{xs vals:List Vy}{c n i b cap o k B0 pb gc vb:Nat}{A ga:Option VT}{p:Prop}{α β:Type}{t e:VR}{w W w' W1 W':Vt}{V:Vy}{j j':bI}{a a':dS}
namespace Go.Proofs.YtmliacdegmklaaaGreatDoor
section
open Kp
attribute [local go_sem] bM jQ jK jJ jO jN jR jL jP jS jU gi fX fZ gj gw
attribute [local go_sem] aM fC fH iy gU iA ik gW gV im gY eP eN eV eK eY eR eQ er eu ey eh ej dY eT eO eU eS eI eM eJ eX fm fu ft fo dX eZ
structure fU(c:Nat)(w w':Vt):Prop where
 below:VS c w w'
 others:∀b,b<w.heap.size->b≠c->w'.heap[b]?=w.heap[b]?
theorem fU.ext(h:Ext w W)(hc:c<w.heap.size):fU c w W:=⟨h.mono (Nat.le_of_lt hc),λb hb _=>h.block b hb⟩
theorem fU.put(h:fU c w W)(i:Nat)(v:Vy):fU c w (W.setCell ⟨c,i,Vx⟩ v):=
 ⟨h.below.setCell (Vu _) v,λb hb hne=>(Below.heap_setCell _ _ _ _ hne).trans (h.others b hb hne)⟩
theorem fU.row(h:fU c w W)(cs:Array Vy):fU c w (W.setRow c cs):=
 ⟨ah h.below (Vu _) cs,λb hb hne=>(by
  have:(W.setRow c cs).heap[b]?=W.heap[b]?:=by simp only[World.setRow,Array.getElem?_modify];rw[if_neg (Ne.symm hne)]
  exact this.trans (h.others b hb hne))⟩
theorem fU.alloc(h:fU c w W)(hc:c<=W.heap.size)(o:Obj):fU c w (W.alloc o):=
 ⟨h.below.alloc hc o,λb hb hne=>(Below.heap_alloc _ _ _ (Nat.lt_of_lt_of_le hb h.below.size)).trans (h.others b hb hne)⟩
def AE(X:Nat->Prop)(c n:Nat)(w W:Vt):Prop:=w.heap.size<=W.heap.size/\∀b,b<w.heap.size->(b<c/\¬X b)\/n<=b->W.heap[b]?=w.heap[b]?
def AE.self(X:Nat->Prop)(c n:Nat)(w:Vt):AE X c n w w:=⟨Vu _,λ_ _ _=>rfl⟩
def Hn(X:Nat->Prop)(B:Nat)(w W:Vt):Prop:=w.heap.size<=W.heap.size/\∀b,b<B->¬X b->W.heap[b]?=w.heap[b]?
structure iD(X:Nat->Prop)(w:Vt)(B:Nat)(j:bI)(a:dS):Prop extends fg w B j a where
 av:∀W,Hn X B w W->fg W W.heap.size j a
theorem Hn.below{X:Nat->Prop}{B:Nat}(h:Hn X B w' W)(hb:VS B w w'):Hn X B w W:=⟨VI hb.size h.1,λb h1 h2=>(h.2 b h1 h2).trans (hb.block b h1)⟩
theorem Hn.less{X:Nat->Prop}{B B':Nat}(h:Hn X B' w W)(hb:B<=B'):Hn X B w W:=⟨h.1,λb h1 h2=>h.2 b (Nat.lt_of_lt_of_le h1 hb) h2⟩
theorem iD.below{X:Nat->Prop}{B:Nat}(h:iD X w B j a)(hb:VS B w w'):iD X w' B j a:=⟨h.tofg.below hb,λW hO=>h.av W (hO.below hb)⟩
theorem iD.more{X:Nat->Prop}{B B':Nat}(h:iD X w B j a)(hb:B<=B'):iD X w B' j a:=⟨h.tofg.more hb,λW hO=>h.av W (hO.less hb)⟩
theorem iD.grow{X:Nat->Prop}(h:iD X w w.heap.size j a)(hx:Ext w w'):iD X w' w'.heap.size j a:=(h.below hx).more hx.size
theorem iD.mono{X Y:Nat->Prop}{B:Nat}(h:iD X w B j a)(hy:∀b,b<B->Y b->X b):iD Y w B j a:=⟨h.tofg,λW hO=>h.av W ⟨hO.1,λb h1 h2=>hO.2 b h1 (λq=>h2 (hy b h1 q))⟩⟩
theorem fg.off{B:Nat}(h:fg w B j a)(hs:w.heap.size<=W.heap.size)(hB:∀b,b<B->W.heap[b]?=w.heap[b]?):fg W B j a:=by
 have q:fg {w with heap:=W.heap} B j a:=h.below ⟨rfl,rfl,rfl,hs,hB⟩;exact⟨q.p,q.u,q.o,q.z,q.b,q.l,q.s⟩
theorem fg.v{B:Nat}(h:fg w B j a)(hB:B<=w.heap.size){X:Nat->Prop}(hX:∀b,b<B->¬X b):iD X w B j a:=
 ⟨h,λ_ hO=>(h.off hO.1 λb hb=>hO.2 b hb (hX b hb)).more (VI hB hO.1)⟩
theorem iD.to{X:Nat->Prop}(hb:iD X w c j a)(hc:c<w.heap.size)(h1:VS c w w')(hA:AE X c n w' W):fg W W.heap.size j a:=by
 have h2:=h1.size;have h3:=hA.1;exact hb.av W ⟨V7,λb hb hx=>(hA.2 b V7 (.inl ⟨hb,hx⟩)).trans (h1.block b hb)⟩
def nd(X:Nat->Prop)(c:Nat)(w w':Vt)(j':bI)(a':dS):Prop:=fU c w w'/\JC w' c j' a'/\∀W,AE X c w.heap.size w' W->fg W W.heap.size j' a'
theorem nd.at_{X:Nat->Prop}(h:nd X c w w' j' a'):fg w' w'.heap.size j' a':=h.2.2 w' (AE.self _ _ _ _)
theorem JC.put(h:JC w c j a)(x:Vy)(e:(cQ j a).setIfInBounds i x=cQ j' a'):JC (w.setCell ⟨c,i,Vx⟩ x) c j' a':=by
 unfold JC at *;rw[<-e];simp[World.setCell,Array.getElem?_modify,h]
def Qd(w:Vt)(c:Nat)(j:bI)(a:dS)(e:Ed)(g:Vy)(hc:JC w c j a){X:Nat->Prop}(hb:iD X w c j a):
  VJ prog 87 #[VY (Vz ⟨c,0,Vx⟩),V5 (aE e g)] w λx w'=>x=V0 (VZ VH 0)/\nd X c w w' {j with name:=e.text} a:=by
 have hlt:=hc.lt;have HZ:=EC.new w (aE e g);have c10:=HZ.cell 36;have hJ:=hc.ext ((Below.refl _ _).alloc (Vu _) (.cells (aE e g) 68));have k0:=hJ.cell 0;have f0:=hJ.frozen 0;have HF:=Vs (show nd X c w ((w.setCell ⟨c,0,Vx⟩ (VW (tx e.text))).alloc (.cells (aE e g) 68)) {j with name:=e.text} a from by
  have h1:fU c w ((w.setCell ⟨c,0,Vx⟩ (VW (tx e.text))).alloc (.cells (aE e g) 68)):=((fU.ext (Below.refl _ w) hlt).put 0 _).alloc Wf _;have hp:JC (w.setCell ⟨c,0,Vx⟩ (VW (tx e.text))) c {j with name:=e.text} a:=hc.put _ rfl;refine⟨h1,hp.ext ((Below.refl _ _).alloc (Vu _) _),λW hA=> ?_⟩;have h2:=hb.to hlt h1.below hA;exact⟨h2.p,h2.u,h2.o,h2.z,h2.b,h2.l,h2.s⟩)
 clear hc hb hJ;go_enter func87,ntmps87;go_wp2;go_ret;exact⟨rfl,HF.o⟩
def Pv(w:Vt)(c:Nat)(j:bI)(a:dS)(e:Ed)(g:Vy)(hc:JC w c j a){X:Nat->Prop}(hb:iD X w c j a):
  VJ prog 96 #[VY (Vz ⟨c,0,Vx⟩),V5 (aE e g)] w λx w'=>x=V0 (VZ VH 0)/\nd X c w w' {j with kerf:=e.number} a:=by
 have hlt:=hc.lt;have HZ:=EC.new w (aE e g);have c10:=HZ.cell 35;have hJ:=hc.ext ((Below.refl _ _).alloc (Vu _) (.cells (aE e g) 68));have k0:=hJ.cell 8;have f0:=hJ.frozen 8;have HF:=Vs (show nd X c w ((w.setCell ⟨c,8,Vx⟩ (VZ VH e.number)).alloc (.cells (aE e g) 68)) {j with kerf:=e.number} a from by
  have h1:fU c w ((w.setCell ⟨c,8,Vx⟩ (VZ VH e.number)).alloc (.cells (aE e g) 68)):=((fU.ext (Below.refl _ w) hlt).put 8 _).alloc Wf _;have hp:JC (w.setCell ⟨c,8,Vx⟩ (VZ VH e.number)) c {j with kerf:=e.number} a:=hc.put _ rfl;refine⟨h1,hp.ext ((Below.refl _ _).alloc (Vu _) _),λW hA=> ?_⟩;have h2:=hb.to hlt h1.below hA;exact⟨h2.p,h2.u,h2.o,h2.z,h2.b,h2.l,h2.s⟩)
 clear hc hb hJ;go_enter func96,ntmps96;go_wp2;go_ret;exact⟨rfl,HF.o⟩
def Qi(w:Vt)(c:Nat)(j:bI)(a:dS)(e:Ed)(g:Vy)(hc:JC w c j a){X:Nat->Prop}(hb:iD X w c j a):
  VJ prog 97 #[VY (Vz ⟨c,0,Vx⟩),V5 (aE e g)] w λx w'=>x=V0 (VZ VH 0)/\nd X c w w' {j with tile:=⟨e.twidth,e.tlength,e.tlap,e.ttail⟩} a:=by
 have hlt:=hc.lt;have HZ:=EC.new w (aE e g);have c1:=HZ.cell 31;have c2:=HZ.cell 32;have c3:=HZ.cell 33;have c4:=HZ.cell 34;have hJ:=hc.ext ((Below.refl _ _).alloc (Vu _) (.cells (aE e g) 68));have HJ:=Vs (show(w.alloc (.cells (aE e g) 68)).heap[c]?=Vz (.cells (cQ j a) 34 (0,0)) from hJ);have HF:=Vs (show nd X c w ((w.alloc (.cells (aE e g) 68)).setRow c (putAt (cQ j a) 9 #[VZ VH e.twidth,VZ VH e.tlength,VZ VH e.tlap,VZ VH e.ttail])) {j with tile:=⟨e.twidth,e.tlength,e.tlap,e.ttail⟩} a from by
  have h1:fU c w ((w.alloc (.cells (aE e g) 68)).setRow c (putAt (cQ j a) 9 #[VZ VH e.twidth,VZ VH e.tlength,VZ VH e.tlap,VZ VH e.ttail])):=((fU.ext (Below.refl _ w) hlt).alloc V7 _).row _;refine⟨h1,setRow_heap HJ.o _,λW hA=> ?_⟩;have h2:=hb.to hlt h1.below hA;exact⟨h2.p,h2.u,h2.o,h2.z,h2.b,h2.l,h2.s⟩)
 clear hc hb hJ;go_enter func97,ntmps97;go_wp2_with(first
  |(refine dW rfl 30 _ _ rfl c 9 _ rfl rfl 34 _ HJ.o V8 (Nat.le_of_ble_eq_true V8) V8 ?_))
 go_ret;exact⟨rfl,HF.o⟩
end
section
open Kp
theorem uV(f:α->β)(l:List α)(i:Int)(x:α):cF (l.map f) i (f x)=(cF l i x).map f:=by
 unfold cF;rw[VC];split
 ·simp
 ·simp[List.map_set]
theorem mn(f:α->β)(l:List α)(m:Nat):(l.map f).eraseIdx m=(l.eraseIdx m).map f:=by
 induction l generalizing m with
 |nil=>rfl
 |cons a l ih=>cases m with
  |zero=>rfl
  |succ m=>simp[ih]
def Nn(l:List kN):jG (bw l):=λr hr u hu=>by
 exact ZC
def D4(l:List Int):jG (bG l):=λr hr u hu=>by
 obtain⟨s,_,rfl⟩:=List.mem_map.1 hr;simp at hu;subst hu;rfl
def MX(l:List Sz):jG (bL l):=λr hr u hu=>by
 exact ZD
def NJ(l:List Ld):jG (bW l):=λr hr u hu=>by
 exact ZD
def Ey(l:List Aw):jG (bF l):=λr hr u hu=>by
 exact ZC
def Rx(l:List Sd):jG (aD l):=λr hr u hu=>by
 obtain⟨s,_,rfl⟩:=List.mem_map.1 hr;simp at hu;rcases hu with rfl|rfl|rfl|rfl|rfl|rfl|rfl<;>rfl
theorem EC.ext(h:EC w b C)(hx:Ext w w'):EC w' b C:=(hx.block b (VF.1 h).1).trans h
def qR(w:Vt)(B:Nat)(rows:List (List Vy))(l:List Br):Prop:=
 ln rows=ln l/\∀i,i<ln l->∃ga gc,rows.getD i []=qU (l.getD i oN) ga gc/\bJ 2 w B ga gc (di (l.getD i oN).gaps)
theorem qR.below{B:Nat}{rows:List (List Vy)}{l:List Br}(h:qR w B rows l)(hb:VS B w w'):qR w' B rows l:=by
 refine⟨h.1,λi hi=> ?_⟩;obtain⟨ga,gc,e,s⟩:=h.2 i hi;exact⟨ga,gc,e,s.below hb⟩
theorem qR.more{B B':Nat}{rows:List (List Vy)}{l:List Br}(h:qR w B rows l)(hb:B<=B'):qR w B' rows l:=by
 refine⟨h.1,λi hi=> ?_⟩;obtain⟨ga,gc,e,s⟩:=h.2 i hi;exact⟨ga,gc,e,s.more hb⟩
theorem qR.wide{B:Nat}{rows:List (List Vy)}{l:List Br}(h:qR w B rows l):de 6 rows:=by
 intro r hr;obtain⟨i,hi,rfl⟩:=List.mem_iff_getElem.1 hr;obtain⟨ga,gc,e,_⟩:=h.2 i (by rw[<-h.1];exact hi);rw[Vv,VA hi] at e;simp only[Option.getD_some] at e;rw[e];rfl
theorem qR.one{B:Nat}{rows:List (List Vy)}{l:List Br}(h:qR w B rows l):jG rows:=by
 intro r hr;obtain⟨i,hi,rfl⟩:=List.mem_iff_getElem.1 hr;obtain⟨ga,gc,e,_⟩:=h.2 i (by rw[<-h.1];exact hi);rw[Vv,VA hi] at e;simp only[Option.getD_some] at e;rw[e];intro u hu;simp at hu;rcases hu with rfl|rfl|rfl|rfl|rfl|rfl<;>rfl
theorem Mz{B:Nat}{l:List Br}(h:fT w B A cap l):∃rows,qR w B rows l/\bJ 6 w B A cap rows:=by
 obtain⟨h1,h2,h3⟩:=h;by_cases hn:0<ln l
 ·obtain⟨b,off,e,hb,hc⟩:=h3 hn;have hx:∀i,∃r:List Vy,i<ln l->∃ga gc,r=qU (l.getD i oN) ga gc/\(∀j,j<6->w.cell? ⟨b,off+6*i+j,Vx⟩=r[j]?)/\bJ 2 w B ga gc (di (l.getD i oN).gaps):=by
   intro i;by_cases hi:i<ln l
   ·obtain⟨ga,gc,q1,q2⟩:=hc i hi;exact⟨_,λ_=>⟨ga,gc,rfl,q1,q2⟩⟩
   ·exact⟨[],λh=>absurd h hi⟩
  obtain⟨f,hf⟩:=Classical.axiomOfChoice hx;have hlen:((List.range (ln l)).map f).length=ln l:=Wa;have hat:∀i,i<ln l->((List.range (ln l)).map f).getD i []=f i:=by
   intro i hi;simp[Vv,hi]
  refine⟨(List.range (ln l)).map f,⟨hlen,λi hi=> ?_⟩,?_,h2,λ_=>⟨b,off,e,hb,λi hi j hj=> ?_⟩⟩
  ·obtain⟨ga,gc,q1,q2,q3⟩:=hf i hi;exact⟨ga,gc,(hat i hi).trans q1,q3⟩
  ·rw[hlen];exact h1
  ·rw[hlen] at hi;obtain⟨ga,gc,q1,q2,q3⟩:=hf i hi;rw[hat i hi];exact q2 j hj
 ·have:l=[]:=List.eq_nil_of_length_eq_zero V7;subst this;exact⟨[],⟨rfl,λi hi=>absurd hi Wa⟩,h1,h2,λh=>absurd h Wa⟩
theorem Lg(h:W.heap[b]?=w.heap[b]?):W.cell? ⟨b,o,Vx⟩=w.cell? ⟨b,o,Vx⟩:=by simp only[World.cell?,h]
theorem sf{X:Nat->Prop}(hb:iD X w c j a)(hcw:c<=w.heap.size):∃rows,qR w c rows j.bars/\bJ 6 w c a.ba a.bc rows/\∀W,Hn X c w W->qR W W.heap.size rows j.bars:=by
 obtain⟨rows,hr,hs⟩:=Mz hb.b;refine⟨rows,hr,hs,λW hO=>⟨hr.1,λi hi=> ?_⟩⟩;obtain⟨b,off,e,hlt,hc⟩:=hs.2.2 (by rw[hr.1];omega);have hX:¬X b:=by
  intro hx;have hbs:b<w.heap.size:=V7;obtain⟨W',hW'⟩:∃W':Vt,W'.heap=w.heap.setIfInBounds b (.cells #[] 0 (0,0)):=⟨{w with heap:=w.heap.setIfInBounds b (.cells #[] 0 (0,0))},rfl⟩;have h3:=(hb.av W' ⟨by rw[hW'];simp,λq _ hq=>by
   have hne:b≠q:=λh=>hq (h▸hx)
   rw[hW'];simp[hne]⟩).b
  have hno:∀o,W'.cell? ⟨b,o,Vx⟩=Vx:=λo=>by unfold World.cell?;rw[hW'];simp[hbs]
  obtain⟨b',off',e',_,hc'⟩:=h3.2.2 V7;rw[e] at e';injection e' with e'
  injection e' with e1 e2
  subst e1;obtain⟨ga,gc,q,_⟩:=hc' 0 V7;have q0:=q 0 V9;rw[hno] at q0;cases q0
 obtain⟨ga,gc,q1,q2⟩:=hr.2 i hi;refine⟨ga,gc,q1,?_⟩;obtain⟨b',off',e',_,hc'⟩:=(hb.av W hO).b.2.2 V7;rw[e] at e';injection e' with e'
 injection e' with e1 e2
 subst e1 e2;obtain⟨ga',gc',q3,q4⟩:=hc' i hi;have k:=q3 5 V9;rw[Lg (hO.2 b hlt hX),hc i (by rw[hr.1];exact hi) 5 V9,q1] at k;simp only[List.getElem?_cons_succ,List.getElem?_cons_zero,Option.some.injEq,Value.slice.injEq] at k;obtain⟨k1,_,k3⟩:=k;subst k1 k3;exact q4
theorem Ro{B:Nat}{rows:List (List Vy)}{l:List Br}(h:qR w B rows l)(hs:bJ 6 w B A cap rows):fT w B A cap l:=by
 obtain⟨h1,h2,h3⟩:=hs;rw[h.1] at h1;refine⟨h1,h2,λhn=> ?_⟩;obtain⟨b,off,e,hb,hc⟩:=h3 (by rw[h.1];exact hn);refine⟨b,off,e,hb,λi hi=> ?_⟩;obtain⟨ga,gc,q1,q2⟩:=h.2 i hi;refine⟨ga,gc,λj hj=> ?_,q2⟩;rw[<-q1];exact hc i (by rw[h.1];exact hi) j hj
theorem qR.snoc{B:Nat}{rows:List (List Vy)}{l:List Br}(h:qR w B rows l)(x:Br)(ga:Option VT)(gc:Nat)(hx:bJ 2 w B ga gc (di x.gaps)):qR w B (rows++[qU x ga gc]) (l++[x]):=by
 refine⟨by simp[h.1],λi hi=> ?_⟩;have hl:=h.1;rw[VM,List.length_singleton] at hi;by_cases q:i<ln l
 ·obtain⟨g1,g2,e,s⟩:=h.2 i q;refine⟨g1,g2,?_,?_⟩
  ·rw[Vv,List.getElem?_append_left V7,Vv,List.getElem?_append_left q,<-Vv,<-Vv];exact e
  ·rw[Vv,List.getElem?_append_left q,<-Vv];exact s
 ·have:i=ln l:=V7;subst this;refine⟨ga,gc,?_,?_⟩
  ·rw[Vv,List.getElem?_append_right V7,hl];simp
  ·simp;exact hx
theorem qR.set{B:Nat}{rows:List (List Vy)}{l:List Br}(h:qR w B rows l)(m:Nat)(x:Br)(ga:Option VT)(gc:Nat)(hx:bJ 2 w B ga gc (di x.gaps)):qR w B (rows.set m (qU x ga gc)) (l.set m x):=by
 refine⟨by simp[h.1],λi hi=> ?_⟩;have hl:=h.1;rw[List.length_set] at hi;by_cases q:m=i
 ·subst q;refine⟨ga,gc,?_,?_⟩
  ·rw[Vv,List.getElem?_set_self V7,Vv,List.getElem?_set_self hi];rfl
  ·rw[Vv,List.getElem?_set_self hi];exact hx
 ·obtain⟨g1,g2,e,s⟩:=h.2 i hi;refine⟨g1,g2,?_,?_⟩
  ·rw[Vv,List.getElem?_set_ne q,Vv,List.getElem?_set_ne q,<-Vv,<-Vv];exact e
  ·rw[Vv,List.getElem?_set_ne q,<-Vv];exact s
theorem qR.put{B:Nat}{rows:List (List Vy)}{l:List Br}(h:qR w B rows l)(i:Int)(x:Br)(ga:Option VT)(gc:Nat)(hx:bJ 2 w B ga gc (di x.gaps)):qR w B (cF rows i (qU x ga gc)) (cF l i x):=by
 unfold cF;rw[h.1];split
 ·exact h.snoc x ga gc hx
 ·exact h.set _ x ga gc hx
theorem qR.erase{B:Nat}{rows:List (List Vy)}{l:List Br}(h:qR w B rows l)(m:Nat):qR w B (rows.eraseIdx m) (l.eraseIdx m):=by
 have hl:=h.1;refine⟨by rw[List.length_eraseIdx,List.length_eraseIdx,hl],λi hi=> ?_⟩;have hi':(if i<m then i else i+1)<ln l:=by
  rw[List.length_eraseIdx] at hi;split at hi<;>split <;>omega
 obtain⟨ga,gc,e,s⟩:=h.2 _ hi';refine⟨ga,gc,?_,?_⟩
 ·rw[Vv,Vv,List.getElem?_eraseIdx,List.getElem?_eraseIdx];rw[Vv,Vv] at e;split <;>rename_i q<;>simp only[q,if_true,if_false] at e<;>exact e
 ·rw[Vv,List.getElem?_eraseIdx];rw[Vv] at s;split <;>rename_i q<;>simp only[q,if_true,if_false] at s<;>exact s
theorem mj{v:Vy}(ho:W1.ownsRow w.heap.size t k v n xs)(hc:c<w.heap.size)(x:Vy):(W1.setCell ⟨c,i,Vx⟩ x).ownsRow w.heap.size t k v n xs:=
 bP ho (λe=>by have:=(az ho c e).1;omega) x
theorem kF{X:Nat->Prop}{c m n k:Nat}{v:Vy}(h:w'.ownsRow m t k v n xs)(hA:AE X c m w' W):W.ownsRow m t k v n xs:=by
 obtain⟨hl,h0|⟨g,cap,cur,rfl,hb,hh,h1⟩⟩:=h
 ·exact YN
 ·exact⟨hl,.inr ⟨g,cap,cur,rfl,hb,(hA.2 g (VF.1 hh).1 (.inr hb)).trans hh,h1⟩⟩
theorem mr{base n cap:Nat}{rows:List (List Vy)}(h:w.ownsRow base e k (VV A n cap) n rows.flatten)(hn:ln rows=n)(hw:de k rows):bJ k w w.heap.size A cap rows:=by
 obtain⟨A',cap',hv,hs⟩:=aK h hn hw;injection hv with h1 h2 h3
 subst h1;subst h3;exact hs
theorem mh{X:Nat->Prop}(hb:iD X w c j a)(hx:Ext w W1)(hlt:c<w.heap.size)(v:Vy):fU c w (W1.setCell ⟨c,i,Vx⟩ v)/\∀W,AE X c w.heap.size (W1.setCell ⟨c,i,Vx⟩ v) W->fg W W.heap.size j a:=by
 have h1:fU c w (W1.setCell ⟨c,i,Vx⟩ v):=(fU.ext hx hlt).put i v;exact⟨h1,λW hA=>hb.to hlt h1.below hA⟩
theorem QR{v:Vy}{l:List kN}(hc:JC w c j a){X:Nat->Prop}(hb:iD X w c j a)(hx:Ext w W1)(ho:W1.ownsRow w.heap.size 57 5 v (bw l).length (bw l).flatten):
  ∃a',nd X c w (W1.setCell ⟨c,5,Vx⟩ v) {j with openings:=l} a':=by
 obtain⟨h1,h2⟩:=mh (i:=5) hb hx hc.lt v;have ho1:=mj (i:=5) ho hc.lt v;obtain⟨A,cap,rfl,_⟩:=aK ho1 rfl (mK l);have hs:=λW (hA:AE X c w.heap.size _ W)=>mr (kF ho1 hA) rfl (mK l)
 rw[VC] at *;exact⟨{a with oa:=A,oc:=cap},h1,(hc.ext hx).put _ rfl,λW hA=>(by
  have h3:=h2 W hA;have HS:=hs W hA;exact⟨h3.p,h3.u,HS,h3.z,h3.b,h3.l,h3.s⟩)⟩
theorem QK{v:Vy}{l:List Int}(hc:JC w c j a){X:Nat->Prop}(hb:iD X w c j a)(hx:Ext w W1)(ho:W1.ownsRow w.heap.size 3 1 v (bG l).length (bG l).flatten):
  ∃a',nd X c w (W1.setCell ⟨c,4,Vx⟩ v) {j with purlins:=l} a':=by
 obtain⟨h1,h2⟩:=mh (i:=4) hb hx hc.lt v;have ho1:=mj (i:=4) ho hc.lt v;obtain⟨A,cap,rfl,_⟩:=aK ho1 rfl (bC (f:=λn=>[VZ VH n]) (λ_=>rfl) l);have hs:=λW (hA:AE X c w.heap.size _ W)=>mr (kF ho1 hA) rfl (bC (f:=λn=>[VZ VH n]) (λ_=>rfl) l)
 rw[VC] at *;exact⟨{a with ua:=A,uc:=cap},h1,(hc.ext hx).put _ rfl,λW hA=>(by
  have h3:=h2 W hA;have HS:=hs W hA;exact⟨h3.p,HS,h3.o,h3.z,h3.b,h3.l,h3.s⟩)⟩
theorem Qq{v:Vy}{l:List Sz}(hc:JC w c j a){X:Nat->Prop}(hb:iD X w c j a)(hx:Ext w W1)(ho:W1.ownsRow w.heap.size 59 3 v (bL l).length (bL l).flatten):
  ∃a',nd X c w (W1.setCell ⟨c,6,Vx⟩ v) {j with sizes:=l} a':=by
 obtain⟨h1,h2⟩:=mh (i:=6) hb hx hc.lt v;have ho1:=mj (i:=6) ho hc.lt v;obtain⟨A,cap,rfl,_⟩:=aK ho1 rfl (bC (f:=GF) (λ_=>rfl) l);have hs:=λW (hA:AE X c w.heap.size _ W)=>mr (kF ho1 hA) rfl (bC (f:=GF) (λ_=>rfl) l)
 rw[VC] at *;exact⟨{a with za:=A,zc:=cap},h1,(hc.ext hx).put _ rfl,λW hA=>(by
  have h3:=h2 W hA;have HS:=hs W hA;exact⟨h3.p,h3.u,h3.o,HS,h3.b,h3.l,h3.s⟩)⟩
theorem Qw{v:Vy}{l:List Ld}(hc:JC w c j a){X:Nat->Prop}(hb:iD X w c j a)(hx:Ext w W1)(ho:W1.ownsRow w.heap.size 64 3 v (bW l).length (bW l).flatten):
  ∃a',nd X c w (W1.setCell ⟨c,13,Vx⟩ v) {j with aG:=l} a':=by
 obtain⟨h1,h2⟩:=mh (i:=13) hb hx hc.lt v;have ho1:=mj (i:=13) ho hc.lt v;obtain⟨A,cap,rfl,_⟩:=aK ho1 rfl (oJ l);have hs:=λW (hA:AE X c w.heap.size _ W)=>mr (kF ho1 hA) rfl (oJ l)
 rw[VC] at *;exact⟨{a with la:=A,lc:=cap},h1,(hc.ext hx).put _ rfl,λW hA=>(by
  have h3:=h2 W hA;have HS:=hs W hA;exact⟨h3.p,h3.u,h3.o,h3.z,h3.b,HS,h3.s⟩)⟩
theorem M3{v:Vy}{l:List Aw}(hc:JC w c j a){X:Nat->Prop}(hb:iD X w c j a)(hx:Ext w W1)(ho:W1.ownsRow w.heap.size 66 5 v (bF l).length (bF l).flatten):
  ∃a',nd X c w (W1.setCell ⟨c,14,Vx⟩ v) {j with spans:=l} a':=by
 obtain⟨h1,h2⟩:=mh (i:=14) hb hx hc.lt v;have ho1:=mj (i:=14) ho hc.lt v;obtain⟨A,cap,rfl,_⟩:=aK ho1 rfl (bC (f:=j9) (λ_=>rfl) l);have hs:=λW (hA:AE X c w.heap.size _ W)=>mr (kF ho1 hA) rfl (bC (f:=j9) (λ_=>rfl) l)
 rw[VC] at *;exact⟨{a with sa:=A,sc:=cap},h1,(hc.ext hx).put _ rfl,λW hA=>(by
  have h3:=h2 W hA;have HS:=hs W hA;exact⟨h3.p,h3.u,h3.o,h3.z,h3.b,h3.l,HS⟩)⟩
theorem Qv{v:Vy}{l:List Br}{rows:List (List Vy)}(hc:JC w c j a){X:Nat->Prop}(hb:iD X w c j a)(hx:Ext w W1)(hr:qR w c rows l)(hrv:∀W,Hn X c w W->qR W W.heap.size rows l)(ho:W1.ownsRow w.heap.size 62 6 v (ln rows) rows.flatten):
  ∃a',nd X c w (W1.setCell ⟨c,7,Vx⟩ v) {j with bars:=l} a':=by
 obtain⟨h1,h2⟩:=mh (i:=7) hb hx hc.lt v;have ho1:=mj (i:=7) ho hc.lt v;obtain⟨A,cap,rfl,_⟩:=aK ho1 rfl hr.wide;have hs:=λW (hA:AE X c w.heap.size _ W)=>mr (kF ho1 hA) rfl hr.wide
 have hq:=λW (hA:AE X c w.heap.size (W1.setCell ⟨c,7,Vx⟩ (VV A (ln rows) cap)) W)=>hrv W ⟨by have:=h1.below.size;have:=hA.1;omega,λb hb hx=>(hA.2 b (by have:=h1.below.size;have:=hc.lt;omega) (.inl ⟨hb,hx⟩)).trans (h1.below.block b hb)⟩
 have hl:=hr.1;refine⟨{a with ba:=A,bc:=cap},h1,(hc.ext hx).put _ (by rw[hl];rfl),λW hA=> ?_⟩;have h3:=h2 W hA;exact⟨h3.p,h3.u,h3.o,h3.z,Ro (hq W hA) (hs W hA),h3.l,h3.s⟩
end
section
open Kp
attribute [local go_sem] bM jQ jK jJ jO jN jR jL jP jS jU gi fX fZ gj gw
attribute [local go_sem] aM fH iy gU iA ik gW gV im
def H7:(prog.info? 80).map (λi=>(i.zero,i.size,i.bytes))=Vz (Vz (VV Vx 0 0),1,24):=V8
abbrev wB(e:Ed):Sd:=⟨e.sx,e.sy,e.srise,e.srun,e.gable,e.splate,e.sover⟩
def yW(rs:List (List Sd))(n:Int):Nat->Int×Bool
 |0=>(n,Vw)
 |k+1=>(VH.wrap ((yW rs n k).1-((rs.getD k []).length:Int)),(yW rs n k).2||(!(yW rs n k).2&&decide ((yW rs n k).1<((rs.getD k []).length:Int))))
def gH(rs:List (List Sd))(n:Int)(s:Sd)(k:Nat):List Sd:=
 if !(yW rs n k).2&&decide ((yW rs n k).1<((rs.getD k []).length:Int)) then(rs.getD k []).set (yW rs n k).1.toNat s else rs.getD k []
def fR(rs:List (List Sd))(n:Int)(s:Sd):List (List Sd):=(List.range (ln rs)).map (gH rs n s)
def o8(rs:List (List Sd))(n:Int):Int:=if n<0 then 6 else if(yW rs n (ln rs)).2 then 0 else 6
def ur(rs:List (List Sd))(n:Int)(s:Sd)(k:Nat):(gH rs n s k).length=(rs.getD k []).length:=by
 unfold gH;split <;>simp
theorem uf(rs:List (List Sd))(n:Int)(s:Sd)(hk:k<ln rs):(fR rs n s).getD k []=gH rs n s k:=by
 unfold fR;simp[Vv,hk]
def ki(rs:List (List Sd))(n:Int)(s:Sd):(fR rs n s).length=ln rs:=by unfold fR;simp
def Oo{rs:List (List Sd)}{n:Int}(h0:0<=n)(hn:n<=9223372036854775807)(hl:∀k,(rs.getD k []).length<=1000):∀k,(yW rs n k).2=Vw->0<=(yW rs n k).1/\(yW rs n k).1<=n:=by
 intro k
 induction k with
 |zero=>intro _;exact⟨h0,Int.le_refl _⟩
 |succ k ih=>
  intro h;simp only[yW,Bool.or_eq_false_iff] at h;obtain⟨h1,h2⟩:=h;obtain⟨a,b⟩:=ih h1;rw[h1] at h2;simp only[Bool.not_false,Bool.true_and,decide_eq_false_iff_not] at h2;have hw:VH.wrap ((yW rs n k).1-((rs.getD k []).length:Int))=(yW rs n k).1-((rs.getD k []).length:Int):=VQ _ V7;simp only[yW];rw[hw];omega
theorem Dx{B n k q:Nat}(h:w.ownsRow B t k V n xs)(hq:w.heap.size<=q\/V.ownBlock≠Vz q)(cs:Array Vy):(w.setRow q cs).ownsRow B t k V n xs:=by
 obtain⟨hl,h0|⟨g,cap,cur,rfl,hb,hh,h1⟩⟩:=h
 ·exact YN
 ·refine⟨hl,.inr ⟨g,cap,cur,rfl,hb,?_,h1⟩⟩;have hne:q≠g:=by
   intro e;subst e;rcases hq with hq|hq
   ·have:=(VF.1 hh).1;omega
   ·exact hq rfl
  have:(w.setRow q cs).heap[g]?=w.heap[g]?:=by simp only[World.setRow,Array.getElem?_modify];rw[if_neg hne]
  exact this.trans hh
theorem mc{B n k q:Nat}{t t':VR}{xs cs:_}(h:w.ownsRow B t k V n xs)(hq:w.heap[q]?=Vz (.cells cs t' (0,0)))(hne:t≠t'):V.ownBlock≠Vz q:=by
 intro e;obtain⟨hl,⟨rfl,_⟩|⟨g,cap,cur,rfl,hb,hh,h1⟩⟩:=h
 ·cases e
 ·have e2:g=q:=by simpa[Value.ownBlock] using e
  subst e2;rw[hh] at hq;injection hq with hq
  injection hq with _ h3
  exact hne h3
structure UZ(W0:Vt)(pb:Nat)(rs:List (List Sd))(n:Int)(s:Sd)(k:Nat)(wr:Vt):Prop where
 ext:Ext W0 wr
 mem:∃v vals,Bx wr pb 24 v/\wr.ownsRow W0.heap.size 80 1 v k vals/\ln vals=k/\∀i,i<k->wr.ownsRow W0.heap.size 54 7 (vals.getD i VB) (gH rs n s i).length (aD (gH rs n s i)).flatten
theorem MS{r:List Sd}{b B:Nat}(h:w.ownsRow b 54 7 V (ln r) (aD r).flatten)(hB:w.heap.size<=B):∃A c,V=VV A (ln r) c/\bJ 7 w B A c (aD r):=by
 obtain⟨A,c,e,hs⟩:=aK h (VC _) (dG r);exact⟨A,c,e,hs.more hB⟩
theorem rg_of{v:Vy}{rs':List (List Sd)}(ho:w.ownsRow B0 80 1 v (ln rs') vals)(hl:ln vals=ln rs')
  (hr:∀i,i<ln rs'->w.ownsRow B0 54 7 (vals.getD i VB) (rs'.getD i []).length (aD (rs'.getD i [])).flatten):∃A cap,v=VV A (ln rs') cap/\fj w w.heap.size A cap rs':=by
 obtain⟨hl2,⟨rfl,h0⟩|⟨g,cap,cur,rfl,hb,hh,h1,h2,h3,h4⟩⟩:=ho
 ·exact YP
 ·refine⟨_,cap,rfl,h1,h2,λhp=>⟨g,0,rfl,(VF.1 hh).1,λi hi=> ?_⟩⟩;obtain⟨A,c,e,hs⟩:=MS (hr i hi) (Vu _);refine⟨A,c,?_,hs⟩;have hc:cur[i]?=vals[i]?:=by
   rw[<-h4,List.getElem?_take,if_pos V7];simp
  rw[Nat.zero_add];simp only[World.cell?,hh];rw[Vv,VA V7] at e;simp only[Option.getD_some] at e;simp only[hc];rw[VA V7,e]
  rfl
theorem zb{W0 wr W1 w2:Vt}{rs:List (List Sd)}{n:Int}{s:Sd}{v v' V1:Vy}(hx:Ext W0 wr)(hbx:Bx wr pb 24 v)(ho:wr.ownsRow W0.heap.size 80 1 v k vals)(hl:ln vals=k)
  (hr:∀i,i<k->wr.ownsRow W0.heap.size 54 7 (vals.getD i VB) (gH rs n s i).length (aD (gH rs n s i)).flatten)(h1:Ext wr W1)
  (hV:W1.ownsRow W0.heap.size 54 7 V1 (gH rs n s k).length (aD (gH rs n s k)).flatten)(hown:w2.ownsRow W0.heap.size 80 1 v' (k+1) (vals++[V1]))(hg:W1.grownBy w2 v.ownBlock)(hpb:W0.heap.size<=pb):
  UZ W0 pb rs n s (k+1) (w2.setCell ⟨pb,0,Vx⟩ v'):=by
 have ho1:=aO ho h1;have hb1:=hbx.below h1 hbx.lt;have hb2:=hb1.grown ho1 hg V9;have key:∀V m xs,W1.ownsRow W0.heap.size 54 7 V m xs->(w2.setCell ⟨pb,0,Vx⟩ v').ownsRow W0.heap.size 54 7 V m xs:=by
  intro V m xs h;have h2:=kv h ho1 hg V9;exact bP h2 (mc (q:=pb) (t':=24) (cs:=#[v]) h2 hb2 V9) _
 refine⟨(ei (hx.tr h1) hg (λq hq=>(az ho1 q hq).1)).setCell hpb _,v',vals++[V1],hb2.put _,bP hown (mc (q:=pb) (t':=24) (cs:=#[v]) hown hb2 V9) _,by simp[hl],λi hi=> ?_⟩;by_cases hik:i<k
 ·rw[Vv,List.getElem?_append_left V7,<-Vv];exact key _ _ _ (aO (hr i hik) h1)
 ·obtain rfl:i=k:=V7;rw[Vv,List.getElem?_append_right V7,hl];simpa using key _ _ _ hV
def Js(w:Vt)(c:Nat)(j:bI)(a:dS)(e:Ed)(g:Vy)(hc:JC w c j a){X:Nat->Prop}(hb:iD X w c j a)(hlen:ln j.rings<=1000)(hle:∀k,(j.rings.getD k []).length<=1000)(hn:e.index<=9223372036854775807):
  VJ prog 88 #[VY (Vz ⟨c,0,Vx⟩),V5 (aE e g)] w λx w'=>x=V0 (VZ VH (o8 j.rings e.index))/\fU c w w'/\(o8 j.rings e.index=0->∃a',nd X c w w' {j with rings:=fR j.rings e.index (wB e)} a'):=by
 have hlt:=hc.lt;obtain⟨W0,hW0⟩:∃W0,w.alloc (.cells (aE e g) 68)=W0:=⟨_,rfl⟩;have HZ:EC W0 w.heap.size (aE e g):=WU;have e0:Ext w W0:=Wt;have hJ:=hc.ext e0;have z1:=HZ.cell 1;have HJ:=Vs hJ;have HE0:=Vs e0;have HZ':=Vs HZ;by_cases h0:e.index<0
 ·have hE:o8 j.rings e.index=6:=by unfold o8;rw[if_pos h0]
  have t0:decide (e.index<0)=VD:=decide_eq_true h0;rw[hE];have HB:=Vs (fU.ext e0 hlt:fU c w W0);clear hc hb hJ HZ e0 h0 hE;subst hW0;go_enter func88,ntmps88;go_wp2;go_ret;exact⟨rfl,HB.o,λh=>absurd h V9⟩
 have hE:o8 j.rings e.index=if(yW j.rings e.index (ln j.rings)).2 then 0 else 6:=by unfold o8;rw[if_neg h0]
 have t0:decide (e.index<0)=Vw:=decide_eq_false h0;have HPOS:=Vs (Oo (rs:=j.rings) (n:=e.index) V7 hn hle);have HR:=Vs (λ(W:Vt) (h:Ext W0 W)=>(((hb.p.below ((e0.tr h).mono (Nat.le_of_lt hlt))).more (VI (Nat.le_of_lt hlt) (e0.tr h).size)):fj W W.heap.size a.pa a.pc j.rings));have HLE:=Vs hle;have HEE:=Vs hE;have HF:=Vs (λ(W1:Vt) (v:Vy) (A:Option VT) (cap:Nat) (hv:v=VV A (fR j.rings e.index (wB e)).length cap) (hx:Ext W0 W1) (hrs:∀W,AE X c w.heap.size (W1.setRow c (putAt (cQ j a) 1 #[v])) W->fj W W.heap.size A cap (fR j.rings e.index (wB e)))=>(show∃a',nd X c w (W1.setRow c (putAt (cQ j a) 1 #[v])) {j with rings:=fR j.rings e.index (wB e)} a' from by
  have h1:fU c w (W1.setRow c (putAt (cQ j a) 1 #[v])):=(fU.ext (e0.tr hx) hlt).row _;have h2:=λW (hA:AE X c w.heap.size (W1.setRow c (putAt (cQ j a) 1 #[v])) W)=>hb.to hlt h1.below hA
  subst hv;refine⟨{a with pa:=A,pc:=cap},h1,setRow_heap ((hc.ext (e0.tr hx))) _,λW hA=> ?_⟩;have h3:=h2 W hA;exact⟨hrs W hA,h3.u,h3.o,h3.z,h3.b,h3.l,h3.s⟩))
 obtain⟨i0,hi0,hz0,hz1,hz2⟩:=info_parts H7;have I0:=Vs hi0;have I1:=Vs hz0;have I2:=Vs hz1;have I3:=Vs hz2;have HBl:=Vs (λ(W1:Vt) (h:Ext W0 W1)=>(fU.ext (e0.tr h) hlt:fU c w W1));have hr1:=hb.p.1;have hr2:=hb.p.2.1;unfold VP at hr2;have z1':=λW (h:Ext W0 W)=>(HZ.ext h).cell 1
 have k1:=hJ.cell 1;have HN:=Vs hW0;have q1:(((w.alloc (.cells (aE e g) 68)).alloc (.cells #[VV Vx 0 0] 24)).setCell ⟨(w.alloc (.cells (aE e g) 68)).heap.size,0,Vx⟩ (VV Vx 0 0)).cell? ⟨c,1,Vx⟩=(cQ j a)[1]?:=by rw[hW0];exact(HJ.o.ext (((Below.refl _ _).alloc (Vu _) _).setCell (Vu _) _)).cell 1
 clear hc hb hJ HZ e0 h0 hE hi0 hz0 hz1 hz2 hn hle;subst hW0;go_enter func88,ntmps88;go_wp2_with fail
 have HS0:=Vs (show(w.alloc (.cells (aE e g) 68)).heap.size=w.heap.size+1 by simp);obtain⟨W0,hW0⟩:∃W0,w.alloc (.cells (aE e g) 68)=W0:=⟨_,rfl⟩;rw[hW0] at HJ HE0 HZ' HS0;simp only[hW0] at HR HF HBl z1'⊢;clear hW0 HN q1 k1 z1;obtain⟨pa,hpa⟩:∃x,a.pa=x:=⟨_,rfl⟩;simp only[hpa] at HR⊢;clear hpa;have HPB:=Vs (show W0.heap.size<=w.heap.size+1 by rw[HS0.o];exact Vu _);go_loopw [5,7,22] (λat_ f_ i wr=>∃(k:Nat) (z:Int) (f:Bool),k<=ln j.rings/\i=VZ VH (k:Int)/\at_=VZ VH z/\f_=VX f/\yW j.rings e.index k=(z,f)/\UZ W0 (w.heap.size+1) j.rings e.index (wB e) k wr) (λ_ _ i _=>((ln j.rings:Int)-VN i).toNat)
 case atStart=>exact⟨0,_,_,V7,rfl,rfl,rfl,rfl,(Below.refl _ _).alloc (Vu _) _,_,[],Bx.at_ HS0.o,⟨rfl,.inl ⟨rfl,rfl⟩⟩,rfl,λi hi=>absurd hi V7⟩
 case round=>
  obtain⟨k,z,f,hk,rfl,rfl,rfl,hzf,hx,v,vals,hbx,ho,hvl,hvr⟩:=hrel;by_cases hlt2:k<ln j.rings
  ·obtain⟨b,off,rfl,hB,hcell⟩:=(HR.o wr hx).2.2 V7;obtain⟨Ai,ci,c1,hsl⟩:=hcell k hlt2;have hd:=HLE.o k;have hpos:=HPOS.o k;obtain⟨ring,hring⟩:∃r,j.rings.getD k []=r:=⟨_,rfl⟩;have hA1:yW j.rings e.index (k+1)=(VH.wrap (z-(ln ring:Int)),f||(!f&&decide (z<(ln ring:Int)))):=by simp only[yW];rw[hzf,hring]
   have hRG:gH j.rings e.index (wB e) k=if !f&&decide (z<(ln ring:Int)) then ring.set z.toNat (wB e) else ring:=by unfold gH;rw[hzf,hring]
   rw[hring] at c1 hsl hd;rw[hzf] at hpos;have KC:=Ok wr Ai ci (aD ring) hsl (dG _) (Rx _) (by rw[VC];omega);rw[VC] at KC;have KC:=Vs KC;have HX:=Vs hx;have HBX:=Vs hbx;have HO:=Vs ho;have HVL:=Vs hvl;have HVR:=Vs hvr;have hbz:=hbx.cell;clear hx hbx ho hvl hvr hcell hsl hring hzf;cases f with
   |true=>
    have HA1:=Vs hA1;have HRG:=Vs (hRG.trans (by rw[Bool.not_true,Bool.false_and];rfl):gH j.rings e.index (wB e) k=ring);exact ZE
   |false=>
    by_cases hz:z<(ln ring:Int)
    ·obtain⟨p1,p2⟩:=hpos rfl;have t1:decide (z<(ln ring:Int))=VD:=decide_eq_true hz;rw[t1] at hA1 hRG;dsimp only at p1;obtain⟨m,rfl⟩:∃m:Nat,z=(m:Int):=⟨z.toNat,V7⟩;have HML:=Vs (show m<ln ring by omega);rw[show VH.wrap ((m:Int)-(ln ring:Int))=(m:Int)-(ln ring:Int) from VQ _ V7] at hA1;have HA1:=Vs hA1;have HRG:=Vs (hRG.trans Wl:gH j.rings e.index (wB e) k=ring.set m (wB e));clear hA1 hRG hpos p2;go_wp2_with(first
      |(refine wpList_append_own _ rfl _ _ 22 rfl W0.heap.size 80 i0 (VV Vx 0 0) 1 24 underlying22 I0.o I1.o I2.o I3.o rfl V9 _ _ _ rfl HO2.o ⟨W1.heap.size,0,Vx⟩ 1 1 [VV (Vz ⟨gg,0,Vx⟩) (ln ring) cp] rfl rfl (Vt.news_of_block (cs:=#[VV (Vz ⟨gg,0,Vx⟩) (ln ring) cp]) (t:=80) (fr:=(0,0)) NB.o) Xx Wh V7 (VI HX.o.size HW2.o.size) ?_;intro v' w2 hown hgrow _;have HOW:=Vs hown;have HGR:=Vs hgrow;obtain⟨A3,n3,c3,hv3⟩:=ng.of hown;subst hv3;have b3:=((HBX.o.below HW2.o HBX.o.lt).grown HO2.o hgrow V9).cell;have f3:=((HBX.o.below HW2.o HBX.o.lt).grown HO2.o hgrow V9).frozen;clear hown hgrow)
      |(refine dW rfl 54 _ _ rfl _ _ _ rfl rfl 54 _ HH1.o V8 HS.o V8 ?_;have hW:=ah (n:=gg) HX1.o HGB.o (putAt cur (m*7) #[VZ VH e.sx,VZ VH e.sy,VZ VH e.srise,VZ VH e.srun,VX e.gable,VZ VH e.splate,VZ VH e.sover]);have b1:=(HBX.o.below hW HBX.o.lt).cell;have HW2:=Vs (Ext.tr hW ((Below.refl _ _).alloc (Vu _) (.cells #[(VV (Vz ⟨gg,0,Vx⟩) (ln ring) cp)] 80)));have b2:=(HBX.o.below HW2.o HBX.o.lt).cell;have HO2:=Vs (aO HO.o HW2.o);have NB:=Vs (Bx.at_ (W:=(W1.setRow gg (putAt cur (m*7) #[VZ VH e.sx,VZ VH e.sy,VZ VH e.srise,VZ VH e.srun,VX e.gable,VZ VH e.splate,VZ VH e.sover]))) (t:=80) (v:= VV (Vz ⟨gg,0,Vx⟩) (ln ring) cp) (n:=W1.heap.size) Wa);have HV1:=Vs (aO (mO (k:=7) (x:=ni (wB e)) (VI HX.o.size HGB.o) HH1.o HQ1.o HQ2.o HQ3.o HQ4.o (VC _) (dG ring) rfl HML.o) ((Below.refl _ _).alloc (Vu _) (.cells #[(VV (Vz ⟨gg,0,Vx⟩) (ln ring) cp)] 80)));clear hW)
      |(go_at_call 149;go_must(refine KC.o.mono ?_);rintro e W1 ⟨v1,rfl,ho1,hX1⟩;obtain⟨gg,cp,cur,rfl,hgb,hh,q1,q2,q3,q4⟩:=kH ho1 V7;have HH1:=Vs hh;have HQ1:=Vs q1;have HQ2:=Vs q2;have HQ3:=Vs q3;have HQ4:=Vs q4;have HGB:=Vs hgb;have HX1:=Vs hX1;have HS:=Vs (show m*7+7<=cur.size by rw[q3];omega);have zz:=λi=>(HZ'.o.ext (HX.o.tr hX1)).cell i;clear ho1 hX1 hh q1 q2 q3 q4 hgb))
     go_round
     case rel=>exact⟨k+1,_,_,V7,by go_num,rfl,rfl,HA1.o.trans (by first|rfl|simp[IntWalk.i64_left]),zb HX.o HBX.o HO.o HVL.o HVR.o HW2.o (by rw[HRG.o,List.length_set,show aD (ring.set m (wB e))=(aD ring).set m (ni (wB e)) from List.map_set ..];exact HV1.o) HOW.o HGR.o HPB.o⟩
     case measure=>simp[VN];omega
    ·have t1:decide (z<(ln ring:Int))=Vw:=decide_eq_false hz;rw[t1] at hA1 hRG;have HA1:=Vs hA1;have HRG:=Vs (hRG.trans Wl:gH j.rings e.index (wB e) k=ring);exact ZE
  ·obtain rfl:k=ln j.rings:=V7;have hEE:=HEE.o;rw[hzf] at hEE;have HX:=Vs hx;have hbz:=hbx.cell;cases f with
   |false=>
    have HE6:=Vs (hEE.trans Wl:o8 j.rings e.index=6);clear hbx ho hvl hvr hx hzf hEE;go_wp2;go_ret;exact⟨by rw[HE6.o];rfl,HBl.o _ HX.o,λh=>absurd (HE6.o.symm.trans h) V9⟩
   |true=>
    have HE6:=Vs (hEE.trans Wl:o8 j.rings e.index=0);have HBX:=Vs hbx;have HO:=Vs ho;have HVL:=Vs hvl;have HVR:=Vs hvr;have HJ2:=Vs (HJ.o.ext hx);obtain⟨A1,n1,c1,hv⟩:=ng.of ho;subst hv;clear hbx ho hvl hvr hx hzf hEE;go_wp2_with(refine dW rfl 24 _ _ rfl _ _ _ rfl rfl 34 _ HJ2.o V8 (Nat.le_of_ble_eq_true V8) V8 ?_)
    go_ret;have ho2:=HO.o;have hr2:∀i,i<(fR j.rings e.index (wB e)).length->wr.ownsRow W0.heap.size 54 7 (vals.getD i VB) ((fR j.rings e.index (wB e)).getD i []).length (aD ((fR j.rings e.index (wB e)).getD i [])).flatten:=by
     intro i hi;rw[ki] at hi;rw[uf _ _ _ hi];exact HVR.o i hi
    rw[<-ki j.rings e.index (wB e)] at ho2;obtain⟨A2,cap2,hv2,_⟩:=rg_of ho2 (by rw[HVL.o,ki]) hr2;have hrg:∀W,AE X c w.heap.size (wr.setRow c (putAt (cQ j a) 1 #[VV A1 n1 c1])) W->fj W W.heap.size A2 cap2 (fR j.rings e.index (wB e)):=by
     intro W hA;have hA':AE X c W0.heap.size (wr.setRow c (putAt (cQ j a) 1 #[VV A1 n1 c1])) W:=⟨hA.1,λb h1 h2=>hA.2 b h1 (h2.imp id (VI HE0.o.size))⟩;have hfar:∀{V:Vy} {t:VR} {q m:Nat} {xs:List Vy},wr.ownsRow W0.heap.size t q V m xs->W.ownsRow W0.heap.size t q V m xs:=λh=>kF (Dx h (.inr (λe=>by have:=(az h c e).1;have:=HE0.o.size;omega)) _) hA'
     obtain⟨A3,cap3,hv3,hrg3⟩:=rg_of (hfar ho2) (by rw[HVL.o,ki]) (λi hi=>hfar (hr2 i hi));obtain⟨rfl,rfl⟩:A2=A3/\cap2=cap3:=by rw[hv2] at hv3;injection hv3 with h1 h2 h3;exact⟨h1,h3⟩
     exact hrg3
    exact⟨by rw[HE6.o];rfl,(HBl.o _ HX.o).row _,λ_=>HF.o wr _ A2 cap2 hv2 HX.o hrg⟩
end
section
open Kp
attribute [local go_sem] bM jQ jK jJ jO jN jR jL jP jS jU gi fX fZ gj gw
attribute [local go_sem] aM eS eI eM eJ eX
def RE(l:List Aw)(x:Aw)(f:Nat):∀lo hi,lo<=hi->JI l x f lo hi<=hi:=by
 induction f with
 |zero=>intro lo hi h;exact h
 |succ f ih=>
  intro lo hi h;unfold JI;split
  ·split
   ·exact ih _ _ V7
   ·exact VI (ih _ _ V7) V7
  ·exact h
def Rk(l:List Aw)(x:Aw):JL l x<=ln l:=RE l x _ 0 _ (Nat.zero_le _)
theorem JC.Tk(h:JC w c j a)(hn:c≠n)(cs:Array Vy):JC (w.setRow n cs) c j a:=by
 exact YH
def xr(l:List Aw)(x:Aw):List Aw:=if NZ l x then l.set (JL l x) x else dn l (JL l x) x
abbrev sK(e:Ed):Aw:=⟨e.awidth,e.adepth,e.aspacing,e.aload,e.aspan⟩
def Iv(w:Vt)(c:Nat)(j:bI)(a:dS)(e:Ed)(g:Vy)(hc:JC w c j a){X:Nat->Prop}(hb:iD X w c j a)(hlen:ln j.spans<=1000000):
  VJ prog 100 #[VY (Vz ⟨c,0,Vx⟩),V5 (aE e g)] w λx w'=>x=V0 (VZ VH 0)/\∃a',nd X c w w' {j with spans:=xr j.spans (sK e)} a':=by
 have hlt:=hc.lt;obtain⟨W0,hW0⟩:∃W0,w.alloc (.cells (aE e g) 68)=W0:=⟨_,rfl⟩;have HZ:EC W0 w.heap.size (aE e g):=WU;have e0:Ext w W0:=Wt;have hJ:=hc.ext e0;have KC:=(F9 W0 a.sa a.sc (bF j.spans) ((hb.s.below (e0.mono (Nat.le_of_lt hlt))).more (VI (Nat.le_of_lt hlt) e0.size)) (bC (f:=j9) (λ_=>rfl) _) (Ey _) Xo);rw[VC] at KC;have KC:=Vs KC;have HW5:=Vs (bC (f:=j9) (λ_=>rfl) j.spans:de 5 (bF j.spans));have KS:=Vs (λ(W:Vt) (A:Option VT) (cap:Nat) (h:bJ 5 W W.heap.size A cap (bF j.spans))=>Kn W A cap j.spans (sK e) h hlen);have hI:=Rk j.spans (sK e);have hF:NZ j.spans (sK e)=VD->JL j.spans (sK e)<ln j.spans:=λh=>by
  unfold NZ at h;rw[Bool.and_eq_true] at h;exact of_decide_eq_true h.1
 have hP:xr j.spans (sK e)=if NZ j.spans (sK e) then j.spans.set (JL j.spans (sK e)) (sK e) else dn j.spans (JL j.spans (sK e)) (sK e):=rfl;obtain⟨m,hm⟩:∃m,JL j.spans (sK e)=m:=⟨_,rfl⟩;obtain⟨d,hd⟩:∃d,NZ j.spans (sK e)=d:=⟨_,rfl⟩;rw[hm] at hI hF hP;rw[hd] at hF hP;simp only[hm,hd] at KS;rw[hP];have HJ:=Vs hJ;have HE0:=Vs e0;have HZ':=Vs HZ;have HW:=Vs hW0;have q14:=hJ.cell 14;have z:=λi=>HZ.cell i
 have HL:=Vs (show(bF j.spans).length=ln j.spans by exact VC _);have HLN:=Vs hlen;cases d with
 |true=>
  have hml:=hF rfl;have HML:=Vs hml;have hm0:(m:Int)<(ln j.spans:Int):=V7;rw[if_pos rfl];have HF:=Vs (λ(W1:Vt) (v:Vy) (hx:Ext w W1) (ho:W1.ownsRow w.heap.size 66 5 v (bF j.spans).length ((bF j.spans).set m (j9 (sK e))).flatten)=>M3 (l:=j.spans.set m (sK e)) hc hb hx (by
   have he:(bF j.spans).set m (j9 (sK e))=bF (j.spans.set m (sK e)):=by simp[List.map_set]
   rw[he,HL.o] at ho;rw[VC,List.length_set];exact ho))
  clear hc hb hJ HZ e0 hm hd hP hF hlen HW;subst hW0;go_enter func100,ntmps100;go_wp2_with(first
   |(refine dW rfl 66 _ _ rfl _ _ _ rfl rfl 66 _ HH2.o V8 HS.o V8 ?_;have HJ3:=Vs ((HJ.o.ext (HX2.o)).Tk HNE.o (putAt cur (m*5) #[VZ VH e.awidth,VZ VH e.adepth,VZ VH e.aspacing,VZ VH e.aload,VZ VH e.aspan]));have q3:=HJ3.o.cell 14;have f3:=HJ3.o.frozen 14)
   |(go_at_call 160;have hs0:=hs1;clear hs1;refine(KS.o _ _ _ hs0).mono ?_;rintro e W2 ⟨rfl,hX2⟩;have z2:=λi=>(HZ'.o.ext (HX1.o.tr hX2)).cell i;have HH2:=Vs ((hX2.block gg (VF.1 HH.o).1).trans HH.o);have HX2:=Vs (HX1.o.tr hX2);clear hX2)
   |(go_at_call 159;go_must(refine KC.o.mono ?_);rintro e W1 ⟨v,rfl,ho,hX⟩;have hsl:=aK ho HL.o HW5.o;obtain⟨gg,cp,cur,rfl,hb,hh,q1,q2,q3,q4⟩:=kH ho V7;have HH:=Vs hh;have HQ:=Vs q3;have HCF:=Vs q4;have HX1:=Vs hX;have HB:=Vs hb;have HS:=Vs (show m*5+5<=cur.size by rw[q3];omega);obtain⟨A',cap',hv,hs1⟩:=hsl;obtain⟨rfl,rfl⟩:Vz ⟨gg,0,Vx⟩=A'/\cp=cap':=(by injection hv with h1 h2 h3;exact⟨h1,h3⟩);have z1:=λi=>(HZ'.o.ext hX).cell i;have HNE:=Vs (show c≠gg by have:=HE0.o.size;omega);have HWG:=Vs (show w.heap.size<=gg by have:=HE0.o.size;omega);have HQ1:=Vs q1;have HQ2:=Vs q2;clear ho hh q1 q2 q3 q4 hX hb hv))
  go_ret;exact⟨rfl,HF.o _ _ (ah (HE0.o.tr HX2.o) HWG.o _) (by rw[HL.o];exact mO HWG.o HH2.o HQ1.o HQ2.o HQ.o HCF.o HL.o HW5.o rfl HML.o)⟩
 |false=>
  rw[if_neg V9];have hpm:dn (bF j.spans) m (j9 (sK e))=bF (dn j.spans m (sK e)):=by unfold dn;simp[List.map_take,List.map_drop]
  have HF:=Vs (λ(W1:Vt) (v:Vy) (hx:Ext w W1) (ho:W1.ownsRow w.heap.size 66 5 v (ln j.spans+1) (dn (bF j.spans) m (j9 (sK e))).flatten)=>M3 (l:=dn j.spans m (sK e)) hc hb hx (by
   rw[hpm] at ho;rw[VC,me _ _ _ hI];exact ho))
  have HI:=Vs hI;clear hc hb hJ HZ e0 hm hd hP hF hlen HW hI hpm;have KI:=Vs (λ(W:Vt) (v:Vy) (vb:Nat) (hx:Ext W0 W) (ho:W.ownsRow W0.heap.size 66 5 v (ln j.spans) (bF j.spans).flatten) (hr:ai W vb 66 (j9 (sK e))) (hne:v.ownBlock≠Vz vb)=>
   LR W W0.heap.size (ln j.spans) m vb 1 v (bF j.spans) (j9 (sK e)) ho HL.o HW5.o (Ey _) rfl (by intro u hu;simp at hu;rcases hu with rfl|rfl|rfl|rfl|rfl<;>rfl) hr hne HI.o HLN.o hx.size)
  subst hW0;go_enter func100,ntmps100;go_wp2_with(first
   |(go_at_call 162;have hq0:=hq2;clear hq2;refine(KI.o _ _ _ (HX2.o.tr ((Below.refl _ _).alloc (Vu _) _)) (aO hq0.o ((Below.refl _ _).alloc (Vu _) _)) (ai.new _ _ _) (λh=>by have:=(az hq0.o _ h).2;omega)).mono ?_;rintro e W3 ⟨v3,rfl,ho3,hX3⟩;obtain⟨A3,n3,c3,hv3⟩:=ng.of ho3;have HX3:=Vs (((HX2.o.tr ((Below.refl _ _).alloc (Vu _) _)).trans hX3));have HO3:=Vs ho3;have q3:=(HJ.o.ext HX3.o).cell 14;have f3:=(HJ.o.ext HX3.o).frozen 14;subst hv3;clear ho3 hX3)
   |(go_at_call 160;have hs0:=hs1;clear hs1;refine(KS.o _ _ _ hs0).mono ?_;rintro e W2 ⟨rfl,hX2⟩;have z2:=λi=>(HZ'.o.ext (HX1.o.tr hX2)).cell i;have hq2:=Vs (aO HO1.o hX2);have HX2:=Vs (HX1.o.tr hX2);clear hX2)
   |(go_at_call 159;go_must(refine KC.o.mono ?_);rintro e W1 ⟨v,rfl,ho,hX⟩;obtain⟨A1,c1,hv,hs1⟩:=aK ho HL.o HW5.o;have HX1:=Vs hX;have HO1:=Vs ho;subst hv;have z1:=λi=>(HZ'.o.ext hX).cell i;clear ho hX))
  go_ret;exact⟨rfl,HF.o _ _ (HE0.o.tr HX3.o) (dA HO3.o HE0.o.size)⟩
end
section
open Kp
def NT(w:Vt)(n:Nat)(i:Vy)(wr:Vt):Prop:=∃k:Nat,k<=n/\i=VZ VH (k:Int)/\Ext w wr
theorem oL(h:p:=by
  rw[run_neq_struct,run_equalIn_agg _ _ _ _ _ V8 V8];simp only[Program.fieldsOf,U];simp[go_sem,Result.andThen,underlying3,isAgg3,underlying4,isAgg4,underlying55,isAgg55]):p:=h
theorem ee{w wr:Vt}{v:Option Vy}(hX:Ext w wr)(hB:b<w.heap.size)(h:w.cell? ⟨b,o,Vx⟩=v):wr.cell? ⟨b,o,Vx⟩=v:=(hX.cell (p:=⟨b,o,Vx⟩) hB).trans h
def NY(f:FuncId)(t:VR)(k:Nat):Prop:=∀(w:Vt) (A A':Option VT) (cap cap':Nat) (rows:List (List Vy)),bJ k w w.heap.size A cap rows->bJ k w w.heap.size A' cap' rows->de k rows->
  (∀r∈rows,∀W,(binOp .neq t (V5 r.toArray) (V5 r.toArray)).run prog W= .ok (VX Vw) W)->
  VJ prog f #[VV A (ln rows) cap,VV A' (ln rows) cap'] w λe w'=>e=V0 (VX VD)/\Ext w w'
theorem Bt(h:p:=by
  obtain⟨m,hm,rfl,hX⟩:=hrel;have HX:=Vs hX;clear hX;by_cases hlt:m<ln rows
  ·obtain⟨b,off,rfl,hB,hc⟩:=H3.o V7;obtain⟨b',off',rfl,hB',hc'⟩:=H4.o V7;obtain⟨r,hr⟩:∃r,rows.getD m []=r:=⟨_,rfl⟩;have hmem:r∈rows:=by rw[<-hr,Vv,VA hlt];exact List.getElem_mem hlt
   have hlen:=HW.o r hmem;have hself:=HS.o r hmem
   try have c0:=ee HX.o hB (hc m hlt 0 V9)
   try have d0:=ee HX.o hB' (hc' m hlt 0 V9)
   try rw[hr,VL] at c0 d0
   try have c1:=ee HX.o hB (hc m hlt 1 V9)
   try have d1:=ee HX.o hB' (hc' m hlt 1 V9)
   try rw[hr,VL] at c1 d1
   try have c2:=ee HX.o hB (hc m hlt 2 V9)
   try have d2:=ee HX.o hB' (hc' m hlt 2 V9)
   try rw[hr,VL] at c2 d2
   try have c3:=ee HX.o hB (hc m hlt 3 V9)
   try have d3:=ee HX.o hB' (hc' m hlt 3 V9)
   try rw[hr,VL] at c3 d3
   try have c4:=ee HX.o hB (hc m hlt 4 V9)
   try have d4:=ee HX.o hB' (hc' m hlt 4 V9)
   try rw[hr,VL] at c4 d4
   try have c5:=ee HX.o hB (hc m hlt 5 V9)
   try have d5:=ee HX.o hB' (hc' m hlt 5 V9)
   try rw[hr,VL] at c5 d5
   try have c6:=ee HX.o hB (hc m hlt 6 V9)
   try have d6:=ee HX.o hB' (hc' m hlt 6 V9)
   try rw[hr,VL] at c6 d6
   rw[Nat.add_zero] at c0 d0;clear hr hc hc' hmem;rcases r with _|⟨x0,_|⟨x1,_|⟨x2,_|⟨x3,_|⟨x4,_|⟨x5,_|⟨x6,_|⟨x7,r⟩⟩⟩⟩⟩⟩⟩⟩<;>first|(exfalso;simp only[List.length_cons,List.length_nil] at hlen;omega)|skip
   clear hlen;have tlt:decide ((m:Int)<(ln rows:Int))=VD:=decide_eq_true V7;have e3:(m:Int)<(ln rows:Int):=V7;exact ZQ
  ·have tlt:decide ((m:Int)<(ln rows:Int))=Vw:=decide_eq_false V7;go_wp2;go_ret;exact⟨rfl,HX.o⟩):p:=h
theorem qD(h:p:=by
  obtain⟨h1,h2,h3⟩:=hr;obtain⟨h1',h2',h3'⟩:=hr';unfold VP at h2 h2';have H3:=Vs h3;have H4:=Vs h3';have HW:=Vs hw;have HS:=Vs hs;clear h3 h3' hw hs;go_wp2;go_loopw [13] (λi wr=>NT w (ln rows) i wr) (λi _=>((ln rows:Int)-VN i).toNat)
  case atStart=>exact⟨0,V7,rfl,Ext.aC _⟩
  case round=>exact Bt):p:=h
def xE(x0:Int)(x1:Int)(x2:Int)(W:Vt):(binOp .neq 59 (V5 #[VZ VH x0,VZ VH x1,VZ VH x2]) (V5 #[VZ VH x0,VZ VH x1,VZ VH x2])).run prog W= .ok (VX Vw) W:=by
 have U:=underlying59;exact oL
def J5:NY 32 59 3:=by
 intro w A A' cap cap' rows hr hr' hw hs;go_enter func32,ntmps32;exact qD
def wX(x0:Int)(x1:Int)(x2:List UInt8)(W:Vt):(binOp .neq 64 (V5 #[VZ VH x0,VZ VH x1,VW (tx x2)]) (V5 #[VZ VH x0,VZ VH x1,VW (tx x2)])).run prog W= .ok (VX Vw) W:=by
 have U:=underlying64;exact oL
def Lc:NY 34 64 3:=by
 intro w A A' cap cap' rows hr hr' hw hs;go_enter func34,ntmps34;exact qD
def yn(x0:Int)(x1:List UInt8)(x2:List UInt8)(x3:List UInt8)(x4:List UInt8)(W:Vt):(binOp .neq 57 (V5 #[VZ VH x0,VW (tx x1),VW (tx x2),VW (tx x3),VW (tx x4)]) (V5 #[VZ VH x0,VW (tx x1),VW (tx x2),VW (tx x3),VW (tx x4)])).run prog W= .ok (VX Vw) W:=by
 have U:=underlying57;exact oL
def Ll:NY 31 57 5:=by
 intro w A A' cap cap' rows hr hr' hw hs;go_enter func31,ntmps31;exact qD
def yl(x0:Int)(x1:Int)(x2:Int)(x3:Int)(x4:Bool)(x5:Int)(x6:Int)(W:Vt):(binOp .neq 54 (V5 #[VZ VH x0,VZ VH x1,VZ VH x2,VZ VH x3,VX x4,VZ VH x5,VZ VH x6]) (V5 #[VZ VH x0,VZ VH x1,VZ VH x2,VZ VH x3,VX x4,VZ VH x5,VZ VH x6])).run prog W= .ok (VX Vw) W:=by
 have U:=underlying54;exact oL
def Kx:NY 27 54 7:=by
 intro w A A' cap cap' rows hr hr' hw hs;go_enter func27,ntmps27;exact qD
def xD(x0:Int)(x1:Int)(x2:Int)(x3:Int)(x4:Int)(W:Vt):(binOp .neq 66 (V5 #[VZ VH x0,VZ VH x1,VZ VH x2,VZ VH x3,VZ VH x4]) (V5 #[VZ VH x0,VZ VH x1,VZ VH x2,VZ VH x3,VZ VH x4])).run prog W= .ok (VX Vw) W:=by
 have U:=underlying66;exact oL
def JW:NY 35 66 5:=by
 intro w A A' cap cap' rows hr hr' hw hs;go_enter func35,ntmps35;exact qD
end
section
open Kp
def Ia(w:Vt)(A A':Option VT)(cap cap':Nat)(r:List Sd)(h:bJ 7 w w.heap.size A cap (aD r))(h':bJ 7 w w.heap.size A' cap' (aD r)):
  VJ prog 26 #[VV A (ln r) cap,VV A' (ln r) cap'] w λe w'=>e=V0 (VX VD)/\Ext w w':=by
 have K:=Kx w A A' cap cap' (aD r) h h' (dG r) (λx hx W=>by
  obtain⟨s,_,rfl⟩:=List.mem_map.1 hx;exact yl _ _ _ _ _ _ _ W)
 rw[show(aD r).length=ln r from VC _] at K;have K:=Vs K;clear h h';go_enter func26,ntmps26;go_wp2_with(go_at_call 27;go_must(refine K.o.mono ?_);rintro e W1 ⟨rfl,hX⟩)
 go_ret;exact⟨rfl,hX⟩
def Mc(w:Vt)(A A':Option VT)(cap cap':Nat)(rs:List (List Sd))(hr:fj w w.heap.size A cap rs)(hr':fj w w.heap.size A' cap' rs):
  VJ prog 30 #[VV A (ln rs) cap,VV A' (ln rs) cap',.func (.func 26) #[] #[]] w λe w'=>e=V0 (VX VD)/\Ext w w':=by
 obtain⟨h1,h2,h3⟩:=hr;obtain⟨h1',h2',h3'⟩:=hr';unfold VP at h2 h2';have H3:=Vs h3;have H4:=Vs h3';have g1:=enters_of func26 V8 rfl;clear h3 h3';go_enter func30,ntmps30;go_wp2;go_loopw [17] (λi wr=>NT w (ln rs) i wr) (λi _=>((ln rs:Int)-VN i).toNat)
 case atStart=>exact⟨0,V7,rfl,Ext.aC _⟩
 case round=>
  obtain⟨m,hm,rfl,hX⟩:=hrel;have HX:=Vs hX;clear hX;by_cases hlt:m<ln rs
  ·obtain⟨b,off,rfl,hB,hc⟩:=H3.o V7;obtain⟨b',off',rfl,hB',hc'⟩:=H4.o V7;obtain⟨Ai,ci,c0,hs⟩:=hc m hlt;obtain⟨Ai',ci',d0,hs'⟩:=hc' m hlt;obtain⟨ring,hring⟩:∃ring,rs.getD m []=ring:=⟨_,rfl⟩;rw[hring] at c0 d0 hs hs';have c1:=(HX.o.cell (p:=⟨b,off+m,Vx⟩) hB).trans c0;have d1:=(HX.o.cell (p:=⟨b',off'+m,Vx⟩) hB').trans d0;have K:=Vs (Ia wr Ai Ai' ci ci' ring ((hs.below HX.o).more HX.o.size) ((hs'.below HX.o).more HX.o.size));clear hring hc hc' c0 d0 hs hs';have tlt:decide ((m:Int)<(ln rs:Int))=VD:=decide_eq_true V7;have e3:(m:Int)<(ln rs:Int):=V7;go_wp2_with(go_at_call 26;go_must(refine K.o.mono ?_);rintro e W1 ⟨rfl,hX1⟩)
   exact⟨⟨m+1,V7,Wa,HX.o.tr hX1⟩,Wc⟩
  ·have tlt:decide ((m:Int)<(ln rs:Int))=Vw:=decide_eq_false V7;exact ZR
end
section
open Kp
theorem qi{B:Nat}{l:List (Int×Int)}(h:bJ 2 w B ga gc (di l)):bz w B ga gc l:=by
 obtain⟨h1,h2,h3⟩:=h;rw[VC] at h1 h3;refine⟨h1,h2,λhn=> ?_⟩;obtain⟨b,off,e,hB,hc⟩:=h3 hn;refine⟨b,off,e,hB,λj hj=> ?_⟩;have c0:=hc j hj 0 V9;have c1:=hc j hj 1 V9;rw[mb hj] at c0 c1;have e1:l.getD j (0,0)=l[j]:=by rw[Vv,VA hj];rfl
 rw[e1] at c0 c1;exact⟨c0,c1⟩
def IF(w:Vt)(x:Br)(ga ga':Option VT)(gc gc':Nat)(h:bJ 2 w w.heap.size ga gc (di x.gaps))(h':bJ 2 w w.heap.size ga' gc' (di x.gaps)):
  VJ prog 28 #[V5 (qU x ga gc).toArray,V5 (qU x ga' gc').toArray] w λe w'=>e=V0 (VX VD)/\Ext w w':=by
 obtain⟨W0,hW0⟩:∃W0,(w.alloc (.cells (qU x ga gc).toArray 62)).alloc (.cells (qU x ga' gc').toArray 62)=W0:=⟨_,rfl⟩;have e0:Ext w W0:=Ww;have E0:=Vs e0;have RA:ai W0 w.heap.size 62 (qU x ga gc):=by rw[<-hW0];exact(ai.new w _ _).ext ((Below.refl _ _).alloc (Vu _) _)
 have RB:ai W0 (w.heap.size+1) 62 (qU x ga' gc'):=by
  have h:=ai.new (w.alloc (.cells (qU x ga gc).toArray 62)) 62 (qU x ga' gc');rw[VK] at h;rw[<-hW0];exact h
 have K:=ma W0 ga ga' gc gc' x.gaps x.gaps ((qi ((h.below e0).more e0.size))) ((qi ((h'.below e0).more e0.size)));rw[beq_self_eq_true] at K;have KK:=Vs K;have HW:=Vs hW0;have cA:=RA.cell;have cB:=RB.cell;clear K hW0 e0 h h' RA RB;go_enter func28,ntmps28;go_wp2_with(fail)
 rw[show(w.alloc (.cells #[VZ VH x.width,VZ VH x.depth,VZ VH x.length,VZ VH x.count,VZ VH x.cost,VV ga (ln x.gaps) gc] 62)).alloc (.cells #[VZ VH x.width,VZ VH x.depth,VZ VH x.length,VZ VH x.count,VZ VH x.cost,VV ga' (ln x.gaps) gc'] 62)=W0 from HW.o];go_wp2_with(go_at_call 29;go_must(refine KK.o.mono ?_);rintro e W1 ⟨rfl,hX1⟩)
 go_ret;exact⟨rfl,E0.o.tr hX1⟩
def LD(w:Vt)(A A':Option VT)(cap cap':Nat)(l:List Br)(hr:fT w w.heap.size A cap l)(hr':fT w w.heap.size A' cap' l):
  VJ prog 33 #[VV A (ln l) cap,VV A' (ln l) cap',.func (.func 28) #[] #[]] w λe w'=>e=V0 (VX VD)/\Ext w w':=by
 obtain⟨h1,h2,h3⟩:=hr;obtain⟨h1',h2',h3'⟩:=hr';unfold VP at h2 h2';have H3:=Vs h3;have H4:=Vs h3';have g1:=enters_of func28 V8 rfl;clear h3 h3';go_enter func33,ntmps33;go_wp2;go_loopw [17] (λi wr=>NT w (ln l) i wr) (λi _=>((ln l:Int)-VN i).toNat)
 case atStart=>exact⟨0,V7,rfl,Ext.aC _⟩
 case round=>
  obtain⟨m,hm,rfl,hX⟩:=hrel;have HX:=Vs hX;clear hX;by_cases hlt:m<ln l
  ·obtain⟨b,off,rfl,hB,hc⟩:=H3.o V7;obtain⟨b',off',rfl,hB',hc'⟩:=H4.o V7;obtain⟨ga,gc,c,hs⟩:=hc m hlt;obtain⟨ga',gc',d,hs'⟩:=hc' m hlt;obtain⟨x,hx⟩:∃x,l.getD m oN=x:=⟨_,rfl⟩;rw[hx] at c d hs hs';have c0:=(HX.o.cell (p:=⟨b,off+6*m+0,Vx⟩) hB).trans (c 0 V9);have d0:=(HX.o.cell (p:=⟨b',off'+6*m+0,Vx⟩) hB').trans (d 0 V9);have c1:=(HX.o.cell (p:=⟨b,off+6*m+1,Vx⟩) hB).trans (c 1 V9);have d1:=(HX.o.cell (p:=⟨b',off'+6*m+1,Vx⟩) hB').trans (d 1 V9);have c2:=(HX.o.cell (p:=⟨b,off+6*m+2,Vx⟩) hB).trans (c 2 V9);have d2:=(HX.o.cell (p:=⟨b',off'+6*m+2,Vx⟩) hB').trans (d 2 V9);have c3:=(HX.o.cell (p:=⟨b,off+6*m+3,Vx⟩) hB).trans (c 3 V9);have d3:=(HX.o.cell (p:=⟨b',off'+6*m+3,Vx⟩) hB').trans (d 3 V9);have c4:=(HX.o.cell (p:=⟨b,off+6*m+4,Vx⟩) hB).trans (c 4 V9);have d4:=(HX.o.cell (p:=⟨b',off'+6*m+4,Vx⟩) hB').trans (d 4 V9);have c5:=(HX.o.cell (p:=⟨b,off+6*m+5,Vx⟩) hB).trans (c 5 V9);have d5:=(HX.o.cell (p:=⟨b',off'+6*m+5,Vx⟩) hB').trans (d 5 V9);rw[VL] at c0 d0 c1 d1 c2 d2 c3 d3 c4 d4 c5 d5;rw[Nat.add_zero] at c0 d0;have KS:=Vs (λ(W:Vt) (h:Ext wr W)=>IF W x ga ga' gc gc' ((hs.below (HX.o.tr h)).more (HX.o.tr h).size) ((hs'.below (HX.o.tr h)).more (HX.o.tr h).size));have hbw:b<wr.heap.size:=Nat.lt_of_lt_of_le hB HX.o.size;have hbw':b'<wr.heap.size:=Nat.lt_of_lt_of_le hB' HX.o.size;clear hx hc hc' c d hs hs';have tlt:decide ((m:Int)<(ln l:Int))=VD:=decide_eq_true V7;have e3:(m:Int)<(ln l:Int):=V7;have HA:=Vs (λo p=>(show Ext wr ((wr.alloc o).alloc p) from((Below.refl _ _).alloc (Vu _) _).alloc Wa _));go_wp2_with(go_at_call 28;go_must(refine(KS.o _ (HA.o _ _)).mono ?_);rintro e W1 ⟨rfl,hX1⟩)
   exact⟨⟨m+1,V7,Wa,HX.o.tr ((HA.o _ _).tr hX1)⟩,Wc⟩
  ·exact ZS
end
section
open Kp
attribute [local go_sem] bM jQ jK jJ jO jN jR jL jP jS jU gi fX fZ gj gw
def yg(w:Vt)(q:Nat):Ext w (w.drewN q):=below_drewN (Below.refl _ _) q
def Lo(w:Vt)(A A':Option VT)(cap cap':Nat)(l:List Int)(hr:bJ 1 w w.heap.size A cap (bG l))(hr':bJ 1 w w.heap.size A' cap' (bG l)):
  VJ prog 11 #[VV A (ln l) cap,VV A' (ln l) cap'] w λe w'=>e=V0 (VX VD)/\Ext w w':=by
 obtain⟨h1,h2,h3⟩:=hr;obtain⟨h1',h2',h3'⟩:=hr';rw[VC] at h1 h3 h1' h3';unfold VP at h2 h2';by_cases h0:ln l=0
 ·rw[h0];refine(slices_Equal_int_empty A A' cap 0 cap' w V7).mono ?_;rintro e w' ⟨rfl,rfl⟩;exact⟨rfl,Ext.aC _⟩
 ·obtain⟨b,off,rfl,hB,hc⟩:=h3 V7;obtain⟨b',off',rfl,hB',hc'⟩:=h3' V7;refine(slices_Equal_int b off (ln l) cap b' off' (ln l) cap' l l w (Vu _) (Vu _) V7 V7 (λj hj=> ?_) (λj hj=> ?_)).mono ?_
  ·have:=hc j hj 0 V9;exact ZT
  ·have:=hc' j hj 0 V9;exact ZT
  ·rintro e w' ⟨rfl,q,rfl⟩;exact⟨by rw[beq_self_eq_true],yg _ _⟩
def xU(x0 x1 x2 x3:Int)(W:Vt):(binOp .eql 30 (V5 #[VZ VH x0,VZ VH x1,VZ VH x2,VZ VH x3]) (V5 #[VZ VH x0,VZ VH x1,VZ VH x2,VZ VH x3])).run prog W= .ok (VX VD) W:=by
 rw[run_eql_struct,run_equalIn_agg _ _ _ _ _ V8 V8];simp only[Program.fieldsOf,underlying30];simp[go_sem,Result.andThen,underlying3,isAgg3]
def xF(w:Vt)(j:bI)(a a':dS)(hb:fg w w.heap.size j a)(hb':fg w w.heap.size j a'):
  VJ prog 10 #[V5 (cQ j a),V5 (cQ j a')] w λe w'=>e=V0 (VX VD)/\Ext w w':=by
 obtain⟨W0,hW0⟩:∃W0,(w.alloc (.cells (cQ j a) 34)).alloc (.cells (cQ j a') 34)=W0:=⟨_,rfl⟩;have e0:Ext w W0:=Ww;have E0:=Vs e0;have JA:=Vs (show JC W0 w.heap.size j a by rw[<-hW0];exact JC.ext (VG w _) ((Below.refl _ _).alloc (Vu _) _));have JB:=Vs (show JC W0 (w.heap.size+1) j a' by
  have h:=(VG (w.alloc (.cells (cQ j a) 34)) (.cells (cQ j a') 34));rw[VK] at h;rw[<-hW0];exact h)
 have B1:=Vs (hb.grow e0);have B2:=Vs (hb'.grow e0);have HW:=Vs hW0;have K0:=Vs (Mc W0 a.pa a'.pa a.pc a'.pc j.rings B1.o.p B2.o.p);have K1:=Vs (λ(W:Vt) (h:Ext W0 W)=>Lo W a.ua a'.ua a.uc a'.uc j.purlins (B1.o.grow h).u (B2.o.grow h).u);have K2:=Vs (λ(W:Vt) (h:Ext W0 W)=>(show VJ prog 31 #[VV a.oa (ln j.openings) a.oc,VV a'.oa (ln j.openings) a'.oc] W λe w'=>e=V0 (VX VD)/\Ext W w' from by
  have:=Ll W a.oa a'.oa a.oc a'.oc (bw j.openings) (B1.o.grow h).o (B2.o.grow h).o (mK _) (λx hx V=>by obtain⟨s,_,rfl⟩:=List.mem_map.1 hx;exact yn _ _ _ _ _ V);rwa[VC] at this))
 have K3:=Vs (λ(W:Vt) (h:Ext W0 W)=>(show VJ prog 32 #[VV a.za (ln j.sizes) a.zc,VV a'.za (ln j.sizes) a'.zc] W λe w'=>e=V0 (VX VD)/\Ext W w' from by
  have:=J5 W a.za a'.za a.zc a'.zc (bL j.sizes) (B1.o.grow h).z (B2.o.grow h).z (Af _) (λx hx V=>by obtain⟨s,_,rfl⟩:=List.mem_map.1 hx;exact xE _ _ _ V);rwa[VC] at this))
 have K4:=Vs (λ(W:Vt) (h:Ext W0 W)=>LD W a.ba a'.ba a.bc a'.bc j.bars (B1.o.grow h).b (B2.o.grow h).b);have K5:=Vs (λ(W:Vt) (h:Ext W0 W)=>(show VJ prog 34 #[VV a.la (ln j.aG) a.lc,VV a'.la (ln j.aG) a'.lc] W λe w'=>e=V0 (VX VD)/\Ext W w' from by
  have:=Lc W a.la a'.la a.lc a'.lc (bW j.aG) (B1.o.grow h).l (B2.o.grow h).l (oJ _) (λx hx V=>by obtain⟨s,_,rfl⟩:=List.mem_map.1 hx;exact wX _ _ _ V);rwa[VC] at this))
 have K6:=Vs (λ(W:Vt) (h:Ext W0 W)=>(show VJ prog 35 #[VV a.sa (ln j.spans) a.sc,VV a'.sa (ln j.spans) a'.sc] W λe w'=>e=V0 (VX VD)/\Ext W w' from by
  have:=JW W a.sa a'.sa a.sc a'.sc (bF j.spans) (B1.o.grow h).s (B2.o.grow h).s (Gm _) (λx hx V=>by obtain⟨s,_,rfl⟩:=List.mem_map.1 hx;exact xD _ _ _ _ _ V);rwa[VC] at this))
 have JX:=Vs (λ(W:Vt) (h:Ext W0 W)=>JA.o.ext h);have JY:=Vs (λ(W:Vt) (h:Ext W0 W)=>JB.o.ext h);have p0:=JA.o.cell;have q0:=JB.o.cell;have tile:=xU j.tile.width j.tile.length j.tile.lap j.tile.tail;clear hW0 e0 hb hb';go_enter func10,ntmps10;go_wp2_with(first
  |(go_at_call 35;go_must(refine(K6.o _ HX6.o).mono ?_);rintro e W7 ⟨rfl,hX⟩;have p7:=λi=>(JX.o W7 (Ext.tr HX6.o hX)).cell i;have q7:=λi=>(JY.o W7 (Ext.tr HX6.o hX)).cell i;have HX7:=Vs (Ext.tr HX6.o hX);clear hX)
  |(go_at_call 34;go_must(refine(K5.o _ HX5.o).mono ?_);rintro e W6 ⟨rfl,hX⟩;have p6:=λi=>(JX.o W6 (Ext.tr HX5.o hX)).cell i;have q6:=λi=>(JY.o W6 (Ext.tr HX5.o hX)).cell i;have HX6:=Vs (Ext.tr HX5.o hX);clear hX)
  |(go_at_call 33;go_must(refine(K4.o _ HX4.o).mono ?_);rintro e W5 ⟨rfl,hX⟩;have p5:=λi=>(JX.o W5 (Ext.tr HX4.o hX)).cell i;have q5:=λi=>(JY.o W5 (Ext.tr HX4.o hX)).cell i;have HX5:=Vs (Ext.tr HX4.o hX);clear hX)
  |(go_at_call 32;go_must(refine(K3.o _ HX3.o).mono ?_);rintro e W4 ⟨rfl,hX⟩;have p4:=λi=>(JX.o W4 (Ext.tr HX3.o hX)).cell i;have q4:=λi=>(JY.o W4 (Ext.tr HX3.o hX)).cell i;have HX4:=Vs (Ext.tr HX3.o hX);clear hX)
  |(go_at_call 31;go_must(refine(K2.o _ HX2.o).mono ?_);rintro e W3 ⟨rfl,hX⟩;have p3:=λi=>(JX.o W3 (Ext.tr HX2.o hX)).cell i;have q3:=λi=>(JY.o W3 (Ext.tr HX2.o hX)).cell i;have HX3:=Vs (Ext.tr HX2.o hX);clear hX)
  |(go_at_call 11;go_must(refine(K1.o _ HX1.o).mono ?_);rintro e W2 ⟨rfl,hX⟩;have p2:=λi=>(JX.o W2 (Ext.tr HX1.o hX)).cell i;have q2:=λi=>(JY.o W2 (Ext.tr HX1.o hX)).cell i;have HX2:=Vs (Ext.tr HX1.o hX);clear hX)
  |(go_at_call 30;rw[HW.o];go_must(refine K0.o.mono ?_);rintro e W1 ⟨rfl,hX⟩;have p1:=λi=>(JX.o W1 hX).cell i;have q1:=λi=>(JY.o W1 hX).cell i;have HX1:=Vs hX;clear hX))
 go_ret;exact⟨rfl,E0.o.tr HX7.o⟩
end
section
open Kp
def Pc(w:Vt)(A:Option VT)(cap:Nat)(l:List Int)(x:Int)(hr:bJ 1 w w.heap.size A cap (bG l))(hs:l.Pairwise (· <= ·))(hlen:ln l<=1000000):
  VJ prog 150 #[VV A (ln l) cap,VZ VH x] w λe w'=>e=V0 (V6 #[VZ VH (l.countP (· <x):Nat),VX (l.contains x)])/\Ext w w':=by
 obtain⟨h1,h2,h3⟩:=hr;rw[VC] at h1 h3;by_cases h0:ln l=0
 ·obtain rfl:=List.length_eq_zero_iff.1 h0;refine(slices_BinarySearch_int_empty A cap x w).mono ?_;rintro e w' ⟨rfl,rfl⟩;exact⟨rfl,Ext.aC _⟩
 ·obtain⟨b,off,rfl,hB,hc⟩:=h3 V7;refine(slices_BinarySearch_int b off (ln l) cap l x w (Vu _) V7 (λj hj=> ?_) (by rw[List.take_length];exact hs)).mono ?_
  ·have:=hc j hj 0 V9;exact ZT
  ·rintro e w' ⟨rfl,q,rfl⟩;rw[List.take_length];exact⟨rfl,yg _ _⟩
def B9{l:List Int}(h:iT l=0):l.Pairwise (· <= ·)/\ln l<=16:=by
 unfold iT at h;split at h
 ·omega
 ·rename_i h16;refine⟨?_,V7⟩;have hz:=rF h;have hstep:∀i,i+1<ln l->l.getD i 0<l.getD (i+1) 0:=by
   intro i hi;have:=hz (i+1) hi;simp only[Nat.add_sub_cancel] at this;split at this
   ·omega
   ·split at this
    ·omega
    ·rename_i h2;rcases Int.lt_or_le (l.getD i 0) (l.getD (i+1) 0) with h3|h3
     ·exact h3
     ·exact absurd ⟨Nat.succ_pos i,h3⟩ h2
  have hle:∀d i,i+d<ln l->l.getD i 0<=l.getD (i+d) 0:=by
   intro d
   induction d with
   |zero=>intro i _;exact Int.le_refl _
   |succ d ih=>
    intro i hi;have h1:=ih i V7;have h2:=hstep (i+d) V7;rw[show i+(d+1)=i+d+1 by omega];omega
  rw[List.pairwise_iff_getElem];intro i k hi hk hik;have:=hle (k-i) i V7;rw[show i+(k-i)=k by omega] at this;simpa[List.getD,VA hi,VA hk] using this
end
section
open Kp
attribute [local go_sem] bM jQ jK jJ jO jN jR jL jP jS jU gi fX fZ gj gw
attribute [local go_sem] aM fC fH dX
theorem LZ(f:α->β)(l:List α)(i:Nat)(x:α):dn (l.map f) i (f x)=(dn l i x).map f:=by
 unfold dn;simp[List.map_take,List.map_drop]
structure oZ(W0:Vt)(t:VR)(k n i:Nat)(rows:List (List Vy))(x:List Vy)(val:Nat->Vy)(L:Nat->Bool)(vs:Nat->Vy)(W:Vt):Prop where
 vals:∀q,L q=VD->q≠5->q≠9->q≠10->vs q=val q
 ext:Ext W0 W
 own:L 10=Vw->L 5=VD->W.ownsRow W0.heap.size t k (vs 5) n rows.flatten
 bld:L 10=Vw->L 9=VD->∃vb,vs 9=VV (Vz ⟨vb,0,Vx⟩) 1 1/\ai W vb t x/\(L 5=VD->(vs 5).ownBlock≠Vz vb)
 ord:L 10=VD->L 5=VD/\L 9=VD
 ins:L 10=VD->W.ownsRow W0.heap.size t k (vs 10) (n+1) (dn rows i x).flatten
variable {W0 W : Vt} {t : VR} {k n i : Nat} {rows : List (List Vy)} {x : List Vy} {val : Nat → Vy} {L : Nat → Bool} {vs : Nat → Vy}
def oZ.start(h:Ext W0 W):oZ W0 t k n i rows x val (λ_=>Vw) (λ_=>VB) W:=
 ⟨λ_ h=>Wb,h,λ_ h=>Wb,λ_ h=>Wb,λh=>Wb,λh=>Wb⟩
def oZ.pure(h:oZ W0 t k n i rows x val L vs W){q:Nat}(h5:q≠5)(h9:q≠9)(h10:q≠10){v:Vy}(hv:v=val q):oZ W0 t k n i rows x val (gF L q) (bA vs q v) W:=by
 refine⟨λm hm a b c=> ?_,h.ext,?_,?_,?_,?_⟩
 ·by_cases e:m=q
  ·subst e;rw[cG];exact hv
  ·rw[aU e];rw[af e] at hm;exact h.vals m hm a b c
 ·rw[af (Ne.symm h10),af (Ne.symm h5),aU (Ne.symm h5)];exact h.own
 ·rw[af (Ne.symm h10),af (Ne.symm h9),af (Ne.symm h5),aU (Ne.symm h9),aU (Ne.symm h5)];exact h.bld
 ·rw[af (Ne.symm h10),af (Ne.symm h5),af (Ne.symm h9)];exact h.ord
 ·rw[af (Ne.symm h10),aU (Ne.symm h10)];exact h.ins
theorem oZ.clone(h:oZ W0 t k n i rows x val L vs W)(hL:L 10=Vw){v:Vy}(hx:Ext W W')(ho:W'.ownsRow W.heap.size t k v n rows.flatten):oZ W0 t k n i rows x val (gF L 5) (bA vs 5 v) W':=by
 refine⟨λm hm a b c=> ?_,h.ext.tr hx,?_,?_,?_,?_⟩
 ·rw[aU a];rw[af a] at hm;exact h.vals m hm a b c
 ·intro _ _;rw[cG];exact dA ho h.ext.size
 ·rw[af V9,af V9,aU V9];intro a b;obtain⟨vb,e,hr,_⟩:=h.bld a b;refine⟨vb,e,hr.ext hx,λ_=> ?_⟩;rw[cG];intro e2;have:=(az ho vb e2).1;have:=hr.lt;omega
 ·exact ZV
 ·exact ZV
theorem oZ.build(h:oZ W0 t k n i rows x val L vs W)(hL:L 10=Vw)(hx:Ext W W')(hr:ai W' vb t x)(hvb:W.heap.size<=vb):oZ W0 t k n i rows x val (gF L 9) (bA vs 9 (VV (Vz ⟨vb,0,Vx⟩) 1 1)) W':=by
 refine⟨λm hm a b c=> ?_,h.ext.tr hx,?_,?_,?_,?_⟩
 ·rw[aU b];rw[af b] at hm;exact h.vals m hm a b c
 ·rw[af V9,af V9,aU V9];intro a b;exact aO (h.own a b) hx
 ·rw[af (k:=10) V9,dj,af (k:=5) V9,cG,aU (k:=5) V9];intro a _;refine⟨vb,rfl,hr,λh5 e=> ?_⟩;have:=(az (h.own a h5) vb e).2;omega
 ·exact ZV
 ·exact ZV
theorem oZ.insert(h:oZ W0 t k n i rows x val L vs W)(l5:L 5=VD)(l9:L 9=VD){v:Vy}(hx:VS W0.heap.size W W')(ho:W'.ownsRow W0.heap.size t k v (n+1) (dn rows i x).flatten):oZ W0 t k n i rows x val (gF L 10) (bA vs 10 v) W':=by
 refine⟨λm hm a b c=> ?_,h.ext.trans hx,?_,?_,?_,?_⟩
 ·rw[aU c];rw[af c] at hm;exact h.vals m hm a b c
 ·rw[dj];intro h;cases h
 ·rw[dj];intro h;cases h
 ·intro _;rw[af (k:=5) V9,af (k:=9) V9];exact⟨l5,l9⟩
 ·intro _;rw[cG];exact ho
def pV(c b:Nat)(e:Ed)(A:Option VT)(n cap m:Nat):Nat->Vy
 |0=> VY (Vz ⟨c,0,Vx⟩)
 |1=> VY (Vz ⟨c,0,Vx⟩)
 |2=> VY (Vz ⟨c,0,Vx⟩)
 |3=> VY (Vz ⟨c,4,Vx⟩)
 |4=> VV A n cap
 |6=> VZ VH (m:Int)
 |7=> VY (Vz ⟨b,35,Vx⟩)
 |8=> VZ VH e.number
 |11=> VY (Vz ⟨c,0,Vx⟩)
 |12=> VY (Vz ⟨c,4,Vx⟩)
 |_=>VB
def Dm(w:Vt)(c:Nat)(j:bI)(a:dS)(e:Ed)(g:Vy)(hc:JC w c j a){X:Nat->Prop}(hb:iD X w c j a)(hp:iT j.purlins=0):
  VJ prog 90 #[VY (Vz ⟨c,0,Vx⟩),V5 (aE e g)] w λx w'=>x=V0 (VZ VH (if j.purlins.contains e.number then 7 else 0))/\fU c w w'/\(j.purlins.contains e.number=Vw->∃a',nd X c w w' {j with purlins:=dn j.purlins (j.purlins.countP (· <e.number)) e.number} a'):=by
 have hlt:=hc.lt;obtain⟨hs,hlen⟩:=B9 hp;obtain⟨W0,hW0⟩:∃W0,w.alloc (.cells (aE e g) 68)=W0:=⟨_,rfl⟩;have HZ:EC W0 w.heap.size (aE e g):=WU;have e0:Ext w W0:=Wt;have hJ:=hc.ext e0;have HU:=Vs (λ(W:Vt) (h:Ext W0 W)=>(((hb.u.below ((e0.tr h).mono (Nat.le_of_lt hlt))).more (VI (Nat.le_of_lt hlt) (e0.tr h).size)):bJ 1 W W.heap.size a.ua a.uc (bG j.purlins)));have KB:=Vs (λ(W:Vt) (h:Ext W0 W)=>Pc W a.ua a.uc j.purlins e.number (HU.o W h) hs V7);have hcm:j.purlins.countP (· <e.number)<=ln j.purlins:=List.countP_le_length;obtain⟨m,hm⟩:∃m,j.purlins.countP (· <e.number)=m:=⟨_,rfl⟩;obtain⟨d,hd⟩:∃d,j.purlins.contains e.number=d:=⟨_,rfl⟩;rw[hm] at hcm;simp only[hm,hd] at KB;rw[hm,hd];have HJ:=Vs hJ;have HE0:=Vs e0;have HZ':=Vs HZ;have HW:=Vs hW0;have b4:=λw' (h:Ext W0 w')=>(HJ.o.ext h).cell 4
 have z35:=λw' (h:Ext W0 w')=>(HZ'.o.ext h).cell 35
 have HBl:=Vs (λ(W1:Vt) (hx:Ext W0 W1)=>(fU.ext (e0.tr hx) hlt:fU c w W1));cases d with
 |true=>
  clear hc hb hJ HZ e0 hm hd hs hp hcm hW0;go_enter func90,ntmps90;go_wp2_with fail
  rw[HW.o]
  go_region_held3(λw'=>Ext W0 w') (first|exact hx1|exact Ext.dr W0) (first|(go_at_call 150;go_must(refine(KB.o _ (Ext.dr W0)).mono ?_);rintro e W1 ⟨rfl,hX1⟩;have hx1:Ext W0 W1:=(Ext.dr W0).tr hX1))
  go_wp2;go_ret;exact⟨rfl,HBl.o _ hx1⟩
 |false=>
  have hpm:dn (bG j.purlins) m [VZ VH e.number]=bG (dn j.purlins m e.number):=LZ (λn:Int=>([VZ VH n]:List Vy)) j.purlins m e.number;have HF:=Vs (λ(W1:Vt) (v:Vy) (hx:Ext W0 W1) (ho:W1.ownsRow W0.heap.size 3 1 v (ln j.purlins+1) (dn (bG j.purlins) m [VZ VH e.number]).flatten)=>QK (l:=dn j.purlins m e.number) hc hb (e0.tr hx) (by rw[hpm] at ho;rw[VC,me _ _ _ hcm];exact dA ho e0.size));have KC:=Vs (λ(W:Vt) (h:Ext W0 W)=>FP W a.ua a.uc (bG j.purlins) (HU.o W h) (bC (f:=λn=>[VZ VH n]) (λ_=>rfl) _) (D4 _) (by rw[VC];omega));have HL:=Vs (show(bG j.purlins).length=ln j.purlins by exact VC _);have HCM:=Vs hcm;have HLN:=Vs hlen;clear hc hb hJ HZ e0 hm hd hs hp hcm hpm hlen hW0;go_enter func90,ntmps90;go_wp2_with fail
  rw[HW.o]
  go_region_held3(λw'=>Ext W0 w') (first|exact hx1|exact Ext.dr W0) (first|(go_at_call 150;go_must(refine(KB.o _ (Ext.dr W0)).mono ?_);rintro e W1 ⟨rfl,hX1⟩;have hx1:Ext W0 W1:=(Ext.dr W0).tr hX1))
  go_wp2_with fail
  have HX1:=Vs hx1;clear hX1 hx1;refine wp_region_any V8 (cn 13 (λvs=>⟨#[VY (Vz ⟨c,0,Vx⟩),V5 (aE e g),VB,VY (Vz ⟨w.heap.size,0,Vx⟩),VZ VH 0,VZ VH (m:Int),VX Vw,V6 #[VZ VH (m:Int),VX Vw],VY (Vz ⟨c,0,Vx⟩),VY (Vz ⟨c,0,Vx⟩),VY (Vz ⟨c,4,Vx⟩),VV a.ua (ln j.purlins) a.uc,VY (Vz ⟨w.heap.size,35,Vx⟩),VZ VH e.number,V6 #[VZ VH (m:Int),VX Vw],VZ VH (m:Int),VX Vw,VX Vw,vs 0,vs 1,vs 2,vs 3,vs 4,vs 5,vs 6,vs 7,vs 8,vs 9,vs 10,vs 11,vs 12],[]⟩)
   (λL vs W=>oZ W0 3 1 (ln j.purlins) m (bG j.purlins) [VZ VH e.number] (pV c w.heap.size e a.ua (ln j.purlins) a.uc m) L vs W) V8 ?step ?tail (λ_=>VB) _ (oZ.start (HX1.o.tr (Ext.dr _))))
  case step=>
   intro i L vs W hi hL hI hd;have HI:=Vs hI;rcases(show i=0\/i=1\/i=2\/i=3\/i=4\/i=5\/i=6\/i=7\/i=8\/i=9\/i=10\/i=11\/i=12 by omega) with rfl|rfl|rfl|rfl|rfl|rfl|rfl|rfl|rfl|rfl|rfl|rfl|rfl<;>clear hi hI
   ·refine VE rfl (λK hK=> ?_);go_simp;exact hK _ _ ⟨pV c w.heap.size e a.ua (ln j.purlins) a.uc m 0,by simp[bA,pV],HI.o.pure V9 V9 V9 rfl⟩
   ·refine VE rfl (λK hK=> ?_);go_simp;exact hK _ _ ⟨pV c w.heap.size e a.ua (ln j.purlins) a.uc m 1,by simp[bA,pV],HI.o.pure V9 V9 V9 rfl⟩
   ·refine VE rfl (λK hK=> ?_);have d1:=HI.o.vals 1 (hd 1 V8) V9 V9 V9;simp only[pV] at d1;go_simp;exact hK _ _ ⟨pV c w.heap.size e a.ua (ln j.purlins) a.uc m 2,by simp[bA,pV,d1],HI.o.pure V9 V9 V9 rfl⟩
   ·refine VE rfl (λK hK=> ?_);have d2:=HI.o.vals 2 (hd 2 V8) V9 V9 V9;simp only[pV] at d2;go_simp;exact hK _ _ ⟨pV c w.heap.size e a.ua (ln j.purlins) a.uc m 3,by simp[bA,pV,d2],HI.o.pure V9 V9 V9 rfl⟩
   ·refine VE rfl (λK hK=> ?_);have d3:=HI.o.vals 3 (hd 3 V8) V9 V9 V9;simp only[pV] at d3;have mm:=(HJ.o.ext HI.o.ext).cell 4;go_simp;exact hK _ _ ⟨pV c w.heap.size e a.ua (ln j.purlins) a.uc m 4,by simp[bA,pV,d3],HI.o.pure V9 V9 V9 rfl⟩
   ·refine VE rfl (λK hK=> ?_);have d4:=HI.o.vals 4 (hd 4 V8) V9 V9 V9;simp only[pV] at d4;have hx:=Vs HI.o.ext;have h10:L 10=Vw:=by
      cases q:L 10 with
      |false=>rfl
      |true=>exact absurd (HI.o.ord q).1 (by rw[hL];decide)
    go_simp;rw[<-HL.o];refine(KC.o _ hx.o).mono ?_;rintro x W2 ⟨v,rfl,ho,hX⟩;rw[HL.o] at ho;exact hK _ _ ⟨v,by simp[bA,d4,HL.o],HI.o.clone h10 hX ho⟩
   ·refine VE rfl (λK hK=> ?_);go_simp;exact hK _ _ ⟨pV c w.heap.size e a.ua (ln j.purlins) a.uc m 6,by simp[bA,pV],HI.o.pure V9 V9 V9 rfl⟩
   ·refine VE rfl (λK hK=> ?_);go_simp;exact hK _ _ ⟨pV c w.heap.size e a.ua (ln j.purlins) a.uc m 7,by simp[bA,pV],HI.o.pure V9 V9 V9 rfl⟩
   ·refine VE rfl (λK hK=> ?_);have d7:=HI.o.vals 7 (hd 7 V8) V9 V9 V9;simp only[pV] at d7;have mm:=(HZ'.o.ext HI.o.ext).cell 35;go_simp;exact hK _ _ ⟨pV c w.heap.size e a.ua (ln j.purlins) a.uc m 8,by simp[bA,pV,d7],HI.o.pure V9 V9 V9 rfl⟩
   ·refine VE rfl (λK hK=> ?_);have d8:=HI.o.vals 8 (hd 8 V8) V9 V9 V9;simp only[pV] at d8;have h10:L 10=Vw:=by
      cases q:L 10 with
      |false=>rfl
      |true=>exact absurd (HI.o.ord q).2 (by rw[hL];decide)
    go_simp;exact hK _ _ ⟨_,by simp[bA,d8],HI.o.build h10 ((Below.refl _ _).alloc (Vu _) _) (ai.new _ _ _) (Vu _)⟩
   ·refine VE rfl (λK hK=> ?_);have d6:=HI.o.vals 6 (hd 6 V8) V9 V9 V9;simp only[pV] at d6;have h5:=hd 5 V8;have h9:=hd 9 V8;have ho:=HI.o.own hL h5;obtain⟨vb,hv,hr,hne⟩:=HI.o.bld hL h9;have KI:=Vs (Mx W W0.heap.size (ln j.purlins) m vb 1 (vs 5) (bG j.purlins) [VZ VH e.number] ho HL.o (bC (f:=λn=>[VZ VH n]) (λ_=>rfl) _) (D4 _) rfl Xx hr (hne h5) HCM.o (by have:=HLN.o;omega) HI.o.ext.size);clear ho hr hne;go_simp;refine KI.o.mono ?_;rintro x W2 ⟨v,rfl,ho,hX⟩;exact hK _ _ ⟨v,by simp[bA,d6,hv],HI.o.insert h5 h9 hX ho⟩
   ·refine VE rfl (λK hK=> ?_);have d0:=HI.o.vals 0 (hd 0 V8) V9 V9 V9;simp only[pV] at d0;go_simp;exact hK _ _ ⟨pV c w.heap.size e a.ua (ln j.purlins) a.uc m 11,by simp[bA,pV,d0],HI.o.pure V9 V9 V9 rfl⟩
   ·refine VE rfl (λK hK=> ?_);have d11:=HI.o.vals 11 (hd 11 V8) V9 V9 V9;simp only[pV] at d11;go_simp;exact hK _ _ ⟨pV c w.heap.size e a.ua (ln j.purlins) a.uc m 12,by simp[bA,pV,d11],HI.o.pure V9 V9 V9 rfl⟩
  case tail=>
   intro L vs W hL hI;have d12:=hI.vals 12 (hL 12 V9) V9 V9 V9;simp only[pV] at d12;have ho:=hI.ins (hL 10 V9);obtain⟨A1,n1,c1,hv⟩:=ng.of ho;rw[hv] at ho;have HO:=Vs ho;have HE:=Vs hI.ext;have mm:=(HJ.o.ext HE.o).cell 4;have nn:=(HJ.o.ext HE.o).frozen 4;clear ho hI;simp only[d12,hv,List.drop_succ_cons,List.drop_zero];go_wp2;go_ret;exact⟨rfl,((HBl.o W HE.o).put 4 _),HF.o W _ HE.o HO.o⟩
end
section
open Kp
attribute [local go_sem] bM jQ jK jJ jO jN jR jL jP jS jU gi fX fZ gj gw
attribute [local go_sem] aM fC fH iy gU iA ik gW gV im gY eP eN eV eK eY eR eQ er eu ey eh ej dY eT eO eU eS eI eM eJ eX fm fu ft fo dX eZ
theorem OY{i:Int}(h:dV n i=0):i.toNat<n:=by
 unfold dV at h;split at h
 ·omega
 ·cases h
theorem ka{l:List α}{i:Int}(h:dV (ln l) i=0):ln l-1=(l.eraseIdx i.toNat).length:=by
 rw[List.length_eraseIdx,if_pos (OY h)]
def ju(c b cell:Nat)(e:Ed)(A:Option VT)(n cap:Nat):Nat->Vy
 |0=> VY (Vz ⟨c,0,Vx⟩)
 |1=> VY (Vz ⟨c,0,Vx⟩)
 |2=> VY (Vz ⟨c,0,Vx⟩)
 |3=> VY (Vz ⟨c,cell,Vx⟩)
 |4=> VV A n cap
 |5=> VY (Vz ⟨b,1,Vx⟩)
 |6=> VZ VH e.index
 |10=> VZ VH (dV n e.index)
 |11=> VY (Vz ⟨c,0,Vx⟩)
 |12=> VY (Vz ⟨c,cell,Vx⟩)
 |_=>VB
theorem j6(h:p:=by
  intro i L vs W hi hL hI hd;have HI:=Vs hI;rcases(show i=0\/i=1\/i=2\/i=3\/i=4\/i=5\/i=6\/i=7\/i=8\/i=9\/i=10\/i=11\/i=12\/i=13 by omega) with rfl|rfl|rfl|rfl|rfl|rfl|rfl|rfl|rfl|rfl|rfl|rfl|rfl|rfl<;>clear hi hI
  ·exact ZX
  ·exact ZX
  ·refine VE rfl (λK hK=> ?_);have d1:=HI.o.vals 1 (hd 1 V8) V9;simp only[ju] at d1;go_simp;exact hK _ _ ⟨_,by simp[bA,ju,d1],HI.o.pure V9 rfl⟩
  ·refine VE rfl (λK hK=> ?_);have d2:=HI.o.vals 2 (hd 2 V8) V9;simp only[ju] at d2;go_simp;exact hK _ _ ⟨_,by simp[bA,ju,d2],HI.o.pure V9 rfl⟩
  ·refine VE rfl (λK hK=> ?_);have d3:=HI.o.vals 3 (hd 3 V8) V9;simp only[ju] at d3;have hx:=HI.o.load (k:=4) V9 hL;have mm:=(HJ.o.ext hx).cell;clear hx;go_simp;exact hK _ _ ⟨_,by simp[bA,ju,d3],HI.o.pure V9 rfl⟩
  ·exact ZX
  ·refine VE rfl (λK hK=> ?_);have d5:=HI.o.vals 5 (hd 5 V8) V9;simp only[ju] at d5;have hx:=HI.o.load (k:=6) V9 hL;have mm:=(HZ'.o.ext hx).cell 1;clear hx;go_simp;exact hK _ _ ⟨_,by simp[bA,ju,d5],HI.o.pure V9 rfl⟩
  ·refine VE rfl (λK hK=> ?_);have d4:=HI.o.vals 4 (hd 4 V8) V9;simp only[ju] at d4;have d6:=HI.o.vals 6 (hd 6 V8) V9;simp only[ju] at d6;have hx:=Vs (HI.o.ext hL);go_simp;rw[<-HL.o];refine(KP.o _ hx.o).mono ?_;rintro x W1 ⟨v,hsl,rfl,ho,hX⟩;exact hK _ _ ⟨_,by simp[bA,d4,d6,HL.o],HI.o.call hL (by intro k hk;simp at hk;rcases hk with rfl|rfl<;>exact hd _ V8) hX ⟨hsl,λh=>dA (ho (HL.o.symm▸h)) (VI HE0.o.size hx.o.size)⟩⟩
  ·refine VE rfl (λK hK=> ?_);go_simp;exact hK _ _ ⟨vs 7,by simp[bA],HI.o.move hL (hd 7 V8)⟩
  ·refine VE rfl (λK hK=> ?_);obtain⟨v,ht,hn⟩:=HI.o.first hL (hd 8 V8);exact ZW
  ·refine VE rfl (λK hK=> ?_);obtain⟨v,ht⟩:=HI.o.UA (hd 8 V8);go_simp;exact hK _ _ ⟨_,by simp[bA,ju,ht],HI.o.pure V9 rfl⟩
  ·refine VE rfl (λK hK=> ?_);have d0:=HI.o.vals 0 (hd 0 V8) V9;simp only[ju] at d0;go_simp;exact hK _ _ ⟨_,by simp[bA,ju,d0],HI.o.pure V9 rfl⟩
  ·refine VE rfl (λK hK=> ?_);have d11:=HI.o.vals 11 (hd 11 V8) V9;simp only[ju] at d11;go_simp;exact hK _ _ ⟨_,by simp[bA,ju,d11],HI.o.pure V9 rfl⟩
  ·refine VE rfl (λK hK=> ?_);have d12:=HI.o.vals 12 (hd 12 V8) V9;simp only[ju] at d12;obtain⟨hx,⟨⟨A1,n1,c1,hv⟩,_⟩,hn⟩:=HI.o.store hL (hd 9 V8) rfl;rw[hv] at hn;have hw:vs 9=VV A1 n1 c1:=hv;clear hv;have mm:=(HJ.o.ext hx).cell;have nn:=(HJ.o.ext hx).frozen;clear hx;go_simp;exact hK _ _ ⟨VB,by simp[bA,d12,hw],hn⟩):p:=h
theorem mz(h:p:=by
  intro L vs W hL hI;obtain⟨he,v,W1,hx,⟨_,ho⟩,rfl⟩:=hI.done hL;have h10:=he;simp only[Nat.reduceAdd,ju] at h10;have HX:=Vs hx;have HO:=Vs ho;clear hx ho he hI;simp only[h10,List.drop_succ_cons,List.drop_zero];go_wp2;go_ret;exact⟨rfl,HBl.o W1 v HX.o,λh=>HF.o W1 v HX.o h (HO.o h)⟩):p:=h
theorem oD(e:Ed)(g:Vy)(hc:JC w c j a):∃W0,Hid (w.alloc (.cells (aE e g) 68)=W0)/\Hid (EC W0 w.heap.size (aE e g))/\Hid (Ext w W0)/\Hid (JC W0 c j a)/\(w.alloc (.cells (aE e g) 68)).cell? ⟨w.heap.size,35,Vx⟩=(aE e g)[35]?:=
 ⟨_,Vs rfl,Vs (EC.new w _),Vs ((Below.refl _ _).alloc (Vu _) _),Vs (hc.ext ((Below.refl _ _).alloc (Vu _) _)),(EC.new w (aE e g)).cell 35⟩
def K8(w:Vt)(c:Nat)(j:bI)(a:dS)(e:Ed)(g:Vy)(hc:JC w c j a){X:Nat->Prop}(hb:iD X w c j a)(hlen:ln j.purlins<=1000000)(hnum:e.number=4):
  VJ prog 101 #[VY (Vz ⟨c,0,Vx⟩),V5 (aE e g)] w λx w'=>x=V0 (VZ VH (dV (ln j.purlins) e.index))/\fU c w w'/\(dV (ln j.purlins) e.index=0->∃a',nd X c w w' {j with purlins:=j.purlins.eraseIdx e.index.toNat} a'):=by
 have hlt:=hc.lt;obtain⟨W0,HW,HZ',HE0,HJ,z35⟩:=oD e g hc;have e0:=HE0.o;have KP:=Vs (λ(W:Vt) (h:Ext W0 W)=>Ls W a.ua a.uc (bG j.purlins) e.index ((hb.u.below ((e0.tr h).mono (Nat.le_of_lt hlt))).more (VI (Nat.le_of_lt hlt) (e0.tr h).size)) (bC (f:=λn=>[VZ VH n]) (λ_=>rfl) _) (D4 _) Xo);have hpm:(bG j.purlins).eraseIdx e.index.toNat=bG (j.purlins.eraseIdx e.index.toNat):=mn (λn:Int=>([VZ VH n]:List Vy)) j.purlins e.index.toNat;have HF:=Vs (λ(W1:Vt) (v:Vy) (hx:Ext W0 W1) (h0:dV (ln j.purlins) e.index=0) (ho:W1.ownsRow w.heap.size 3 1 v ((bG j.purlins).length-1) ((bG j.purlins).eraseIdx e.index.toNat).flatten)=>QK (l:=j.purlins.eraseIdx e.index.toNat) hc hb (e0.tr hx) (by rw[ka (l:=(bG j.purlins)) XD,hpm] at ho;exact ho));have HBl:=Vs (λ(W1:Vt) (v:Vy) (hx:Ext W0 W1)=>((fU.ext (e0.tr hx) hlt).put 4 v:fU c w (W1.setCell ⟨c,4,Vx⟩ v)));have HL:=Vs (show(bG j.purlins).length=ln j.purlins by exact VC _);have t0:(e.number==4)=VD:=WH;clear hc hb e0 hnum hpm;go_enter func101,ntmps101;go_wp2_with fail
 rw[HW.o];refine wp_region_any V8 (cn 14 (λvs=>⟨#[VY (Vz ⟨c,0,Vx⟩),V5 (aE e g),VB,VY (Vz ⟨w.heap.size,0,Vx⟩),VZ VH 0,VY (Vz ⟨w.heap.size,35,Vx⟩),VZ VH e.number,VX VD,VX VD,vs 8,vs 0,vs 1,vs 2,vs 3,vs 4,vs 5,vs 6,vs 7,vs 9,vs 10,vs 11,vs 12,VB,VB,VB,VB,VB,VB,VB,VB,VB,VB,VB,VB,VB,VB,VB,VB,VB,VB,VB,VB,VB,VB,VB,VB,VB,VB,VB,VB,VB,VB,VB,VB,VB,VB,VB,VB,VB,VB,VB,VB,VB,VB,VB,VB,VB,VB,VB,VB,VB,VB,VB,VB,VB,VB,VB,VB,VB,VB,VB,VB,VB,VB,VB,VB,VB,VB,VB,VB,VB,VB,VB,VB,VB,VB,VB,VB],[]⟩)
  (λL vs W=>dD W0 (ju c w.heap.size 4 e a.ua (ln j.purlins) a.uc) (λv W1=>ng v/\(dV (ln j.purlins) e.index=0->W1.ownsRow w.heap.size 3 1 v ((bG j.purlins).length-1) ((bG j.purlins).eraseIdx e.index.toNat).flatten)) (VZ VH (dV (ln j.purlins) e.index)) ⟨c,4,Vx⟩ 7 [4,6] L vs W) V8 ?step ?tail (λ_=>VB) _ (dD.start (Ext.dr _)))
 case step=>exact j6
 case tail=>exact mz
def Mp(w:Vt)(c:Nat)(j:bI)(a:dS)(e:Ed)(g:Vy)(hc:JC w c j a){X:Nat->Prop}(hb:iD X w c j a)(hlen:ln j.openings<=1000000)(hnum:e.number=5):
  VJ prog 101 #[VY (Vz ⟨c,0,Vx⟩),V5 (aE e g)] w λx w'=>x=V0 (VZ VH (dV (ln j.openings) e.index))/\fU c w w'/\(dV (ln j.openings) e.index=0->∃a',nd X c w w' {j with openings:=j.openings.eraseIdx e.index.toNat} a'):=by
 have hlt:=hc.lt;obtain⟨W0,HW,HZ',HE0,HJ,z35⟩:=oD e g hc;have e0:=HE0.o;have KP:=Vs (λ(W:Vt) (h:Ext W0 W)=>Lu W a.oa a.oc (bw j.openings) e.index ((hb.o.below ((e0.tr h).mono (Nat.le_of_lt hlt))).more (VI (Nat.le_of_lt hlt) (e0.tr h).size)) (mK _) (Nn _) Xo);have hpm:(bw j.openings).eraseIdx e.index.toNat=bw (j.openings.eraseIdx e.index.toNat):=mn vV j.openings e.index.toNat;have HF:=Vs (λ(W1:Vt) (v:Vy) (hx:Ext W0 W1) (h0:dV (ln j.openings) e.index=0) (ho:W1.ownsRow w.heap.size 57 5 v ((bw j.openings).length-1) ((bw j.openings).eraseIdx e.index.toNat).flatten)=>QR (l:=j.openings.eraseIdx e.index.toNat) hc hb (e0.tr hx) (by rw[ka (l:=(bw j.openings)) XD,hpm] at ho;exact ho));have HBl:=Vs (λ(W1:Vt) (v:Vy) (hx:Ext W0 W1)=>((fU.ext (e0.tr hx) hlt).put 5 v:fU c w (W1.setCell ⟨c,5,Vx⟩ v)));have HL:=Vs (show(bw j.openings).length=ln j.openings by exact VC _);have t0:(e.number==4)=Vw:=WH;have t1:(e.number==5)=VD:=WH;clear hc hb e0 hnum hpm;go_enter func101,ntmps101;go_wp2_with fail
 rw[HW.o];refine wp_region_any V8 (cn 14 (λvs=>⟨#[VY (Vz ⟨c,0,Vx⟩),V5 (aE e g),VB,VY (Vz ⟨w.heap.size,0,Vx⟩),VZ VH 0,VY (Vz ⟨w.heap.size,35,Vx⟩),VZ VH e.number,VX Vw,VX Vw,VB,VB,VB,VB,VB,VB,VB,VB,VB,VB,VB,VB,VB,VX VD,VX VD,vs 8,vs 0,vs 1,vs 2,vs 3,vs 4,vs 5,vs 6,vs 7,vs 9,vs 10,vs 11,vs 12,VB,VB,VB,VB,VB,VB,VB,VB,VB,VB,VB,VB,VB,VB,VB,VB,VB,VB,VB,VB,VB,VB,VB,VB,VB,VB,VB,VB,VB,VB,VB,VB,VB,VB,VB,VB,VB,VB,VB,VB,VB,VB,VB,VB,VB,VB,VB,VB,VB,VB,VB,VB,VB,VB,VB,VB,VB,VB,VB,VB,VB],[]⟩)
  (λL vs W=>dD W0 (ju c w.heap.size 5 e a.oa (ln j.openings) a.oc) (λv W1=>ng v/\(dV (ln j.openings) e.index=0->W1.ownsRow w.heap.size 57 5 v ((bw j.openings).length-1) ((bw j.openings).eraseIdx e.index.toNat).flatten)) (VZ VH (dV (ln j.openings) e.index)) ⟨c,5,Vx⟩ 7 [4,6] L vs W) V8 ?step ?tail (λ_=>VB) _ (dD.start (Ext.dr _)))
 case step=>exact j6
 case tail=>exact mz
def Lv(w:Vt)(c:Nat)(j:bI)(a:dS)(e:Ed)(g:Vy)(hc:JC w c j a){X:Nat->Prop}(hb:iD X w c j a)(hlen:ln j.sizes<=1000000)(hnum:e.number=6):
  VJ prog 101 #[VY (Vz ⟨c,0,Vx⟩),V5 (aE e g)] w λx w'=>x=V0 (VZ VH (dV (ln j.sizes) e.index))/\fU c w w'/\(dV (ln j.sizes) e.index=0->∃a',nd X c w w' {j with sizes:=j.sizes.eraseIdx e.index.toNat} a'):=by
 have hlt:=hc.lt;obtain⟨W0,HW,HZ',HE0,HJ,z35⟩:=oD e g hc;have e0:=HE0.o;have KP:=Vs (λ(W:Vt) (h:Ext W0 W)=>Nh W a.za a.zc (bL j.sizes) e.index ((hb.z.below ((e0.tr h).mono (Nat.le_of_lt hlt))).more (VI (Nat.le_of_lt hlt) (e0.tr h).size)) (Af _) (MX _) Xo);have hpm:(bL j.sizes).eraseIdx e.index.toNat=bL (j.sizes.eraseIdx e.index.toNat):=mn GF j.sizes e.index.toNat;have HF:=Vs (λ(W1:Vt) (v:Vy) (hx:Ext W0 W1) (h0:dV (ln j.sizes) e.index=0) (ho:W1.ownsRow w.heap.size 59 3 v ((bL j.sizes).length-1) ((bL j.sizes).eraseIdx e.index.toNat).flatten)=>Qq (l:=j.sizes.eraseIdx e.index.toNat) hc hb (e0.tr hx) (by rw[ka (l:=(bL j.sizes)) XD,hpm] at ho;exact ho));have HBl:=Vs (λ(W1:Vt) (v:Vy) (hx:Ext W0 W1)=>((fU.ext (e0.tr hx) hlt).put 6 v:fU c w (W1.setCell ⟨c,6,Vx⟩ v)));have HL:=Vs (show(bL j.sizes).length=ln j.sizes by exact VC _);have t0:(e.number==4)=Vw:=WH;have t1:(e.number==5)=Vw:=WH;have t2:(e.number==6)=VD:=WH;clear hc hb e0 hnum hpm;go_enter func101,ntmps101;go_wp2_with fail
 rw[HW.o];refine wp_region_any V8 (cn 14 (λvs=>⟨#[VY (Vz ⟨c,0,Vx⟩),V5 (aE e g),VB,VY (Vz ⟨w.heap.size,0,Vx⟩),VZ VH 0,VY (Vz ⟨w.heap.size,35,Vx⟩),VZ VH e.number,VX Vw,VX Vw,VB,VB,VB,VB,VB,VB,VB,VB,VB,VB,VB,VB,VB,VX Vw,VX Vw,VB,VB,VB,VB,VB,VB,VB,VB,VB,VB,VB,VB,VB,VX VD,VX VD,vs 8,vs 0,vs 1,vs 2,vs 3,vs 4,vs 5,vs 6,vs 7,vs 9,vs 10,vs 11,vs 12,VB,VB,VB,VB,VB,VB,VB,VB,VB,VB,VB,VB,VB,VB,VB,VB,VB,VB,VB,VB,VB,VB,VB,VB,VB,VB,VB,VB,VB,VB,VB,VB,VB,VB,VB,VB,VB,VB,VB,VB,VB,VB,VB,VB,VB,VB],[]⟩)
  (λL vs W=>dD W0 (ju c w.heap.size 6 e a.za (ln j.sizes) a.zc) (λv W1=>ng v/\(dV (ln j.sizes) e.index=0->W1.ownsRow w.heap.size 59 3 v ((bL j.sizes).length-1) ((bL j.sizes).eraseIdx e.index.toNat).flatten)) (VZ VH (dV (ln j.sizes) e.index)) ⟨c,6,Vx⟩ 7 [4,6] L vs W) V8 ?step ?tail (λ_=>VB) _ (dD.start (Ext.dr _)))
 case step=>exact j6
 case tail=>exact mz
def M6(w:Vt)(c:Nat)(j:bI)(a:dS)(e:Ed)(g:Vy)(hc:JC w c j a){X:Nat->Prop}(hb:iD X w c j a)(hlen:ln j.bars<=1000000)(hnum:e.number=7):
  VJ prog 101 #[VY (Vz ⟨c,0,Vx⟩),V5 (aE e g)] w λx w'=>x=V0 (VZ VH (dV (ln j.bars) e.index))/\fU c w w'/\(dV (ln j.bars) e.index=0->∃a',nd X c w w' {j with bars:=j.bars.eraseIdx e.index.toNat} a'):=by
 have hlt:=hc.lt;obtain⟨rows,hrr,hrs,hrv⟩:=sf hb (Nat.le_of_lt hc.lt);obtain⟨W0,HW,HZ',HE0,HJ,z35⟩:=oD e g hc;have e0:=HE0.o;have KP:=Vs (λ(W:Vt) (h:Ext W0 W)=>JQ W a.ba a.bc rows e.index ((hrs.below ((e0.tr h).mono (Nat.le_of_lt hlt))).more (VI (Nat.le_of_lt hlt) (e0.tr h).size)) hrr.wide hrr.one (by rw[hrr.1];exact hlen));have HF:=Vs (λ(W1:Vt) (v:Vy) (hx:Ext W0 W1) (h0:dV (ln j.bars) e.index=0) (ho:W1.ownsRow w.heap.size 62 6 v (ln rows-1) (rows.eraseIdx e.index.toNat).flatten)=>Qv hc hb (e0.tr hx) (hrr.erase e.index.toNat) (λW hO=>(hrv W hO).erase e.index.toNat) (by rw[ka (l:=rows) (by rw[hrr.1];exact h0)] at ho;exact ho));have HBl:=Vs (λ(W1:Vt) (v:Vy) (hx:Ext W0 W1)=>((fU.ext (e0.tr hx) hlt).put 7 v:fU c w (W1.setCell ⟨c,7,Vx⟩ v)));have HL:=Vs (show ln rows=ln j.bars by exact hrr.1);have t0:(e.number==4)=Vw:=WH;have t1:(e.number==5)=Vw:=WH;have t2:(e.number==6)=Vw:=WH;have t3:(e.number==7)=VD:=WH;clear hc hb e0 hnum hrr hrs hrv;go_enter func101,ntmps101;go_wp2_with fail
 rw[HW.o];refine wp_region_any V8 (cn 14 (λvs=>⟨#[VY (Vz ⟨c,0,Vx⟩),V5 (aE e g),VB,VY (Vz ⟨w.heap.size,0,Vx⟩),VZ VH 0,VY (Vz ⟨w.heap.size,35,Vx⟩),VZ VH e.number,VX Vw,VX Vw,VB,VB,VB,VB,VB,VB,VB,VB,VB,VB,VB,VB,VB,VX Vw,VX Vw,VB,VB,VB,VB,VB,VB,VB,VB,VB,VB,VB,VB,VB,VX Vw,VX Vw,VB,VB,VB,VB,VB,VB,VB,VB,VB,VB,VB,VB,VB,VX VD,VX VD,vs 8,vs 0,vs 1,vs 2,vs 3,vs 4,vs 5,vs 6,vs 7,vs 9,vs 10,vs 11,vs 12,VB,VB,VB,VB,VB,VB,VB,VB,VB,VB,VB,VB,VB,VB,VB,VB,VB,VB,VB,VB,VB,VB,VB,VB,VB,VB,VB,VB,VB,VB,VB],[]⟩)
  (λL vs W=>dD W0 (ju c w.heap.size 7 e a.ba (ln j.bars) a.bc) (λv W1=>ng v/\(dV (ln j.bars) e.index=0->W1.ownsRow w.heap.size 62 6 v (ln rows-1) (rows.eraseIdx e.index.toNat).flatten)) (VZ VH (dV (ln j.bars) e.index)) ⟨c,7,Vx⟩ 7 [4,6] L vs W) V8 ?step ?tail (λ_=>VB) _ (dD.start (Ext.dr _)))
 case step=>exact j6
 case tail=>exact mz
def L9(w:Vt)(c:Nat)(j:bI)(a:dS)(e:Ed)(g:Vy)(hc:JC w c j a){X:Nat->Prop}(hb:iD X w c j a)(hlen:ln j.aG<=1000000)(hnum:e.number=10):
  VJ prog 101 #[VY (Vz ⟨c,0,Vx⟩),V5 (aE e g)] w λx w'=>x=V0 (VZ VH (dV (ln j.aG) e.index))/\fU c w w'/\(dV (ln j.aG) e.index=0->∃a',nd X c w w' {j with aG:=j.aG.eraseIdx e.index.toNat} a'):=by
 have hlt:=hc.lt;obtain⟨W0,HW,HZ',HE0,HJ,z35⟩:=oD e g hc;have e0:=HE0.o;have KP:=Vs (λ(W:Vt) (h:Ext W0 W)=>M8 W a.la a.lc (bW j.aG) e.index ((hb.l.below ((e0.tr h).mono (Nat.le_of_lt hlt))).more (VI (Nat.le_of_lt hlt) (e0.tr h).size)) (oJ _) (NJ _) Xo);have hpm:(bW j.aG).eraseIdx e.index.toNat=bW (j.aG.eraseIdx e.index.toNat):=mn Qr j.aG e.index.toNat;have HF:=Vs (λ(W1:Vt) (v:Vy) (hx:Ext W0 W1) (h0:dV (ln j.aG) e.index=0) (ho:W1.ownsRow w.heap.size 64 3 v ((bW j.aG).length-1) ((bW j.aG).eraseIdx e.index.toNat).flatten)=>Qw (l:=j.aG.eraseIdx e.index.toNat) hc hb (e0.tr hx) (by rw[ka (l:=(bW j.aG)) XD,hpm] at ho;exact ho));have HBl:=Vs (λ(W1:Vt) (v:Vy) (hx:Ext W0 W1)=>((fU.ext (e0.tr hx) hlt).put 13 v:fU c w (W1.setCell ⟨c,13,Vx⟩ v)));have HL:=Vs (show(bW j.aG).length=ln j.aG by exact VC _);have t0:(e.number==4)=Vw:=WH;have t1:(e.number==5)=Vw:=WH;have t2:(e.number==6)=Vw:=WH;have t3:(e.number==7)=Vw:=WH;have t4:(e.number==10)=VD:=WH;clear hc hb e0 hnum hpm;go_enter func101,ntmps101;go_wp2_with fail
 rw[HW.o];refine wp_region_any V8 (cn 14 (λvs=>⟨#[VY (Vz ⟨c,0,Vx⟩),V5 (aE e g),VB,VY (Vz ⟨w.heap.size,0,Vx⟩),VZ VH 0,VY (Vz ⟨w.heap.size,35,Vx⟩),VZ VH e.number,VX Vw,VX Vw,VB,VB,VB,VB,VB,VB,VB,VB,VB,VB,VB,VB,VB,VX Vw,VX Vw,VB,VB,VB,VB,VB,VB,VB,VB,VB,VB,VB,VB,VB,VX Vw,VX Vw,VB,VB,VB,VB,VB,VB,VB,VB,VB,VB,VB,VB,VB,VX Vw,VX Vw,VB,VB,VB,VB,VB,VB,VB,VB,VB,VB,VB,VB,VB,VX VD,VX VD,vs 8,vs 0,vs 1,vs 2,vs 3,vs 4,vs 5,vs 6,vs 7,vs 9,vs 10,vs 11,vs 12,VB,VB,VB,VB,VB,VB,VB,VB,VB,VB,VB,VB,VB,VB,VB,VB],[]⟩)
  (λL vs W=>dD W0 (ju c w.heap.size 13 e a.la (ln j.aG) a.lc) (λv W1=>ng v/\(dV (ln j.aG) e.index=0->W1.ownsRow w.heap.size 64 3 v ((bW j.aG).length-1) ((bW j.aG).eraseIdx e.index.toNat).flatten)) (VZ VH (dV (ln j.aG) e.index)) ⟨c,13,Vx⟩ 7 [4,6] L vs W) V8 ?step ?tail (λ_=>VB) _ (dD.start (Ext.dr _)))
 case step=>exact j6
 case tail=>exact mz
def Kz(w:Vt)(c:Nat)(j:bI)(a:dS)(e:Ed)(g:Vy)(hc:JC w c j a){X:Nat->Prop}(hb:iD X w c j a)(hlen:ln j.spans<=1000000)(hnum:e.number=11):
  VJ prog 101 #[VY (Vz ⟨c,0,Vx⟩),V5 (aE e g)] w λx w'=>x=V0 (VZ VH (dV (ln j.spans) e.index))/\fU c w w'/\(dV (ln j.spans) e.index=0->∃a',nd X c w w' {j with spans:=j.spans.eraseIdx e.index.toNat} a'):=by
 have hlt:=hc.lt;obtain⟨W0,HW,HZ',HE0,HJ,z35⟩:=oD e g hc;have e0:=HE0.o;have KP:=Vs (λ(W:Vt) (h:Ext W0 W)=>Ly W a.sa a.sc (bF j.spans) e.index ((hb.s.below ((e0.tr h).mono (Nat.le_of_lt hlt))).more (VI (Nat.le_of_lt hlt) (e0.tr h).size)) (bC (f:=j9) (λ_=>rfl) _) (Ey _) Xo);have hpm:(bF j.spans).eraseIdx e.index.toNat=bF (j.spans.eraseIdx e.index.toNat):=mn j9 j.spans e.index.toNat;have HF:=Vs (λ(W1:Vt) (v:Vy) (hx:Ext W0 W1) (h0:dV (ln j.spans) e.index=0) (ho:W1.ownsRow w.heap.size 66 5 v ((bF j.spans).length-1) ((bF j.spans).eraseIdx e.index.toNat).flatten)=>M3 (l:=j.spans.eraseIdx e.index.toNat) hc hb (e0.tr hx) (by rw[ka (l:=(bF j.spans)) XD,hpm] at ho;exact ho));have HBl:=Vs (λ(W1:Vt) (v:Vy) (hx:Ext W0 W1)=>((fU.ext (e0.tr hx) hlt).put 14 v:fU c w (W1.setCell ⟨c,14,Vx⟩ v)));have HL:=Vs (show(bF j.spans).length=ln j.spans by exact VC _);have t0:(e.number==4)=Vw:=WH;have t1:(e.number==5)=Vw:=WH;have t2:(e.number==6)=Vw:=WH;have t3:(e.number==7)=Vw:=WH;have t4:(e.number==10)=Vw:=WH;have t5:(e.number==11)=VD:=WH;clear hc hb e0 hnum hpm;go_enter func101,ntmps101;go_wp2_with fail
 rw[HW.o];refine wp_region_any V8 (cn 14 (λvs=>⟨#[VY (Vz ⟨c,0,Vx⟩),V5 (aE e g),VB,VY (Vz ⟨w.heap.size,0,Vx⟩),VZ VH 0,VY (Vz ⟨w.heap.size,35,Vx⟩),VZ VH e.number,VX Vw,VX Vw,VB,VB,VB,VB,VB,VB,VB,VB,VB,VB,VB,VB,VB,VX Vw,VX Vw,VB,VB,VB,VB,VB,VB,VB,VB,VB,VB,VB,VB,VB,VX Vw,VX Vw,VB,VB,VB,VB,VB,VB,VB,VB,VB,VB,VB,VB,VB,VX Vw,VX Vw,VB,VB,VB,VB,VB,VB,VB,VB,VB,VB,VB,VB,VB,VX Vw,VX Vw,VB,VB,VB,VB,VB,VB,VB,VB,VB,VB,VB,VB,VB,VX VD,VX VD,vs 8,vs 0,vs 1,vs 2,vs 3,vs 4,vs 5,vs 6,vs 7,vs 9,vs 10,vs 11,vs 12,VB],[]⟩)
  (λL vs W=>dD W0 (ju c w.heap.size 14 e a.sa (ln j.spans) a.sc) (λv W1=>ng v/\(dV (ln j.spans) e.index=0->W1.ownsRow w.heap.size 66 5 v ((bF j.spans).length-1) ((bF j.spans).eraseIdx e.index.toNat).flatten)) (VZ VH (dV (ln j.spans) e.index)) ⟨c,14,Vx⟩ 7 [4,6] L vs W) V8 ?step ?tail (λ_=>VB) _ (dD.start (Ext.dr _)))
 case step=>exact j6
 case tail=>exact mz
def JO(w:Vt)(c:Nat)(e:Ed)(g:Vy)(hlt:c<w.heap.size)(n0:e.number≠4)(n1:e.number≠5)(n2:e.number≠6)(n3:e.number≠7)(n4:e.number≠10)(n5:e.number≠11):
  VJ prog 101 #[VY (Vz ⟨c,0,Vx⟩),V5 (aE e g)] w λx w'=>x=V0 (VZ VH 8)/\fU c w w':=by
 have e0:=Vs (show fU c w (w.alloc (.cells (aE e g) 68)) from fU.ext ((Below.refl _ _).alloc (Vu _) _) hlt);have z35:=(EC.new w (aE e g)).cell 35;have t0:(e.number==4)=Vw:=beq_eq_false_iff_ne.2 n0;have t1:(e.number==5)=Vw:=beq_eq_false_iff_ne.2 n1;have t2:(e.number==6)=Vw:=beq_eq_false_iff_ne.2 n2;have t3:(e.number==7)=Vw:=beq_eq_false_iff_ne.2 n3;have t4:(e.number==10)=Vw:=beq_eq_false_iff_ne.2 n4;have t5:(e.number==11)=Vw:=beq_eq_false_iff_ne.2 n5;clear n0 n1 n2 n3 n4 n5;go_enter func101,ntmps101;go_wp2;go_ret;exact⟨rfl,e0.o⟩
end
section
open Kp
attribute [local go_sem] bM jQ jK jJ jO jN jR jL jP jS jU gi fX fZ gj gw
attribute [local go_sem] aM fC fH iy gU iA ik gW gV im gY eP eN eV eK eY eR eQ er eu ey eh ej dY eT eO eU eS eI eM eJ eX fm fu ft fo dX eZ
def Ov(p:Nat->Bool)(n:Nat): -1<=jF p n/\jF p n<(n:Int):=by
 induction n with
 |zero=>unfold jF;omega
 |succ n ih=>
  unfold jF;split
  ·split <;>omega
  ·omega
def Rd(l:List Sz)(k:Int):Int:=if jF (λi=>(l.getD i iI).kind==k) (ln l)<0 then(ln l:Int) else jF (λi=>(l.getD i iI).kind==k) (ln l)
def RQ(l:List Sz)(k:Int):eC (ln l) (Rd l k)=0:=by
 have:=Ov (λi=>(l.getD i iI).kind==k) (ln l);unfold Rd eC;split <;>rw[if_pos V7]
def Ex(s:Sz)(w:Vt)(B:Nat)(e:Ed)(g:Vy)(hb:EC w B (aE e g)):
  VJ prog 155 #[V5 (GF s).toArray,VY (Vz ⟨B,0,Vx⟩)] w λx w'=>x=V0 (VX (s.kind==e.zkind))/\Ext w w':=by
 have E0:=Vs (show Ext w (w.alloc (.cells (GF s).toArray 59)) from(Below.refl _ _).alloc (Vu _) _);have c:=(hb.ext E0.o).cell 14;have hz:=hb.lt;obtain⟨r,hr⟩:∃r,(s.kind==e.zkind)=r:=⟨_,rfl⟩;rw[hr];clear hb;go_enter func155,ntmps155;go_wp2;go_ret;exact⟨rfl,E0.o⟩
def Kt(l:List Sz)(w:Vt)(B:Nat)(e:Ed)(g:Vy)(hb:EC w B (aE e g)):xJ 155 #[VY (Vz ⟨B,0,Vx⟩)] 3 (bL l) (λi=>(l.getD i iI).kind==e.zkind) w:=by
 intro W i hi hx;rw[VC] at hi;have:(bL l).getD i []=GF (l.getD i iI):=by simp[Vv,hi]
 rw[this];exact Ex _ W B e g (hb.ext hx)
def tN(c b:Nat)(e:Ed)(A:Option VT)(n cap:Nat)(m:Int):Nat->Vy
 |0=> VY (Vz ⟨c,0,Vx⟩)
 |1=> VY (Vz ⟨c,0,Vx⟩)
 |2=> VY (Vz ⟨c,0,Vx⟩)
 |3=> VY (Vz ⟨c,6,Vx⟩)
 |4=> VV A n cap
 |5=> VZ VH m
 |6=> VY (Vz ⟨b,14,Vx⟩)
 |7=> V5 #[VZ VH e.zkind,VZ VH e.zwidth,VZ VH e.zdepth]
 |11=> VZ VH (eC n m)
 |12=> VY (Vz ⟨c,0,Vx⟩)
 |13=> VY (Vz ⟨c,6,Vx⟩)
 |_=>VB
theorem Gz(h:p:=by
   intro i L vs W hi hL hI hd;have HI:=Vs hI;rcases(show i=0\/i=1\/i=2\/i=3\/i=4\/i=5\/i=6\/i=7\/i=8\/i=9\/i=10\/i=11\/i=12\/i=13\/i=14 by omega) with rfl|rfl|rfl|rfl|rfl|rfl|rfl|rfl|rfl|rfl|rfl|rfl|rfl|rfl|rfl<;>clear hi hI
   ·exact ZY
   ·exact ZY
   ·refine VE rfl (λK hK=> ?_);have d1:=HI.o.vals 1 (hd 1 V8) V9;simp only[tN] at d1;go_simp;exact hK _ _ ⟨_,by simp[bA,tN,d1],HI.o.pure V9 rfl⟩
   ·refine VE rfl (λK hK=> ?_);have d2:=HI.o.vals 2 (hd 2 V8) V9;simp only[tN] at d2;go_simp;exact hK _ _ ⟨_,by simp[bA,tN,d2],HI.o.pure V9 rfl⟩
   ·refine VE rfl (λK hK=> ?_);have d3:=HI.o.vals 3 (hd 3 V8) V9;simp only[tN] at d3;have hx:=HI.o.load (k:=4) V9 hL;have mm:=(HJ.o.ext hx).cell 6;clear hx;go_simp;exact hK _ _ ⟨_,by simp[bA,tN,d3],HI.o.pure V9 rfl⟩
   ·exact ZY
   ·exact ZY
   ·refine VE rfl (λK hK=> ?_);have d6:=HI.o.vals 6 (hd 6 V8) V9;simp only[tN] at d6;have hx:=HI.o.load (k:=7) V9 hL;have m14:=(HZ'.o.ext hx).cell 14;have m15:=(HZ'.o.ext hx).cell 15;have m16:=(HZ'.o.ext hx).cell 16;clear hx;go_simp;exact hK _ _ ⟨_,by simp[bA,tN,d6],HI.o.pure V9 rfl⟩
   ·refine VE rfl (λK hK=> ?_);have d4:=HI.o.vals 4 (hd 4 V8) V9;simp only[tN] at d4;have d5:=HI.o.vals 5 (hd 5 V8) V9;simp only[tN] at d5;have d7:=HI.o.vals 7 (hd 7 V8) V9;simp only[tN] at d7;have hx:=Vs (HI.o.ext hL);go_simp;rw[<-HL.o];refine(KP.o _ hx.o).mono ?_;rintro x W1 ⟨v,hsl,rfl,ho,hX⟩;exact hK _ _ ⟨_,by simp[bA,d4,d5,d7,HL.o],HI.o.call hL (by intro k hk;simp at hk;rcases hk with rfl|rfl|rfl<;>exact hd _ V8) hX ⟨hsl,λh=>dA (ho (HL.o.symm▸h)) (VI HE0.o.size hx.o.size)⟩⟩
   ·refine VE rfl (λK hK=> ?_);go_simp;exact hK _ _ ⟨vs 8,by simp[bA],HI.o.move hL (hd 8 V8)⟩
   ·refine VE rfl (λK hK=> ?_);obtain⟨v,ht,hn⟩:=HI.o.first hL (hd 9 V8);exact ZW
   ·refine VE rfl (λK hK=> ?_);obtain⟨v,ht⟩:=HI.o.UA (hd 9 V8);go_simp;exact hK _ _ ⟨_,by simp[bA,tN,ht],HI.o.pure V9 rfl⟩
   ·refine VE rfl (λK hK=> ?_);have d0:=HI.o.vals 0 (hd 0 V8) V9;simp only[tN] at d0;go_simp;exact hK _ _ ⟨_,by simp[bA,tN,d0],HI.o.pure V9 rfl⟩
   ·refine VE rfl (λK hK=> ?_);have d12:=HI.o.vals 12 (hd 12 V8) V9;simp only[tN] at d12;go_simp;exact hK _ _ ⟨_,by simp[bA,tN,d12],HI.o.pure V9 rfl⟩
   ·refine VE rfl (λK hK=> ?_);have d13:=HI.o.vals 13 (hd 13 V8) V9;simp only[tN] at d13;obtain⟨hx,⟨⟨A1,n1,c1,hv⟩,_⟩,hn⟩:=HI.o.store hL (hd 10 V8) rfl;rw[hv] at hn;have hw:vs 10=VV A1 n1 c1:=hv;clear hv;have mm:=(HJ.o.ext hx).cell 6;have nn:=(HJ.o.ext hx).frozen 6;clear hx;go_simp;exact hK _ _ ⟨VB,by simp[bA,d13,hw],hn⟩):p:=h
theorem FR(h:p:=by
   intro L vs W hL hI;obtain⟨he,v,W2,hx,⟨_,ho⟩,rfl⟩:=hI.done hL;have h11:vs 11=VZ VH (eC (ln j.sizes) m):=he;rw[HP0.o] at h11;have HX:=Vs hx;have HO:=Vs (ho HP0.o);clear hx ho he hI;simp only[h11,List.drop_succ_cons,List.drop_zero];go_wp2;go_ret;exact⟨rfl,HF.o W2 v HX.o HO.o⟩):p:=h
def Hc(w:Vt)(c:Nat)(j:bI)(a:dS)(e:Ed)(g:Vy)(hc:JC w c j a){X:Nat->Prop}(hb:iD X w c j a)(hlen:ln j.sizes<=1000000):
  VJ prog 93 #[VY (Vz ⟨c,0,Vx⟩),V5 (aE e g)] w λx w'=>x=V0 (VZ VH 0)/\∃a',nd X c w w' {j with sizes:=cF j.sizes (Rd j.sizes e.zkind) ⟨e.zkind,e.zwidth,e.zdepth⟩} a':=by
 have hlt:=hc.lt;obtain⟨W0,hW0⟩:∃W0,w.alloc (.cells (aE e g) 68)=W0:=⟨_,rfl⟩;have HZ:EC W0 w.heap.size (aE e g):=WU;have e0:Ext w W0:=Wt;have hJ:=hc.ext e0;have KI:=Vs (zu W0 a.za a.zc (ln j.sizes) (bL j.sizes) (VC _) ((hb.z.below (e0.mono (Nat.le_of_lt hlt))).more (VI (Nat.le_of_lt hlt) e0.size)) (bC (f:=GF) (λ_=>rfl) _) (λi=>(j.sizes.getD i iI).kind==e.zkind) 155 #[VY (Vz ⟨w.heap.size,0,Vx⟩)] (enters_of func155 V8 rfl) (Kt j.sizes W0 w.heap.size e g HZ));have hM:Rd j.sizes e.zkind=(if jF (λi=>(j.sizes.getD i iI).kind==e.zkind) (ln j.sizes)<0 then(ln j.sizes:Int) else jF (λi=>(j.sizes.getD i iI).kind==e.zkind) (ln j.sizes)):=rfl;have hP:=RQ j.sizes e.zkind;obtain⟨x,hx⟩:∃x,jF (λi=>(j.sizes.getD i iI).kind==e.zkind) (ln j.sizes)=x:=⟨_,rfl⟩;rw[hx] at KI hM;obtain⟨m,hm⟩:∃m,Rd j.sizes e.zkind=m:=⟨_,rfl⟩;rw[hm] at hM hP⊢;have KP:=Vs (λ(W:Vt) (h:Ext W0 W)=>JP W a.za a.zc (bL j.sizes) (VZ VH e.zkind) (VZ VH e.zwidth) (VZ VH e.zdepth) m ((hb.z.below ((e0.tr h).mono (Nat.le_of_lt hlt))).more (VI (Nat.le_of_lt hlt) (e0.tr h).size)) (bC (f:=GF) (λ_=>rfl) _) (MX _) rfl Xo);have hpm:cF (bL j.sizes) m [VZ VH e.zkind,VZ VH e.zwidth,VZ VH e.zdepth]=bL (cF j.sizes m ⟨e.zkind,e.zwidth,e.zdepth⟩):=uV GF j.sizes m ⟨e.zkind,e.zwidth,e.zdepth⟩;have HF:=Vs (λ(W1:Vt) (v:Vy) (hx:Ext W0 W1) (ho:W1.ownsRow w.heap.size 59 3 v (cF (bL j.sizes) m [VZ VH e.zkind,VZ VH e.zwidth,VZ VH e.zdepth]).length (cF (bL j.sizes) m [VZ VH e.zkind,VZ VH e.zwidth,VZ VH e.zdepth]).flatten)=>Qq (l:=cF j.sizes m ⟨e.zkind,e.zwidth,e.zdepth⟩) hc hb (e0.tr hx) (by rw[hpm] at ho;exact ho));have HL:=Vs (show(bL j.sizes).length=ln j.sizes by exact VC _);have HP0:=Vs hP;have HJ:=Vs hJ;have HE0:=Vs e0;have HZ':=Vs HZ;have HW:=Vs hW0;have q6:=hJ.cell 6;clear hc hb hJ HZ e0 hpm hx hm hP hlen;by_cases hx0:x<0
 ·have t:decide (x<0)=VD:=decide_eq_true hx0;rw[if_pos hx0] at hM;have HMM:=Vs hM;clear hM hx0 HW;subst hW0;go_enter func93,ntmps93;go_wp2_with(go_at_call 154;go_must(refine KI.o.mono ?_);rintro e W1 ⟨rfl,hX1⟩;have HX1:=Vs hX1;have q6:=(HJ.o.ext hX1).cell 6;clear hX1)
  clear q6;obtain⟨W0,hW0⟩:∃W0,w.alloc (.cells (aE e g) 68)=W0:=⟨_,rfl⟩;rw[hW0] at HE0 HJ HZ' HX1;simp only[hW0] at KP HF;clear hW0 KI;rw[<-HMM.o];refine wp_region_any V8 (cn 15 (λvs=>⟨#[VY (Vz ⟨c,0,Vx⟩),V5 (aE e g),VB,VY (Vz ⟨w.heap.size,0,Vx⟩),VZ VH 0,VZ VH m,VZ VH 0,VY (Vz ⟨c,0,Vx⟩),VY (Vz ⟨c,0,Vx⟩),VY (Vz ⟨c,6,Vx⟩),VV a.za (ln j.sizes) a.zc,.func (.func 155) #[] #[VY (Vz ⟨w.heap.size,0,Vx⟩)],VZ VH x,VZ VH x,VX VD,VY (Vz ⟨c,0,Vx⟩),VY (Vz ⟨c,0,Vx⟩),VY (Vz ⟨c,6,Vx⟩),VV a.za (ln j.sizes) a.zc,VZ VH m,vs 9,vs 0,vs 1,vs 2,vs 3,vs 4,vs 5,vs 6,vs 7,vs 8,vs 10,vs 11,vs 12,vs 13,VB],[]⟩)
   (λL vs W=>dD W0 (tN c w.heap.size e a.za (ln j.sizes) a.zc m) (λv W1=>ng v/\(eC (ln j.sizes) m=0->W1.ownsRow w.heap.size 59 3 v (cF (bL j.sizes) m [VZ VH e.zkind,VZ VH e.zwidth,VZ VH e.zdepth]).length (cF (bL j.sizes) m [VZ VH e.zkind,VZ VH e.zwidth,VZ VH e.zdepth]).flatten)) (VZ VH (eC (ln j.sizes) m)) ⟨c,6,Vx⟩ 8 [4,5,7] L vs W) V8 ?_ ?_ (λ_=>VB) _ (dD.start (HX1.o.tr (Ext.dr _))))
  ·exact Gz
  ·exact FR
 ·have t:decide (x<0)=Vw:=decide_eq_false hx0;rw[if_neg hx0] at hM;have HMM:=Vs hM;clear hM hx0 HW;subst hW0;go_enter func93,ntmps93;go_wp2_with(go_at_call 154;go_must(refine KI.o.mono ?_);rintro e W1 ⟨rfl,hX1⟩;have HX1:=Vs hX1;have q6:=(HJ.o.ext hX1).cell 6;clear hX1)
  clear q6;obtain⟨W0,hW0⟩:∃W0,w.alloc (.cells (aE e g) 68)=W0:=⟨_,rfl⟩;rw[hW0] at HE0 HJ HZ' HX1;simp only[hW0] at KP HF;clear hW0 KI;rw[<-HMM.o];refine wp_region_any V8 (cn 15 (λvs=>⟨#[VY (Vz ⟨c,0,Vx⟩),V5 (aE e g),VB,VY (Vz ⟨w.heap.size,0,Vx⟩),VZ VH 0,VZ VH m,VZ VH 0,VY (Vz ⟨c,0,Vx⟩),VY (Vz ⟨c,0,Vx⟩),VY (Vz ⟨c,6,Vx⟩),VV a.za (ln j.sizes) a.zc,.func (.func 155) #[] #[VY (Vz ⟨w.heap.size,0,Vx⟩)],VZ VH m,VZ VH m,VX Vw,VB,VB,VB,VB,VB,vs 9,vs 0,vs 1,vs 2,vs 3,vs 4,vs 5,vs 6,vs 7,vs 8,vs 10,vs 11,vs 12,vs 13,VB],[]⟩)
   (λL vs W=>dD W0 (tN c w.heap.size e a.za (ln j.sizes) a.zc m) (λv W1=>ng v/\(eC (ln j.sizes) m=0->W1.ownsRow w.heap.size 59 3 v (cF (bL j.sizes) m [VZ VH e.zkind,VZ VH e.zwidth,VZ VH e.zdepth]).length (cF (bL j.sizes) m [VZ VH e.zkind,VZ VH e.zwidth,VZ VH e.zdepth]).flatten)) (VZ VH (eC (ln j.sizes) m)) ⟨c,6,Vx⟩ 8 [4,5,7] L vs W) V8 ?_ ?_ (λ_=>VB) _ (dD.start (HX1.o.tr (Ext.dr _))))
  ·exact Gz
  ·exact FR
end
section
open Kp
attribute [local go_sem] aM fC fH dX
def pY(c b:Nat)(x y:Int):Nat->Vy
 |2=> VY (Vz ⟨b,1,Vx⟩)
 |3=> VZ VH x
 |4=> VY (Vz ⟨b,35,Vx⟩)
 |5=> VZ VH y
 |7=> VY (Vz ⟨c,2,Vx⟩)
 |8=>VB
 |10=> VY (Vz ⟨c,3,Vx⟩)
 |_=> VY (Vz ⟨c,0,Vx⟩)
def N5(w:Vt)(c:Nat)(j:bI)(a:dS)(e:Ed)(g:Vy)(hc:JC w c j a){X:Nat->Prop}(hb:iD X w c j a):
  VJ prog 89 #[VY (Vz ⟨c,0,Vx⟩),V5 (aE e g)] w λx w'=>x=V0 (VZ VH 0)/\nd X c w w' {j with origin:=e.index,spacing:=e.number} a:=by
 have hlt:=hc.lt;obtain⟨W0,hW0⟩:∃W0,w.alloc (.cells (aE e g) 68)=W0:=⟨_,rfl⟩;have HZ:EC W0 w.heap.size (aE e g):=WU;have e0:Ext w W0:=Wt;have hJ:=hc.ext e0;have HF:=Vs (λ(q:Nat)=>(show nd X c w ((((W0.drewN q).setCell ⟨c,2,Vx⟩ (VZ VH e.index)).setCell ⟨c,3,Vx⟩ (VZ VH e.number))) {j with origin:=e.index,spacing:=e.number} a from by
  have h0:fU c w (W0.drewN q):=fU.ext (below_drewN e0 q) hlt;have h1:=(h0.put 2 (VZ VH e.index)).put 3 (VZ VH e.number);have hJq:JC (W0.drewN q) c j a:=hJ.ext (below_drewN (Below.refl _ _) q);have hp:JC ((W0.drewN q).setCell ⟨c,2,Vx⟩ (VZ VH e.index)) c {j with origin:=e.index} a:=hJq.put _ rfl;refine⟨h1,hp.put _ rfl,λW hA=> ?_⟩;have h2:=hb.to hlt h1.below hA;exact⟨h2.p,h2.u,h2.o,h2.z,h2.b,h2.l,h2.s⟩))
 have k2:=hJ.cell 2;have k3:=hJ.cell 3;have f2:=hJ.frozen 2;have f3:=hJ.frozen 3;have z1:=HZ.cell 1;have z2:=HZ.cell 35;have HW:=Vs hW0;clear hW0 hc hb hJ;go_enter func89,ntmps89;go_wp2_with fail
 rw[HW.o];refine wp_region_any V8 (cn 11 (λvs=>⟨#[VY (Vz ⟨c,0,Vx⟩),V5 (aE e g),VB,VY (Vz ⟨w.heap.size,0,Vx⟩),VZ VH 0,vs 0,vs 1,vs 2,vs 3,vs 4,vs 5,vs 6,vs 7,vs 9,vs 10],[]⟩)
  (λL vs W=>(∀k,L k=VD->vs k=pY c w.heap.size e.index e.number k)/\W=if L 8=VD then W0.drew.setCell ⟨c,2,Vx⟩ (VZ VH e.index) else W0.drew) V8 ?step ?tail (λ_=>VB) _ ⟨λk h=>by simp at h,Wa⟩)
 case step=>
  intro i L vs W hi hL hI hd;obtain⟨hv,hW⟩:=hI;have hE:EC W w.heap.size (aE e g):=by
   rw[hW];split
   ·exact EC.dz (w:=W0.drew) HZ (by show w.heap.size≠c;omega) _
   ·exact HZ
  have y1:=hE.cell 1;have y2:=hE.cell 35;have hw8:∀i,i≠8->(W=if gF L i 8=VD then W0.drew.setCell ⟨c,2,Vx⟩ (VZ VH e.index) else W0.drew):=by
   intro i h;have:gF L i 8=L 8:=by unfold gF;rw[if_neg (Ne.symm h)]
   rw[this];exact hW
  have HWh:=Vs hW;have H8:=Vs hw8;clear hE hW hw8;rcases(show i=0\/i=1\/i=2\/i=3\/i=4\/i=5\/i=6\/i=7\/i=8\/i=9\/i=10 by omega) with rfl|rfl|rfl|rfl|rfl|rfl|rfl|rfl|rfl|rfl|rfl<;>clear hi
  ·refine VE rfl (λK hK=> ?_);go_simp;exact hK _ _ ⟨pY c w.heap.size e.index e.number 0,by simp[bA,pY],iv hv rfl,H8.o 0 V9⟩
  ·refine VE rfl (λK hK=> ?_);go_simp;exact hK _ _ ⟨pY c w.heap.size e.index e.number 1,by simp[bA,pY],iv hv rfl,H8.o 1 V9⟩
  ·refine VE rfl (λK hK=> ?_);go_simp;exact hK _ _ ⟨pY c w.heap.size e.index e.number 2,by simp[bA,pY],iv hv rfl,H8.o 2 V9⟩
  ·refine VE rfl (λK hK=> ?_);have d2:=hv 2 (hd 2 V8);simp only[pY] at d2;go_simp;exact hK _ _ ⟨pY c w.heap.size e.index e.number 3,by simp[bA,pY,d2],iv hv rfl,H8.o 3 V9⟩
  ·refine VE rfl (λK hK=> ?_);go_simp;exact hK _ _ ⟨pY c w.heap.size e.index e.number 4,by simp[bA,pY],iv hv rfl,H8.o 4 V9⟩
  ·refine VE rfl (λK hK=> ?_);have d4:=hv 4 (hd 4 V8);simp only[pY] at d4;go_simp;exact hK _ _ ⟨pY c w.heap.size e.index e.number 5,by simp[bA,pY,d4],iv hv rfl,H8.o 5 V9⟩
  ·refine VE rfl (λK hK=> ?_);have d0:=hv 0 (hd 0 V8);simp only[pY] at d0;go_simp;exact hK _ _ ⟨pY c w.heap.size e.index e.number 6,by simp[bA,pY,d0],iv hv rfl,H8.o 6 V9⟩
  ·refine VE rfl (λK hK=> ?_);have d6:=hv 6 (hd 6 V8);simp only[pY] at d6;go_simp;exact hK _ _ ⟨pY c w.heap.size e.index e.number 7,by simp[bA,pY,d6],iv hv rfl,H8.o 7 V9⟩
  ·refine VE rfl (λK hK=> ?_);have d3:=hv 3 (hd 3 V8);simp only[pY] at d3;have d7:=hv 7 (hd 7 V8);simp only[pY] at d7;have hW:=HWh.o;rw[if_neg (by rw[hL];decide)] at hW;subst hW;clear HWh H8;have m2:W0.drew.cell? ⟨c,2,Vx⟩=_:=k2;have n2:W0.drew.frozen? ⟨c,2,Vx⟩=Vw:=f2;go_simp;exact hK _ _ ⟨VB,by simp[bA,d3,d7];rfl,iv hv rfl,by rw[if_pos (show gF L 8 8=VD by simp[gF])];rfl⟩
  ·refine VE rfl (λK hK=> ?_);have d1:=hv 1 (hd 1 V8);simp only[pY] at d1;go_simp;exact hK _ _ ⟨pY c w.heap.size e.index e.number 9,by simp[bA,pY,d1],iv hv rfl,H8.o 9 V9⟩
  ·refine VE rfl (λK hK=> ?_);have d9:=hv 9 (hd 9 V8);simp only[pY] at d9;go_simp;exact hK _ _ ⟨pY c w.heap.size e.index e.number 10,by simp[bA,pY,d9],iv hv rfl,H8.o 10 V9⟩
 case tail=>
  intro L vs W hL hI;obtain⟨hv,hW⟩:=hI;rw[if_pos (hL 8 V9)] at hW;subst hW;have d5:=hv 5 (hL 5 V9);have d10:=hv 10 (hL 10 V9);simp only[pY] at d5 d10;have m3:W0.drew.cell? ⟨c,3,Vx⟩=_:=k3;have n3:W0.drew.frozen? ⟨c,3,Vx⟩=Vw:=f3;simp only[d5,d10,List.drop_succ_cons,List.drop_zero];go_wp2;go_ret;exact⟨rfl,HF.o 1⟩
end
section
open Kp
attribute [local go_sem] bM jQ jK jJ jO jN jR jL jP jS jU gi fX fZ gj gw
attribute [local go_sem] aM fC fH iy gU iA ik gW gV im gY eP eN eV eK eY eR eQ er eu ey eh ej dY eT eO eU eS eI eM eJ eX fm fu ft fo dX eZ
def rz(F O:Nat)(X:Vy)(m:Int)(c b:Nat)(A:Option VT)(n cap:Nat):Nat->Vy
 |0=> VY (Vz ⟨c,0,Vx⟩)
 |1=> VY (Vz ⟨c,0,Vx⟩)
 |2=> VY (Vz ⟨c,0,Vx⟩)
 |3=> VY (Vz ⟨c,F,Vx⟩)
 |4=> VV A n cap
 |5=> VY (Vz ⟨b,1,Vx⟩)
 |6=> VZ VH m
 |7=> VY (Vz ⟨b,O,Vx⟩)
 |8=>X
 |12=> VZ VH (eC n m)
 |13=> VY (Vz ⟨c,0,Vx⟩)
 |14=> VY (Vz ⟨c,F,Vx⟩)
 |_=>VB
theorem yy(h:p:=by
  intro i L vs W hi hL hI hd;have HI:=Vs hI;rcases(show i=0\/i=1\/i=2\/i=3\/i=4\/i=5\/i=6\/i=7\/i=8\/i=9\/i=10\/i=11\/i=12\/i=13\/i=14\/i=15 by omega) with rfl|rfl|rfl|rfl|rfl|rfl|rfl|rfl|rfl|rfl|rfl|rfl|rfl|rfl|rfl|rfl<;>clear hi hI
  ·exact ZZ
  ·exact ZZ
  ·refine VE rfl (λK hK=> ?_);have d1:=HI.o.vals 1 (hd 1 V8) V9;simp only[rz] at d1;go_simp;exact hK _ _ ⟨_,by simp[bA,rz,d1],HI.o.pure V9 rfl⟩
  ·refine VE rfl (λK hK=> ?_);have d2:=HI.o.vals 2 (hd 2 V8) V9;simp only[rz] at d2;go_simp;exact hK _ _ ⟨_,by simp[bA,rz,d2],HI.o.pure V9 rfl⟩
  ·refine VE rfl (λK hK=> ?_);have d3:=HI.o.vals 3 (hd 3 V8) V9;simp only[rz] at d3;have hx:=HI.o.load (k:=4) V9 hL;have mm:=λi=>(HJ.o.ext hx).cell i
   clear hx;go_simp;exact hK _ _ ⟨_,by simp[bA,rz,d3],HI.o.pure V9 rfl⟩
  ·exact ZZ
  ·refine VE rfl (λK hK=> ?_);have d5:=HI.o.vals 5 (hd 5 V8) V9;simp only[rz] at d5;have hx:=HI.o.load (k:=6) V9 hL;have mm:=(HZ'.o.ext hx).cell 1;clear hx;go_simp;exact hK _ _ ⟨_,by simp[bA,rz,d5],HI.o.pure V9 rfl⟩
  ·exact ZZ
  ·refine VE rfl (λK hK=> ?_);have d7:=HI.o.vals 7 (hd 7 V8) V9;simp only[rz] at d7;have hx:=HI.o.load (k:=8) V9 hL;have m1:=λi=>(HZ'.o.ext hx).cell i
   clear hx;go_simp;exact hK _ _ ⟨_,by simp[bA,rz,d7],HI.o.pure V9 rfl⟩
  ·refine VE rfl (λK hK=> ?_);have d4:=HI.o.vals 4 (hd 4 V8) V9;simp only[rz] at d4;have d6:=HI.o.vals 6 (hd 6 V8) V9;simp only[rz] at d6;have d8:=HI.o.vals 8 (hd 8 V8) V9;simp only[rz] at d8;have hx:=Vs (HI.o.ext hL);go_simp;rw[<-HL.o];refine(KP.o _ hx.o).mono ?_;rintro x W1 ⟨v,hsl,rfl,ho,hX⟩;exact hK _ _ ⟨_,by simp[bA,d4,d6,d8,HL.o],HI.o.call hL (by intro k hk;simp at hk;rcases hk with rfl|rfl|rfl<;>exact hd _ V8) hX ⟨hsl,λh=>dA (ho (HL.o.symm▸h)) (VI HE0.o.size hx.o.size)⟩⟩
  ·refine VE rfl (λK hK=> ?_);go_simp;exact hK _ _ ⟨vs 9,by simp[bA],HI.o.move hL (hd 9 V8)⟩
  ·refine VE rfl (λK hK=> ?_);obtain⟨v,ht,hn⟩:=HI.o.first hL (hd 10 V8);exact ZW
  ·refine VE rfl (λK hK=> ?_);obtain⟨v,ht⟩:=HI.o.UA (hd 10 V8);go_simp;exact hK _ _ ⟨_,by simp[bA,rz,ht],HI.o.pure V9 rfl⟩
  ·refine VE rfl (λK hK=> ?_);have d0:=HI.o.vals 0 (hd 0 V8) V9;simp only[rz] at d0;go_simp;exact hK _ _ ⟨_,by simp[bA,rz,d0],HI.o.pure V9 rfl⟩
  ·refine VE rfl (λK hK=> ?_);have d13:=HI.o.vals 13 (hd 13 V8) V9;simp only[rz] at d13;go_simp;exact hK _ _ ⟨_,by simp[bA,rz,d13],HI.o.pure V9 rfl⟩
  ·refine VE rfl (λK hK=> ?_);have d14:=HI.o.vals 14 (hd 14 V8) V9;simp only[rz] at d14;obtain⟨hx,⟨⟨A1,n1,c1,hv⟩,_⟩,hn⟩:=HI.o.store hL (hd 11 V8) rfl;rw[hv] at hn;have hw:vs 11=VV A1 n1 c1:=hv;clear hv;have mm:=λi=>(HJ.o.ext hx).cell i
   have nn:=λi=>(HJ.o.ext hx).frozen i
   clear hx;go_simp;exact hK _ _ ⟨VB,by simp[bA,d14,hw],hn⟩):p:=h
theorem zA(h:p:=by
  intro L vs W hL hI;obtain⟨he,v,W1,hx,⟨_,ho⟩,rfl⟩:=hI.done hL;have h12:=he;simp only[Nat.reduceAdd,rz] at h12;have HX:=Vs hx;have HO:=Vs ho;clear hx ho he hI;simp only[h12,List.drop_succ_cons,List.drop_zero];go_wp2;go_ret;exact⟨rfl,HBl.o W1 v HX.o,λh=>HF.o W1 v HX.o (HO.o h)⟩):p:=h
def Pq(w:Vt)(c:Nat)(j:bI)(a:dS)(e:Ed)(g:Vy)(hc:JC w c j a){X:Nat->Prop}(hb:iD X w c j a)(hlen:ln j.openings<=1000000):
  VJ prog 91 #[VY (Vz ⟨c,0,Vx⟩),V5 (aE e g)] w λx w'=>x=V0 (VZ VH (eC (ln j.openings) e.index))/\fU c w w'/\(eC (ln j.openings) e.index=0->∃a',nd X c w w' {j with openings:=cF j.openings e.index ⟨e.oside,e.oleft,e.oright,e.olow,e.ohigh⟩} a'):=by
 have hlt:=hc.lt;obtain⟨W0,hW0⟩:∃W0,w.alloc (.cells (aE e g) 68)=W0:=⟨_,rfl⟩;have HZ:EC W0 w.heap.size (aE e g):=WU;have e0:Ext w W0:=Wt;have hJ:=hc.ext e0;have KP:=Vs (λ(W:Vt) (h:Ext W0 W)=>Nw W a.oa a.oc (bw j.openings) (VZ VH e.oside) (VW (tx e.oleft)) (VW (tx e.oright)) (VW (tx e.olow)) (VW (tx e.ohigh)) e.index ((hb.o.below ((e0.tr h).mono (Nat.le_of_lt hlt))).more (VI (Nat.le_of_lt hlt) (e0.tr h).size)) (mK _) (Nn _) rfl Xo);have hpm:cF (bw j.openings) e.index [VZ VH e.oside,VW (tx e.oleft),VW (tx e.oright),VW (tx e.olow),VW (tx e.ohigh)]=bw (cF j.openings e.index ⟨e.oside,e.oleft,e.oright,e.olow,e.ohigh⟩):=uV vV j.openings e.index ⟨e.oside,e.oleft,e.oright,e.olow,e.ohigh⟩;have HF:=Vs (λ(W1:Vt) (v:Vy) (hx:Ext W0 W1) (ho:W1.ownsRow w.heap.size 57 5 v (cF (bw j.openings) e.index [VZ VH e.oside,VW (tx e.oleft),VW (tx e.oright),VW (tx e.olow),VW (tx e.ohigh)]).length (cF (bw j.openings) e.index [VZ VH e.oside,VW (tx e.oleft),VW (tx e.oright),VW (tx e.olow),VW (tx e.ohigh)]).flatten)=>QR (l:=cF j.openings e.index ⟨e.oside,e.oleft,e.oright,e.olow,e.ohigh⟩) hc hb (e0.tr hx) (by rw[hpm] at ho;exact ho));have HBl:=Vs (λ(W1:Vt) (v:Vy) (hx:Ext W0 W1)=>((fU.ext (e0.tr hx) hlt).put 5 v:fU c w (W1.setCell ⟨c,5,Vx⟩ v)));have HL:=Vs (show(bw j.openings).length=ln j.openings by exact VC _);have HJ:=Vs hJ;have HE0:=Vs e0;have HZ':=Vs HZ;have HW:=Vs hW0;clear hW0 hc hb hJ HZ e0 hpm;go_enter func91,ntmps91;go_wp2_with fail
 rw[HW.o];refine wp_region_any V8 (cn 16 (λvs=>⟨#[VY (Vz ⟨c,0,Vx⟩),V5 (aE e g),VB,VY (Vz ⟨w.heap.size,0,Vx⟩),VZ VH 0,vs 10,vs 0,vs 1,vs 2,vs 3,vs 4,vs 5,vs 6,vs 7,vs 8,vs 9,vs 11,vs 12,vs 13,vs 14,VB],[]⟩)
  (λL vs W=>dD W0 (rz 5 9 (V5 #[VZ VH e.oside,VW (tx e.oleft),VW (tx e.oright),VW (tx e.olow),VW (tx e.ohigh)]) e.index c w.heap.size a.oa (ln j.openings) a.oc) (λv W1=>ng v/\(eC (ln j.openings) e.index=0->W1.ownsRow w.heap.size 57 5 v (cF (bw j.openings) e.index [VZ VH e.oside,VW (tx e.oleft),VW (tx e.oright),VW (tx e.olow),VW (tx e.ohigh)]).length (cF (bw j.openings) e.index [VZ VH e.oside,VW (tx e.oleft),VW (tx e.oright),VW (tx e.olow),VW (tx e.ohigh)]).flatten)) (VZ VH (eC (ln j.openings) e.index)) ⟨c,5,Vx⟩ 9 [4,6,8] L vs W) V8 ?_ ?_ (λ_=>VB) _ (dD.start (Ext.dr W0)))
 ·exact yy
 ·exact zA
end
section
open Kp
attribute [local go_sem] bM jQ jK jJ jO jN jR jL jP jS jU gi fX fZ gj gw
attribute [local go_sem] aM fC fH iy gU iA ik gW gV im gY eP eN eV eK eY eR eQ er eu ey eh ej dY eT eO eU eS eI eM eJ eX fm fu ft fo dX eZ
def OJ(w:Vt)(c:Nat)(j:bI)(a:dS)(e:Ed)(ga:Option VT)(gc:Nat)(hc:JC w c j a){X:Nat->Prop}(hb:iD X w c j a)(hlen:ln j.bars<=1000000)(hg:bJ 2 w c ga gc (di e.gaps))(hgv:∀W,Hn X c w W->bJ 2 W W.heap.size ga gc (di e.gaps)):
  VJ prog 94 #[VY (Vz ⟨c,0,Vx⟩),V5 (aE e (VV ga (ln e.gaps) gc))] w λx w'=>x=V0 (VZ VH (eC (ln j.bars) e.index))/\fU c w w'/\(eC (ln j.bars) e.index=0->∃a',nd X c w w' {j with bars:=cF j.bars e.index ⟨e.bwidth,e.bdepth,e.blength,e.bcount,e.bcost,e.gaps⟩} a'):=by
 have hlt:=hc.lt;obtain⟨rows,hrr,hrs,hrv⟩:=sf hb (Nat.le_of_lt hc.lt);have HB:=Vs hrr;obtain⟨W0,hW0⟩:∃W0,w.alloc (.cells (aE e (VV ga (ln e.gaps) gc)) 68)=W0:=⟨_,rfl⟩;have HZ:EC W0 w.heap.size (aE e (VV ga (ln e.gaps) gc)):=WU;have e0:Ext w W0:=Wt;have hJ:=hc.ext e0;have KP:=Vs (λ(W:Vt) (h:Ext W0 W)=>MI W a.ba a.bc rows (VZ VH e.bwidth) (VZ VH e.bdepth) (VZ VH e.blength) (VZ VH e.bcount) (VZ VH e.bcost) (VV ga (ln e.gaps) gc) e.index ((hrs.below ((e0.tr h).mono (Nat.le_of_lt hlt))).more (VI (Nat.le_of_lt hlt) (e0.tr h).size)) hrr.wide hrr.one rfl (by rw[hrr.1];exact hlen));have HF:=Vs (λ(W1:Vt) (v:Vy) (hx:Ext W0 W1) (ho:W1.ownsRow w.heap.size 62 6 v (cF rows e.index [VZ VH e.bwidth,VZ VH e.bdepth,VZ VH e.blength,VZ VH e.bcount,VZ VH e.bcost,VV ga (ln e.gaps) gc]).length (cF rows e.index [VZ VH e.bwidth,VZ VH e.bdepth,VZ VH e.blength,VZ VH e.bcount,VZ VH e.bcost,VV ga (ln e.gaps) gc]).flatten)=>Qv hc hb (e0.tr hx) (hrr.put e.index ⟨e.bwidth,e.bdepth,e.blength,e.bcount,e.bcost,e.gaps⟩ ga gc hg) (λW hO=>(hrv W hO).put e.index ⟨e.bwidth,e.bdepth,e.blength,e.bcount,e.bcost,e.gaps⟩ ga gc (hgv W hO)) ho);have HBl:=Vs (λ(W1:Vt) (v:Vy) (hx:Ext W0 W1)=>((fU.ext (e0.tr hx) hlt).put 7 v:fU c w (W1.setCell ⟨c,7,Vx⟩ v)));have HL:=Vs (show ln rows=ln j.bars by exact hrr.1);have HJ:=Vs hJ;have HE0:=Vs e0;have HZ':=Vs HZ;have HW:=Vs hW0;clear hW0 hc hb hJ HZ e0 hrr hrs hg hrv hgv;go_enter func94,ntmps94;go_wp2_with fail
 rw[HW.o];refine wp_region_any V8 (cn 16 (λvs=>⟨#[VY (Vz ⟨c,0,Vx⟩),V5 (aE e (VV ga (ln e.gaps) gc)),VB,VY (Vz ⟨w.heap.size,0,Vx⟩),VZ VH 0,vs 10,vs 0,vs 1,vs 2,vs 3,vs 4,vs 5,vs 6,vs 7,vs 8,vs 9,vs 11,vs 12,vs 13,vs 14,VB],[]⟩)
  (λL vs W=>dD W0 (rz 7 17 (V5 #[VZ VH e.bwidth,VZ VH e.bdepth,VZ VH e.blength,VZ VH e.bcount,VZ VH e.bcost,VV ga (ln e.gaps) gc]) e.index c w.heap.size a.ba (ln j.bars) a.bc) (λv W1=>ng v/\(eC (ln j.bars) e.index=0->W1.ownsRow w.heap.size 62 6 v (cF rows e.index [VZ VH e.bwidth,VZ VH e.bdepth,VZ VH e.blength,VZ VH e.bcount,VZ VH e.bcost,VV ga (ln e.gaps) gc]).length (cF rows e.index [VZ VH e.bwidth,VZ VH e.bdepth,VZ VH e.blength,VZ VH e.bcount,VZ VH e.bcost,VV ga (ln e.gaps) gc]).flatten)) (VZ VH (eC (ln j.bars) e.index)) ⟨c,7,Vx⟩ 9 [4,6,8] L vs W) V8 ?_ ?_ (λ_=>VB) _ (dD.start (Ext.dr W0)))
 ·exact yy
 ·exact zA
end
section
open Kp
attribute [local go_sem] bM jQ jK jJ jO jN jR jL jP jS jU gi fX fZ gj gw
attribute [local go_sem] aM fC fH iy gU iA ik gW gV im gY eP eN eV eK eY eR eQ er eu ey eh ej dY eT eO eU eS eI eM eJ eX fm fu ft fo dX eZ
def OH(w:Vt)(c:Nat)(j:bI)(a:dS)(e:Ed)(g:Vy)(hc:JC w c j a){X:Nat->Prop}(hb:iD X w c j a)(hlen:ln j.aG<=1000000):
  VJ prog 98 #[VY (Vz ⟨c,0,Vx⟩),V5 (aE e g)] w λx w'=>x=V0 (VZ VH (eC (ln j.aG) e.index))/\fU c w w'/\(eC (ln j.aG) e.index=0->∃a',nd X c w w' {j with aG:=cF j.aG e.index ⟨e.lkind,e.lside,e.lweight⟩} a'):=by
 have hlt:=hc.lt;obtain⟨W0,hW0⟩:∃W0,w.alloc (.cells (aE e g) 68)=W0:=⟨_,rfl⟩;have HZ:EC W0 w.heap.size (aE e g):=WU;have e0:Ext w W0:=Wt;have hJ:=hc.ext e0;have KP:=Vs (λ(W:Vt) (h:Ext W0 W)=>Le W a.la a.lc (bW j.aG) (VZ VH e.lkind) (VZ VH e.lside) (VW (tx e.lweight)) e.index ((hb.l.below ((e0.tr h).mono (Nat.le_of_lt hlt))).more (VI (Nat.le_of_lt hlt) (e0.tr h).size)) (oJ _) (NJ _) rfl Xo);have hpm:cF (bW j.aG) e.index [VZ VH e.lkind,VZ VH e.lside,VW (tx e.lweight)]=bW (cF j.aG e.index ⟨e.lkind,e.lside,e.lweight⟩):=uV Qr j.aG e.index ⟨e.lkind,e.lside,e.lweight⟩;have HF:=Vs (λ(W1:Vt) (v:Vy) (hx:Ext W0 W1) (ho:W1.ownsRow w.heap.size 64 3 v (cF (bW j.aG) e.index [VZ VH e.lkind,VZ VH e.lside,VW (tx e.lweight)]).length (cF (bW j.aG) e.index [VZ VH e.lkind,VZ VH e.lside,VW (tx e.lweight)]).flatten)=>Qw (l:=cF j.aG e.index ⟨e.lkind,e.lside,e.lweight⟩) hc hb (e0.tr hx) (by rw[hpm] at ho;exact ho));have HBl:=Vs (λ(W1:Vt) (v:Vy) (hx:Ext W0 W1)=>((fU.ext (e0.tr hx) hlt).put 13 v:fU c w (W1.setCell ⟨c,13,Vx⟩ v)));have HL:=Vs (show(bW j.aG).length=ln j.aG by exact VC _);have HJ:=Vs hJ;have HE0:=Vs e0;have HZ':=Vs HZ;have HW:=Vs hW0;clear hW0 hc hb hJ HZ e0 hpm;go_enter func98,ntmps98;go_wp2_with fail
 rw[HW.o];refine wp_region_any V8 (cn 16 (λvs=>⟨#[VY (Vz ⟨c,0,Vx⟩),V5 (aE e g),VB,VY (Vz ⟨w.heap.size,0,Vx⟩),VZ VH 0,vs 10,vs 0,vs 1,vs 2,vs 3,vs 4,vs 5,vs 6,vs 7,vs 8,vs 9,vs 11,vs 12,vs 13,vs 14,VB],[]⟩)
  (λL vs W=>dD W0 (rz 13 23 (V5 #[VZ VH e.lkind,VZ VH e.lside,VW (tx e.lweight)]) e.index c w.heap.size a.la (ln j.aG) a.lc) (λv W1=>ng v/\(eC (ln j.aG) e.index=0->W1.ownsRow w.heap.size 64 3 v (cF (bW j.aG) e.index [VZ VH e.lkind,VZ VH e.lside,VW (tx e.lweight)]).length (cF (bW j.aG) e.index [VZ VH e.lkind,VZ VH e.lside,VW (tx e.lweight)]).flatten)) (VZ VH (eC (ln j.aG) e.index)) ⟨c,13,Vx⟩ 9 [4,6,8] L vs W) V8 ?_ ?_ (λ_=>VB) _ (dD.start (Ext.dr W0)))
 ·exact yy
 ·exact zA
end
section
open Kp
theorem MK{B:Nat}{l:List (Int×Int)}(h:bJ 2 w B A cap (di l))(hp:0<ln l):
  ∃b off,A=Vz ⟨b,off,Vx⟩/\b<B/\∀i,i<ln l->w.cell? ⟨b,off+i*2,Vx⟩=Vz (VZ VH (l.getD i (0,0)).1)/\w.cell? ⟨b,off+i*2+1,Vx⟩=Vz (VZ VH (l.getD i (0,0)).2):=by
 obtain⟨h1,h2,h3⟩:=h;obtain⟨b,off,e,hb,hc⟩:=h3 (by rw[VC];exact hp);refine⟨b,off,e,hb,λi hi=> ?_⟩;have q:∀m,m<2->w.cell? ⟨b,off+i*2+m,Vx⟩=(Ub (l.getD i (0,0)))[m]?:=by
  intro m hm;have:=hc i Xi m hm;rw[mb hi,VL] at this;exact this
 exact⟨q 0 V9,q 1 V9⟩
theorem oI{B:Nat}{l:List Br}(h:fT w B A cap l)(hp:0<ln l):
  ∃b off,∃f:Nat->Option VT×Nat,A=Vz ⟨b,off,Vx⟩/\b<B/\∀i,i<ln l->(∀m,m<6->w.cell? ⟨b,off+i*6+m,Vx⟩=(qU (l.getD i oN) (f i).1 (f i).2)[m]?)/\bJ 2 w B (f i).1 (f i).2 (di (l.getD i oN).gaps):=by
 obtain⟨b,off,e,hb,hc⟩:=h.2.2 hp;have hx:∀i,∃p:Option VT×Nat,i<ln l->(∀m,m<6->w.cell? ⟨b,off+i*6+m,Vx⟩=(qU (l.getD i oN) p.1 p.2)[m]?)/\bJ 2 w B p.1 p.2 (di (l.getD i oN).gaps):=by
  intro i;by_cases hi:i<ln l
  ·obtain⟨ga,gc,h1,h2⟩:=hc i hi;exact⟨(ga,gc),λ_=>⟨λm hm=>by have:=h1 m hm;rw[VL] at this;exact this,h2⟩⟩
  ·exact⟨(Vx,0),λh=>absurd h hi⟩
 obtain⟨f,hf⟩:=Classical.axiomOfChoice hx;exact⟨b,off,f,e,hb,hf⟩
end
section
open Kp
structure GD(l:List Br):Prop where
 n:ln l<=66
def Cf (w : Vt) (A : Option VT) (cap : Nat) (l : List Br) (hl : fT w w.heap.size A cap l) :
    VJ prog 103 #[VV A (ln l) cap] w λx w' => jv (GD l) x /\ Ext w w' := by
  have h1 := hl.1;have h2 := hl.2.1;unfold VP at h2;have HL := Vs (λ(W : Vt) (hx : Ext w W) => ((hl.below hx).more hx.size : fT W W.heap.size A cap l));clear hl;obtain ⟨p1, t1⟩ : ∃ p, decide ((ln l : Int) > 6) = p := ⟨_, rfl⟩;obtain ⟨p2, t2⟩ : ∃ p, decide ((ln l : Int) <= 64) = p := ⟨_, rfl⟩;obtain ⟨p3, t3⟩ : ∃ p, decide ((ln l : Int) > 66) = p := ⟨_, rfl⟩;have H3 := Vs t3;cases p3 with
  | true =>
    have HB := Vs (show ∀ (b : Bool), b = VD -> jv (GD l) (V0 (VX b)) fromλ_ h => ⟨_, rfl, λh2 => by rw [h] at h2; cases h2⟩);cases p1 <;> cases p2
    all_goals
      go_enter func103, ntmps103;go_wp2;go_ret;exact ⟨HB.o _ rfl, Below.refl _ _⟩
  | false =>
    have HF := Vs (show ∀ (b : Bool), jv (GD l) (V0 (VX b)) fromλ_ => ⟨_, rfl, λ_ => ⟨by have := of_decide_eq_false H3.o; omega⟩⟩);cases p1 <;> cases p2
    all_goals
      go_enter func103, ntmps103
      first
        | (go_wp2
           go_ret;exact ⟨HF.o _, Below.refl _ _⟩)
        | (go_wp2
           go_loopw [3] (λi wr => ∃ k : Nat, i =VZ VH (k : Int) /\ k <= ln l /\ Ext w wr) (λi _ => ((ln l : Int) - VN i).toNat)
           case atStart => exact ⟨0, rfl, V7, Below.refl _ _⟩
           case round =>
             obtain ⟨k, rfl, hk, hX⟩ := hrel;have HX := Vs hX;by_cases hlt : k < ln l
             · obtain ⟨b, off, f, rfl, hb, hc⟩ := oI (HL.o _ hX) V7
               have y5 := (hc k hlt).1 5 V9;have y6 : _ = Vz (Value.slice (f k).1 (l.getD k oN).gaps.length (f k).2) := y5;obtain ⟨n, hn⟩ : ∃ n, (l.getD k oN).gaps.length = n := ⟨_, rfl⟩;rw [hn] at y6;clear y5 hX hc hn hb;go_wp2
               · go_ret
                 exact ⟨HF.o _, HX.o⟩
               · exact ⟨⟨k + 1, by go_num, V7, HX.o⟩, WI⟩
             · obtain rfl : k = ln l := by omega
               go_wp2;go_ret;exact ⟨HF.o _, HX.o⟩)
structure Gc(n:Nat):Prop where
 n:n<=4098
def C7(w:Vt)(A:Option VT)(cap n:Nat):
  VJ prog 104 #[VV A n cap] w λx w'=>jv (Gc n) x/\w'=w:=by
 obtain⟨p1,t1⟩:∃p,decide ((n:Int)>12)=p:=⟨_,rfl⟩;obtain⟨p2,t2⟩:∃p,decide ((n:Int)<=4096)=p:=⟨_,rfl⟩;obtain⟨p3,t3⟩:∃p,decide ((n:Int)>4098)=p:=⟨_,rfl⟩;have H3:=Vs t3;cases p3 with
 |true=>
  have HB:=Vs (show∀(b:Bool),b=VD->jv (Gc n) (V0 (VX b)) fromλ_ h=>⟨_,rfl,λh2=>by rw[h] at h2;cases h2⟩);cases p1<;>cases p2
  all_goals
   go_enter func104,ntmps104;go_wp2;go_ret;exact⟨HB.o _ rfl,rfl⟩
 |false=>
  have HF:=Vs (show∀(b:Bool),jv (Gc n) (V0 (VX b)) fromλ_=>⟨_,rfl,λ_=>⟨by have:=of_decide_eq_false H3.o;omega⟩⟩);cases p1<;>cases p2
  all_goals
   go_enter func104,ntmps104;go_wp2;go_ret;exact⟨HF.o _,rfl⟩
end
section
open Kp
theorem oe(h:p:=by
  obtain⟨h1,h2,h3⟩:=hr;obtain⟨h1',h2',h3'⟩:=hr';unfold VP at h2 h2';have H3:=Vs h3;have H4:=Vs h3';have HW:=Vs hw;have HS:=Vs hs;clear h3 h3' hw hs;go_wp2;go_loopw [5] (λi wr=>NT w (ln rows) i wr) (λi _=>((ln rows:Int)-VN i).toNat)
  case atStart=>exact⟨0,V7,rfl,Ext.aC _⟩
  case round=>exact Bt):p:=h
def Ik:NY 80 59 3:=by
 intro w A A' cap cap' rows hr hr' hw hs;go_enter func80,ntmps80;exact oe
def Jc:NY 82 64 3:=by
 intro w A A' cap cap' rows hr hr' hw hs;go_enter func82,ntmps82;exact oe
def IL:NY 83 66 5:=by
 intro w A A' cap cap' rows hr hr' hw hs;go_enter func83,ntmps83;exact oe
def EO:NY 79 57 5:=by
 intro w A A' cap cap' rows hr hr' hw hs;go_enter func79,ntmps79;exact oe
def If(x0:Int)(x1:Int)(W:Vt):(binOp .neq 84 (V5 #[VZ VH x0,VZ VH x1]) (V5 #[VZ VH x0,VZ VH x1])).run prog W= .ok (VX Vw) W:=by
 have U:=underlying84;exact oL
def Cg:NY 148 84 2:=by
 intro w A A' cap cap' rows hr hr' hw hs;go_enter func148,ntmps148;exact oe
def Cz(w:Vt)(A A':Option VT)(cap cap':Nat)(l:List Int)(hr:bJ 1 w w.heap.size A cap (bG l))(hr':bJ 1 w w.heap.size A' cap' (bG l)):
  VJ prog 78 #[VV A (ln l) cap,VV A' (ln l) cap'] w λe w'=>e=V0 (VX VD)/\Ext w w':=by
 obtain⟨h1,h2,h3⟩:=hr;obtain⟨h1',h2',h3'⟩:=hr';rw[VC] at h1 h3 h1' h3';unfold VP at h2 h2';have H3:=Vs h3;have H4:=Vs h3';clear h3 h3';go_enter func78,ntmps78;go_wp2;go_loopw [5] (λi wr=>NT w (ln l) i wr) (λi _=>((ln l:Int)-VN i).toNat)
 case atStart=>exact⟨0,V7,rfl,Ext.aC _⟩
 case round=>
  obtain⟨m,hm,rfl,hX⟩:=hrel;have HX:=Vs hX;clear hX;by_cases hlt:m<ln l
  ·obtain⟨b,off,rfl,hB,hc⟩:=H3.o V7;obtain⟨b',off',rfl,hB',hc'⟩:=H4.o V7;have c0:=ee HX.o hB (hc m hlt 0 V9);have d0:=ee HX.o hB' (hc' m hlt 0 V9);rw[gL hlt,Nat.one_mul,Nat.add_zero] at c0 d0;obtain⟨x,hx⟩:∃x,l.getD m 0=x:=⟨_,rfl⟩;rw[hx] at c0 d0;have e0:wr.cell? ⟨b,off+m,Vx⟩=Vz (VZ VH x):=c0;have f0:wr.cell? ⟨b',off'+m,Vx⟩=Vz (VZ VH x):=d0;have tt:(x==x)=VD:=beq_self_eq_true x;clear hc hc' c0 d0 hx;have tlt:decide ((m:Int)<(ln l:Int))=VD:=decide_eq_true V7;have e3:(m:Int)<(ln l:Int):=V7;exact ZQ
  ·exact ZS
def Jg(w:Vt)(A A':Option VT)(cap cap':Nat)(rs:List (List Sd))(hr:fj w w.heap.size A cap rs)(hr':fj w w.heap.size A' cap' rs):
  VJ prog 77 #[V5 #[VV A (ln rs) cap],V5 #[VV A' (ln rs) cap']] w λe w'=>e=V0 (VX VD)/\Ext w w':=by
 obtain⟨W0,hW0⟩:∃W0,(w.alloc (.cells #[VV A (ln rs) cap] 24)).alloc (.cells #[VV A' (ln rs) cap'] 24)=W0:=⟨_,rfl⟩;have e0:Ext w W0:=Ww;have HA:=Vs (λ(W:Vt) (h:Ext W0 W)=>(show W.cell? ⟨w.heap.size,0,Vx⟩=Vz (VV A (ln rs) cap) by
  have q:ai W0 w.heap.size 24 [VV A (ln rs) cap]:=by rw[<-hW0];exact(ai.new w _ _).ext ((Below.refl _ _).alloc (Vu _) _)
  exact(q.ext h).cell 0))
 have HB:=Vs (λ(W:Vt) (h:Ext W0 W)=>(show W.cell? ⟨w.heap.size+1,0,Vx⟩=Vz (VV A' (ln rs) cap') by
  have q:ai W0 (w.heap.size+1) 24 [VV A' (ln rs) cap']:=by
   have h:=ai.new (w.alloc (.cells #[VV A (ln rs) cap] 24)) 24 [VV A' (ln rs) cap'];rw[VK] at h;rw[<-hW0];exact h
  exact(q.ext h).cell 0))
 have HW:=Vs hW0;have E0:=Vs e0;obtain⟨h1,h2,h3⟩:=hr;obtain⟨h1',h2',h3'⟩:=hr';unfold VP at h2 h2';have H3:=Vs h3;have H4:=Vs h3';have a0:=HA.o _ (Ext.aC _);have b0:=HB.o _ (Ext.aC _);clear h3 h3' hW0 e0;go_enter func77,ntmps77;go_upto_region 1 with(fail)
 rw[HW.o];go_wp2;go_loopw [5] (λi wr=>NT W0 (ln rs) i wr) (λi _=>((ln rs:Int)-VN i).toNat)
 case atStart=>exact⟨0,V7,rfl,Ext.aC _⟩
 case round=>
  obtain⟨m,hm,rfl,hX⟩:=hrel;have HX:=Vs hX;clear hX;have a1:=HA.o _ HX.o;have b1:=HB.o _ HX.o;by_cases hlt:m<ln rs
  ·obtain⟨b,off,rfl,hB,hc⟩:=H3.o V7;obtain⟨b',off',rfl,hB',hc'⟩:=H4.o V7;obtain⟨Ai,ci,c0,hs⟩:=hc m hlt;obtain⟨Ai',ci',d0,hs'⟩:=hc' m hlt;obtain⟨ring,hring⟩:∃ring,rs.getD m []=ring:=⟨_,rfl⟩;rw[hring] at c0 d0 hs hs';have C0:=Vs (λ(W:Vt) (h:Ext W0 W)=>((E0.o.tr h).cell (p:=⟨b,off+m,Vx⟩) hB).trans c0);have D0:=Vs (λ(W:Vt) (h:Ext W0 W)=>((E0.o.tr h).cell (p:=⟨b',off'+m,Vx⟩) hB').trans d0);have c1:=C0.o _ HX.o;have d1:=D0.o _ HX.o;have g1:=hs.1;have g2:=hs.2.1;have g1':=hs'.1;have g2':=hs'.2.1;rw[VC] at g1 g1';unfold VP at g2 g2';have G3:=Vs (λ(W:Vt) (h:Ext W0 W)=>((hs.below (E0.o.tr h)).more (E0.o.tr h).size:bJ 7 W W.heap.size Ai ci (aD ring)));have G4:=Vs (λ(W:Vt) (h:Ext W0 W)=>((hs'.below (E0.o.tr h)).more (E0.o.tr h).size:bJ 7 W W.heap.size Ai' ci' (aD ring)));have tlt:decide ((m:Int)<(ln rs:Int))=VD:=decide_eq_true V7;have e3:(m:Int)<(ln rs:Int):=V7;clear hring hc hc' c0 d0 hs hs';go_wp2_with fail
   go_quiet (fail)
   go_wp2;go_loopw [6] (λi wr=>NT W0 (ln ring) i wr) (λi _=>((ln ring:Int)-VN i).toNat)
   case atStart=>exact⟨0,V7,rfl,below_drewN HX.o _⟩
   case round=>
    obtain⟨n,hn,rfl,hX2⟩:=hrel;have HX2:=Vs hX2;clear hX2;have a2:=HA.o _ HX2.o;have b2:=HB.o _ HX2.o;have c2:=C0.o _ HX2.o;have d2:=D0.o _ HX2.o;by_cases hlt2:n<ln ring
    ·obtain⟨p,o,rfl,-,hq⟩:=fe (G3.o _ HX2.o) V7;obtain⟨p',o',rfl,-,hq'⟩:=fe (G4.o _ HX2.o) V7;have h1:=hq n hlt2;have h2:=hq' n hlt2;obtain⟨s,hs⟩:∃s,aq ring n=s:=⟨_,rfl⟩;rw[hs] at h1 h2;obtain⟨s0,s1,s2,s3,s4,s5,s6⟩:=h1;obtain⟨u0,u1,u2,u3,u4,u5,u6⟩:=h2;have hself:=λV=>yl s.x s.y s.rise s.run s.gable s.plate s.over V
     have tlt2:decide ((n:Int)<(ln ring:Int))=VD:=decide_eq_true V7;have e4:(n:Int)<(ln ring:Int):=V7;clear hs hq hq';go_wp2_with fail
     go_quiet (fail)
     go_wp2;exact⟨⟨n+1,V7,Wa,below_drewN HX2.o _⟩,Wc⟩
    ·have tlt2:decide ((n:Int)<(ln ring:Int))=Vw:=decide_eq_false V7;go_wp2;exact⟨⟨m+1,V7,Wa,HX2.o⟩,Wc⟩
  ·have tlt:decide ((m:Int)<(ln rs:Int))=Vw:=decide_eq_false V7;exact a0H
end
section
open Kp
def Ij(w:Vt)(A A':Option VT)(cap cap':Nat)(l:List Br)(hr:fT w w.heap.size A cap l)(hr':fT w w.heap.size A' cap' l):
  VJ prog 81 #[VV A (ln l) cap,VV A' (ln l) cap'] w λe w'=>e=V0 (VX VD)/\Ext w w':=by
 have h1:=hr.1;have h2:=hr.2.1;have h1':=hr'.1;have h2':=hr'.2.1;unfold VP at h2 h2';have H3:=Vs (λ(W:Vt) (hx:Ext w W)=>((hr.below hx).more hx.size:fT W W.heap.size A cap l));have H4:=Vs (λ(W:Vt) (hx:Ext w W)=>((hr'.below hx).more hx.size:fT W W.heap.size A' cap' l));clear hr hr';go_enter func81,ntmps81;go_wp2;go_loopw [5] (λi wr=>NT w (ln l) i wr) (λi _=>((ln l:Int)-VN i).toNat)
 case atStart=>exact⟨0,V7,rfl,Ext.aC _⟩
 case round=>
  obtain⟨m,hm,rfl,hX⟩:=hrel;have HX:=Vs hX;clear hX;by_cases hlt:m<ln l
  ·have tlt:decide ((m:Int)<(ln l:Int))=VD:=decide_eq_true V7;have e3:(m:Int)<(ln l:Int):=V7;obtain⟨b,off,f,rfl,-,-⟩:=oI (H3.o _ HX.o) V7;obtain⟨b',off',f',rfl,-,-⟩:=oI (H4.o _ HX.o) V7;go_wp2_with fail
   simp only[List.append_eq,List.cons_append,List.nil_append];refine dx 74 V8 V8 (λW3 hW3=> ?_);have HX3:=Vs (HX.o.tr hW3);obtain⟨_,_,f,e,-,hc⟩:=oI (H3.o _ HX3.o) V7;obtain⟨_,_,f',e',-,hc'⟩:=oI (H4.o _ HX3.o) V7;cases e;cases e';obtain⟨c,hs⟩:=hc m hlt;obtain⟨c',hs'⟩:=hc' m hlt;obtain⟨x,hx⟩:∃x,l.getD m oN=x:=⟨_,rfl⟩;rw[hx] at c c' hs hs';have c0:=c 0 V9;have c1:=c 1 V9;have c2:=c 2 V9;have c3:=c 3 V9;have c4:=c 4 V9;have c5:=c 5 V9;have d0:=c' 0 V9;have d1:=c' 1 V9;have d2:=c' 2 V9;have d3:=c' 3 V9;have d4:=c' 4 V9;have d5:=c' 5 V9;rw[Nat.add_zero] at c0 d0;have K:=Cg W3 (f m).1 (f' m).1 (f m).2 (f' m).2 (di x.gaps) hs hs' (PJ _) (λr hr V=>by obtain⟨s,_,rfl⟩:=List.mem_map.1 hr;exact If _ _ V);rw[show(di x.gaps).length=ln x.gaps from VC _] at K;have KK:=Vs K;have t0:(x.width==x.width)=VD:=beq_self_eq_true _;have t1:(x.depth==x.depth)=VD:=beq_self_eq_true _;have t2:(x.length==x.length)=VD:=beq_self_eq_true _;have t3:(x.count==x.count)=VD:=beq_self_eq_true _;have t4:(x.cost==x.cost)=VD:=beq_self_eq_true _;clear hW3 hc hc' c c' hs hs' K hx;refine rX (λOPS hOPS=> ?_);have D11:(OPS[11]?).bind (·.dst)=Vz 28:=by rw[hOPS];rfl
   have D24:(OPS[24]?).bind (·.dst)=Vz 41:=by rw[hOPS];rfl
   have D37:(OPS[37]?).bind (·.dst)=Vz 54:=by rw[hOPS];rfl
   have D50:(OPS[50]?).bind (·.dst)=Vz 67:=by rw[hOPS];rfl
   have D63:(OPS[63]?).bind (·.dst)=Vz 80:=by rw[hOPS];rfl
   clear hOPS;simp only[List.take_succ_cons,List.take_zero,List.drop_succ_cons,List.drop_zero];iterate 74 first
    |(refine wpStill_step (λK hK=> ?_);(first|rw[if_pos (fL rfl D11 rfl rfl)]|rw[if_pos (fL rfl D24 rfl rfl)]|rw[if_pos (fL rfl D37 rfl rfl)]|rw[if_pos (fL rfl D50 rfl rfl)]|rw[if_pos (fL rfl D63 rfl rfl)]);go_simp;refine hK _ ?_;clear hK K)
    |still_step
   refine wpStill_nil ?_;go_wp2_with(go_at_call 148;go_must(refine KK.o.mono ?_);rintro e W4 ⟨rfl,hX4⟩)
   exact⟨⟨m+1,V7,Wa,HX3.o.tr hX4⟩,Wc⟩
  ·exact ZS
end
end Go.Proofs.YtmliacdegmklaaaGreatDoor
