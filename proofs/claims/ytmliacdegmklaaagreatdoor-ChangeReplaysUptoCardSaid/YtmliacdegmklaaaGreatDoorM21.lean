/- ChangeReplays of kingpostlaw58: part 21 of its proof (merged and shortened by program). -/
import Derived.Test.YtmliacdegmklaaaGreatDoorM20
set_option linter.unusedVariables false
set_option linter.unusedSimpArgs false
set_option linter.defProp false
set_option maxHeartbeats 8000000
set_option maxRecDepth 100000
open Go.RowKit Go.Shelf Go.Proofs.Tryz
open Array renaming getElem?_eq_some_iff→Vz
open Bool renaming false→Vp,true→Vv,and_eq_true_iff→Vw
open Go renaming World→Vl,Value→Vr,undef→Vs,wpOp_step→Vx,Calls→VC,maxLen→VJ,TypeId→VK,Addr→VM,Rows→VP
open Go.AllReady renaming cons→VH,nil→VO
open Go.Ending renaming returned→VV
open Go.IntKind renaming i64→VA
open Go.IntWalk renaming i64_in→VI
open Go.Lib renaming hid→Vk
open Go.RowKit renaming intOf→VG,Below→VL
open Go.Value renaming slice→VQ,string→VR,bool→VS,pointer→VT,int→VU,agg→VW,tuple→VX
open Go.World renaming alloc_heap_new→Vy,size_alloc→VF
open List renaming getD_eq_getElem?_getD→Vn,getElem?_eq_getElem→Vt,length_map→Vu,length_append→VD
open Nat renaming le_refl→Vm,le_trans→VB,mul_comm→VE
open Option renaming none→Vo,some→Vq
open Option.some renaming inj→VN
open Go.Proofs.YtmliacdegmklaaaGreatDoor
namespace Go.Proofs.YtmliacdegmklaaaGreatDoor
section
open Kp
def eL.fresh{S:Nat->Prop}{w w':Vl}{j:bC}{a:dq}(h:eL S w w.heap.size j a)(hx:Ext w w'):eL (λq=>S q\/w.heap.size<=q) w' w'.heap.size j a:=
 ⟨h.toeC.grow hx,λW hO=>h.av W ⟨VB hx.size hO.1,λb hb hn=>(hO.2 b (Nat.lt_of_lt_of_le hb hx.size) (λq=>q.elim hn (λ_=>VY))).trans (hx.block b hb)⟩⟩
def RV{L:Nat->Bool}{i:Nat}:fx L i i=Vv:=by unfold fx;rw[if_pos rfl]
def nd{vs:Nat->Vr}{i:Nat}{v:Vr}:aW vs i v i=v:=by unfold aW;rw[if_pos rfl]
def rT(jb:bC)(li:List Int)(a':dq)(A:Option VM)(c:Nat):Vr:= VX #[VW (bZ jb a'),VQ A li.length c,VU VA 0]
def Vh(W0:Vl)(X:Nat->Prop)(jb:bC)(li:List Int)(a':dq)(A:Option VM)(c:Nat)(al:Bool)(av:Vr)(W:Vl):Prop:=
 W.ownsRow W0.heap.size 3 1 (VQ A li.length c) li.length (aX li).flatten/\eL (λq=>(X q\/(Value.slice A li.length c).ownBlock=Vq q)\/(al=Vv/\av=VT (Vq ⟨q,0,Vo⟩))) W W.heap.size jb a'
structure wJ(nr:Nat)(rd:Nat->Vr)(W0:Vl)(X:Nat->Prop)(jb:bC)(li:List Int)(L:Nat->Bool)(vs:Nat->Vr)(W:Vl):Prop where
 ext:Ext W0 W
 rds:∀k,k<nr->L k=Vv->vs k=rd k
 al:L (nr+5)=Vv->∃b,vs (nr+5)=VT (Vq ⟨b,0,Vo⟩)/\W0.heap.size<=b/\∃j0 a0,JC W b j0 a0
 ca:∃(a':dq) (A:Option VM) (c:Nat),(L nr=Vv->vs nr=rT jb li a' A c/\Vh W0 X jb li a' A c (L (nr+5)) (vs (nr+5)) W)/\(L (nr+1)=Vv->L nr=Vv/\vs (nr+1)=rT jb li a' A c)
  /\(L (nr+2)=Vv->L nr=Vv/\vs (nr+2)=VW (bZ jb a'))/\(L (nr+3)=Vv->L nr=Vv/\vs (nr+3)=VQ A li.length c)/\(L (nr+4)=Vv->L nr=Vv/\vs (nr+4)=VU VA 0)
  /\(L (nr+6)=Vv->L nr=Vv/\L (nr+5)=Vv/\∀b,vs (nr+5)=VT (Vq ⟨b,0,Vo⟩)->JC W b jb a')/\(L (nr+7)=Vv->L nr=Vv/\vs (nr+7)=VQ A li.length c)
section
variable {nr : Nat} {rd : Nat → Vr} {W0 : Vl} {X : Nat → Prop} {jb : bC} {li : List Int} {L : Nat → Bool} {vs : Nat → Vr} {W : Vl}
def wJ.init(vs:Nat->Vr)(h:Ext W0 W):wJ nr rd W0 X jb li (λ_=>Vp) vs W:=
 ⟨h,λ_ _ h=>V6,λh=>V6,iO,Vo,0,λh=>V6,λh=>V6,λh=>V6,λh=>V6,λh=>V6,λh=>V6,λh=>V6⟩
def wJ.read(h:wJ nr rd W0 X jb li L vs W){i:Nat}{v:Vr}(hi:i<nr)(hv:v=rd i):wJ nr rd W0 X jb li (fx L i) (aW vs i v) W:=by
 obtain⟨a',A,c,c0,c1,c2,c3,c4,c6,c7⟩:=h.ca;refine⟨h.ext,λk hk hl=> ?_,?_,a',A,c,?_,?_,?_,?_,?_,?_,?_⟩
 ·by_cases e:k=i
  ·rw[e,nd];exact hv
  ·rw[aa e] at hl;rw[aC e];exact h.rds k hk hl
 all_goals
  repeat rw[aa VY]
  repeat rw[aC VY]
 ·exact h.al
 ·exact c0
 ·exact c1
 ·exact c2
 ·exact c3
 ·exact c4
 ·exact c6
 ·exact c7
def wJ.alloc(h:wJ nr rd W0 X jb li L vs W)(hL:L (nr+5)=Vp):wJ nr rd W0 X jb li (fx L (nr+5)) (aW vs (nr+5) (VT (Vq ⟨W.heap.size,0,Vo⟩))) (W.alloc (.cells (bZ iM iO) 34)):=by
 obtain⟨a',A,c,c0,c1,c2,c3,c4,c6,c7⟩:=h.ca;have hx:Ext W (W.alloc (.cells (bZ iM iO) 34)):=(Below.refl _ _).alloc (Vm _) _;refine⟨h.ext.tr hx,λk hk hl=> ?_,λ_=>⟨W.heap.size,nd,h.ext.size,_,_,Vy W _⟩,a',A,c,λhl=> ?_,?_,?_,?_,?_,λhl=> ?_,?_⟩
 ·exact a0K
 ·rw[aa VY] at hl;rw[aC (show nr≠nr+5 by omega),nd,RV];obtain⟨d1,d2,d3⟩:=c0 hl;refine⟨d1,aF d2 hx,?_⟩;rw[hL] at d3;refine(d3.fresh hx).mono (λq _ hq=> ?_);rcases hq with hq|⟨_,hq⟩
  ·exact .inl (.inl hq)
  ·injection hq with hq;injection hq with hq;injection hq with hq
   exact .inr VY
 case refine_7=>
  rw[aa VY] at hl;have:=(c6 hl).2.1;rw[hL] at this;cases this
 all_goals
  repeat rw[aa VY]
  repeat rw[aC VY]
 ·exact c1
 ·exact c2
 ·exact c3
 ·exact c4
 ·exact c7
def wJ.call(h:wJ nr rd W0 X jb li L vs W)(hL:L nr=Vp){W':Vl}{a':dq}{A:Option VM}{c:Nat}(hx:Ext W W')(ho:W'.ownsRow W.heap.size 3 1 (VQ A li.length c) li.length (aX li).flatten)
  (hb:eL (λq=>(X q\/(W0.heap.size<=q/\q<W.heap.size))\/(Value.slice A li.length c).ownBlock=Vq q) W' W'.heap.size jb a'):wJ nr rd W0 X jb li (fx L nr) (aW vs nr (rT jb li a' A c)) W':=by
 obtain⟨_,_,_,c0,c1,c2,c3,c4,c6,c7⟩:=h.ca;have no:∀{P:Prop},L nr=Vv->P:=λq=>by rw[hL] at q;cases q
 refine⟨h.ext.tr hx,λk hk hl=> ?_,λhl=> ?_,a',A,c,λ_=>⟨nd,dz ho h.ext.size,?_⟩,λhl=> ?_,λhl=> ?_,λhl=> ?_,λhl=> ?_,λhl=> ?_,λhl=> ?_⟩
 ·exact a0K
 ·rw[aa VY] at hl;rw[aC VY];obtain⟨b,e1,e2,j0,a0,e3⟩:=h.al hl;exact⟨b,e1,e2,j0,a0,JC.ext e3 hx⟩
 ·rw[aa VY,aC VY];refine hb.mono (λq _ hq=> ?_);rcases hq with(hq|hq)|⟨hl,hq⟩
  ·exact .inl (.inl hq)
  ·exact .inr hq
  ·obtain⟨b,e1,e2,_,_,e3⟩:=h.al hl;rw[e1] at hq;injection hq with hq;injection hq with hq;injection hq with hq
   subst hq;exact .inl (.inr ⟨e2,e3.lt⟩)
 ·rw[aa VY] at hl;exact no (c1 hl).1
 ·rw[aa VY] at hl;exact no (c2 hl).1
 ·rw[aa VY] at hl;exact no (c3 hl).1
 ·rw[aa VY] at hl;exact no (c4 hl).1
 ·rw[aa VY] at hl;exact no (c6 hl).1
 ·rw[aa VY] at hl;exact no (c7 hl).1
def wJ.tie(h:wJ nr rd W0 X jb li L vs W){i:Nat}{v:Vr}(hi:i=1\/i=2\/i=3\/i=4\/i=7)(hn:L nr=Vv)
  (hv:∀a' A c,vs nr=rT jb li a' A c->(L (nr+1)=Vv->vs (nr+1)=rT jb li a' A c)->(L (nr+3)=Vv->vs (nr+3)=VQ A li.length c)->v=if i=1 then rT jb li a' A c else if i=2 then VW (bZ jb a') else if i=3\/i=7 then VQ A li.length c else VU VA 0):
  wJ nr rd W0 X jb li (fx L (nr+i)) (aW vs (nr+i) v) W:=by
 obtain⟨a',A,c,c0,c1,c2,c3,c4,c6,c7⟩:=h.ca;have hv':=hv a' A c (c0 hn).1 (λh=>(c1 h).2) (λh=>(c3 h).2);refine⟨h.ext,λk hk hl=> ?_,?_,a',A,c,?_,λhl=> ?_,λhl=> ?_,λhl=> ?_,λhl=> ?_,?_,λhl=> ?_⟩
 ·exact a0K
 ·rw[aa VY,aC VY];exact h.al
 ·rw[aa VY,aC VY,aa VY,aC VY];exact c0
 case refine_8=>rw[aa VY,aa VY,aa VY,aC VY];exact c6
 all_goals
  rw[aa (show nr≠nr+i by omega)];refine⟨hn,?_⟩
 ·by_cases e:i=1
  ·subst e;rw[nd,hv'];rfl
  ·rw[aa VY] at hl;rw[aC VY];exact(c1 hl).2
 ·by_cases e:i=2
  ·subst e;rw[nd,hv'];rfl
  ·rw[aa VY] at hl;rw[aC VY];exact(c2 hl).2
 ·by_cases e:i=3
  ·subst e;rw[nd,hv'];rfl
  ·rw[aa VY] at hl;rw[aC VY];exact(c3 hl).2
 ·by_cases e:i=4
  ·subst e;rw[nd,hv'];rfl
  ·rw[aa VY] at hl;rw[aC VY];exact(c4 hl).2
 ·by_cases e:i=7
  ·subst e;rw[nd,hv'];rfl
  ·rw[aa VY] at hl;rw[aC VY];exact(c7 hl).2
def wJ.store(h:wJ nr rd W0 X jb li L vs W)(hn:L nr=Vv)(h5:L (nr+5)=Vv){b:Nat}{a2:dq}(hb:vs (nr+5)=VT (Vq ⟨b,0,Vo⟩))(h2:L (nr+2)=Vv)(hv:vs (nr+2)=VW (bZ jb a2))(v:Vr):
  wJ nr rd W0 X jb li (fx L (nr+6)) (aW vs (nr+6) v) (W.setRow b (bZ jb a2)):=by
 obtain⟨a',A,c,c0,c1,c2,c3,c4,c6,c7⟩:=h.ca;obtain⟨b',e1,e2,j0,a0,e3⟩:=h.al h5;obtain rfl:b=b':=by rw[hb] at e1;injection e1 with e1;injection e1 with e1;injection e1 with e1
 have hq:bZ jb a2=bZ jb a':=by have:=hv.symm.trans (c2 h2).2;injection this
 rw[hq];refine⟨af h.ext e2 _,λk hk hl=> ?_,?_,a',A,c,λhl=> ?_,?_,?_,?_,?_,λ_=> ?_,?_⟩
 ·exact a0K
 ·intro _;rw[aC VY];exact⟨b,hb,e2,jb,a',setRow_heap e3 _⟩
 ·rw[aC VY,aa VY,aC VY];obtain⟨d1,d2,d3⟩:=c0 hn;exact⟨d1,uy d2 e3 V0 _,d3.row (.inr ⟨h5,hb⟩) _⟩
 case refine_8=>
  rw[aa VY,aa VY,aC VY];refine⟨hn,h5,λq hq=> ?_⟩;rw[hb] at hq;injection hq with hq;injection hq with hq;injection hq with hq
  subst hq;exact setRow_heap e3 _
 all_goals
  repeat rw[aa VY]
  repeat rw[aC VY]
 ·exact c1
 ·exact c2
 ·exact c3
 ·exact c4
 ·exact c7
end
def TE{jb:bC}{li:List Int}{a a':dq}{A A':Option VM}{c c':Nat}(h:rT jb li a A c=rT jb li a' A' c'):(Value.agg (bZ jb a):Vr)=VW (bZ jb a'):=by
 injection h with h
 exact congrArg (λx:Array Vr=>x.getD 0 Vs) h
def TR{jb:bC}{li:List Int}{a a':dq}{A A':Option VM}{c c':Nat}(h:rT jb li a A c=rT jb li a' A' c'):(Value.slice A li.length c:Vr)=VQ A' li.length c':=by
 injection h with h
 exact congrArg (λx:Array Vr=>x.getD 1 Vs) h
def Hf(b:Nat)(jv ea eb ua ub:Vr)(k:Nat):Nat->Vr
 |0=> VT (Vq ⟨b,0,Vo⟩)
 |1=>jv
 |2=> VT (Vq ⟨b,15,Vo⟩)
 |3=>ea
 |4=> VU VA (k:Int)
 |5=>eb
 |6=> VT (Vq ⟨b,16,Vo⟩)
 |7=>ua
 |8=> VU VA (k:Int)
 |_=>ub
def IY(b:Nat)(jv ea eb ua ub:Vr)(k:Nat):Nat->Vr
 |0=>jv
 |1=> VT (Vq ⟨b,15,Vo⟩)
 |2=>ea
 |3=> VU VA (k:Int)
 |4=>eb
 |5=> VT (Vq ⟨b,16,Vo⟩)
 |6=>ua
 |7=> VU VA (k:Int)
 |_=>ub
def eL.rg{S:Nat->Prop}{W0 W:Vl}{j:bC}{a:dq}(h:eL S W0 W0.heap.size j a)(hx:Ext W0 W):eL (λq=>S q\/(W0.heap.size<=q/\q<W.heap.size)) W W.heap.size j a:=
 (h.fresh hx).mono (λq _ hq=>hq.imp id (λh=>h.1))
end
section
open Kp
def RE(es:List Ed)(us:List Bool)(j:bC):∀n,∀x∈eG es us j n,0<=x/\x<(n:Int):=by
 intro n
 induction n with
 |zero=>intro x hx;cases hx
 |succ n ih=>
  intro x hx;rw[qi] at hx;split at hx
  ·rcases List.mem_append.1 hx with hx|hx
   ·have:=ih x hx;omega
   ·rw[List.mem_singleton.1 hx];omega
  ·have:=ih x hx;omega
def Qi(es:List Ed)(us:List Bool)(j:bC){k:Nat}(hk:k<=es.length):eG es us j es.length=eG (es.take k) (us.take k) j (es.take k).length++(eG (es.drop k) (us.drop k) (bT es us j k) (es.drop k).length).map (λx=>x+(k:Int)):=by
 have h1:(es.take k).length=k:=WK;have h2:(es.drop k).length=es.length-k:=List.length_drop;unfold eG;rw[h1,h2,(xu k (Vm _)).2];have h3:=LI es us j k (es.length-k);rw[show k+(es.length-k)=es.length by omega] at h3;rw[h3,List.map_append,List.map_map,List.map_map]
 rfl
def Pd(es:List Ed)(us:List Bool)(j:bC){k:Nat}(hk:k<=es.length):bT (es.drop k) (us.drop k) (bT es us j k) (es.drop k).length=bT es us j es.length:=by
 rw[show(es.drop k).length=es.length-k from List.length_drop,<-Cr,show k+(es.length-k)=es.length by omega]
structure Ty(W3:Vl)(k:Nat)(lf ls:List Int)(mo:Vr)(b7 b9:Nat)(js ja:bC)(a6 a8:dq)(m:Nat)(sm:Vr)(wr:Vl):Prop where
 ext:Ext W3 wr
 own:wr.ownsRow W3.heap.size 3 1 sm (lf++(ls.take m).map (λx=>x+(k:Int))).length (aX (lf++(ls.take m).map (λx=>x+(k:Int)))).flatten
 more:wr.ownsRow W3.heap.size 3 1 mo ls.length (aX ls).flatten
 ne:∀b,sm.ownBlock=Vq b->mo.ownBlock≠Vq b
 jc:JC wr b7 js a6
 jv:eL (λb=>sm.ownBlock=Vq b) wr wr.heap.size js a6
 sc:JC wr b9 ja a8
 sv:eL (λb=>sm.ownBlock=Vq b) wr wr.heap.size ja a8
def eL.UO{w w':Vl}{v v':Vr}{j:bC}{a:dq}(h:eL (λb=>v.ownBlock=Vq b) w w.heap.size j a)(hg:w.grownBy w' v.ownBlock)(hv:∀k,v'.ownBlock=Vq k->v.ownBlock=Vq k\/w.heap.size<=k):
  eL (λb=>v'.ownBlock=Vq b) w' w'.heap.size j a:=
 (eL.grown (S:=λ_=>False) (h.mono (λ_ _ hb=>hb.elim False.elim id)) hg hv).mono (λ_ _ hb=> .inr hb)
def Ty.next{W3:Vl}{k:Nat}{lf ls:List Int}{mo:Vr}{b7 b9:Nat}{js ja:bC}{a6 a8:dq}{m:Nat}{sm sm':Vr}{wr W W':Vl}(h:Ty W3 k lf ls mo b7 b9 js ja a6 a8 m sm wr)(hx:Ext wr W)(hm:m<ls.length){x:Int}(hxm:ls.getD m 0=x)
  (ho:W'.ownsRow W3.heap.size 3 1 sm' ((lf++(ls.take m).map (λx=>x+(k:Int))).length+1) ((aX (lf++(ls.take m).map (λx=>x+(k:Int)))).flatten++[VU VA (x+(k:Int))]))(hg:W.grownBy W' sm.ownBlock)(hf:∀b,sm'.ownBlock=Vq b->sm.ownBlock=Vq b\/W.heap.size<=b):
  Ty W3 k lf ls mo b7 b9 js ja a6 a8 (m+1) sm' W':=by
 have hl:lf++(ls.take (m+1)).map (λx=>x+(k:Int))=(lf++(ls.take m).map (λx=>x+(k:Int)))++[x+(k:Int)]:=by
  rw[Vn,Vt hm] at hxm;rw[List.take_add_one,Vt hm,List.map_append,<-List.append_assoc,show ls[m]=x from hxm]
  rfl
 have ho1:=aF h.own hx;have hm1:=aF h.more hx;refine⟨eE (h.ext.tr hx) hg (λq hq=>(ak ho1 q hq).1),?_,hm1.kept hg ?_,λb hb=> ?_,(JC.ext h.jc hx).grown ho1 hg V0,(h.jv.grow hx).UO hg hf,(JC.ext h.sc hx).grown ho1 hg V0,(h.sv.grow hx).UO hg hf⟩
 ·rw[hl,VD];rw[show aX ((lf++(ls.take m).map (λx=>x+(k:Int)))++[x+(k:Int)])=aX (lf++(ls.take m).map (λx=>x+(k:Int)))++aX [x+(k:Int)] from List.map_append,List.flatten_append];exact ho
 ·by_cases e:mo.ownBlock=Vo
  ·exact .inl e
  ·right
   intro q;obtain⟨b,hb⟩:=Option.ne_none_iff_exists'.1 e;exact h.ne b (q.symm.trans hb) hb
 ·rcases hf b hb with e|e
  ·exact h.ne b e
  ·intro q;have:=(ak hm1 b q).2;omega
end
section
open Kp
attribute [local go_sem] bF fT iP iw Hf IY
set_option maxHeartbeats 40000000 in
def uR (w : Vl) (l : Log) (a : kT) (n : Nat) (hn : n <= 255) (hb : gT w w.heap.size l a) (hbig : l.start.rings.flatten.length <= 4000000000) (hix : ∀ e ∈ l.edits, bj e.index) (hg : Gl w) (hB : 9 <= w.heap.size) :
    VC prog 3 #[VW (cW l a), VU .u8 (n : Int)] w λr w' => r =VV (VS Vv) /\ Ext w w' := by
  have E0 : Ext w (w.alloc (.cells (cW l a) 38)) := (Below.refl _ _).alloc (Vm _) _;have L0 : LC (w.alloc (.cells (cW l a) 38)) w.heap.size l a := Vy w _;obtain ⟨w0, hw0⟩ : ∃ w0, w.alloc (.cells (cW l a) 38) = w0 := ⟨_, rfl⟩;rw [hw0] at E0 L0;have HW0 := Vk hw0;have E0 := Vk E0;have HL0 := Vk L0;have HL := Vk (λW (h : Ext w0 W) => LC.ext L0 h);have HB := Vk (λW (h : Ext w0 W) => hb.grow (E0.o.tr h));have HG := Vk (λW (h : Ext w0 W) => hg.keep (E0.o.tr h) hB);have KR := Vk (qt w0 l a (HB.o _ (Ext.aB _)) hbig (HG.o _ (Ext.aB _)).pow);have KA := Vk (λW (h : Ext w0 W) => xe W (HG.o W h) (VB hB (E0.o.tr h).size));have HIX := Vk hix;clear hb hg hw0 hbig hix L0;go_enter func3, ntmps3;go_wp2_with (first
    | (go_at_call 6; fail)
    | (rw [HW0.o]; refine wpList_load_row rfl 38 _ rfl _ rfl 38 _ (0, 0) _ HL0.o underlying38 rfl VZ ?_))
  try rw [HW0.o]
  refine KR.o.mono ?_;rintro r1 W1 ⟨⟨b1, rfl, h1⟩, hX1⟩;have X1 := Vk hX1;have H1 := Vk h1;clear hX1 h1;cases b1
  case false =>
    go_wp2_with (go_at_call 7; go_must (refine (KA.o _ X1.o).mono ?_); rintro r2 W2 ⟨rfl, hX2⟩)
    go_ret;exact ⟨rfl, E0.o.tr (X1.o.tr hX2)⟩
  have HOK := Vk (H1.o (by first | rfl | trivial));have hsix := HOK.o.gr.n;have heq := HOK.o.eq;have HRP := Vk (HOK.o.rp HIX.o);obtain ⟨k, hk⟩ : ∃ k, n % (l.edits.length + 1) = k := ⟨_, rfl⟩;have hkl : k <= l.edits.length := by rw [<- hk]; exact Nat.le_of_lt_succ (Nat.mod_lt _ (Nat.succ_pos _))
  have c15 := (HL.o _ X1.o).cell 15;have c16 := (HL.o _ X1.o).cell 16;have hkI : (n : Int) % ((l.edits.length : Int) + 1) = (k : Int) := by rw [<- hk]; simp
  have HK := Vk hk;clear hk;go_wp2_with (first
    | (go_at_call 8; fail)
    | (refine cz Wn _ rfl _ _ rfl _ _ (HL.o _ X1.o).start ?_))
  have KP1 := Vk (mU W1 l.start a.ja l.edits l.undone a.ea a.ec a.ua a.uc 4100 W1.heap.size (X := λ_ => False) ((HB.o _ X1.o).j.v (Vm _) (λ_ _ h => h)) (λ_ h => h.elim) (HB.o _ X1.o).e (HB.o _ X1.o).u (Vm _) (λ_ _ h => h) HRP.o (HG.o _ X1.o).maxl (HG.o _ X1.o).pow);unfold tP at KP1;rw [HOK.o.eq] at KP1;obtain ⟨ja, hja⟩ : ∃ x, bT l.edits l.undone l.start l.edits.length = x := ⟨_, rfl⟩;obtain ⟨la, hla⟩ : ∃ x, eG l.edits l.undone l.start l.edits.length = x := ⟨_, rfl⟩;have HJA := Vk hja;have HLA := Vk hla;rw [hja, hla] at KP1;clear hja hla;refine KP1.o.mono ?_;rintro x2 W2 ⟨a2, L2, c2, rfl, hX2, hb2, hl2⟩;have X2 := Vk (X1.o.tr hX2);have Y2 := Vk hX2;have B2 := Vk hb2.toeC;have S2 := Vk hl2;clear hX2 hb2 hl2;go_wp2_with (first
    | (go_at_call 8; fail)
    | (refine wpList_store_row rfl 34 _ _ rfl _ _ rfl rfl 34 _ (Vy W2 _) VZ VZ VZ ?_
       generalize hW3 : World.setRow _ W2.heap.size (bZ ja a2) = W3;have Y23 := Vk (show Ext W2 W3 by rw [<- hW3]; exact af ((Below.refl _ _).alloc (Vm _) _) (Vm _) _);have N3 := Vk (show JC W3 W2.heap.size ja a2 by unfold JC; rw [<- hW3]; exact setRow_heap (Vy W2 _) _);have X3 := Vk (X2.o.tr Y23.o);have d15 := (HL.o _ X3.o).cell 15;have d16 := (HL.o _ X3.o).cell 16;clear hW3)
    | (refine cz Wn _ rfl _ _ rfl _ _ (HL.o _ X3.o).start ?_))
  obtain ⟨A1, c1, e1, he1⟩ := Mg (HB.o _ X3.o).e hkl;obtain ⟨B1, m1c, f1, hu1⟩ := Lb (HB.o _ X3.o).u (show k <= l.undone.length by rw [HOK.o.eq]; exact hkl);have hrp1 := HRP.o.take hkl;have ZE := Vk (show (k : Int) <= (a.ec : Int) by have := (HB.o _ X3.o).e.1; omega);have ZU := Vk (show (k : Int) <= (a.uc : Int) by have := (HB.o _ X3.o).u.1; rw [Vu, HOK.o.eq] at this; omega);obtain ⟨es1, hes1⟩ : ∃ x, l.edits.take k = x := ⟨_, rfl⟩;obtain ⟨us1, hus1⟩ : ∃ x, l.undone.take k = x := ⟨_, rfl⟩;rw [hes1] at e1 he1;rw [hus1] at f1 hu1;rw [hes1, hus1] at hrp1;have HES1 := Vk hes1;have HUS1 := Vk hus1;have E1 := Vk (show Value.slice a.ea k a.ec =VQ A1 es1.length c1 by rw [<- e1]; simp [sliced, qq]);have F1 := Vk (show Value.slice a.ua k a.uc =VQ B1 us1.length m1c by rw [<- f1]; simp [sliced, qq]);obtain ⟨jf, hjf⟩ : ∃ x, bT es1 us1 l.start es1.length = x := ⟨_, rfl⟩;obtain ⟨lf, hlf⟩ : ∃ x, eG es1 us1 l.start es1.length = x := ⟨_, rfl⟩;have KP2 := Vk (λ(W : Vl) (h : Ext W3 W) => mU W l.start a.ja es1 us1 A1 c1 B1 m1c 4100 W3.heap.size (X := λq => False \/ (W3.heap.size <= q /\ q < W.heap.size)) (((HB.o _ X3.o).j.v (Vm _) (X := λ_ => False) (λ_ _ h => h)).rg h)
    (λq hq => hq.elim False.elim (λh => h.2)) (he1.below h) (hu1.below h) h.size (λq h1 h2 => h2.elim id (λh => VY)) hrp1 (HG.o _ (X3.o.tr h)).maxl (HG.o _ (X3.o.tr h)).pow)
  unfold tP at KP2;simp only [hjf, hlf] at KP2;have HJF := Vk hjf;have HLF := Vk hlf;clear e1 he1 f1 hu1 hjf hlf d15 d16 hes1 hus1 hrp1;refine wp_region_any VZ (bW 18 (λvs => ⟨#[VW (cW l a), VU .u8 (n : Int), VT (Vq ⟨w.heap.size, 0, Vo⟩), Vs, VS Vp, VU VA (k : Int), VT (Vq ⟨W2.heap.size, 0, Vo⟩), VQ L2 la.length c2, VU VA 0, vs 15, vs 17, Vs, Vs, Vs, Vs, Vs, Vs, Vs, Vs, VW (cW l a), VS Vv, VS Vp, Vs, VU .u8 (n : Int), VU VA (n : Int), VT (Vq ⟨w.heap.size, 15, Vo⟩), VQ a.ea l.edits.length a.ec, VU VA (l.edits.length : Int), VU VA ((l.edits.length : Int) + 1), VU VA (k : Int), VX #[VW (bZ ja a2), VQ L2 la.length c2, VU VA 0], VT (Vq ⟨w.heap.size, 0, Vo⟩), VW (bZ l.start a.ja), VT (Vq ⟨w.heap.size, 15, Vo⟩), VQ a.ea l.edits.length a.ec, VT (Vq ⟨w.heap.size, 16, Vo⟩), VQ a.ua l.edits.length a.uc, VX #[VW (bZ ja a2), VQ L2 la.length c2, VU VA 0], VW (bZ ja a2), VQ L2 la.length c2, VU VA 0, vs 11, vs 0, vs 1, vs 2, vs 3, vs 4, vs 5, vs 6, vs 7, vs 8, vs 9, vs 10, vs 12, vs 13, vs 14, Vs, Vs, Vs, Vs, Vs, Vs, Vs, Vs, Vs, Vs, Vs, Vs, Vs, Vs, Vs, Vs, Vs, Vs, Vs, Vs, Vs, Vs, Vs, Vs, Vs, Vs, Vs, Vs, Vs, Vs, Vs, Vs, Vs, Vs, Vs, Vs, Vs, Vs, Vs, Vs, Vs, Vs, Vs, Vs, Vs, Vs, Vs, Vs, Vs, Vs, Vs, Vs, Vs, Vs, Vs, Vs, Vs, Vs, Vs, Vs, Vs, Vs], []⟩) (wJ 10 (Hf w.heap.size (VW (bZ l.start a.ja)) (VQ a.ea l.edits.length a.ec) (VQ A1 es1.length c1) (VQ a.ua l.edits.length a.uc) (VQ B1 us1.length m1c) k) W3 (λ_ => False) jf lf) VZ ?step5 ?tail5 (λ_ => Vs) _ (wJ.init _ (Ext.dr _)))
  case step5 =>
    intro i L vs W hi hL hI hd;have D := λj h1 h2 => hI.rds j h1 (hd j h2)
    rcases (show i = 0 \/ i = 1 \/ i = 2 \/ i = 3 \/ i = 4 \/ i = 5 \/ i = 6 \/ i = 7 \/ i = 8 \/ i = 9 \/ i = 10 \/ i = 11 \/ i = 12 \/ i = 13 \/ i = 14 \/ i = 15 \/ i = 16 \/ i = 17 by omega) with rfl | rfl | rfl | rfl | rfl | rfl | rfl | rfl | rfl | rfl | rfl | rfl | rfl | rfl | rfl | rfl | rfl | rfl <;> clear hi <;> refine Vx rfl (λK hK => ?_)
    ·exact a04
    · have d0 := D 0 V0 VZ
      exact wp_load_mid 34 _ rfl _ _ d0 (bZ l.start a.ja).toList _ (HL.o _ (X3.o.tr hI.ext)).start underlying34 rfl VZ (hK _ _ ⟨_, by simp [Hf, Act.put, aW], hI.read V0 rfl⟩)
    ·exact a04
    · have d2 := D 2 V0 VZ
      have m := (HL.o _ (X3.o.tr hI.ext)).cell 15;go_simp;exact hK _ _ ⟨_, by simp [aW, Hf, d2], hI.read V0 rfl⟩
    ·exact a04
    · have d3 := D 3 V0 VZ
      have d4 := D 4 V0 VZ;have m := E1.o;have z := ZE.o;go_simp;exact hK _ _ ⟨_, by simp [aW, Hf, d3, d4, m], hI.read V0 rfl⟩
    ·exact a04
    · have d6 := D 6 V0 VZ
      have m := (HL.o _ (X3.o.tr hI.ext)).cell 16;go_simp;exact hK _ _ ⟨_, by simp [aW, Hf, d6], hI.read V0 rfl⟩
    ·exact a04
    · have d7 := D 7 V0 VZ
      have d8 := D 8 V0 VZ;have m := F1.o;have z := ZU.o;go_simp;exact hK _ _ ⟨_, by simp [aW, Hf, d7, d8, m], hI.read V0 rfl⟩
    · have d1 := D 1 V0 VZ
      have d5 := D 5 V0 VZ;have d9 := D 9 V0 VZ;go_simp;refine (KP2.o W hI.ext).mono ?_;rintro y V ⟨a', A, c, rfl, hX, hb, ho⟩;exact hK _ _ ⟨rT _ _ a' A c, by simp [aW, Hf, d1, d5, d9, rT], hI.call hL hX ho hb⟩
    · go_simp
      exact hK _ _ ⟨vs 10, by simp [aW], hI.tie (i := 1) (.inl rfl) (hd 10 VZ) (λ_ _ _ h _ _ => h)⟩
    · have hm := hd 11 VZ
      obtain ⟨_, _, _, q0, q1, _⟩ := hI.ca;obtain ⟨hn, d⟩ := q1 hm;have d0 := (q0 hn).1;have d2 := d;unfold rT at d2;go_simp;exact hK _ _ ⟨_, Xc, hI.tie (i := 2) (.inr (.inl rfl)) hn (λ_ _ _ _ h1 _ => TE (d.symm.trans (h1 hm)))⟩
    · have hm := hd 11 VZ
      obtain ⟨_, _, _, q0, q1, _⟩ := hI.ca;obtain ⟨hn, d⟩ := q1 hm;have d0 := (q0 hn).1;have d2 := d;unfold rT at d2;go_simp;exact hK _ _ ⟨_, Xc, hI.tie (i := 3) (.inr (.inr (.inl rfl))) hn (λ_ _ _ _ h1 _ => TR (d.symm.trans (h1 hm)))⟩
    · have hm := hd 11 VZ
      obtain ⟨_, _, _, q0, q1, _⟩ := hI.ca;obtain ⟨hn, d⟩ := q1 hm;have d0 := (q0 hn).1;have d2 := d;unfold rT at d2;go_simp;exact hK _ _ ⟨_, Xc, hI.tie (i := 4) (.inr (.inr (.inr (.inl rfl)))) hn (λ_ _ _ _ h1 _ => rfl)⟩
    · go_simp
      exact hK _ _ ⟨_, by simp [aW], hI.alloc hL⟩
    · have h2 := hd 12 VZ
      have h5 := hd 15 VZ;obtain ⟨_, hb1, _, _, _, hb3⟩ := hI.al h5;obtain ⟨_, _, _, _, _, q2, _⟩ := hI.ca;have e2 := q2 h2;exact wp_store_row 34 _ _ rfl _ _ hb1 e2.2 34 _ hb3 VZ VZ VZ (hK _ _ ⟨Vs, by simp [Act.put, aW], hI.store e2.1 h5 hb1 h2 e2.2 _⟩)
    · have h3 := hd 13 VZ
      go_simp;obtain ⟨_, _, _, _, _, _, q3, _⟩ := hI.ca;exact hK _ _ ⟨vs 13, by simp [aW], hI.tie (i := 7) (.inr (.inr (.inr (.inr rfl)))) (q3 h3).1 (λ_ _ _ _ _ h => h h3)⟩
  case tail5 =>
    intro L vs W5 hL hI;obtain ⟨b5, hb1, hb2, _, _, _⟩ := hI.al (hL 15 V0);obtain ⟨a4, L4, c4, q0, q1, q2, q3, q4, q6, q7⟩ := hI.ca;have v0 := hI.rds 0 V0 (hL 0 V0);have v1 := hI.rds 1 V0 (hL 1 V0);have v2 := hI.rds 2 V0 (hL 2 V0);have v3 := hI.rds 3 V0 (hL 3 V0);have v4 := hI.rds 4 V0 (hL 4 V0);have v5 := hI.rds 5 V0 (hL 5 V0);have v6 := hI.rds 6 V0 (hL 6 V0);have v7 := hI.rds 7 V0 (hL 7 V0);have v8 := hI.rds 8 V0 (hL 8 V0);have v9 := hI.rds 9 V0 (hL 9 V0);have v10 := (q0 (hL 10 V0)).1;have CW5 := Vk (q0 (hL 10 V0)).2;have v11 := (q1 (hL 11 V0)).2;have v12 := (q2 (hL 12 V0)).2;have v13 := (q3 (hL 13 V0)).2;have v14 := (q4 (hL 14 V0)).2;have v17 := (q7 (hL 17 V0)).2;have JW5 := Vk ((q6 (hL 16 V0)).2.2 b5 hb1);have XW5 := Vk hI.ext;have HBW5 := Vk hb2;simp only [v0, v1, v2, v3, v4, v5, v6, v7, v8, v9, v10, v11, v12, v13, v14, v17, Hf, hb1, List.drop_succ_cons, List.drop_zero];clear hI hL q0 q1 q2 q3 q4 q6 q7 hb1 hb2 v0 v1 v2 v3 v4 v5 v6 v7 v8 v9 v10 v11 v12 v13 v14 v17;go_wp2_with fail
    have X35 := Vk (X3.o.tr XW5.o);have O4 := Vk CW5.o.1;have V4 := Vk (show eL (λq => (Value.slice L4 lf.length c4).ownBlock = Vq q) W5 W5.heap.size jf a4 from CW5.o.2.mono (λ_ _ hq => .inl (.inr hq)));clear CW5;have hl1 : es1.length = k := by rw [<- HES1.o, List.length_take]; omega
    have ejf : jf = bT l.edits l.undone l.start k := by rw [<- HJF.o, hl1, <- HES1.o, <- HUS1.o]; exact (xu k (Vm _)).1
    clear hl1;obtain ⟨A2, c5, e2, he2⟩ := Kj (HB.o _ X3.o).e hkl;obtain ⟨B2, m5c, f2, hu2⟩ := Oa (HB.o _ X3.o).u (show k <= l.undone.length by rw [HOK.o.eq]; exact hkl);have hrp2 := HRP.o.drop hkl;have ZK := Vk (show (k : Int) <= (l.edits.length : Int) by omega);rw [HOK.o.eq] at f2;obtain ⟨es2, hes2⟩ : ∃ x, l.edits.drop k = x := ⟨_, rfl⟩;obtain ⟨us2, hus2⟩ : ∃ x, l.undone.drop k = x := ⟨_, rfl⟩;rw [hes2] at e2 he2;rw [hus2] at f2 hu2;rw [hes2, hus2, <- ejf] at hrp2;have HES2 := Vk hes2;have HUS2 := Vk hus2;have EJF := Vk ejf;have E2 := Vk (show Value.slice (if a.ec = k then a.ea else a.ea.map (λx => x.add (k * 37))) (l.edits.length - k) (a.ec - k) =VQ A2 es2.length c5 from e2);have F2 := Vk (show Value.slice (if a.uc = k then a.ua else a.ua.map (λx => x.add k)) (l.edits.length - k) (a.uc - k) =VQ B2 us2.length m5c by have q := f2; simp only [sliced, Nat.mul_one] at q; exact q);obtain ⟨js, hjs⟩ : ∃ x, bT es2 us2 jf es2.length = x := ⟨_, rfl⟩;obtain ⟨ls, hls⟩ : ∃ x, eG es2 us2 jf es2.length = x := ⟨_, rfl⟩;have KP3 := Vk (λ(W : Vl) (h : Ext W5 W) => mU W jf a4 es2 us2 A2 c5 B2 m5c (4100 + k) W3.heap.size (X := λq => (Value.slice L4 lf.length c4).ownBlock = Vq q \/ (W5.heap.size <= q /\ q < W.heap.size)) (V4.o.rg h)
      (λq hq => hq.elim (λh1 => Nat.lt_of_lt_of_le (ak O4.o q h1).2 h.size) (λh => h.2)) (he2.below (XW5.o.tr h)) (hu2.below (XW5.o.tr h)) (XW5.o.tr h).size (λq h1 h2 => h2.elim (λh3 => by have := (ak O4.o q h3).1; omega) (λh => by have := XW5.o.size; omega)) hrp2 (HG.o _ (X35.o.tr h)).maxl (HG.o _ (X35.o.tr h)).pow)
    unfold tP at KP3;simp only [hjs, hls] at KP3;have HJS := Vk hjs;have HLS := Vk hls;clear e2 he2 f2 hu2 hjs hls hes2 hus2 hrp2 ejf;refine wp_region_any VZ (bW 17 (λvs => ⟨#[VW (cW l a), VU .u8 (n : Int), VT (Vq ⟨w.heap.size, 0, Vo⟩), Vs, VS Vp, VU VA (k : Int), VT (Vq ⟨W2.heap.size, 0, Vo⟩), VQ L2 la.length c2, VU VA 0, VT (Vq ⟨b5, 0, Vo⟩), VQ L4 lf.length c4, VU VA 0, vs 14, vs 16, Vs, Vs, Vs, Vs, Vs, VW (cW l a), VS Vv, VS Vp, Vs, VU .u8 (n : Int), VU VA (n : Int), VT (Vq ⟨w.heap.size, 15, Vo⟩), VQ a.ea l.edits.length a.ec, VU VA (l.edits.length : Int), VU VA ((l.edits.length : Int) + 1), VU VA (k : Int), VX #[VW (bZ ja a2), VQ L2 la.length c2, VU VA 0], VT (Vq ⟨w.heap.size, 0, Vo⟩), VW (bZ l.start a.ja), VT (Vq ⟨w.heap.size, 15, Vo⟩), VQ a.ea l.edits.length a.ec, VT (Vq ⟨w.heap.size, 16, Vo⟩), VQ a.ua l.edits.length a.uc, VX #[VW (bZ ja a2), VQ L2 la.length c2, VU VA 0], VW (bZ ja a2), VQ L2 la.length c2, VU VA 0, rT jf lf a4 L4 c4, VT (Vq ⟨w.heap.size, 0, Vo⟩), VW (bZ l.start a.ja), VT (Vq ⟨w.heap.size, 15, Vo⟩), VQ a.ea l.edits.length a.ec, VU VA (k : Int), VQ A1 es1.length c1, VT (Vq ⟨w.heap.size, 16, Vo⟩), VQ a.ua l.edits.length a.uc, VU VA (k : Int), VQ B1 us1.length m1c, rT jf lf a4 L4 c4, VW (bZ jf a4), VQ L4 lf.length c4, VU VA 0, vs 10, vs 0, vs 1, vs 2, vs 3, vs 4, vs 5, vs 6, vs 7, vs 8, vs 9, vs 11, vs 12, vs 13, Vs, Vs, Vs, Vs, Vs, Vs, Vs, Vs, Vs, Vs, Vs, Vs, Vs, Vs, Vs, Vs, Vs, Vs, Vs, Vs, Vs, Vs, Vs, Vs, Vs, Vs, Vs, Vs, Vs, Vs, Vs, Vs, Vs, Vs, Vs, Vs, Vs, Vs, Vs, Vs, Vs, Vs, Vs, Vs, Vs, Vs, Vs, Vs], []⟩) (wJ 9 (IY w.heap.size (VW (bZ jf a4)) (VQ a.ea l.edits.length a.ec) (VQ A2 es2.length c5) (VQ a.ua l.edits.length a.uc) (VQ B2 us2.length m5c) k) W5 (λq => (Value.slice L4 lf.length c4).ownBlock = Vq q) js ls) VZ ?step6 ?tail6 (λ_ => Vs) _ (wJ.init _ (Ext.dr _)))
    case step6 =>
      intro i L vs W hi hL hI hd;have D := λj h1 h2 => hI.rds j h1 (hd j h2)
      rcases (show i = 0 \/ i = 1 \/ i = 2 \/ i = 3 \/ i = 4 \/ i = 5 \/ i = 6 \/ i = 7 \/ i = 8 \/ i = 9 \/ i = 10 \/ i = 11 \/ i = 12 \/ i = 13 \/ i = 14 \/ i = 15 \/ i = 16 by omega) with rfl | rfl | rfl | rfl | rfl | rfl | rfl | rfl | rfl | rfl | rfl | rfl | rfl | rfl | rfl | rfl | rfl <;> clear hi <;> refine Vx rfl (λK hK => ?_)
      · exact wp_load_row 34 _ rfl _ rfl 34 _ (0, 0) _ (JC.ext JW5.o hI.ext) underlying34 rfl VZ (hK _ _ ⟨_, by simp [IY, Act.put, aW], hI.read V0 rfl⟩)
      ·exact a03
      · have d1 := D 1 V0 VZ
        have m := (HL.o _ (X35.o.tr hI.ext)).cell 15;go_simp;exact hK _ _ ⟨_, by simp [aW, IY, d1], hI.read V0 rfl⟩
      ·exact a03
      · have d2 := D 2 V0 VZ
        have d3 := D 3 V0 VZ;have m := E2.o;have z := ZK.o;go_simp;exact hK _ _ ⟨_, by simp [aW, IY, d2, d3, m], hI.read V0 rfl⟩
      ·exact a03
      · have d5 := D 5 V0 VZ
        have m := (HL.o _ (X35.o.tr hI.ext)).cell 16;go_simp;exact hK _ _ ⟨_, by simp [aW, IY, d5], hI.read V0 rfl⟩
      ·exact a03
      · have d6 := D 6 V0 VZ
        have d7 := D 7 V0 VZ;have m := F2.o;have z := ZK.o;go_simp;exact hK _ _ ⟨_, by simp [aW, IY, d6, d7, m], hI.read V0 rfl⟩
      · have d0 := D 0 V0 VZ
        have d4 := D 4 V0 VZ;have d8 := D 8 V0 VZ;go_simp;refine (KP3.o W hI.ext).mono ?_;rintro y V ⟨a', A, c, rfl, hX, hb, ho⟩;exact hK _ _ ⟨rT _ _ a' A c, by simp [aW, IY, d0, d4, d8, rT], hI.call hL hX ho hb⟩
      · go_simp
        exact hK _ _ ⟨vs 9, by simp [aW], hI.tie (i := 1) (.inl rfl) (hd 9 VZ) (λ_ _ _ h _ _ => h)⟩
      · have hm := hd 10 VZ
        obtain ⟨_, _, _, q0, q1, _⟩ := hI.ca;obtain ⟨hn, d⟩ := q1 hm;have d0 := (q0 hn).1;have d2 := d;unfold rT at d2;go_simp;exact hK _ _ ⟨_, Xc, hI.tie (i := 2) (.inr (.inl rfl)) hn (λ_ _ _ _ h1 _ => TE (d.symm.trans (h1 hm)))⟩
      · have hm := hd 10 VZ
        obtain ⟨_, _, _, q0, q1, _⟩ := hI.ca;obtain ⟨hn, d⟩ := q1 hm;have d0 := (q0 hn).1;have d2 := d;unfold rT at d2;go_simp;exact hK _ _ ⟨_, Xc, hI.tie (i := 3) (.inr (.inr (.inl rfl))) hn (λ_ _ _ _ h1 _ => TR (d.symm.trans (h1 hm)))⟩
      · have hm := hd 10 VZ
        obtain ⟨_, _, _, q0, q1, _⟩ := hI.ca;obtain ⟨hn, d⟩ := q1 hm;have d0 := (q0 hn).1;have d2 := d;unfold rT at d2;go_simp;exact hK _ _ ⟨_, Xc, hI.tie (i := 4) (.inr (.inr (.inr (.inl rfl)))) hn (λ_ _ _ _ h1 _ => rfl)⟩
      · go_simp
        exact hK _ _ ⟨_, by simp [aW], hI.alloc hL⟩
      · have h2 := hd 11 VZ
        have h5 := hd 14 VZ;obtain ⟨_, hb1, _, _, _, hb3⟩ := hI.al h5;obtain ⟨_, _, _, _, _, q2, _⟩ := hI.ca;have e2 := q2 h2;exact wp_store_row 34 _ _ rfl _ _ hb1 e2.2 34 _ hb3 VZ VZ VZ (hK _ _ ⟨Vs, by simp [Act.put, aW], hI.store e2.1 h5 hb1 h2 e2.2 _⟩)
      · have h3 := hd 12 VZ
        go_simp;obtain ⟨_, _, _, _, _, _, q3, _⟩ := hI.ca;exact hK _ _ ⟨vs 12, by simp [aW], hI.tie (i := 7) (.inr (.inr (.inr (.inr rfl)))) (q3 h3).1 (λ_ _ _ _ _ h => h h3)⟩
    case tail6 =>
      intro L vs W7 hL hI;obtain ⟨b7, hb1, hb2, _, _, _⟩ := hI.al (hL 14 V0);obtain ⟨a6, L6, c6, q0, q1, q2, q3, q4, q6, q7⟩ := hI.ca;have v0 := hI.rds 0 V0 (hL 0 V0);have v1 := hI.rds 1 V0 (hL 1 V0);have v2 := hI.rds 2 V0 (hL 2 V0);have v3 := hI.rds 3 V0 (hL 3 V0);have v4 := hI.rds 4 V0 (hL 4 V0);have v5 := hI.rds 5 V0 (hL 5 V0);have v6 := hI.rds 6 V0 (hL 6 V0);have v7 := hI.rds 7 V0 (hL 7 V0);have v8 := hI.rds 8 V0 (hL 8 V0);have v9 := (q0 (hL 9 V0)).1;have CW7 := Vk (q0 (hL 9 V0)).2;have v10 := (q1 (hL 10 V0)).2;have v11 := (q2 (hL 11 V0)).2;have v12 := (q3 (hL 12 V0)).2;have v13 := (q4 (hL 13 V0)).2;have v16 := (q7 (hL 16 V0)).2;have JW7 := Vk ((q6 (hL 15 V0)).2.2 b7 hb1);have XW7 := Vk hI.ext;have HBW7 := Vk hb2;simp only [v0, v1, v2, v3, v4, v5, v6, v7, v8, v9, v10, v11, v12, v13, v16, IY, hb1, List.drop_succ_cons, List.drop_zero];clear hI hL q0 q1 q2 q3 q4 q6 q7 hb1 hb2 v0 v1 v2 v3 v4 v5 v6 v7 v8 v9 v10 v11 v12 v13 v16;have X37 := Vk (X35.o.tr XW7.o);have XQ7 := Vk (XW5.o.tr XW7.o);have KS := Vk (yC W7 l a 4100 W3.heap.size (X := λq => (Value.slice L4 lf.length c4).ownBlock = Vq q) ((HB.o _ X3.o).below XQ7.o) XQ7.o.size (λq hq => ⟨Nat.lt_of_lt_of_le (ak O4.o q hq).2 XW7.o.size, (ak O4.o q hq).1⟩) HRP.o (HG.o _ X37.o).maxl (HG.o _ X37.o).pow);rw [HJA.o] at KS;go_wp2_with (first
        | (go_at_call 9; fail)
        | (refine wpList_load_row rfl 38 _ rfl _ rfl 38 _ (0, 0) _ (HL.o _ X37.o) underlying38 rfl VZ ?_))
      refine KS.o.mono ?_;rintro x8 W8 ⟨a8, rfl, hX8, hb8⟩;have Y8 := Vk hX8;have B8 := Vk hb8;clear hX8 hb8;go_wp2_with (first
        | (refine wpList_store_row rfl 34 _ _ rfl _ _ rfl rfl 34 _ (Vy W8 _) VZ VZ VZ ?_
           generalize hW9 : World.setRow _ W8.heap.size (bZ ja a8) = W9;have Y89 := Vk (show Ext W8 W9 by rw [<- hW9]; exact af ((Below.refl _ _).alloc (Vm _) _) (Vm _) _);have N9 := Vk (show JC W9 W8.heap.size ja a8 by unfold JC; rw [<- hW9]; exact setRow_heap (Vy W8 _) _);clear hW9))
      have XA9 := Vk (XQ7.o.tr (Y8.o.tr Y89.o));have Y79 := Vk (Y8.o.tr Y89.o);have H9 := Vk (show Ty W3 k lf ls (VQ L6 ls.length c6) b7 W8.heap.size js ja a6 a8 0 (VQ L4 lf.length c4) W9 from
        ⟨XA9.o, by rw [List.take_zero, List.map_nil, List.append_nil]; exact aF O4.o (XW7.o.tr Y79.o), dz (aF CW7.o.1 Y79.o) XW5.o.size, λb hb q => by
          have h1 := (ak O4.o b hb).2;have h2 := (ak CW7.o.1 b q).1;omega, JC.ext JW7.o Y79.o, (CW7.o.2.mono (λ_ _ hq => .inl (.inl hq))).grow Y79.o, N9.o, B8.o.grow Y89.o⟩)
      have hs2 : es2.length <= 6 := by rw [<- HES2.o, List.length_drop]; omega
      have hs1 : es1.length <= 6 := by rw [<- HES1.o, List.length_take]; omega
      have hlf : lf.length <= 6 := by rw [<- HLF.o]; unfold eG; rw [Vu]; exact VB (vm _ _ _ _) hs1
      have hls : ls.length <= 6 := by rw [<- HLS.o]; unfold eG; rw [Vu]; exact VB (vm _ _ _ _) hs2
      have HXB := Vk (show ∀ m, m < ls.length -> 0 <= ls.getD m 0 /\ ls.getD m 0 < 6 fromλm hm => by
        have q := RE es2 us2 jf es2.length (ls.getD m 0) (by rw [HLS.o, Vn, Vt hm]; exact List.getElem_mem hm);omega)
      have hk6 : k <= 6 := VY;obtain ⟨i0, hi0, hz0, hz1, hz2⟩ := info_parts dS;have I0 := Vk hi0;have I1 := Vk hz0;have I2 := Vk hz1;have I3 := Vk hz2;clear hi0 hz0 hz1 hz2 CW7;go_loopw [10, 91] (λsm i wr => ∃ m : Nat, i =VU VA (m : Int) /\ m <= ls.length /\ Ty W3 k lf ls (VQ L6 ls.length c6) b7 W8.heap.size js ja a6 a8 m sm wr) (λ_ i _ => ((ls.length : Int) - VG i).toNat)
      case atStart => exact ⟨0, rfl, VY, H9.o⟩
      case round =>
        obtain ⟨m, rfl, hm, hI⟩ := hrel;obtain ⟨Ls, lsn, lsc, hsm⟩ := nk.of hI.own;subst hsm;have HI := Vk hI;clear hI;by_cases hlt : m < ls.length
        · obtain ⟨A', c', e, hs⟩ := aG HI.o.more (Vu _) (bw (f := λn => [VU VA n]) (λ_ => rfl) _)
          injection e with e1 e2 e3
          subst e1 e3;obtain ⟨bm, om, eA, _, hc⟩ := hs.2.2 (by rw [Vu]; omega);subst eA;have hcm := hc m (by rw [Vu]; exact hlt) 0 V0;rw [eX hlt, Nat.one_mul, Nat.add_zero] at hcm;obtain ⟨x, hx⟩ : ∃ x, ls.getD m 0 = x := ⟨_, rfl⟩;have hxb := HXB.o m hlt;rw [hx] at hcm hxb;have HXM := Vk hx;have w1 : VA.wrap (x + (k : Int)) = x + (k : Int) := VI _ VY;have hll : (lf ++ (ls.take m).map (λx => x + (k : Int))).length <= 12 := by rw [VD, Vu, List.length_take]; omega
          have HO4 := Vk (aF HI.o.own ((Below.refl _ _).alloc (Vm _) (.cells #[VU VA (x + (k : Int))] 3)));have hsz := HI.o.ext.size;clear hs hc hx;go_wp2_with (at_builtin; (refine jJ rfl _ _ _ rfl W3.heap.size 3 i0 _ 1 8 underlying25 I0.o I1.o I2.o I3.o rfl VY _ _ _ rfl HO4.o ⟨wr.heap.size, 0, Vo⟩ 1 1 [VU VA (x + (k : Int))] rfl Wn (λq u hq => by rw [Addr.add_lit, Nat.zero_add, (ah.new wr 3 [VU VA (x + (k : Int))]).cell]; exact hq) (by simp [Value.oneCell']) (by unfold VJ; omega) VY Wj ?_); intro v' w' hown' hgr' hfr; have HOW := Vk hown'; have HGR := Vk hgr'; have HFR := Vk hfr; obtain ⟨A4, n4, c4', e4⟩ := nk.of hown'; subst e4; clear hown' hgr' hfr)
          exact ⟨⟨m + 1, by go_num, VY, HI.o.next ((Below.refl _ _).alloc (Vm _) _) hlt HXM.o HOW.o HGR.o HFR.o⟩, WC⟩
        · obtain rfl : m = ls.length := by omega
          have hla : lf ++ (ls.take ls.length).map (λx => x + (k : Int)) = la := by
            rw [List.take_length, <- HLA.o, Qi l.edits l.undone l.start hkl, HES1.o, HUS1.o, HES2.o, HUS2.o, HLF.o, <- EJF.o, HLS.o]
          have hjj : js = ja := by
            rw [<- HJS.o, <- HES2.o, <- HUS2.o, EJF.o, Pd l.edits l.undone l.start hkl]; exact HJA.o
          subst hjj;have hown := HI.o.own;rw [hla] at hown;obtain ⟨A', c', e, hs⟩ := aG hown (Vu _) (bw (f := λn => [VU VA n]) (λ_ => rfl) _);injection e with e1 e2 e3
          subst e1 e3;subst e2;have XW2 := Vk (Y23.o.tr HI.o.ext);have BA := Vk (B2.o.grow XW2.o);have SA := Vk (kn (aF S2.o XW2.o) (Vu _) (bw (f := λn => [VU VA n]) (λ_ => rfl) _));have SB := Vk hs;have JA := Vk (JC.ext N3.o HI.o.ext);have X0r := Vk (X3.o.tr HI.o.ext);clear hown hs hla hls hlf hlt hs1 hs2;go_wp2_with (first
            | (go_at_call 7; go_must (refine (KA.o _ (X0r.o.tr Z3.o)).mono ?_); rintro r4 V4 ⟨rfl, hX4⟩; have Z4 := Vk (Z3.o.tr hX4); clear hX4)
            | (go_at_call 11; go_must (refine (Ba V2 L2 _ c2 _ la (SA.o.below Z2.o |>.more Z2.o.size) (SB.o.below Z2.o |>.more Z2.o.size)).mono ?_); rintro r3 V3 ⟨rfl, hX3⟩; have Z3 := Vk (Z2.o.tr hX3); clear hX3)
            | (go_at_call 10; have hz1 := Z1; clear Z1; go_must (refine (xY V1 js a2 a8 (BA.o.grow hz1.o) (HI.o.sv.toeC.grow hz1.o)).mono ?_); rintro r2 V2 ⟨rfl, hX2⟩; have Z2 := Vk (hz1.o.tr hX2); clear hX2)
            | (go_at_call 10; go_must (refine (xY wr js a2 a6 BA.o HI.o.jv.toeC).mono ?_); rintro r1 V1 ⟨rfl, hX1⟩; have Z1 := Vk hX1; clear hX1)
            | (refine ff Wn _ rfl W2.heap.size rfl _ (JC.ext JA.o Z1.o) VZ ?_)
            | (refine ff Wn _ rfl W8.heap.size rfl _ (JC.ext HI.o.sc Z1.o) VZ ?_)
            | (refine ff Wn _ rfl W2.heap.size rfl _ JA.o VZ ?_)
            | (refine ff Wn _ rfl b7 rfl _ HI.o.jc VZ ?_))
          go_ret;exact ⟨rfl, E0.o.tr (X0r.o.tr Z4.o)⟩
end
end Go.Proofs.YtmliacdegmklaaaGreatDoor
