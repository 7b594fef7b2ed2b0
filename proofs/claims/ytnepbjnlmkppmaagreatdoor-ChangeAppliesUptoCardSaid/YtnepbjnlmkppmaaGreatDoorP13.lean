/- ChangeApplies of kingpostlaw58: part 13 of its proof (merged and shortened by program). -/
import Derived.Test.YtnepbjnlmkppmaaGreatDoorP11
import Derived.Test.YtnepbjnlmkppmaaGreatDoorP12
import Derived.Test.YtnepbjnlmkppmaaGreatDoorP22
set_option linter.unusedVariables false
set_option linter.unusedSimpArgs false
set_option linter.defProp false
set_option maxHeartbeats 8000000
set_option maxRecDepth 100000
open Go.RowKit Go.Shelf Go.Proofs.Tryz
open Bool renaming false→O,true→Y
open Decidable renaming decide→YG
open Go renaming World→U,undef→M,Value→Z,wpOp_step→XR,Calls→XY,maxLen→Yk,Addr→Ym
open Go.Ending renaming returned→YC
open Go.IntKind renaming i64→F
open Go.IntWalk renaming i64_in→Yh
open Go.Lib renaming hid→A
open Go.Proofs.Tryz renaming prog→Xz,underlying34→XA,underlying50→XB
open Go.RowKit renaming intOf→Yf,Below→Yl
open Go.Value renaming slice→V,string→Yy,bool→Yz,pointer→YA,int→G,agg→YE,tuple→YF
open Go.World renaming alloc_heap_new→XZ,size_alloc→Ya
open List renaming getD_eq_getElem?_getD→XJ,getElem?_eq_getElem→XO,length_map→XP,length_append→Yc,length→ln
open Nat renaming le_refl→XE,le_trans→Ye
open Option renaming none→I,some→L
open Go.Proofs.YtnepbjnlmkppmaaGreatDoor
variable{args:Array Z}{E i:Int}{q c:Nat}{p:Prop}{g:Type}{N W w W1:U}{j J k:bO}{a a':cO}
namespace Go.Proofs.YtnepbjnlmkppmaaGreatDoor
section
open Kp
attribute [local go_sem] bJ gE fX gA gC fN fG fU fI gD gy dQ dO dR dn dq
attribute [local go_sem] aF eV dd
theorem sJ(h:p:=by
  have HB:=A (ag.o y);obtain⟨p,t1⟩:=aa (YG (e.index<0));have t2:p=O->YG (e.index>=(n:Int))=Y:=λh=>Yb (by rw[h] at t1;have:=Yp t1;omega)
  have qe:=(s.o _ (Ext.ah N)).2;clear y;cases p
  case' false=>have t3:=t2 H
  all_goals
   clear t2;go_wp2_with(first
    |(go_at_call 34;refine(Q.o _).mono ?_;rintro C Wg ⟨rfl,rfl⟩)
    |(go_at_call 166;refine(S.o _).mono ?_;rintro C T ⟨rfl,d⟩;have ab:=A d;obtain⟨ql,ai⟩:=s.o _ d;clear d)
    |(refine wpList_load_row rfl 34 _ rfl _ rfl 34 _ (0,0) _ t.o XA rfl R ?_)
    |(refine cW Zb _ rfl _ rfl _ t.o R ?_)
    |(refine wpList_build rfl 34 _ rfl R ?_;rw[show Value.agg (Option.getD (Xz.built 34 _) #[])=YE (aM cn cT) from R])
    |(refine wpList_store_row rfl 34 _ _ rfl _ _ rfl rfl 34 _ HR.o R R R ?_)
    |(refine wpList_store_row rfl 34 _ _ rfl _ _ rfl rfl 34 _ (HR.o.ext ab.o) R R R ?_))
   first
    |refine bodyPost_ret (aX rfl _ _ _ _ rfl (setRow_heap HR.o _) R) rfl ?_
     exact HB.o _ (Ext.ah _)
    |refine bodyPost_ret (aX rfl _ _ _ _ rfl (setRow_heap (HR.o.ext ab.o) _) R) rfl ?_
     exact HB.o _ ab.o):p:=h
theorem mN(h:p:=by
  intro q c w' hq hD hd;have hX:=ab.o.tr hD;rcases(show q=0\/q=1\/q=2\/q=3\/q=4\/q=5\/q=6\/q=7\/q=8\/q=9\/q=10 by omega) with rfl|rfl|rfl|rfl|rfl|rfl|rfl|rfl|rfl|rfl|rfl<;>clear hq<;>refine XR rfl (λK hK=> ?_)
  ·go_simp;exact hK _ _ ⟨V (L ⟨w'.heap.size,0,I⟩) 0 0,H,(XI _ _).alloc (XE _) _,⟨_,H,hX.size,XZ w' _⟩,λh=>YM⟩
  ·exact a1k
  ·have d1:=hd 1 YK R;simp only[IP,Mz] at d1;have m:=(s.o _ hX).1;go_simp;exact hK _ _ ⟨_,by simp[d1,bN,Mz],Ext.ah _,rfl,λh=>YM⟩
  ·exact a1k
  ·have d2:=hd 2 YK R;have d3:=hd 3 YK R;simp only[IP,Mz] at d2 d3;obtain⟨A',u,o⟩:=Pw TY.o w' (ae.o _ hX) ac.o (i:=i) D;go_simp;exact hK _ _ ⟨_,by simp[d2,d3,bN,Mz],Ext.ah _,⟨A',rfl,o⟩,λh=>YM⟩
  ·obtain⟨g0,d0,hg0,hh0⟩:=hd 0 YK R;obtain⟨A',d4,o⟩:=hd 4 YK R;exact KH TY.o _ _ H (base:=N.heap.size) d0 hh0 hg0 d4 o (by rw[List.length_take,ac.o];omega) (λr u=>ad.o r (List.mem_of_mem_take u)) (λr u=>af.o r (List.mem_of_mem_take u)) D (λv' w2 E hx=>hK _ _ ⟨v',rfl,hx,E,λh=>YM⟩)
  ·exact a1k
  ·have d6:=hd 6 YK R;simp only[IP,Mz] at d6;have m:=(s.o _ hX).1;go_simp;exact hK _ _ ⟨_,by simp[d6,bN,Mz],Ext.ah _,rfl,λh=>YM⟩
  ·exact a1k
  ·have d8:=hd 8 YK R;simp only[IP,Mz] at d8;have w1:F.wrap ((i:Int)+1)=(i:Int)+1:=Yh _ D;go_simp;exact hK _ _ ⟨_,by simp[d8,bN,Mz],Ext.ah _,rfl,λh=>YM⟩
  ·have d7:=hd 7 YK R;have d9:=hd 9 YK R;simp only[IP,Mz] at d7 d9;obtain⟨A',u,o⟩:=Ps TY.o w' (ae.o _ hX) ac.o (i:=i+1) D;rw[show((i+1:Nat):Int)=(i:Int)+1 by omega] at u;go_simp;exact hK _ _ ⟨_,by simp[d7,d9,bN,Mz],Ext.ah _,⟨A',rfl,o⟩,λh=>YM⟩):p:=h
theorem pr(h:p:=by
  intro c w' hD hV _;have h5:=hV 5 YK;obtain⟨A',e10,s10⟩:=hV 10 YK;have HX:=A (ab.o.tr hD);have H5:=A (show w'.ownsRow N.heap.size _ _ (c 5) i _ from h5);have S10:=A s10;have HRL:=A (show i+(n-(i+1))<=4000000 by omega);clear hV hD h5 s10;simp only[e10,List.drop_succ_cons,List.drop_zero];go_wp2_with(first
   |(refine wpList_load_row rfl 34 _ rfl _ rfl 34 _ (0,0) _ HJC.o XA rfl R ?_)
   |(refine wpList_store_row rfl 34 _ _ rfl _ _ rfl rfl 34 _ (BV (B:=B) HX2.o HR.o D) R R R ?_)
   |(at_builtin;refine uD TY.o H _ _ H N.heap.size H H5.o H S10.o (by rw[List.length_drop,ac.o]) (λr u=>ad.o r (List.mem_of_mem_drop u)) (λr u=>af.o r (List.mem_of_mem_drop u)) HRL.o HX.o.size ?_;intro v2 W2 ho2 hg2;obtain⟨A2,n2,c2,rfl⟩:=eF ho2;have HX2:=A (fQ HX.o hg2 (λq hq=>(aH H5.o q hq).1));have q2:=(s.o _ HX2.o).1;have fz2:=ah.o _ HX2.o;obtain⟨a',hjc,hpo⟩:=z.o _ _ HX2.o (by rw[List.eraseIdx_eq_take_drop_succ,Yc,List.length_take,List.length_drop,ac.o,List.flatten_append,Nat.min_eq_left D];exact ho2);have HJC:=A hjc;have HPO:=A hpo;clear ho2 hg2 hjc hpo))
  refine bodyPost_ret (aX H _ _ _ _ H (setRow_heap (BV (B:=B) HX2.o HR.o D) _) R) H ?_;exact HPO.o):p:=h
def Nl(w:U)(j:bO)(a:cO)(e:Ed)(g:Z){X:Nat->Prop}(am:∀b,X b->b<w.heap.size)(hb:fP X w w.heap.size j a)(hk:e.number=4)(an:ln j.purlins<=1000000):
  XY Xz 93 #[YE (aM j a),YE (P e g)] w (oB X w (cj (ln j.purlins) e.index) {j with purlins:=j.purlins.eraseIdx e.index.toNat}):=by
 obtain⟨B,hB⟩:=gz w.heap.size;obtain⟨N,hW,o,e0,hJ,hZ,hR,hv⟩:=iA w j a (P e g) hb hB;obtain⟨J,al⟩:=aa ({j with purlins:=j.purlins.eraseIdx e.index.toNat});rw[al];obtain⟨n,hn⟩:=aa (ln j.purlins);have ac:=A (show(aU j.purlins).length=n by first|(rw[XP];exact hn)|exact hrr.1.trans hn);have S:=A (λW=>(by rw[<-hn];exact fy W j a 4:XY Xz 166 #[YE (aM j a),G F 4] W λx w'=>x=YC (G F (n:Nat))/\Ext W w'));have Q:=A (λW=>((gh 4 W).mono λx w' h=>⟨h.1,h.2.symm⟩:XY Xz 34 #[G F 4] W λx w'=>x=YC (Yz Y)/\W=w'));have s:=A (λW (h:Ext N W)=>(⟨((hJ.ext h).cell 4).trans (by rw[fN,hn]),λi=>(hZ.ext h).cell i⟩:W.cell? ⟨B,4,I⟩=L (V a.ua n a.uc)/\∀i,W.cell? ⟨B+1,i,I⟩=(P e g)[i]?));obtain⟨post,aj⟩:=aa (oB X w (cj (ln j.purlins) e.index) J);rw[aj];rw[hn] at an aj;have z:=A (λ(u:¬(e.index<0\/(n:Int)<=e.index)) W1 v (h:Ext N W1) (E:W1.ownsRow N.heap.size 3 1 v ((aU j.purlins).eraseIdx e.index.toNat).length ((aU j.purlins).eraseIdx e.index.toNat).flatten)=>(by
  obtain⟨a',ak⟩:=I7 (l:=j.purlins.eraseIdx e.index.toNat) hJ hv h (by rw[aU,<-gG (λn:Int=>([G F n]:List Z))];exact E);rw[al] at ak;exact⟨a',ak.2.1,aj▸fL am hB o e0 ZM ak⟩:∃a',JC (W1.setCell ⟨B,4,I⟩ v) B J a'/\post (YC (YF #[YE (aM J a'),G F 0])) ((W1.setCell ⟨B,4,I⟩ v).setRow (B+1+1) (aM J a'))))
 have ae:=A (λW (h:Ext N W)=>(((hb.u).below (e0.tr h)).more (e0.tr h).size:bR 1 W W.heap.size a.ua a.uc (aU j.purlins)));have ah:=A (λW (h:Ext N W)=>(hJ.ext h).frozen 4);have ag:=A (λ(hh:e.index<0\/(n:Int)<=e.index) W1 (h:Ext N W1)=>(by
  have h6:cj n e.index=6:=ZN;rw[<-aj,h6];exact jO YK hB (e0.tr h) _:post (YC (YF #[YE (aM cn cT),G F 6])) (W1.setRow (B+1+1) (aM cn cT))))
 have TY:=A sX;have ad:=A (bQ (f:=λn:Int=>([G F n]:List Z)) (λ_=>rfl) j.purlins);have af:=A (wG j.purlins);have HW:=A hW;have HR:=A hR;have t:=A hJ;clear aj hn al hW o e0 hJ hZ hR hv hb;go_enter func93,ntmps93;go_upto_region 1 with(fail)
 rw[<-hB];rw[gV HW];clear hB;by_cases y:e.index<0\/(n:Int)<=e.index
 ·exact sJ
 obtain⟨i,hm⟩:∃i:Nat,e.index=i:=⟨e.index.toNat,D⟩;have ao:i<n:=D;have z:=A Y9;have qe:=(s.o _ (Ext.ah N)).2;have t5:YG (n<=i)=O:=XU D;have t6:YG ((i:Int)<0)=O:=XU D;have t7:YG ((i:Int)>=(n:Int))=O:=XU D;clear y;go_wp2_with(first
    |(go_at_call 34;refine(Q.o _).mono ?_;rintro C Wg ⟨rfl,rfl⟩)
    |(go_at_call 166;refine(S.o _).mono ?_;rintro C T ⟨rfl,d⟩;have ab:=A d;obtain⟨ql,ai⟩:=s.o _ d;clear d)
    |(refine wpList_load_row rfl 34 _ rfl _ rfl 34 _ (0,0) _ t.o XA rfl R ?_)
    |(refine cW Zb _ rfl _ rfl _ t.o R ?_))
 refine wp_region_any R (fC 11 (λc=>⟨#[YE (aM j a),YE (P e g),YA (L ⟨B,0,I⟩),YA (L ⟨B+1,0,I⟩),YA (L ⟨B+1+1,0,I⟩),G F 0,G F (i:Int),YA (L ⟨B+1,35,I⟩),G F 4,Yz Y,Yz O,M,YA (L ⟨B+1,1,I⟩),G F (i:Int),G F (i:Int),Yz O,Yz O,G F (i:Int),YE (aM j a),YA (L ⟨B+1,35,I⟩),G F 4,G F (n:Int),Yz O,Yz O,M,YA (L ⟨B+1,35,I⟩),G F 4,M,M,M,M,M,M,M,M,M,M,M,M,M,Yz Y,Yz Y,c 0,c 1,c 2,c 3,c 4,c 5,c 6,c 7,c 8,c 9,c 10,M,M,M,M,M,M,M,M,M,M,M,M,M,M,M,M,M,M,M,M,M,M,M,M,M,M,M,M,M,M,M,M,M,M,M,M,M,M,M,M,M,M,M,M,M,M,M,M,M,M,M,M,M,M,M,M,M,M,M,M,M,M,M],[]⟩)
  (λw'=>Ext T w') (λq v w=>IP N 3 1 B 4 a.ua n a.uc i (aU j.purlins) q v w) (λ_=>O) R (λ_ _ h k=>h.tr k) (λ_ _ _ _ h k=>pH h k) (λ_ _ _ _ h=>YM) ?step ?tail (λ_=>M) _ (Ext.dr _))
 case step=>exact mN
 case tail=>exact pr
def NK(w:U)(j:bO)(a:cO)(e:Ed)(g:Z){X:Nat->Prop}(am:∀b,X b->b<w.heap.size)(hb:fP X w w.heap.size j a)(hk:e.number=5)(an:ln j.openings<=1000000):
  XY Xz 93 #[YE (aM j a),YE (P e g)] w (oB X w (cj (ln j.openings) e.index) {j with openings:=j.openings.eraseIdx e.index.toNat}):=by
 obtain⟨B,hB⟩:=gz w.heap.size;obtain⟨N,hW,o,e0,hJ,hZ,hR,hv⟩:=iA w j a (P e g) hb hB;obtain⟨J,al⟩:=aa ({j with openings:=j.openings.eraseIdx e.index.toNat});rw[al];obtain⟨n,f⟩:=aa (ln j.openings);have ac:=A (show(aV j.openings).length=n by first|(rw[XP];exact f)|exact hrr.1.trans f);have S:=A (λW=>(by rw[<-f];exact fy W j a 5:XY Xz 166 #[YE (aM j a),G F 5] W λx w'=>x=YC (G F (n:Nat))/\Ext W w'));have Q:=A (λW=>((gh 5 W).mono λx w' h=>⟨h.1,h.2.symm⟩:XY Xz 34 #[G F 5] W λx w'=>x=YC (Yz Y)/\W=w'));have s:=A (λW (h:Ext N W)=>(⟨((hJ.ext h).cell 5).trans (by rw[fG,f]),λi=>(hZ.ext h).cell i⟩:W.cell? ⟨B,5,I⟩=L (V a.oa n a.oc)/\∀i,W.cell? ⟨B+1,i,I⟩=(P e g)[i]?));obtain⟨post,aj⟩:=aa (oB X w (cj (ln j.openings) e.index) J);rw[aj];rw[f] at an aj;have z:=A (λ(u:¬(e.index<0\/(n:Int)<=e.index)) W1 v (h:Ext N W1) (E:W1.ownsRow N.heap.size 39 5 v ((aV j.openings).eraseIdx e.index.toNat).length ((aV j.openings).eraseIdx e.index.toNat).flatten)=>(by
  obtain⟨a',ak⟩:=IK (l:=j.openings.eraseIdx e.index.toNat) hJ hv h (by rw[aV,<-gG uk];exact E);rw[al] at ak;exact⟨a',ak.2.1,aj▸fL am hB o e0 ZM ak⟩:∃a',JC (W1.setCell ⟨B,5,I⟩ v) B J a'/\post (YC (YF #[YE (aM J a'),G F 0])) ((W1.setCell ⟨B,5,I⟩ v).setRow (B+1+1) (aM J a'))))
 have ae:=A (λW (h:Ext N W)=>(((hb.o).below (e0.tr h)).more (e0.tr h).size:bR 5 W W.heap.size a.oa a.oc (aV j.openings)));have ah:=A (λW (h:Ext N W)=>(hJ.ext h).frozen 5);have ag:=A (λ(hh:e.index<0\/(n:Int)<=e.index) W1 (h:Ext N W1)=>(by
  have h6:cj n e.index=6:=ZN;rw[<-aj,h6];exact jO YK hB (e0.tr h) _:post (YC (YF #[YE (aM cn cT),G F 6])) (W1.setRow (B+1+1) (aM cn cT))))
 have TY:=A Sy;have ad:=A (lU j.openings);have af:=A (Bl j.openings);have HW:=A hW;have HR:=A hR;have t:=A hJ;clear aj f al hW o e0 hJ hZ hR hv hb;go_enter func93,ntmps93;go_upto_region 1 with(fail)
 rw[<-hB];rw[gV HW];clear hB;by_cases y:e.index<0\/(n:Int)<=e.index
 ·exact sJ
 obtain⟨i,hm⟩:∃i:Nat,e.index=i:=⟨e.index.toNat,D⟩;have ao:i<n:=D;have z:=A Y9;have qe:=(s.o _ (Ext.ah N)).2;have t5:YG (n<=i)=O:=XU D;have t6:YG ((i:Int)<0)=O:=XU D;have t7:YG ((i:Int)>=(n:Int))=O:=XU D;clear y;go_wp2_with(first
    |(go_at_call 34;refine(Q.o _).mono ?_;rintro C Wg ⟨rfl,rfl⟩)
    |(go_at_call 166;refine(S.o _).mono ?_;rintro C T ⟨rfl,d⟩;have ab:=A d;obtain⟨ql,ai⟩:=s.o _ d;clear d)
    |(refine wpList_load_row rfl 34 _ rfl _ rfl 34 _ (0,0) _ t.o XA rfl R ?_)
    |(refine cW Zb _ rfl _ rfl _ t.o R ?_))
 refine wp_region_any R (fC 11 (λc=>⟨#[YE (aM j a),YE (P e g),YA (L ⟨B,0,I⟩),YA (L ⟨B+1,0,I⟩),YA (L ⟨B+1+1,0,I⟩),G F 0,G F (i:Int),YA (L ⟨B+1,35,I⟩),G F 5,Yz Y,Yz O,M,YA (L ⟨B+1,1,I⟩),G F (i:Int),G F (i:Int),Yz O,Yz O,G F (i:Int),YE (aM j a),YA (L ⟨B+1,35,I⟩),G F 5,G F (n:Int),Yz O,Yz O,M,YA (L ⟨B+1,35,I⟩),G F 5,M,M,M,M,M,M,M,M,M,M,M,M,M,Yz O,Yz O,M,M,M,M,M,M,M,M,M,M,M,M,M,Yz Y,Yz Y,c 0,c 1,c 2,c 3,c 4,c 5,c 6,c 7,c 8,c 9,c 10,M,M,M,M,M,M,M,M,M,M,M,M,M,M,M,M,M,M,M,M,M,M,M,M,M,M,M,M,M,M,M,M,M,M,M,M,M,M,M,M,M,M,M,M,M,M,M,M],[]⟩)
  (λw'=>Ext T w') (λq v w=>IP N 39 5 B 5 a.oa n a.oc i (aV j.openings) q v w) (λ_=>O) R (λ_ _ h k=>h.tr k) (λ_ _ _ _ h k=>pH h k) (λ_ _ _ _ h=>YM) ?step ?tail (λ_=>M) _ (Ext.dr _))
 case step=>exact mN
 case tail=>exact pr
def NJ(w:U)(j:bO)(a:cO)(e:Ed)(g:Z){X:Nat->Prop}(am:∀b,X b->b<w.heap.size)(hb:fP X w w.heap.size j a)(hk:e.number=6)(an:ln j.sizes<=1000000):
  XY Xz 93 #[YE (aM j a),YE (P e g)] w (oB X w (cj (ln j.sizes) e.index) {j with sizes:=j.sizes.eraseIdx e.index.toNat}):=by
 obtain⟨B,hB⟩:=gz w.heap.size;obtain⟨N,hW,o,e0,hJ,hZ,hR,hv⟩:=iA w j a (P e g) hb hB;obtain⟨J,al⟩:=aa ({j with sizes:=j.sizes.eraseIdx e.index.toNat});rw[al];obtain⟨n,f⟩:=aa (ln j.sizes);have ac:=A (show(bf j.sizes).length=n by first|(rw[XP];exact f)|exact hrr.1.trans f);have S:=A (λW=>(by rw[<-f];exact fy W j a 6:XY Xz 166 #[YE (aM j a),G F 6] W λx w'=>x=YC (G F (n:Nat))/\Ext W w'));have Q:=A (λW=>((gh 6 W).mono λx w' h=>⟨h.1,h.2.symm⟩:XY Xz 34 #[G F 6] W λx w'=>x=YC (Yz Y)/\W=w'));have s:=A (λW (h:Ext N W)=>(⟨((hJ.ext h).cell 6).trans (by rw[fU,f]),λi=>(hZ.ext h).cell i⟩:W.cell? ⟨B,6,I⟩=L (V a.za n a.zc)/\∀i,W.cell? ⟨B+1,i,I⟩=(P e g)[i]?));obtain⟨post,aj⟩:=aa (oB X w (cj (ln j.sizes) e.index) J);rw[aj];rw[f] at an aj;have z:=A (λ(u:¬(e.index<0\/(n:Int)<=e.index)) W1 v (h:Ext N W1) (E:W1.ownsRow N.heap.size 41 3 v ((bf j.sizes).eraseIdx e.index.toNat).length ((bf j.sizes).eraseIdx e.index.toNat).flatten)=>(by
  obtain⟨a',ak⟩:=Hz (l:=j.sizes.eraseIdx e.index.toNat) hJ hv h (by rw[bf,<-gG yV];exact E);rw[al] at ak;exact⟨a',ak.2.1,aj▸fL am hB o e0 ZM ak⟩:∃a',JC (W1.setCell ⟨B,6,I⟩ v) B J a'/\post (YC (YF #[YE (aM J a'),G F 0])) ((W1.setCell ⟨B,6,I⟩ v).setRow (B+1+1) (aM J a'))))
 have ae:=A (λW (h:Ext N W)=>(((hb.z).below (e0.tr h)).more (e0.tr h).size:bR 3 W W.heap.size a.za a.zc (bf j.sizes)));have ah:=A (λW (h:Ext N W)=>(hJ.ext h).frozen 6);have ag:=A (λ(hh:e.index<0\/(n:Int)<=e.index) W1 (h:Ext N W1)=>(by
  have h6:cj n e.index=6:=ZN;rw[<-aj,h6];exact jO YK hB (e0.tr h) _:post (YC (YF #[YE (aM cn cT),G F 6])) (W1.setRow (B+1+1) (aM cn cT))))
 have TY:=A IV;have ad:=A (Bk j.sizes);have af:=A (Fz j.sizes);have HW:=A hW;have HR:=A hR;have t:=A hJ;clear aj f al hW o e0 hJ hZ hR hv hb;go_enter func93,ntmps93;go_upto_region 1 with(fail)
 rw[<-hB];rw[gV HW];clear hB;by_cases y:e.index<0\/(n:Int)<=e.index
 ·exact sJ
 obtain⟨i,hm⟩:∃i:Nat,e.index=i:=⟨e.index.toNat,D⟩;have ao:i<n:=D;have z:=A Y9;have qe:=(s.o _ (Ext.ah N)).2;have t5:YG (n<=i)=O:=XU D;have t6:YG ((i:Int)<0)=O:=XU D;have t7:YG ((i:Int)>=(n:Int))=O:=XU D;clear y;go_wp2_with(first
    |(go_at_call 34;refine(Q.o _).mono ?_;rintro C Wg ⟨rfl,rfl⟩)
    |(go_at_call 166;refine(S.o _).mono ?_;rintro C T ⟨rfl,d⟩;have ab:=A d;obtain⟨ql,ai⟩:=s.o _ d;clear d)
    |(refine wpList_load_row rfl 34 _ rfl _ rfl 34 _ (0,0) _ t.o XA rfl R ?_)
    |(refine cW Zb _ rfl _ rfl _ t.o R ?_))
 refine wp_region_any R (fC 11 (λc=>⟨#[YE (aM j a),YE (P e g),YA (L ⟨B,0,I⟩),YA (L ⟨B+1,0,I⟩),YA (L ⟨B+1+1,0,I⟩),G F 0,G F (i:Int),YA (L ⟨B+1,35,I⟩),G F 6,Yz Y,Yz O,M,YA (L ⟨B+1,1,I⟩),G F (i:Int),G F (i:Int),Yz O,Yz O,G F (i:Int),YE (aM j a),YA (L ⟨B+1,35,I⟩),G F 6,G F (n:Int),Yz O,Yz O,M,YA (L ⟨B+1,35,I⟩),G F 6,M,M,M,M,M,M,M,M,M,M,M,M,M,Yz O,Yz O,M,M,M,M,M,M,M,M,M,M,M,M,M,Yz O,Yz O,M,M,M,M,M,M,M,M,M,M,M,M,M,Yz Y,Yz Y,c 0,c 1,c 2,c 3,c 4,c 5,c 6,c 7,c 8,c 9,c 10,M,M,M,M,M,M,M,M,M,M,M,M,M,M,M,M,M,M,M,M,M,M,M,M,M,M,M,M,M,M,M,M,M],[]⟩)
  (λw'=>Ext T w') (λq v w=>IP N 41 3 B 6 a.za n a.zc i (bf j.sizes) q v w) (λ_=>O) R (λ_ _ h k=>h.tr k) (λ_ _ _ _ h k=>pH h k) (λ_ _ _ _ h=>YM) ?step ?tail (λ_=>M) _ (Ext.dr _))
 case step=>exact mN
 case tail=>exact pr
def LV(w:U)(j:bO)(a:cO)(e:Ed)(g:Z){X:Nat->Prop}(an:∀b,X b->b<w.heap.size)(hb:fP X w w.heap.size j a)(hk:e.number=7)(ao:ln j.bars<=1000000):
  XY Xz 93 #[YE (aM j a),YE (P e g)] w (oB X w (cj (ln j.bars) e.index) {j with bars:=j.bars.eraseIdx e.index.toNat}):=by
 obtain⟨B,l⟩:=gz w.heap.size;obtain⟨N,hW,o,e0,hJ,hZ,hR,hv⟩:=iA w j a (P e g) hb l;obtain⟨J,am⟩:=aa ({j with bars:=j.bars.eraseIdx e.index.toNat});rw[am];obtain⟨rows,ak,aq,ap⟩:=lX hv D;obtain⟨n,f⟩:=aa (ln j.bars);have ac:=A (show(rows).length=n by first|(rw[XP];exact f)|exact ak.1.trans f);have S:=A (λW=>(by rw[<-f];exact fy W j a 7:XY Xz 166 #[YE (aM j a),G F 7] W λx w'=>x=YC (G F (n:Nat))/\Ext W w'));have Q:=A (λW=>((gh 7 W).mono λx w' h=>⟨h.1,h.2.symm⟩:XY Xz 34 #[G F 7] W λx w'=>x=YC (Yz Y)/\W=w'));have s:=A (λW (h:Ext N W)=>(⟨((hJ.ext h).cell 7).trans (by rw[fI,f]),λi=>(hZ.ext h).cell i⟩:W.cell? ⟨B,7,I⟩=L (V a.ba n a.bc)/\∀i,W.cell? ⟨B+1,i,I⟩=(P e g)[i]?));obtain⟨post,aj⟩:=aa (oB X w (cj (ln j.bars) e.index) J);rw[aj];rw[f] at ao aj;have z:=A (λ(u:¬(e.index<0\/(n:Int)<=e.index)) W1 v (h:Ext N W1) (E:W1.ownsRow N.heap.size 44 6 v ((rows).eraseIdx e.index.toNat).length ((rows).eraseIdx e.index.toNat).flatten)=>(by
  obtain⟨a',al⟩:=IT hJ hv h (ak.erase e.index.toNat) (λW hO=>(ap W hO).erase e.index.toNat) E;rw[am] at al;exact⟨a',al.2.1,aj▸fL an l o e0 ZM al⟩:∃a',JC (W1.setCell ⟨B,7,I⟩ v) B J a'/\post (YC (YF #[YE (aM J a'),G F 0])) ((W1.setCell ⟨B,7,I⟩ v).setRow (B+1+1) (aM J a'))))
 have ae:=A (λW (h:Ext N W)=>(((aq).below (h.mono D)).more (Ye D h.size):bR 6 W W.heap.size a.ba a.bc (rows)));have ah:=A (λW (h:Ext N W)=>(hJ.ext h).frozen 7);have ag:=A (λ(hh:e.index<0\/(n:Int)<=e.index) W1 (h:Ext N W1)=>(by
  have h6:cj n e.index=6:=ZN;rw[<-aj,h6];exact jO YK l (e0.tr h) _:post (YC (YF #[YE (aM cn cT),G F 6])) (W1.setRow (B+1+1) (aM cn cT))))
 have TY:=A Sm;have ad:=A (ak.wide);have af:=A (ak.one);have HW:=A hW;have HR:=A hR;have t:=A hJ;clear aj f am hW o e0 hJ hZ hR hv hb;go_enter func93,ntmps93;go_upto_region 1 with(fail)
 rw[<-l];rw[gV HW];clear l;by_cases y:e.index<0\/(n:Int)<=e.index
 ·exact sJ
 obtain⟨i,hm⟩:∃i:Nat,e.index=i:=⟨e.index.toNat,D⟩;have ar:i<n:=D;have z:=A Y9;have qe:=(s.o _ (Ext.ah N)).2;have t5:YG (n<=i)=O:=XU D;have t6:YG ((i:Int)<0)=O:=XU D;have t7:YG ((i:Int)>=(n:Int))=O:=XU D;clear y;go_wp2_with(first
    |(go_at_call 34;refine(Q.o _).mono ?_;rintro C Wg ⟨rfl,rfl⟩)
    |(go_at_call 166;refine(S.o _).mono ?_;rintro C T ⟨rfl,d⟩;have ab:=A d;obtain⟨ql,ai⟩:=s.o _ d;clear d)
    |(refine wpList_load_row rfl 34 _ rfl _ rfl 34 _ (0,0) _ t.o XA rfl R ?_)
    |(refine cW Zb _ rfl _ rfl _ t.o R ?_))
 refine wp_region_any R (fC 11 (λc=>⟨#[YE (aM j a),YE (P e g),YA (L ⟨B,0,I⟩),YA (L ⟨B+1,0,I⟩),YA (L ⟨B+1+1,0,I⟩),G F 0,G F (i:Int),YA (L ⟨B+1,35,I⟩),G F 7,Yz Y,Yz O,M,YA (L ⟨B+1,1,I⟩),G F (i:Int),G F (i:Int),Yz O,Yz O,G F (i:Int),YE (aM j a),YA (L ⟨B+1,35,I⟩),G F 7,G F (n:Int),Yz O,Yz O,M,YA (L ⟨B+1,35,I⟩),G F 7,M,M,M,M,M,M,M,M,M,M,M,M,M,Yz O,Yz O,M,M,M,M,M,M,M,M,M,M,M,M,M,Yz O,Yz O,M,M,M,M,M,M,M,M,M,M,M,M,M,Yz O,Yz O,M,M,M,M,M,M,M,M,M,M,M,M,M,Yz Y,Yz Y,c 0,c 1,c 2,c 3,c 4,c 5,c 6,c 7,c 8,c 9,c 10,M,M,M,M,M,M,M,M,M,M,M,M,M,M,M,M,M,M],[]⟩)
  (λw'=>Ext T w') (λq v w=>IP N 44 6 B 7 a.ba n a.bc i (rows) q v w) (λ_=>O) R (λ_ _ h k=>h.tr k) (λ_ _ _ _ h k=>pH h k) (λ_ _ _ _ h=>YM) ?step ?tail (λ_=>M) _ (Ext.dr _))
 case step=>exact mN
 case tail=>exact pr
def LZ(w:U)(j:bO)(a:cO)(e:Ed)(g:Z){X:Nat->Prop}(am:∀b,X b->b<w.heap.size)(hb:fP X w w.heap.size j a)(hk:e.number=10)(an:ln j.aq<=1000000):
  XY Xz 93 #[YE (aM j a),YE (P e g)] w (oB X w (cj (ln j.aq) e.index) {j with aq:=j.aq.eraseIdx e.index.toNat}):=by
 obtain⟨B,hB⟩:=gz w.heap.size;obtain⟨N,hW,o,e0,hJ,hZ,hR,hv⟩:=iA w j a (P e g) hb hB;obtain⟨J,al⟩:=aa ({j with aq:=j.aq.eraseIdx e.index.toNat});rw[al];obtain⟨n,f⟩:=aa (ln j.aq);have ac:=A (show(bG j.aq).length=n by first|(rw[XP];exact f)|exact hrr.1.trans f);have S:=A (λW=>(by rw[<-f];exact fy W j a 10:XY Xz 166 #[YE (aM j a),G F 10] W λx w'=>x=YC (G F (n:Nat))/\Ext W w'));have Q:=A (λW=>((gh 10 W).mono λx w' h=>⟨h.1,h.2.symm⟩:XY Xz 34 #[G F 10] W λx w'=>x=YC (Yz Y)/\W=w'));have s:=A (λW (h:Ext N W)=>(⟨((hJ.ext h).cell 13).trans (by rw[dn,f]),λi=>(hZ.ext h).cell i⟩:W.cell? ⟨B,13,I⟩=L (V a.la n a.lc)/\∀i,W.cell? ⟨B+1,i,I⟩=(P e g)[i]?));obtain⟨post,aj⟩:=aa (oB X w (cj (ln j.aq) e.index) J);rw[aj];rw[f] at an aj;have z:=A (λ(u:¬(e.index<0\/(n:Int)<=e.index)) W1 v (h:Ext N W1) (E:W1.ownsRow N.heap.size 46 3 v ((bG j.aq).eraseIdx e.index.toNat).length ((bG j.aq).eraseIdx e.index.toNat).flatten)=>(by
  obtain⟨a',ak⟩:=IG (l:=j.aq.eraseIdx e.index.toNat) hJ hv h (by rw[bG,<-gG MK];exact E);rw[al] at ak;exact⟨a',ak.2.1,aj▸fL am hB o e0 ZM ak⟩:∃a',JC (W1.setCell ⟨B,13,I⟩ v) B J a'/\post (YC (YF #[YE (aM J a'),G F 0])) ((W1.setCell ⟨B,13,I⟩ v).setRow (B+1+1) (aM J a'))))
 have ae:=A (λW (h:Ext N W)=>(((hb.l).below (e0.tr h)).more (e0.tr h).size:bR 3 W W.heap.size a.la a.lc (bG j.aq)));have ah:=A (λW (h:Ext N W)=>(hJ.ext h).frozen 13);have ag:=A (λ(hh:e.index<0\/(n:Int)<=e.index) W1 (h:Ext N W1)=>(by
  have h6:cj n e.index=6:=ZN;rw[<-aj,h6];exact jO YK hB (e0.tr h) _:post (YC (YF #[YE (aM cn cT),G F 6])) (W1.setRow (B+1+1) (aM cn cT))))
 have TY:=A Sq;have ad:=A (nN j.aq);have af:=A (AV j.aq);have HW:=A hW;have HR:=A hR;have t:=A hJ;clear aj f al hW o e0 hJ hZ hR hv hb;go_enter func93,ntmps93;go_upto_region 1 with(fail)
 rw[<-hB];rw[gV HW];clear hB;by_cases y:e.index<0\/(n:Int)<=e.index
 ·exact sJ
 obtain⟨i,hm⟩:∃i:Nat,e.index=i:=⟨e.index.toNat,D⟩;have ao:i<n:=D;have z:=A Y9;have qe:=(s.o _ (Ext.ah N)).2;have t5:YG (n<=i)=O:=XU D;have t6:YG ((i:Int)<0)=O:=XU D;have t7:YG ((i:Int)>=(n:Int))=O:=XU D;clear y;go_wp2_with(first
    |(go_at_call 34;refine(Q.o _).mono ?_;rintro C Wg ⟨rfl,rfl⟩)
    |(go_at_call 166;refine(S.o _).mono ?_;rintro C T ⟨rfl,d⟩;have ab:=A d;obtain⟨ql,ai⟩:=s.o _ d;clear d)
    |(refine wpList_load_row rfl 34 _ rfl _ rfl 34 _ (0,0) _ t.o XA rfl R ?_)
    |(refine cW Zb _ rfl _ rfl _ t.o R ?_))
 refine wp_region_any R (fC 11 (λc=>⟨#[YE (aM j a),YE (P e g),YA (L ⟨B,0,I⟩),YA (L ⟨B+1,0,I⟩),YA (L ⟨B+1+1,0,I⟩),G F 0,G F (i:Int),YA (L ⟨B+1,35,I⟩),G F 10,Yz Y,Yz O,M,YA (L ⟨B+1,1,I⟩),G F (i:Int),G F (i:Int),Yz O,Yz O,G F (i:Int),YE (aM j a),YA (L ⟨B+1,35,I⟩),G F 10,G F (n:Int),Yz O,Yz O,M,YA (L ⟨B+1,35,I⟩),G F 10,M,M,M,M,M,M,M,M,M,M,M,M,M,Yz O,Yz O,M,M,M,M,M,M,M,M,M,M,M,M,M,Yz O,Yz O,M,M,M,M,M,M,M,M,M,M,M,M,M,Yz O,Yz O,M,M,M,M,M,M,M,M,M,M,M,M,M,Yz O,Yz O,M,M,M,M,M,M,M,M,M,M,M,M,M,Yz Y,Yz Y,c 0,c 1,c 2,c 3,c 4,c 5,c 6,c 7,c 8,c 9,c 10,M,M,M],[]⟩)
  (λw'=>Ext T w') (λq v w=>IP N 46 3 B 13 a.la n a.lc i (bG j.aq) q v w) (λ_=>O) R (λ_ _ h k=>h.tr k) (λ_ _ _ _ h k=>pH h k) (λ_ _ _ _ h=>YM) ?step ?tail (λ_=>M) _ (Ext.dr _))
 case step=>exact mN
 case tail=>exact pr
def Mx(w:U)(j:bO)(a:cO)(e:Ed)(g:Z){X:Nat->Prop}(am:∀b,X b->b<w.heap.size)(hb:fP X w w.heap.size j a)(hk:e.number=11)(an:ln j.spans<=1000000):
  XY Xz 93 #[YE (aM j a),YE (P e g)] w (oB X w (cj (ln j.spans) e.index) {j with spans:=j.spans.eraseIdx e.index.toNat}):=by
 obtain⟨B,hB⟩:=gz w.heap.size;obtain⟨N,hW,o,e0,hJ,hZ,hR,hv⟩:=iA w j a (P e g) hb hB;obtain⟨J,al⟩:=aa ({j with spans:=j.spans.eraseIdx e.index.toNat});rw[al];obtain⟨n,f⟩:=aa (ln j.spans);have ac:=A (show(aO j.spans).length=n by first|(rw[XP];exact f)|exact hrr.1.trans f);have S:=A (λW=>(by rw[<-f];exact fy W j a 11:XY Xz 166 #[YE (aM j a),G F 11] W λx w'=>x=YC (G F (n:Nat))/\Ext W w'));have Q:=A (λW=>((gh 11 W).mono λx w' h=>⟨h.1,h.2.symm⟩:XY Xz 34 #[G F 11] W λx w'=>x=YC (Yz Y)/\W=w'));have s:=A (λW (h:Ext N W)=>(⟨((hJ.ext h).cell 14).trans (by rw[dq,f]),λi=>(hZ.ext h).cell i⟩:W.cell? ⟨B,14,I⟩=L (V a.sa n a.sc)/\∀i,W.cell? ⟨B+1,i,I⟩=(P e g)[i]?));obtain⟨post,aj⟩:=aa (oB X w (cj (ln j.spans) e.index) J);rw[aj];rw[f] at an aj;have z:=A (λ(u:¬(e.index<0\/(n:Int)<=e.index)) W1 v (h:Ext N W1) (E:W1.ownsRow N.heap.size 48 5 v ((aO j.spans).eraseIdx e.index.toNat).length ((aO j.spans).eraseIdx e.index.toNat).flatten)=>(by
  obtain⟨a',ak⟩:=BU (l:=j.spans.eraseIdx e.index.toNat) hJ hv h (by rw[aO,<-gG iI];exact E);rw[al] at ak;exact⟨a',ak.2.1,aj▸fL am hB o e0 ZM ak⟩:∃a',JC (W1.setCell ⟨B,14,I⟩ v) B J a'/\post (YC (YF #[YE (aM J a'),G F 0])) ((W1.setCell ⟨B,14,I⟩ v).setRow (B+1+1) (aM J a'))))
 have ae:=A (λW (h:Ext N W)=>(((hb.s).below (e0.tr h)).more (e0.tr h).size:bR 5 W W.heap.size a.sa a.sc (aO j.spans)));have ah:=A (λW (h:Ext N W)=>(hJ.ext h).frozen 14);have ag:=A (λ(hh:e.index<0\/(n:Int)<=e.index) W1 (h:Ext N W1)=>(by
  have h6:cj n e.index=6:=ZN;rw[<-aj,h6];exact jO YK hB (e0.tr h) _:post (YC (YF #[YE (aM cn cT),G F 6])) (W1.setRow (B+1+1) (aM cn cT))))
 have TY:=A zo;have ad:=A (Hq j.spans);have af:=A (zQ j.spans);have HW:=A hW;have HR:=A hR;have t:=A hJ;clear aj f al hW o e0 hJ hZ hR hv hb;go_enter func93,ntmps93;go_upto_region 1 with(fail)
 rw[<-hB];rw[gV HW];clear hB;by_cases y:e.index<0\/(n:Int)<=e.index
 ·exact sJ
 obtain⟨i,hm⟩:∃i:Nat,e.index=i:=⟨e.index.toNat,D⟩;have ao:i<n:=D;have z:=A Y9;have qe:=(s.o _ (Ext.ah N)).2;have t5:YG (n<=i)=O:=XU D;have t6:YG ((i:Int)<0)=O:=XU D;have t7:YG ((i:Int)>=(n:Int))=O:=XU D;clear y;go_wp2_with(first
    |(go_at_call 34;refine(Q.o _).mono ?_;rintro C Wg ⟨rfl,rfl⟩)
    |(go_at_call 166;refine(S.o _).mono ?_;rintro C T ⟨rfl,d⟩;have ab:=A d;obtain⟨ql,ai⟩:=s.o _ d;clear d)
    |(refine wpList_load_row rfl 34 _ rfl _ rfl 34 _ (0,0) _ t.o XA rfl R ?_)
    |(refine cW Zb _ rfl _ rfl _ t.o R ?_))
 refine wp_region_any R (fC 11 (λc=>⟨#[YE (aM j a),YE (P e g),YA (L ⟨B,0,I⟩),YA (L ⟨B+1,0,I⟩),YA (L ⟨B+1+1,0,I⟩),G F 0,G F (i:Int),YA (L ⟨B+1,35,I⟩),G F 11,Yz Y,Yz O,M,YA (L ⟨B+1,1,I⟩),G F (i:Int),G F (i:Int),Yz O,Yz O,G F (i:Int),YE (aM j a),YA (L ⟨B+1,35,I⟩),G F 11,G F (n:Int),Yz O,Yz O,M,YA (L ⟨B+1,35,I⟩),G F 11,c 0,c 1,c 2,c 3,c 4,c 5,c 6,c 7,c 8,c 9,c 10,M,M,Yz O,Yz O,M,M,M,M,M,M,M,M,M,M,M,M,M,Yz O,Yz O,M,M,M,M,M,M,M,M,M,M,M,M,M,Yz O,Yz O,M,M,M,M,M,M,M,M,M,M,M,M,M,Yz O,Yz O,M,M,M,M,M,M,M,M,M,M,M,M,M,Yz O,Yz O,M,M,M,M,M,M,M,M,M,M,M,M,M,M],[]⟩)
  (λw'=>Ext T w') (λq v w=>IP N 48 5 B 14 a.sa n a.sc i (aO j.spans) q v w) (λ_=>O) R (λ_ _ h k=>h.tr k) (λ_ _ _ _ h k=>pH h k) (λ_ _ _ _ h=>YM) ?step ?tail (λ_=>M) _ (Ext.dr _))
 case step=>exact mN
 case tail=>exact pr
def Oe(w:U)(j:bO)(a:cO)(e:Ed)(g:Z){X:Nat->Prop}(C:∀b,X b->b<w.heap.size)(m:fP X w w.heap.size j a)(M:e.number≠4)(L:e.number≠5)(Q:e.number≠6)(I:e.number≠7)(y:e.number≠10)(o:e.number≠11)(J:bO):
  XY Xz 93 #[YE (aM j a),YE (P e g)] w (oB X w 8 J):=by
 obtain⟨B,c⟩:=gz w.heap.size;obtain⟨N,k,t,l,u,f,d,q⟩:=iA w j a (P e g) m c;have r:=A (jO (X:=X) (E:=8) (J:=J) YK c l (aM cn cT));have v:=A (λW=>((gh e.number W).mono λx w' h=>⟨by
  have:=h.1;rw[XN.2 y,XN.2 o,Bool.or_false,Bool.or_false] at this;rw[this]
  congr 2
  by_cases h1:4<=e.number
  ·rw[XU (show¬e.number<=7 by omega),Bool.and_false]
  ·rw[XU h1,Bool.false_and],h.2.symm⟩:XY Xz 34 #[G F e.number] W λx w'=>x=YC (Yz O)/\W=w'))
 have s:=A k;have n:=A d;have K:=λi=>f.cell i
 clear k t l u f d q m;go_enter func93,ntmps93;go_upto_region 1 with(fail)
 rw[<-c];rw[gV s];clear c;go_wp2_with(first
  |(go_at_call 34;refine(v.o _).mono ?_;rintro z D ⟨rfl,rfl⟩)
  |(refine wpList_build rfl 34 _ rfl R ?_;rw[show Value.agg (Option.getD (Xz.built 34 _) #[])=YE (aM cn cT) from R])
  |(refine wpList_store_row rfl 34 _ _ rfl _ _ rfl rfl 34 _ n.o R R R ?_))
 refine bodyPost_ret (aX H _ _ _ _ H (setRow_heap n.o _) R) H ?_;exact r.o
def DR(w:U)(j:bO)(a:cO)(e:Ed)(g:Z){X:Nat->Prop}(f:∀b,X b->b<w.heap.size)(h:fP X w w.heap.size j a)(k:Fi j):XY Xz 93 #[YE (aM j a),YE (P e g)] w (oB X w (xF j e) (xR j e)):=by
 unfold xF xR;by_cases c:e.number=4
 ·simp only[c,Yr];exact Nl w j a e g f h c k.u
 by_cases d:e.number=5
 ·simp only[c,d,Yr,Yu];exact NK w j a e g f h d k.o
 by_cases i:e.number=6
 ·simp only[c,d,i,Yr,Yu];exact NJ w j a e g f h i k.z
 by_cases l:e.number=7
 ·simp only[c,d,i,l,Yr,Yu];exact LV w j a e g f h l k.b
 by_cases m:e.number=10
 ·simp only[c,d,i,l,m,Yr,Yu];exact LZ w j a e g f h m k.l
 by_cases n:e.number=11
 ·simp only[c,d,i,l,m,n,Yr,Yu];exact Mx w j a e g f h n k.s
 ·simp only[c,d,i,l,m,n,Yu];exact Oe w j a e g f h c d i l m n _
end
section
open Kp
attribute [local go_sem] bJ gE fX gA gC fN fG fU fI gD gy dQ dO dR dn dq
attribute [local go_sem] aF dG eV ff eY fe eZ dd dP
def SU(X:Nat->Prop)(B:Nat)(b:Nat):Prop:=X b\/B<=b/\b<B+3
theorem fP.boxes{X:Nat->Prop}{B:Nat}(h:fP X N B j a)(d:N.heap.size=B+3):fP (SU X B) N N.heap.size j a:=
 (h.mono (λb c hx=>hx.elim id (λq=>D))).more D
theorem fP.over{X:Nat->Prop}{B:Nat}(h:fP (SU X B) W W.heap.size J a)(i:B<=q/\q<B+3)(C:Array Z):fP X (W.setRow q C) (W.setRow q C).heap.size J a:=by
 have g:(W.setRow q C).heap.size=W.heap.size:=size_setRow _ _ _;refine fP.off (λd h1 h2=>h.av d ⟨D,λb f c=>(h2 b D (λhx=>c (.inl hx))).trans (wL _ _ (λe=>c (.inr D)))⟩)
theorem ew.drew(h:ew c w W):ew c w W.drew:=⟨h.below.drew,h.others⟩
theorem lY{X:Nat->Prop}{B:Nat}(d:B=w.heap.size)(b:Ext w N)(a:Ext N W1)(c:(if E=0 then J else cn)=k)(h:fP (SU X B) W1 W1.heap.size k a')(C:Array Z):
  oB X w E J (YC (YF #[YE (aM k a'),G F E])) (W1.setRow (B+1+1) C):=by
 subst c;exact⟨a',H,al (b.tr a) D _,h.over ⟨D,D⟩ _⟩
theorem C6{X:Nat->Prop}{B:Nat}(c:B=w.heap.size)(b:Ext w N)(a:Ext N W1)(h:fP (SU X B) W1 W1.heap.size J a')(C:Array Z):
  oB X w 0 J (YC (YF #[YE (aM J a'),G F 0])) (W1.setRow (B+1+1) C):=lY c b (E:=0) a rfl h C
theorem vo{a:Nat->Prop}{f:FuncId}(h:XY Xz f args N (oB a N E J))(b:(if E=0 then J else cn)=k):
  XY Xz f args N λx w'=>∃a',x=YC (YF #[YE (aM k a'),G F E])/\Ext N w'/\fP a w' w'.heap.size k a':=by
 subst b;exact h
theorem oV{X:Nat->Prop}{B:Nat}(h1:ew B N W1)(h2:JC W1 B J a)(d:B<N.heap.size)(c:fP X N B j a)(h:∀W n,fW W n j a->fW W n J a):kW X B N W1 J a:=
 ⟨h1,h2,λW b=>h _ _ (c.to d h1.below b)⟩
theorem lZ(h:p:=by
  go_enter func25,ntmps25;go_upto_region 1 with(fail)
  rw[<-HB.o];rw[gV HW];go_wp2_with(first
   |(go_at_call 89;refine n.o.mono ?_;rintro ee W1 ⟨a',rfl,hX1,hj1⟩;have HP:=A (o.o W1 a' hX1 hj1);have s:=A (M.o.ext hX1);clear hX1 hj1)
   |(go_at_call 90;refine n.o.mono ?_;rintro ee W1 ⟨a',rfl,hX1,hj1⟩;have HP:=A (o.o W1 a' hX1 hj1);have s:=A (M.o.ext hX1);clear hX1 hj1)
   |(go_at_call 91;refine n.o.mono ?_;rintro ee W1 ⟨a',rfl,hX1,hj1⟩;have HP:=A (o.o W1 a' hX1 hj1);have s:=A (M.o.ext hX1);clear hX1 hj1)
   |(go_at_call 92;refine n.o.mono ?_;rintro ee W1 ⟨a',rfl,hX1,hj1⟩;have HP:=A (o.o W1 a' hX1 hj1);have s:=A (M.o.ext hX1);clear hX1 hj1)
   |(go_at_call 93;refine n.o.mono ?_;rintro ee W1 ⟨a',rfl,hX1,hj1⟩;have HP:=A (o.o W1 a' hX1 hj1);have s:=A (M.o.ext hX1);clear hX1 hj1)
   |(go_at_call 94;refine n.o.mono ?_;rintro ee W1 ⟨a',rfl,hX1,hj1⟩;have HP:=A (o.o W1 a' hX1 hj1);have s:=A (M.o.ext hX1);clear hX1 hj1)
   |(refine wpList_load_row rfl 34 _ rfl _ rfl 34 _ (0,0) _ HJ.o XA rfl R ?_)
   |(refine wpList_load_row rfl 50 _ rfl _ rfl 50 _ (0,0) _ HZ.o XB rfl R ?_)
   |(refine wpList_store_row rfl 34 _ _ rfl _ _ rfl rfl 34 _ s.o R R R ?_))
  refine bodyPost_ret (aX H _ _ _ _ H (setRow_heap s.o _) R) H ?_;exact HP.o _):p:=h
theorem Af(h:p:=by
  go_enter func25,ntmps25;go_upto_region 1 with(fail)
  rw[<-HB.o];rw[gV HW];go_upto_region 21 with(first
   |(go_region)
   |(refine bZ rfl 30 _ _ rfl _ 9 _ rfl rfl 34 _ HJ.o R (Nat.le_of_ble_eq_true R) R ?_))
  all_goals
   go_wp2_with(first
    |(refine wpList_load_row rfl 34 _ rfl _ rfl 34 _ (0,0) _ (by first|exact ae.o|exact ah.o) XA rfl R ?_)
    |(refine wpList_store_row rfl 34 _ _ rfl _ _ rfl rfl 34 _ (by first|exact s.o|exact af.o) R R R ?_))
   refine bodyPost_ret (aX H _ _ _ _ H (setRow_heap (by first|exact s.o|exact af.o) _) R) H ?_
   first
    |exact ag.o
    |exact ai.o):p:=h
def CV(w:U)(j:bO)(a:cO)(e:Ed)(S:Option Ym)(T:Nat){X:Nat->Prop}(K:∀b,X b->b<w.heap.size)(hb:fP X w w.heap.size j a)(Z:aT w w.heap.size S T e.gaps)(ad:∀W,zI X w.heap.size w W->aT W W.heap.size S T e.gaps)
  (hk:1<=e.kind/\e.kind<=12)(u:Fi j)(Y:iv j.purlins=0)(hz:fE j.sizes=0)(ab:eE j.spans=0)(hn:e.index<=9223372036854775807):
  XY Xz 25 #[YE (aM j a),YE (P e (V S (ln e.gaps) T))] w (oB X w (dj j e) (bP j e)):=by
 obtain⟨B,m⟩:=gz w.heap.size;obtain⟨N,Q,E,l,t,L,z,C⟩:=iA w j a (P e (V S (ln e.gaps) T)) hb m;have y:∀b,SU X B b->b<N.heap.size:=λb h=>h.elim (λq=>by have:=K b q;omega) (λq=>D)
 have x:=C.boxes E;have O:=λhk=>Fm N j a e y x hk u.b S T ((Z.below l).more l.size) (λW hO=>ad W ⟨Ye l.size hO.1,λb h1 h2=>(hO.2 b (Nat.lt_of_lt_of_le h1 l.size) (λq=>q.elim h2 (λq=>D))).trans (l.block b h1)⟩)
 obtain⟨g,ac⟩:=aa (Value.slice S (ln e.gaps) T);rw[ac] at Q L O⊢;have HW:=A Q;have M:=A z;have HJ:=A t;have HZ:=A L;have qe:=λi=>L.cell i
 have qj:=λi=>t.cell i
 have fj:=λi=>t.frozen i
 have HB:=A m;have v:=t.lt;rcases(show e.kind=1\/e.kind=2\/e.kind=3\/e.kind=4\/e.kind=5\/e.kind=6\/e.kind=7\/e.kind=8\/e.kind=9\/e.kind=10\/e.kind=11\/e.kind=12 by omega) with h|h|h|h|h|h|h|h|h|h|h|h
 ·have c:dj j e=0:=YX;have d:bP j e={j with name:=e.text}:=YY;rw[c,d];have h1:ew B N (N.setCell ⟨B,0,I⟩ (Yy (tx e.text))):=(ew.ext (Ext.ah _) v).put _ _;have h2:JC (N.setCell ⟨B,0,I⟩ (Yy (tx e.text))) B {j with name:=e.text} a:=t.put _ H;have ae:=A h2;have s:=A (show(N.setCell ⟨B,0,I⟩ (Yy (tx e.text))).heap[B+1+1]?=_ from(h1.others _ D D).trans z);exact a2T
 ·have c:dj j e=kb j.rings e.index:=YX;have d:bP j e={j with rings:=df j.rings e.index (lJ e)}:=YY;rw[c,d];obtain⟨k,f⟩:=aa (if kb j.rings e.index=0 then{j with rings:=df j.rings e.index (lJ e)} else cn);have n:=vo (Kh N j a e g y x u.r u.rk hn) f;have o:=λW1 (a':cO) (r:Ext N W1) h=>lY (X:=X) (a':=a') m l r f h
  clear f c;obtain⟨EX,c⟩:=aa (kb j.rings e.index);exact a2R
 ·have c:dj j e=0:=YX;have d:bP j e={j with origin:=e.index,spacing:=e.number}:=YY;rw[c,d];have h1:ew B N (((N.setCell ⟨B,2,I⟩ (G F e.index)).setCell ⟨B,3,I⟩ (G F e.number)).drew):=ew.drew (((ew.ext (Ext.ah _) v).put _ _).put _ _);have h2:JC (((N.setCell ⟨B,2,I⟩ (G F e.index)).setCell ⟨B,3,I⟩ (G F e.number)).drew) B {j with origin:=e.index,spacing:=e.number} a:=(show JC ((N.setCell ⟨B,2,I⟩ (G F e.index)).setCell ⟨B,3,I⟩ (G F e.number)) B {j with origin:=e.index,spacing:=e.number} a from(t.put (j':={j with origin:=e.index}) _ H).put _ H);have ae:=A h2;have s:=A (show(((N.setCell ⟨B,2,I⟩ (G F e.index)).setCell ⟨B,3,I⟩ (G F e.number)).drew).heap[B+1+1]?=_ from(h1.others _ D D).trans z);have ag:=A (fL (X:=X) K m E l H (oV h1 h2 v C (λ_ _ q=>⟨q.p,q.u,q.o,q.z,q.b,q.l,q.s⟩)));have d1:ew B N (((N.setCell ⟨B,3,I⟩ (G F e.number)).setCell ⟨B,2,I⟩ (G F e.index)).drew):=ew.drew (((ew.ext (Ext.ah _) v).put _ _).put _ _);have d2:JC (((N.setCell ⟨B,3,I⟩ (G F e.number)).setCell ⟨B,2,I⟩ (G F e.index)).drew) B {j with origin:=e.index,spacing:=e.number} a:=(show JC ((N.setCell ⟨B,3,I⟩ (G F e.number)).setCell ⟨B,2,I⟩ (G F e.index)) B {j with origin:=e.index,spacing:=e.number} a from(t.put (j':={j with spacing:=e.number}) _ H).put _ H);have ah:=A d2;have af:=A (show(((N.setCell ⟨B,3,I⟩ (G F e.number)).setCell ⟨B,2,I⟩ (G F e.index)).drew).heap[B+1+1]?=_ from(d1.others _ D D).trans z);have ai:=A (fL (X:=X) K m E l H (oV d1 d2 v C (λ_ _ q=>⟨q.p,q.u,q.o,q.z,q.b,q.l,q.s⟩)));clear d1 d2;clear h1 h2 Q E l t L z C hb u Y hz ab hn y x c d Z ad K hk O ac m v;exact Af
 ·have c:dj j e=(if j.purlins.contains e.number then 7 else 0:Int):=YX;have d:bP j e={j with purlins:=de j.purlins (j.purlins.countP (· <e.number)) e.number}:=YY;rw[c,d];obtain⟨k,f⟩:=aa (if(if j.purlins.contains e.number then 7 else 0:Int)=0 then{j with purlins:=de j.purlins (j.purlins.countP (· <e.number)) e.number} else cn);have n:=vo (Dz N j a e g y x Y) f;have o:=λW1 (a':cO) (r:Ext N W1) h=>lY (X:=X) (a':=a') m l r f h
  clear f c;obtain⟨EX,c⟩:=aa (if j.purlins.contains e.number then 7 else 0:Int);exact a2R
 ·have c:dj j e=cM (ln j.openings) e.index:=YX;have d:bP j e={j with openings:=bm j.openings e.index ⟨e.oside,e.oleft,e.oright,e.olow,e.ohigh⟩}:=YY;rw[c,d];obtain⟨k,f⟩:=aa (if cM (ln j.openings) e.index=0 then{j with openings:=bm j.openings e.index ⟨e.oside,e.oleft,e.oright,e.olow,e.ohigh⟩} else cn);have n:=vo (Gy N j a e g y x h u.o) f;have o:=λW1 (a':cO) (r:Ext N W1) h=>lY (X:=X) (a':=a') m l r f h
  clear f c;obtain⟨EX,c⟩:=aa (cM (ln j.openings) e.index);exact a2R
 ·have c:dj j e=0:=YX;have d:bP j e={j with sizes:=bm j.sizes (Hy j.sizes e.zkind) ⟨e.zkind,e.zwidth,e.zdepth⟩}:=YY;rw[c,d];have n:=A (Kt N j a e g y x hz u.z);have o:=A (λW1 (a':cO) (r:Ext N W1) h=>C6 (X:=X) (J:={j with sizes:=bm j.sizes (Hy j.sizes e.zkind) ⟨e.zkind,e.zwidth,e.zdepth⟩}) (a':=a') m l r h);exact a2S
 ·have c:dj j e=cM (ln j.bars) e.index:=YX;have d:bP j e={j with bars:=bm j.bars e.index ⟨e.bwidth,e.bdepth,e.blength,e.bcount,e.bcost,e.gaps⟩}:=YY;rw[c,d];obtain⟨k,f⟩:=aa (if cM (ln j.bars) e.index=0 then{j with bars:=bm j.bars e.index ⟨e.bwidth,e.bdepth,e.blength,e.bcount,e.bcost,e.gaps⟩} else cn);have n:=vo (O h) f;have o:=λW1 (a':cO) (r:Ext N W1) h=>lY (X:=X) (a':=a') m l r f h
  clear f c;obtain⟨EX,c⟩:=aa (cM (ln j.bars) e.index);exact a2R
 ·have c:dj j e=0:=YX;have d:bP j e={j with kerf:=e.number}:=YY;rw[c,d];have h1:ew B N (N.setCell ⟨B,8,I⟩ (G F e.number)):=(ew.ext (Ext.ah _) v).put _ _;have h2:JC (N.setCell ⟨B,8,I⟩ (G F e.number)) B {j with kerf:=e.number} a:=t.put _ H;have ae:=A h2;have s:=A (show(N.setCell ⟨B,8,I⟩ (G F e.number)).heap[B+1+1]?=_ from(h1.others _ D D).trans z);exact a2T
 ·have c:dj j e=0:=YX;have d:bP j e={j with tile:=⟨e.twidth,e.tlength,e.tlap,e.ttail⟩}:=YY;rw[c,d];have h1:ew B N (N.setRow B (putAt (aM j a) 9 #[G F e.twidth,G F e.tlength,G F e.tlap,G F e.ttail])):=(ew.ext (Ext.ah _) v).row _;have h2:JC (N.setRow B (putAt (aM j a) 9 #[G F e.twidth,G F e.tlength,G F e.tlap,G F e.ttail])) B {j with tile:=⟨e.twidth,e.tlength,e.tlap,e.ttail⟩} a:=setRow_heap t _;have ae:=A h2;have s:=A (show(N.setRow B (putAt (aM j a) 9 #[G F e.twidth,G F e.tlength,G F e.tlap,G F e.ttail])).heap[B+1+1]?=_ from(h1.others _ D D).trans z);exact a2T
 ·have c:dj j e=cM (ln j.aq) e.index:=YX;have d:bP j e={j with aq:=bm j.aq e.index ⟨e.lkind,e.lside,e.lweight⟩}:=YY;rw[c,d];obtain⟨k,f⟩:=aa (if cM (ln j.aq) e.index=0 then{j with aq:=bm j.aq e.index ⟨e.lkind,e.lside,e.lweight⟩} else cn);have n:=vo (GC N j a e g y x h u.l) f;have o:=λW1 (a':cO) (r:Ext N W1) h=>lY (X:=X) (a':=a') m l r f h
  clear f c;obtain⟨EX,c⟩:=aa (cM (ln j.aq) e.index);exact a2R
 ·have c:dj j e=0:=YX;have d:bP j e={j with spans:=ub j.spans (nO e)}:=YY;rw[c,d];have n:=A (Jo N j a e g y x ab u.s);have o:=A (λW1 (a':cO) (r:Ext N W1) h=>C6 (X:=X) (J:={j with spans:=ub j.spans (nO e)}) (a':=a') m l r h);exact a2S
 ·have c:dj j e=xF j e:=YX;have d:bP j e=xR j e:=YY;rw[c,d];obtain⟨k,f⟩:=aa (if xF j e=0 then xR j e else cn);have n:=vo (DR N j a e g y x u) f;have o:=λW1 (a':cO) (r:Ext N W1) h=>lY (X:=X) (a':=a') m l r f h
  clear f c;obtain⟨EX,c⟩:=aa (xF j e);exact a2R
end
section
open Kp
def Hj{o:nc}(h:nE o):BJ o:=
 ⟨by have:=di h.a;omega,by have:=di h.b;omega,by have:=di h.c;omega,by have:=di h.d;omega⟩
theorem vM.ops(h:vM j):∀o∈j.openings,BJ o:=by
 intro o a;obtain⟨i,hi,rfl⟩:=List.mem_iff_getElem.1 a;have:=h.gr.V9 h.o i hi;rw[XJ,XO hi] at this;exact Hj this
theorem vM.aq(h:vM j):∀x∈j.aq,ln x.weight<=300000:=by
 intro x hx;obtain⟨i,hi,rfl⟩:=List.mem_iff_getElem.1 hx;have:=h.gr.l.w i hi;rw[XJ,XO hi] at this;exact Ye this YK
theorem vM.sm(h:vM j):sB j:=
 ⟨by have:=h.gr.name;omega,by have:=h.gr.r.f;omega,λ_=>h.ops,h.aq⟩
def RY{rs:List (List Sd)}(k:Nat):(rs.getD k []).length<=ln rs.flatten:=by
 by_cases hk:k<ln rs
 ·rw[XJ,XO hk];exact(List.sublist_flatten_of_mem (List.getElem_mem hk)).length_le
 ·rw[XJ,List.getElem?_eq_none D];exact Nat.zero_le _
theorem vM.ln(h:vM j):Fi j:=
 ⟨by have:=h.gr.r.n;omega,λk=>by have:=RY (rs:=j.rings) k;have:=h.gr.r.f;omega,by have:=h.o;omega,by have:=h.gr.z;omega,by have:=h.gr.b.n;omega,by have:=h.gr.l.n;omega,by have:=h.gr.s.n;omega,by have:=h.gr.u;omega⟩
theorem rm{l:List g}{x y:g}(h:y∈bm l i x):y∈l\/y=x:=by
 unfold bm at h;split at h
 ·rcases List.mem_append.1 h with h|h
  ·exact .inl h
  ·exact .inr (List.mem_singleton.1 h)
 ·exact List.mem_or_eq_of_mem_set h
def qD(rs:List (List Sd))(n:Int)(s:Sd):(df rs n s).flatten.length=ln rs.flatten:=by
 rw[List.length_flatten,List.length_flatten]
 congr 1
 apply List.ext_getElem?;intro k;rw[List.getElem?_map,List.getElem?_map];by_cases hk:k<ln rs
 ·have h1:=wX rs n s hk;have a:k<(df rs n s).length:=by unfold df;simpa using hk
  rw[XJ,XO a] at h1;rw[XO a,XO hk];have h2:=FC rs n s k;rw[XJ,XO hk] at h2;simp only[Option.getD_some] at h1 h2;simp only[Option.map_some,h1,h2]
 ·have a:¬k<(df rs n s).length:=by unfold df;simpa using hk
  rw[List.getElem?_eq_none D,List.getElem?_eq_none D]
def MA{e:Ed}(h:fl e=O):BJ ⟨e.oside,e.oleft,e.oright,e.olow,e.ohigh⟩:=by
 unfold fl kA at h;simp only[Bool.or_eq_false_iff,XL] at h;obtain⟨⟨⟨h1,h2⟩,⟨⟨a,c⟩,b⟩,d⟩,f⟩:=h;exact⟨by have:=di a;show ln e.oleft<=_;omega,by have:=di c;show ln e.oright<=_;omega,by have:=di b;show ln e.olow<=_;omega,by have:=di d;show ln e.ohigh<=_;omega⟩
def vh{e:Ed}(h:fl e=O):ln e.text<=40/\ln e.lweight<=50:=by
 unfold fl at h;simp only[Bool.or_eq_false_iff,XL] at h;omega
theorem SF{P:g->Prop}{c:Prop}[Decidable c]{a b:g}(h1:c->P a)(h2:¬c->P b):P (if c then a else b):=by
 by_cases h:c
 ·rw[XT h];exact h1 h
 ·rw[XQ h];exact h2 h
theorem sB.WD{e:Ed}(h:sB j)(g:ln j.openings<=32)(d:fl e=O):sB (bP j e):=by
 obtain⟨h1,h2,f,a⟩:=h;have b:=f g;have k:=vh d;have i:sB j:=⟨h1,h2,f,a⟩;unfold bP xR
 repeat' refine SF (P:=sB) (λ_=> ?_) (λ_=> ?_)
 all_goals first
  |exact i
  |exact⟨h1,h2,λ_=>b,a⟩
  |exact⟨by show ln e.text<=_;omega,h2,λ_=>b,a⟩
  |exact⟨h1,by show(df _ _ _).flatten.length<=_;rw[qD];exact h2,λ_=>b,a⟩
  |exact⟨h1,h2,λ_ o c=>(rm c).elim (b o) (λq=>q▸MA d),a⟩
  |exact⟨h1,h2,λ_=>b,λo c=>(rm c).elim (a o) (λq=>by rw[q];show ln e.lweight<=_;omega)⟩
  |exact⟨h1,h2,λ_ o c=>b o (List.mem_of_mem_eraseIdx c),a⟩
  |exact⟨h1,h2,λ_=>b,λo c=>a o (List.mem_of_mem_eraseIdx c)⟩
end
section
open Kp
theorem pE(h:kU j=0):dL j.rings=0/\iv j.purlins=0/\lH j.rings j.openings=0/\fE j.sizes=0/\eE j.spans=0:=by
 unfold kU at h
 repeat' split at h
 all_goals first|(cases h;done)|contradiction|(rename_i h1 h2 d g b c a k i f e;exact⟨Classical.not_not.1 h2,Classical.not_not.1 b,Classical.not_not.1 c,Classical.not_not.1 a,h⟩)
structure Qz(j:bO):Prop where
 fw:TZ j
 e:ln j.rings.flatten<=8\/24<ln j.rings.flatten
theorem ur.rf(h:ur j):Qz j:=⟨h.fw,h.r.e⟩
def Gd{e:Ed}(h:fl e=O):qX ⟨e.oside,e.oleft,e.oright,e.olow,e.ohigh⟩:=by
 unfold fl kA at h;simp only[Bool.or_eq_false_iff,XL] at h;obtain⟨⟨⟨h1,h2⟩,⟨⟨a,c⟩,b⟩,d⟩,f⟩:=h;exact⟨by rw[af];exact di a,by rw[af];exact di c,by rw[af];exact di b,by rw[af];exact di d⟩
structure tW(j:bO):Prop where
 name:ln j.name<=1000000
 ops:∀o∈j.openings,qX o
 aq:∀x∈j.aq,ln x.weight<=50
 r:ln j.rings.flatten<=40
 e:ln j.rings.flatten<=8\/24<ln j.rings.flatten
theorem Ek{l:List g}{d:g}{i:Nat}(h:i<ln l):l.getD i d∈l:=by rw[pI h];exact List.getElem_mem h
theorem rz{l:List g}(d:g){x:g}(h:x∈l):∃i,i<ln l/\l.getD i d=x:=by
 obtain⟨i,hi,rfl⟩:=List.mem_iff_getElem.1 h;exact⟨i,hi,pI hi⟩
theorem tW.rf(h:tW j):Qz j:=⟨⟨h.name,by have:=h.r;omega,λ_ i hi=>h.ops _ (Ek hi),λi hi=>h.aq _ (Ek hi)⟩,h.e⟩
theorem vM.all(h:vM j):tW j:=by
 refine⟨h.gr.fw.name,λo a=> ?_,λx hx=> ?_,h.gr.r.f,h.gr.r.e⟩
 ·obtain⟨i,hi,rfl⟩:=rz fm a;exact h.gr.fw.ops h.o i hi
 ·obtain⟨i,hi,rfl⟩:=rz pO hx;exact h.gr.fw.aq i hi
theorem tW.WD{e:Ed}(h:tW j)(f:fl e=O):tW (bP j e):=by
 obtain⟨h1,h2,a,c,b⟩:=h;have i:=vh f;have g:tW j:=⟨h1,h2,a,c,b⟩;unfold bP xR
 repeat' refine SF (P:=tW) (λ_=> ?_) (λ_=> ?_)
 all_goals first
  |exact g
  |exact⟨h1,h2,a,c,b⟩
  |exact⟨by show ln e.text<=_;omega,h2,a,c,b⟩
  |exact⟨h1,h2,a,by show(df _ _ _).flatten.length<=_;rw[qD];exact c,by show(df _ _ _).flatten.length<=_\/_<(df _ _ _).flatten.length;rw[qD];exact b⟩
  |exact⟨h1,λo d=>(rm d).elim (h2 o) (λq=>q▸Gd f),a,c,b⟩
  |exact⟨h1,h2,λo d=>(rm d).elim (a o) (λq=>by rw[q];show ln e.lweight<=_;omega),c,b⟩
  |exact⟨h1,λo d=>h2 o (List.mem_of_mem_eraseIdx d),a,c,b⟩
  |exact⟨h1,h2,λo d=>a o (List.mem_of_mem_eraseIdx d),c,b⟩
end
section
open Kp
attribute [local go_sem] bJ gE fX gA gC fN fG fU fI gD gy dQ dO dR dn dq
attribute [local go_sem] aF dG
theorem qZ(h:p:=by
  go_enter func8,ntmps8;go_upto_region 1 with(fail)
  rw[<-HB.o];rw[gV HW];go_wp2_with(first
   |(go_at_call 23;refine(Q.o _ a' HX4.o HJ4.o).mono ?_;rintro ee W5 ⟨rfl,hX5⟩;have HX5:=A (HX4.o.tr hX5);have HR5:=A (C.o.ext HX5.o);have HC5:=A (HC4.o.ext hX5);have HJ5:=A (HV4.o.grow hX5);clear hX5)
   |(go_at_call 25;refine(KD.o _ HX2.o).mono ?_;rintro ee W3 ⟨a',rfl,hX3,hj3⟩;have HX3:=A (HX2.o.tr hX3);have HR3:=A (C.o.ext HX3.o);have hX4:Ext W3 ((W3.alloc (.cells (aM cn cT) 34)).setRow W3.heap.size (aM k a')):=al ((XI _ _).alloc (XE _) _) (XE _) _;have HC4:=A (show JC ((W3.alloc (.cells (aM cn cT) 34)).setRow W3.heap.size (aM k a')) W3.heap.size k a' from setRow_heap (XZ W3 _) _);have HX4:=A (HX3.o.tr hX4);have HV4:=A (hj3.grow hX4);have HJ4:=A (hj3.grow hX4).tofW;have HR4:=A (C.o.ext HX4.o);clear hX3 hj3 hX4)
   |(go_at_call 24;refine(KF.o _ HX1.o).mono ?_;rintro ee W2 ⟨rfl,L⟩;have HX2:=A (HX1.o.tr L);have HR2:=A (C.o.ext HX2.o);have HJ2:=A (HJ.o.ext HX2.o);have HZ2:=A (HZ.o.ext HX2.o);clear L)
   |(go_at_call 23;refine T.o.mono ?_;rintro ee W1 ⟨rfl,hX1⟩;have HX1:=A hX1;have HR1:=A (C.o.ext hX1);have HZ1:=A (HZ.o.ext hX1);clear hX1)
   |(refine wpList_load_row rfl 34 _ rfl _ rfl 34 _ (0,0) _ (by first|exact HJ.o|exact HJ2.o|exact HC4.o|exact HC5.o) XA rfl R ?_)
   |(refine wpList_load_row rfl 50 _ rfl _ rfl 50 _ (0,0) _ (by first|exact HZ1.o|exact HZ2.o) XB rfl R ?_)
   |(refine wpList_build rfl 34 _ rfl R ?_;rw[show Value.agg (Option.getD (Xz.built 34 _) #[])=YE (aM cn cT) from R])
   |(refine wpList_store_row rfl 34 _ _ rfl _ _ rfl rfl 34 (aM cn cT) (by first|exact HR1.o|exact HR2.o|exact HR4.o|exact HR5.o|exact XZ _ _) R R R ?_))
  refine bodyPost_ret (aX H _ _ _ _ H (setRow_heap (by first|exact HR1.o|exact HR2.o|exact HR4.o|exact HR5.o) _) R) H ?_
  first
   |exact n.o _ HX1.o
   |exact n.o _ HX2.o
   |exact n.o _ HX4.o
   |exact n.o _ HX5.o
   |exact aj.o _ a' HX5.o HJ5.o):p:=h
def Gm(w:U)(j:bO)(a:cO)(e:Ed)(f:Option Ym)(i:Nat){X:Nat->Prop}(ag:∀b,X b->b<w.heap.size)(hb:fP X w w.heap.size j a)(hg:aT w w.heap.size f i e.gaps)(ai:∀W,zI X w.heap.size w W->aT W W.heap.size f i e.gaps)
  (hr:Qz j)(hl:kU j=0->Fi j)(ae:kU j=0->Qz (bP j e))(hn:e.index<=9223372036854775807)(ht:bE w):
  XY Xz 8 #[YE (aM j a),YE (P e (V f (ln e.gaps) i))] w (oB X w (GJ j e) (bP j e)):=by
 obtain⟨B,t⟩:=gz w.heap.size;obtain⟨N,hW,hs,d,hJ,Z,hR,hv⟩:=iA w j a (P e (V f (ln e.gaps) i)) hb t;have L:∀W,Ext N W->∀b,SU X B b->b<W.heap.size:=λW h b q=>by have:=h.size;exact q.elim (λq=>by have:=ag b q;omega) (λq=>D)
 have ad:=hv.boxes hs;have ac:∀W,Ext N W->aT W W.heap.size f i e.gaps:=λW h=>(hg.below (d.tr h)).more (d.tr h).size
 have af:∀W,Ext N W->∀v,zI (SU X B) W.heap.size W v->aT v v.heap.size f i e.gaps:=λW h v hO=>ai v ⟨Ye (d.tr h).size hO.1,λb h1 h2=>(hO.2 b (Nat.lt_of_lt_of_le h1 (d.tr h).size) (λq=>q.elim h2 (λq=>D))).trans ((d.tr h).block b h1)⟩
 have ab:∀W,Ext N W->bE W:=λW h=>ht.below (d.tr h) (XE _)
 have KF:=A (λW (h:Ext N W)=>oF W e f i (ac W h));have T:=vk N j a (ad.tofW) hr.fw hr.e (ab N (Ext.ah _));have S:=λ(m:kU j=0) W (a':cO) (h:Ext N W) (hj:fW W W.heap.size (bP j e) a')=>vk W (bP j e) a' hj (ae m).fw (ae m).e (ab W h)
 have o:=λ(m:kU j=0) (hf:cV e=0) W (h:Ext N W)=>CV W j a e f i (L W h) (ad.grow h) (ac W h) (af W h) (zp hf) (hl m) (pE m).2.1 (pE m).2.2.2.1 (pE m).2.2.2.2 hn
 obtain⟨g,ah⟩:=aa (Value.slice f (ln e.gaps) i);rw[ah] at hW Z KF o⊢;have HW:=A hW;have C:=A hR;have HJ:=A hJ;have HZ:=A Z;have HB:=A t;have c:=λ(E:Int) (hE:E≠0) W (h:Ext N W)=>(jO (X:=X) (J:=bP j e) hE t (d.tr h) (aM cn cT):oB X w E (bP j e) (YC (YF #[YE (aM cn cT),G F E])) (W.setRow (B+1+1) (aM cn cT)))
 have l:=λW (a':cO) (h:Ext N W) (hj:fP (SU X B) W W.heap.size (bP j e) a')=>lY (X:=X) (E:=0) (J:=bP j e) (a':=a') t d h rfl hj (aM (bP j e) a')
 unfold GJ;obtain⟨x,hx⟩:=aa (kU j);obtain⟨y,hy⟩:=aa (cV e);obtain⟨z,s⟩:=aa (dj j e);obtain⟨u,hu⟩:=aa (kU (bP j e));simp only[hx,hy,s,hu] at T KF S o⊢;have T:=A T;clear hW hs hJ Z hR hv hb hr hl ae hn ht L ad ac af ab hg ai ag ah t d;by_cases O:x=0
 ·subst O;rw[XQ YK];have Q:=A (S H);clear S;by_cases K:y=0
  ·subst K;rw[XQ YK];obtain⟨k,r⟩:=aa (if z=0 then bP j e else cn);have KD:=A (λW h=>vo (o rfl rfl W h) r);clear o;by_cases I:z=0
   ·subst I;rw[XQ YK];rw[XT rfl] at r;rw[r] at Q l c⊢;by_cases M:u=0
    ·subst M;have aj:=A l;clear hx hy s hu r c l;exact qZ
    ·have tu:(u !=0)=Y:=Yn.2 M;have n:=A (c u M);clear hx hy s hu r c l M;exact qZ
   ·have tz:(z !=0)=Y:=Yn.2 I;rw[XT I];have n:=A (c z I);clear hx hy s hu r c l I Q;exact qZ
  ·have ty:(y !=0)=Y:=Yn.2 K;rw[XT K];have n:=A (c y K);clear hx hy s hu c l K Q o;exact qZ
 ·have tx:(x !=0)=Y:=Yn.2 O;rw[XT O];have n:=A (c 1 YK);clear hx hy s hu c l O S o;exact qZ
end
section
open Kp
attribute [local go_sem] aF dG gJ gL gK gM gN en ef eh dZ dk dt dY dd dP
def rM{s:K}(h:s≠[])(a:K):(tx s++(⟨#[32]⟩:ByteArray))++tx a=tx (jg s a):=by
 rw[show(⟨#[32]⟩:ByteArray)=tx [32] from rfl,Bv,Bv];unfold jg;rw[XQ h];simp
def Ov(s:K)(l:List Int)(x:Int):bt s (jD (l++[x]))=jg (bt s (jD l)) (Lib.itoa x):=by
 unfold jD;rw[List.map_append];exact nD _ _ _
def Kz{a:List K}{k:Nat}(h:¬js aC 0 (a.take k)=0):js aC 0 a=js aC 0 (a.take k):=by
 conv=>lhs;rw[<-List.take_append_drop k a]
 unfold js;rw[List.foldl_append];exact Rx _ h
def NH(e:Ed):(numsOf e).length<=4:=by
 unfold numsOf
 repeat' split
 all_goals simp
theorem LI{o:Obj}{l:List K}{a:K}(h:l[q]?=L a):((w.alloc o).alloc (.cells (l.map λa=>Value.string (tx a)).toArray 37)).cell? ⟨w.heap.size+1,q,I⟩=L (Yy (tx a)):=
 ((bw.N6 w o 37 (l.map λa=>Value.string (tx a))).cell q).trans (by rw[List.getElem?_map,h];rfl)
def Ub(n:Int):(YG (4<=n)&&YG (n<=7)||n==10||n==11)=j9 n:=by
 unfold j9;rw[Bool.eq_iff_iff];simp;omega
def Tv{n:Int}(h:j9 n=Y):Gr n=qB n/\(qB n).length<=10/\0<=n/\n<=12:=by
 unfold j9 at h;simp only[Bool.or_eq_true,Yg] at h;rcases h with((((h|h)|h)|h)|h)|h<;>rw[h]<;>decide
def CY(z:Int):(mE z).length<=10:=by
 unfold mE;rw[XJ];cases hx:dH[(z-1).toNat]? with
 |none=>simp
 |some x=>exact(show∀y∈dH,ln y<=10 by decide+kernel) x (List.mem_of_getElem? hx)
def Fk{e:Ed}(h:ln e.text<=1000):(bt [] (bj e)).length<=1100:=by
 have hk:=CY e.zkind;have a:(qB e.number).length<=10:=by
  unfold qB
  repeat' split
  all_goals decide
 unfold bj
 repeat' split
 all_goals simp[bt,jg]<;>omega
def PZ{e:Ed}(h:¬16<ln e.gaps):(aN e).length<=38:=by
 unfold aN
 repeat' split
 all_goals simp[vN]
 omega
def CN(w:U):XY Xz 33 #[] w λx w'=>∃g,x=YC (V (L ⟨g,0,I⟩) 12 12)/\ai w' g 9 (dH.map λa=> Yy (tx a))/\Ext w w':=by
 go_enter func33,ntmps33;go_wp2;go_ret;exact⟨w.heap.size,H,ai.new w 9 (dH.map λa=> Yy (tx a)),(XI _ _).alloc (XE _) _⟩
def FI(w:U)(e:Ed)(a:Option Ym)(b:Nat)(f:aT w w.heap.size a b e.gaps)(d:¬cV e=0):
  XY Xz 10 #[YE (P e (V a (ln e.gaps) b))] w (qv w (nZ aC e)):=by
 have k:=A (Ez d);have c:Yl w.heap.size w (w.alloc (.cells (P e (V a (ln e.gaps) b)) 50)):=(XI _ _).alloc (XE _) _;have l:=A (oF (w.alloc (.cells (P e (V a (ln e.gaps) b)) 50)) e a b ((f.below c).more YL));have m:(cV e !=0)=Y:=by rw[Yn];exact d
 have g:=A c;have j:=A (EC.new w (P e (V a (ln e.gaps) b)));clear f d c;go_enter func10,ntmps10;go_wp2_with(first
  |(refine wpList_load_row rfl 50 _ rfl _ rfl 50 _ (0,0) _ j.o XB rfl R ?_)
  |(go_at_call 24;refine l.o.mono ?_;rintro r W1 ⟨rfl,i⟩))
 go_ret2;rw[k.o];exact⟨H,g.o.trans (i.mono g.o.size)⟩
def Np(w:U)(e:Ed)(ga:Option Ym)(gc:Nat)(hg:aT w w.heap.size ga gc e.gaps)(bk:ja e)(bf:bE w)(hp:3<=w.heap.size)(hf:cV e=0):
  XY Xz 10 #[YE (P e (V ga (ln e.gaps) gc))] w (qv w (nZ aC e)):=by
 obtain⟨B,hB⟩:=gz w.heap.size;obtain⟨N,hW⟩:=aa (w.alloc (.cells (P e (V ga (ln e.gaps) gc)) 50));have aE:Ext w N:=hW▸(XI _ _).alloc (XE _) _;have E0:=A (show EC N B (P e (V ga (ln e.gaps) gc)) by rw[<-hW,hB];exact EC.new w _);have HG:=A (λW (h:Ext N W)=>((hg.below (aE.tr h)).more (aE.tr h).size:aT W W.heap.size ga gc e.gaps));have KF:=A (λW (h:Ext N W)=>(oF W e ga gc (HG.o W h)).mono λr w' h=>(⟨by rw[h.1,hf],h.2⟩:r=YC (G F 0)/\Ext W w'));obtain⟨ac,bg⟩:=Im hf;have KW:=A (zl e.kind ⟨D,ac.2⟩);have KI:=A (λW (h:Ext N W) C=>LG W e ga gc (HG.o W h) ac C);have ah:=A aE;have HW:=A hW;have HK:=A ac;have HU:=A bg;have aF:=A bk;have HP:=A bf;clear hg hW aE ac bg bk bf hf;go_enter func10,ntmps10;go_upto_region 1 with(fail)
 rw[<-hB];rw[show w.alloc (.cells (P e (V ga (ln e.gaps) gc)) 50)=N from HW.o];clear hB
 go_upto_block 0 with(first
  |(refine wpList_load_row rfl 50 _ rfl _ rfl 50 _ (0,0) _ E0.o XB rfl R ?_)
  |(go_at_call 24;refine(KF.o _ (Ext.ah _)).mono ?_;rintro r W1 ⟨rfl,aK⟩;have bB:=A aK;have E1:=A (E0.o.ext aK);have bl:=λi=>E1.o.cell i;clear aK)
  |(go_at_call 31;refine(KW.o _).mono ?_;rintro r W2 ⟨rfl,aM⟩;have ad:=A (bB.o.tr aM);have E2:=A (E1.o.ext aM);have bn:=λi=>E2.o.cell i;clear aM))
 go_cut [5] (λs5 wx=>s5=Yy (tx (bt [] (bj e)))/\Ext N wx/\¬(e.kind=1/\kH e.text=O)/\¬((e.kind=6/\(e.zkind<1\/12<e.zkind))\/(e.kind=12/\j9 e.number=O))/\¬16<ln e.gaps)
 case first =>
  obtain⟨s,Z⟩:=aa (Gr e.kind);obtain⟨X,ab⟩:=HK.o;have ac:e.kind=0\/e.kind=1\/e.kind=2\/e.kind=3\/e.kind=4\/e.kind=5\/e.kind=6\/e.kind=7\/e.kind=8\/e.kind=9\/e.kind=10\/e.kind=11\/e.kind=12:=D;have az:ln s<=10/\s≠[]\/e.kind=0:=by
   rw[<-Z];rcases ac with h|h|h|h|h|h|h|h|h|h|h|h|h<;>rw[h]<;>decide
  obtain⟨az,aq⟩:=az.resolve_right D;have am:=A aq;have aA:=A (show bj e=s::(if e.kind=1 then [e.text] else if e.kind=6 then [mE e.zkind] else if e.kind=12 then [qB e.number] else []) by
   rw[<-Z];unfold bj;rcases ac with h|h|h|h|h|h|h|h|h|h|h|h|h
   ·omega
   all_goals rw[h];rfl)
  have aI:=A (λh7:e.kind≠7=>(λh=>h7 (zf HU.o D):¬16<ln e.gaps));rw[Z];clear Z ac aq;by_cases z:e.kind=1
  ·obtain⟨b,j⟩:=aa (kH e.text);have bM:ln e.text<=1000:=aF.o.text;have KN:=A (λW=>(tF e.text W D).mono λr w' h=>(⟨by rw[h.1,j],h.2.symm⟩:r=YC (Yz b)/\W=w'));cases b
   ·have S:=A (show nZ aC e=([],13) by unfold nZ;rw[XQ D,XQ (λx=>x HU.o),XT ⟨z,j⟩]);clear j X ab;go_wp2_with(go_at_call 32;refine(KN.o _).mono ?_;rintro r W3 ⟨rfl,rfl⟩)
    go_ret2;rw[S.o];exact⟨H,ah.o.tr ad.o⟩
   ·have c1:¬9223372036854775807<ln s+1:=D;have c2:¬9223372036854775807<ln s+1+ln e.text:=D;have HB:=A (show¬(e.kind=1/\kH e.text=O) by rw[j];simp);clear j X ab;go_wp2_with(go_at_call 32;refine(KN.o _).mono ?_;rintro r W3 ⟨rfl,rfl⟩)
    go_meet;rw[rM am.o,aA.o,XT z];exact⟨H,ad.o,HB.o,D,aI.o D⟩
  have ag:=A (show¬(e.kind=1/\kH e.text=O) fromλh=>z h.1);have k1:(e.kind==1)=O:=XN.2 z;have aJ:=A z;clear z;by_cases h6:e.kind=6
  ·by_cases aj:e.zkind<1
   ·have S:=A (show nZ aC e=([],8) by unfold nZ;rw[XQ D,XQ (λx=>x HU.o),XQ ag.o,XT (.inl ⟨h6,.inl aj⟩)]);have t1:YG (e.zkind<1)=Y:=Yb aj;clear aj X ab;exact a3p
   have t1:YG (e.zkind<1)=O:=XU aj;by_cases ao:12<e.zkind
   ·have S:=A (show nZ aC e=([],8) by unfold nZ;rw[XQ D,XQ (λx=>x HU.o),XQ ag.o,XT (.inl ⟨h6,.inr ao⟩)]);have t2:YG (e.zkind>12)=Y:=Yb ao;clear aj ao X ab;exact a3p
   ·have t2:YG (e.zkind>12)=O:=XU ao;have HZ:=A (show¬((e.kind=6/\(e.zkind<1\/12<e.zkind))\/(e.kind=12/\j9 e.number=O)) by omega);obtain⟨m,hm⟩:∃m:Nat,e.zkind=(m:Int)+1:=⟨(e.zkind-1).toNat,D⟩;have bq:m<12:=D;have bx:=A (show dH.getD m []=mE e.zkind by unfold mE;rw[hm];congr 1;omega);have HC:=A (λW g (h:ai W g 9 (dH.map λa=> Yy (tx a)))=>(by rw[h.cell,<-bx.o,List.getElem?_map,XJ,XO (show m<ln dH from bq)];rfl:W.cell? ⟨g,m,I⟩=L (Yy (tx (mE e.zkind)))));have e1:(m:Int)<12:=D;have w1:F.wrap (m:Int)=(m:Int):=Yh _ D;have c1:¬9223372036854775807<ln s+1:=D;have aB:=CY e.zkind;have bL:∀W,Ext W2 W->W.cell? ⟨B,14,I⟩=L (G F ((m:Int)+1)):=λW h=>((E2.o.ext h).cell 14).trans (by rw[dk,hm])
    obtain⟨a,E⟩:=aa (mE e.zkind);rw[E] at HC aB;have HA:=A E;have c2:¬9223372036854775807<ln s+1+ln a:=D;clear aj ao X ab E aB;go_upto_region 12 with fail
    go_region_with(first|(go_at_call 33;refine(CN _).mono ?_;rintro ee W3 ⟨g,rfl,M,av⟩;have bd:Ext W2 W3:=(Ext.dr W2).tr av;have hc:=HC.o _ _ M))
    all_goals go_wp2
    all_goals go_meet
    all_goals
     rw[rM am.o,aA.o,XQ aJ.o,XT h6,HA.o];exact⟨H,ad.o.tr bd,ag.o,HZ.o,aI.o D⟩
  have k6:(e.kind==6)=O:=XN.2 h6;have ar:=A h6;clear h6;by_cases ae:e.kind=12
  ·obtain⟨b,j⟩:=aa (j9 e.number);have KL:=A (λW=>((gh e.number W).mono λr w' h=>⟨by rw[h.1,Ub,j],h.2.symm⟩:XY Xz 34 #[G F e.number] W λr w'=>r=YC (Yz b)/\W=w'));cases b
   ·have S:=A (show nZ aC e=([],8) by unfold nZ;rw[XQ D,XQ (λx=>x HU.o),XQ ag.o,XT (.inr ⟨ae,j⟩)]);clear j X ab;go_wp2_with(go_at_call 34;refine(KL.o _).mono ?_;rintro r W3 ⟨rfl,rfl⟩)
    go_ret2;rw[S.o];exact⟨H,ah.o.tr ad.o⟩
   ·obtain⟨a,E⟩:=aa (qB e.number);obtain⟨aP,a5,a7⟩:=Tv j;rw[E] at aP a5;have KA:=A (λW=>aP▸zl e.number a7 W);have HA:=A E;have HB:=A j;have c1:¬9223372036854775807<ln s+1:=D;have c2:¬9223372036854775807<ln s+1+ln a:=D;clear j X ab E aP a5 a7;go_wp2_with(first
     |(go_at_call 34;refine(KL.o _).mono ?_;rintro r W3 ⟨rfl,rfl⟩)
     |(go_at_call 31;refine(KA.o _).mono ?_;rintro r W4 ⟨rfl,aD⟩))
    go_meet;rw[rM am.o,aA.o,XQ aJ.o,XQ ar.o,XT ae,HA.o];exact⟨H,ad.o.tr aD,ag.o,λh=>h.elim (λy=>ar.o y.1) (λy=>by have:=y.2.symm.trans HB.o;cases this),aI.o D⟩
  ·have bH:(e.kind==12)=O:=XN.2 ae;have a9:=A ae;by_cases C:16<ln e.gaps
   ·have S:=A (show nZ aC e=([],4) by unfold nZ;rw[XQ D,XQ (λx=>x HU.o),XQ ag.o,XQ (λx=>x.elim (λy=>ar.o y.1) (λy=>ae y.1)),XT C]);have t1:YG ((ln e.gaps:Int)>16)=Y:=Yb D;have t2:YG (16<ln e.gaps)=Y:=Yb C;clear ae X ab C;exact a3p
   ·have t1:YG ((ln e.gaps:Int)>16)=O:=XU D;have t2:YG (16<ln e.gaps)=O:=XU C;have ba:=A C;clear ae X ab C;go_wp2;go_meet;rw[aA.o,XQ aJ.o,XQ ar.o,XQ a9.o];exact⟨H,ad.o,ag.o,λh=>h.elim (λy=>ar.o y.1) (λy=>a9.o y.1),ba.o⟩
 case rest=>
  obtain⟨rfl,aQ,z,hz,C⟩:=hcut;have S:=A (wb HK.o HU.o z hz C);have ba:=A C;obtain⟨s,Z⟩:=aa (bt [] (bj e));have az:=Fk (e:=e) aF.o.text;have aq:s≠[]:=by
   obtain⟨b,w',ws,hh⟩:=wZ e;rw[<-Z,hh,gX];exact oE (by unfold jg;rw[XT rfl];simp) _
  rw[Z] at az⊢;have HS:=A Z;have am:=A aq;obtain⟨l,hl⟩:=aa (aN e);have bC:=PZ (e:=e) C;have bo:=A (λW h=>hl▸KI.o W h D);have bu:=A (show∀n∈l,aZ n from hl▸aF.o.ints);rw[hl] at bC;have HL:=A hl;have bc:=A aQ;have bF:=A (E0.o.ext aQ);clear bl bn z hz C Z aq hl aQ;go_wp2_with(first
   |(refine wpList_load_row rfl 50 _ rfl _ rfl 50 _ (0,0) _ bF.o XB rfl R ?_)
   |(go_at_call 35;refine(bo.o _ bc.o).mono ?_;rintro r W3 ⟨bN,c,rfl,aX,av⟩;have aG:=A (bc.o.tr av);have aH:=A aX;clear av aX))
  go_loopw [5,7] (λt i wr=>∃k:Nat,k<=ln l/\i=G F (k:Int)/\t=Yy (tx (bt s (jD (l.take k))))/\Ext W3 wr/\∀n∈l.take k,pS n=O) (λ_ i _=>((ln l:Int)-Yf i).toNat)
  case atStart=>exact⟨0,Nat.zero_le _,H,H,Ext.ah _,λn h=>YM⟩
  case round=>
   obtain⟨k,aB,rfl,rfl,J,K⟩:=hrel;have HX:=A J;have aR:=A K;have aU:(bt s (jD (l.take k))).length<=2000:=by
    have:=iH (l:=l.take k) (λn z=>bu.o n (List.mem_of_mem_take z)) s;rw[List.length_take] at this;omega
   by_cases u:k<ln l
   ·obtain⟨b,off,rfl,j,hc⟩:=aH.o.2.2 (by rw[XP];omega);obtain⟨x,hx⟩:=aa (l[k]);have aw:=(J.cell j).trans (hc k (by rw[XP];exact u) 0 YK);rw[je u,Nat.one_mul,Nat.add_zero,pI u,hx] at aw;have e1:(k:Int)<(ln l:Int):=D;have bD:=aH.o.2.1;have bw:=aH.o.1;rw[XP] at bw;unfold Yk at bD;have bA:=A (show x∈l from hx▸List.getElem_mem u);have an:=A (show l.take (k+1)=l.take k++[x] by rw[<-hx];exact jd u);by_cases ho:pS x=Y
    ·have bm:=A (show nZ aC e=([],2) by
      have:fY 0 (aN e)=2:=by rw[HL.o];unfold fY;rw[XT (List.any_eq_true.2 ⟨x,bA.o,ho⟩)]
      rw[S.o,this];rfl)
     obtain⟨p,hp⟩:=aa (YG (x< -1073741824));have Q:p=O->YG (x>1073741824)=Y:=λh=>by
      unfold pS at ho;rw[hp,h] at ho;simpa using ho
     clear ho J K hx hc;cases p
     case' false=>have Q:=Q H
     all_goals
      go_wp2;go_ret2;rw[bm.o];exact⟨H,ah.o.tr (aG.o.tr HX.o)⟩
    ·have bv:=A (Bool.not_eq_true _▸ho:pS x=O);have a1:¬x< -1073741824:=λh=>ho (by unfold pS;rw[Yb h];rfl)
     have bb:¬1073741824<x:=λh=>ho (by unfold pS;rw[Yb h,Bool.or_true])
     have t1:YG (x< -1073741824)=O:=XU a1;have t2:YG (x>1073741824)=O:=XU bb;have KD:=A (Ox x D D);have bG:(Lib.itoa x).length<=21:=Lib.itoa_length_le x D D;obtain⟨d,hd⟩:=aa (Lib.itoa x);obtain⟨r,M⟩:=aa (bt s (jD (l.take k)));rw[hd] at bG KD;rw[M] at aU⊢;have a0:r≠[]:=M▸oE am.o _;have aW:=A (show tx r++(⟨#[32]⟩:ByteArray)++tx d=tx (bt s (jD (l.take (k+1)))) by rw[an.o,Ov,M,hd,rM a0]);have c1:¬9223372036854775807<ln r+1:=D;have c2:¬9223372036854775807<ln r+1+ln d:=D;clear ho a1 bb J K hx hc hd M a0;go_wp2_with(go_at_call 36;refine(KD.o _).mono ?_;rintro r W4 ⟨rfl,aD⟩;have ak:=A (HX.o.tr aD);clear aD)
     refine⟨⟨k+1,u,YL,by rw[aW.o],ak.o,λn z=> ?_⟩,YO⟩;rw[an.o] at z;rcases List.mem_append.1 z with h|h
     ·exact aR.o n h
     ·rw[List.mem_singleton.1 h];exact bv.o
   ·obtain rfl:k=ln l:=D;obtain⟨wa,br⟩:=gz wr;subst br;rw[List.take_length] at aU aR⊢;have aO:=A (show nZ aC e=if¬js aC 0 (numsOf e)=0 then([],js aC 0 (numsOf e)) else(bt [] (cE e),0) by
     have:fY 0 (aN e)=0:=by
      rw[HL.o];unfold fY;rw[XQ];rw[List.any_eq_true];rintro⟨n,h1,h2⟩;have:=h2.symm.trans (aR.o n h1);cases this
     rw[S.o,this];rfl)
    obtain⟨r,M⟩:=aa (bt s (jD l));rw[M] at aU⊢;have bs:=A (show r≠[] from M▸oE am.o _);have bh:=A (show bt [] (cE e)=bt r (numsOf e) by unfold cE;rw[kM,kM,HS.o,HL.o,M]);have bi:=aF.o.nums;have h4:=NH e;obtain⟨f,T⟩:=gz (numsOf e);rw[<-T] at bi h4 aO bh;have aY:=A bi;have E5:=A (E0.o.ext (aG.o.tr J));have bK:=λi=>(E5.o.alloc (.cells #[] 37)).cell i
    have bp:=A (λW (h:Ext wa W)=>HP.o.below (ah.o.tr ((aG.o.tr HX.o).tr h)) (XE _));have HA:=A (λW (h:Ext wa W)=>ah.o.tr ((aG.o.tr HX.o).tr h));clear J K M;rcases(show e.kind=5\/e.kind=10\/(e.kind≠5/\e.kind≠10) by omega) with hk|hk|⟨hk,a6⟩
    case' inl=>
     have bI:=λi=>((E5.o.alloc (.cells #[] 37)).alloc (.cells #[Yy (tx e.oleft),Yy (tx e.oright),Yy (tx e.olow),Yy (tx e.ohigh)] 37)).cell i
     simp[numsOf,hk] at T;have a2:ln f=4:=by rw[T];rfl
     have aL:=A (λk (h:k<ln f)=>(by omega:(k:Int)<4/\k<4))
    case' inr.inl=>
     simp[numsOf,hk] at T;have a2:ln f=1:=by rw[T];rfl
     have aL:=A (λk (h:k<ln f)=>(by omega:(k:Int)<1/\k<1))
    case' inr.inr=>
     have k5:(e.kind==5)=O:=XN.2 hk;have bJ:(e.kind==10)=O:=XN.2 a6;simp[numsOf,hk,a6] at T;have a2:ln f=0:=by rw[T];rfl
     have aL:=A (λk (h:k<ln f)=>(by omega:(k:Int)<0/\k<0))
    all_goals
     have bz:=A T;clear T;go_wp2;go_loopw [5,9,10] (λt i er wx=>∃k:Nat,k<=ln f/\i=G F (k:Int)/\t=Yy (tx (bt r (f.take k)))/\Ext wa wx/\js aC 0 (f.take k)=0/\∀q a,f[q]?=L a->wx.cell? ⟨wa.heap.size+1,q,I⟩=L (Yy (tx a))) (λ_ i _ _=>((ln f:Int)-Yf i).toNat)
     case atStart=>
      refine⟨0,Nat.zero_le _,H,H,?_,H,λq a Q=> ?_⟩
      ·first
        |exact(XI _ _).alloc (XE _) _
        |exact((XI _ _).alloc (XE _) _).alloc YL _
      ·rw[bz.o] at Q;have h1:=LI (w:=wa) (o:= .cells #[] 37) Q
       first
        |exact h1
        |cases Q
     case round=>
      obtain⟨k,aB,rfl,rfl,J,K,ap⟩:=hrel;by_cases u:k<ln f
      ·obtain⟨a,E⟩:∃a,f[k]?=L a:=⟨_,XO u⟩;have a3:ln a<=1000:=aY.o a (List.mem_of_getElem? E);have aw:=ap k a E;have be:=A ap;have ak:=A J;have an:=A (show f.take (k+1)=f.take k++[a] by rw[jd u,(List.getElem?_eq_some_iff.1 E).2]);have ay:=A (show js aC 0 (f.take (k+1))=aC a by rw[an.o,zu,XT K]);obtain⟨e1,e2⟩:=aL.o k u;have KC:=A (Ah a▸qL (tx a) wr ZB (bp.o _ J));obtain⟨v,hv⟩:=aa (aC a);rw[hv] at KC ay;by_cases h0:v=0
       ·subst h0;have aV:=qi (l:=f.take k) (m:=1000) (λb j=>aY.o b (List.mem_of_mem_take j)) r;rw[List.length_take] at aV;obtain⟨s2,au⟩:=aa (bt r (f.take k));rw[au] at aV⊢;have a8:s2≠[]:=au▸oE bs.o _;have aW:=A (show tx s2++(⟨#[32]⟩:ByteArray)++tx a=tx (bt r (f.take (k+1))) by rw[an.o,nD,au,rM a8]);have c1:¬9223372036854775807<ln s2+1:=D;have c2:¬9223372036854775807<ln s2+1+ln a:=D;have a4:=A u;clear K ap J E au a8 hv u aV a3;go_wp2_with(go_at_call 37;refine KC.o.mono ?_;rintro r W5 ⟨rfl,al⟩;have bO:=(al.cell (World.block_lt_of_cell? _ _ aw)).trans aw;have ax:=A al;clear al)
        all_goals refine⟨⟨k+1,a4.o,YL,by rw[aW.o],ak.o.tr ax.o,ay.o,λq b Q=>(ax.o.cell (World.block_lt_of_cell? _ _ (be.o q b Q))).trans (be.o q b Q)⟩,by have:=a4.o;simp[Yf];omega⟩
       ·have Q:(v !=0)=Y:=Yn.2 h0;have aS:=A (show nZ aC e=([],v) by
         have h9:js aC 0 f=v:=by rw[Kz (k:=k+1) (by rw[ay.o];exact h0),ay.o]
         rw[aO.o,h9,XT h0])
        clear K ap J E hv u a3 h0;go_wp2_with(go_at_call 37;refine KC.o.mono ?_;rintro r W5 ⟨rfl,al⟩;have ax:=A al;clear al)
        all_goals
         go_ret2;rw[aS.o];exact⟨H,(HA.o _ ak.o).tr ax.o⟩
      ·obtain rfl:k=ln f:=D;rw[List.take_length] at K⊢;have aS:=A (show nZ aC e=(bt r f,0) by rw[aO.o,XQ (by rw[K];simp),bh.o]);have ak:=A (HA.o _ J);clear K ap J u;go_wp2;go_ret2;rw[aS.o];exact⟨H,ak.o⟩
def Lc(w:U)(e:Ed)(a:Option Ym)(b:Nat)(c:aT w w.heap.size a b e.gaps)(g:ja e)(h:bE w)(f:3<=w.heap.size):
  XY Xz 10 #[YE (P e (V a (ln e.gaps) b))] w (qv w (nZ aC e)):=by
 by_cases d:cV e=0
 ·exact Np w e a b c g h f d
 ·exact FI w e a b c d
end
section
open Kp
attribute [local go_sem] bJ aF
def rH{n:Nat}(h:fH n=O):n<=700:=by
 unfold fH at h;simp only[Bool.or_eq_false_iff,Bool.and_eq_false_iff,XL] at h;omega
def Ff{e:Ed}(h:fl e=O):∀a∈numsOf e,ln a<=700:=by
 unfold fl kA at h;simp only[Bool.or_eq_false_iff,XL] at h;obtain⟨⟨⟨h1,h2⟩,⟨⟨b,d⟩,c⟩,f⟩,g⟩:=h;unfold numsOf;split
 ·exact mL (rH b) (mL (rH d) (mL (rH c) (mL (rH f) (vK _))))
 ·split
  ·exact mL D (vK _)
  ·exact vK _
def EJ{e:Ed}(h:fl e=O)(hi:∀n∈aN e,aZ n):ja e:=
 ⟨hi,λa b=>by have:=Ff h a b;omega,by have:=(vh h).1;omega⟩
theorem SG(h:ur j):sB j:=
 ⟨by have:=h.name;omega,by have:=h.r.f;omega,λb o a=>by obtain⟨i,hi,rfl⟩:=rz fm a;exact Hj (h.V9 b i hi),
  λx hx=>by obtain⟨i,hi,rfl⟩:=rz pO hx;have:=h.l.w i hi;omega⟩
theorem Ja(h:ur j)(a:kU j=0):vM j:=by
 refine⟨h,Classical.byContradiction λc=> ?_⟩;have h1:=(pE a).2.2.1;have b:gS j.openings=(O,4):=by unfold gS;rw[XT D]
 unfold lH at h1;rw[b,XT YK] at h1;exact absurd h1 YK
theorem VK{e:Ed}(h:ur j)(b:fl e=O)(hi:e.index<=9223372036854775807):T2 j e:=
 ⟨SG h,λa=>(Ja h a).ln,λa=>(SG h).WD (Ja h a).o b,hi⟩
def wP (w : U) (j : bO) (a : cO) (e : Ed) (l : Option Ym) (m : Nat) (K : fW w w.heap.size j a) (aw : aT w w.heap.size l m e.gaps) (ao : ln j.rings.flatten <= 4000000000) (au : ∀ n ∈ aN e, aZ n) (ab : e.index <= 9223372036854775807) (hg : Gl w) (hB : 9 <= w.heap.size) :
    XY Xz 3 #[YE (aM j a), YE (P e (V l (ln e.gaps) m))] w λr w' => r =YC (Yz Y) /\ Ext w w' := by
  obtain ⟨v, D⟩ : ∃ v, Value.slice l (ln e.gaps) m = v := ⟨_, H⟩;have HV := A D;rw [D];have i : Ext w ((w.alloc (.cells (aM j a) 34)).alloc (.cells (P e v) 50)) := ((XI _ _).alloc (XE _) _).alloc YL _;have B : JC ((w.alloc (.cells (aM j a) 34)).alloc (.cells (P e v) 50)) w.heap.size j a := JC.ext (XZ w _ : JC (w.alloc (.cells (aM j a) 34)) w.heap.size j a) ((XI _ _).alloc (XE _) (.cells (P e v) 50));have M : EC ((w.alloc (.cells (aM j a) 34)).alloc (.cells (P e v) 50)) (w.heap.size + 1) (P e v) := by
    have := EC.new (w.alloc (.cells (aM j a) 34)) (P e v);rw [Ya] at this;exact this
  obtain ⟨c, Z⟩ : ∃ c, (w.alloc (.cells (aM j a) 34)).alloc (.cells (P e v) 50) = c := ⟨_, H⟩;rw [Z] at i B M;have aq := A Z;have i := A i;have B := A B;have HB := A (λW (h : Ext c W) => K.grow (i.o.tr h));have s := A (λW (h : Ext c W) => (aw.below (i.o.tr h)).more (i.o.tr h).size);have o := A (λW (h : Ext c W) => hg.keep (i.o.tr h) hB);have HS := A (λW (h : Ext c W) => Ye hB (i.o.tr h).size);have k := A (λW (h : Ext c W) => JC.ext B.o h);have y := A (λW (h : Ext c W) => (show EC W (w.heap.size + 1) (P e v) from (h.block _ M.lt).trans M));have KG := A (CO c j a (HB.o _ (Ext.ah _)) ao);have KE := A (λW => xu W e l m);have KA := A (λW (h : Ext c W) => Ju W (o.o W h) (HS.o W h));have ax := A au;rw [D] at KE;clear K aw hg Z ao D M au;go_enter func3, ntmps3;go_wp2_with (first
    | (go_at_call 4; fail)
    | (rw [aq.o]; refine wpList_load_row H 34 _ H _ H 34 _ (0, 0) _ B.o XA H R ?_))
  try rw [aq.o]
  refine KG.o.mono ?_;rintro r1 W1 ⟨⟨b1, rfl, h1⟩, ae⟩;have X1 := A ae;have H1 := A h1;have D1 := A (y.o W1 ae);clear ae h1;cases b1
  case true =>
    go_wp2_with (go_at_call 6; refine (KA.o _ X1.o).mono ?_; rintro r2 W2 ⟨rfl, O⟩)
    go_ret;exact ⟨H, i.o.tr (X1.o.tr O)⟩
  have F := A (H1.o (by first | rfl | trivial));go_wp2_with (first
    | (go_at_call 5; fail)
    | (refine jQ Zb _ rfl _ rfl _ D1.o R ?_))
  refine (KE.o _).mono ?_;rintro r2 W2 ⟨rfl, O⟩;have u := A (X1.o.tr O);have D2 := A (y.o W2 u.o);have J2 := A (k.o W2 u.o);clear O;obtain ⟨g, af⟩ : ∃ g, fl e = g := ⟨_, H⟩;rw [af];have aa := A af;clear af;cases g
  case true =>
    go_wp2_with (go_at_call 6; refine (KA.o _ u.o).mono ?_; rintro r3 q ⟨rfl, G⟩)
    go_ret;exact ⟨H, i.o.tr (u.o.tr G)⟩
  have AO := A (VK F.o aa.o ab);have SZ := A (EJ aa.o ax.o);have VB := A (λW (h : Ext c W) => ((HB.o W h).v (XE _) (λ_ _ h => h) : fP (λ_ => False) W W.heap.size j a));have VG := A (λW (h : Ext c W) ac (hO : zI (λ_ => False) W.heap.size W ac) => (((s.o W h).off hO.1 λb K => hO.2 b K id).more hO.1 : aT ac ac.heap.size l m e.gaps));have I := A (λW (h : Ext c W) => ye W j a e l m (VB.o W h) (s.o W h) (VG.o W h) (λ_ h => h.elim) AO.o (o.o W h).maxl (o.o W h).pow);have E := A (show ∀ W, Ext c W -> XY Xz 8 #[YE (aM j a), YE (P e (V l (ln e.gaps) m))] W (sR (λ_ => False) W j e) fromλW h => Gm W j a e l m (λ_ h => h.elim) (VB.o W h) (s.o W h) (VG.o W h) F.o.rf (λh0 => (Ja F.o h0).ln) (λh0 => ((Ja F.o h0).all.WD aa.o).rf) ab (o.o W h).pow);have X := A (λW (h : Ext c W) => E9 W j a e l m (HB.o W h) (s.o W h) AO.o (o.o W h).maxl (o.o W h).pow);have T := A (λW (h : Ext c W) => DF W e l m (s.o W h) SZ.o (o.o W h) (HS.o W h));have J := A (λW (h : Ext c W) => Lc W e l m (s.o W h) SZ.o (o.o W h).pow (Ye YK (HS.o W h)));rw [HV.o] at I E X T J;obtain ⟨⟨t, f⟩, ht⟩ : ∃ p, nZ aC e = p := ⟨_, H⟩;obtain ⟨j', ap⟩ : ∃ x, IC j e = x := ⟨_, H⟩;obtain ⟨z, hz⟩ : ∃ x, GJ j e = x := ⟨_, H⟩;unfold sR at I E;unfold qv at T J;simp only [ap, hz] at I E X;simp only [ht] at T J;have tz : (z == z) = Y := Yt z;have tf : (f == f) = Y := Yt f;have tt : (tx t == tx t) = Y := by rw [jJ]; exact Yb H
  clear ht ap hz VB VG ab;go_wp2_with (first
    | (go_at_call 8; fail)
    | (go_at_call 7; refine (I.o _ u.o).mono ?_; rintro r3 q ⟨a', rfl, G, aj⟩; have X3 := A (u.o.tr G); have B3 := A aj.tofW; clear G aj)
    | (refine wpList_load_row rfl 34 _ rfl _ rfl 34 _ (0, 0) _ (by first | exact J4.o | exact J2.o) XA rfl R ?_)
    | (refine wpList_load_row rfl 50 _ rfl _ rfl 50 _ (0, 0) _ (by first | exact D4.o | exact D2.o) XB rfl R ?_)
    | (refine wpList_store_row rfl 34 _ _ rfl _ _ rfl rfl 34 _ (XZ q _) R R R ?_
       generalize ag : World.setRow _ q.heap.size (aM j' a') = S;have an := A (show Ext q S by rw [<- ag]; exact al ((XI _ _).alloc (XE _) _) (XE _) _);have N4 := A (show JC S q.heap.size j' a' by unfold JC; rw [<- ag]; exact setRow_heap (XZ q _) _);have L := A (X3.o.tr an.o);have J4 := A (k.o S L.o);have D4 := A (y.o S L.o);clear ag))
  refine (E.o _ L.o).mono ?_;rintro r5 C ⟨a2, rfl, ai, av⟩;have am := A ai;have X5 := A (L.o.tr ai);have B5 := A av.tofW;clear ai av;go_wp2_with (first
    | (go_at_call 6; refine (KA.o _ Xa.o).mono ?_; rintro rb Wb ⟨rfl, d⟩; have Xb := A (Xa.o.tr d); clear d)
    | (go_at_call 12; refine (X.o _ N.o).mono ?_; rintro ra Wa ⟨rfl, d⟩; have Xa := A (N.o.tr d); clear d)
    | (go_at_call 11; refine (Kl W8 j' a' a2 (B3.o.grow (an.o.tr (am.o.tr ah.o))) (B5.o.grow ah.o)).mono ?_; rintro r9 W9 ⟨rfl, d⟩; have N := A (X8.o.tr d); have J9 := A (k.o W9 N.o); have D9 := A (y.o W9 N.o); clear d)
    | (go_at_call 10; refine (J.o _ X7.o).mono ?_; rintro r8 W8 ⟨rfl, d⟩; have ah := A (ar.o.tr (ak.o.tr d)); have X8 := A (X7.o.tr d); have N8 := A (JC.ext N4.o (am.o.tr ah.o)); have M8 := A (JC.ext M6.o (ak.o.tr d)); clear d)
    | (go_at_call 9; refine (T.o _ X6.o).mono ?_; rintro r7 W7 ⟨rfl, d⟩; have ak := A (show Ext Q W7 from d); have X7 := A (X6.o.tr d); have D7 := A (y.o W7 X7.o); clear d)
    | (refine cW Zb _ rfl _ rfl _ J9.o R ?_)
    | (refine jQ Zb _ rfl _ rfl _ D9.o R ?_)
    | (refine wpList_load_row rfl 34 _ rfl _ rfl 34 _ (0, 0) _ (by first | exact N8.o | exact M8.o) XA rfl R ?_)
    | (refine wpList_load_row rfl 50 _ rfl _ rfl 50 _ (0, 0) _ (by first | exact D7.o | exact D6.o) XB rfl R ?_)
    | (refine wpList_store_row rfl 34 _ _ rfl _ _ rfl rfl 34 _ (XZ C _) R R R ?_
       generalize ad : World.setRow _ C.heap.size (aM j' a2) = Q;have ar := A (show Ext C Q by rw [<- ad]; exact al ((XI _ _).alloc (XE _) _) (XE _) _);have M6 := A (show JC Q C.heap.size j' a2 by unfold JC; rw [<- ad]; exact setRow_heap (XZ C _) _);have X6 := A (X5.o.tr ar.o);have D6 := A (y.o Q X6.o);clear ad))
  go_ret;exact ⟨H, i.o.tr Xb.o⟩
end
end Go.Proofs.YtnepbjnlmkppmaaGreatDoor

