/- ChangeApplies of kingpostlaw58: part 9 of its proof (merged and shortened by program). -/
import Derived.Laws.ResultCell
import Derived.Test.YtnepbjnlmkppmaaGreatDoorP06
import Derived.Test.YtnepbjnlmkppmaaGreatDoorP07
import Derived.Test.YtnepbjnlmkppmaaGreatDoorP16
import Derived.Test.YtnepbjnlmkppmaaGreatDoorP19
set_option linter.unusedVariables false
set_option linter.unusedSimpArgs false
set_option linter.defProp false
set_option maxHeartbeats 8000000
set_option maxRecDepth 100000
open Go.RowKit Go.Shelf Go.Proofs.Tryz
open Bool renaming true→Y
open Go renaming World→U,Value→Z,Calls→XY,maxLen→Yk,Addr→Ym
open Go.AllReady renaming cons→Yi,nil→Yo
open Go.Ending renaming returned→YC
open Go.IntKind renaming i64→F
open Go.Lib renaming hid→A
open Go.Proofs.Tryz renaming prog→Xz,underlying50→XB
open Go.RowKit renaming Below→Yl
open Go.Value renaming slice→V,bool→Yz,int→G,agg→YE
open List renaming length→ln
open Nat renaming le_refl→XE
open Option renaming none→I
open Go.Proofs.YtnepbjnlmkppmaaGreatDoor
variable{c:Array Z}{d:Bool}{a b:Int}{k q i:Nat}{o g:Option Ym}{p:Prop}{w W:U}
namespace Go.Proofs.YtnepbjnlmkppmaaGreatDoor
section
open Kp
attribute [local go_sem] aF dG eV gJ il gL gK gM gN gW gZ en ef eh dZ dk eL eP dW dX dU dV eo dt eH eI dY eO eR eK eB eM ff eY fe eZ dd dP gH j8 km jv
def F9(w:U)(B:Nat):aT w B I 0 []:=⟨XE _,YR,λh=>absurd h YL⟩
def BA(w:U)(e:Ed)(r:Ending)(w':U):Prop:=∃g a,r=YC (YE (P (eu e) (V g (eu e).gaps.length a)))/\aT w' w'.heap.size g a (eu e).gaps/\Yl w.heap.size w w'
def UP{a k:Int}(h:a=k)(n:Int):(a==n)=(k==n):=by rw[h]
def Xk(k:Int)(e:Ed):Ed:={eu {e with kind:=k} with kind:=e.kind}
def Sc(e:Ed):(eu e).kind=e.kind:=by
 unfold eu;simp only[apply_ite Ed.kind,ite_self]
def Vi{e:Ed}{k:Int}(h:e.kind=k):eu e=Xk k e:=by
 subst h;have h:({eu e with kind:=(eu e).kind}:Ed)=eu e:=rfl;rw[Sc] at h;exact h.symm
theorem Th{e a:Ed}(hu:eu e=a)(b:a.gaps=[])(d:c=P a fg)(f:Yl w.heap.size w W):BA w e (YC (YE c)) W:=by
 subst hu d;exact⟨I,0,by rw[b];rfl,by rw[b];exact F9 _ _,f⟩
theorem Tr{e b:Ed}(hu:eu e=b)(d:b.gaps=e.gaps)(f:c=P b (V o (ln e.gaps) q))(g:aT w w.heap.size o q e.gaps)(a:Yl w.heap.size w W):BA w e (YC (YE c)) W:=by
 subst hu f;exact⟨o,q,by rw[d],by rw[d];exact(g.below a).more a.size,a⟩
theorem Ie(h:p:=by
  rcases hx with h|h|h|h|h|h|h|h|h|h|h|h
  all_goals
   have kk:=UP h;have HU:=A (Vi h);clear h;go_wp2_with(first
    |(refine wpList_build rfl 50 _ rfl R ?_;rw[show Value.agg (Option.getD (Xz.built 50 _) #[])=YE (P (Oq e.kind) fg) from R])
    |(refine wpList_store_row rfl 50 _ _ rfl _ _ rfl rfl 50 _ YV R R R ?_)
    |(refine wpList_load_row rfl 50 _ rfl _ rfl 50 _ (0,0) _ YV XB rfl R ?_))
  all_goals try(go_region_o<;>go_wp2_with(first
   |(refine wpList_build rfl 50 _ rfl R ?_;rw[show Value.agg (Option.getD (Xz.built 50 _) #[])=YE (P (Oq e.kind) fg) from R])
   |(refine wpList_store_row rfl 50 _ _ rfl _ _ rfl rfl 50 _ YV R R R ?_)
   |(refine wpList_load_row rfl 50 _ rfl _ rfl 50 _ (0,0) _ YV XB rfl R ?_)))
  all_goals
   refine bodyPost_ret (results_cell_row H _ _ _ _ _ (0,0) _ H (by first|with_reducible exact Cp _ _ _ _|with_reducible exact setRow_heap (Ei _ _ _ _) _|with_reducible exact setRow_heap (Cp _ _ _ _) _) XB H R) H ?_
   first|refine Th HU.o Zb R ?_|refine Tr HU.o Zb R b.o ?_
   repeat first|with_reducible refine al ?_ YW _|with_reducible refine Below.drew ?_|with_reducible refine Below.alloc ?_ YW _|with_reducible exact XI _ _):p:=h
set_option maxHeartbeats 40000000 in
def NC(w:U)(e:Ed)(o:Option Ym)(q:Nat)(hk:1<=e.kind/\e.kind<=12)(a:aT w w.heap.size o q e.gaps):XY Xz 63 #[YE (P e (V o (ln e.gaps) q))] w (BA w e):=by
 have c:Xz.follows .mixedOrders=Y:=R;have hx:e.kind=1\/e.kind=2\/e.kind=3\/e.kind=4\/e.kind=5\/e.kind=6\/e.kind=7\/e.kind=8\/e.kind=9\/e.kind=10\/e.kind=11\/e.kind=12:=D;have b:=A a;clear hk a;go_enter func63,ntmps63;exact Ie
end
section
open Kp
def Pd(w:U)(a b:Ed)(o g:Option Ym)(f d:Nat)(h:aT w w.heap.size o f a.gaps)(i:aT w w.heap.size g d b.gaps):
  XY Xz 62 #[YE (P a (V o (ln a.gaps) f)),YE (P b (V g (ln b.gaps) d))] w λe w'=>e=YC (Yz (im a b))/\Yl w.heap.size w w':=by
 cases c:((a.kind==b.kind)&&(a.index==b.index)&&(nU a b))
 ·exact Te w a b o g f d h i c
 simp only[Bool.and_eq_true] at c;obtain⟨⟨k,j⟩,l⟩:=c;cases c:((vS a b)&&(oh a b)&&(a.bwidth==b.bwidth)&&(a.bdepth==b.bdepth))
 ·exact TN w a b o g f d h i k j l c
 simp only[Bool.and_eq_true] at c;obtain⟨⟨⟨m,q⟩,p⟩,n⟩:=c;cases c:((a.blength==b.blength)&&(a.bcount==b.bcount)&&(a.bcost==b.bcost)&&(a.gaps==b.gaps))
 ·exact T4 w a b o g f d h i k j l m q p n c
 simp only[Bool.and_eq_true] at c;obtain⟨⟨⟨u,s⟩,r⟩,t⟩:=c;exact Ua w a b o g f d h i k j l m q p n u s r t
end
section
open Kp
attribute [local go_sem] aF dG
def cV(e:Ed):Int:=if e.kind<1\/12<e.kind then 8 else if im e (eu e)=Y then 0 else 9
theorem yF(h:p:=by
  by_cases h1:e.kind<1
  ·have HF:=A (show cV e=8 by unfold cV;rw[XT (.inl h1)]);go_wp2;go_ret;exact⟨ZG,(XI _ _).alloc (XE _) _⟩
  by_cases h2:12<e.kind
  ·have HF:=A (show cV e=8 by unfold cV;rw[XT (.inr h2)]);go_wp2;go_ret;exact⟨ZG,(XI _ _).alloc (XE _) _⟩
  have hB0:Yl w.heap.size w (w.alloc (.cells (P e (V o (ln e.gaps) q)) 50)):=(XI _ _).alloc (XE _) _;have HGP:=A b;have HB0:=A hB0;have E0:=A (show fF (w.alloc (.cells (P e (V o (ln e.gaps) q)) 50)).drew w.heap.size e (V o (ln e.gaps) q) from fF.new w e _);have mixed:Xz.follows .mixedOrders=Y:=R;clear b hB0;go_upto_region 3 with fail
  refine wp_region_any mixed ?_;refine wpAny_ready (rs:=[0,1]) R YL ?_;refine Yi H (λK hK=> ?_) ?_
  ·refine wp_load_row 50 _ H _ H 50 _ (0,0) _ E0.o XB H R ?_;refine hK _ _ ?_;clear hK K;refine wpAny_ready (rs:=[1]) R YL ?_;refine Yi H (λK hK=> ?_) ?_
   ·refine wp_load_row 50 _ H _ H 50 _ (0,0) _ E0.o XB H R ?_;refine hK _ _ ?_;clear hK K;refine wpAny_ready (rs:=[2]) R YL ?_;refine Yi H (λK hK=> ?_) ?_
    ·go_simp;refine(c.o _ ⟨D,D⟩ ((HGP.o.below (HB0.o.trans (Below.drew (XI _ _)))).more YL)).mono ?_;rintro r W1 ⟨g,a,rfl,hgb,hB1⟩;have E1:=A (E0.o.below hB1 E0.o.lt);have HGB:=A hgb;have HB1:=A (HB0.o.trans ((Below.drew (XI _ _)).trans (hB1.mono YL)));clear hgb hB1;refine hK _ _ ?_;clear hK K;refine wpAny_ready (rs:=[3]) R YL ?_;refine Yi H (λK hK=> ?_) ?_
     ·go_simp;refine(d.o _ g a ((HGP.o.below HB1.o).more HB1.o.size) HGB.o).mono ?_;rintro r W2 ⟨rfl,hB2⟩;have HB2:=A (HB1.o.trans (hB2.mono HB1.o.size));clear hB2;refine hK _ _ ?_;clear hK K;refine wpAny_take (i:=4) (v:= ?vfrm1) H R R R (λ_ _ _ h=>h) (Or.inl ⟨Zb,?hyfrm1⟩) ?_
      case hyfrm1=>(intro w;go_simp;try with_reducible rfl)
      exact a2p
     exact Yo
    exact Yo
   exact Yo
  refine Yi H (λK hK=> ?_) ?_
  ·refine wp_load_row 50 _ H _ H 50 _ (0,0) _ E0.o XB H R ?_;refine hK _ _ ?_;clear hK K;refine wpAny_ready (rs:=[0,2]) R YL ?_;refine Yi H (λK hK=> ?_) ?_
   ·refine wp_load_row 50 _ H _ H 50 _ (0,0) _ E0.o XB H R ?_;refine hK _ _ ?_;clear hK K;refine wpAny_ready (rs:=[2]) R YL ?_;refine Yi H (λK hK=> ?_) ?_
    ·go_simp;refine(c.o _ ⟨D,D⟩ ((HGP.o.below (HB0.o.trans (Below.drew (XI _ _)))).more YL)).mono ?_;rintro r W1 ⟨g,a,rfl,hgb,hB1⟩;have E1:=A (E0.o.below hB1 E0.o.lt);have HGB:=A hgb;have HB1:=A (HB0.o.trans ((Below.drew (XI _ _)).trans (hB1.mono YL)));clear hgb hB1;refine hK _ _ ?_;clear hK K;refine wpAny_ready (rs:=[3]) R YL ?_;refine Yi H (λK hK=> ?_) ?_
     ·go_simp;refine(d.o _ g a ((HGP.o.below HB1.o).more HB1.o.size) HGB.o).mono ?_;rintro r W2 ⟨rfl,hB2⟩;have HB2:=A (HB1.o.trans (hB2.mono HB1.o.size));clear hB2;refine hK _ _ ?_;clear hK K;refine wpAny_take (i:=4) (v:= ?vfrm2) H R R R (λ_ _ _ h=>h) (Or.inl ⟨Zb,?hyfrm2⟩) ?_
      case hyfrm2=>(intro w;go_simp;try with_reducible rfl)
      exact a2p
     exact Yo
    exact Yo
   refine Yi H (λK hK=> ?_) ?_
   ·go_simp;refine(c.o _ ⟨D,D⟩ ((HGP.o.below (HB0.o.trans (Below.drew (XI _ _)))).more YL)).mono ?_;rintro r W1 ⟨g,a,rfl,hgb,hB1⟩;have E1:=A (E0.o.below hB1 E0.o.lt);have HGB:=A hgb;have HB1:=A (HB0.o.trans ((Below.drew (XI _ _)).trans (hB1.mono YL)));clear hgb hB1;refine hK _ _ ?_;clear hK K;refine wpAny_ready (rs:=[0]) R YL ?_;refine Yi H (λK hK=> ?_) ?_
    ·refine wp_load_row 50 _ H _ H 50 _ (0,0) _ E1.o XB H R ?_;refine hK _ _ ?_;clear hK K;refine wpAny_ready (rs:=[3]) R YL ?_;refine Yi H (λK hK=> ?_) ?_
     ·go_simp;refine(d.o _ g a ((HGP.o.below HB1.o).more HB1.o.size) HGB.o).mono ?_;rintro r W2 ⟨rfl,hB2⟩;have HB2:=A (HB1.o.trans (hB2.mono HB1.o.size));clear hB2;refine hK _ _ ?_;clear hK K;refine wpAny_take (i:=4) (v:= ?vfrm3) H R R R (λ_ _ _ h=>h) (Or.inl ⟨Zb,?hyfrm3⟩) ?_
      case hyfrm3=>(intro w;go_simp;try with_reducible rfl)
      exact a2p
     exact Yo
    exact Yo
   exact Yo
  exact Yo):p:=h
def wk(w:U)(e:Ed)(o:Option Ym)(q:Nat)(b:aT w w.heap.size o q e.gaps):
  XY Xz 21 #[YE (P e (V o (ln e.gaps) q))] w λr w'=>r=YC (G F (cV e))/\Yl w.heap.size w w':=by
 have c:=A (λW (hk:1<=e.kind/\e.kind<=12) b=>NC W e o q hk b);have d:=A (λW g a j f=>Pd W e (eu e) o g q a j f);go_enter func21,ntmps21;exact yF
end
end Go.Proofs.YtnepbjnlmkppmaaGreatDoor
