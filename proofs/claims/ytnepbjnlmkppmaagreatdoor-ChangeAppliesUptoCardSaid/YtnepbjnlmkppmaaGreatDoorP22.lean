/- ChangeApplies of kingpostlaw58: part 22 of its proof (merged and shortened by program). -/
import Derived.Laws.ResultCell
import Derived.Test.YtnepbjnlmkppmaaGreatDoorP09
import Derived.Test.YtnepbjnlmkppmaaGreatDoorP21
set_option linter.unusedVariables false
set_option linter.unusedSimpArgs false
set_option linter.defProp false
set_option maxHeartbeats 8000000
set_option maxRecDepth 100000
open Go.RowKit Go.Shelf Go.Proofs.Tryz
open Bool renaming false→O,true→Y
open Decidable renaming decide→YG
open Go renaming World→U,undef→M,Value→Z,Calls→XY,TypeId→Yj,Addr→Ym
open Go.AllReady renaming cons→Yi,nil→Yo
open Go.Ending renaming returned→YC
open Go.IntKind renaming i64→F
open Go.Lib renaming hid→A
open Go.Proofs.Tryz renaming prog→Xz,underlying50→XB
open Go.RowKit renaming Below→Yl
open Go.Value renaming slice→V,string→Yy,bool→Yz,pointer→YA,int→G,agg→YE,tuple→YF
open Go.World renaming alloc_heap_new→XZ,size_alloc→Ya
open List renaming length→ln
open Nat renaming le_refl→XE
open Option renaming none→I,some→L
open Go.Proofs.YtnepbjnlmkppmaaGreatDoor
variable{c:Array Z}{d:Bool}{z:ByteArray}{a x y b:Int}{k q E i:Nat}{o N g:Option Ym}{p:Prop}{w W S:U}
namespace Go.Proofs.YtnepbjnlmkppmaaGreatDoor
section
open Kp
attribute [local go_sem] aF dG eV gJ il gL gK gM gN gW gZ en ef eh dZ dk eL eP dW dX dU dV eo dt eH eI dY eO eR eK eB eM ff eY fe eZ dd dP gH j8 km jv
set_option maxHeartbeats 40000000 in
def LB(w:U)(e:Ed)(o:Option Ym)(q:Nat)(hk:1<=e.kind/\e.kind<=12)(a:aT w w.heap.size o q e.gaps):XY Xz 88 #[YE (P e (V o (ln e.gaps) q))] w (BA w e):=by
 have c:Xz.follows .mixedOrders=Y:=R;have hx:e.kind=1\/e.kind=2\/e.kind=3\/e.kind=4\/e.kind=5\/e.kind=6\/e.kind=7\/e.kind=8\/e.kind=9\/e.kind=10\/e.kind=11\/e.kind=12:=D;have b:=A a;clear hk a;go_enter func88,ntmps88;exact Ie
end
section
open Kp
attribute [local go_sem] aF dG
def Rl(e:Ed)(h:ln e.gaps=(eu e).gaps.length):e.gaps=(eu e).gaps:=by
 by_cases a:(eu e).gaps=e.gaps
 ·exact a.symm
 ·have b:(eu e).gaps=[]:=by
   unfold eu at *;simp only[apply_ite Ed.gaps] at *;by_cases h:e.kind=7
   ·simp[h] at a
   ·simp[h,oK]
  rw[b] at h⊢;exact List.length_eq_zero_iff.1 h
def oF(w:U)(e:Ed)(o:Option Ym)(q:Nat)(b:aT w w.heap.size o q e.gaps):
  XY Xz 24 #[YE (P e (V o (ln e.gaps) q))] w λr w'=>r=YC (G F (cV e))/\Yl w.heap.size w w':=by
 have c:=A (λW (hk:1<=e.kind/\e.kind<=12) b=>LB W e o q hk b);have d:=A (λW g a j f=>rV W e (eu e) o g q a j f (Rl e));go_enter func24,ntmps24;exact yF
end
section
open Kp
def F5(B b:Nat)(e:Ed)(o:Option Ym)(q:Nat)(w:U)(h:kj B b 0 0 [] w)(d:ja e)(hk:1<=e.kind/\e.kind<=12)(i:e.kind=6->1<=e.zkind/\e.zkind<=12)
  (k:aT w B o q e.gaps)(j:ln e.gaps<=16)(a:Gl w)(c:9<=B)(f:B<=w.heap.size):
  XY Xz 29 #[ou b,YE (P e (V o (ln e.gaps) q))] w (kB B b e w):=by
 obtain⟨m,l⟩:=hk;have hx:e.kind=1\/e.kind=2\/e.kind=3\/e.kind=4\/e.kind=5\/e.kind=6\/e.kind=7\/e.kind=8\/e.kind=9\/e.kind=10\/e.kind=11\/e.kind=12:=D;rcases hx with h1|h1|h1|h1|h1|h1|h1|h1|h1|h1|h1|h1
 ·exact RC B b e o _ q w h d h1 a c f
 ·cases g:e.gable with
  |true=>exact Nj B b e o _ q w h d h1 g a c f
  |false=>exact OM B b e o _ q w h d h1 g a c f
 ·exact QW B b e o _ q w h d h1 a c f
 ·exact R7 B b e o _ q w h d h1 a c f
 ·exact P5 B b e o _ q w h d h1 a c f
 ·exact P9 B b e o _ q w h d h1 (i h1) a c f
 ·exact Ra B b e o q w h d h1 k j a c f
 ·exact PW B b e o _ q w h d h1 a c f
 ·exact Q0 B b e o _ q w h d h1 a c f
 ·exact OZ B b e o _ q w h d h1 a c f
 ·exact OY B b e o _ q w h d h1 a c f
 ·exact OF B b e o _ q w h d h1 a c f
end
section
open Kp
attribute [local go_sem] aF dG dk dt dd dP
def qv(w:U)(p:K×Int)(r:Ending)(w':U):Prop:=r=YC (YF #[Yy (tx p.1),G F p.2])/\Yl w.heap.size w w'
def Ez{e:Ed}(h:¬cV e=0):nZ aC e=([],cV e):=by
 by_cases h1:e.kind<1\/12<e.kind
 ·unfold nZ cV;rw[XT h1,XT h1]
 ·by_cases a:im e (eu e)=Y
  ·exact absurd (by unfold cV;rw[XQ h1,XT a]) h
  ·unfold nZ cV;rw[XQ h1,XQ h1,XT (λb=>a ((sS _ _).2 b)),XQ a]
def Im{e:Ed}(h:cV e=0):(1<=e.kind/\e.kind<=12)/\e=eu e:=by
 unfold cV at h;split at h
 ·cases h
 ·rename_i h1;split at h
  ·rename_i a;exact⟨D,(sS _ _).1 a⟩
  ·cases h
def Kq(w:U)(e:Ed)(o:Option Ym)(q:Nat)(c:aT w w.heap.size o q e.gaps)(b:¬cV e=0):
  XY Xz 9 #[YE (P e (V o (ln e.gaps) q))] w (qv w (nZ aC e)):=by
 have i:=A (Ez b);have a:Yl w.heap.size w (w.alloc (.cells (P e (V o (ln e.gaps) q)) 50)):=(XI _ _).alloc (XE _) _;have j:=A (wk (w.alloc (.cells (P e (V o (ln e.gaps) q)) 50)) e o q ((c.below a).more YL));have k:(cV e !=0)=Y:=by rw[Yn];exact b
 have d:=A a;have g:=A (fF.new w e (V o (ln e.gaps) q));clear c b a;go_enter func9,ntmps9;go_wp2_with(first
  |(refine wpList_load_row rfl 50 _ rfl _ rfl 50 _ (0,0) _ g.o XB rfl R ?_)
  |(go_at_call 21;refine j.o.mono ?_;rintro r W1 ⟨rfl,f⟩))
 go_ret2;rw[i.o];exact⟨H,d.o.trans (f.mono d.o.size)⟩
def zf{e:Ed}(h:e=eu e)(a:0<ln e.gaps):e.kind=7:=by
 by_cases b:e.kind=7
 ·exact b
 ·have c:(eu e).gaps=[]:=by
   unfold eu;simp only[apply_ite Ed.gaps];simp[b,oK]
  have d:e.gaps=[]:=(Yv Ed.gaps h).trans c;rw[d] at a;simp at a
structure a3s(w:U)(e:Ed)(g:Z)(b:Z)(a:U):Prop where
 ed:fF a w.heap.size e g
 ok:b=Yz (j9 e.number)
 low:Yl w.heap.size w a
structure a3r(w:U)(e:Ed)(g:Z)(a:U):Prop where
 ed:fF a w.heap.size e g
 low:Yl w.heap.size w a
def kj.fresh(w:U)(B:Nat)(a:B<=w.heap.size):kj B w.heap.size 0 0 [] (w.alloc (.cells #[YA I,V I 0 0,G F 0,G F 0] 87)):=
 ⟨YA I,.inl rfl,a,V I 0 0,XZ w _,World.ownsRow_nil _ _ _ _,by simp[Value.ownBlock]⟩
def RR{a s:K}(h:a≠[]):jg a s≠[]:=by unfold jg;rw[XQ h];simp
def oE{b:K}(h:b≠[])(a:List K):bt b a≠[]:=by
 induction a generalizing b with
 |nil=>exact h
 |cons w a c=>rw[gX];exact c (RR h)
def OC(e:Ed):bt [] (cE e)≠[]:=by
 obtain⟨b,w,c,a⟩:=wZ e;unfold cE;rw[a,List.cons_append,List.cons_append,gX];exact oE (by unfold jg;rw[XT rfl];simp) _
def wb{e:Ed}(hk:1<=e.kind/\e.kind<=12)(hu:e=eu e)(c:¬(e.kind=1/\kH e.text=O))(b:¬((e.kind=6/\(e.zkind<1\/12<e.zkind))\/(e.kind=12/\j9 e.number=O)))(a:¬16<ln e.gaps):
  nZ aC e=if¬fY 0 (aN e)=0 then([],fY 0 (aN e)) else if¬js aC 0 (numsOf e)=0 then([],js aC 0 (numsOf e)) else(bt [] (cE e),0):=by
 unfold nZ;rw[XQ D,XQ (λx=>x hu),XQ c,XQ b,XQ a]
def Ri(w:U)(e:Ed)(o:Option Ym)(q:Nat)(hg:aT w w.heap.size o q e.gaps)(aE:ja e)(aA:Gl w)(hB:9<=w.heap.size)(hf:cV e=0):
  XY Xz 9 #[YE (P e (V o (ln e.gaps) q))] w (qv w (nZ aC e)):=by
 have ak:Yl w.heap.size w (w.alloc (.cells (P e (V o (ln e.gaps) q)) 50)):=(XI _ _).alloc (XE _) _;have cf:=A (wk (w.alloc (.cells (P e (V o (ln e.gaps) q)) 50)) e o q ((hg.below ak).more YL));have aK:(cV e !=0)=O:=by rw[hf];rfl
 have HF:=A hf;have HG:=A hg;have ay:=A ak;have E0:=A (fF.new w e (V o (ln e.gaps) q));have au:=A aE;have am:=A aA;clear hg hf ak aE aA;go_enter func9,ntmps9;go_upto_region 4 with(first
  |(refine wpList_load_row rfl 50 _ rfl _ rfl 50 _ (0,0) _ E0.o XB rfl R ?_)
  |(go_at_call 21;refine cf.o.mono ?_;rintro r W1 ⟨rfl,ab⟩;have E1:=A (E0.o.below ab E0.o.lt);have aL:=λi=>E1.o.cell i;have l:=ab.size;simp only[Ya] at l;have aO:=A (ay.o.trans (ab.mono ay.o.size));clear ab))
 go_cut [6] (λs6 wx=>a3s w e (V o (ln e.gaps) q) s6 wx)
 case first =>
  go_region_with (go_at_call 26;(refine(tU _).mono ?_;rintro r W2 ⟨rfl,an⟩;have az:=A (show Yl W1.heap.size W1 W2 by rw[an];exact(XI _ W1).drew.alloc (XE _) _);have aP:=Eb W2 W1.heap.size 6 (by rw[an];exact XZ W1.drew _) e.number Y;have E2:=A (E1.o.below az.o E1.o.lt);have aW:=λi=>E2.o.cell i;simp only[Yr] at aP;clear an))
  all_goals go_wp2_with fail
  all_goals go_meet
  all_goals exact⟨E2.o,rfl,aO.o.trans (az.o.mono D)⟩
 case rest=>
  obtain⟨ed,rfl,ae⟩:=hcut;have ED:=A ed;have T:=λi=>ED.o.cell i
  have s:=A ae;have aR:=ae.size;clear ed ae aL;obtain⟨⟨aj,ap⟩,aB⟩:=Im HF.o;have y:=A aB;clear aB;by_cases c:e.kind=1/\kH e.text=O
  ·obtain⟨ag,aF⟩:=c;have d:=A (show nZ aC e=([],13) by unfold nZ;rw[XQ D,XQ (λx=>x y.o),XT ⟨ag,aF⟩]);have C:(e.kind==1)=Y:=by rw[Yg];exact ag
   have ax:ln e.text<=1000000:=by have:=au.o.text;omega
   clear ag;go_wp2_with(go_at_call 27;refine(qy e.text _ ax).mono ?_;rintro r W3 ⟨rfl,rfl⟩;rw[aF])
   go_ret2;rw[d.o];exact⟨H,s.o⟩
  by_cases j:e.kind=12/\j9 e.number=O
  ·obtain⟨av,aS⟩:=j;have d:=A (show nZ aC e=([],8) by unfold nZ;rw[XQ D,XQ (λx=>x y.o),XQ c,XT (.inr ⟨av,aS⟩)]);have C:(e.kind==1)=O:=Y4;have Q:(e.kind==6)=O:=Y4;have W:(e.kind==12)=Y:=by rw[Yg];exact av
   clear c av;exact a3o
  by_cases J:e.kind=6/\e.zkind<1
  ·obtain⟨l,u⟩:=J;have d:=A (show nZ aC e=([],8) by unfold nZ;rw[XQ D,XQ (λx=>x y.o),XQ c,XT (.inl ⟨l,.inl u⟩)]);have C:(e.kind==1)=O:=Y4;have Q:(e.kind==6)=Y:=by rw[Yg];exact l
   have kz:YG (e.zkind<1)=Y:=by rw[XX];exact u
   clear c j l;exact a3o
  by_cases z:16<ln e.gaps
  ·have aM:=zf y.o D;have d:=A (show nZ aC e=([],4) by unfold nZ;rw[XQ D,XQ (λx=>x y.o),XQ c,XQ D,XT z]);have C:(e.kind==1)=O:=Y4;have Q:(e.kind==6)=O:=Y4;have W:(e.kind==12)=O:=Y4;clear c j J aM;exact a3o
  by_cases N:e.kind=6/\12<e.zkind
  ·obtain⟨l,u⟩:=N;have d:=A (show nZ aC e=([],8) by unfold nZ;rw[XQ D,XQ (λx=>x y.o),XQ c,XT (.inl ⟨l,.inr u⟩)]);have C:(e.kind==1)=O:=Y4;have Q:(e.kind==6)=Y:=by rw[Yg];exact l
   have kz:YG (e.zkind<1)=O:=YU;have aJ:YG (12<e.zkind)=Y:=by rw[XX];exact u
   have Z:wc.drew.cell? ⟨w.heap.size,0,I⟩=L (G F e.kind):=by have:=T 0;rw[dG] at this;exact this
   have aa:wc.drew.cell? ⟨w.heap.size,14,I⟩=L (G F e.zkind):=by have:=T 14;rw[dk] at this;exact this
   have GX:=A (am.o.keep (s.o.trans (Below.drew (XI _ _))) hB);have M:w.heap.size<wc.drew.heap.size:=ED.o.lt;clear c l j J z;go_wp2
   go_region_held3(λB:U=>B.cell? ⟨w.heap.size,0,I⟩=L (G F e.kind)/\B.cell? ⟨w.heap.size,14,I⟩=L (G F e.zkind)) (first|exact⟨Z,aa⟩|exact⟨d0,ar⟩) (first
    |(go_at_call 28;refine(sF _ GX.o).mono ?_;rintro r W3 ⟨g,E,rfl,ai,ao,ah,ad,aq,f⟩;have d0:=(f.cell (p:=⟨w.heap.size,0,I⟩) M).trans Z;have ar:=(f.cell (p:=⟨w.heap.size,14,I⟩) M).trans aa;have aw:=A (s.o.trans ((Below.drew (XI _ _)).trans (f.mono D)));clear ai ao ah ad aq f))
   all_goals go_wp2
   all_goals go_ret2
   all_goals rw[d.o]
   all_goals exact⟨rfl,aw.o⟩
  have HZ:=A (show e.kind=6->1<=e.zkind/\e.zkind<=12 fromλh6=>D);have d:=A (wb ⟨aj,ap⟩ y.o c (by rintro(⟨a,b⟩|⟨a,b⟩)<;>first|exact j ⟨a,b⟩|omega) z);have aQ:ln e.gaps<=16:=D;have HK:=A (And.intro aj ap)
  go_upto_block 0 with(fail)
  go_cut [] (λB=>a3r w e (V o (ln e.gaps) q) B)
  case first =>
   have aY:YG (16<(ln e.gaps:Int))=O:=YU;by_cases h6:e.kind=6
   ·have C:(e.kind==1)=O:=Y4;have Q:(e.kind==6)=Y:=by rw[Yg];exact h6
    have W:(e.kind==12)=O:=Y4;have kz:YG (e.zkind<1)=O:=YU;have aJ:YG (12<e.zkind)=O:=YU;have Z:wc.drew.cell? ⟨w.heap.size,0,I⟩=L (G F e.kind):=by have:=T 0;rw[dG] at this;exact this
    have aa:wc.drew.cell? ⟨w.heap.size,14,I⟩=L (G F e.zkind):=by have:=T 14;rw[dk] at this;exact this
    have GX:=A (am.o.keep (s.o.trans (Below.drew (XI _ _))) hB);have M:w.heap.size<wc.drew.heap.size:=ED.o.lt;clear c h6 j J z N;go_wp2
    go_region_held3(λB:U=>B.cell? ⟨w.heap.size,0,I⟩=L (G F e.kind)/\B.cell? ⟨w.heap.size,14,I⟩=L (G F e.zkind)) (first|exact⟨Z,aa⟩|exact⟨d0,ar⟩) (first
     |(go_at_call 28;refine(sF _ GX.o).mono ?_;rintro r W3 ⟨g,E,rfl,ai,ao,ah,ad,aq,f⟩;have d0:=(f.cell (p:=⟨w.heap.size,0,I⟩) M).trans Z;have ar:=(f.cell (p:=⟨w.heap.size,14,I⟩) M).trans aa;have aw:=A (s.o.trans ((Below.drew (XI _ _)).trans (f.mono D)));have X:=A (fF.below (show fF wc.drew w.heap.size e (V o (ln e.gaps) q) from ED.o) f M);have aV:=λi=>X.o.cell i;clear ai ao ah ad aq f))
    all_goals go_wp2
    all_goals go_meet
    all_goals exact⟨X.o,aw.o⟩
   ·have Q:(e.kind==6)=O:=Y4;have HE:=A (λn=>(show fF (wc.drewN n) w.heap.size e (V o (ln e.gaps) q) from ED.o));by_cases h1:e.kind=1
    ·have C:(e.kind==1)=Y:=by rw[Yg];exact h1
     have W:(e.kind==12)=O:=Y4;have aU:kH e.text=Y:=by cases h:kH e.text with|true=>rfl|false=>exact absurd ⟨h1,h⟩ c
     have ax:ln e.text<=1000000:=by have:=au.o.text;omega
     clear c h1 h6 j J z N;go_wp2_with(go_at_call 27;refine(qy e.text _ ax).mono ?_;rintro r W3 ⟨rfl,rfl⟩;rw[aU])
     go_quiet (fail)
     go_wp2;go_meet;exact⟨HE.o _,below_drewN s.o _⟩
    ·have C:(e.kind==1)=O:=Y4;by_cases af:e.kind=12
     ·have W:(e.kind==12)=Y:=by rw[Yg];exact af
      have aX:j9 e.number=Y:=by cases h:j9 e.number with|true=>rfl|false=>exact absurd ⟨af,h⟩ j
      exact a3n
     ·have W:(e.kind==12)=O:=Y4;exact a3n
  case rest=>
   obtain⟨aH,al⟩:=hcut;have u:=al.size;have L2:=A al;have WF:=A (kj.fresh wc w.heap.size u);have B2:=A (L2.o.alloc u (.cells #[YA I,V I 0 0,G F 0,G F 0] 87));have X:=A (aH.alloc (.cells #[YA I,V I 0 0,G F 0,G F 0] 87));have v:=A (F5 w.heap.size wc.heap.size e o q _ WF.o au.o HK.o HZ.o (HG.o.below B2.o) aQ (am.o.keep B2.o hB) hB YP);clear aH al c j J N T aR E0 aK aj ap z;by_cases k:fY 0 (aN e)=0
   ·by_cases K:js aC 0 (numsOf e)=0
    ·have ac:=A (d.o.trans (by rw[XQ (λh=>h k),XQ (λh=>h K)]));have m:=v.o;unfold kB at m;rw[k,K] at m;clear v;have v:=A m;clear m k K;go_wp2_with(first
      |(refine wpList_load_row rfl 50 _ rfl _ rfl 50 _ (0,0) _ X.o XB rfl R ?_)
      |(go_at_call 29;refine v.o.mono ?_;rintro r W5 ⟨rfl,t,S⟩;have c2:=t.Ho;have c3:=t.BQ;obtain⟨p5,_,aD⟩:=t;have aI:=A aD;have K5:=A S;clear aD S)
      |(go_at_call 30;refine(oP _ _ _ _ _ _ _ aI.o (OC e)).mono ?_;rintro r W6 ⟨rfl,aG⟩;have K6:=A (K5.o.trans aG);clear aG))
     go_ret2;rw[ac.o];exact⟨H,B2.o.trans K6.o.low⟩
    ·have ac:=A (d.o.trans (by rw[XQ (λh=>h k),XT K]));have t3:(js aC 0 (numsOf e) !=0)=Y:=by rw[Yn];exact K
     have m:=v.o;unfold kB at m;rw[k] at m;clear v;have v:=A m;clear m;clear K k;exact a3m
   ·have ac:=A (d.o.trans (by rw[XT k]));have t2:(fY 0 (aN e) !=0)=Y:=by rw[Yn];exact k
    clear k;exact a3m
def DF(w:U)(e:Ed)(o:Option Ym)(q:Nat)(a:aT w w.heap.size o q e.gaps)(d:ja e)(f:Gl w)(c:9<=w.heap.size):
  XY Xz 9 #[YE (P e (V o (ln e.gaps) q))] w (qv w (nZ aC e)):=by
 by_cases b:cV e=0
 ·exact Ri w e o q a d f c b
 ·exact Kq w e o q a b
end
section
open Kp
attribute [local go_sem] aF dG eV gJ il gL gK gM gN gW gZ en ef eh dZ dk eL eP dW dX dU dV eo dt eH eI dY eO eR eK eB eM ff eY fe eZ dd dP Ej gH j8 km jv
structure Uv(e:Ed):Prop where
 kind:e.kind=8\/e.kind=12/\j9 e.number=Y
 used:eu e=e
 gaps:e.gaps=[]
 wide:fY 0 (aN e)=0
 num:numsOf e=[]
 sized:ja e
 ne:bt [] (cE e)≠[]
def zD(w:U)(e:Ed)(a:Uv e)(c:Gl w)(b:9<=w.heap.size):XY Xz 9 #[YE (P e fg)] w λr w'=>r=YC (YF #[Yy (tx (bt [] (cE e))),G F 0])/\Yl w.heap.size w w':=by
 have h:=DF w e I 0 (by rw[a.gaps];exact pF _ _) a.sized c b;have hk:=a.kind;rw[wb D a.used.symm D (by
  rintro(⟨h,_⟩|⟨h,h2⟩)
  ·omega
  ·have:=(hk.resolve_left D).2;rw[this] at h2;cases h2) (by rw[a.gaps];decide),a.wide,a.num,XQ (λx=>x rfl),XQ (λx=>x rfl),a.gaps] at h
 exact h
def Rp(B b:Nat)(r:uo)(w:U)(h:iN B w.heap.size b r w)(hk:kindOf (rW r).1=8)(j:Gl w)(k:9<=B)(x:B<=w.heap.size):
  XY Xz 47 #[ou b] w λe w'=>e=YC (YE (P (rE r).1 fg))/\iN B w.heap.size b (rE r).2 w'/\cC B b w w':=by
 have V:=h.hi;have J:=A h;have N:=A j;have t:=A hk;have n:=A (show rE r=({Oq 8 with number:=(rI (rW r).2).1},(rI (rW r).2).2) by simp only[rE,hk];rfl);clear h j hk;go_enter func47,ntmps47;go_wp2_with(first
  |(go_at_call 108;refine(Jn B w.heap.size b _ _ o.o (N.o.keep (cC.low m.o) k) k ZT).mono ?_;rintro e T ⟨rfl,h2,d⟩;have y:=A h2;have g:=A (EC.keep (C:=_) K.o d D);have l:=A (EC.keep (C:=_) q.o d D);have O:=A (cC.trans m.o d);have E:=d.low.size;(try simp only[Ya,U.size_setCell] at E);have X:=λi=>g.o.cell i;have Y:=λi=>g.o.frozen i;clear h2 d)
  |(go_at_call 106;refine(GA _).mono ?_;rintro e s ⟨rfl,a⟩;have u:=A (show iN B w.heap.size b r s by rw[a];exact(J.o.alloc _).alloc _);have v:=A (show cC B b w s by rw[a];exact((cC.refl B b w).alloc x _).alloc YP _);have Q:=A (show s.heap[w.heap.size+1]?=L (.map wQ 12) by rw[a];have:=XZ (w.alloc (.cells (P oK fg) 50)) (.map wQ 12);rw[Ya] at this;exact this);have M:=A (show EC s w.heap.size (P oK fg) by rw[a];exact(EC.new w _).alloc _);have S:s.heap.size=w.heap.size+1+1:=(by rw[a];simp);clear a)
  |(go_at_call 107;refine(vV B w.heap.size b _ _ u.o).mono ?_;rintro e W1 ⟨rfl,h1,f⟩;have W:=f.low.size;have z:=Nv W1 (w.heap.size+1) 12 ((f.others _ D D).trans Q.o) (rW r).1;rw[t.o] at z;have o:=A (h1.alloc (.cells (P (Oq 8) fg) 50));have K:=A (EC.new W1 (P (Oq 8) fg));have q:=A ((M.o.keep f D).alloc (.cells (P (Oq 8) fg) 50));have m:=A ((v.o.trans f).alloc D (.cells (P (Oq 8) fg) 50));clear h1 f)
  |(refine wpList_build rfl 50 _ rfl R ?_;rw[show Value.agg (Option.getD (Xz.built 50 _) #[])=YE (P (Oq 8) fg) from R])
  |(refine wpList_load_row rfl 50 _ rfl _ rfl 50 _ (0,0) _ (EC.heap (g.o.put 35 (G F (rI (rW r).2).1))) XB rfl R ?_)
  |(refine wpList_store_row rfl 50 _ _ rfl _ _ rfl rfl 50 _ (by first|exact(EC.heap (l.o.eC (p:=⟨W1.heap.size,35,I⟩) ZT (G F (rI (rW r).2).1)))|exact XZ W1 _) R R R ?_))
 refine bodyPost_ret (results_cell_row H _ _ _ _ _ (0,0) _ H (setRow_heap (EC.heap (l.o.eC (p:=⟨W1.heap.size,35,I⟩) ZT (G F (rI (rW r).2).1))) _) XB H R) H ⟨Yv (λc=>Ending.returned (YE c)) ?_,?_,?_⟩
 ·rw[n.o];kernel_rfl
 ·rw[n.o];exact iN.row (y.o.eC (p:=⟨W1.heap.size,35,I⟩) ZT (G F (rI (rW r).2).1)) (XE _) _
 ·exact cC.row (O.o.eC (p:=⟨W1.heap.size,35,I⟩) ZT ZT (G F (rI (rW r).2).1)) (XE _) D _
def xM{fn:Func}{p u:Tmp}(h:fn.results=#[.cell p 50,.tmp u])(tmps:Array Z)(w:U)(g:Nat)(cs:Array Z)
  (a:tmps.getD p M=YA (L ⟨g,0,I⟩))(b:w.heap[g]?=L (.cells cs 50 (0,0)))(hi:(Xz.info? 50).map (·.size)=L cs.size):
  (results fn tmps).run Xz w= .ok (YF #[YE cs,tmps.getD u M]) w:=by
 have d:tmps[p]?.getD M=YA (L ⟨g,0,I⟩):=by simpa using a
 have c:=run_loadVar_row (P:=Xz) w g 50 50 cs (0,0) _ b XB H hi;simp[results,h,d,asAddr,c,Result.andThen]
def Gp(s:K)(c:ln s<=65536):(Lib.split s [32]).length<=65537:=by
 have b:Lib.countB (tx s) (tx [32])=Lib.count s [32]:=by unfold Lib.countB;rw[bH,bH]
 rw[zj,b,Lib.count_one];have:=List.count_le_length (a:=(32:UInt8)) (l:=s);omega
def TH(w:U)(a:List K)(h1:ln a<=1000000)(h2:∀x∈a,ln x<=100000):
  iN w.heap.size (((w.alloc (.cells (P oK fg) 50)).alloc (.cells (sY a).toArray 9)).alloc (.cells #[V (L ⟨w.heap.size+1,0,I⟩) (a).length (a).length,Yz O] 106)).heap.size (w.heap.size+1+1) (a,O) (((w.alloc (.cells (P oK fg) 50)).alloc (.cells (sY a).toArray 9)).alloc (.cells #[V (L ⟨w.heap.size+1,0,I⟩) (a).length (a).length,Yz O] 106)):=by
 have c:=XZ ((w.alloc (.cells (P oK fg) 50)).alloc (.cells (sY a).toArray 9)) (.cells #[V (L ⟨w.heap.size+1,0,I⟩) (ln a) (ln a),Yz O] 106);have b:(((w.alloc (.cells (P oK fg) 50)).alloc (.cells (sY a).toArray 9)).alloc (.cells #[V (L ⟨w.heap.size+1,0,I⟩) (a).length (a).length,Yz O] 106)).heap[w.heap.size+1]?=L (.cells (sY a).toArray 9):=by
  rw[heap_alloc_old _ _ YL];have:=XZ (w.alloc (.cells (P oK fg) 50)) (.cells (sY a).toArray 9);rw[Ya] at this;exact this
 simp only[Ya] at c;refine⟨D,YL,⟨w.heap.size+1,0,ln a,c,D,YL,XE _,h1,⟨_,b⟩,λj e=> ?_⟩,h2⟩;have d:j<ln a:=e;rw[Nat.zero_add,bw.cell (l:=sY a) b j];simp[d]
def Nh(s:K)(E:Ed)(w:U)(n:Uv E)(y:ln s<=65536)(v:rE (Lib.split s [32],O)=(E,([],O)))(hk:kindOf (rW (Lib.split s [32],O)).1=8)(u:bt [] (cE E)=s)(hx:∀x∈Lib.split s [32],ln x<=1000)(c:Gl w)(d:9<=w.heap.size):
  XY Xz 18 #[Yy (tx s)] w λr w'=>r=YC (YF #[YE (P E fg),G F 0])/\Yl w.heap.size w w':=by
 have k:Yl w.heap.size w (w.alloc (.cells (P oK fg) 50)):=(XI _ _).alloc (XE _) _;have i:Yl w.heap.size w (((w.alloc (.cells (P oK fg) 50)).alloc (.cells (sY (Lib.split s [32])).toArray 9)).alloc (.cells #[V (L ⟨w.heap.size+1,0,I⟩) ((Lib.split s [32])).length ((Lib.split s [32])).length,Yz O] 106)):=(k.alloc YL _).alloc YP _;have S:=A (K7 s (w.alloc (.cells (P oK fg) 50)) y (c.keep k d).maxl);have g:=Rp w.heap.size (w.heap.size+1+1) (Lib.split s [32],O) _ (TH w _ (by have:=Gp s y;omega) (λx h=>by have:=hx x h;omega)) hk (c.keep i d) d YP;rw[v] at g;have g:=A g;have Y:=A c;have HE:=A n;have J:=A u;have T:=A (show EC (((w.alloc (.cells (P oK fg) 50)).alloc (.cells (sY (Lib.split s [32])).toArray 9)).alloc (.cells #[V (L ⟨w.heap.size+1,0,I⟩) ((Lib.split s [32])).length ((Lib.split s [32])).length,Yz O] 106)) w.heap.size (P oK fg) from((EC.new w _).alloc _).alloc _);have W:=A i;clear c k hx i v hk n u;go_enter func18,ntmps18;go_wp2_with(first
  |(go_at_call 46;refine S.o.mono ?_;rintro e W1 ⟨rfl,M⟩;subst M)
  |(go_at_call 47;refine g.o.mono ?_;rintro e b ⟨rfl,q,f⟩;obtain⟨c1,_,N,cp,X⟩:=(q.alloc (.cells (P E fg) 50)).cells;have B:=f.low.size;simp only[Ya] at B;have m:=A ((T.o.keep f D).alloc (.cells (P E fg) 50));have j:=A (EC.new b (P E fg));have l:=A ((W.o.trans f.low).alloc D (.cells (P E fg) 50));simp only[] at c1;simp only[List.length_nil] at X;have Q:=A (zD (b.alloc (.cells (P E fg) 50)) E HE.o (Y.o.keep l.o d) YP);clear q f)
  |(go_at_call 9;refine Q.o.mono ?_;rintro r o ⟨rfl,a⟩;rw[J.o];have t:=A (show EC o w.heap.size (P oK fg) from(a.block _ m.o.lt).trans m.o);have C:=A (show EC o b.heap.size (P E fg) from(a.block _ j.o.lt).trans j.o);have z:=A (l.o.trans (a.mono l.o.size));have Z:=a.size;simp only[Ya] at Z;clear a)
  |(refine wpList_store_row rfl 50 _ _ rfl _ _ rfl rfl 50 _ (EC.heap t.o) R R R ?_)
  |(refine wpList_load_row rfl 50 _ rfl _ rfl 50 _ (0,0) _ (EC.heap C.o) XB rfl R ?_)
  |(refine wpList_load_row rfl 50 _ rfl _ rfl 50 _ (0,0) _ (EC.heap j.o) XB rfl R ?_)
  |(refine wpList_store_row rfl 50 _ _ rfl _ _ rfl rfl 50 _ (XZ b _) R R R ?_))
 refine bodyPost_ret (xM H _ _ _ _ H (setRow_heap (EC.heap t.o) _) R) H ?_;exact⟨H,al z.o (XE _) _⟩
theorem jQ{ops:Array Oper}{rest:List Oper}{o:Oper}{a:Act}{Q:Exit->Act->U->Prop}(b:Region.wanted o (yielded ops a.tmps)=Y)(x:Operand)(e:o.op= .load 50 x)
  (g:Nat)(hx:a.eval x=YA (L ⟨g,0,I⟩))(cs:Array Z)(d:w.heap[g]?=L (.cells cs 50 (0,0)))(hi:(Xz.info? 50).map (·.size)=L cs.size)
  (h:wpList Xz ops Q rest (a.put o.dst (YE cs)) w):wpList Xz ops Q (o::rest) a w:=
 wpList_step λ_ c=>by
  rw[XT b];exact wp_load_row 50 x e g hx 50 cs (0,0) _ d XB H hi (c _ _ h)
theorem qc{ops:Array Oper}{rest:List Oper}{o:Oper}{a:Act}{Q:Exit->Act->U->Prop}(c:Region.wanted o (yielded ops a.tmps)=Y)(t:Yj)(b:Array (Nat×Operand))(f:o.op= .build t b)
  (e:(Xz.built t (b.map λ(i,x)=>(i,a.eval x)).toList).isSome=Y)
  (h:wpList Xz ops Q rest (a.put o.dst (YE ((Xz.built t (b.map λ(i,x)=>(i,a.eval x)).toList).getD #[]))) w):wpList Xz ops Q (o::rest) a w:=
 wpList_step λ_ d=>by
  rw[XT c];exact wp_build t b f e (d _ _ h)
def sw:Ed:={Oq 8 with number:=3}
def Qi:Ed:={Oq 12 with number:=5,index:=1}
abbrev Sh:K:=[107,101,114,102,32,51]
abbrev WB:K:=[114,101,109,111,118,101,32,111,112,101,110,105,110,103,32,49]
def wj:bt [] (cE sw)=Sh:=Zz
def Hf:bt [] (cE Qi)=WB:=Zz
def NT{e:Ed}{n:Int}(hk:e.kind=8\/e.kind=12/\j9 e.number=Y)(h2:eu e=e)(f:e.gaps=[])(c:aN e=[n])(b:numsOf e=[])(j:e.text=[])(k:0<=n/\n<=9)(i:bt [] (cE e)≠[]):Uv e:=
 ⟨hk,h2,f,by rw[c];rcases(show n=0\/n=1\/n=2\/n=3\/n=4\/n=5\/n=6\/n=7\/n=8\/n=9 by omega) with rfl|rfl|rfl|rfl|rfl|rfl|rfl|rfl|rfl|rfl<;>rfl,b,
  ⟨(by rw[c];intro m g;obtain rfl:=List.mem_singleton.1 g;exact⟨D,D⟩),(by rw[b];intro a d;cases d),(by rw[j];exact Nat.zero_le _)⟩,i⟩
def Hw:Uv sw:=NT (.inl rfl) rfl rfl (n:=3) rfl rfl rfl YK (by rw[wj];decide)
def S7:Uv Qi:=NT (.inr ⟨rfl,rfl⟩) rfl rfl (n:=1) rfl rfl rfl YK (by rw[Hf];decide)
def Gi(w:U)(e:Ed)(a:e.gaps=[]):XY Xz 19 #[YE (P e fg),YE (P e fg)] w λr w'=>r=YC (Yz Y)/\Yl w.heap.size w w':=by
 have n:=pF w w.heap.size;have h:=rV w e e I I 0 0 (by rw[a];exact n) (by rw[a];exact n) (λ_=>rfl);rw[(sS e e).2 rfl,a] at h;exact h
def Ju(w:U)(a:Gl w)(f:9<=w.heap.size):XY Xz 6 #[] w λr w'=>r=YC (Yz Y)/\Yl w.heap.size w w':=by
 have c1:=zD w sw Hw a f;rw[wj] at c1;have c1:=A c1;have l:=A a;have q:aT w w.heap.size I 0 sw.gaps:=pF _ _;clear a q;go_enter func6,ntmps6;go_wp2_with(first
  |(go_at_call 19;refine(Gi _ sw H).mono ?_;rintro r u ⟨rfl,j⟩;have m:=A (k.o.trans (j.mono k.o.size));clear j)
  |(go_at_call 18;refine(Nh Sh sw o Hw YK R R wj Zz (l.o.keep g.o f) D).mono ?_;rintro r i ⟨rfl,c⟩;have n:=A (EC.new i (P sw fg));have k:=A ((g.o.trans (c.mono g.o.size)).alloc (by have:=c.size;omega) (.cells (P sw fg) 50));clear c)
  |(go_at_call 9;refine(zD W1 Qi S7 (l.o.keep d.o f) D).mono ?_;rw[Hf];rintro r o ⟨rfl,b⟩;have s:=b.size;have g:=A (d.o.trans (b.mono d.o.size));clear b)
  |(go_at_call 9;refine c1.o.mono ?_;rintro r W1 ⟨rfl,e⟩;have t:=e.size;have d:=A e;clear e)
  |(refine jQ Zb _ rfl _ rfl _ (EC.heap n.o) R ?_)
  |(refine wpList_store_row rfl 50 _ _ rfl _ _ rfl rfl 50 _ (XZ i _) R R R ?_)
  |(refine qc Zb 50 #[(0,.const (G F 12)),(9,.const (G F 5)),(1,.const (G F 1))] rfl R ?_;rw[show Value.agg (Option.getD (Xz.built 50 _) #[])=YE (P Qi fg) from R])
  |(refine qc Zb 50 #[(0,.const (G F 8)),(9,.const (G F 3))] rfl R ?_;rw[show Value.agg (Option.getD (Xz.built 50 _) #[])=YE (P sw fg) from R]))
 go_ret;exact⟨H,m.o⟩
end
end Go.Proofs.YtnepbjnlmkppmaaGreatDoor

