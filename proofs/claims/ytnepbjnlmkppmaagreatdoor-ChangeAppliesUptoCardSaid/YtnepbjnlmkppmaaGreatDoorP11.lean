/- ChangeApplies of kingpostlaw58: part 11 of its proof (merged and shortened by program). -/
import Derived.Test.YtnepbjnlmkppmaaGreatDoorRows
import Derived.Laws.OwnMore
import Derived.Test.YtnepbjnlmkppmaaGreatDoorP08
import Derived.Test.YtnepbjnlmkppmaaGreatDoorP09
import Derived.Test.YtnepbjnlmkppmaaGreatDoorP20
set_option linter.unusedVariables false
set_option linter.unusedSimpArgs false
set_option linter.defProp false
set_option maxHeartbeats 8000000
set_option maxRecDepth 100000
open Go.RowKit Go.Shelf Go.Proofs.Tryz
open Array renaming getElem?_eq_some_iff→XV
open Bool renaming false→O,true→Y
open Decidable renaming decide→YG
open Go renaming World→U,undef→M,Value→Z,wpOp_step→XR,Calls→XY,TypeId→Yj,maxLen→Yk,Addr→Ym
open Go.Ending renaming returned→YC
open Go.IntKind renaming i64→F
open Go.IntWalk renaming i64_in→Yh
open Go.Lib renaming hid→A
open Go.Proofs.Tryz renaming prog→Xz,underlying34→XA,underlying50→XB
open Go.RowKit renaming intOf→Yf,Below→Yl
open Go.Value renaming slice→V,string→Yy,bool→Yz,pointer→YA,int→G,agg→YE,tuple→YF
open Go.World renaming alloc_heap_new→XZ,size_alloc→Ya
open List renaming getD_eq_getElem?_getD→XJ,getElem?_eq_getElem→XO,length_map→XP,length_append→Yc,length→ln
open Nat renaming le_refl→XE,mul_comm→Yd,le_trans→Ye
open Option renaming none→I,some→L
open Go.Proofs.YtnepbjnlmkppmaaGreatDoor
variable{C cs:Array Z}{d:Bool}{E x y idx:Int}{l:List Int}{xs r vals X:List Z}{c n q vb gc k b m base g i:Nat}{ga S:Option Ym}{p:Prop}{α T:Type}{w W' wr W1 Q W W2 w':U}{z v' x0 u:Z}{t e:Yj}{j J:bO}{a a':cO}
namespace Go.Proofs.YtnepbjnlmkppmaaGreatDoor
section
open Kp
attribute [local go_sem] bJ gE fX gA gC fN fG fU fI gD gy dQ dO dR dn dq
attribute [local go_sem] aF eO eR eK eB eM
def TC(l:List Aw)(x:Aw)(f:Nat):∀lo hi,lo<=hi->Hc l x f lo hi<=hi:=by
 induction f with
 |zero=>intro lo hi h;exact h
 |succ f a=>
  intro lo hi h;unfold Hc;split
  ·split
   ·exact a _ _ D
   ·exact Ye (a _ _ D) D
  ·exact h
def O2(l:List Aw)(x:Aw):zn l x<=ln l:=TC l x _ 0 _ (Nat.zero_le _)
theorem JC.VP(h:JC w c j a)(b:c≠n)(cs:Array Z):JC (w.setRow n cs) c j a:=by
 exact a00
def ub(l:List Aw)(x:Aw):List Aw:=if F2 l x then l.set (zn l x) x else de l (zn l x) x
abbrev nO(e:Ed):Aw:=⟨e.awidth,e.adepth,e.aspacing,e.aload,e.aspan⟩
def JQ(w:U)(c:Nat)(j:bO)(a:cO)(e:Ed)(g:Z)(s:JC w c j a){X:Nat->Prop}(n:fP X w c j a)(q:ln j.spans<=1000000):
  XY Xz 77 #[YA (L ⟨c,0,I⟩),YE (P e g)] w λx w'=>x=YC (G F 0)/\∃a',kW X c w w' {j with spans:=ub j.spans (nO e)} a':=by
 have aj:=s.lt;obtain⟨Q,o⟩:=aa (w.alloc (.cells (P e g) 50));have T:EC Q w.heap.size (P e g):=Zv;have y:Ext w Q:=Ze;have hJ:=s.ext y;have B:=(Hs Q a.sa a.sc (aO j.spans) ((n.s.below (y.mono (Nat.le_of_lt aj))).more (Ye (Nat.le_of_lt aj) y.size)) (bQ (f:=iI) (λ_=>rfl) _) (zQ _) ZP);rw[XP] at B;have B:=A B;have V:=A (bQ (f:=iI) (λ_=>rfl) j.spans:dv 5 (aO j.spans));have KS:=A (λ(W:U) (S:Option Ym) (an:Nat) (h:bR 5 W W.heap.size S an (aO j.spans))=>No W S an j.spans (nO e) h q);have hI:=O2 j.spans (nO e);have K:F2 j.spans (nO e)=Y->zn j.spans (nO e)<ln j.spans:=λh=>by
  unfold F2 at h;rw[Bool.and_eq_true] at h;exact Yq h.1
 have M:ub j.spans (nO e)=if F2 j.spans (nO e) then j.spans.set (zn j.spans (nO e)) (nO e) else de j.spans (zn j.spans (nO e)) (nO e):=rfl;obtain⟨m,hm⟩:=aa (zn j.spans (nO e));obtain⟨d,hd⟩:=aa (F2 j.spans (nO e));rw[hm] at hI K M;rw[hd] at K M;simp only[hm,hd] at KS;rw[M];have HJ:=A hJ;have N:=A y;have ab:=A T;have HW:=A o;have aG:=hJ.cell 14;have z:=λi=>T.cell i
 have t:=A (show(aO j.spans).length=ln j.spans by exact XP _);have aB:=A q;cases d with
 |true=>
  have ay:=K H;have az:=A ay;have aF:(m:Int)<(ln j.spans:Int):=D;rw[XT rfl];have HF:=A (λ(W1:U) (v:Z) (hx:Ext w W1) (b:W1.ownsRow w.heap.size 48 5 v (aO j.spans).length ((aO j.spans).set m (iI (nO e))).flatten)=>BU (l:=j.spans.set m (nO e)) s n hx (by
   have he:(aO j.spans).set m (iI (nO e))=aO (j.spans.set m (nO e)):=by simp[List.map_set]
   rw[he,t.o] at b;rw[XP,List.length_set];exact b))
  clear s n hJ T y hm hd M K q HW;subst o;go_enter func77,ntmps77;go_wp2_with(first
   |(refine bZ rfl 48 _ _ rfl _ _ _ rfl rfl 48 _ ao.o R HS.o R ?_;have ap:=A ((HJ.o.ext (C.o)).VP ax.o (putAt cur (m*5) #[G F e.awidth,G F e.adepth,G F e.aspacing,G F e.aload,G F e.aspan]));have O:=ap.o.cell 14;have f3:=ap.o.frozen 14)
   |(go_at_call 143;have ac:=E;clear E;refine(KS.o _ _ _ ac).mono ?_;rintro e W2 ⟨rfl,k⟩;have z2:=λi=>(ab.o.ext (J.o.tr k)).cell i;have ao:=A ((k.block gg (XV.1 HH.o).1).trans HH.o);have C:=A (J.o.tr k);clear k)
   |(go_at_call 142;refine B.o.mono ?_;rintro e W1 ⟨v,rfl,b,r⟩;have aC:=bK b t.o V.o;obtain⟨gg,cp,cur,rfl,n,hh,q1,q2,O,q4⟩:=j1 b D;have HH:=A hh;have HQ:=A O;have aq:=A q4;have J:=A r;have HB:=A n;have HS:=A (show m*5+5<=cur.size by rw[O];omega);obtain⟨A',aD,hv,E⟩:=aC;obtain⟨rfl,rfl⟩:L ⟨gg,0,I⟩=A'/\cp=aD:=(by injection hv with h1 h2 h3;exact⟨h1,h3⟩);have z1:=λi=>(ab.o.ext r).cell i;have ax:=A (show c≠gg by have:=N.o.size;omega);have af:=A (show w.heap.size<=gg by have:=N.o.size;omega);have au:=A q1;have av:=A q2;clear b hh q1 q2 O q4 r n hv))
  go_ret;exact⟨H,HF.o _ _ (al (N.o.tr C.o) af.o _) (by rw[t.o];exact jn af.o ao.o au.o av.o HQ.o aq.o t.o V.o H az.o)⟩
 |false=>
  rw[XQ YK];have ak:de (aO j.spans) m (iI (nO e))=aO (de j.spans m (nO e)):=by unfold de;simp[List.map_take,List.map_drop]
  have HF:=A (λ(W1:U) (v:Z) (hx:Ext w W1) (b:W1.ownsRow w.heap.size 48 5 v (ln j.spans+1) (de (aO j.spans) m (iI (nO e))).flatten)=>BU (l:=de j.spans m (nO e)) s n hx (by
   rw[ak] at b;rw[XP,mP _ _ _ hI];exact b))
  have HI:=A hI;clear s n hJ T y hm hd M K q HW hI ak;have KI:=A (λ(W:U) (v:Z) (vb:Nat) (hx:Ext Q W) (b:W.ownsRow Q.heap.size 48 5 v (ln j.spans) (aO j.spans).flatten) (hr:ai W vb 48 (iI (nO e))) (aA:v.ownBlock≠L vb)=>
   NN W Q.heap.size (ln j.spans) m vb 1 v (aO j.spans) (iI (nO e)) b t.o V.o (zQ _) rfl (by intro u hu;simp at hu;rcases hu with rfl|rfl|rfl|rfl|rfl<;>rfl) hr aA HI.o aB.o hx.size)
  subst o;go_enter func77,ntmps77;go_wp2_with(first
   |(go_at_call 145;have ag:=ah;clear ah;refine(KI.o _ _ _ (C.o.tr ((XI _ _).alloc (XE _) _)) (bD ag.o ((XI _ _).alloc (XE _) _)) (ai.new _ _ _) (λh=>by have:=(aH ag.o _ h).2;omega)).mono ?_;rintro e W3 ⟨v3,rfl,ad,am⟩;obtain⟨A3,n3,c3,ar⟩:=rX.of ad;have ae:=A (((C.o.tr ((XI _ _).alloc (XE _) _)).trans am));have aw:=A ad;have O:=(HJ.o.ext ae.o).cell 14;have f3:=(HJ.o.ext ae.o).frozen 14;subst ar;clear ad am)
   |(go_at_call 143;have ac:=E;clear E;refine(KS.o _ _ _ ac).mono ?_;rintro e W2 ⟨rfl,k⟩;have z2:=λi=>(ab.o.ext (J.o.tr k)).cell i;have ah:=A (bD aE.o k);have C:=A (J.o.tr k);clear k)
   |(go_at_call 142;refine B.o.mono ?_;rintro e W1 ⟨v,rfl,b,r⟩;obtain⟨A1,c1,hv,E⟩:=bK b t.o V.o;have J:=A r;have aE:=A b;subst hv;have z1:=λi=>(ab.o.ext r).cell i;clear b r))
  go_ret;exact⟨H,HF.o _ _ (N.o.tr ae.o) (ft aw.o N.o.size)⟩
end
section
open Kp
attribute [local go_sem] bJ gE fX gA gC fN fG fU fI gD gy dQ dO dR dn dq
attribute [local go_sem] aF dG eV dd
def Nq{α a:Type}(f:α->a)(l:List α)(i:Nat)(x:α):de (l.map f) i (f x)=(de l i x).map f:=by
 unfold de;simp[List.map_take,List.map_drop]
structure pX(Q:U)(t:Yj)(k n i:Nat)(rows:List (List Z))(x:List Z)(val:Nat->Z)(ab:Nat->Bool)(N:Nat->Z)(W:U):Prop where
 vals:∀q,ab q=Y->q≠5->q≠9->q≠10->N q=val q
 ext:Ext Q W
 own:ab 10=O->ab 5=Y->W.ownsRow Q.heap.size t k (N 5) n rows.flatten
 bld:ab 10=O->ab 9=Y->∃vb,N 9=V (L ⟨vb,0,I⟩) 1 1/\ai W vb t x/\(ab 5=Y->(N 5).ownBlock≠L vb)
 ord:ab 10=Y->ab 5=Y/\ab 9=Y
 ins:ab 10=Y->W.ownsRow Q.heap.size t k (N 10) (n+1) (de rows i x).flatten
variable {Q W : U} {t : Yj} {k n i : Nat} {rows : List (List Z)} {x : List Z} {val : Nat → Z} {ab : Nat → Bool} {N : Nat → Z}
def pX.start(h:Ext Q W):pX Q t k n i rows x val (λ_=>O) (λ_=>M) W:=
 ⟨λ_ h=>YM,h,λ_ h=>YM,λ_ h=>YM,λh=>YM,λh=>YM⟩
theorem pX.pure(h:pX Q t k n i rows x val ab N W)(f:q≠5)(g:q≠9)(d:q≠10){v:Z}(l:v=val q):pX Q t k n i rows x val (kn ab q) (bN N q v) W:=by
 refine⟨λm j a b c=> ?_,h.ext,?_,?_,?_,?_⟩
 ·by_cases e:m=q
  ·subst e;rw[dI];exact l
  ·rw[bF e];rw[aj e] at j;exact h.vals m j a b c
 ·rw[aj (Ne.symm d),aj (Ne.symm f),bF (Ne.symm f)];exact h.own
 ·rw[aj (Ne.symm d),aj (Ne.symm g),aj (Ne.symm f),bF (Ne.symm g),bF (Ne.symm f)];exact h.bld
 ·rw[aj (Ne.symm d),aj (Ne.symm f),aj (Ne.symm g)];exact h.ord
 ·rw[aj (Ne.symm d),bF (Ne.symm d)];exact h.ins
theorem pX.clone(h:pX Q t k n i rows x val ab N W)(g:ab 10=O){v:Z}(hx:Ext W W')(j:W'.ownsRow W.heap.size t k v n rows.flatten):pX Q t k n i rows x val (kn ab 5) (bN N 5 v) W':=by
 refine⟨λm f a b c=> ?_,h.ext.tr hx,?_,?_,?_,?_⟩
 ·rw[bF a];rw[aj a] at f;exact h.vals m f a b c
 ·intro _ _;rw[dI];exact ft j h.ext.size
 ·rw[aj YK,aj YK,bF YK];intro a b;obtain⟨vb,e,d,_⟩:=h.bld a b;refine⟨vb,e,d.ext hx,λ_=> ?_⟩;rw[dI];intro l;have:=(aH j vb l).1;have:=d.lt;omega
 ·exact a2h
 ·exact a2h
theorem pX.build(h:pX Q t k n i rows x val ab N W)(g:ab 10=O)(hx:Ext W W')(f:ai W' vb t x)(l:W.heap.size<=vb):pX Q t k n i rows x val (kn ab 9) (bN N 9 (V (L ⟨vb,0,I⟩) 1 1)) W':=by
 refine⟨λm d a b c=> ?_,h.ext.tr hx,?_,?_,?_,?_⟩
 ·rw[bF b];rw[aj b] at d;exact h.vals m d a b c
 ·rw[aj YK,aj YK,bF YK];intro a b;exact bD (h.own a b) hx
 ·rw[aj (k:=10) YK,fM,aj (k:=5) YK,dI,bF (k:=5) YK];intro a _;refine⟨vb,H,f,λj e=> ?_⟩;have:=(aH (h.own a j) vb e).2;omega
 ·exact a2h
 ·exact a2h
theorem pX.insert(h:pX Q t k n i rows x val ab N W)(g:ab 5=Y)(e:ab 9=Y){v:Z}(hx:Yl Q.heap.size W W')(f:W'.ownsRow Q.heap.size t k v (n+1) (de rows i x).flatten):pX Q t k n i rows x val (kn ab 10) (bN N 10 v) W':=by
 refine⟨λm d a b c=> ?_,h.ext.trans hx,?_,?_,?_,?_⟩
 ·rw[bF c];rw[aj c] at d;exact h.vals m d a b c
 ·rw[fM];intro h;cases h
 ·rw[fM];intro h;cases h
 ·intro _;rw[aj (k:=5) YK,aj (k:=9) YK];exact⟨g,e⟩
 ·intro _;rw[dI];exact f
def qs(c b:Nat)(e:Ed)(S:Option Ym)(n a m:Nat):Nat->Z
 |0=> YA (L ⟨c,0,I⟩)
 |1=> YA (L ⟨c,0,I⟩)
 |2=> YA (L ⟨c,0,I⟩)
 |3=> YA (L ⟨c,4,I⟩)
 |4=> V S n a
 |6=> G F (m:Int)
 |7=> YA (L ⟨b,35,I⟩)
 |8=> G F e.number
 |11=> YA (L ⟨c,0,I⟩)
 |12=> YA (L ⟨c,4,I⟩)
 |_=>M
def Dy(w:U)(c:Nat)(j:bO)(a:cO)(e:Ed)(g:Z)(C:JC w c j a){X:Nat->Prop}(hb:fP X w c j a)(hp:iv j.purlins=0):
  XY Xz 67 #[YA (L ⟨c,0,I⟩),YE (P e g)] w λx w'=>x=YC (G F (if j.purlins.contains e.number then 7 else 0))/\ew c w w'/\(j.purlins.contains e.number=O->∃a',kW X c w w' {j with purlins:=de j.purlins (j.purlins.countP (· <e.number)) e.number} a'):=by
 have ac:=C.lt;obtain⟨hs,ah⟩:=tH hp;obtain⟨Q,o⟩:=aa (w.alloc (.cells (P e g) 50));have HZ:EC Q w.heap.size (P e g):=Zv;have t:Ext w Q:=Ze;have hJ:=C.ext t;have HU:=A (λ(W:U) (h:Ext Q W)=>(((hb.u.below ((t.tr h).mono (Nat.le_of_lt ac))).more (Ye (Nat.le_of_lt ac) (t.tr h).size)):bR 1 W W.heap.size a.ua a.uc (aU j.purlins)));have KB:=A (λ(W:U) (h:Ext Q W)=>RO W a.ua a.uc j.purlins e.number (HU.o W h) hs D);have J:j.purlins.countP (· <e.number)<=ln j.purlins:=List.countP_le_length;obtain⟨m,E⟩:=aa (j.purlins.countP (· <e.number));obtain⟨d,k⟩:=aa (j.purlins.contains e.number);rw[E] at J;simp only[E,k] at KB;rw[E,k];have S:=A hJ;have ar:=A t;have af:=A HZ;have HW:=A o;have b4:=λw' (h:Ext Q w')=>(S.o.ext h).cell 4
 have ap:=λw' (h:Ext Q w')=>(af.o.ext h).cell 35
 have al:=A (λ(W1:U) (hx:Ext Q W1)=>(ew.ext (t.tr hx) ac:ew c w W1));cases d with
 |true=>
  clear C hb hJ HZ t E k hs hp J o;go_enter func67,ntmps67;go_wp2_with fail
  rw[HW.o]
  go_region_held3(λw'=>Ext Q w') (first|exact B|exact Ext.dr Q) (first|(go_at_call 133;refine(KB.o _ (Ext.dr Q)).mono ?_;rintro e W1 ⟨rfl,Y⟩;have B:Ext Q W1:=(Ext.dr Q).tr Y))
  go_wp2;go_ret;exact⟨H,al.o _ B⟩
 |false=>
  have ag:de (aU j.purlins) m [G F e.number]=aU (de j.purlins m e.number):=Nq (λn:Int=>([G F n]:List Z)) j.purlins m e.number;have HF:=A (λ(W1:U) (v:Z) (hx:Ext Q W1) (r:W1.ownsRow Q.heap.size 3 1 v (ln j.purlins+1) (de (aU j.purlins) m [G F e.number]).flatten)=>I7 (l:=de j.purlins m e.number) C hb (t.tr hx) (by rw[ag] at r;rw[XP,mP _ _ _ J];exact ft r t.size));have KC:=A (λ(W:U) (h:Ext Q W)=>Hk W a.ua a.uc (aU j.purlins) (HU.o W h) (bQ (f:=λn=>[G F n]) (λ_=>rfl) _) (wG _) (by rw[XP];omega));have T:=A (show(aU j.purlins).length=ln j.purlins by exact XP _);have an:=A J;have ao:=A ah;clear C hb hJ HZ t E k hs hp J ag ah o;go_enter func67,ntmps67;go_wp2_with fail
  rw[HW.o]
  go_region_held3(λw'=>Ext Q w') (first|exact B|exact Ext.dr Q) (first|(go_at_call 133;refine(KB.o _ (Ext.dr Q)).mono ?_;rintro e W1 ⟨rfl,Y⟩;have B:Ext Q W1:=(Ext.dr Q).tr Y))
  go_wp2_with fail
  have am:=A B;clear Y B;refine wp_region_any R (cP 13 (λN=>⟨#[YA (L ⟨c,0,I⟩),YE (P e g),M,YA (L ⟨w.heap.size,0,I⟩),G F 0,G F (m:Int),Yz O,YF #[G F (m:Int),Yz O],YA (L ⟨c,0,I⟩),YA (L ⟨c,0,I⟩),YA (L ⟨c,4,I⟩),V a.ua (ln j.purlins) a.uc,YA (L ⟨w.heap.size,35,I⟩),G F e.number,YF #[G F (m:Int),Yz O],G F (m:Int),Yz O,Yz O,N 0,N 1,N 2,N 3,N 4,N 5,N 6,N 7,N 8,N 9,N 10,N 11,N 12],[]⟩)
   (λab N W=>pX Q 3 1 (ln j.purlins) m (aU j.purlins) [G F e.number] (qs c w.heap.size e a.ua (ln j.purlins) a.uc m) ab N W) R ?step ?tail (λ_=>M) _ (pX.start (am.o.tr (Ext.dr _))))
  case step=>
   intro i ab N W hi z y k;have b:=A y;rcases(show i=0\/i=1\/i=2\/i=3\/i=4\/i=5\/i=6\/i=7\/i=8\/i=9\/i=10\/i=11\/i=12 by omega) with rfl|rfl|rfl|rfl|rfl|rfl|rfl|rfl|rfl|rfl|rfl|rfl|rfl<;>clear hi y<;>refine XR rfl (λaq s=> ?_)
   ·go_simp;exact s _ _ ⟨qs c w.heap.size e a.ua (ln j.purlins) a.uc m 0,by simp[bN,qs],b.o.pure YK YK YK rfl⟩
   ·go_simp;exact s _ _ ⟨qs c w.heap.size e a.ua (ln j.purlins) a.uc m 1,by simp[bN,qs],b.o.pure YK YK YK rfl⟩
   ·have d1:=b.o.vals 1 (k 1 R) YK YK YK;simp only[qs] at d1;go_simp;exact s _ _ ⟨qs c w.heap.size e a.ua (ln j.purlins) a.uc m 2,by simp[bN,qs,d1],b.o.pure YK YK YK rfl⟩
   ·have d2:=b.o.vals 2 (k 2 R) YK YK YK;simp only[qs] at d2;go_simp;exact s _ _ ⟨qs c w.heap.size e a.ua (ln j.purlins) a.uc m 3,by simp[bN,qs,d2],b.o.pure YK YK YK rfl⟩
   ·have d3:=b.o.vals 3 (k 3 R) YK YK YK;simp only[qs] at d3;have mm:=(S.o.ext b.o.ext).cell 4;go_simp;exact s _ _ ⟨qs c w.heap.size e a.ua (ln j.purlins) a.uc m 4,by simp[bN,qs,d3],b.o.pure YK YK YK rfl⟩
   ·have d4:=b.o.vals 4 (k 4 R) YK YK YK;simp only[qs] at d4;have hx:=A b.o.ext;have ad:ab 10=O:=by
      cases q:ab 10 with
      |false=>rfl
      |true=>exact absurd (b.o.ord q).1 (by rw[z];decide)
    go_simp;rw[<-T.o];refine(KC.o _ hx.o).mono ?_;rintro x W2 ⟨v,rfl,r,hX⟩;rw[T.o] at r;exact s _ _ ⟨v,by simp[bN,d4,T.o],b.o.clone ad hX r⟩
   ·go_simp;exact s _ _ ⟨qs c w.heap.size e a.ua (ln j.purlins) a.uc m 6,by simp[bN,qs],b.o.pure YK YK YK rfl⟩
   ·go_simp;exact s _ _ ⟨qs c w.heap.size e a.ua (ln j.purlins) a.uc m 7,by simp[bN,qs],b.o.pure YK YK YK rfl⟩
   ·have d7:=b.o.vals 7 (k 7 R) YK YK YK;simp only[qs] at d7;have mm:=(af.o.ext b.o.ext).cell 35;go_simp;exact s _ _ ⟨qs c w.heap.size e a.ua (ln j.purlins) a.uc m 8,by simp[bN,qs,d7],b.o.pure YK YK YK rfl⟩
   ·have d8:=b.o.vals 8 (k 8 R) YK YK YK;simp only[qs] at d8;have ad:ab 10=O:=by
      cases q:ab 10 with
      |false=>rfl
      |true=>exact absurd (b.o.ord q).2 (by rw[z];decide)
    go_simp;exact s _ _ ⟨_,by simp[bN,d8],b.o.build ad ((XI _ _).alloc (XE _) _) (ai.new _ _ _) (XE _)⟩
   ·have d6:=b.o.vals 6 (k 6 R) YK YK YK;simp only[qs] at d6;have h5:=k 5 R;have h9:=k 9 R;have r:=b.o.own z h5;obtain⟨vb,K,hr,aj⟩:=b.o.bld z h9;have KI:=A (OX W Q.heap.size (ln j.purlins) m vb 1 (N 5) (aU j.purlins) [G F e.number] r T.o (bQ (f:=λn=>[G F n]) (λ_=>rfl) _) (wG _) H ZW hr (aj h5) an.o (by have:=ao.o;omega) b.o.ext.size);clear r hr aj;go_simp;refine KI.o.mono ?_;rintro x W2 ⟨v,rfl,r,hX⟩;exact s _ _ ⟨v,by simp[bN,d6,K],b.o.insert h5 h9 hX r⟩
   ·have d0:=b.o.vals 0 (k 0 R) YK YK YK;simp only[qs] at d0;go_simp;exact s _ _ ⟨qs c w.heap.size e a.ua (ln j.purlins) a.uc m 11,by simp[bN,qs,d0],b.o.pure YK YK YK rfl⟩
   ·have ak:=b.o.vals 11 (k 11 R) YK YK YK;simp only[qs] at ak;go_simp;exact s _ _ ⟨qs c w.heap.size e a.ua (ln j.purlins) a.uc m 12,by simp[bN,qs,ak],b.o.pure YK YK YK rfl⟩
  case tail=>
   intro ab N W z y;have ae:=y.vals 12 (z 12 YK) YK YK YK;simp only[qs] at ae;have r:=y.ins (z 10 YK);obtain⟨A1,n1,c1,K⟩:=rX.of r;rw[K] at r;have HO:=A r;have HE:=A y.ext;have mm:=(S.o.ext HE.o).cell 4;have nn:=(S.o.ext HE.o).frozen 4;clear r y;simp only[ae,K,List.drop_succ_cons,List.drop_zero];go_wp2;go_ret;exact⟨H,((al.o W HE.o).put 4 _),HF.o W _ HE.o HO.o⟩
end
section
open Kp
attribute [local go_sem] bJ gE fX gA gC fN fG fU fI gD gy dQ dO dR dn dq
attribute [local go_sem] aF dG eV gJ il gL gK gM gN gW gZ en ef eh dZ dk eL eP dW dX dU dV eo dt eH eI dY eO eR eK eB eM ff eY fe eZ dd dP
def Hh(p:Nat->Bool)(n:Nat): -1<=ka p n/\ka p n<(n:Int):=by
 induction n with
 |zero=>unfold ka;omega
 |succ n a=>
  unfold ka;split
  ·split <;>omega
  ·omega
def Hy(l:List Sz)(k:Int):Int:=if ka (λi=>(l.getD i ir).kind==k) (ln l)<0 then(ln l:Int) else ka (λi=>(l.getD i ir).kind==k) (ln l)
def Tz(l:List Sz)(k:Int):cM (ln l) (Hy l k)=0:=by
 have:=Hh (λi=>(l.getD i ir).kind==k) (ln l);unfold Hy cM;split <;>rw[XT D]
def Fo(s:Sz)(w:U)(B:Nat)(e:Ed)(g:Z)(a:EC w B (P e g)):
  XY Xz 138 #[YE (yV s).toArray,YA (L ⟨B,0,I⟩)] w λx w'=>x=YC (Yz (s.kind==e.zkind))/\Ext w w':=by
 have b:=A (show Ext w (w.alloc (.cells (yV s).toArray 41)) from(XI _ _).alloc (XE _) _);have c:=(a.ext b.o).cell 14;have f:=a.lt;obtain⟨r,d⟩:=aa (s.kind==e.zkind);rw[d];clear a;go_enter func138,ntmps138;go_wp2;go_ret;exact⟨H,b.o⟩
def O3(l:List Sz)(w:U)(B:Nat)(e:Ed)(g:Z)(a:EC w B (P e g)):zk 138 #[YA (L ⟨B,0,I⟩)] 3 (bf l) (λi=>(l.getD i ir).kind==e.zkind) w:=by
 intro W i hi hx;rw[XP] at hi;have:(bf l).getD i []=yV (l.getD i ir):=by simp[XJ,hi]
 rw[this];exact Fo _ W B e g (a.ext hx)
def vf(c b:Nat)(e:Ed)(S:Option Ym)(n a:Nat)(m:Int):Nat->Z
 |0=> YA (L ⟨c,0,I⟩)
 |1=> YA (L ⟨c,0,I⟩)
 |2=> YA (L ⟨c,0,I⟩)
 |3=> YA (L ⟨c,6,I⟩)
 |4=> V S n a
 |5=> G F m
 |6=> YA (L ⟨b,14,I⟩)
 |7=> YE #[G F e.zkind,G F e.zwidth,G F e.zdepth]
 |11=> G F (cM n m)
 |12=> YA (L ⟨c,0,I⟩)
 |13=> YA (L ⟨c,6,I⟩)
 |_=>M
theorem Hv(h:p:=by
   intro i ab N W hi hL hI hd;have HI:=A hI;rcases(show i=0\/i=1\/i=2\/i=3\/i=4\/i=5\/i=6\/i=7\/i=8\/i=9\/i=10\/i=11\/i=12\/i=13\/i=14 by omega) with rfl|rfl|rfl|rfl|rfl|rfl|rfl|rfl|rfl|rfl|rfl|rfl|rfl|rfl|rfl<;>clear hi hI<;>refine XR rfl (λK hK=> ?_)
   ·exact a2k
   ·exact a2k
   ·have d1:=HI.o.vals 1 (hd 1 R) YK;simp only[vf] at d1;go_simp;exact hK _ _ ⟨_,by simp[bN,vf,d1],HI.o.pure YK rfl⟩
   ·have d2:=HI.o.vals 2 (hd 2 R) YK;simp only[vf] at d2;go_simp;exact hK _ _ ⟨_,by simp[bN,vf,d2],HI.o.pure YK rfl⟩
   ·have d3:=HI.o.vals 3 (hd 3 R) YK;simp only[vf] at d3;have hx:=HI.o.load (k:=4) YK hL;have mm:=(n.o.ext hx).cell 6;clear hx;go_simp;exact hK _ _ ⟨_,by simp[bN,vf,d3],HI.o.pure YK rfl⟩
   ·exact a2k
   ·exact a2k
   ·have d6:=HI.o.vals 6 (hd 6 R) YK;simp only[vf] at d6;have hx:=HI.o.load (k:=7) YK hL;have m14:=(z.o.ext hx).cell 14;have m15:=(z.o.ext hx).cell 15;have m16:=(z.o.ext hx).cell 16;clear hx;go_simp;exact hK _ _ ⟨_,by simp[bN,vf,d6],HI.o.pure YK rfl⟩
   ·have d4:=HI.o.vals 4 (hd 4 R) YK;simp only[vf] at d4;have d5:=HI.o.vals 5 (hd 5 R) YK;simp only[vf] at d5;have d7:=HI.o.vals 7 (hd 7 R) YK;simp only[vf] at d7;have hx:=A (HI.o.ext hL);go_simp;rw[<-HL.o];refine(T.o _ hx.o).mono ?_;rintro x W1 ⟨v,hsl,rfl,s,hX⟩;exact hK _ _ ⟨_,by simp[bN,d4,d5,d7,HL.o],HI.o.call hL (by intro k hk;simp at hk;rcases hk with rfl|rfl|rfl<;>exact hd _ R) hX ⟨hsl,λh=>ft (s (HL.o.symm▸h)) (Ye ac.o.size hx.o.size)⟩⟩
   ·go_simp;exact hK _ _ ⟨N 8,by simp[bN],HI.o.move hL (hd 8 R)⟩
   ·obtain⟨v,ht,hn⟩:=HI.o.first hL (hd 9 R);exact a2i
   ·obtain⟨v,ht⟩:=HI.o.Wx (hd 9 R);go_simp;exact hK _ _ ⟨_,by simp[bN,vf,ht],HI.o.pure YK rfl⟩
   ·have d0:=HI.o.vals 0 (hd 0 R) YK;simp only[vf] at d0;go_simp;exact hK _ _ ⟨_,by simp[bN,vf,d0],HI.o.pure YK rfl⟩
   ·have d12:=HI.o.vals 12 (hd 12 R) YK;simp only[vf] at d12;go_simp;exact hK _ _ ⟨_,by simp[bN,vf,d12],HI.o.pure YK rfl⟩
   ·have d13:=HI.o.vals 13 (hd 13 R) YK;simp only[vf] at d13;obtain⟨hx,⟨⟨A1,n1,c1,hv⟩,_⟩,hn⟩:=HI.o.store hL (hd 10 R) H;rw[hv] at hn;have hw:N 10=V A1 n1 c1:=hv;clear hv;have mm:=(n.o.ext hx).cell 6;have nn:=(n.o.ext hx).frozen 6;clear hx;go_simp;exact hK _ _ ⟨M,by simp[bN,d13,hw],hn⟩):p:=h
theorem H9(h:p:=by
   intro ab N W hL hI;obtain⟨he,v,W2,hx,⟨_,s⟩,rfl⟩:=hI.done hL;have h11:N 11=G F (cM (ln j.sizes) m):=he;rw[ae.o] at h11;have HX:=A hx;have HO:=A (s ae.o);clear hx s he hI;simp only[h11,List.drop_succ_cons,List.drop_zero];go_wp2;go_ret;exact⟨H,HF.o W2 v HX.o HO.o⟩):p:=h
def Lk(w:U)(c:Nat)(j:bO)(a:cO)(e:Ed)(g:Z)(D:JC w c j a){X:Nat->Prop}(E:fP X w c j a)(q:ln j.sizes<=1000000):
  XY Xz 70 #[YA (L ⟨c,0,I⟩),YE (P e g)] w λx w'=>x=YC (G F 0)/\∃a',kW X c w w' {j with sizes:=bm j.sizes (Hy j.sizes e.zkind) ⟨e.zkind,e.zwidth,e.zdepth⟩} a':=by
 have C:=D.lt;obtain⟨Q,o⟩:=aa (w.alloc (.cells (P e g) 50));have S:EC Q w.heap.size (P e g):=Zv;have d:Ext w Q:=Ze;have hJ:=D.ext d;have y:=A (zL Q a.za a.zc (ln j.sizes) (bf j.sizes) (XP _) ((E.z.below (d.mono (Nat.le_of_lt C))).more (Ye (Nat.le_of_lt C) d.size)) (bQ (f:=yV) (λ_=>rfl) _) (λi=>(j.sizes.getD i ir).kind==e.zkind) 138 #[YA (L ⟨w.heap.size,0,I⟩)] (enters_of func138 R H) (O3 j.sizes Q w.heap.size e g S));have b:Hy j.sizes e.zkind=(if ka (λi=>(j.sizes.getD i ir).kind==e.zkind) (ln j.sizes)<0 then(ln j.sizes:Int) else ka (λi=>(j.sizes.getD i ir).kind==e.zkind) (ln j.sizes)):=rfl;have hP:=Tz j.sizes e.zkind;obtain⟨x,hx⟩:=aa (ka (λi=>(j.sizes.getD i ir).kind==e.zkind) (ln j.sizes));rw[hx] at y b;obtain⟨m,hm⟩:=aa (Hy j.sizes e.zkind);rw[hm] at b hP⊢;have T:=A (λ(W:U) (h:Ext Q W)=>Pj W a.za a.zc (bf j.sizes) (G F e.zkind) (G F e.zwidth) (G F e.zdepth) m ((E.z.below ((d.tr h).mono (Nat.le_of_lt C))).more (Ye (Nat.le_of_lt C) (d.tr h).size)) (bQ (f:=yV) (λ_=>rfl) _) (Fz _) rfl ZP);have af:bm (bf j.sizes) m [G F e.zkind,G F e.zwidth,G F e.zdepth]=bf (bm j.sizes m ⟨e.zkind,e.zwidth,e.zdepth⟩):=oJ yV j.sizes m ⟨e.zkind,e.zwidth,e.zdepth⟩;have HF:=A (λ(W1:U) (v:Z) (hx:Ext Q W1) (s:W1.ownsRow w.heap.size 41 3 v (bm (bf j.sizes) m [G F e.zkind,G F e.zwidth,G F e.zdepth]).length (bm (bf j.sizes) m [G F e.zkind,G F e.zwidth,G F e.zdepth]).flatten)=>Hz (l:=bm j.sizes m ⟨e.zkind,e.zwidth,e.zdepth⟩) D E (d.tr hx) (by rw[af] at s;exact s));have HL:=A (show(bf j.sizes).length=ln j.sizes by exact XP _);have ae:=A hP;have n:=A hJ;have ac:=A d;have z:=A S;have HW:=A o;have J:=hJ.cell 6;clear D E hJ S d af hx hm hP q;by_cases u:x<0
 ·have t:YG (x<0)=Y:=Yb u;rw[XT u] at b;have ad:=A b;clear b u HW;subst o;go_enter func70,ntmps70;go_wp2_with(go_at_call 137;refine y.o.mono ?_;rintro e W1 ⟨rfl,r⟩;have B:=A r;have J:=(n.o.ext r).cell 6;clear r)
  clear J;obtain⟨Q,o⟩:=aa (w.alloc (.cells (P e g) 50));rw[o] at ac n z B;simp only[o] at T HF;clear o y;rw[<-ad.o];refine wp_region_any R (cP 15 (λN=>⟨#[YA (L ⟨c,0,I⟩),YE (P e g),M,YA (L ⟨w.heap.size,0,I⟩),G F 0,G F m,G F 0,YA (L ⟨c,0,I⟩),YA (L ⟨c,0,I⟩),YA (L ⟨c,6,I⟩),V a.za (ln j.sizes) a.zc,.func (.func 138) #[] #[YA (L ⟨w.heap.size,0,I⟩)],G F x,G F x,Yz Y,YA (L ⟨c,0,I⟩),YA (L ⟨c,0,I⟩),YA (L ⟨c,6,I⟩),V a.za (ln j.sizes) a.zc,G F m,N 9,N 0,N 1,N 2,N 3,N 4,N 5,N 6,N 7,N 8,N 10,N 11,N 12,N 13,M],[]⟩)
   (λab N W=>eJ Q (vf c w.heap.size e a.za (ln j.sizes) a.zc m) (λv W1=>rX v/\(cM (ln j.sizes) m=0->W1.ownsRow w.heap.size 41 3 v (bm (bf j.sizes) m [G F e.zkind,G F e.zwidth,G F e.zdepth]).length (bm (bf j.sizes) m [G F e.zkind,G F e.zwidth,G F e.zdepth]).flatten)) (G F (cM (ln j.sizes) m)) ⟨c,6,I⟩ 8 [4,5,7] ab N W) R ?_ ?_ (λ_=>M) _ (eJ.start (B.o.tr (Ext.dr _))))
  ·exact Hv
  ·exact H9
 ·have t:YG (x<0)=O:=XU u;rw[XQ u] at b;have ad:=A b;clear b u HW;subst o;go_enter func70,ntmps70;go_wp2_with(go_at_call 137;refine y.o.mono ?_;rintro e W1 ⟨rfl,r⟩;have B:=A r;have J:=(n.o.ext r).cell 6;clear r)
  clear J;obtain⟨Q,o⟩:=aa (w.alloc (.cells (P e g) 50));rw[o] at ac n z B;simp only[o] at T HF;clear o y;rw[<-ad.o];refine wp_region_any R (cP 15 (λN=>⟨#[YA (L ⟨c,0,I⟩),YE (P e g),M,YA (L ⟨w.heap.size,0,I⟩),G F 0,G F m,G F 0,YA (L ⟨c,0,I⟩),YA (L ⟨c,0,I⟩),YA (L ⟨c,6,I⟩),V a.za (ln j.sizes) a.zc,.func (.func 138) #[] #[YA (L ⟨w.heap.size,0,I⟩)],G F m,G F m,Yz O,M,M,M,M,M,N 9,N 0,N 1,N 2,N 3,N 4,N 5,N 6,N 7,N 8,N 10,N 11,N 12,N 13,M],[]⟩)
   (λab N W=>eJ Q (vf c w.heap.size e a.za (ln j.sizes) a.zc m) (λv W1=>rX v/\(cM (ln j.sizes) m=0->W1.ownsRow w.heap.size 41 3 v (bm (bf j.sizes) m [G F e.zkind,G F e.zwidth,G F e.zdepth]).length (bm (bf j.sizes) m [G F e.zkind,G F e.zwidth,G F e.zdepth]).flatten)) (G F (cM (ln j.sizes) m)) ⟨c,6,I⟩ 8 [4,5,7] ab N W) R ?_ ?_ (λ_=>M) _ (eJ.start (B.o.tr (Ext.dr _))))
  ·exact Hv
  ·exact H9
end
section
open Kp
attribute [local go_sem] bJ gE fX gA gC fN fG fU fI gD gy dQ dO dR dn dq
attribute [local go_sem] aF dG eV gJ il gL gK gM gN gW gZ en ef eh dZ dk eL eP dW dX dU dV eo dt eH eI dY eO eR eK eB eM ff eY fe eZ dd dP
def sV(a d:Nat)(X:Z)(m:Int)(c b:Nat)(S:Option Ym)(n e:Nat):Nat->Z
 |0=> YA (L ⟨c,0,I⟩)
 |1=> YA (L ⟨c,0,I⟩)
 |2=> YA (L ⟨c,0,I⟩)
 |3=> YA (L ⟨c,a,I⟩)
 |4=> V S n e
 |5=> YA (L ⟨b,1,I⟩)
 |6=> G F m
 |7=> YA (L ⟨b,d,I⟩)
 |8=>X
 |12=> G F (cM n m)
 |13=> YA (L ⟨c,0,I⟩)
 |14=> YA (L ⟨c,a,I⟩)
 |_=>M
theorem Bf(h:p:=by
  intro i ab N W hi hL hI hd;have HI:=A hI;rcases(show i=0\/i=1\/i=2\/i=3\/i=4\/i=5\/i=6\/i=7\/i=8\/i=9\/i=10\/i=11\/i=12\/i=13\/i=14\/i=15 by omega) with rfl|rfl|rfl|rfl|rfl|rfl|rfl|rfl|rfl|rfl|rfl|rfl|rfl|rfl|rfl|rfl<;>clear hi hI<;>refine XR rfl (λK hK=> ?_)
  ·exact a2l
  ·exact a2l
  ·have d1:=HI.o.vals 1 (hd 1 R) YK;simp only[sV] at d1;go_simp;exact hK _ _ ⟨_,by simp[bN,sV,d1],HI.o.pure YK rfl⟩
  ·have d2:=HI.o.vals 2 (hd 2 R) YK;simp only[sV] at d2;go_simp;exact hK _ _ ⟨_,by simp[bN,sV,d2],HI.o.pure YK rfl⟩
  ·have d3:=HI.o.vals 3 (hd 3 R) YK;simp only[sV] at d3;have hx:=HI.o.load (k:=4) YK hL;have mm:=λi=>(m.o.ext hx).cell i
   clear hx;go_simp;exact hK _ _ ⟨_,by simp[bN,sV,d3],HI.o.pure YK rfl⟩
  ·exact a2l
  ·have d5:=HI.o.vals 5 (hd 5 R) YK;simp only[sV] at d5;have hx:=HI.o.load (k:=6) YK hL;have mm:=(r.o.ext hx).cell 1;clear hx;go_simp;exact hK _ _ ⟨_,by simp[bN,sV,d5],HI.o.pure YK rfl⟩
  ·exact a2l
  ·have d7:=HI.o.vals 7 (hd 7 R) YK;simp only[sV] at d7;have hx:=HI.o.load (k:=8) YK hL;have m1:=λi=>(r.o.ext hx).cell i
   clear hx;go_simp;exact hK _ _ ⟨_,by simp[bN,sV,d7],HI.o.pure YK rfl⟩
  ·have d4:=HI.o.vals 4 (hd 4 R) YK;simp only[sV] at d4;have d6:=HI.o.vals 6 (hd 6 R) YK;simp only[sV] at d6;have d8:=HI.o.vals 8 (hd 8 R) YK;simp only[sV] at d8;have hx:=A (HI.o.ext hL);go_simp;rw[<-n.o];refine(t.o _ hx.o).mono ?_;rintro x W1 ⟨v,hsl,rfl,b,hX⟩;exact hK _ _ ⟨_,by simp[bN,d4,d6,d8,n.o],HI.o.call hL (by intro k hk;simp at hk;rcases hk with rfl|rfl|rfl<;>exact hd _ R) hX ⟨hsl,λh=>ft (b (n.o.symm▸h)) (Ye z.o.size hx.o.size)⟩⟩
  ·go_simp;exact hK _ _ ⟨N 9,by simp[bN],HI.o.move hL (hd 9 R)⟩
  ·obtain⟨v,ht,hn⟩:=HI.o.first hL (hd 10 R);exact a2i
  ·obtain⟨v,ht⟩:=HI.o.Wx (hd 10 R);go_simp;exact hK _ _ ⟨_,by simp[bN,sV,ht],HI.o.pure YK rfl⟩
  ·have d0:=HI.o.vals 0 (hd 0 R) YK;simp only[sV] at d0;go_simp;exact hK _ _ ⟨_,by simp[bN,sV,d0],HI.o.pure YK rfl⟩
  ·have d13:=HI.o.vals 13 (hd 13 R) YK;simp only[sV] at d13;go_simp;exact hK _ _ ⟨_,by simp[bN,sV,d13],HI.o.pure YK rfl⟩
  ·have d14:=HI.o.vals 14 (hd 14 R) YK;simp only[sV] at d14;obtain⟨hx,⟨⟨A1,n1,c1,hv⟩,_⟩,hn⟩:=HI.o.store hL (hd 11 R) H;rw[hv] at hn;have hw:N 11=V A1 n1 c1:=hv;clear hv;have mm:=λi=>(m.o.ext hx).cell i
   have nn:=λi=>(m.o.ext hx).frozen i
   clear hx;go_simp;exact hK _ _ ⟨M,by simp[bN,d14,hw],hn⟩):p:=h
theorem Ba(h:p:=by
  intro ab N W hL hI;obtain⟨he,v,W1,hx,⟨_,b⟩,rfl⟩:=hI.done hL;have h12:=he;simp only[Nat.reduceAdd,sV] at h12;have HX:=A hx;have HO:=A b;clear hx b he hI;simp only[h12,List.drop_succ_cons,List.drop_zero];go_wp2;go_ret;exact⟨H,B.o W1 v HX.o,λh=>u.o W1 v HX.o (HO.o h)⟩):p:=h
def Sb(w:U)(c:Nat)(j:bO)(a:cO)(e:Ed)(g:Z)(f:JC w c j a){X:Nat->Prop}(y:fP X w c j a)(q:ln j.openings<=1000000):
  XY Xz 68 #[YA (L ⟨c,0,I⟩),YE (P e g)] w λx w'=>x=YC (G F (cM (ln j.openings) e.index))/\ew c w w'/\(cM (ln j.openings) e.index=0->∃a',kW X c w w' {j with openings:=bm j.openings e.index ⟨e.oside,e.oleft,e.oright,e.olow,e.ohigh⟩} a'):=by
 have s:=f.lt;obtain⟨Q,o⟩:=aa (w.alloc (.cells (P e g) 50));have C:EC Q w.heap.size (P e g):=Zv;have d:Ext w Q:=Ze;have E:=f.ext d;have t:=A (λ(W:U) (h:Ext Q W)=>OE W a.oa a.oc (aV j.openings) (G F e.oside) (Yy (tx e.oleft)) (Yy (tx e.oright)) (Yy (tx e.olow)) (Yy (tx e.ohigh)) e.index ((y.o.below ((d.tr h).mono (Nat.le_of_lt s))).more (Ye (Nat.le_of_lt s) (d.tr h).size)) (lU _) (Bl _) rfl ZP);have D:bm (aV j.openings) e.index [G F e.oside,Yy (tx e.oleft),Yy (tx e.oright),Yy (tx e.olow),Yy (tx e.ohigh)]=aV (bm j.openings e.index ⟨e.oside,e.oleft,e.oright,e.olow,e.ohigh⟩):=oJ uk j.openings e.index ⟨e.oside,e.oleft,e.oright,e.olow,e.ohigh⟩;have u:=A (λ(W1:U) (v:Z) (hx:Ext Q W1) (b:W1.ownsRow w.heap.size 39 5 v (bm (aV j.openings) e.index [G F e.oside,Yy (tx e.oleft),Yy (tx e.oright),Yy (tx e.olow),Yy (tx e.ohigh)]).length (bm (aV j.openings) e.index [G F e.oside,Yy (tx e.oleft),Yy (tx e.oright),Yy (tx e.olow),Yy (tx e.ohigh)]).flatten)=>IK (l:=bm j.openings e.index ⟨e.oside,e.oleft,e.oright,e.olow,e.ohigh⟩) f y (d.tr hx) (by rw[D] at b;exact b));have B:=A (λ(W1:U) (v:Z) (hx:Ext Q W1)=>((ew.ext (d.tr hx) s).put 5 v:ew c w (W1.setCell ⟨c,5,I⟩ v)));have n:=A (show(aV j.openings).length=ln j.openings by exact XP _);have m:=A E;have z:=A d;have r:=A C;have J:=A o;clear o f y E C d D;go_enter func68,ntmps68;go_wp2_with fail
 rw[J.o];refine wp_region_any R (cP 16 (λN=>⟨#[YA (L ⟨c,0,I⟩),YE (P e g),M,YA (L ⟨w.heap.size,0,I⟩),G F 0,N 10,N 0,N 1,N 2,N 3,N 4,N 5,N 6,N 7,N 8,N 9,N 11,N 12,N 13,N 14,M],[]⟩)
  (λab N W=>eJ Q (sV 5 9 (YE #[G F e.oside,Yy (tx e.oleft),Yy (tx e.oright),Yy (tx e.olow),Yy (tx e.ohigh)]) e.index c w.heap.size a.oa (ln j.openings) a.oc) (λv W1=>rX v/\(cM (ln j.openings) e.index=0->W1.ownsRow w.heap.size 39 5 v (bm (aV j.openings) e.index [G F e.oside,Yy (tx e.oleft),Yy (tx e.oright),Yy (tx e.olow),Yy (tx e.ohigh)]).length (bm (aV j.openings) e.index [G F e.oside,Yy (tx e.oleft),Yy (tx e.oright),Yy (tx e.olow),Yy (tx e.ohigh)]).flatten)) (G F (cM (ln j.openings) e.index)) ⟨c,5,I⟩ 9 [4,6,8] ab N W) R ?_ ?_ (λ_=>M) _ (eJ.start (Ext.dr Q)))
 ·exact Bf
 ·exact Ba
end
section
open Kp
attribute [local go_sem] bJ gE fX gA gC fN fG fU fI gD gy dQ dO dR dn dq
attribute [local go_sem] aF dG eV gJ il gL gK gM gN gW gZ en ef eh dZ dk eL eP dW dX dU dV eo dt eH eI dY eO eR eK eB eM ff eY fe eZ dd dP
def PT(w:U)(c:Nat)(j:bO)(a:cO)(e:Ed)(ga:Option Ym)(gc:Nat)(g:JC w c j a){X:Nat->Prop}(q:fP X w c j a)(T:ln j.bars<=1000000)(y:bR 2 w c ga gc (eN e.gaps))(E:∀W,zI X c w W->bR 2 W W.heap.size ga gc (eN e.gaps)):
  XY Xz 71 #[YA (L ⟨c,0,I⟩),YE (P e (V ga (ln e.gaps) gc))] w λx w'=>x=YC (G F (cM (ln j.bars) e.index))/\ew c w w'/\(cM (ln j.bars) e.index=0->∃a',kW X c w w' {j with bars:=bm j.bars e.index ⟨e.bwidth,e.bdepth,e.blength,e.bcount,e.bcost,e.gaps⟩} a'):=by
 have l:=g.lt;obtain⟨rows,d,O,C⟩:=lX q (Nat.le_of_lt g.lt);have Y:=A d;obtain⟨Q,o⟩:=aa (w.alloc (.cells (P e (V ga (ln e.gaps) gc)) 50));have s:EC Q w.heap.size (P e (V ga (ln e.gaps) gc)):=Zv;have f:Ext w Q:=Ze;have J:=g.ext f;have t:=A (λ(W:U) (h:Ext Q W)=>Ph W a.ba a.bc rows (G F e.bwidth) (G F e.bdepth) (G F e.blength) (G F e.bcount) (G F e.bcost) (V ga (ln e.gaps) gc) e.index ((O.below ((f.tr h).mono (Nat.le_of_lt l))).more (Ye (Nat.le_of_lt l) (f.tr h).size)) d.wide d.one rfl (by rw[d.1];exact T));have u:=A (λ(W1:U) (v:Z) (hx:Ext Q W1) (b:W1.ownsRow w.heap.size 44 6 v (bm rows e.index [G F e.bwidth,G F e.bdepth,G F e.blength,G F e.bcount,G F e.bcost,V ga (ln e.gaps) gc]).length (bm rows e.index [G F e.bwidth,G F e.bdepth,G F e.blength,G F e.bcount,G F e.bcost,V ga (ln e.gaps) gc]).flatten)=>IT g q (f.tr hx) (d.put e.index ⟨e.bwidth,e.bdepth,e.blength,e.bcount,e.bcost,e.gaps⟩ ga gc y) (λW D=>(C W D).put e.index ⟨e.bwidth,e.bdepth,e.blength,e.bcount,e.bcost,e.gaps⟩ ga gc (E W D)) b);have B:=A (λ(W1:U) (v:Z) (hx:Ext Q W1)=>((ew.ext (f.tr hx) l).put 7 v:ew c w (W1.setCell ⟨c,7,I⟩ v)));have n:=A (show ln rows=ln j.bars by exact d.1);have m:=A J;have z:=A f;have r:=A s;have S:=A o;clear o g q J s f d O y C E;go_enter func71,ntmps71;go_wp2_with fail
 rw[S.o];refine wp_region_any R (cP 16 (λN=>⟨#[YA (L ⟨c,0,I⟩),YE (P e (V ga (ln e.gaps) gc)),M,YA (L ⟨w.heap.size,0,I⟩),G F 0,N 10,N 0,N 1,N 2,N 3,N 4,N 5,N 6,N 7,N 8,N 9,N 11,N 12,N 13,N 14,M],[]⟩)
  (λab N W=>eJ Q (sV 7 17 (YE #[G F e.bwidth,G F e.bdepth,G F e.blength,G F e.bcount,G F e.bcost,V ga (ln e.gaps) gc]) e.index c w.heap.size a.ba (ln j.bars) a.bc) (λv W1=>rX v/\(cM (ln j.bars) e.index=0->W1.ownsRow w.heap.size 44 6 v (bm rows e.index [G F e.bwidth,G F e.bdepth,G F e.blength,G F e.bcount,G F e.bcost,V ga (ln e.gaps) gc]).length (bm rows e.index [G F e.bwidth,G F e.bdepth,G F e.blength,G F e.bcount,G F e.bcost,V ga (ln e.gaps) gc]).flatten)) (G F (cM (ln j.bars) e.index)) ⟨c,7,I⟩ 9 [4,6,8] ab N W) R ?_ ?_ (λ_=>M) _ (eJ.start (Ext.dr Q)))
 ·exact Bf
 ·exact Ba
end
section
open Kp
attribute [local go_sem] bJ gE fX gA gC fN fG fU fI gD gy dQ dO dR dn dq
attribute [local go_sem] aF dG eV gJ il gL gK gM gN gW gZ en ef eh dZ dk eL eP dW dX dU dV eo dt eH eI dY eO eR eK eB eM ff eY fe eZ dd dP
def Q9(w:U)(c:Nat)(j:bO)(a:cO)(e:Ed)(g:Z)(f:JC w c j a){X:Nat->Prop}(y:fP X w c j a)(q:ln j.aq<=1000000):
  XY Xz 75 #[YA (L ⟨c,0,I⟩),YE (P e g)] w λx w'=>x=YC (G F (cM (ln j.aq) e.index))/\ew c w w'/\(cM (ln j.aq) e.index=0->∃a',kW X c w w' {j with aq:=bm j.aq e.index ⟨e.lkind,e.lside,e.lweight⟩} a'):=by
 have s:=f.lt;obtain⟨Q,o⟩:=aa (w.alloc (.cells (P e g) 50));have C:EC Q w.heap.size (P e g):=Zv;have d:Ext w Q:=Ze;have E:=f.ext d;have t:=A (λ(W:U) (h:Ext Q W)=>Pm W a.la a.lc (bG j.aq) (G F e.lkind) (G F e.lside) (Yy (tx e.lweight)) e.index ((y.l.below ((d.tr h).mono (Nat.le_of_lt s))).more (Ye (Nat.le_of_lt s) (d.tr h).size)) (nN _) (AV _) rfl ZP);have D:bm (bG j.aq) e.index [G F e.lkind,G F e.lside,Yy (tx e.lweight)]=bG (bm j.aq e.index ⟨e.lkind,e.lside,e.lweight⟩):=oJ MK j.aq e.index ⟨e.lkind,e.lside,e.lweight⟩;have u:=A (λ(W1:U) (v:Z) (hx:Ext Q W1) (b:W1.ownsRow w.heap.size 46 3 v (bm (bG j.aq) e.index [G F e.lkind,G F e.lside,Yy (tx e.lweight)]).length (bm (bG j.aq) e.index [G F e.lkind,G F e.lside,Yy (tx e.lweight)]).flatten)=>IG (l:=bm j.aq e.index ⟨e.lkind,e.lside,e.lweight⟩) f y (d.tr hx) (by rw[D] at b;exact b));have B:=A (λ(W1:U) (v:Z) (hx:Ext Q W1)=>((ew.ext (d.tr hx) s).put 13 v:ew c w (W1.setCell ⟨c,13,I⟩ v)));have n:=A (show(bG j.aq).length=ln j.aq by exact XP _);have m:=A E;have z:=A d;have r:=A C;have J:=A o;clear o f y E C d D;go_enter func75,ntmps75;go_wp2_with fail
 rw[J.o];refine wp_region_any R (cP 16 (λN=>⟨#[YA (L ⟨c,0,I⟩),YE (P e g),M,YA (L ⟨w.heap.size,0,I⟩),G F 0,N 10,N 0,N 1,N 2,N 3,N 4,N 5,N 6,N 7,N 8,N 9,N 11,N 12,N 13,N 14,M],[]⟩)
  (λab N W=>eJ Q (sV 13 23 (YE #[G F e.lkind,G F e.lside,Yy (tx e.lweight)]) e.index c w.heap.size a.la (ln j.aq) a.lc) (λv W1=>rX v/\(cM (ln j.aq) e.index=0->W1.ownsRow w.heap.size 46 3 v (bm (bG j.aq) e.index [G F e.lkind,G F e.lside,Yy (tx e.lweight)]).length (bm (bG j.aq) e.index [G F e.lkind,G F e.lside,Yy (tx e.lweight)]).flatten)) (G F (cM (ln j.aq) e.index)) ⟨c,13,I⟩ 9 [4,6,8] ab N W) R ?_ ?_ (λ_=>M) _ (eJ.start (Ext.dr Q)))
 ·exact Bf
 ·exact Ba
end
section
open Kp
def xF(j:bO)(e:Ed):Int:=
 if e.number=4 then cj (ln j.purlins) e.index else if e.number=5 then cj (ln j.openings) e.index else if e.number=6 then cj (ln j.sizes) e.index
 else if e.number=7 then cj (ln j.bars) e.index else if e.number=10 then cj (ln j.aq) e.index else if e.number=11 then cj (ln j.spans) e.index else 8
def xR(j:bO)(e:Ed):bO:=
 if e.number=4 then{j with purlins:=j.purlins.eraseIdx e.index.toNat} else if e.number=5 then{j with openings:=j.openings.eraseIdx e.index.toNat} else if e.number=6 then{j with sizes:=j.sizes.eraseIdx e.index.toNat}
 else if e.number=7 then{j with bars:=j.bars.eraseIdx e.index.toNat} else if e.number=10 then{j with aq:=j.aq.eraseIdx e.index.toNat} else if e.number=11 then{j with spans:=j.spans.eraseIdx e.index.toNat} else j
def dj(j:bO)(e:Ed):Int:=
 if e.kind=2 then kb j.rings e.index else if e.kind=4 then(if j.purlins.contains e.number then 7 else 0) else if e.kind=5 then cM (ln j.openings) e.index
 else if e.kind=7 then cM (ln j.bars) e.index else if e.kind=10 then cM (ln j.aq) e.index else if e.kind=12 then xF j e else 0
def bP(j:bO)(e:Ed):bO:=
 if e.kind=1 then{j with name:=e.text} else if e.kind=2 then{j with rings:=df j.rings e.index (lJ e)} else if e.kind=3 then{j with origin:=e.index,spacing:=e.number}
 else if e.kind=4 then{j with purlins:=de j.purlins (j.purlins.countP (· <e.number)) e.number} else if e.kind=5 then{j with openings:=bm j.openings e.index ⟨e.oside,e.oleft,e.oright,e.olow,e.ohigh⟩}
 else if e.kind=6 then{j with sizes:=bm j.sizes (Hy j.sizes e.zkind) ⟨e.zkind,e.zwidth,e.zdepth⟩} else if e.kind=7 then{j with bars:=bm j.bars e.index ⟨e.bwidth,e.bdepth,e.blength,e.bcount,e.bcost,e.gaps⟩}
 else if e.kind=8 then{j with kerf:=e.number} else if e.kind=9 then{j with tile:=⟨e.twidth,e.tlength,e.tlap,e.ttail⟩} else if e.kind=10 then{j with aq:=bm j.aq e.index ⟨e.lkind,e.lside,e.lweight⟩}
 else if e.kind=11 then{j with spans:=ub j.spans (nO e)} else if e.kind=12 then xR j e else j
structure Fi(j:bO):Prop where
 r:ln j.rings<=1000
 rk:∀k,(j.rings.getD k []).length<=1000
 o:ln j.openings<=1000000
 z:ln j.sizes<=1000000
 b:ln j.bars<=1000000
 l:ln j.aq<=1000000
 s:ln j.spans<=1000000
 u:ln j.purlins<=1000000
theorem sn{B:Nat}{l:List (Int×Int)}(h:aT w B ga gc l):bR 2 w B ga gc (eN l):=by
 obtain⟨h1,h2,d⟩:=h;refine⟨by rw[XP];exact h1,h2,λa=> ?_⟩;rw[XP] at a;obtain⟨c,f,e,g,b⟩:=d a;refine⟨c,f,e,g,λi hi m k=> ?_⟩;rw[XP] at hi;obtain⟨j,c1⟩:=b i hi;rw[pn hi,XJ,XO hi];rcases(show m=0\/m=1 by omega) with rfl|rfl
 ·exact j
 ·exact c1
def PJ(w:U)(c:Nat)(j:bO)(a:cO)(e:Ed)(g:Z)(f:JC w c j a){X:Nat->Prop}(m:fP X w c j a)(k:Fi j):
  XY Xz 78 #[YA (L ⟨c,0,I⟩),YE (P e g)] w λx w'=>x=YC (G F (xF j e))/\ew c w w'/\(xF j e=0->∃a',kW X c w w' (xR j e) a'):=by
 unfold xF xR;by_cases b:e.number=4
 ·simp only[b,Yr];exact Mp w c j a e g f m k.u b
 by_cases d:e.number=5
 ·simp only[b,d,Yr,Yu];exact Oh w c j a e g f m k.o d
 by_cases i:e.number=6
 ·simp only[b,d,i,Yr,Yu];exact Ny w c j a e g f m k.z i
 by_cases l:e.number=7
 ·simp only[b,d,i,l,Yr,Yu];exact PC w c j a e g f m k.b l
 by_cases n:e.number=10
 ·simp only[b,d,i,l,n,Yr,Yu];exact NF w c j a e g f m k.l n
 by_cases o:e.number=11
 ·simp only[b,d,i,l,n,o,Yr,Yu];exact Mr w c j a e g f m k.s o
 ·simp only[b,d,i,l,n,o,Yu];refine(Mc w c e g f.lt b d i l n o).mono ?_;rintro x w' ⟨rfl,q⟩;exact⟨H,q,λh=>absurd h YK⟩
def QG(w:U)(c:Nat)(j:bO)(a:cO)(e:Ed)(ga:Option Ym)(gc:Nat)(hk:1<=e.kind/\e.kind<=12)(g:JC w c j a){X:Nat->Prop}(i:fP X w c j a)(k:Fi j)(q:iv j.purlins=0)(s:bR 2 w c ga gc (eN e.gaps))(v:∀W,zI X c w W->bR 2 W W.heap.size ga gc (eN e.gaps))(u:e.index<=9223372036854775807):
  ∃f,Tt[e.kind.toNat]?=L (.func (.func f) #[] #[])/\(∀args w,(callFunc f args).run Xz w= .ok (.enter f args) w)/\
   XY Xz f #[YA (L ⟨c,0,I⟩),YE (P e (V ga (ln e.gaps) gc))] w λx w'=>x=YC (G F (dj j e))/\ew c w w'/\(dj j e=0->∃a',kW X c w w' (bP j e) a'):=by
 obtain⟨z,y⟩:=hk;have same:∀{x:Ending} {w':U} {j':bO},(x=YC (G F 0)/\kW X c w w' j' a)->x=YC (G F 0)/\ew c w w'/\((0:Int)=0->∃a',kW X c w w' j' a'):=λh=>⟨h.1,h.2.1,λ_=>⟨a,h.2⟩⟩
 have l:∀{x:Ending} {w':U} {j':bO},(x=YC (G F 0)/\∃a',kW X c w w' j' a')->x=YC (G F 0)/\ew c w w'/\((0:Int)=0->∃a',kW X c w w' j' a'):=λh=>⟨h.1,h.2.elim λ_ h=>h.1,λ_=>h.2⟩
 rcases(show e.kind=1\/e.kind=2\/e.kind=3\/e.kind=4\/e.kind=5\/e.kind=6\/e.kind=7\/e.kind=8\/e.kind=9\/e.kind=10\/e.kind=11\/e.kind=12 by omega) with h|h|h|h|h|h|h|h|h|h|h|h
 ·have b:dj j e=0:=YX;have d:bP j e={j with name:=e.text}:=YY;rw[b,d,h];exact⟨_,H,enters_of func64 R H,(RL w c j a e _ g i).mono λ_ _ h=>same h⟩
 ·have b:dj j e=kb j.rings e.index:=YX;have d:bP j e={j with rings:=df j.rings e.index (lJ e)}:=YY;rw[b,d,h];exact⟨_,H,enters_of func65 R H,JF w c j a e _ g i k.r k.rk u⟩
 ·have b:dj j e=0:=YX;have d:bP j e={j with origin:=e.index,spacing:=e.number}:=YY;rw[b,d,h];exact⟨_,H,enters_of func66 R H,(Rr w c j a e _ g i).mono λ_ _ h=>same h⟩
 ·have b:dj j e=if j.purlins.contains e.number then 7 else 0:=YX;have d:bP j e={j with purlins:=de j.purlins (j.purlins.countP (· <e.number)) e.number}:=YY;rw[b,d,h];refine⟨_,H,enters_of func67 R H,(Dy w c j a e _ g i q).mono ?_⟩;rintro x w' ⟨o,r,n⟩;refine⟨o,r,λm=>n ?_⟩;cases t:j.purlins.contains e.number with
  |false=>rfl
  |true=>rw[t] at m;cases m
 ·have b:dj j e=cM (ln j.openings) e.index:=YX;have d:bP j e={j with openings:=bm j.openings e.index ⟨e.oside,e.oleft,e.oright,e.olow,e.ohigh⟩}:=YY;rw[b,d,h];exact⟨_,H,enters_of func68 R H,Sb w c j a e _ g i k.o⟩
 ·have b:dj j e=0:=YX;have d:bP j e={j with sizes:=bm j.sizes (Hy j.sizes e.zkind) ⟨e.zkind,e.zwidth,e.zdepth⟩}:=YY;rw[b,d,h];exact⟨_,H,enters_of func70 R H,(Lk w c j a e _ g i k.z).mono λ_ _ h=>l h⟩
 ·have b:dj j e=cM (ln j.bars) e.index:=YX;have d:bP j e={j with bars:=bm j.bars e.index ⟨e.bwidth,e.bdepth,e.blength,e.bcount,e.bcost,e.gaps⟩}:=YY;rw[b,d,h];exact⟨_,H,enters_of func71 R H,PT w c j a e ga gc g i k.b s v⟩
 ·have b:dj j e=0:=YX;have d:bP j e={j with kerf:=e.number}:=YY;rw[b,d,h];exact⟨_,H,enters_of func73 R H,(Qh w c j a e _ g i).mono λ_ _ h=>same h⟩
 ·have b:dj j e=0:=YX;have d:bP j e={j with tile:=⟨e.twidth,e.tlength,e.tlap,e.ttail⟩}:=YY;rw[b,d,h];exact⟨_,H,enters_of func74 R H,(RU w c j a e _ g i).mono λ_ _ h=>same h⟩
 ·have b:dj j e=cM (ln j.aq) e.index:=YX;have d:bP j e={j with aq:=bm j.aq e.index ⟨e.lkind,e.lside,e.lweight⟩}:=YY;rw[b,d,h];exact⟨_,H,enters_of func75 R H,Q9 w c j a e _ g i k.l⟩
 ·have b:dj j e=0:=YX;have d:bP j e={j with spans:=ub j.spans (nO e)}:=YY;rw[b,d,h];exact⟨_,H,enters_of func77 R H,(JQ w c j a e _ g i k.s).mono λ_ _ h=>l h⟩
 ·have b:dj j e=xF j e:=YX;have d:bP j e=xR j e:=YY;rw[b,d,h];exact⟨_,H,enters_of func78 R H,PJ w c j a e _ g i k⟩
end
section
open Kp Go.ChangeShapes Go.WideShapes Go.Deep
def Kn:Xz.cellsOf 34=15:=R
def Le:Xz.cellsOf 24=1:=R
def JT:Xz.cellsOf 22=1:=R
def Fy:Xz.cellsOf 102=1:=R
def Jz:Xz.cellsOf 25=1:=R
def Lb:Xz.cellsOf 26=1:=R
def Kf:Xz.cellsOf 27=1:=R
def J3:Xz.cellsOf 28=1:=R
def JZ:Xz.cellsOf 31=1:=R
def Ln:Xz.cellsOf 32=1:=R
section
variable {ac : Type} {af : Yj × Z → ac} {w : U} {base : Nat} {sp : Nat → Bool} {ad : Bool}
def JH{a:Ym}{v:Z}(h:w.cell? a=L v):a.spot=I:=by
 unfold World.cell? at h;split at h
 ·split at h
  ·cases h
  ·rename_i b;simpa using b
 ·cases h
def MO(d:DataW ac):1<=Rows.uptoBulk d:=by
 cases d with
 |lit l=>cases l<;>simp[Rows.uptoBulk]
 |_=>simp[Rows.uptoBulk]
def oM(l:List (DataW ac)):ln l<=Rows.uptoBulkAll l:=by
 induction l with
 |nil=>simp
 |cons d l a=>simp only[List.length_cons,Rows.uptoBulkAll];have:=MO d;omega
def Cn{l:List (DataW ac)}{d:DataW ac}(h:d∈l):Rows.uptoBulk d<=Rows.uptoBulkAll l:=by
 induction l with
 |nil=>cases h
 |cons e l a=>
  simp only[Rows.uptoBulkAll];rcases List.mem_cons.1 h with rfl|h
  ·omega
  ·have:=a h;omega
theorem jc{st G:Yj}(hu:Xz.underlying st=L (.slice G))(hk:Xz.cellsOf G=k)(J:0<k)(row:T->List Z)(N:T)(P:T->DataW ac->Prop)
  (ah:∀(n:Nat) (cs:List Z) (y:DataW ac×List MemPlace),ln cs=k->DataW.trod af Xz w base sp ad n G cs=L y->∃t,cs=row t/\P t y.1)
  {c:Z}{x:DataW ac×List MemPlace}(h:DataW.trod af Xz w base sp ad n st [c]=L x):
  ∃(S:Option Ym) (q:Nat) (l:List T),c= .slice S (ln l) q/\bR k w w.heap.size S q (l.map row)/\∃K:List (DataW ac),ln K=ln l/\Rows.uptoBulkAll K<=Rows.uptoBulk x.1/\∀(i:Nat) d,K[i]?=L d->P (l.getD i N) d:=by
 rcases open_slice hu h with⟨E,_⟩|⟨a,len,q,m,n',A,Pl,E,hb,r,hm,aa,hx,hi⟩
 ·obtain rfl:c= .slice I 0 0:=by simpa using E
  exact⟨I,0,[],H,⟨YL,by simp[Yk],λh=>by simp at h⟩,[],H,Nat.zero_le _,λi d h=>by simp at h⟩
 ·obtain rfl:c= .slice (L a) len q:=by simpa using E
  have ai:len<=m:=by rw[aa];split <;>omega
  have W:∀i,i<len->∃t:T,(∀j,j<k->w.cell? ((a.add (i*k)).add j)=(row t)[j]?)/\P t (A i):=by
   intro i g;obtain⟨O,u,R⟩:=hi i D;rw[hk] at u;obtain⟨_,X,F⟩:=U.cells?_some u;obtain⟨t,rfl,hp⟩:=ah _ _ _ X R;exact⟨t,F,hp⟩
  have ae:∃f:Nat->T,∀i,i<len->(∀j,j<k->w.cell? ((a.add (i*k)).add j)=(row (f i))[j]?)/\P (f i) (A i):=
   ⟨λi=>if h:i<len then Classical.choose (W i h) else N,λi g=>by
    have:=Classical.choose_spec (W i g);simpa only[dif_pos g] using this⟩
  obtain⟨f,C⟩:=ae;have F:∀i,i<len->((List.range len).map f).getD i N=f i:=λi g=>by simp[List.getD,g]
  refine⟨L a,q,(List.range len).map f,YL,⟨a0a,hm,λh0=> ?_⟩,(List.range len).map A,YL,?_,λi d M=> ?_⟩
  ·have Q:0<len:=by simpa using h0
   have ag:∃v,(row (f 0))[0]?=L v:=by
    obtain⟨O,u,R⟩:=hi 0 D;rw[hk] at u;obtain⟨_,X,ab⟩:=U.cells?_some u;have h1:=(C 0 Q).1 0 J;rw[ab 0 J] at h1;exact⟨O[0]'D,h1.symm.trans (XO D)⟩
   obtain⟨v,Y⟩:=ag;obtain⟨b,o,s⟩:=a;have B:=(C 0 Q).1 0 J;rw[Y] at B;have hs:s=I:=by
    have:=JH B;cases s with
    |none=>rfl
    |some z=>exfalso;simp[Ym.add] at this
   subst hs;rw[addr_add,addr_add] at B;refine⟨b,o,H,World.block_lt_of_cell? w _ B,λi g j hj=> ?_⟩;have V:i<len:=by simpa using g
   have:=(C i V).1 j hj;rw[addr_add,addr_add,Yd] at this;have e:(((List.range len).map f).map row).getD i []=row (f i):=by rw[XJ,List.getElem?_map,List.getElem?_map,List.getElem?_range V];rfl
   rw[this,e]
  ·rw[hx];simp only[Rows.uptoBulk];omega
  ·have g:i<len:=by
    have:=(List.getElem?_eq_some_iff.1 M).1;exact a0r
   rw[F i g];have:d=A i:=by rw[List.getElem?_map,List.getElem?_range g] at M;simpa using M.symm
   rw[this];exact(C i g).2
theorem Dd{c:Z}{x:DataW ac×List MemPlace}(h:DataW.trod af Xz w base sp ad n 25 [c]=L x):
  ∃(S:Option Ym) (a:Nat) (l:List Int),c= .slice S (ln l) a/\bR 1 w w.heap.size S a (aU l):=by
 obtain⟨S,a,l,h1,h2,_⟩:=jc underlying25 aP YK (λn:Int=>[Value.int .i64 n]) 0 (λ_ _=>True) (λn cs y d b=>by
  match cs,d with
  |[c],_=>obtain⟨k,rfl,_⟩:=dC b;exact⟨k,H,trivial⟩) h
 exact⟨S,a,l,h1,h2⟩
theorem C4{c:Z}{x:DataW ac×List MemPlace}(h:DataW.trod af Xz w base sp ad n 102 [c]=L x):
  ∃(S:Option Ym) (a:Nat) (l:List Sd),c= .slice S (ln l) a/\bR 7 w w.heap.size S a (aE l)/\ln l<=Rows.uptoBulk x.1:=by
 obtain⟨S,a,l,h1,h2,m,q,r,_⟩:=jc underlying102 yt YK nQ ⟨0,0,0,0,O,0,0⟩ (λ_ _=>True) (λn cs y d j=>by
  match cs,d with
  |[t,c1,c2,c3,c4,c5,s],_=>obtain⟨g,e,k,b,i,f,o,rfl,_,rfl,_,rfl,_,rfl,_,rfl,rfl,_,rfl,_⟩:=yU j;exact⟨⟨g,e,k,b,i,f,o⟩,H,trivial⟩) h
 exact⟨S,a,l,h1,h2,by have:=oM m;omega⟩
theorem E8{c:Z}{x:DataW ac×List MemPlace}(h:DataW.trod af Xz w base sp ad n 26 [c]=L x):
  ∃(S:Option Ym) (a:Nat) (l:List nc),c= .slice S (ln l) a/\bR 5 w w.heap.size S a (aV l)/\ln l<=Rows.uptoBulk x.1:=by
 obtain⟨S,a,l,h1,h2,k,m,o,_⟩:=jc underlying26 yQ YK uk fm (λ_ _=>True) (λn cs y d i=>by
  match cs,d with
  |[q,c1,c2,c3,c4],_=>obtain⟨f,e,j,b,g,rfl,_,rfl,rfl,rfl,rfl⟩:=rr i;exact⟨⟨f,e,j,b,g⟩,H,trivial⟩) h
 exact⟨S,a,l,h1,h2,by have:=oM k;omega⟩
theorem EL{c:Z}{x:DataW ac×List MemPlace}(h:DataW.trod af Xz w base sp ad n 27 [c]=L x):
  ∃(S:Option Ym) (a:Nat) (l:List Sz),c= .slice S (ln l) a/\bR 3 w w.heap.size S a (bf l)/\ln l<=Rows.uptoBulk x.1:=by
 obtain⟨S,a,l,h1,h2,g,j,m,_⟩:=jc underlying27 yY YK yV ⟨0,0,0⟩ (λ_ _=>True) (λn cs y d b=>by
  match cs,d with
  |[k,c1,c2],_=>obtain⟨i,f,e,rfl,_,rfl,_,rfl,_⟩:=zr b;exact⟨⟨i,f,e⟩,H,trivial⟩) h
 exact⟨S,a,l,h1,h2,by have:=oM g;omega⟩
theorem Ct{c:Z}{x:DataW ac×List MemPlace}(h:DataW.trod af Xz w base sp ad n 31 [c]=L x):
  ∃(S:Option Ym) (a:Nat) (l:List Ld),c= .slice S (ln l) a/\bR 3 w w.heap.size S a (bG l)/\ln l<=Rows.uptoBulk x.1:=by
 obtain⟨S,a,l,h1,h2,g,j,m,_⟩:=jc underlying31 zq YK MK pO (λ_ _=>True) (λn cs y d b=>by
  match cs,d with
  |[k,c1,c2],_=>obtain⟨i,f,e,rfl,_,rfl,_,rfl⟩:=yd b;exact⟨⟨i,f,e⟩,H,trivial⟩) h
 exact⟨S,a,l,h1,h2,by have:=oM g;omega⟩
theorem Da{c:Z}{x:DataW ac×List MemPlace}(h:DataW.trod af Xz w base sp ad n 32 [c]=L x):
  ∃(S:Option Ym) (a:Nat) (l:List Aw),c= .slice S (ln l) a/\bR 5 w w.heap.size S a (aO l)/\ln l<=Rows.uptoBulk x.1:=by
 obtain⟨S,a,l,h1,h2,k,m,o,_⟩:=jc underlying32 yB YK iI ⟨0,0,0,0,0⟩ (λ_ _=>True) (λn cs y d i=>by
  match cs,d with
  |[q,c1,c2,c3,c4],_=>obtain⟨f,e,j,b,g,rfl,_,rfl,_,rfl,_,rfl,_,rfl,_⟩:=rn i;exact⟨⟨f,e,j,b,g⟩,H,trivial⟩) h
 exact⟨S,a,l,h1,h2,by have:=oM k;omega⟩
theorem KM{c:Z}{x:DataW ac×List MemPlace}(h:DataW.trod af Xz w base sp ad n 28 [c]=L x):
  ∃(S:Option Ym) (a:Nat) (l:List Br),c= .slice S (ln l) a/\iT w w.heap.size S a l:=by
 obtain⟨S,a,l,h1,⟨h2,m,A⟩,G,J,_,s⟩:=jc underlying28 yu YK (λt:Br×Option Ym×Nat=>yj t.1 t.2.1 t.2.2) (pV,I,0) (λt _=>bR 2 w w.heap.size t.2.1 t.2.2 (eN t.1.gaps)) (λn cs y o E=>by
  match cs,o with
  |[K,c1,c2,c3,c4,c5],_=>obtain⟨z,q,F,k,C,ga,gc,g,rfl,_,rfl,_,rfl,_,rfl,_,rfl,_,rfl,f,_⟩:=Ci E;exact⟨(⟨z,q,F,k,C,g⟩,ga,gc),H,sn f⟩) h
 refine⟨S,a,l.map (·.1),by rw[XP];exact h1,by rw[XP];simpa using h2,m,λr=> ?_⟩;rw[XP] at r;obtain⟨b,off,e,u,B⟩:=A a0b;refine⟨b,off,e,u,λi hi=> ?_⟩;rw[XP] at hi;have d:(l.map (·.1)).getD i pV=(l.getD i (pV,I,0)).1:=by rw[XJ,XJ,List.getElem?_map,XO hi];rfl
 refine⟨(l.getD i (pV,I,0)).2.1,(l.getD i (pV,I,0)).2.2,λj v=> ?_,?_⟩
 ·rw[B i Z6 j v,d,XJ,XJ,List.getElem?_map,XO hi];rfl
 ·rw[d];exact s i (G[i]'D) (XO D)
theorem yL(f:T->Nat)(b:T):∀(l:List T) (a:List (DataW ac)),ln a=ln l->(∀(i:Nat) d,a[i]?=L d->f (l.getD i b)<=Rows.uptoBulk d)->(l.map f).sum<=Rows.uptoBulkAll a
 |[],_,_,_=>YL
 |t::l,[],h,_=>by simp at h
 |t::l,d::a,h,hi=>by
  have c:=hi 0 d H;have g:=yL f b l a Zk (λi d e=>hi (i+1) d e);simp only[List.map_cons,List.sum_cons,Rows.uptoBulkAll];simp at c;omega
theorem GW{c:Z}{x:DataW ac×List MemPlace}(h:DataW.trod af Xz w base sp ad n 22 [c]=L x):
  ∃(S:Option Ym) (a:Nat) (rs:List (List Sd)),c= .slice S (ln rs) a/\gw w w.heap.size S a rs/\ln rs.flatten<=Rows.uptoBulk x.1:=by
 obtain⟨S,a,l,h1,⟨h2,m,u⟩,k,q,B,j⟩:=jc underlying22 Fy YK (λt:List Sd×Option Ym×Nat=>[Value.slice t.2.1 (ln t.1) t.2.2]) ([],I,0) (λt d=>bR 7 w w.heap.size t.2.1 t.2.2 (aE t.1)/\ln t.1<=Rows.uptoBulk d) (λn cs y o z=>by
  match cs,o with
  |[C],_=>obtain⟨S,a,l,rfl,A,f⟩:=C4 z;exact⟨(l,S,a),H,A,f⟩) h
 refine⟨S,a,l.map (·.1),by rw[XP];exact h1,⟨by rw[XP];simpa using h2,m,λr=> ?_⟩,?_⟩
 ·rw[XP] at r;obtain⟨b,off,e,f,v⟩:=u a0b;refine⟨b,off,e,f,λi hi=> ?_⟩;rw[XP] at hi;have g:(l.map (·.1)).getD i []=(l.getD i ([],I,0)).1:=by rw[XJ,XJ,List.getElem?_map,XO hi];rfl
  refine⟨(l.getD i ([],I,0)).2.1,(l.getD i ([],I,0)).2.2,?_,?_⟩
  ·have:=v i Z6 0 YK;rw[Nat.one_mul,Nat.add_zero] at this;rw[this,g,XJ,XJ,List.getElem?_map,XO hi];rfl
  ·rw[g];exact(j i (k[i]'D) (XO D)).1
 ·rw[List.length_flatten,List.map_map];exact Ye (yL (λt:List Sd×Option Ym×Nat=>ln t.1) ([],I,0) l k q (λi d s=>(j i d s).2)) B
theorem JO{l:List Z}{x:DataW ac×List MemPlace}(D:ln l=15)(hf:DataW.trod af Xz w base sp ad n 34 l=L x):
  ∃(j:bO) (a:cO),l=(aM j a).toList/\fW w w.heap.size j a/\ln j.rings.flatten<=Rows.uptoBulk x.1:=by
 obtain⟨c0,l0,rfl,t⟩:=ae D;obtain⟨c1,l1,rfl,h1⟩:=ae t;obtain⟨c2,l2,rfl,h2⟩:=ae h1;obtain⟨c3,l3,rfl,p⟩:=ae h2;obtain⟨c4,l4,rfl,i⟩:=ae p;obtain⟨c5,l5,rfl,h⟩:=ae i;obtain⟨c6,l6,rfl,y⟩:=ae h;obtain⟨c7,l7,rfl,r⟩:=ae y;obtain⟨c8,l8,rfl,z⟩:=ae r;obtain⟨c9,l9,rfl,s⟩:=ae z;obtain⟨al,ap,rfl,v⟩:=ae s;obtain⟨aq,aw,rfl,q⟩:=ae v;obtain⟨ah,an,rfl,g⟩:=ae q;obtain⟨aC,am,rfl,k⟩:=ae g;obtain⟨aF,I,rfl,f⟩:=ae k;obtain rfl:I=[]:=List.length_eq_zero_iff.1 f;clear t h1 h2 p i h y r z s v q g k f;obtain⟨xs,m,_,hx,_,c,b⟩:=DataW.trod_struct XA hf;obtain⟨y0,az,g0⟩:=jz c b 0 vI H H;obtain⟨d,ag,Q⟩:=jz c b 1 Le H H;obtain⟨y2,aE,R⟩:=jz c b 2 aP H H;obtain⟨y3,ak,W⟩:=jz c b 3 aP H H;obtain⟨y4,av,J⟩:=jz c b 4 Jz H H;obtain⟨y5,ai,g5⟩:=jz c b 5 Lb H H;obtain⟨y6,aj,G⟩:=jz c b 6 Kf H H;obtain⟨y7,aB,K⟩:=jz c b 7 J3 H H;obtain⟨y8,ao,g8⟩:=jz c b 8 aP H H;obtain⟨y9,aA,g9⟩:=jz c b 9 yo H H;obtain⟨aD,au,ab⟩:=jz c b 10 JZ H H;obtain⟨ax,ar,M⟩:=jz c b 11 Ln H H;obtain⟨u,mp,_,F,_,aa,X⟩:=DataW.trod_struct underlying24 Q;obtain⟨o,V,gp⟩:=jz aa X 0 JT H H;obtain⟨nm,rfl⟩:=Sl g0;obtain⟨pa,pc,rs,rfl,hr,ay⟩:=GW gp;obtain⟨A,rfl,_⟩:=dC R;obtain⟨sg,rfl,_⟩:=dC W;obtain⟨ua,uc,us,rfl,hu⟩:=Dd J;obtain⟨oa,oc,os,rfl,ho,_⟩:=E8 g5;obtain⟨za,zc,S,rfl,T,_⟩:=EL G;obtain⟨ba,bc,bs,rfl,hb⟩:=KM K;obtain⟨B,rfl,_⟩:=dC g8;obtain⟨t0,N,P,C,rfl,_,rfl,_,rfl,_,rfl,_⟩:=zm g9;obtain⟨la,lc,ls,rfl,Y,_⟩:=Ct ab;obtain⟨sa,sc,ss,rfl,U,_⟩:=Da M;refine⟨⟨nm,rs,A,sg,us,os,S,bs,B,⟨t0,N,P,C⟩,ls,ss⟩,⟨pa,pc,ua,uc,oa,oc,za,zc,ba,bc,la,lc,sa,sc⟩,H,⟨hr,hu,ho,T,hb,Y,U⟩,?_⟩;have E:o.1∈u.map (·.1):=List.mem_map.2 ⟨o,List.mem_of_getElem? V,H⟩;have O:d.1∈xs.map (·.1):=List.mem_map.2 ⟨d,List.mem_of_getElem? ag,H⟩;have b1:=Cn E;have e:=Cn O;have d1:d.1= .agg (u.map (·.1)):=by rw[F]
 have d2:x.1= .agg (xs.map (·.1)):=by rw[hx]
 rw[d1] at e;rw[d2];simp only[Rows.uptoBulk] at e⊢;show ln rs.flatten<=_;omega
def Nx{r:Reach}{f:Nat}{v:Z}{d:DataW ac}{p:List MemPlace}(c:Z.okWide Xz w r f 34 v)(h:DataW.Trod af Xz w base sp ad 34 v d p):
  ∃(j:bO) (a:cO),v= .agg (aM j a)/\fW w w.heap.size j a/\ln j.rings.flatten<=Rows.uptoBulk d:=by
 obtain⟨cs,rfl,e⟩:=okWide_struct XA c;obtain⟨l⟩:=cs;obtain⟨i,g⟩:=h;obtain⟨j,a,rfl,b⟩:=JO (e.trans Kn) g;exact⟨j,a,by rw[Hp],b⟩
end
end
section
open Kp
attribute [local go_sem] bJ gE fX gA gC fN fG fU fI gD gy dQ dO dR dn dq
attribute [local go_sem] aF dG
def cn:bO:=⟨[],[],0,0,[],[],[],[],0,⟨0,0,0,0⟩,[],[]⟩
def cT:cO:=⟨I,0,I,0,I,0,I,0,I,0,I,0,I,0⟩
def Ir(w:U)(B:Nat):fW w B cn cT:=
 ⟨⟨YK,YK,λh=>absurd h YK⟩,⟨YK,YK,λh=>absurd h YK⟩,⟨YK,YK,λh=>absurd h YK⟩,⟨YK,YK,λh=>absurd h YK⟩,
  ⟨YK,YK,λh=>absurd h YK⟩,⟨YK,YK,λh=>absurd h YK⟩,⟨YK,YK,λh=>absurd h YK⟩⟩
def oz(X:Nat->Prop)(w:U)(B:Nat):fP X w B cn cT:=⟨Ir _ _,λ_ _=>Ir _ _⟩
def aX{fn:Func}{p u:Tmp}(h:fn.results=#[.cell p 34,.tmp u])(tmps:Array Z)(w:U)(g:Nat)(cs:Array Z)
  (a:tmps.getD p M=YA (L ⟨g,0,I⟩))(b:w.heap[g]?=L (.cells cs 34 (0,0)))(hi:(Xz.info? 34).map (·.size)=L cs.size):
  (results fn tmps).run Xz w= .ok (YF #[YE cs,tmps.getD u M]) w:=by
 have d:tmps[p]?.getD M=YA (L ⟨g,0,I⟩):=by simpa using a
 have c:=run_loadVar_row (P:=Xz) w g 34 34 cs (0,0) _ b XA H hi;simp[results,h,d,asAddr,c,Result.andThen]
noncomputable def GJ(j:bO)(e:Ed):Int:=if kU j≠0 then 1 else if cV e≠0 then cV e else if dj j e≠0 then dj j e else kU (bP j e)
noncomputable def IC(j:bO)(e:Ed):bO:=if GJ j e=0 then bP j e else cn
structure T2(j:bO)(e:Ed):Prop where
 sm:sB j
 ln:kU j=0->Fi j
 sm':kU j=0->sB (bP j e)
 idx:e.index<=9223372036854775807
def zp{e:Ed}(h:cV e=0):1<=e.kind/\e.kind<=12:=by
 unfold cV at h;split at h
 ·cases h
 ·omega
theorem QU(h:kU j=0):iv j.purlins=0:=by
 unfold kU at h;split at h
 ·cases h
 split at h
 ·contradiction
 split at h
 ·cases h
 split at h
 ·cases h
 split at h
 ·contradiction
 ·rename_i h1;exact Classical.not_not.1 h1
def PE(b:Nat)(e:Ed)(g:Z)(f:Nat):Nat->Z
 |0=> YE Tt
 |1=> YA (L ⟨b,0,I⟩)
 |2=> G F e.kind
 |3=> .func (.func f) #[] #[]
 |_=> YE (P e g)
def UX{k:Int}(h1:1<=k)(h2:k<=12){v:Z}(a:Tt[k.toNat]?=L v)(W:U):Sem.run Xz (Instr.index 73 (YE Tt) (G F k)) W= .ok v W:=by
 rcases(show k=1\/k=2\/k=3\/k=4\/k=5\/k=6\/k=7\/k=8\/k=9\/k=10\/k=11\/k=12 by omega) with h|h|h|h|h|h|h|h|h|h|h|h
 all_goals
  subst h;injection a with a
  subst a
  kernel_rfl
def sR(X:Nat->Prop)(w:U)(j:bO)(e:Ed)(x:Ending)(w':U):Prop:=
 ∃a',x=YC (YF #[YE (aM (IC j e) a'),G F (GJ j e)])/\Ext w w'/\fP X w' w'.heap.size (IC j e) a'
def ye(w:U)(j:bO)(a:cO)(e:Ed)(ga:Option Ym)(gc:Nat){X:Nat->Prop}(Z:fP X w w.heap.size j a)(hg:aT w w.heap.size ga gc e.gaps)(aq:∀W,zI X w.heap.size w W->aT W W.heap.size ga gc e.gaps)(an:∀b,X b->b<w.heap.size)(ax:T2 j e)(hm:jE w)(ht:bE w):
  XY Xz 7 #[YE (aM j a),YE (P e (V ga (ln e.gaps) gc))] w (sR X w j e):=by
 obtain⟨Q,B⟩:=aa (((w.alloc (.cells (aM j a) 34)).alloc (.cells (P e (V ga (ln e.gaps) gc)) 50)).alloc (.cells (aM cn cT) 34));have av:Q.heap.size=w.heap.size+3:=by rw[<-B];simp
 have E:Ext w Q:=by rw[<-B];exact(((XI _ _).alloc (XE _) _).alloc YL _).alloc YP _
 have hJ:JC Q w.heap.size j a:=by rw[<-B];exact JC.ext (JC.ext (XZ w _) ((XI _ _).alloc (XE _) _)) ((XI _ _).alloc (XE _) _)
 have hZ:EC Q (w.heap.size+1) (P e (V ga (ln e.gaps) gc)):=by
  rw[<-B];have:=EC.new (w.alloc (.cells (aM j a) 34)) (P e (V ga (ln e.gaps) gc));rw[Ya] at this;exact this.alloc _
 have hR:JC Q (w.heap.size+1+1) cn cT:=by
  rw[<-B];have:=XZ ((w.alloc (.cells (aM j a) 34)).alloc (.cells (P e (V ga (ln e.gaps) gc)) 50)) (.cells (aM cn cT) 34);rw[Ya,Ya] at this;exact this
 have S:=A hJ;have HZ:=A hZ;have q:=A hR;have r:=A E;have HW:=A (show((w.alloc (.cells (aM j a) 34)).alloc (.cells (P e (V ga (ln e.gaps) gc)) 50)).alloc (.cells #[Yy {data:=#[]},V I 0 0,G F 0,G F 0,V I 0 0,V I 0 0,V I 0 0,V I 0 0,G F 0,G F 0,G F 0,G F 0,G F 0,V I 0 0,V I 0 0] 34)=Q from B);have aU:=A av;have au:=A ax;have KJ:=A (λ(W:U) (h:Ext Q W)=>xm W j a (Z.tofW.grow (E.tr h)) ax.sm (hm.below (E.tr h) (XE _)) (ht.below (E.tr h) (XE _)));have HG:=A (λ(W:U) (h:Ext Q W)=>((hg.below (E.tr h)).more (E.tr h).size:aT W W.heap.size ga gc e.gaps));have KF:=A (λ(W:U) (h:Ext Q W)=>wk W e ga gc (HG.o W h));obtain⟨x,hx⟩:=aa (kU j);have HX:=A hx;simp only[hx] at KJ;have hz:=av;clear av hJ hZ hR E ax;by_cases am:x=0
 ·subst am;obtain⟨y,hy⟩:=aa (cV e);simp only[hy] at KF;by_cases af:y=0
  ·subst af;obtain⟨k1,k2⟩:=zp hy;have aD:=QU hx;have KX:=λ(W:U) (h:Ext Q W)=>QG W w.heap.size j a e ga gc ⟨k1,k2⟩ (S.o.ext h) (Z.below (r.o.tr h)) (au.o.ln hx) aD (sn (hg.below (r.o.tr h))) (λW' hO=>sn (aq W' (hO.below (r.o.tr h)))) au.o.idx
   obtain⟨f,hf,eg,_⟩:=KX Q (XI _ _);have ak:=A (λ(W:U) (h:Ext Q W)=>(show XY Xz f #[YA (L ⟨w.heap.size,0,I⟩),YE (P e (V ga (ln e.gaps) gc))] W λx w'=>x=YC (G F (dj j e))/\ew w.heap.size W w'/\(dj j e=0->∃a',kW X w.heap.size W w' (bP j e) a') from by
    obtain⟨f',aE,_,hc⟩:=KX W h;rw[hf] at aE;injection aE with h1
    injection h1 with h2
    injection h2 with h3
    subst h3;exact hc))
   have aO:=A (UX k1 k2 hf);have EG:=A eg;have HK:=A (And.intro k1 k2);have HM:=A hm;have HT:=A ht;have ay:=A hx;have aH:=A hy;have aK:=A an;clear hx hy aD KX hf eg Z hg aq an hm ht B;go_enter func7,ntmps7;go_upto_region 1 with(fail)
   rw[HW.o];go_wp2_with(first
    |(go_at_call 20;refine(KJ.o _ (XI _ _)).mono ?_;rintro x1 W1 ⟨rfl,d⟩;have aj:=A (q.o.ext d);have ap:=A (HZ.o.ext d);have aF:=A (S.o.ext d);have T:=A d;clear d)
    |(go_at_call 21;refine(KF.o _ T.o).mono ?_;rintro x2 W2 ⟨rfl,K⟩;have ar:=A (Ext.tr T.o K);have a0:=K;clear K)
    |(refine wpList_load_row rfl 34 _ rfl _ rfl 34 _ (0,0) _ S.o XA rfl R ?_)
    |(refine wpList_load_row rfl 50 _ rfl _ rfl 50 _ (0,0) _ ap.o XB rfl R ?_))
   refine wp_region_any R (cH 5 (λN=>⟨#[YE (aM j a),YE (P e (V ga (ln e.gaps) gc)),YA (L ⟨w.heap.size,0,I⟩),YA (L ⟨w.heap.size+1,0,I⟩),YA (L ⟨w.heap.size+1+1,0,I⟩),G F 0,G F 0,M,M,YE (aM j a),G F 0,Yz O,M,YE (P e (V ga (ln e.gaps) gc)),G F 0,G F 0,Yz O,M,M,N 0,N 1,N 2,N 3,N 4,M,M,M,M,M,M,M,M,M,M,M,M],[]⟩)
    (λw'=>Ext Q w') (λi v _=>v=PE (w.heap.size+1) e (V ga (ln e.gaps) gc) f i) (λ_=>O) R (λ_ _ h k=>h.tr k) (λ_ _ _ _ h _=>h) (λ_ _ _ _ h=>YM) ?step ?tail (λ_=>M) _ (ar.o.tr (Ext.dr _)))
   case step=>
    intro i N w' hi hD hd;rcases(show i=0\/i=1\/i=2\/i=3\/i=4 by omega) with rfl|rfl|rfl|rfl|rfl<;>clear hi<;>refine XR rfl (λaS hK=> ?_)
    ·go_simp;refine(EO _).mono ?_;rintro x3 s ⟨rfl,aJ⟩;exact hK _ _ ⟨_,H,aJ,H,λh=>YM⟩
    ·exact a1k
    ·have d1:=hd 1 R;simp only[PE] at d1;have m:=(HZ.o.ext hD).cell 0;go_simp;exact hK _ _ ⟨PE (w.heap.size+1) e (V ga (ln e.gaps) gc) f 2,by simp[PE,d1],Ext.ah _,rfl,λh=>YM⟩
    ·have d0:=hd 0 R;have d2:=hd 2 R;simp only[PE] at d0 d2;have aZ:=aO.o;go_simp;exact hK _ _ ⟨PE (w.heap.size+1) e (V ga (ln e.gaps) gc) f 3,by simp[PE,d0,d2],Ext.ah _,rfl,λh=>YM⟩
    ·exact wp_load_row 50 (.tmp 3) H (w.heap.size+1) H 50 _ (0,0) _ (HZ.o.ext hD) XB H R (hK _ _ ⟨PE (w.heap.size+1) e (V ga (ln e.gaps) gc) f 4,by simp[PE,Act.put,bN],Ext.ah _,rfl,λh=>YM⟩)
   case tail=>
    intro N w' hD hV _;have v3:=hV 3 D;have v4:=hV 4 D;simp only[PE] at v3 v4;have g:=A hD;have eg:=EG.o;clear hV hD;simp only[v3,v4,List.drop_succ_cons,List.drop_zero];obtain⟨z,ab⟩:=aa (dj j e);simp only[ab] at ak;by_cases ag:z=0
    ·subst ag;have aw:=A (λ(W:U) (a':cO) (h:Ext w W) (Z:fW W W.heap.size (bP j e) a')=>xm W (bP j e) a' Z (au.o.sm' ay.o) (HM.o.below h (XE _)) (HT.o.below h (XE _)));obtain⟨u,hu⟩:=aa (kU (bP j e));simp only[hu] at aw;have c:GJ j e=u:=by unfold GJ;rw[ay.o,aH.o,ab,hu,XQ YK,XQ YK,XQ YK]
     by_cases ao:u=0
     ·subst ao;have l:IC j e=bP j e:=by unfold IC;rw[c,XT rfl]
      have o:=A (And.intro c l);clear c l hu ab v3 v4;go_wp2_with(first
       |(go_at_call 20;have aL:=J;refine(aw.o _ _ ((r.o.tr g.o).trans HC.o.below) J.o.at_).mono ?_;rintro x4 W4 ⟨rfl,t⟩;have ae:=A (JC.ext ac.o t);have aB:=A (JC.ext (show JC s w.heap.size (bP j e) a' from ai.o) t);have ah:=A t;clear t)
       |(go_at_fn f;refine(ak.o _ g.o).mono ?_;rintro x3 s ⟨rfl,n,ad⟩;obtain⟨a',C⟩:=ad H;have HC:=A n;have J:=A C;have ac:=A ((n.others _ (q.o.ext g.o).lt D).trans (q.o.ext g.o));have ai:=A (show s.heap[w.heap.size]?=L (.cells (aM (bP j e) a') 34 (0,0)) from C.2.1);clear n ad C)
       |(refine wpList_load_row rfl 34 _ rfl _ rfl 34 _ (0,0) _ aB.o XA rfl R ?_)
       |(refine wpList_load_row rfl 34 _ rfl _ rfl 34 _ (0,0) _ ai.o XA rfl R ?_)
       |(refine wpList_store_row rfl 34 _ _ rfl _ _ rfl rfl 34 _ ae.o R R R ?_))
      refine bodyPost_ret (aX H _ _ _ _ H (setRow_heap ae.o _) R) H ?_;have a1:=(q.o.ext g.o).lt;have aQ:Ext w W4:=Ext.tr ((r.o.tr g.o).trans HC.o.below) ah.o;have aG:∀b,b<s.heap.size->b≠w.heap.size+1+1->(W4.setRow (w.heap.size+1+1) (aM (bP j e) a')).heap[b]?=s.heap[b]?:=by
       intro b aI aN;have e1:(W4.setRow (w.heap.size+1+1) (aM (bP j e) a')).heap[b]?=W4.heap[b]?:=by simp only[World.setRow,Array.getElem?_modify];rw[XQ (Ne.symm aN)]
       exact e1.trans (ah.o.block b aI)
      have az:s.heap.size<=(W4.setRow (w.heap.size+1+1) (aM (bP j e) a')).heap.size:=Ye ah.o.size (al (XI w.heap.size W4) D _).size;have aC:∀b,(b<w.heap.size/\¬X b)\/w'.heap.size<=b->b≠w.heap.size+1+1:=λb h=>by rcases h with h|h<;>omega
      have aP:∀b,(b<w.heap.size/\¬X b)\/w'.heap.size<=b->¬X b:=λb h hq=>by
       have:=aK.o b hq;rcases h with h|h
       ·exact h.2 hq
       ·omega
      exact⟨a',by rw[o.o.1,o.o.2];rfl,al aQ D _,by rw[o.o.2];exact⟨J.o.2.2 _ ⟨az,λb h1 h2=>aG b h1 (aC b h2)⟩,λW hO=>J.o.2.2 W ⟨Ye az hO.1,λb h1 h2=>(hO.2 b (Nat.lt_of_lt_of_le h1 az) (aP b h2)).trans (aG b h1 (aC b h2))⟩⟩⟩
     ·have aY:(u !=0)=Y:=by rw[Yn];exact ao
      have l:IC j e=cn:=by unfold IC;rw[c,XQ ao]
      have o:=A (And.intro c l);clear c l hu ab v3 v4 ao;go_wp2_with(first
       |(go_at_call 20;have aL:=J;refine(aw.o _ _ ((r.o.tr g.o).trans HC.o.below) J.o.at_).mono ?_;rintro x4 W4 ⟨rfl,t⟩;have ae:=A (JC.ext ac.o t);have aB:=A (JC.ext (show JC s w.heap.size (bP j e) a' from ai.o) t);have ah:=A t;clear t)
       |(go_at_fn f;refine(ak.o _ g.o).mono ?_;rintro x3 s ⟨rfl,n,ad⟩;obtain⟨a',C⟩:=ad H;have HC:=A n;have J:=A C;have ac:=A ((n.others _ (q.o.ext g.o).lt D).trans (q.o.ext g.o));have ai:=A (show s.heap[w.heap.size]?=L (.cells (aM (bP j e) a') 34 (0,0)) from C.2.1);clear n ad C)
       |(refine wpList_load_row rfl 34 _ rfl _ rfl 34 _ (0,0) _ ai.o XA rfl R ?_)
       |(refine wpList_build rfl 34 _ rfl R ?_;rw[show Value.agg (Option.getD (Xz.built 34 _) #[])=YE (aM cn cT) from R])
       |(refine wpList_store_row rfl 34 _ _ rfl _ _ rfl rfl 34 _ ae.o R R R ?_))
      refine bodyPost_ret (aX H _ _ _ _ H (setRow_heap ae.o _) R) H ?_;exact⟨cT,by rw[o.o.1,o.o.2];rfl,al (Ext.tr ((r.o.tr g.o).trans HC.o.below) ah.o) D _,by rw[o.o.2];exact oz _ _ _⟩
    ·have aR:(z !=0)=Y:=by rw[Yn];exact ag
     have c:GJ j e=z:=by unfold GJ;rw[ay.o,aH.o,ab,XQ YK,XQ YK,XT ag]
     have l:IC j e=cn:=by unfold IC;rw[c,XQ ag]
     have o:=A (And.intro c l);clear c l ab v3 v4 ag;go_wp2_with(first
      |(go_at_fn f;refine(ak.o _ g.o).mono ?_;rintro x3 s ⟨rfl,n,_⟩;have HC:=A n;have ac:=A ((n.others _ (q.o.ext g.o).lt D).trans (q.o.ext g.o));clear n)
      |(refine wpList_build rfl 34 _ rfl R ?_;rw[show Value.agg (Option.getD (Xz.built 34 _) #[])=YE (aM cn cT) from R])
      |(refine wpList_store_row rfl 34 _ _ rfl _ _ rfl rfl 34 _ ac.o R R R ?_))
     refine bodyPost_ret (aX H _ _ _ _ H (setRow_heap ac.o _) R) H ?_;exact⟨cT,by rw[o.o.1,o.o.2];rfl,al ((r.o.tr g.o).trans HC.o.below) D _,by rw[o.o.2];exact oz _ _ _⟩
  ·have aV:(y !=0)=Y:=by rw[Yn];exact af
   have c:GJ j e=y:=by unfold GJ;rw[hx,hy,XQ YK,XT af]
   have l:IC j e=cn:=by unfold IC;rw[c,XQ af]
   unfold sR;rw[c,l];clear hx hy af c l Z hg aq an hm ht B;go_enter func7,ntmps7;go_upto_region 1 with(fail)
   rw[HW.o];go_wp2_with(first
    |(go_at_call 20;refine(KJ.o _ (XI _ _)).mono ?_;rintro x1 W1 ⟨rfl,d⟩;have aj:=A (q.o.ext d);have ap:=A (HZ.o.ext d);have aF:=A (S.o.ext d);have T:=A d;clear d)
    |(go_at_call 21;refine(KF.o _ T.o).mono ?_;rintro x2 W2 ⟨rfl,K⟩;have aA:=A (aj.o.ext K);have ar:=A (Ext.tr T.o K);clear K)
    |(refine wpList_load_row rfl 34 _ rfl _ rfl 34 _ (0,0) _ S.o XA rfl R ?_)
    |(refine wpList_load_row rfl 50 _ rfl _ rfl 50 _ (0,0) _ ap.o XB rfl R ?_)
    |(refine wpList_build rfl 34 _ rfl R ?_;rw[show Value.agg (Option.getD (Xz.built 34 _) #[])=YE (aM cn cT) from R])
    |(refine wpList_store_row rfl 34 _ _ rfl _ _ rfl rfl 34 _ aA.o R R R ?_))
   refine bodyPost_ret (aX H _ _ _ _ H (setRow_heap aA.o _) R) H ?_;exact⟨cT,H,al (r.o.tr ar.o) D _,oz _ _ _⟩
 ·have aW:(x !=0)=Y:=by rw[Yn];exact am
  have c:GJ j e=1:=by unfold GJ;rw[hx,XT am]
  have l:IC j e=cn:=by unfold IC;rw[c];rfl
  unfold sR;rw[c,l];clear hx am c l Z hg aq an hm ht B;go_enter func7,ntmps7;go_upto_region 1 with(fail)
  rw[HW.o];go_wp2_with(first
   |(go_at_call 20;refine(KJ.o _ (XI _ _)).mono ?_;rintro x1 W1 ⟨rfl,d⟩;have aj:=A (q.o.ext d);have ap:=A (HZ.o.ext d);have aF:=A (S.o.ext d);have T:=A d;clear d)
   |(refine wpList_load_row rfl 34 _ rfl _ rfl 34 _ (0,0) _ S.o XA rfl R ?_)
   |(refine wpList_build rfl 34 _ rfl R ?_;rw[show Value.agg (Option.getD (Xz.built 34 _) #[])=YE (aM cn cT) from R])
   |(refine wpList_store_row rfl 34 _ _ rfl _ _ rfl rfl 34 _ aj.o R R R ?_))
  refine bodyPost_ret (aX H _ _ _ _ H (setRow_heap aj.o _) R) H ?_;exact⟨cT,H,al (r.o.tr T.o) D _,oz _ _ _⟩
end
section
open Kp
def zS(t e:Yj)(k:Nat):Prop:=Xz.underlying t=L (.slice e)∧∃(i:TypeInfo) (z:Z),Xz.info? e=L i∧i.zero=L z∧i.size=k∧z.cells.size=k∧0<k∧i.bytes≤4096
theorem tV{t e:Yj}{k b:Nat}{z:Z}(hu:Xz.underlying t=L (.slice e))(h:(Xz.info? e).map (fun i=>(i.zero,i.size,i.bytes))=L (L z,k,b))(c:z.cells.size=k)(hk:0<k)(d:b≤4096):zS t e k:=by
 obtain⟨i,hi,a,h1,h2⟩:=info_parts h
 exact⟨hu,i,z,hi,a,h1,c,hk,by omega⟩
def sX:zS 25 3 1:=tV underlying25 mn rfl YK YK
def Sy:zS 26 39 5:=tV underlying26 sA rfl YK YK
def IV:zS 27 41 3:=tV underlying27 qS rfl YK YK
def Sm:zS 28 44 6:=tV underlying28 qU rfl YK YK
def Sq:zS 31 46 3:=tV underlying31 rh rfl YK YK
def zo:zS 32 48 5:=tV underlying32 mA rfl YK YK
def Ss:zS 102 36 7:=tV underlying102 Df rfl YK YK
def SE:zS 22 102 1:=tV underlying22 yP rfl YK YK
def IF{t e:Yj}{k:Nat}(T:zS t e k)(w:U)(base:Nat)(ty:Yj){v:Z}{n:Nat}{xs:List Z}(a:w.ownsRow base e k v n xs){B:Nat}{S:Option Ym}{m c:Nat}{rows:List (List Z)}(d:bR k w B S c rows)
  (q:ln rows=m)(b:dv k rows)(h1:jA rows)(C:n+m<=4000000)(A:base<=w.heap.size):
  ∃v' w',(Builtin.append_ #[t,t] ty #[v,V S m c]).run Xz w= .ok v' w'/\w'.ownsRow base e k v' (n+m) (xs++rows.flatten)/\w.grownBy w' v.ownBlock:=by
 obtain⟨hu,i,z,hi,o,F,G,hk,s⟩:=T;subst q;cases S with
 |none=>
  have D:rows=[]:=by
   cases rows with
   |nil=>rfl
   |cons r l=>obtain⟨_,_,e,_⟩:=d.2.2 YL;cases e
  subst D;refine⟨v,w,?_,by simpa using a,U.grownBy.refl _ _⟩;rcases a.2 with⟨rfl,rfl⟩|⟨g,I,cur,rfl,_,_,y,_⟩
  ·simp[Builtin.append_,run_underlying hu,sizeOf,typeInfo,hi,Builtin.lenOf,Builtin.firstCells]
  ·simp[Builtin.append_,run_underlying hu,sizeOf,typeInfo,hi,Builtin.lenOf,Builtin.firstCells,y,storeCells]
 |some p=>
  obtain⟨v',w',h2,j,x,_⟩:=run_append_own (P:=Xz) w base t ty e i z k i.bytes hu hi o F H G hk v n xs a p (ln rows) c rows.flatten (bI b) (d.G2 b hk)
   (λu hu=>by obtain⟨r,E,f⟩:=List.mem_flatten.1 hu;exact h1 r E u f) YR (Ye (Nat.mul_le_mul C s) YK) A
  exact⟨v',w',h2,j,x⟩
def Gj{t e:Yj}{k:Nat}(T:zS t e k)(w:U){base g:Nat}(ty:Yj)(j:w.heap[g]?=L (.cells #[] e (0,0)))(v:base<=g){B:Nat}{S:Option Ym}{m c:Nat}{rows:List (List Z)}(f:bR k w B S c rows)
  (d:ln rows=m)(a:dv k rows)(h1:jA rows)(E:m<=4000000):
  ∃v' w',(Builtin.append_ #[t,t] ty #[V (L ⟨g,0,I⟩) 0 0,V S m c]).run Xz w= .ok v' w'/\w'.ownsRow base e k v' m rows.flatten/\Ext w w':=by
 have q:w.ownsRow base e k (V (L ⟨g,0,I⟩) 0 0) 0 []:=⟨YL,.inr ⟨g,0,#[],rfl,v,j,XE _,YR,YL,YL⟩⟩;have G:=(XV.1 j).1;by_cases r:m=0
 ·have F:=T;obtain⟨hu,i,z,hi,l,u,y,hk,n⟩:=T;obtain rfl:rows=[]:=List.length_eq_zero_iff.1 (d.trans r);subst r;refine⟨V (L ⟨g,0,I⟩) 0 0,w,?_,q,Ext.ah _⟩;cases S with
  |none=>simp[Builtin.append_,run_underlying hu,sizeOf,typeInfo,hi,Builtin.lenOf,Builtin.firstCells,storeCells]
  |some p=>simp[Builtin.append_,run_underlying hu,sizeOf,typeInfo,hi,Builtin.lenOf,Builtin.firstCells,storeCells,loadCells,loadCellsFrom]
 ·obtain⟨v',w',s,h2,A⟩:=IF T w base ty q f d a h1 D D;obtain⟨hu,i,z,hi,l,u,y,hk,n⟩:=T;obtain⟨p,rfl⟩:∃p,S=L p:=by obtain⟨b,off,e,_⟩:=f.2.2 D;exact⟨_,e⟩
  have o:=run_append_grow (P:=Xz) (ty:=ty) w t e i z hu hi l ⟨g,0,I⟩ 0 0 [] YL YL p m c rows.flatten (by rw[bI a,u,d]) (f.G2 a hk) D D (growslice_fits D (Ye (Nat.mul_le_mul (show 0+m<=4000000 by omega) n) YK));rw[s] at o;injection o with C x
  exact⟨v',w',s,by simpa using h2,by rw[x];exact(XI _ _).drew.alloc (XE _) _⟩
theorem Ti(T:zS t e k){o:Oper}{a:Act}{b:Act->U->Prop}{Q:Exit->Act->U->Prop}(s x:Operand)(u:o.op= .call {callee:= .builtin .append,args:=#[s,x],argTypes:=#[t,t]})
  (base:Nat){v:Z}(g:a.eval s=v)(q:w.ownsRow base e k v n xs){B:Nat}{rows:List (List Z)}(hx:a.eval x=V S m c)(r:bR k w B S c rows)
  (i:ln rows=m)(d:dv k rows)(h1:jA rows)(l:n+m<=4000000)(j:base<=w.heap.size)
  (h:∀v' w',w'.ownsRow base e k v' (n+m) (xs++rows.flatten)->w.grownBy w' v.ownBlock->b (a.put o.dst v') w'):Oper.wp Xz o a w b Q:=by
 obtain⟨v',w',p,h2,f⟩:=IF T w base o.type q r i d h1 l j;unfold Oper.wp execOp;simp only[u,resolve,invoke,builtin,Sem.run_bind,Sem.run_pure,Result.andThen_ok,List.map_toArray,List.map_cons,List.map_nil,g,hx,p];exact h v' w' h2 f
theorem uD(T:zS t e k){ops:Array Oper}{rest:List Oper}{o:Oper}{a:Act}{Q:Exit->Act->U->Prop}(i:o.guard=I)(s x:Operand)(u:o.op= .call {callee:= .builtin .append,args:=#[s,x],argTypes:=#[t,t]})
  (base:Nat){v:Z}(f:a.eval s=v)(q:w.ownsRow base e k v n xs){B:Nat}{rows:List (List Z)}(hx:a.eval x=V S m c)(r:bR k w B S c rows)
  (g:ln rows=m)(b:dv k rows)(h1:jA rows)(p:n+m<=4000000)(j:base<=w.heap.size)
  (h:∀v' w',w'.ownsRow base e k v' (n+m) (xs++rows.flatten)->w.grownBy w' v.ownBlock->wpList Xz ops Q rest (a.put o.dst v') w'):wpList Xz ops Q (o::rest) a w:=
 wpList_plain i λ_ l=>Ti T s x u base f q hx r g b h1 p j (λv' w' h2 d=>l _ _ (h v' w' h2 d))
theorem QF(h:ai w b e r):bR k w (b+1) (L ⟨b,0,I⟩) 1 [r]:=
 ⟨XE _,YR,λ_=>⟨b,0,rfl,Nat.lt_succ_self b,λi hi j a=>by
  obtain rfl:i=0:=ZF;rw[show 0+k*0+j=j by omega,h.cell j];rfl⟩⟩
def kX(w:U)(base:Nat)(e:Yj)(k:Nat)(a:base<=w.heap.size):(w.alloc (.cells #[] e)).ownsRow base e k (V (L ⟨w.heap.size,0,I⟩) 0 0) 0 []:=
 U.ownsRow_made w #[] 0 a YR YL
theorem pk(T:zS t e k){ops:Array Oper}{rest:List Oper}{o:Oper}{a:Act}{Q:Exit->Act->U->Prop}(C:o.guard=I)(s x:Operand)(K:o.op= .call {callee:= .builtin .append,args:=#[s,x],argTypes:=#[t,t]})
  (base:Nat){v:Z}(A:a.eval s=v)(J:wr.ownsRow base e k v n xs)(B:Ext wr W1)(z:w=W1.alloc (.cells r.toArray e))(hx:a.eval x=V (L ⟨q,0,I⟩) 1 1)(f:q=W1.heap.size)(G:ln r=k)
  (h1:∀u∈r,u.oneCell'=Y)(F:n+1<=4000000)(i:base<=wr.heap.size)
  (h:∀v' w',w'.ownsRow base e k v' (n+1) (xs++r)->Yl base wr w'->(∀y g p v' m l,g≠e->wr.ownsRow y g p v' m l->w'.ownsRow y g p v' m l)->wpList Xz ops Q rest (a.put o.dst v') w'):wpList Xz ops Q (o::rest) a w:=by
 subst z f;have d:Ext wr (W1.alloc (.cells r.toArray e)):=B.tr ((XI _ _).alloc (XE _) _);have j:=bD J d;refine uD T C s x K base A j hx (QF (ai.new W1 e r)) H (λq f=>by rw[List.mem_singleton.1 f];exact G) (λq f=>by rw[List.mem_singleton.1 f];exact h1) F (Ye i d.size) ?_;intro v' w' h2 c;refine h v' w' (by simpa using h2) ?_ (λy g p v' m l E h=>nF (bD h d) j c E);exact(d.mono i).trans ⟨c.os,c.tape,c.output,c.size,λb D=>c.block b (Nat.lt_of_lt_of_le D (Ye i d.size)) (λq=>by have:=(aH j b q.symm).1;omega)⟩
theorem gF(T:zS t e k){ops:Array Oper}{rest:List Oper}{o:Oper}{a:Act}{Q:Exit->Act->U->Prop}(l:o.guard=I)(s x:Operand)(m:o.op= .call {callee:= .builtin .append,args:=#[s,x],argTypes:=#[t,t]})
  (base:Nat){v:Z}(g:a.eval s=v)(i:wr.ownsRow base e k v n xs)(j:Ext wr W1)(b:w=W1.alloc (.cells r.toArray e))(hx:a.eval x=V (L ⟨W1.heap.size,0,I⟩) 1 1)(f:ln r=k)
  (h1:∀u∈r,u.oneCell'=Y)(c:n+1<=4000000)(p:base<=wr.heap.size)
  (h:∀v' w',w'.ownsRow base e k v' (n+1) (xs++r)->Yl base wr w'->wpList Xz ops Q rest (a.put o.dst v') w'):wpList Xz ops Q (o::rest) a w:=
 pk T l s x m base g i j b hx rfl f h1 c p (λv' w' h2 d _=>h v' w' h2 d)
theorem pq(T:zS t e k){ops:Array Oper}{rest:List Oper}{o:Oper}{a:Act}{Q:Exit->Act->U->Prop}(r:o.guard=I)(s x:Operand)(v:o.op= .call {callee:= .builtin .append,args:=#[s,x],argTypes:=#[t,t]})
  (d:Ext wr W1)(g:w=W1.alloc (.cells #[] e))(j:a.eval s=V (L ⟨W1.heap.size,0,I⟩) 0 0){rows:List (List Z)}(hx:a.eval x=V S m c)(u:bR k wr wr.heap.size S c rows)
  (l:ln rows=m)(n:dv k rows)(h1:jA rows)(z:m<=4000000)
  (h:∀v' w',w'.ownsRow wr.heap.size e k v' m rows.flatten->Ext wr w'->wpList Xz ops Q rest (a.put o.dst v') w'):wpList Xz ops Q (o::rest) a w:=by
 subst g;have b:Ext wr (W1.alloc (.cells #[] e)):=d.tr ((XI _ _).alloc (XE _) _);have f:=kX W1 wr.heap.size e k d.size;refine uD T r s x v wr.heap.size j f hx (u.below b) l n h1 D b.size ?_;intro v' w' h2 i;exact h v' w' (by simpa using h2) (fQ b i (λq y=>(aH f q y).1))
def iA(w:U)(j:bO)(a:cO)(C:Array Z){X:Nat->Prop}{B:Nat}(d:fP X w w.heap.size j a)(c:B=w.heap.size):∃Q,((w.alloc (.cells (aM j a) 34)).alloc (.cells C 50)).alloc (.cells (aM cn cT) 34)=Q/\Q.heap.size=B+3/\Ext w Q/\JC Q B j a/\
  EC Q (B+1) C/\JC Q (B+1+1) cn cT/\fP X Q B j a:=by
 subst c;have b:Ext w (((w.alloc (.cells (aM j a) 34)).alloc (.cells C 50)).alloc (.cells (aM cn cT) 34)):=(((XI _ _).alloc (XE _) _).alloc YL _).alloc YP _;refine⟨_,H,YL,b,?_,?_,?_,d.below b⟩
 ·exact JC.ext (JC.ext (XZ w _) ((XI _ _).alloc (XE _) _)) ((XI _ _).alloc (XE _) _)
 ·have:=EC.new (w.alloc (.cells (aM j a) 34)) C;rw[Ya] at this;exact this.alloc _
 ·have:=XZ ((w.alloc (.cells (aM j a) 34)).alloc (.cells C 50)) (.cells (aM cn cT) 34);rw[Ya,Ya] at this;exact this
theorem gV(h:Hid (((w.alloc (.cells (aM j a) 34)).alloc (.cells C 50)).alloc (.cells (aM cn cT) 34)=Q)):
  ((w.alloc (.cells (aM j a) 34)).alloc (.cells C 50)).alloc (.cells #[Yy {data:=#[]},V I 0 0,G F 0,G F 0,V I 0 0,V I 0 0,V I 0 0,V I 0 0,G F 0,G F 0,G F 0,G F 0,G F 0,V I 0 0,V I 0 0] 34)=Q:=h.o
def oB(X:Nat->Prop)(w:U)(E:Int)(J:bO)(x:Ending)(w':U):Prop:=
 ∃a',x=YC (YF #[YE (aM (if E=0 then J else cn) a'),G F E])/\Ext w w'/\fP X w' w'.heap.size (if E=0 then J else cn) a'
theorem jO{X:Nat->Prop}(a:E≠0){B:Nat}(b:B=w.heap.size)(hx:Ext w W)(C:Array Z):oB X w E J (YC (YF #[YE (aM cn cT),G F E])) (W.setRow (B+1+1) C):=
 ⟨cT,by rw[XQ a],al hx D _,by rw[XQ a];exact oz _ _ _⟩
theorem fP.off{X:Nat->Prop}{c:U}(h:∀d,c.heap.size<=d.heap.size->(∀b,b<c.heap.size->¬X b->d.heap[b]?=c.heap[b]?)->fW d d.heap.size J a):fP X c c.heap.size J a:=
 ⟨h c (XE _) (λ_ _ _=>rfl),λd e=>h d e.1 e.2⟩
theorem SN{X:Nat->Prop}(f:∀b,X b->b<w.heap.size){B:Nat}(d:B=w.heap.size)(k:Q.heap.size=B+3)(c:Ext w Q)(h:kW X B Q W2 J a')(C:Array Z):
  Ext w (W2.setRow (B+1+1) C)/\fP X (W2.setRow (B+1+1) C) (W2.setRow (B+1+1) C).heap.size J a':=by
 subst d;have g:W2.heap.size<=(W2.setRow (w.heap.size+1+1) C).heap.size:=(al (XI w.heap.size W2) D _).size;refine⟨al (c.trans h.1.below) D _,fP.off (λe h1 h2=>h.2.2 e ⟨Ye g h1,λb l a=> ?_⟩)⟩;have j:b≠w.heap.size+1+1:=by
  rcases a with a|a
  ·have:=a.1;omega
  ·omega
 have i:¬X b:=λq=>by
  rcases a with a|a
  ·exact a.2 q
  ·have:=f b q;omega
 refine(h2 b D i).trans ?_;simp only[World.setRow,Array.getElem?_modify];rw[XQ (Ne.symm j)]
theorem fL{X:Nat->Prop}(d:∀b,X b->b<w.heap.size){B:Nat}(c:B=w.heap.size)(e:Q.heap.size=B+3)(a:Ext w Q)(f:E=0)(h:kW X B Q W2 J a'):
  oB X w E J (YC (YF #[YE (aM J a'),G F 0])) (W2.setRow (B+1+1) (aM J a')):=by
 subst f;obtain⟨h1,h2⟩:=SN d c e a h (aM J a');exact⟨a',by rw[XT rfl],h1,by rw[XT rfl];exact h2⟩
def UD(X:Nat->Prop)(w:U)(J:bO)(x:Ending)(w':U):Prop:=∃a,x=YC (YE (aM J a))/\Ext w w'/\fP X w' w'.heap.size J a
theorem Cj{X:Nat->Prop}(e:∀b,X b->b<w.heap.size){B:Nat}(c:B=w.heap.size)(d:Q.heap.size=B+3)(a:Ext w Q)(h:kW X B Q W2 J a'):UD X w J (YC (YE (aM J a'))) (W2.setRow (B+1+1) (aM J a')):=by
 obtain⟨h1,h2⟩:=SN e c d a h (aM J a');exact⟨a',H,h1,h2⟩
theorem wL(W:U)(cs:Array Z)(h:b≠c):(W.setRow c cs).heap[b]?=W.heap[b]?:=by
 simp only[World.setRow,Array.getElem?_modify];rw[XQ (Ne.symm h)]
theorem BV{B i n:Nat}{v:Z}(a:Ext Q W)(h:Q.heap[n]?=L (.cells cs t (0,0)))(b:n≠B):(W.setCell ⟨B,i,I⟩ v).heap[n]?=L (.cells cs t (0,0)):=
 (Below.heap_setCell _ _ _ _ b).trans ((a.block n (XV.1 h).1).trans h)
theorem RH{Q c:U}{B i:Nat}{v x:Z}(d:ew B Q c)(f:c.heap[B]?=L (.cells ((aM j a).setIfInBounds i v) 34 (0,0)))(l:JC Q B j a)(hi:(aM j a)[i]?=L x):
  Ext Q (c.setCell ⟨B,i,I⟩ x)/\(c.setCell ⟨B,i,I⟩ x).setCell ⟨B,i,I⟩ v=c:=by
 have o:=(XV.1 f).1;have g:(aM j a).setIfInBounds i x=aM j a:=by
  apply Array.ext_getElem?;intro k;by_cases h:i=k
  ·subst h;rw[Array.getElem?_setIfInBounds_self,hi];rw[XT (XV.1 hi).1]
  ·rw[Array.getElem?_setIfInBounds_ne h]
 have h1:(c.setCell ⟨B,i,I⟩ x).heap[B]?=L (.cells (aM j a) 34 (0,0)):=by
  simp only[World.setCell,Array.getElem?_modify,f,Yr,Option.map_some];rw[Array.setIfInBounds_setIfInBounds,g];simp
 refine⟨⟨d.below.os,d.below.tape,d.below.output,by simpa[World.setCell] using d.below.size,λb m=> ?_⟩,?_⟩
 ·by_cases h:b=B
  ·subst h;exact h1.trans l.symm
  ·exact(Below.heap_setCell _ _ _ _ h).trans (d.others b m h)
 ·have e:((c.setCell ⟨B,i,I⟩ x).setCell ⟨B,i,I⟩ v).heap=c.heap:=by
   apply Array.ext_getElem?;intro k;by_cases h:k=B
   ·subst h;rw[f];have h2:=h1;generalize c.setCell ⟨k,i,I⟩ x=n at h2⊢;simp only[World.setCell,Array.getElem?_modify,h2,Yr,Option.map_some];simp
   ·exact(Below.heap_setCell _ _ _ _ h).trans (Below.heap_setCell _ _ _ _ h)
  show({c with heap:=((c.setCell ⟨B,i,I⟩ x).setCell ⟨B,i,I⟩ v).heap}:U)={c with heap:=c.heap};rw[e]
theorem ew.grow(h:ew c w W)(e:c<=w.heap.size)(d:Yl w.heap.size W W'):ew c w W':=
 ⟨h.below.trans (d.mono e),λb a f=>(d.block b a).trans (h.others b a f)⟩
def nC(W:U)(B:Nat)(j:bO)(a:cO)(i:Nat)(v:Z):Prop:=W.heap[B]?=L (.cells ((aM j a).setIfInBounds i v) 34 (0,0))
theorem nC.of{B i:Nat}(h:JC W B j a)(v:Z):nC (W.setCell ⟨B,i,I⟩ v) B j a i v:=by
 unfold nC;simp only[World.setCell,Array.getElem?_modify,show W.heap[B]?=L (.cells (aM j a) 34 (0,0)) from h,Yr,Option.map_some];simp
theorem nC.put{B i:Nat}{v:Z}(h:nC W B j a i v)(v':Z):nC (W.setCell ⟨B,i,I⟩ v') B j a i v':=by
 unfold nC at *;simp only[World.setCell,Array.getElem?_modify,h,Yr,Option.map_some];simp
theorem nC.cell{B i:Nat}{v:Z}(h:nC W B j a i v)(hi:i<15):W.cell? ⟨B,i,I⟩=L v/\W.frozen? ⟨B,i,I⟩=O:=by
 unfold nC at h;refine⟨?_,by simp[World.frozen?,h]⟩;simp[World.cell?,h,bJ,hi]
theorem nC.same{B i:Nat}{v:Z}(h:nC W B j a i v)(b:Yl n W W')(c:B<n):nC W' B j a i v:=(b.block B c).trans h
theorem ml(h:p:=by
  go_wp2_with(first
   |(refine wpList_load_row rfl 34 _ rfl _ rfl 34 _ (0,0) _ ac.o XA rfl R ?_)
   |(refine wpList_store_row rfl 34 _ _ rfl _ _ rfl rfl 34 _ (BV (B:=B) f.o HR.o D) R R R ?_))
  first
   |refine bodyPost_ret (aX rfl _ _ _ _ rfl (setRow_heap (BV (B:=B) f.o HR.o D) _) R) rfl ?_
   |refine bodyPost_ret (results_cell_row rfl _ _ _ _ _ (0,0) _ rfl (setRow_heap (BV (B:=B) f.o HR.o D) _) XA rfl R) rfl ?_
  exact ad.o):p:=h
theorem kS(f:α->List Z)(l:List α)(x:α):((l++[x]).map f).flatten=(l.map f).flatten++f x:=by rw[List.map_append,List.flatten_append];simp
def xy{v:Z}(h:v.oneCell'=Y):∀u∈[v],u.oneCell'=Y:=λu hu=>by rw[List.mem_singleton.1 hu];exact h
end
section
open Kp
def pY{α:Type}(l:List α)(c:Nat)(x:α)(k:Nat):List α:=if c<k then de (l.take k) c x else l.take k
theorem yA(l:List α)(c:Nat)(x d:α)(hk:k<ln l):
  pY l c x (k+1)=pY l c x k++(if c=k then [x] else [])++[l.getD k d]:=by
 have a:l.take (k+1)=l.take k++[l.getD k d]:=by
  rw[List.take_add_one,XJ,XO hk];rfl
 have b:(l.take k).length=k:=by rw[List.length_take];omega
 unfold pY;rcases Nat.lt_trichotomy c k with h|h|h
 ·rw[XT (show c<k+1 by omega),XT h,XQ (show c≠k by omega),a];unfold de;rw[List.take_append_of_le_length D,List.drop_append_of_le_length D];simp
 ·subst h;rw[XT (show c<c+1 by omega),XQ (Nat.lt_irrefl c),XT rfl,a];unfold de;rw[List.take_append_of_le_length D,List.drop_append_of_le_length D,List.take_of_length_le D,List.drop_of_length_le D];simp
 ·rw[XQ (show¬c<k+1 by omega),XQ (show¬c<k by omega),XQ (show c≠k by omega),a];simp
theorem wN(l:List α)(c:Nat)(x:α)(a:c<=ln l):pY l c x (ln l)++(if c<ln l then [] else [x])=de l c x:=by
 unfold pY;by_cases h:c<ln l
 ·rw[XT h,XT h,List.take_length];simp
 ·obtain rfl:c=ln l:=D;rw[XQ h,XQ h,List.take_length];unfold de;rw[List.take_length,List.drop_length]
theorem vj(l:List α)(c:Nat)(x:α)(k:Nat):(pY l c x k).length<=ln l+1:=by
 unfold pY de;split
 ·simp only[Yc,List.length_take,List.length_cons,List.length_drop];omega
 ·simp only[List.length_take];omega
theorem Cd(l:List α)(m:Nat)(x d:α)(hk:k<ln l):(l.set m x).take (k+1)=(l.set m x).take k++[if m=k then x else l.getD k d]:=by
 rw[List.take_add_one,List.getElem?_set,XJ];by_cases h:m=k
 ·subst h;rw[XT rfl,XT rfl,XT hk];rfl
 ·rw[XQ h,XQ h,XO hk];rfl
theorem pI{l:List α}{d:α}(h:i<ln l):l.getD i d=l[i]:=by rw[XJ,XO h];rfl
theorem TW(h:iv l=0)(hi:i<k)(hk:k<ln l):l.getD i 0<l.getD k 0:=by
 have b:∀k,k+1<ln l->l.getD k 0<l.getD (k+1) 0:=by
  intro k hk;unfold iv at h;split at h
  ·omega
  ·have:=ij h (k+1) hk;simp only[Nat.add_sub_cancel] at this;split at this
   ·omega
   ·split at this
    ·omega
    ·rename_i h2;exact Int.lt_of_not_ge λa=>h2 ⟨Nat.succ_pos k,a⟩
 induction k with
 |zero=>omega
 |succ k c=>
  have:=b k hk;rcases Nat.lt_or_ge i k with h1|h1
  ·have:=c h1 D;omega
  ·obtain rfl:i=k:=D;exact this
theorem OS(h:∀i k,i<k->k<ln l->l.getD i 0<l.getD k 0)(n:Int):∀k,k<ln l->(k<l.countP (· <n)↔l.getD k 0<n):=by
 induction l with
 |nil=>intro k hk;cases hk
 |cons a l f=>
  intro k hk;have g:∀i k,i<k->k<ln l->l.getD i 0<l.getD k 0:=λi k a b=>h (i+1) (k+1) D YP
  rw[List.countP_cons];cases k with
  |zero=>
   rw[List.getD_cons_zero];by_cases c:a<n
   ·simp[c]
   ·simp only[c,decide_false,Bool.false_eq_true,Yu,Nat.add_zero,iff_false,Nat.not_lt,Nat.le_zero_eq];rw[List.countP_eq_zero];intro x hx;obtain⟨i,hi,rfl⟩:=List.mem_iff_getElem.1 hx;have:=h 0 (i+1) D YP;rw[List.getD_cons_zero,List.getD_cons_succ,pI hi] at this;simp only[XX];omega
  |succ k=>
   rw[List.getD_cons_succ];have d:k<ln l:=by simpa using hk
   have e:=f g k d;by_cases c:a<n
   ·simp only[c,decide_true,Yr];omega
   ·have:=h 0 (k+1) D hk;rw[List.getD_cons_zero,List.getD_cons_succ] at this;simp only[c,decide_false,Bool.false_eq_true,Yu,Nat.add_zero];omega
theorem Kd(h:iv l=0)(n:Int)(hk:k<ln l):k<l.countP (· <n)↔l.getD k 0<n:=OS (λ_ _ a b=>TW h a b) n k hk
theorem Tq{l:List Sz}(h:fE l=0)(z:Int)(hk:k<ln l):Hy l z=(k:Int)↔(l.getD k ir).kind=z:=by
 have hu:∀i k,i<k->k<ln l->(l.getD i ir).kind≠(l.getD k ir).kind:=by
  intro i k hi hk;have:=ij h k hk;unfold kc at this;simp only at this;split at this
  ·cases this
  ·split at this
   ·cases this
   ·split at this
    ·cases this
    ·rename_i e;intro f;exact e (dh hi (by rw[Yg];exact f))
 unfold Hy;constructor
 ·intro g;split at g
  ·omega
  ·by_cases hx:∃i,i<ln l/\(l.getD i ir).kind=z
   ·obtain⟨i,hi,a⟩:=hx;have b:∀q,q<i->((l.getD q ir).kind==z)=O:=λq d=>by rw[XN];intro c;exact hu q i d hi (c.trans a.symm)
    have:=AZ (p:=λi=>(l.getD i ir).kind==z) hi b (by rw[Yg];exact a);obtain rfl:i=k:=D;exact a
   ·have:=sO (p:=λi=>(l.getD i ir).kind==z) (n:=ln l) (λi hi=>by rw[XN];exactλa=>hx ⟨i,hi,a⟩);omega
 ·intro a;have b:∀q,q<k->((l.getD q ir).kind==z)=O:=λq d=>by rw[XN];intro c;exact hu q k d hk (c.trans a.symm)
  have:=AZ (p:=λi=>(l.getD i ir).kind==z) hk b (by rw[Yg];exact a);rw[XQ D];exact this
def qT{a b:Aw}:jo a b<0↔a.width<b.width\/a.width=b.width/\(a.depth<b.depth\/a.depth=b.depth/\(a.spacing<b.spacing\/a.spacing=b.spacing/\a.load<b.load)):=by
 unfold jo xI Lib.compareInt
 repeat' split
 all_goals omega
def QQ{a b:Aw}:pU a b<0↔a.width<b.width\/a.width=b.width/\(a.depth<b.depth\/a.depth=b.depth/\(a.spacing<b.spacing\/a.spacing=b.spacing/\a.load<b.load)):=by
 unfold pU xI
 repeat' split
 all_goals omega
theorem Be{l:List Aw}(h:eE l=0)(hi:i<k)(hk:k<ln l):jo (l.getD i kI) (l.getD k kI)<0:=by
 have c:∀k,k+1<ln l->jo (l.getD k kI) (l.getD (k+1) kI)<0:=by
  intro k hk;unfold eE at h;split at h
  ·omega
  ·have:=ij h (k+1) hk;unfold jZ at this;simp only[Nat.add_sub_cancel] at this;split at this
   ·omega
   ·split at this
    ·omega
    ·rename_i h2;rw[qT,<-QQ];exact Int.lt_of_not_ge λb=>h2 ⟨Nat.succ_pos k,b⟩
 induction k with
 |zero=>omega
 |succ k d=>
  have a:=c k hk;rcases Nat.lt_or_ge i k with h1|h1
  ·have h2:=d h1 D;rw[qT] at a h2⊢;omega
  ·obtain rfl:i=k:=D;exact a
def qI{a b c:Aw}(h:jo a b<0)(h2:jo b c<0\/jo b c=0):jo a c<0:=by
 have d:¬jo c b<0:=by
  rcases h2 with h2|h2
  ·rw[qT] at h2⊢;omega
  ·rw[qT];unfold jo xI Lib.compareInt at h2;revert h2
   repeat' split
   all_goals omega
 rw[qT] at h d⊢;omega
def Ty{l:List Aw}(h:eE l=0)(x:Aw)(f:Nat):∀lo hi,lo<=hi->hi<=ln l->hi-lo<=f->(∀i,i<lo->jo (l.getD i kI) x<0)->(∀i,hi<=i->i<ln l->¬jo (l.getD i kI) x<0)->
  ∀k,k<ln l->(k<Hc l x f lo hi↔jo (l.getD k kI) x<0):=by
 induction f with
 |zero=>
  intro lo hi h1 h2 g c d k hk;obtain rfl:lo=hi:=D;rw[Hl];exact⟨c k,λq=>Nat.lt_of_not_le λr=>d k r hk q⟩
 |succ f e=>
  intro lo hi h1 h2 g c d k hk;unfold Hc;split
  ·split
   ·rename_i n a;refine e _ _ D h2 D (λi m=> ?_) d k hk;rcases Nat.lt_or_ge i ((lo+hi)/2) with b|b
    ·exact qI (Be h b D) (.inl a)
    ·obtain rfl:i=(lo+hi)/2:=D;exact a
   ·rename_i n a;refine e _ _ D D D c (λi m j q=> ?_) k hk;rcases Nat.lt_or_ge ((lo+hi)/2) i with b|b
    ·exact a (qI (Be h b j) (.inl q))
    ·obtain rfl:i=(lo+hi)/2:=D;exact a q
  ·obtain rfl:lo=hi:=D;exact⟨c k,λq=>Nat.lt_of_not_le λr=>d k r hk q⟩
theorem FD{l:List Aw}(h:eE l=0)(x:Aw)(hk:k<ln l):k<zn l x↔jo (l.getD k kI) x<0:=
 Ty h x _ 0 _ (Nat.zero_le _) (XE _) D (λi hi=>D) (λi a b=>D) k hk
theorem T7{l:List Aw}(h:eE l=0)(x:Aw)(hk:k<ln l):jo (l.getD k kI) x=0↔zn l x=k/\F2 l x=Y:=by
 unfold F2;constructor
 ·intro a;have h1:¬k<zn l x:=by rw[FD h x hk];omega
  have h2:zn l x=k:=by
   rcases Nat.lt_or_ge (zn l x) k with h2|h2
   ·have:=λq=>Nat.lt_irrefl _ ((FD h x (k:=zn l x) D).2 q)
    exact absurd (qI (Be h h2 hk) (.inr a)) this
   ·omega
  exact⟨h2,by rw[h2,a];simpa using hk⟩
 ·rintro⟨h1,h2⟩;rw[h1,Bool.and_eq_true] at h2;exact eq_of_beq h2.2
def nI(rs:List (List Sd)):Nat->Nat
 |0=>0
 |k+1=>nI rs k+(rs.getD k []).length
def NG{rs:List (List Sd)}{n:Int}(o:0<=n)(q:n<=9223372036854775807)(g:∀k,(rs.getD k []).length<=1000):
  ∀k,(qP rs n k).2=YG (n<(nI rs k:Int))/\((qP rs n k).2=O->(qP rs n k).1=n-nI rs k):=by
 intro k
 induction k with
 |zero=>exact⟨by rw[show YG (n<(nI rs 0:Int))=O from XU (by show¬n<((0:Nat):Int);omega)];rfl,λ_=>(Int.sub_zero n).symm⟩
 |succ k i=>
  obtain⟨a,j⟩:=i;have hk:=g k;obtain⟨m,b⟩:=aa ((rs.getD k []).length);have l:nI rs (k+1)=nI rs k+m:=by rw[nI,b]
  have f:qP rs n (k+1)=(F.wrap ((qP rs n k).1-(m:Int)),(qP rs n k).2||(!(qP rs n k).2&&YG ((qP rs n k).1<(m:Int)))):=by rw[qP,b]
  rw[b] at hk;rw[l,f];cases c:(qP rs n k).2 with
  |true=>
   rw[c] at a;have:=Yq a.symm;refine⟨?_,λh=>YM⟩
   symm
   exact Yb D
  |false=>
   have h1:=j c;rw[c] at a;have h2:=Yp a.symm;have e:F.wrap (n-nI rs k-(m:Int))=n-nI rs k-(m:Int):=Yh _ D;rw[h1,e];refine⟨?_,λh=>by show n-nI rs k-(m:Int)=_;omega⟩;show YG (n-nI rs k<(m:Int))=_;by_cases d:n-nI rs k<(m:Int)
   ·rw[Yb d,Yb D]
   ·rw[XU d,XU D]
def Jq{rs:List (List Sd)}{n:Int}(c:0<=n)(i:n<=9223372036854775807)(f:∀k,(rs.getD k []).length<=1000)(s:Sd)(k:Nat):
  hH rs n s k=if(nI rs k:Int)<=n/\n<(nI rs k:Int)+(rs.getD k []).length then(rs.getD k []).set (n-nI rs k).toNat s else rs.getD k []:=by
 obtain⟨a,g⟩:=NG c i f k;unfold hH;obtain⟨r,e⟩:=aa (rs.getD k []);rw[e];cases b:(qP rs n k).2 with
 |true=>
  rw[b] at a;have:=Yq a.symm;rw[XQ YL,XQ D]
 |false=>
  rw[b] at a;have h2:=Yp a.symm;rw[g b];by_cases d:n<(nI rs k:Int)+ln r
  ·rw[XT (by rw[Yb D];rfl),XT ⟨D,d⟩]
  ·rw[XQ (by rw[XU D];decide),XQ D]
def MJ{rs:List (List Sd)}{n:Int}(c:n<=9223372036854775807)(b:∀k,(rs.getD k []).length<=1000):kb rs n=if 0<=n/\n<(nI rs (ln rs):Int) then 0 else 6:=by
 unfold kb;by_cases a:n<0
 ·rw[XT a,XQ D]
 ·rw[XQ a,(NG D c b (ln rs)).1];by_cases h1:n<(nI rs (ln rs):Int)
  ·rw[XT (by simpa using h1),XT ⟨D,h1⟩]
  ·rw[XQ (by simpa using h1),XQ D]
end
section
open Kp
attribute [local go_sem] bJ gE fX gA gC fN fG fU fI gD gy dQ dO dR dn dq
attribute [local go_sem] aF dd
def Xe(Q:U)(l:List Int)(c:Nat)(x:Int)(v put i:Z)(wr:U):Prop:=
 ∃k:Nat,k<=ln l/\i=G F (k:Int)/\put=Yz (YG (c<k))/\wr.ownsRow Q.heap.size 3 1 v (pY l c x k).length (aU (pY l c x k)).flatten/\Ext Q wr/\∀q,q<k->l.getD q 0≠x
theorem Hg(hk:k<ln l)(hy:l.getD k 0=y)(f:Ext Q wr)(g:∀q,q<k->l.getD q 0≠x)(i:y≠x)
  {p:List Int}(a:pY l c x k++(if c=k then [x] else [])=p)(b:w'.ownsRow Q.heap.size 3 1 v' (ln p+1) ((aU p).flatten++[Value.int .i64 y]))(d:Yl Q.heap.size wr w'):Xe Q l c x v' (Yz (YG (c<k+1))) (G F ((k:Int)+1)) w':=by
 have e:pY l c x (k+1)=p++[y]:=by rw[yA l c x 0 hk,a,hy]
 refine⟨k+1,hk,YL,rfl,?_,f.trans d,λq j=> ?_⟩
 ·rw[e,aU,kS,Yc];exact b
 ·by_cases h:q<k
  ·exact g q h
  ·rw[show q=k by omega,hy];exact i
def Dz(w:U)(j:bO)(a:cO)(e:Ed)(g:Z){X:Nat->Prop}(aB:∀b,X b->b<w.heap.size)(hb:fP X w w.heap.size j a)(n:iv j.purlins=0):
  XY Xz 90 #[YE (aM j a),YE (P e g)] w (oB X w (if j.purlins.contains e.number then 7 else 0) {j with purlins:=de j.purlins (j.purlins.countP (· <e.number)) e.number}):=by
 obtain⟨B,M⟩:=gz w.heap.size;obtain⟨Q,hW,hs,e0,hJ,hZ,hR,hv⟩:=iA w j a (P e g) hb M;have aG:=(tH n).2;obtain⟨c,s⟩:=aa (j.purlins.countP (· <e.number));have z:c<=ln j.purlins:=s▸List.countP_le_length;have HP:=A (λk hk=>(Kd n e.number (k:=k) hk));rw[s] at HP⊢;have HU:=A (λW (h:Ext Q W)=>((hb.u.below (e0.tr h)).more (e0.tr h).size:bR 1 W W.heap.size a.ua a.uc (aU j.purlins)));obtain⟨J,ao⟩:=aa ({j with purlins:=de j.purlins c e.number});rw[ao];have HF:=A (λW1 v (h:Ext Q W1) (an:j.purlins.contains e.number=O) (l:W1.ownsRow Q.heap.size 3 1 v (aU (de j.purlins c e.number)).length (aU (de j.purlins c e.number)).flatten)=>(by
  obtain⟨a',aj⟩:=I7 hJ hv h l;rw[ao] at aj;exact⟨a',aj.2.1,fL aB M hs e0 (E:=if j.purlins.contains e.number then 7 else 0) (by rw[an];rfl) aj⟩:∃a',JC (W1.setCell ⟨B,4,I⟩ v) B J a'/\oB X w (if j.purlins.contains e.number then 7 else 0) J (YC (YF #[YE (aM J a'),G F 0])) ((W1.setCell ⟨B,4,I⟩ v).setRow (B+1+1) (aM J a'))))
 have aq:=A (λW1 (h:Ext Q W1) (an:j.purlins.contains e.number=Y)=>(by rw[an];exact jO YK M (e0.tr h) _:oB X w (if j.purlins.contains e.number then 7 else 0) J (YC (YF #[YE (aM cn cT),G F 7])) (W1.setRow (B+1+1) (aM cn cT))));have am:=A (λW (h:Ext Q W)=>((hJ.ext h).cell 4).trans (fN j a));have ar:=A (λW (h:Ext Q W)=>((hZ.ext h).cell 35).trans (dd e g));have ax:=A (show j.purlins.contains e.number=Y↔∃q,q<ln j.purlins/\j.purlins.getD q 0=e.number by
  rw[List.contains_iff_mem,List.mem_iff_getElem];exact⟨λ⟨q,h1,h2⟩=>⟨q,h1,by rw[pI h1];exact h2⟩,λ⟨q,h1,h2⟩=>⟨q,h1,by rw[<-pI h1 (d:=0)];exact h2⟩⟩)
 obtain⟨post,ai⟩:=aa (oB X w (if j.purlins.contains e.number then 7 else 0) J);rw[ai] at HF aq⊢;have HW:=A hW;have HR:=A hR;have HJ:=A hJ;have HS:=A hs;have av:=A z;have ay:=A aG;have aP:=A ai;clear ao hW hs e0 hJ hZ hR hv n s hb ai;go_enter func90,ntmps90;go_upto_region 1 with(fail)
 rw[<-M];rw[gV HW];clear M;go_wp2_with fail
 go_loopw [6,7,8] (λv put i wr=>Xe Q j.purlins c e.number v put i wr) (λ_ _ i _=>((ln j.purlins:Int)-Yf i).toNat)
 case atStart=>exact⟨0,Nat.zero_le _,H,YL,by unfold pY;rw[XQ D];exact kX Q _ _ _ (XE _),(XI _ _).alloc (XE _) _,λq h=>D⟩
 case round=>
  obtain⟨k,hk,rfl,rfl,l,o,C⟩:=hrel;have x:=A o;have HN:=A C;have al:=o.size;by_cases K:k<ln j.purlins
  ·obtain⟨y,hy⟩:=aa (j.purlins.getD k 0);obtain⟨b,off,hA,ah,s⟩:=(HU.o Q (Ext.ah _)).2.2 (by rw[XP];omega);have HC:=A (λW (h:Ext Q W)=>(⟨hA▸am.o W h,ar.o W h,(h.cell ah).trans (by
    have:=s k (by rw[XP];exact K) 0 YK;rwa[je K,Nat.one_mul,Nat.add_zero,hy] at this)⟩:W.cell? ⟨B,4,I⟩=L (V (L ⟨b,off,I⟩) (ln j.purlins) a.uc)/\W.cell? ⟨B+1,35,I⟩=L (G F e.number)/\W.cell? ⟨b,off+k,I⟩=L (G F y)))
   obtain⟨q4,aC,c0⟩:=HC.o _ o;have af:=HP.o k K;have HY:=A hy;rw[hy] at af;have e1:(k:Int)<(ln j.purlins:Int):=D;by_cases T:y=e.number
   ·have aI:=A (ax.o.2 ⟨k,K,hy.trans T⟩);clear o l C hA ah s hy af;go_wp2_with fail
    go_quiet (fail)
    go_wp2_with(first
     |(refine wpList_build rfl 34 _ rfl R ?_;rw[show Value.agg (Option.getD (Xz.built 34 _) #[])=YE (aM cn cT) from R])
     |(refine wpList_store_row rfl 34 _ _ rfl _ _ rfl rfl 34 _ (HR.o.ext (below_drewN x.o _)) R R R ?_))
    refine bodyPost_ret (aX H _ _ _ _ H (setRow_heap (HR.o.ext (below_drewN x.o _)) _) R) H ?_;exact aq.o _ (below_drewN x.o _) aI.o
   ·have t0:(y==e.number)=O:=XN.2 T;have aw:=A T;have ak:=vj j.purlins c e.number k;have aE:=ay.o;obtain⟨p,n⟩:=aa (pY j.purlins c e.number k);rw[n] at l ak;have au:=A n;have HO:=A l;by_cases ag:c=k
    ·have r:YG (c<k)=O:=XU D;have t2:YG (y>e.number)=Y:=Yb D;have ae:=A ag;clear o l C hA ah s hy af T n ag;rw[r];go_wp2_with fail
     go_quiet (fail)
     go_wp2_with fail
     go_quiet (fail)
     go_wp2_with(first
      |(at_builtin;refine gF sX H _ _ H Q.heap.size H aH.o (Ext.ah _) H H H (xy H) D az ?_;intro v2 w2 aA aD)
      |(at_builtin;refine gF sX H _ _ H Q.heap.size H HO.o Zx H H H (xy H) D al ?_;intro v' w' u t;have aH:=A u;have f:=A (x.o.trans t);have aF:=A t;obtain⟨aL,aO,aJ⟩:=HC.o _ f.o;have az:=f.o.size;clear u t))
     refine⟨?_,YO⟩;have:=Hg K HY.o x.o HN.o aw.o (c:=c) (p:=p++[e.number]) (by rw[XT ae.o,au.o]) (by rw[aU,kS,Yc];exact aA) (aF.o.trans aD);rwa[Yb (by have:=ae.o;omega)] at this
    ·have ae:=A ag;obtain⟨d,r⟩:=aa (YG (c<k));have t2:d=O->YG (y>e.number)=O:=λh=>XU (by rw[h] at r;have:=Yp r;omega)
     have HD:=A (show YG (c<k+1)=d by rw[<-r];congr 1;apply propext;omega);clear o l C hA ah s hy af T n ag;rw[r];cases d
     case' false=>have t3:=t2 H
     all_goals
      clear t2;go_wp2_with fail
      go_quiet (fail)
      go_wp2_with fail
      go_quiet (fail)
      go_wp2_with(at_builtin;refine gF sX H _ _ H Q.heap.size H HO.o Zx H H H (xy H) D al ?_;intro v' w' u t)
      refine⟨?_,YO⟩;have:=Hg K HY.o x.o HN.o aw.o (c:=c) (p:=p) (by rw[XQ ae.o,List.append_nil,au.o]) u t;rwa[HD.o] at this
  ·obtain rfl:k=ln j.purlins:=D;have ap:=A (show j.purlins.contains e.number=O from Bool.not_eq_true _▸λh=>by obtain⟨q,h1,h2⟩:=ax.o.1 h;exact C q h1 h2);have q4:=am.o _ o;have aC:=ar.o _ o;have ak:=vj j.purlins c e.number (ln j.purlins);have aE:=ay.o;have HE:=A (wN j.purlins c e.number av.o);obtain⟨p,n⟩:=aa (pY j.purlins c e.number (ln j.purlins));rw[n] at l HE ak;obtain⟨S,m,c',rfl⟩:=eF l;have HO:=A l;have fz:=(HJ.o.ext o).frozen 4;by_cases z:c<ln j.purlins
   ·have r:YG (c<ln j.purlins)=Y:=Yb z;rw[XT z,List.append_nil] at HE;obtain⟨a',ab,N⟩:=HF.o _ _ o ap.o (by rw[<-HE.o,XP];exact l);have ac:=A ab;have ad:=A N;have f:=x;clear o l C ab N n z;rw[r];exact ml
   ·obtain rfl:c=ln j.purlins:=by have:=av.o;omega
    have r:YG (ln j.purlins<ln j.purlins)=O:=XU D;rw[XQ z] at HE;clear l C n z;rw[r];go_upto_region 12 with(at_builtin;refine gF sX H _ _ H Q.heap.size H HO.o Zx H H H (xy H) D al ?_;intro v' w' u t)
    obtain⟨A',m',c2,rfl⟩:=eF u;have f:=A (x.o.trans t);obtain⟨a',ab,N⟩:=HF.o _ _ f.o ap.o (by rw[<-HE.o,XP,Yc,aU,kS];exact u);have ac:=A ab;have ad:=A N;have aK:=(HJ.o.ext f.o).frozen 4;have aN:=am.o _ f.o;clear u t ab N;exact ml
end
section
open Kp
attribute [local go_sem] bJ gE fX gA gC fN fG fU fI gD gy dQ dO dR dn dq
attribute [local go_sem] aF dk eL eP
def Xf(Q:U)(l:List Sz)(m:Nat)(x:Sz)(v put i:Z)(wr:U):Prop:=
 ∃k:Nat,k<=ln l/\i=G F (k:Int)/\put=Yz (YG (m<k))/\wr.ownsRow Q.heap.size 41 3 v ((l.set m x).take k).length (bf ((l.set m x).take k)).flatten/\Ext Q wr
theorem Ig{l:List Sz}{x y:Sz}(hk:k<ln l)(d:Ext Q wr){p:List Sz}(a:(l.set m x).take k=p)(hy:(if m=k then x else l.getD k ir)=y)
  (b:w'.ownsRow Q.heap.size 41 3 v' (ln p+1) ((bf p).flatten++yV y))(c:Yl Q.heap.size wr w'):Xf Q l m x v' (Yz (YG (m<k+1))) (G F ((k:Int)+1)) w':=by
 refine⟨k+1,hk,YL,rfl,?_,d.trans c⟩;rw[Cd l m x ir hk,a,hy,bf,kS,Yc];exact b
def GQ(y:Sz):∀u∈yV y,u.oneCell'=Y:=λu hu=>by
 simp only[List.mem_cons,List.not_mem_nil,or_false] at hu;rcases hu with rfl|rfl|rfl<;>rfl
def Kt(w:U)(j:bO)(a:cO)(e:Ed)(g:Z){X:Nat->Prop}(ao:∀b,X b->b<w.heap.size)(hb:fP X w w.heap.size j a)(n:fE j.sizes=0)(ak:ln j.sizes<=1000000):
  XY Xz 91 #[YE (aM j a),YE (P e g)] w (UD X w {j with sizes:=bm j.sizes (Hy j.sizes e.zkind) ⟨e.zkind,e.zwidth,e.zdepth⟩}):=by
 obtain⟨B,E⟩:=gz w.heap.size;obtain⟨Q,hW,hs,e0,hJ,hZ,hR,hv⟩:=iA w j a (P e g) hb E;have hI:=Hh (λi=>(j.sizes.getD i ir).kind==e.zkind) (ln j.sizes);obtain⟨m,t⟩:∃m:Nat,Hy j.sizes e.zkind=m/\m<=ln j.sizes:=by
  unfold Hy;split
  ·exact⟨_,H,XE _⟩
  ·exact⟨(ka (λi=>(j.sizes.getD i ir).kind==e.zkind) (ln j.sizes)).toNat,D,D⟩
 have an:=A t.2;have t:=t.1;have HP:=A (λk hk=>(Tq n e.zkind (k:=k) hk));obtain⟨x,hx⟩:=aa ((⟨e.zkind,e.zwidth,e.zdepth⟩:Sz):Sz);rw[t] at HP⊢;rw[hx];have HU:=A (λW (h:Ext Q W)=>((hb.z.below (e0.tr h)).more (e0.tr h).size:bR 3 W W.heap.size a.za a.zc (bf j.sizes)));obtain⟨J,ai⟩:=aa ({j with sizes:=bm j.sizes m x});rw[ai];have HF:=A (λW1 v (h:Ext Q W1) (c:W1.ownsRow Q.heap.size 41 3 v (bf (bm j.sizes m x)).length (bf (bm j.sizes m x)).flatten)=>(by
  obtain⟨a',af⟩:=Hz hJ hv h c;rw[ai] at af;exact⟨a',af.2.1,Cj ao E hs e0 af⟩:∃a',JC (W1.setCell ⟨B,6,I⟩ v) B J a'/\UD X w J (YC (YE (aM J a'))) ((W1.setCell ⟨B,6,I⟩ v).setRow (B+1+1) (aM J a'))))
 have K:=A (λW (h:Ext Q W)=>(⟨((hJ.ext h).cell 6).trans (fU j a),λi=>(hZ.ext h).cell i⟩:W.cell? ⟨B,6,I⟩=L (V a.za (ln j.sizes) a.zc)/\∀i,W.cell? ⟨B+1,i,I⟩=(P e g)[i]?));have HW:=A hW;have HR:=A hR;have HJ:=A hJ;have aj:=A hx;have ap:=A ak;clear ai hW hs e0 hJ hZ hR hv n hb t hx hI ak;go_enter func91,ntmps91;go_upto_region 1 with(fail)
 rw[<-E];rw[gV HW];clear E;go_wp2_with fail
 go_loopw [5,6,7] (λv put i wr=>Xf Q j.sizes m x v put i wr) (λ_ _ i _=>((ln j.sizes:Int)-Yf i).toNat)
 case atStart=>exact⟨0,Nat.zero_le _,H,YL,kX Q _ _ _ (XE _),(XI _ _).alloc (XE _) _⟩
 case round=>
  obtain⟨k,hk,rfl,rfl,c,l⟩:=hrel;have HX:=A l;have ae:=l.size;have ah:((j.sizes.set m x).take k).length<=ln j.sizes:=by rw[List.length_take,List.length_set];omega
  have au:=ap.o;by_cases M:k<ln j.sizes
  ·obtain⟨y,hy⟩:=aa (j.sizes.getD k ir);obtain⟨b,off,hA,u,hc⟩:=wC (HU.o Q (Ext.ah _)) D;have HC:=A (λW (h:Ext Q W)=>(by
    obtain⟨c0,c1,c2⟩:=hc k M;rw[hy] at c0 c1 c2;exact⟨hA▸(K.o W h).1,(K.o W h).2,(h.cell u).trans c0,(h.cell u).trans c1,(h.cell u).trans c2⟩:W.cell? ⟨B,6,I⟩=L (V (L ⟨b,off,I⟩) (ln j.sizes) a.zc)/\(∀i,W.cell? ⟨B+1,i,I⟩=(P e g)[i]?)/\W.cell? ⟨b,off+k*3,I⟩=L (G F y.kind)/\W.cell? ⟨b,off+k*3+1,I⟩=L (G F y.width)/\W.cell? ⟨b,off+k*3+2,I⟩=L (G F y.depth)))
   obtain⟨q6,qe,c0,c1,c2⟩:=HC.o _ l;have s:=HP.o k M;rw[hy] at s;have HY:=A hy;have e1:(k:Int)<(ln j.sizes:Int):=D;obtain⟨p,n⟩:=aa ((j.sizes.set m x).take k);rw[n] at c ah;have al:=A n;have N:=A c;by_cases ab:m=k
   ·have t0:(y.kind==e.zkind)=Y:=by rw[Yg];exact s.1 D
    have T:=A ab;clear l c hA u hc hy s n ab;go_wp2_with fail
    go_quiet (fail)
    go_wp2_with(at_builtin;(refine gF IV H _ _ H Q.heap.size H N.o Zx (r:=yV ⟨e.zkind,e.zwidth,e.zdepth⟩) H H H (GQ _) D ae ?_;intro v' w' d o))
    refine⟨?_,YO⟩;rw[aj.o] at d;have:=Ig M HX.o al.o (y:=x) (XT T.o) d o;rwa[Yb (by have:=T.o;omega)] at this
   ·have t0:(y.kind==e.zkind)=O:=by rw[XN];intro h;have:=s.2 h;omega
    have T:=A ab;have HD:=A (show YG (m<k+1)=YG (m<k) by congr 1;apply propext;omega);clear l c hA u hc hy s n ab;go_wp2_with fail
    go_quiet (fail)
    go_wp2_with(at_builtin;(refine gF IV H _ _ H Q.heap.size H N.o Zx (r:=yV y) H H H (GQ _) D ae ?_;intro v' w' d o))
    refine⟨?_,YO⟩;have:=Ig M HX.o al.o (by rw[XQ T.o,HY.o]) d o;rwa[HD.o] at this
  ·obtain rfl:k=ln j.sizes:=D;obtain⟨q6,qe⟩:=K.o _ l;obtain⟨S,m',c',rfl⟩:=eF c;have fz:=(HJ.o.ext l).frozen 6;have hl:(j.sizes.set m x).take (ln j.sizes)=j.sizes.set m x:=List.take_of_length_le (by rw[List.length_set];exact XE _);rw[hl] at c ah;by_cases ag:m<ln j.sizes
   ·have t1:YG (m<ln j.sizes)=Y:=Yb ag;have z:bm j.sizes m x=j.sizes.set m x:=by unfold bm;rw[XQ D];rfl
    obtain⟨a',C,q⟩:=HF.o _ _ l (by rw[z,XP];exact c);have ac:=A C;have ad:=A q;have f:=HX;clear l c C q hl z ag;rw[t1];exact ml
   ·obtain rfl:m=ln j.sizes:=by have:=an.o;omega
    have z:bm j.sizes (ln j.sizes) x=j.sizes++[x]:=by unfold bm;rw[XT rfl]
    rw[List.set_eq_of_length_le (XE _)] at c;have am:=A z;have N:=A c;have t1:YG (ln j.sizes<ln j.sizes)=O:=XU D;clear c hl ag z ah;rw[t1];go_upto_region 10 with(at_builtin;(refine gF IV H _ _ H Q.heap.size H N.o Zx (r:=yV ⟨e.zkind,e.zwidth,e.zdepth⟩) H H H (GQ _) D ae ?_;intro v' w' d o))
    rw[aj.o] at d;obtain⟨A',m',c2,rfl⟩:=eF d;have f:=A (HX.o.trans o);obtain⟨a',C,q⟩:=HF.o _ _ f.o (by rw[am.o,XP,Yc,bf,kS];exact d);have ac:=A C;have ad:=A q;have ar:=(HJ.o.ext f.o).frozen 6;have aq:=(K.o _ f.o).1;clear d o C q;exact ml
end
section
open Kp
attribute [local go_sem] bJ gE fX gA gC fN fG fU fI gD gy dQ dO dR dn dq
attribute [local go_sem] aF eO eR eK eB eM
def Ga(l:List Aw)(c:Nat)(d:Bool)(x:Aw)(k:Nat):List Aw:=if d then(l.set c x).take k else pY l c x k
theorem NR{l:List Aw}{x:Aw}(hk:k<ln l):Ga l c d x (k+1)=Ga l c d x k++((if c=k then [x] else [])++(if d=Y/\c=k then [] else [l.getD k kI])):=by
 unfold Ga;cases d
 ·rw[XQ YK,XQ YK,yA l c x kI hk,XQ (c:=O=Y/\c=k) (λh=>by cases h.1),List.append_assoc]
 ·rw[XT rfl,XT rfl,Cd l c x kI hk];by_cases h:c=k
  ·rw[XT h,XT h,XT ⟨rfl,h⟩];simp
  ·rw[XQ h,XQ h,XQ (λq=>h q.2)];simp
def Qf(l:List Aw)(c:Nat)(d:Bool)(x:Aw)(k:Nat):(Ga l c d x k).length<=ln l+1:=by
 unfold Ga;split
 ·rw[List.length_take,List.length_set];omega
 ·exact vj _ _ _ _
def Xh(Q:U)(l:List Aw)(c:Nat)(d:Bool)(x:Aw)(v put i:Z)(wr:U):Prop:=
 ∃k:Nat,k<=ln l/\i=G F (k:Int)/\put=Yz (YG (c<k))/\wr.ownsRow Q.heap.size 48 5 v (Ga l c d x k).length (aO (Ga l c d x k)).flatten/\Ext Q wr
theorem Qx{l:List Aw}{x y:Aw}(hk:k<ln l)(f:Ext Q wr){p r:List Aw}(a:Ga l c d x k=p)(hy:l.getD k kI=y)(g:(if c=k then [x] else [])++(if d=Y/\c=k then [] else [y])=r)
  (b:w'.ownsRow Q.heap.size 48 5 v' (ln p+ln r) ((aO p).flatten++(aO r).flatten))(e:Yl Q.heap.size wr w'):Xh Q l c d x v' (Yz (YG (c<k+1))) (G F ((k:Int)+1)) w':=by
 refine⟨k+1,hk,YL,rfl,?_,f.trans e⟩;rw[NR hk,a,hy,g,aO,List.map_append,List.flatten_append,Yc];exact b
def Oa(y:Aw):∀u∈iI y,u.oneCell'=Y:=λu hu=>by
 simp only[List.mem_cons,List.not_mem_nil,or_false] at hu;rcases hu with rfl|rfl|rfl|rfl|rfl<;>rfl
def Jo(w:U)(j:bO)(a:cO)(e:Ed)(g:Z){X:Nat->Prop}(aD:∀b,X b->b<w.heap.size)(hb:fP X w w.heap.size j a)(hp:eE j.spans=0)(az:ln j.spans<=1000000):
  XY Xz 92 #[YE (aM j a),YE (P e g)] w (UD X w {j with spans:=ub j.spans (nO e)}):=by
 obtain⟨B,hB⟩:=gz w.heap.size;obtain⟨Q,hW,hs,e0,hJ,hZ,hR,hv⟩:=iA w j a (P e g) hb hB;have s:=O2 j.spans (nO e);have ai:F2 j.spans (nO e)=Y->zn j.spans (nO e)<ln j.spans:=λh=>by
  unfold F2 at h;rw[Bool.and_eq_true] at h;exact Yq h.1
 have HP:=A (λk hk=>And.intro (FD hp (nO e) (k:=k) hk) (T7 hp (nO e) (k:=k) hk));unfold ub;obtain⟨x,hx⟩:=aa (nO e);rw[hx] at s ai HP⊢;obtain⟨c,l⟩:=aa (zn j.spans x);obtain⟨d,t⟩:=aa (F2 j.spans x);rw[l,t] at HP⊢;rw[l] at s ai;rw[t] at ai;have ay:=A s;have aE:=A ai;have HU:=A (λW (h:Ext Q W)=>((hb.s.below (e0.tr h)).more (e0.tr h).size:bR 5 W W.heap.size a.sa a.sc (aO j.spans)));obtain⟨ab,hL⟩:=aa (if d=Y then j.spans.set c x else de j.spans c x);rw[hL];obtain⟨J,ar⟩:=aa ({j with spans:=ab});rw[ar];have HF:=A (λW1 v (h:Ext Q W1) (K:W1.ownsRow Q.heap.size 48 5 v (aO ab).length (aO ab).flatten)=>(by
  obtain⟨a',an⟩:=BU hJ hv h K;rw[ar] at an;exact⟨a',an.2.1,Cj aD hB hs e0 an⟩:∃a',JC (W1.setCell ⟨B,14,I⟩ v) B J a'/\UD X w J (YC (YE (aM J a'))) ((W1.setCell ⟨B,14,I⟩ v).setRow (B+1+1) (aM J a'))))
 have ae:=A (λW (h:Ext Q W)=>(⟨((hJ.ext h).cell 14).trans (dq j a),λi=>(hZ.ext h).cell i⟩:W.cell? ⟨B,14,I⟩=L (V a.sa (ln j.spans) a.sc)/\∀i,W.cell? ⟨B+1,i,I⟩=(P e g)[i]?));have HW:=A hW;have HR:=A hR;have HJ:=A hJ;have ak:=A hx;have aI:=A az;have au:=A hL;clear ar hW hs e0 hJ hZ hR hv hp hb hx az l t s ai hL;go_enter func92,ntmps92;go_upto_region 1 with(fail)
 rw[<-hB];rw[gV HW];clear hB;go_wp2_with fail
 go_loopw [5,6,7] (λv put i wr=>Xh Q j.spans c d x v put i wr) (λ_ _ i _=>((ln j.spans:Int)-Yf i).toNat)
 case atStart=>exact⟨0,Nat.zero_le _,H,YL,by rw[show Ga j.spans c d x 0=[] by unfold Ga pY;rw[XQ (Nat.not_lt_zero c)];split <;>rfl];exact kX Q _ _ _ (XE _),(XI _ _).alloc (XE _) _⟩
 case round=>
  obtain⟨k,hk,rfl,rfl,K,m⟩:=hrel;have HX:=A m;have al:=m.size;have aG:=Qf j.spans c d x k;have aT:=aI.o;by_cases am:k<ln j.spans
  ·obtain⟨y,hy⟩:=aa (j.spans.getD k kI);obtain⟨b,off,hA,E,l⟩:=(HU.o Q (Ext.ah _)).2.2 (by rw[XP];omega);have l:=l k (by rw[XP];exact am);rw[mj am,hy,Yd] at l;have aj:=λW (h:Ext wr W)=>(hA▸(ae.o W (m.tr h)).1:W.cell? ⟨B,14,I⟩=L (V (L ⟨b,off,I⟩) (ln j.spans) a.sc))
   have qe:=λW (h:Ext wr W)=>(ae.o W (m.tr h)).2
   have c0:=λW (h:Ext wr W)=>(((m.tr h).cell E).trans (l 0 YK):W.cell? ⟨b,off+k*5,I⟩=L (G F y.width))
   have c1:=λW (h:Ext wr W)=>(((m.tr h).cell E).trans (l 1 YK):W.cell? ⟨b,off+k*5+1,I⟩=L (G F y.depth))
   have c2:=λW (h:Ext wr W)=>(((m.tr h).cell E).trans (l 2 YK):W.cell? ⟨b,off+k*5+2,I⟩=L (G F y.spacing))
   have c3:=λW (h:Ext wr W)=>(((m.tr h).cell E).trans (l 3 YK):W.cell? ⟨b,off+k*5+3,I⟩=L (G F y.load))
   have c4:=λW (h:Ext wr W)=>(((m.tr h).cell E).trans (l 4 YK):W.cell? ⟨b,off+k*5+4,I⟩=L (G F y.span))
   obtain⟨ah,T⟩:=HP.o k am;rw[hy] at ah T;have HY:=A hy;have e1:(k:Int)<(ln j.spans:Int):=D;obtain⟨p,hp⟩:=aa (Ga j.spans c d x k);rw[hp] at K aG;have aS:=A hp;have HO:=A K;have aP:=aj wr (Ext.ah _);have HC:=A (λW (h:Ext Q W)=>(⟨hA▸(ae.o W h).1,(ae.o W h).2,(h.cell E).trans (l 0 YK),(h.cell E).trans (l 1 YK),(h.cell E).trans (l 2 YK),(h.cell E).trans (l 3 YK),(h.cell E).trans (l 4 YK)⟩:W.cell? ⟨B,14,I⟩=L (V (L ⟨b,off,I⟩) (ln j.spans) a.sc)/\(∀i,W.cell? ⟨B+1,i,I⟩=(P e g)[i]?)/\W.cell? ⟨b,off+k*5,I⟩=L (G F y.width)/\W.cell? ⟨b,off+k*5+1,I⟩=L (G F y.depth)/\W.cell? ⟨b,off+k*5+2,I⟩=L (G F y.spacing)/\W.cell? ⟨b,off+k*5+3,I⟩=L (G F y.load)/\W.cell? ⟨b,off+k*5+4,I⟩=L (G F y.span)));obtain⟨n,hn⟩:=aa (jo y (nO e));rw[<-ak.o,hn] at ah T;have KO:=λW=>zH y (nO e) W
   simp only[hn] at KO;have KO:=A KO;have HS:=A (λ(r:List Aw) (v':Z) (w':U) (hr:(if c=k then [x] else [])++(if d=Y/\c=k then [] else [y])=r) o hg=>Qx (w':=w') (v':=v') am m hp hy hr o hg);clear m K hA E l hy hp hn;go_wp2_with fail
   go_region_held3(λw'=>Ext wr w') (first|exact z|exact Ext.dr wr) (first|(go_at_call 165;refine(KO.o _).mono ?_;rintro ee W1 ⟨rfl,av⟩;have z:Ext wr W1:=(Ext.dr wr).tr av))
   have aq:=A z;have aZ:=aj W1 z;have be:=qe W1 z;have d0:=c0 W1 z;have d1:=c1 W1 z;have d2:=c2 W1 z;have d3:=c3 W1 z;have d4:=c4 W1 z;have ap:=(HX.o.tr z).size;have ao:=A (bD HO.o z);have HD:=A (show c≠k->YG (c<k+1)=YG (c<k) fromλh=>by congr 1;apply propext;omega);clear aj qe c0 c1 c2 c3 c4 av z;by_cases C:c=k
   ·have t3:YG (c<k)=O:=XU D;have aw:=A (show YG (c<k+1)=Y from Yb D);have t1:YG (n>=0)=Y:=Yb D;cases t:d with
    |true=>
     have hn:=T.2 ⟨C,t⟩;have t2:(n !=0)=O:=by rw[hn];rfl
     have N:=A (HS.o [x]);rw[XT C,XT ⟨t,C⟩] at N;rw[t3];clear ah T t hn C;go_wp2_with(at_builtin;refine gF zo H _ _ H Q.heap.size H ao.o Zp (r:=iI (nO e)) H H H (Oa _) D ap ?_;intro v' w' o M)
     rw[ak.o] at o;have:=N.o v' w' H (by simpa[aO] using o) ((aq.o.mono al).trans M);rw[aw.o] at this;exact⟨this,YO⟩
    |false=>
     have t2:(n !=0)=Y:=Yn.2 (λh=>by have:=(T.1 h).2;rw[t] at this;cases this);have N:=A (HS.o [x,y]);rw[XT C,XQ (λh=>by have:=h.1;rw[t] at this;cases this)] at N;rw[t3];clear ah T t C;go_wp2_with(first
      |(at_builtin;refine gF zo H _ _ H Q.heap.size H aJ.o Zp (r:=iI y) H H H (Oa _) D aB ?_;intro v2 w2 aC aF)
      |(at_builtin;refine gF zo H _ _ H Q.heap.size H ao.o Zp (r:=iI (nO e)) H H H (Oa _) D ap ?_;intro v' w' o M;have aJ:=A o;have f:=A ((aq.o.mono al).trans M);obtain⟨aU,aN,aL,aW,aQ,aY,aK⟩:=HC.o _ (HX.o.trans f.o);have aB:=(HX.o.trans f.o).size;clear o M))
     have:=N.o v2 w2 H (by simpa[aO,ak.o] using aC) (f.o.trans aF);rw[aw.o] at this;exact⟨this,YO⟩
   ·have t2:(n !=0)=Y:=Yn.2 (λh=>C (T.1 h).1);have N:=A (HS.o [y]);rw[XQ C,XQ (λh=>C h.2),HD.o C] at N;obtain⟨q,t3⟩:=aa (YG (c<k));obtain⟨u,t1⟩:=aa (YG (n>=0));have aA:u=q:=by rw[<-t1,<-t3];congr 1;apply propext;omega
    subst aA;rw[t3] at N⊢;clear ah T C;cases u;all_goals
     go_wp2_with(at_builtin;refine gF zo H _ _ H Q.heap.size H ao.o Zp (r:=iI y) H H H (Oa _) D ap ?_;intro v' w' o M)
     exact⟨N.o v' w' H (by simpa[aO] using o) ((aq.o.mono al).trans M),YO⟩
  ·obtain rfl:k=ln j.spans:=D;obtain⟨aj,qe⟩:=ae.o _ m;obtain⟨S,m',c',rfl⟩:=eF K;have fz:=(HJ.o.ext m).frozen 14;by_cases s:c<ln j.spans
   ·have t1:YG (c<ln j.spans)=Y:=Yb s;have hl:Ga j.spans c d x (ln j.spans)=ab:=by
     rw[<-au.o];unfold Ga;have:=wN j.spans c x (Nat.le_of_lt s);rw[XT s,List.append_nil] at this;split
     ·exact List.take_of_length_le (by rw[List.length_set];exact XE _)
     ·exact this
    obtain⟨a',ag,af⟩:=HF.o _ _ m (by rw[<-hl,XP];exact K);have ac:=A ag;have ad:=A af;have f:=HX;clear m K ag af hl s;rw[t1];exact ml
   ·have aH:c=ln j.spans:=by have:=ay.o;omega
    have ax:d=O:=by cases t:d with|false=>rfl|true=>exact absurd (aE.o t) s
    have hl:Ga j.spans c d x (ln j.spans)++[x]=ab:=by
     rw[<-au.o,ax];unfold Ga;have:=wN j.spans c x ay.o;rw[XQ s] at this;rw[XQ YK,XQ YK];exact this
    have HL:=A hl;have t1:YG (c<ln j.spans)=O:=XU s;have HO:=A K;clear K hl s ax aH;rw[t1];go_upto_region 12 with(at_builtin;refine gF zo H _ _ H Q.heap.size H HO.o Zp (r:=iI (nO e)) H H H (Oa _) D al ?_;intro v' w' o M)
    rw[ak.o] at o;obtain⟨A',m',c2,rfl⟩:=eF o;have f:=A (HX.o.trans M);obtain⟨a',ag,af⟩:=HF.o _ _ f.o (by rw[<-HL.o,XP,Yc,aO,kS];exact o);have ac:=A ag;have ad:=A af;have aR:=(HJ.o.ext f.o).frozen 14;have aV:=(ae.o _ f.o).1;clear o M ag af;exact ml
end
section
open Kp
attribute [local go_sem] bJ gE fX gA gC fN fG fU fI gD gy dQ dO dR dn dq
attribute [local go_sem] aF eV gJ il gL gK gM gN gW
def P6(rs:List (List Sd))(n:Int)(s:Sd)(k:Nat):List Sd:=if(nI rs k:Int)<=n/\n<(nI rs k:Int)+(rs.getD k []).length then(rs.getD k []).set (n-nI rs k).toNat s else rs.getD k []
def Xd(Q:U)(rs:List (List Sd))(n:Int)(s:Sd)(v x f i:Z)(wr:U):Prop:=
 ∃k:Nat,k<=ln rs/\i=G F (k:Int)/\x=G F (nI rs k:Int)/\f=Yz (YG (0<=n)&&YG (n<(nI rs k:Int)))/\Ext Q wr/\
  ∃vals,wr.ownsRow Q.heap.size 102 1 v k vals/\ln vals=k/\∀i,i<k->wr.ownsRow Q.heap.size 36 7 (vals.getD i M) (P6 rs n s i).length (aE (P6 rs n s i)).flatten
theorem Qy{Q wr W1 w2:U}{rs:List (List Sd)}{n:Int}{s:Sd}{v' V1:Z}(hk:k<ln rs)(hx:Ext Q wr)(d:ln vals=k)(j:∀i,i<k->wr.ownsRow Q.heap.size 36 7 (vals.getD i M) (P6 rs n s i).length (aE (P6 rs n s i)).flatten)
  (h1:Ext wr W1)(o:W1.ownsRow Q.heap.size 36 7 V1 (P6 rs n s k).length (aE (P6 rs n s k)).flatten)(l:w2.ownsRow Q.heap.size 102 1 v' (k+1) (vals++[V1]))(m:Yl Q.heap.size W1 w2)
  (b:∀g a f v' e c,a≠102->W1.ownsRow g a f v' e c->w2.ownsRow g a f v' e c):Xd Q rs n s v' (G F (nI rs (k+1):Int)) (Yz (YG (0<=n)&&YG (n<(nI rs (k+1):Int)))) (G F ((k:Int)+1)) w2:=by
 refine⟨k+1,hk,YL,rfl,rfl,(hx.tr h1).trans m,_,l,by simp[d],λi hi=> ?_⟩;by_cases q:i<k
 ·rw[XJ,List.getElem?_append_left D,<-XJ];exact b _ _ _ _ _ _ YK (bD (j i q) h1)
 ·obtain rfl:i=k:=D;rw[XJ,List.getElem?_append_right D,d];simpa using b _ _ _ _ _ _ YK o
def Qa(rs:List (List Sd))(n:Int):Z.bool O=Yz (YG (0<=n)&&YG (n<(nI rs 0:Int))):=by
 by_cases h:0<=n
 ·rw[XU (show¬n<((nI rs 0:Nat):Int) fromλq=>by have:n<((0:Nat):Int):=q;omega),Bool.and_false]
 ·rw[XU h,Bool.false_and]
def VC{rs:List (List Sd)}(a:∀k,(rs.getD k []).length<=1000)(k:Nat):nI rs k<=1000*k:=by
 induction k with
 |zero=>exact XE _
 |succ k b=>have:=a k;rw[nI];omega
def Kh(w:U)(j:bO)(a:cO)(e:Ed)(g:Z){X:Nat->Prop}(aT:∀b,X b->b<w.heap.size)(hb:fP X w w.heap.size j a)(bd:ln j.rings<=1000)(ag:∀k,(j.rings.getD k []).length<=1000)(hn:e.index<=9223372036854775807):
  XY Xz 89 #[YE (aM j a),YE (P e g)] w (oB X w (kb j.rings e.index) {j with rings:=df j.rings e.index (lJ e)}):=by
 obtain⟨B,hB⟩:=gz w.heap.size;obtain⟨Q,hW,hs,e0,hJ,hZ,hR,hv⟩:=iA w j a (P e g) hb hB;obtain⟨E,hE⟩:=aa (kb j.rings e.index);obtain⟨J,ay⟩:=aa ({j with rings:=df j.rings e.index (lJ e)});have a4:=A ((MJ hn ag).symm.trans hE);have a5:=A (λh0 k=>Jq h0 hn ag (lJ e) k);rw[hE,ay];have HU:=A (λW (h:Ext Q W)=>((hb.p.below (e0.tr h)).more (e0.tr h).size:gw W W.heap.size a.pa a.pc j.rings));have HF:=A (λW1 S l (h:Ext Q W1) (av:E=0) (a8:∀W,yw X B Q.heap.size (W1.setRow B (putAt (aM j a) 1 #[V S (df j.rings e.index (lJ e)).length l])) W->gw W W.heap.size S l (df j.rings e.index (lJ e)))=>(by
  have h1:ew B Q (W1.setRow B (putAt (aM j a) 1 #[V S (df j.rings e.index (lJ e)).length l])):=(ew.ext h hJ.lt).row _;have am:kW X B Q (W1.setRow B (putAt (aM j a) 1 #[V S (df j.rings e.index (lJ e)).length l])) {j with rings:=df j.rings e.index (lJ e)} {a with pa:=S,pc:=l}:=by
   refine⟨h1,setRow_heap (hJ.ext h) _,λW s=> ?_⟩;have y:=hv.to hJ.lt h1.below s;exact⟨a8 W s,y.u,y.o,y.z,y.b,y.l,y.s⟩
  rw[ay] at am;exact⟨_,am.2.1,fL aT hB hs e0 av am⟩:∃a',JC (W1.setRow B (putAt (aM j a) 1 #[V S (df j.rings e.index (lJ e)).length l])) B J a'/\oB X w E J (YC (YF #[YE (aM J a'),G F 0])) ((W1.setRow B (putAt (aM j a) 1 #[V S (df j.rings e.index (lJ e)).length l])).setRow (B+1+1) (aM J a'))))
 have aO:=A (λW1 (h:Ext Q W1) (av:E=6)=>(by subst av;exact jO YK hB (e0.tr h) _:oB X w E J (YC (YF #[YE (aM cn cT),G F 6])) (W1.setRow (B+1+1) (aM cn cT))));have aj:=A (λW (h:Ext Q W)=>(⟨((hJ.ext h).cell 1).trans (fX j a),λi=>(hZ.ext h).cell i⟩:W.cell? ⟨B,1,I⟩=L (V a.pa (ln j.rings) a.pc)/\∀i,W.cell? ⟨B+1,i,I⟩=(P e g)[i]?));have HW:=A hW;have HR:=A hR;have HJ:=A hJ;have a0:=A ag;have aV:=A hs;have aL:=A (VC ag);clear ay hW hs e0 hJ hZ hR hv hb hE ag;go_enter func89,ntmps89;go_upto_region 1 with(fail)
 rw[<-hB];rw[gV HW];clear hB;go_wp2_with fail
 go_loopw [6,7,8,9] (λv x f i wr=>Xd Q j.rings e.index (lJ e) v x f i wr) (λ_ _ _ i _=>((ln j.rings:Int)-Yf i).toNat)
 case atStart=>exact⟨0,Nat.zero_le _,H,H,Qa _ _,(XI _ _).alloc (XE _) _,[],kX Q _ _ _ (XE _),H,λi h=>D⟩
 case round=>
  obtain⟨k,hk,rfl,rfl,rfl,d,vals,ho,ab,ac⟩:=hrel;have u:=A d;have bc:=d.size;by_cases aG:k<ln j.rings
  ·obtain⟨ring,hy⟩:=aa (j.rings.getD k []);obtain⟨b,off,s,aw,hc⟩:=(HU.o Q (Ext.ah _)).2.2 D;obtain⟨Ai,ci,c0,ah⟩:=hc k aG;have aW:=a0.o k;have aP:=aL.o k;rw[hy] at c0 ah aW;have HC:=A (λW (h:Ext Q W)=>(⟨s▸(aj.o W h).1,(aj.o W h).2,(h.cell aw).trans c0⟩:W.cell? ⟨B,1,I⟩=L (V (L ⟨b,off,I⟩) (ln j.rings) a.pc)/\(∀i,W.cell? ⟨B+1,i,I⟩=(P e g)[i]?)/\W.cell? ⟨b,off+k,I⟩=L (V Ai (ln ring) ci)));obtain⟨q1,qe,d0⟩:=HC.o _ d;obtain⟨be,ba,a9⟩:=HC.o (wr.alloc (.cells #[] 36)) (d.tr ((XI _ _).alloc (XE _) _));have aC:=A ((ah.below d).more d.size:bR 7 wr wr.heap.size Ai ci (aE ring));have e1:(k:Int)<(ln j.rings:Int):=D;have hN:nI j.rings (k+1)=nI j.rings k+ln ring:=by rw[nI,hy]
   have M:P6 j.rings e.index (lJ e) k=if(nI j.rings k:Int)<=e.index/\e.index<(nI j.rings k:Int)+ln ring then ring.set (e.index-nI j.rings k).toNat (lJ e) else ring:=by unfold P6;rw[hy]
   have T:=A (λW1 w2 v' V1=>Qy (W1:=W1) (w2:=w2) (v':=v') (V1:=V1) aG d ab ac);rw[hN] at T;obtain⟨N,an⟩:=aa (nI j.rings k);rw[an] at M T aP⊢;have HO:=A ho;have w1:F.wrap ((N:Int)+(ln ring:Int))=(N:Int)+(ln ring:Int):=Yh _ D;by_cases K:(N:Int)<=e.index/\e.index<(N:Int)+ln ring
   ·obtain⟨m,hm⟩:∃m:Nat,e.index-(N:Int)=m:=⟨(e.index-N).toNat,D⟩;have t1:YG (e.index>=(N:Int))=Y:=Yb K.1;have t2:YG (e.index<(N:Int)+(ln ring:Int))=Y:=Yb K.2;have w2:F.wrap (e.index-(N:Int))=(m:Int):=by rw[hm];exact Yh _ D
    rw[XT K,hm,Int.toNat_natCast] at M;have e2:(m:Int)<(ln ring:Int):=D;have aS:=A (show m<ln ring by omega);have ar:=A M;have HQ:=A (show(YG (0<=e.index)&&YG (e.index<((N+ln ring:Nat):Int)))=Y by rw[Yb D,Yb D];rfl);rw[HQ.o] at T;clear d ho s aw hc hy c0 ah ab ac an hN M hm K HQ;go_wp2_with(first
     |(at_builtin;refine pk SE H _ _ H Q.heap.size H ax.o (Ext.ah _) (r:=[V (L ⟨gg,0,I⟩) (ln ring) cp]) H H (size_setRow _ _ _).symm H (xy H) D (Ye u.o.size ap.o.size) ?_;intro v' w' aq ao au)
     |(refine bZ rfl 36 _ _ rfl _ _ _ rfl rfl 36 _ aJ.o R a7.o R ?_;have ap:=A (al (n:=gg) ai.o az.o (putAt cur (m*7) #[G F e.sx,G F e.sy,G F e.srise,G F e.srun,Yz e.gable,G F e.splate,G F e.sover]));have ax:=A (bD HO.o ap.o);have ak:=A (jn (k:=7) (x:=nQ (lJ e)) (Ye u.o.size az.o) aJ.o a1.o aQ.o aN.o a2.o (XP _) (dB _) H aS.o))
     |(at_builtin;refine pq Ss H _ _ H (wr:=wr) Zp H H H aC.o (XP _) (dB _) (Ft _) D ?_;intro v1 W1 ae z;obtain⟨gg,cp,cur,rfl,aD,hh,p1,p2,p3,p4⟩:=j1 ae D;have aJ:=A hh;have a1:=A p1;have aQ:=A p2;have aN:=A p3;have a2:=A p4;have az:=A aD;have ai:=A z;have a7:=A (show m*7+7<=cur.size by rw[p3];omega);obtain⟨-,aR,-⟩:=HC.o _ (u.o.tr z);clear ae z hh p1 p2 p3 p4 aD))
    refine⟨by have:=T.o _ _ _ _ ap.o (by rw[ar.o,List.length_set,show aE (ring.set m (lJ e))=(aE ring).set m (nQ (lJ e)) from List.map_set ..];exact ak.o) aq ao au;rwa[Int.natCast_add] at this,YO⟩
   ·obtain⟨p,t1⟩:=aa (YG (e.index>=(N:Int)));have t2:p=Y->YG (e.index<(N:Int)+(ln ring:Int))=O:=λh=>XU (λq=>K ⟨by rw[h] at t1;exact Yq t1,q⟩)
    rw[XQ K] at M;have ar:=A M;have HQ:=A (show(YG (0<=e.index)&&YG (e.index<((N+ln ring:Nat):Int)))=(YG (0<=e.index)&&YG (e.index<(N:Int))) by
     by_cases h:0<=e.index
     ·by_cases h2:e.index<(N:Int)
      ·rw[Yb h2,Yb (show e.index<((N+ln ring:Nat):Int) by omega)]
      ·rw[XU h2,XU (show¬e.index<((N+ln ring:Nat):Int) by omega)]
     ·rw[XU h,Bool.false_and,Bool.false_and])
    rw[HQ.o] at T;obtain⟨f,o⟩:=aa (YG (0<=e.index)&&YG (e.index<(N:Int)));rw[o] at T⊢;clear d ho s aw hc hy c0 ah ab ac an hN M K HQ o;cases p
    case' true=>have t3:=t2 H
    all_goals
     clear t2;go_wp2_with(first
      |(at_builtin;refine pk SE H _ _ H Q.heap.size H ax.o (Ext.ah _) (r:=[V A1 (ln ring) c1]) H H H H (xy H) D (Ye u.o.size ai.o.size) ?_;intro v' w' aq ao au)
      |(at_builtin;refine pq Ss H _ _ H (wr:=wr) Zp H H H aC.o (XP _) (dB _) (Ft _) D ?_;intro v1 W1 ae z;obtain⟨A1,c1,rfl,-⟩:=bK ae (XP _) (dB ring);have ai:=A z;have ax:=A (bD HO.o z);have ak:=A (ft ae u.o.size);obtain⟨-,aR,-⟩:=HC.o _ (u.o.tr z);clear ae z))
     refine⟨by have:=T.o _ _ _ _ ai.o (by rw[ar.o];exact ak.o) aq ao au;rwa[Int.natCast_add] at this,YO⟩
  ·obtain rfl:k=ln j.rings:=D;obtain⟨q1,qe⟩:=aj.o _ d;have ad:=a4.o;by_cases o:0<=e.index/\e.index<(nI j.rings (ln j.rings):Int)
   ·have t1:(YG (0<=e.index)&&YG (e.index<(nI j.rings (ln j.rings):Int)))=Y:=by rw[Yb o.1,Yb o.2];rfl
    rw[XT o] at ad;have aI:∀i,i<(df j.rings e.index (lJ e)).length->(df j.rings e.index (lJ e)).getD i []=P6 j.rings e.index (lJ e) i:=λi hi=>by
     rw[iS] at hi;rw[wX _ _ _ hi,a5.o o.1 i];rfl
    have key:∀C W,yw X B Q.heap.size (wr.setRow B C) W->∀{t k af n xs},wr.ownsRow Q.heap.size t k af n xs->W.ownsRow Q.heap.size t k af n xs:=λC W s _ _ _ _ _ h=>
     j6 (BZ h (.inr (λq=>by have:=(aH h B q).1;have:=aV.o;omega)) _) s
    have all:∀W,(∀{t k af n xs},wr.ownsRow Q.heap.size t k af n xs->W.ownsRow Q.heap.size t k af n xs)->∃S l,u6=V S (df j.rings e.index (lJ e)).length l/\gw W W.heap.size S l (df j.rings e.index (lJ e)):=λW hk=>
     rg_of (vals:=vals) (by rw[iS];exact hk ho) (by rw[iS];exact ab) (λi hi=>by rw[aI i hi];exact hk (ac i (by rw[iS] at hi;exact hi)))
    obtain⟨S,l,rfl,-⟩:=all wr (λh=>h);obtain⟨a',aF,aB⟩:=HF.o wr S l d ad.symm (λW s=>by
     obtain⟨A',bb,aK,a3⟩:=all W (key _ W s);injection aK with h1 h2 y
     subst h1 y;exact a3)
    have aU:=A aF;have a6:=A aB;have aZ:=A (HJ.o.ext d);have aA:=A ((wL wr (c:=B) (b:=B+1+1) (putAt (aM j a) 1 #[V S (df j.rings e.index (lJ e)).length l]) D).trans (HR.o.ext d));clear d ho ab ac aF aB key all aI o ad;rw[t1];go_wp2_with(first
     |(refine bZ rfl 24 _ _ rfl _ _ _ rfl rfl 34 _ aZ.o R (Nat.le_of_ble_eq_true R) R ?_)
     |(refine wpList_load_row rfl 34 _ rfl _ rfl 34 _ (0,0) _ aU.o XA rfl R ?_)
     |(refine wpList_store_row rfl 34 _ _ rfl _ _ rfl rfl 34 _ aA.o R R R ?_))
    refine bodyPost_ret (aX H _ _ _ _ H (setRow_heap aA.o _) R) H ?_;exact a6.o
   ·have t1:(YG (0<=e.index)&&YG (e.index<(nI j.rings (ln j.rings):Int)))=O:=by
     by_cases h:0<=e.index
     ·rw[XU (λq=>o ⟨h,q⟩),Bool.and_false]
     ·rw[XU h,Bool.false_and]
    rw[XQ o] at ad;have aY:=A ad.symm;clear d ho ab ac o ad;rw[t1];go_wp2_with(first
     |(refine wpList_build rfl 34 _ rfl R ?_;rw[show Value.agg (Option.getD (Xz.built 34 _) #[])=YE (aM cn cT) from R])
     |(refine wpList_store_row rfl 34 _ _ rfl _ _ rfl rfl 34 _ (HR.o.ext u.o) R R R ?_))
    refine bodyPost_ret (aX H _ _ _ _ H (setRow_heap (HR.o.ext u.o) _) R) H ?_;exact aO.o _ u.o aY.o
end
section
open Kp
attribute [local go_sem] bJ gE fX gA gC fN fG fU fI gD gy dQ dO dR dn dq
def Td(j:bO)(k:Int):Nat:=
 if k=4 then ln j.purlins else if k=5 then ln j.openings else if k=6 then ln j.sizes else if k=7 then ln j.bars else if k=10 then ln j.aq else ln j.spans
def fy(w:U)(j:bO)(a:cO)(k:Int):XY Xz 166 #[YE (aM j a),G F k] w λx w'=>x=YC (G F (Td j k))/\Ext w w':=by
 have h:=A (show Ext w (w.alloc (.cells (aM j a) 34)) from(XI _ _).alloc (XE _) _);have e:JC (w.alloc (.cells (aM j a) 34)) w.heap.size j a:=XZ w _;have o:=λi=>e.cell i
 clear e;rcases(show k=4\/k=5\/k=6\/k=7\/k=10\/(k≠4/\k≠5/\k≠6/\k≠7/\k≠10) by omega) with rfl|rfl|rfl|rfl|rfl|⟨d,c,g,b,f⟩
 case' inr.inr.inr.inr.inr=>
  have l:=A (show Td j k=ln j.spans by unfold Td;rw[XQ d,XQ c,XQ g,XQ b,XQ f]);rw[l.o];have m:=XN.2 d;have q:=XN.2 c;have p:=XN.2 g;have n:=XN.2 b;have r:=XN.2 f
 all_goals
  go_enter func166,ntmps166;go_wp2;go_ret;exact⟨H,h.o⟩
def gh(k:Int)(w:U):XY Xz 34 #[G F k] w λx w'=>x=YC (Yz (YG (4<=k)&&YG (k<=7)||k==10||k==11))/\w'=w:=by
 obtain⟨p,d⟩:=aa (YG (k>=4));obtain⟨q,e⟩:=aa (YG (k<=7));obtain⟨r,b⟩:=aa (k==10);obtain⟨s,c⟩:=aa (k==11);have a:=A (show(YG (4<=k)&&YG (k<=7)||k==10||k==11)=(p&&q||r||s) by rw[<-d,<-e,<-b,<-c]);rw[a.o];clear a;cases p<;>cases q<;>cases r<;>cases s
 all_goals
  go_enter func34,ntmps34;go_wp2;go_ret;exact⟨H,H⟩
end
section
open Kp
attribute [local go_sem] bJ gE fX gA gC fN fG fU fI gD gy dQ dO dR dn dq
attribute [local go_sem] aF dG eV gZ en ef eh dZ dW dX dU dV eo dt eH eI dY
def P7{m n k a z:Nat}(h:z=a*k)(b:m<n)(c:n<=a):m*k+k<=z:=by
 subst h;have:=Nat.mul_le_mul_right k (show m+1<=a by omega);rwa[Nat.succ_mul] at this
theorem Ok{B:Nat}(h:Ext Q W)(a:Q.heap.size=B+3):ew B Q W:=ew.ext h D
def WN(Q:U)(B i:Nat)(j:bO)(a:cO)(t:Yj)(k n:Nat)(xs:List Z)(J:bO)(post:Ending->U->Prop):Prop:=
 ∀b v,ew B Q b->nC b B j a i v->b.ownsRow Q.heap.size t k v n xs->∃a',JC b B J a'/\post (YC (YF #[YE (aM J a'),G F 0])) (b.setRow (B+1+1) (aM J a'))
theorem Fj{h:Nat->Prop}{B i n k:Nat}{rows:List (List Z)}{post:Ending->U->Prop}(m:ln rows=n)
  (s:∀W1 v,Ext Q W1->W1.ownsRow Q.heap.size t k v (bm rows idx X).length (bm rows idx X).flatten->∃a',kW h B Q (W1.setCell ⟨B,i,I⟩ v) J a')(l:JC Q B j a)(hi:(aM j a)[i]?=L x0)
  (o:¬(idx<0\/(n:Int)<idx)->∀b a',kW h B Q b J a'->post (YC (YF #[YE (aM J a'),G F 0])) (b.setRow (B+1+1) (aM J a')))(r:¬(idx<0\/(n:Int)<idx)):
  (idx=(n:Int)->WN Q B i j a t k (n+1) (rows.flatten++X) J post)/\(¬idx=(n:Int)->WN Q B i j a t k n (rows.set idx.toNat X).flatten J post):=by
 subst m;have key:∀b v,ew B Q b->nC b B j a i v->b.ownsRow Q.heap.size t k v (bm rows idx X).length (bm rows idx X).flatten->∃a',JC b B J a'/\post (YC (YF #[YE (aM J a'),G F 0])) (b.setRow (B+1+1) (aM J a')):=λb v d e c=>by
  obtain⟨h1,h2⟩:=RH d e l hi;obtain⟨a',f⟩:=s _ v h1 (dF c (p:=⟨B,i,I⟩) (λq=>by have:=(aH c _ q).1;have:=l.lt;simp only at *;omega) x0);rw[h2] at f;exact⟨a',f.2.1,o r _ _ f⟩
 refine⟨λg b v d e c=>key b v d e ?_,λg b v d e c=>key b v d e ?_⟩
 ·rw[show bm rows idx X=rows++[X] from XT g,Yc,List.flatten_append];simpa using c
 ·rw[show bm rows idx X=rows.set idx.toNat X from XQ g,List.length_set];exact c
theorem zR(h:p:=by
  by_cases hlow:e.index<0\/(n:Int)<e.index
  ·have HB:=A (ag.o hlow);obtain⟨p,t1⟩:=aa (YG (e.index<0));have t2:p=O->YG (e.index>(n:Int))=Y:=λh=>Yb (by rw[h] at t1;have:=Yp t1;omega)
   have qe:=(d.o _ (Ext.ah Q)).2;clear hlow;cases p
   case' false=>have t3:=t2 H
   all_goals
    clear t2;go_wp2_with(first
     |(go_at_call 166;refine(KL.o _).mono ?_;rintro ee Wl ⟨rfl,hX1⟩;have HXL:=A hX1;obtain⟨ql,qel⟩:=d.o _ hX1;have qm:=λt:Yj=>(d.o (Wl.alloc (.cells #[] t)) (hX1.tr ((XI _ _).alloc (XE _) _))).1;have qem:=λt:Yj=>(d.o (Wl.alloc (.cells #[] t)) (hX1.tr ((XI _ _).alloc (XE _) _))).2;clear hX1)
     |(refine wpList_load_row rfl 34 _ rfl _ rfl 34 _ (0,0) _ o.o XA rfl R ?_)
     |(refine wpList_build rfl 34 _ rfl R ?_;rw[show Value.agg (Option.getD (Xz.built 34 _) #[])=YE (aM cn cT) from R])
     |(refine wpList_store_row rfl 34 _ _ rfl _ _ rfl rfl 34 _ (HR.o.ext HXL.o) R R R ?_))
    refine bodyPost_ret (aX H _ _ _ _ H (setRow_heap (HR.o.ext HXL.o) _) R) H ?_;exact HB.o _ HXL.o
  ·have t1:YG (e.index<0)=O:=XU D;have t2:YG (e.index>(n:Int))=O:=XU D;obtain⟨m,hm⟩:∃m:Nat,e.index=m:=⟨e.index.toNat,D⟩;have hmn:m<=n:=D;have t5:YG (n<m)=O:=XU D;have t6:YG ((m:Int)<0)=O:=XU D;have qe:=(d.o _ (Ext.ah Q)).2;have hs0:=ah.o;by_cases hend:m=n
   ·have t4:(e.index==(n:Int))=Y:=by rw[Yg];omega
    have t7:(m==n)=Y:=Yg.2 hend;have f:=A ((f.o hlow).1 D);clear hlow hmn hend;go_wp2_with(first
     |(refine wpList_load_row rfl 34 _ rfl _ rfl 34 _ (0,0) _ HJC.o XA rfl R ?_)
     |(refine wpList_store_row rfl 34 _ _ rfl _ _ rfl rfl 34 _ (y.o _ (HD3.o _ _)) R R R ?_)
     |(at_builtin;refine pk M.o H _ _ H Q.heap.size H (HO2.o _) (Ext.ah _) (r:=X) (by rw[ad.o]) H YL ae.o ai.o D (HD1.o _).below.size ?_;intro v2 W2 ho2 hX2 _;obtain⟨A2,n2,c2,rfl⟩:=eF ho2;have HD3:=A (λc v=>((HD1.o _).grow D hX2).put c v);have hjs:=nC.same (HJS.o _) hX2 D;obtain⟨q2,fz2⟩:=hjs.cell YK;obtain⟨a',hjc,hpo⟩:=f.o _ _ (HD3.o _ _) (hjs.put (V A2 n2 c2)) (dF ho2 (λq=>by have:=(aH ho2 _ q).1;simp only at this;omega) _);have HJC:=A hjc;have HPO:=A hpo;clear hX2 ho2 hjc hpo hjs)
     |(at_builtin;refine pq M.o H _ _ H (wr:=Wl) (Ext.ah _) H H H (ab.o _ HXL.o) k.o E.o ac.o D ?_;intro v1 W1 ho1 hX1;obtain⟨A1,n1,c1,rfl⟩:=eF ho1;have hX2:=HXL.o.tr hX1;have ho1:=ft ho1 HXL.o.size;have HO2:=A (λc=>dF ho1 (p:=⟨B,c,I⟩) (λq=>by have:=(aH ho1 _ q).1;simp only at this;omega) (V A1 n1 c1));obtain⟨q1,qe1⟩:=d.o _ hX2;have fz:=af.o _ hX2;have HJS:=A (λc=>nC.of (o.o.ext hX2) (i:=c) (V A1 n1 c1));have HD1:=A (λc=>(Ok hX2 hs0).put c (V A1 n1 c1));clear ho1 hX1 hX2)
     |(go_at_call 166;refine(KL.o _).mono ?_;rintro ee Wl ⟨rfl,hX1⟩;have HXL:=A hX1;obtain⟨ql,qel⟩:=d.o _ hX1;have qm:=λt:Yj=>(d.o (Wl.alloc (.cells #[] t)) (hX1.tr ((XI _ _).alloc (XE _) _))).1;have qem:=λt:Yj=>(d.o (Wl.alloc (.cells #[] t)) (hX1.tr ((XI _ _).alloc (XE _) _))).2;clear hX1)
     |(refine wpList_load_row rfl 34 _ rfl _ rfl 34 _ (0,0) _ o.o XA rfl R ?_))
    refine bodyPost_ret (aX H _ _ _ _ H (setRow_heap (y.o _ (HD3.o _ _)) _) R) H ?_;exact HPO.o
   ·have t4:(e.index==(n:Int))=O:=Y4;have f:=A (by have:=(f.o hlow).2 D;rwa[show e.index.toNat=m by omega] at this:WN Q B _ j a _ _ n ((_:List (List Z)).set m X).flatten J post);have e1:(m:Int)<(n:Int):=D;have hmn:m<n:=D;clear hlow hend;have t7:(m==n)=O:=XN.2 D;go_wp2_with(first
     |(refine wpList_load_row rfl 34 _ rfl _ rfl 34 _ (0,0) _ HJC.o XA rfl R ?_)
     |(refine wpList_store_row rfl 34 _ _ rfl _ _ rfl rfl 34 _ (y.o _ (HD4.o _ _)) R R R ?_)
     |(refine bZ rfl _ _ _ rfl _ _ _ rfl rfl _ _ (HG1.o _) R HG2.o R ?_;(obtain⟨a',hjc,hpo⟩:=f.o _ _ (HD4.o _ _) (HJS4.o _ _) (HG4.o _);have HJC:=A hjc;have HPO:=A hpo;clear hjc hpo))
     |(at_builtin;refine pq M.o H _ _ H (wr:=Wl) (Ext.ah _) H H H (ab.o _ HXL.o) k.o E.o ac.o D ?_;intro v1 W1 ho1 hX1;have hX2:=HXL.o.tr hX1;have ho1:=ft ho1 HXL.o.size;obtain⟨gg,c1,cur,rfl,hgb,S,p1,p2,p3,p4⟩:=j1 ho1 D;obtain⟨q1,qe1⟩:=d.o _ hX2;have fz:=af.o _ hX2;have HD4:=A (λc cs=>((Ok hX2 hs0).put c (V (L ⟨gg,0,I⟩) n c1)).grow D (al (XI Q.heap.size _) hgb cs));have HJS4:=A (λc cs=>nC.same (nC.of (o.o.ext hX2) (i:=c) (V (L ⟨gg,0,I⟩) n c1)) (al (XI Q.heap.size _) hgb cs) D);have hg1:=λc=>(Below.heap_setCell W1 ⟨B,c,I⟩ (V (L ⟨gg,0,I⟩) n c1) gg (by show gg≠B;omega)).trans S;have HG1:=A hg1;have HG3:=A hgb;have HG2:=A (P7 p3 hmn p1);have hg4:=λc=>jn hgb (hg1 c) p1 p2 p3 p4 k.o E.o ae.o hmn;simp only[ad.o] at hg4;have HG4:=A hg4;clear hg4 ho1 hX1 hX2 hgb S p1 p2 p3 p4 hg1)
     |(go_at_call 166;refine(KL.o _).mono ?_;rintro ee Wl ⟨rfl,hX1⟩;have HXL:=A hX1;obtain⟨ql,qel⟩:=d.o _ hX1;have qm:=λt:Yj=>(d.o (Wl.alloc (.cells #[] t)) (hX1.tr ((XI _ _).alloc (XE _) _))).1;have qem:=λt:Yj=>(d.o (Wl.alloc (.cells #[] t)) (hX1.tr ((XI _ _).alloc (XE _) _))).2;clear hX1)
     |(refine wpList_load_row rfl 34 _ rfl _ rfl 34 _ (0,0) _ o.o XA rfl R ?_))
    refine bodyPost_ret (aX H _ _ _ _ H (setRow_heap (y.o _ (HD4.o _ _)) _) R) H ?_;exact HPO.o):p:=h
def Gy(w:U)(j:bO)(a:cO)(e:Ed)(g:Z){K:Nat->Prop}(ak:∀b,K b->b<w.heap.size)(hb:fP K w w.heap.size j a)(hk:e.kind=5)(am:ln j.openings<=1000000):
  XY Xz 94 #[YE (aM j a),YE (P e g)] w (oB K w (cM (ln j.openings) e.index) {j with openings:=bm j.openings e.index ⟨e.oside,e.oleft,e.oright,e.olow,e.ohigh⟩}):=by
 obtain⟨B,C⟩:=gz w.heap.size;obtain⟨Q,hW,hs,T,z,hZ,hR,hv⟩:=iA w j a (P e g) hb C;obtain⟨J,aj⟩:=aa ({j with openings:=bm j.openings e.index ⟨e.oside,e.oleft,e.oright,e.olow,e.ohigh⟩});rw[aj];obtain⟨n,s⟩:=aa (ln j.openings);have k:=A (show(aV j.openings).length=n by first|(rw[XP];exact s)|exact hrr.1.trans s);have KL:=A (λW=>(by rw[<-s];exact fy W j a 5:XY Xz 166 #[YE (aM j a),G F 5] W λx w'=>x=YC (G F (n:Nat))/\Ext W w'));have d:=A (λW (h:Ext Q W)=>(⟨((z.ext h).cell 5).trans (by rw[fG,s]),λi=>(hZ.ext h).cell i⟩:W.cell? ⟨B,5,I⟩=L (V a.oa n a.oc)/\∀i,W.cell? ⟨B+1,i,I⟩=(P e g)[i]?));obtain⟨X,l⟩:=gz (uk ⟨e.oside,e.oleft,e.oright,e.olow,e.ohigh⟩:List Z);obtain⟨post,N⟩:=aa (oB K w (cM (ln j.openings) e.index) J);rw[N];rw[s] at am N;have f:=A (Fj (post:=post) k.o (λW1 v h ho=>aj▸IK z hv h (by rw[aV,<-oJ uk,<-l];exact ho):∀W1 v,Ext Q W1->W1.ownsRow Q.heap.size 39 5 v (bm (aV j.openings) e.index X).length (bm (aV j.openings) e.index X).flatten->∃a',kW K B Q (W1.setCell ⟨B,5,I⟩ v) J a') z (fG j a) (λhr Wf a' h=>N▸fL ak C hs T (by unfold cM;rw[XT D]) h));have ab:=A (λW (h:Ext Q W)=>(((hb.o).below (T.tr h)).more (T.tr h).size:bR 5 W W.heap.size a.oa a.oc (aV j.openings)));have af:=A (λW (h:Ext Q W)=>(z.ext h).frozen 5);have ag:=A (λ(S:e.index<0\/(n:Int)<e.index) W1 (h:Ext Q W1)=>(by
  have h6:cM n e.index=6:=by unfold cM;rw[XQ D]
  rw[<-N,h6];exact jO YK C (T.tr h) _:post (YC (YF #[YE (aM cn cT),G F 6])) (W1.setRow (B+1+1) (aM cn cT))))
 have y:=A (λW (h:ew B Q W)=>(h.others (B+1+1) D D).trans hR);have M:=A Sy;have ad:=A (show X.toArray=#[G F e.oside,Yy (tx e.oleft),Yy (tx e.oright),Yy (tx e.olow),Yy (tx e.ohigh)] by rw[l]);have ao:=A (show Value.agg #[G F e.oside,Yy (tx e.oleft),Yy (tx e.oright),Yy (tx e.olow),Yy (tx e.ohigh)]=YE X.toArray by rw[l]);have ae:=A (show ln X=5 by rw[l];rfl);have ai:=A (show∀u∈X,u.oneCell'=Y by rw[l];intro u hu;simp only[List.mem_cons,List.not_mem_nil,or_false] at hu;rcases hu with rfl|rfl|rfl|rfl|rfl<;>rfl);have an:=A (show X.toArray.all (·.oneCell')=Y by rw[l];kernel_rfl);have ap:=A (show(Xz.info? 39).map (·.size)=L X.toArray.size by rw[l];kernel_rfl);have E:=A (lU j.openings);have ac:=A (Bl j.openings);have HW:=A hW;have HR:=A hR;have o:=A z;have ah:=A hs;clear l N s aj hW hs T z hZ hR hv hb;go_enter func94,ntmps94;go_upto_region 1 with(fail)
 rw[<-C];rw[gV HW];clear C;exact zR
def GC(w:U)(j:bO)(a:cO)(e:Ed)(g:Z){K:Nat->Prop}(ak:∀b,K b->b<w.heap.size)(hb:fP K w w.heap.size j a)(hk:e.kind=10)(am:ln j.aq<=1000000):
  XY Xz 94 #[YE (aM j a),YE (P e g)] w (oB K w (cM (ln j.aq) e.index) {j with aq:=bm j.aq e.index ⟨e.lkind,e.lside,e.lweight⟩}):=by
 obtain⟨B,C⟩:=gz w.heap.size;obtain⟨Q,hW,hs,T,z,hZ,hR,hv⟩:=iA w j a (P e g) hb C;obtain⟨J,aj⟩:=aa ({j with aq:=bm j.aq e.index ⟨e.lkind,e.lside,e.lweight⟩});rw[aj];obtain⟨n,s⟩:=aa (ln j.aq);have k:=A (show(bG j.aq).length=n by first|(rw[XP];exact s)|exact hrr.1.trans s);have KL:=A (λW=>(by rw[<-s];exact fy W j a 10:XY Xz 166 #[YE (aM j a),G F 10] W λx w'=>x=YC (G F (n:Nat))/\Ext W w'));have d:=A (λW (h:Ext Q W)=>(⟨((z.ext h).cell 13).trans (by rw[dn,s]),λi=>(hZ.ext h).cell i⟩:W.cell? ⟨B,13,I⟩=L (V a.la n a.lc)/\∀i,W.cell? ⟨B+1,i,I⟩=(P e g)[i]?));obtain⟨X,l⟩:=gz (MK ⟨e.lkind,e.lside,e.lweight⟩:List Z);obtain⟨post,N⟩:=aa (oB K w (cM (ln j.aq) e.index) J);rw[N];rw[s] at am N;have f:=A (Fj (post:=post) k.o (λW1 v h ho=>aj▸IG z hv h (by rw[bG,<-oJ MK,<-l];exact ho):∀W1 v,Ext Q W1->W1.ownsRow Q.heap.size 46 3 v (bm (bG j.aq) e.index X).length (bm (bG j.aq) e.index X).flatten->∃a',kW K B Q (W1.setCell ⟨B,13,I⟩ v) J a') z (dn j a) (λhr Wf a' h=>N▸fL ak C hs T (by unfold cM;rw[XT D]) h));have ab:=A (λW (h:Ext Q W)=>(((hb.l).below (T.tr h)).more (T.tr h).size:bR 3 W W.heap.size a.la a.lc (bG j.aq)));have af:=A (λW (h:Ext Q W)=>(z.ext h).frozen 13);have ag:=A (λ(S:e.index<0\/(n:Int)<e.index) W1 (h:Ext Q W1)=>(by
  have h6:cM n e.index=6:=by unfold cM;rw[XQ D]
  rw[<-N,h6];exact jO YK C (T.tr h) _:post (YC (YF #[YE (aM cn cT),G F 6])) (W1.setRow (B+1+1) (aM cn cT))))
 have y:=A (λW (h:ew B Q W)=>(h.others (B+1+1) D D).trans hR);have M:=A Sq;have ad:=A (show X.toArray=#[G F e.lkind,G F e.lside,Yy (tx e.lweight)] by rw[l]);have ao:=A (show Value.agg #[G F e.lkind,G F e.lside,Yy (tx e.lweight)]=YE X.toArray by rw[l]);have ae:=A (show ln X=3 by rw[l];rfl);have ai:=A (show∀u∈X,u.oneCell'=Y by rw[l];intro u hu;simp only[List.mem_cons,List.not_mem_nil,or_false] at hu;rcases hu with rfl|rfl|rfl<;>rfl);have an:=A (show X.toArray.all (·.oneCell')=Y by rw[l];kernel_rfl);have ap:=A (show(Xz.info? 46).map (·.size)=L X.toArray.size by rw[l];kernel_rfl);have E:=A (nN j.aq);have ac:=A (AV j.aq);have HW:=A hW;have HR:=A hR;have o:=A z;have ah:=A hs;clear l N s aj hW hs T z hZ hR hv hb;go_enter func94,ntmps94;go_upto_region 1 with(fail)
 rw[<-C];rw[gV HW];clear C;exact zR
def Fm(w:U)(j:bO)(a:cO)(e:Ed){g:Nat->Prop}(ak:∀b,g b->b<w.heap.size)(hb:fP g w w.heap.size j a)(hk:e.kind=7)(an:ln j.bars<=1000000)(ga:Option Ym)(gc:Nat)(ao:aT w w.heap.size ga gc e.gaps)(am:∀W,zI g w.heap.size w W->aT W W.heap.size ga gc e.gaps):
  XY Xz 94 #[YE (aM j a),YE (P e (V ga (ln e.gaps) gc))] w (oB g w (cM (ln j.bars) e.index) {j with bars:=bm j.bars e.index ⟨e.bwidth,e.bdepth,e.blength,e.bcount,e.bcost,e.gaps⟩}):=by
 obtain⟨B,s⟩:=gz w.heap.size;obtain⟨Q,hW,hs,N,C,hZ,hR,hv⟩:=iA w j a (P e (V ga (ln e.gaps) gc)) hb s;obtain⟨J,aj⟩:=aa ({j with bars:=bm j.bars e.index ⟨e.bwidth,e.bdepth,e.blength,e.bcount,e.bcost,e.gaps⟩});rw[aj];obtain⟨rows,T,ar,ap⟩:=lX hv D;have hg:=(sn ao).below N;rw[<-s] at hg;have aq:∀W,zI g B Q W->bR 2 W W.heap.size ga gc (eN e.gaps):=λW hO=>sn (am W ((s▸hO:zI g w.heap.size Q W).below N))
 obtain⟨n,z⟩:=aa (ln j.bars);have k:=A (show(rows).length=n by first|(rw[XP];exact z)|exact T.1.trans z);have KL:=A (λW=>(by rw[<-z];exact fy W j a 7:XY Xz 166 #[YE (aM j a),G F 7] W λx w'=>x=YC (G F (n:Nat))/\Ext W w'));have d:=A (λW (h:Ext Q W)=>(⟨((C.ext h).cell 7).trans (by rw[fI,z]),λi=>(hZ.ext h).cell i⟩:W.cell? ⟨B,7,I⟩=L (V a.ba n a.bc)/\∀i,W.cell? ⟨B+1,i,I⟩=(P e (V ga (ln e.gaps) gc))[i]?));obtain⟨X,l⟩:=gz (yj ⟨e.bwidth,e.bdepth,e.blength,e.bcount,e.bcost,e.gaps⟩ ga gc:List Z);obtain⟨post,K⟩:=aa (oB g w (cM (ln j.bars) e.index) J);rw[K];rw[z] at an K;have f:=A (Fj (post:=post) k.o (λW1 v h ho=>aj▸IT C hv h (T.put e.index _ ga gc hg) (λW hO=>(ap W hO).put e.index _ ga gc (aq W hO)) (by rw[<-l];exact ho):∀W1 v,Ext Q W1->W1.ownsRow Q.heap.size 44 6 v (bm (rows) e.index X).length (bm (rows) e.index X).flatten->∃a',kW g B Q (W1.setCell ⟨B,7,I⟩ v) J a') C (fI j a) (λhr Wf a' h=>K▸fL ak s hs N (by unfold cM;rw[XT D]) h));have ab:=A (λW (h:Ext Q W)=>(((ar).below (h.mono D)).more (Ye D h.size):bR 6 W W.heap.size a.ba a.bc (rows)));have af:=A (λW (h:Ext Q W)=>(C.ext h).frozen 7);have ag:=A (λ(S:e.index<0\/(n:Int)<e.index) W1 (h:Ext Q W1)=>(by
  have h6:cM n e.index=6:=by unfold cM;rw[XQ D]
  rw[<-K,h6];exact jO YK s (N.tr h) _:post (YC (YF #[YE (aM cn cT),G F 6])) (W1.setRow (B+1+1) (aM cn cT))))
 have y:=A (λW (h:ew B Q W)=>(h.others (B+1+1) D D).trans hR);have M:=A Sm;have ad:=A (show X.toArray=#[G F e.bwidth,G F e.bdepth,G F e.blength,G F e.bcount,G F e.bcost,V ga (ln e.gaps) gc] by rw[l]);have av:=A (show Value.agg #[G F e.bwidth,G F e.bdepth,G F e.blength,G F e.bcount,G F e.bcost,V ga (ln e.gaps) gc]=YE X.toArray by rw[l]);have ae:=A (show ln X=6 by rw[l];rfl);have ai:=A (show∀u∈X,u.oneCell'=Y by rw[l];intro u hu;simp only[List.mem_cons,List.not_mem_nil,or_false] at hu;rcases hu with rfl|rfl|rfl|rfl|rfl|rfl<;>rfl);have au:=A (show X.toArray.all (·.oneCell')=Y by rw[l];kernel_rfl);have aw:=A (show(Xz.info? 44).map (·.size)=L X.toArray.size by rw[l];kernel_rfl);have E:=A (T.wide);have ac:=A (T.one);have HW:=A hW;have HR:=A hR;have o:=A C;have ah:=A hs;clear l K z aj hW hs N C hZ hR hv hb;go_enter func94,ntmps94;go_upto_region 1 with(fail)
 rw[<-s];rw[gV HW];clear s;exact zR
end
section
open Kp
theorem KH(T:zS t e k){o:Oper}{a:Act}{b:Act->U->Prop}{Q:Exit->Act->U->Prop}(s x:Operand)(u:o.op= .call {callee:= .builtin .append,args:=#[s,x],argTypes:=#[t,t]})
  (j:a.eval s=V (L ⟨g,0,I⟩) 0 0)(f:w.heap[g]?=L (.cells #[] e (0,0)))(n:base<=g){B:Nat}{rows:List (List Z)}(hx:a.eval x=V S m c)(r:bR k w B S c rows)
  (l:ln rows=m)(d:dv k rows)(h1:jA rows)(p:m<=4000000)
  (h:∀v' w',w'.ownsRow base e k v' m rows.flatten->Ext w w'->b (a.put o.dst v') w'):Oper.wp Xz o a w b Q:=by
 obtain⟨v',w',q,h2,i⟩:=Gj T w o.type f n r l d h1 p;unfold Oper.wp execOp;simp only[u,resolve,invoke,builtin,Sem.run_bind,Sem.run_pure,Result.andThen_ok,List.map_toArray,List.map_cons,List.map_nil,j,hx,q];exact h v' w' h2 i
theorem Pw(T:zS t e k)(w:U){B:Nat}{rows:List (List Z)}(o:bR k w B S c rows)(s:ln rows=n)(hi:i<=n):
  ∃a,(∀W,Sem.run Xz (Instr.sliceAt t (V S n c) I (L (G F (i:Int))) I) W= .ok (V a i c) W)/\bR k w B a c (rows.take i):=by
 obtain⟨hu,z,_,f,_,v,_,hk,_⟩:=T;obtain⟨h1,h2,d⟩:=o;refine⟨if c=0 then S else S.map (·.add 0),λW=> ?_,?_⟩
 ·simp[Instr.sliceAt,Instr.slice,Instr.sliceBounds,Instr.sliceBound,run_underlying hu,sizeOf,typeInfo,f,asIntOf];intro h;omega
 ·have r:(rows.take i).length=i:=by rw[List.length_take];omega
  refine⟨D,h2,λu=> ?_⟩;obtain⟨b,off,rfl,g,m⟩:=d D;refine⟨b,off,?_,g,λq x j l=> ?_⟩
  ·split
   ·rfl
   ·simp[Ym.add]
  ·rw[m q D j l,XJ,XJ,List.getElem?_take,XT D]
theorem Ps(T:zS t e k)(w:U){B:Nat}{rows:List (List Z)}(r:bR k w B S c rows)(m:ln rows=n)(hi:i<=n):
  ∃a,(∀W,Sem.run Xz (Instr.sliceAt t (V S n c) (L (G F (i:Int))) I I) W= .ok (V a (n-i) (c-i)) W)/\bR k w B a (c-i) (rows.drop i):=by
 obtain⟨hu,z,_,f,_,s,_,hk,_⟩:=T;obtain⟨h1,h2,d⟩:=r;refine⟨if c=i then S else S.map (·.add (i*k)),λW=> ?_,?_⟩
 ·simp[Instr.sliceAt,Instr.slice,Instr.sliceBounds,Instr.sliceBound,run_underlying hu,sizeOf,typeInfo,f,asIntOf,s];intro h;omega
 ·have u:(rows.drop i).length=n-i:=by rw[List.length_drop,m]
  refine⟨D,D,λv=> ?_⟩;obtain⟨b,off,rfl,g,o⟩:=d D;refine⟨b,off+k*i,?_,g,λq x j l=> ?_⟩
  ·rw[XQ D,Yd];simp only[Option.map_some,Ym.add];split
   ·rename_i h;rw[h];rfl
   ·rfl
  ·have:=o (q+i) D j l;rw[show off+k*i+k*q+j=off+k*(q+i)+j by rw[Nat.mul_add];omega,this,XJ,XJ,List.getElem?_drop,Nat.add_comm]
def Mz(B cell:Nat)(S:Option Ym)(n a i:Nat):Nat->Z
 |1=> YA (L ⟨B,cell,I⟩)
 |2=> V S n a
 |3=> G F (i:Int)
 |6=> YA (L ⟨B,cell,I⟩)
 |7=> V S n a
 |8=> G F (i:Int)
 |9=> G F ((i:Int)+1)
 |_=>M
def IP(Q:U)(e:Yj)(k B cell:Nat)(S:Option Ym)(n a i:Nat)(rows:List (List Z)):Nat->Z->U->Prop
 |0,v,w=>∃g,v=V (L ⟨g,0,I⟩) 0 0/\Q.heap.size<=g/\w.heap[g]?=L (.cells #[] e (0,0))
 |4,v,w=>∃b,v=V b i a/\bR k w w.heap.size b a (rows.take i)
 |5,v,w=>w.ownsRow Q.heap.size e k v i (rows.take i).flatten
 |10,v,w=>∃b,v=V b (n-(i+1)) (a-(i+1))/\bR k w w.heap.size b (a-(i+1)) (rows.drop (i+1))
 |q,v,_=>v=Mz B cell S n a i q
theorem pH{k B cell:Nat}{n b i:Nat}{rows:List (List Z)}{v:Z}(h:IP Q e k B cell S n b i rows q v w)(hx:Ext w w'):IP Q e k B cell S n b i rows q v w':=by
 unfold IP at *;split at h
 ·obtain⟨g,h1,h2,a⟩:=h;exact⟨g,h1,h2,(hx.block g (XV.1 a).1).trans a⟩
 ·exact a2r
 ·exact bD h hx
 ·exact a2r
 ·exact h
end
section
open Kp
attribute [local go_sem] aF dG eV gJ il gL gK gM gN gW gZ en ef eh dZ dk eL eP dW dX dU dV eo dt eH eI dY eO eR eK eB eM ff eY fe eZ dd dP
def MS(w:U)(l:List Int)(x:Ending)(w':U):Prop:=∃S c,x=YC (V S (ln l) c)/\bR 1 w' w'.heap.size S c (aU l)/\Ext w w'
theorem Iu{v:Z}(h:w'.ownsRow base 3 1 v (ln l) (aU l).flatten)(hx:Ext w w'):MS w l (YC v) w':=by
 obtain⟨S,c,rfl,h2⟩:=bK h (by rw[XP]) (bQ (f:=λn:Int=>([G F n]:List Z)) (λ_=>rfl) l);exact⟨S,c,H,h2,hx⟩
def Qw(l:List Int):(aU l).flatten=l.map (Value.int .i64):=by
 induction l with
 |nil=>rfl
 |cons x l a=>simp only[aU,List.map_cons,List.flatten_cons] at *;rw[a];rfl
def Dp(w:U)(l:List Int)(base:Nat)(a:base<=w.heap.size)(b:ln l<=100):(w.alloc (.cells (l.map (Value.int .i64)).toArray 3)).ownsRow base 3 1 (V (L ⟨w.heap.size,0,I⟩) (ln l) (ln l)) (ln l) (aU l).flatten:=by
 rw[Qw];exact⟨YL,.inr ⟨w.heap.size,ln l,(l.map (Value.int .i64)).toArray,rfl,a,XZ w _,XE _,YR,YL,by simp[List.take_of_length_le]⟩⟩
theorem MD{v:Z}(l:List Int)(hx:Ext w W)(e:ln l<=100)(b:Nat)(d:b=W.heap.size)(c:v=V (L ⟨b,0,I⟩) (ln l) (ln l))(a:W'=W.alloc (.cells (l.map (Value.int .i64)).toArray 3)):MS w l (YC v) W':=by
 subst c a d;exact Iu (Dp W l 0 (Nat.zero_le _) e) (hx.tr ((XI _ _).alloc (XE _) _))
def QH(w:U)(e:Ed)(g:Z)(h1:1<=e.kind/\e.kind<=12)(f:e.kind≠7):XY Xz 35 #[YE (P e g)] w (MS w (aN e)):=by
 obtain⟨l,a⟩:=gz (aN e);rw[<-a];rcases(show e.kind=1\/(e.kind=2/\e.gable=Y)\/(e.kind=2/\e.gable=O)\/e.kind=3\/e.kind=4\/e.kind=5\/e.kind=6\/e.kind=8\/e.kind=9\/e.kind=10\/e.kind=11\/e.kind=12 by cases e.gable<;>simp <;>omega) with hk|⟨hk,b⟩|⟨hk,b⟩|hk|hk|hk|hk|hk|hk|hk|hk|hk
 all_goals
  clear h1 f
  first
   |simp[aN,Uj,hk,b] at a
   |simp[aN,Uj,hk] at a
  have d:=A a;have c:=A (show Ext w (w.alloc (.cells (P e g) 50)) from(XI _ _).alloc (XE _) _);have j:=A (EC.new w (P e g));have k:=λi=>j.o.cell i
  clear a;go_enter func35,ntmps35;go_wp2;go_ret;rw[d.o];exact MD _ c.o YL (w.heap.size+1) YL H H
theorem PG(h:ai w b e [G F x,G F y]):bR 1 w (b+1) (L ⟨b,0,I⟩) 2 (aU [x,y]):=
 ⟨XE _,YR,λ_=>⟨b,0,rfl,Nat.lt_succ_self b,λi hi j a=>by
  obtain rfl:j=0:=D;rcases(show i=0\/i=1 by simp at hi;omega) with rfl|rfl
  ·rw[h.cell _];rfl
  ·rw[h.cell _];rfl⟩⟩
def Xv(Q:U)(e:Ed)(v i:Z)(wr:U):Prop:=
 ∃k:Nat,k<=ln e.gaps/\i=G F (k:Int)/\wr.ownsRow Q.heap.size 3 1 v (6+2*k) (aU ([e.index,e.bwidth,e.bdepth,e.blength,e.bcount,e.bcost]++kF (e.gaps.take k))).flatten/\Ext Q wr
def sC(B k n gc a b:Nat)(v:Z)(x y:Int):Nat->Z
 |0=>v
 |1=> YA (L ⟨B,17,I⟩)
 |2=> YA (L ⟨B,22,I⟩)
 |3=> V (L ⟨a,b,I⟩) n gc
 |4=> G F (k:Int)
 |5=> YA (L ⟨a,b+k*2,I⟩)
 |6=> YA (L ⟨a,b+k*2,I⟩)
 |7=> G F x
 |8=> YA (L ⟨B,17,I⟩)
 |9=> YA (L ⟨B,22,I⟩)
 |10=> V (L ⟨a,b,I⟩) n gc
 |11=> G F (k:Int)
 |12=> YA (L ⟨a,b+k*2,I⟩)
 |13=> YA (L ⟨a,b+k*2+1,I⟩)
 |14=> G F y
 |_=>M
def Fa(B k n gc a b:Nat)(v:Z)(x y:Int):Nat->Z->U->Prop
 |15,u,w=>∃g,u=V (L ⟨g,0,I⟩) 2 2/\ai w g 3 [G F x,G F y]
 |q,u,_=>u=sC B k n gc a b v x y q
theorem QZ{B k n gc a b:Nat}{v:Z}(h:Fa B k n gc a b v x y q u w)(hx:Ext w w'):Fa B k n gc a b v x y q u w':=by
 unfold Fa at *;exact a3k
def QV(w:U)(e:Ed)(ga:Option Ym)(gc:Nat)(hg:aT w w.heap.size ga gc e.gaps)(hk:e.kind=7)(aA:ln e.gaps<=16):XY Xz 35 #[YE (P e (V ga (ln e.gaps) gc))] w (MS w (aN e)):=by
 obtain⟨B,m⟩:=gz w.heap.size;obtain⟨Q,j⟩:=aa (w.alloc (.cells (P e (V ga (ln e.gaps) gc)) 50));have z:Ext w Q:=j▸(XI _ _).alloc (XE _) _;have E0:=A (show EC Q B (P e (V ga (ln e.gaps) gc)) by rw[<-j,m];exact EC.new w _);have HI:=A (show aN e=[e.index,e.bwidth,e.bdepth,e.blength,e.bcount,e.bcost]++kF e.gaps by unfold aN;rw[hk];simp);have HG:=A (λW (h:Ext Q W)=>(hg.below (z.tr h):aT W w.heap.size ga gc e.gaps));have aj:=A (λW (h:Ext Q W)=>(E0.o.ext h).cell);have am:=A z;have HW:=A j;have ec:=λi=>E0.o.cell i
 clear hg j z;go_enter func35,ntmps35;go_upto_region 1 with(fail)
 rw[<-m];rw[show w.alloc (.cells (P e (V ga (ln e.gaps) gc)) 50)=Q from HW.o];clear m;go_wp2_with fail
 go_loopw [4,5] (λv i wr=>Xv Q e v i wr) (λ_ i _=>((ln e.gaps:Int)-Yf i).toNat)
 case atStart=>exact⟨0,Nat.zero_le _,H,by have:=Dp Q ([e.index,e.bwidth,e.bdepth,e.blength,e.bcount,e.bcost]++kF (e.gaps.take 0)) Q.heap.size (XE _) (by simp[kF]);simpa[kF] using this,(XI _ _).alloc (XE _) _⟩
 case round=>
  obtain⟨k,aw,rfl,g,c⟩:=hrel;have HX:=A c;have HO:=A g;have ax:=c.size;have ao:=aj.o _ c;by_cases r:k<ln e.gaps
  ·obtain⟨aD,av,t⟩:=HG.o _ c;obtain⟨u,s,rfl,aE,aq⟩:=t D;unfold Yk at av;have ag:=A (λW (h:Ext Q W)=>by
    obtain⟨_,_,t⟩:=HG.o W h;obtain⟨ay,az,he,_,hc⟩:=t D;cases he;have:=hc k r;rw[Yd] at this;exact this)
   have S:=A (show e.gaps.take (k+1)=e.gaps.take k++[e.gaps[k]] from jd r);obtain⟨x,y,ae⟩:∃x y,e.gaps[k]=(x,y):=⟨_,_,H⟩;rw[ae] at ag S;clear c g ae aq;go_upto_region 21 with(fail)
   refine wp_region_any R (fC 16 (λN=>⟨#[YE (P e (V (L ⟨u,s,I⟩) (ln e.gaps) gc)),YA (L ⟨B,0,I⟩),V I 0 0,M,u4,G F (k:Int),YA (L ⟨B,0,I⟩),G F 7,Yz O,Yz O,M,M,M,M,M,M,M,M,M,M,M,M,M,M,M,M,M,M,M,M,M,M,M,M,M,Yz O,Yz O,M,M,M,M,M,Yz O,Yz O,Yz O,M,M,M,Yz O,Yz O,M,M,M,M,M,M,Yz O,Yz O,M,M,M,M,M,M,M,Yz Y,Yz Y,YA (L ⟨B,1,I⟩),G F e.index,YA (L ⟨B,17,I⟩),YA (L ⟨B,17,I⟩),G F e.bwidth,YA (L ⟨B,17,I⟩),YA (L ⟨B,18,I⟩),G F e.bdepth,YA (L ⟨B,17,I⟩),YA (L ⟨B,19,I⟩),G F e.blength,YA (L ⟨B,17,I⟩),YA (L ⟨B,20,I⟩),G F e.bcount,YA (L ⟨B,17,I⟩),YA (L ⟨B,21,I⟩),G F e.bcost,V (L ⟨Q.heap.size,0,I⟩) 6 6,G F (k:Int),YA (L ⟨B,17,I⟩),YA (L ⟨B,22,I⟩),V (L ⟨u,s,I⟩) (ln e.gaps) gc,G F (ln e.gaps:Int),Yz Y,u91,u92,N 0,N 1,N 2,N 3,N 4,N 5,N 6,N 7,N 8,N 9,N 10,N 11,N 12,N 13,N 14,N 15,u109,M,M,M,M,M,M,M,M,M,M,M,M,M,M,M,M,M,M,M,M,M,M,M,M,M,M,M,M,M,M,M,M,M,M,M,M,M,M,M,M,M,M,M,M,M,M,M,M,M,M,M],[]⟩)
    (λw'=>Ext wr w') (λq v w=>Fa B k (ln e.gaps) gc u s u4 x y q v w) (λ_=>O) R (λ_ _ h k=>h.tr k) (λ_ _ _ _ h k=>QZ h k) (λ_ _ _ _ h=>YM) ?step ?tail (λn=>#[u93,u94,u95,u96,u97,u98,u99,u100,u101,u102,u103,u104,u105,u106,u107,u108].getD n M) _ (Ext.dr _))
   case step=>
    intro q N w' E d a;have c:=HX.o.tr d;have ao:=aj.o _ c;obtain⟨g1,g2⟩:=ag.o _ c;rcases(show q=0\/q=1\/q=2\/q=3\/q=4\/q=5\/q=6\/q=7\/q=8\/q=9\/q=10\/q=11\/q=12\/q=13\/q=14\/q=15 by omega) with rfl|rfl|rfl|rfl|rfl|rfl|rfl|rfl|rfl|rfl|rfl|rfl|rfl|rfl|rfl|rfl<;>clear E<;>refine XR rfl (λaC b=> ?_)
    ·exact a3l
    ·exact a3l
    ·have d1:=a 1 YK R;simp only[Fa,sC] at d1;go_simp;exact b _ _ ⟨_,by simp[d1,bN,sC],Ext.ah _,rfl,λh=>YM⟩
    ·have d2:=a 2 YK R;simp only[Fa,sC] at d2;go_simp;exact b _ _ ⟨_,by simp[d2,bN,sC],Ext.ah _,rfl,λh=>YM⟩
    ·exact a3l
    ·have d3:=a 3 YK R;have T:=a 4 YK R;simp only[Fa,sC] at d3 T;go_simp;exact b _ _ ⟨_,by simp[d3,T,bN,sC],Ext.ah _,rfl,λh=>YM⟩
    ·have d5:=a 5 YK R;simp only[Fa,sC] at d5;go_simp;exact b _ _ ⟨_,by simp[d5,bN,sC],Ext.ah _,rfl,λh=>YM⟩
    ·have K:=a 6 YK R;simp only[Fa,sC] at K;go_simp;exact b _ _ ⟨_,by simp[K,bN,sC],Ext.ah _,rfl,λh=>YM⟩
    ·exact a3l
    ·have d8:=a 8 YK R;simp only[Fa,sC] at d8;go_simp;exact b _ _ ⟨_,by simp[d8,bN,sC],Ext.ah _,rfl,λh=>YM⟩
    ·have d9:=a 9 YK R;simp only[Fa,sC] at d9;go_simp;exact b _ _ ⟨_,by simp[d9,bN,sC],Ext.ah _,rfl,λh=>YM⟩
    ·exact a3l
    ·have ah:=a 10 YK R;have ak:=a 11 YK R;simp only[Fa,sC] at ah ak;go_simp;exact b _ _ ⟨_,by simp[ah,ak,bN,sC],Ext.ah _,rfl,λh=>YM⟩
    ·have J:=a 12 YK R;simp only[Fa,sC] at J;go_simp;exact b _ _ ⟨_,by simp[J,bN,sC],Ext.ah _,rfl,λh=>YM⟩
    ·have ad:=a 13 YK R;simp only[Fa,sC] at ad;go_simp;exact b _ _ ⟨_,by simp[ad,bN,sC],Ext.ah _,rfl,λh=>YM⟩
    ·have d7:=a 7 YK R;have al:=a 14 YK R;simp only[Fa,sC] at d7 al;go_simp;exact b _ _ ⟨_,by simp[d7,al,bN],(XI _ _).alloc (XE _) _,⟨_,rfl,ai.new _ _ _⟩,λh=>YM⟩
   case tail=>
    intro N w' d o _;have C:=o 0 YK;obtain⟨aB,ap,ac⟩:=o 15 YK;simp only[Fa,sC] at C;simp only[C,ap,List.drop_succ_cons,List.drop_zero];have X:=A (HX.o.tr d);have H0:=A (bD HO.o d);have au:=A (PG ac);clear d o C ac;go_wp2_with(at_builtin;refine uD sX H _ _ H Q.heap.size H H0.o H au.o H (bQ (f:=λn:Int=>([G F n]:List Z)) (λ_=>rfl) [x,y]) (wG [x,y]) D X.o.size ?_;intro v2 W2 ab af;have an:=A (fQ X.o af (λq E=>(aH H0.o q E).1));have ar:=A ab;clear ab af)
    refine⟨⟨k+1,r,YL,?_,an.o⟩,YO⟩;rw[S.o,yh,<-List.append_assoc,aU,List.map_append,List.flatten_append];exact ar.o
  ·obtain rfl:k=ln e.gaps:=D;rw[List.take_length] at g;have HE:=A (Iu (l:=[e.index,e.bwidth,e.bdepth,e.blength,e.bcount,e.bcost]++kF e.gaps) (by rw[Yc,vN,Nat.add_comm];rwa[Nat.add_comm] at g) (am.o.tr c));clear c g;go_wp2_with fail
   go_ret;rw[HI.o];exact HE.o
def LG(w:U)(e:Ed)(ga:Option Ym)(gc:Nat)(b:aT w w.heap.size ga gc e.gaps)(h1:1<=e.kind/\e.kind<=12)(c:ln e.gaps<=16):XY Xz 35 #[YE (P e (V ga (ln e.gaps) gc))] w (MS w (aN e)):=by
 by_cases a:e.kind=7
 ·exact QV w e ga gc b a c
 ·exact QH w e _ h1 a
end
section
open Kp
attribute [local go_sem] bJ aF
theorem aT.off{B:Nat}{l:List (Int×Int)}(h:aT w B ga gc l)(c:w.heap.size<=W.heap.size)(a:∀b,b<B->W.heap[b]?=w.heap[b]?):aT W B ga gc l:=by
 have q:aT {w with heap:=W.heap} B ga gc l:=h.below ⟨H,H,H,c,a⟩;exact q
def E9(w:U)(j:bO)(a:cO)(e:Ed)(ga:Option Ym)(gc:Nat)(d:fW w w.heap.size j a)(f:aT w w.heap.size ga gc e.gaps)(r:T2 j e)(n:jE w)(s:bE w):
  XY Xz 12 #[YE (aM j a),YE (P e (V ga (ln e.gaps) gc))] w λx w'=>x=YC (G F (GJ j e))/\Ext w w':=by
 have c:Ext w ((w.alloc (.cells (aM j a) 34)).alloc (.cells (P e (V ga (ln e.gaps) gc)) 50)):=((XI _ _).alloc (XE _) _).alloc YL _;have k:=A c;have u:=A (JC.ext (XZ w _:JC (w.alloc (.cells (aM j a) 34)) w.heap.size j a) ((XI _ _).alloc (XE _) (.cells (P e (V ga (ln e.gaps) gc)) 50)));have t:=A (show EC ((w.alloc (.cells (aM j a) 34)).alloc (.cells (P e (V ga (ln e.gaps) gc)) 50)) (w.heap.size+1) (P e (V ga (ln e.gaps) gc)) by
  have:=EC.new (w.alloc (.cells (aM j a) 34)) (P e (V ga (ln e.gaps) gc));rw[Ya] at this;exact this)
 have m:=A (ye _ j a e ga gc (X:=λ_=>False) ((d.grow c).v (XE _) (λ_ _ h=>h)) ((f.below c).more c.size) (λW l=>((f.below c).off l.1 λb d=>l.2 b (Nat.lt_of_lt_of_le d c.size) id).more (Ye c.size l.1)) (λ_ h=>h.elim) r (n.below c (XE _)) (s.below c (XE _)));obtain⟨z,g⟩:=aa (GJ j e);obtain⟨j',q⟩:=aa (IC j e);unfold sR at m;simp only[g,q] at m;rw[g];clear g q d f r n s c;go_enter func12,ntmps12;go_wp2_with(first
  |(go_at_call 7;refine m.o.mono ?_;rintro v W1 ⟨a',rfl,o,_⟩;have i:=A o;clear o)
  |(refine wpList_load_row rfl 34 _ rfl _ rfl 34 _ (0,0) _ u.o XA rfl R ?_)
  |(refine wpList_load_row rfl 50 _ rfl _ rfl 50 _ (0,0) _ t.o XB rfl R ?_)
  |(refine wpList_store_row rfl 34 _ _ rfl _ _ rfl rfl 34 _ (XZ W1 _) R R R ?_))
 go_ret;exact⟨H,al ((k.o.tr i.o).alloc (k.o.tr i.o).size _) (k.o.tr i.o).size _⟩
end
end Go.Proofs.YtnepbjnlmkppmaaGreatDoor

