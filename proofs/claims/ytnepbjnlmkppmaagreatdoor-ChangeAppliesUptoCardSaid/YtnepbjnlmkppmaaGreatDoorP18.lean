/- ChangeApplies of kingpostlaw58: part 18 of its proof (merged and shortened by program). -/
import Derived.Lib.AppendZeros
import Derived.Test.YtnepbjnlmkppmaaGreatDoorP05
set_option linter.unusedVariables false
set_option linter.unusedSimpArgs false
set_option linter.defProp false
set_option maxHeartbeats 8000000
set_option maxRecDepth 100000
open Go.RowKit Go.Shelf Go.Proofs.Tryz
open Array renaming getElem?_eq_some_iff→XV
open Bool renaming false→O,true→Y
open Decidable renaming decide→YG
open Go renaming World→U,undef→M,Value→Z,wpOp_step→XR,Calls→XY,TypeId→Yj,maxLen→Yk,Addr→Ym
open Go.Ending renaming returned→YC
open Go.IntKind renaming i64→F
open Go.IntWalk renaming i64_in→Yh
open Go.Lib renaming hid→A
open Go.Proofs.Tryz renaming prog→Xz
open Go.RowKit renaming intOf→Yf,Below→Yl
open Go.Value renaming slice→V,string→Yy,bool→Yz,pointer→YA,int→G,agg→YE,tuple→YF
open Go.World renaming alloc_heap_new→XZ,size_alloc→Ya
open List renaming getD_eq_getElem?_getD→XJ,getElem?_eq_getElem→XO,length_map→XP,length→ln
open Nat renaming le_refl→XE,mul_comm→Yd
open Option renaming none→I,some→L
open Go.Proofs.YtnepbjnlmkppmaaGreatDoor
variable{tmps:Array Z}{m g:Bool}{y z:ByteArray}{N:List Nat}{r:List UInt8×Int}{l ag ar:List Z}{k ac b i d j n ae s Q ab:Nat}{E T:Option Ym}{p:Prop}{w w' W W2 w1 o W3:U}{u X ad:Z}{t e:Yj}
namespace Go.Proofs.YtnepbjnlmkppmaaGreatDoor
section
open Kp
abbrev VV(g:Int×Int):List Z:=[G F g.1,G F g.2]
abbrev eN(l:List (Int×Int)):List (List Z):=l.map VV
theorem pn{l:List (Int×Int)}(hi:i<ln l):(eN l).getD i []=VV (l.getD i (0,0)):=by
 exact a1l
def R4(l:List (Int×Int)):dv 2 (eN l):=bQ (f:=VV) (λ_=>rfl) l
abbrev yj(b:Br)(c:Option Ym)(a:Nat):List Z:=[G F b.width,G F b.depth,G F b.length,G F b.count,G F b.cost,V c (ln b.gaps) a]
def iT(w:U)(B:Nat)(E:Option Ym)(ac:Nat)(l:List Br):Prop:=
 ln l<=ac/\ac<=Yk/\(0<ln l->∃b off,E=L ⟨b,off,I⟩/\b<B/\∀i,i<ln l->∃c a,(∀j,j<6->w.cell? ⟨b,off+6*i+j,I⟩=(yj (l.getD i pV) c a)[j]?)/\bR 2 w B c a (eN (l.getD i pV).gaps))
theorem iT.below{B:Nat}{l:List Br}(h:iT w B E ac l)(c:Yl B w w'):iT w' B E ac l:=by
 obtain⟨h1,h2,f⟩:=h;refine⟨h1,h2,λm=> ?_⟩;obtain⟨b,off,e,a,d⟩:=f m;refine⟨b,off,e,a,λi hi=> ?_⟩;obtain⟨T,Q,n,k⟩:=d i hi;exact⟨T,Q,λj g=>(c.cell a).trans (n j g),k.below c⟩
theorem iT.more{B B':Nat}{l:List Br}(h:iT w B E ac l)(a:B<=B'):iT w B' E ac l:=by
 exact a1r
def Nc{b:Br}(t:(J b.width 1 1000&&J b.depth 1 1000&&J b.length 1 65536&&J b.count 0 4096&&J b.cost 0 1073741824)=Y)(h:¬16<ln b.gaps):qY b=bn (xh b) (ln b.gaps):=by
 unfold qY;rw[t,XQ YK,XQ h]
def Es(b:Br)(i:Option Ym)(j:Nat)(w:U)(t:(J b.width 1 1000&&J b.depth 1 1000&&J b.length 1 65536&&J b.count 0 4096&&J b.cost 0 1073741824)=O):
  XY Xz 125 #[YE (yj b i j).toArray] w λe w'=>e=YC (G F (qY b))/\Ext w w':=by
 have a:=A (show Ext w (w.alloc (.cells (yj b i j).toArray 44)) from(XI _ _).alloc (XE _) _);have HR:=A (show qY b=2 by unfold qY;rw[t,XT YK]);obtain⟨n,k⟩:=aa (ln b.gaps);clear k;cases c:J b.width 1 1000
 ·clear t;go_enter func125,ntmps125;go_wp2_with(go_at_call 197;refine(gj _ _ _ _).mono ?_;rintro e W1 ⟨rfl,rfl⟩;first|rw[c]|skip)
  exact a1B
 cases d:J b.depth 1 1000
 ·clear t;go_enter func125,ntmps125;go_wp2_with(go_at_call 197;refine(gj _ _ _ _).mono ?_;rintro e W1 ⟨rfl,rfl⟩;first|rw[c]|rw[d]|skip)
  exact a1B
 cases f:J b.length 1 65536
 ·clear t;go_enter func125,ntmps125;go_wp2_with(go_at_call 197;refine(gj _ _ _ _).mono ?_;rintro e W1 ⟨rfl,rfl⟩;first|rw[c]|rw[d]|rw[f]|skip)
  exact a1B
 cases g:J b.count 0 4096
 ·clear t;go_enter func125,ntmps125;go_wp2_with(go_at_call 197;refine(gj _ _ _ _).mono ?_;rintro e W1 ⟨rfl,rfl⟩;first|rw[c]|rw[d]|rw[f]|rw[g]|skip)
  exact a1B
 rw[c,d,f,g] at t;have l:J b.cost 0 1073741824=O:=by simpa using t
 clear t;go_enter func125,ntmps125;go_wp2_with(go_at_call 197;refine(gj _ _ _ _).mono ?_;rintro e W1 ⟨rfl,rfl⟩;first|rw[c]|rw[d]|rw[f]|rw[g]|rw[l]|skip)
 go_ret;exact⟨YQ,a.o⟩
def a3t(w:U)(b:Br)(i:Z)(wr:U):Prop:=∃k:Nat,k<=ln b.gaps/\i=G F (k:Int)/\Ext w wr/\∀j,j<k->xh b j=0
def C9(b:Br)(d:Option Ym)(f:Nat)(w:U)(hg:bR 2 w w.heap.size d f (eN b.gaps)):
  XY Xz 125 #[YE (yj b d f).toArray] w λe w'=>e=YC (G F (qY b))/\Ext w w':=by
 cases t:(J b.width 1 1000&&J b.depth 1 1000&&J b.length 1 65536&&J b.count 0 4096&&J b.cost 0 1073741824)
 ·exact Es b d f w t
 have a:=A (show Ext w (w.alloc (.cells (yj b d f).toArray 44)) from(XI _ _).alloc (XE _) _);have X:=A t;simp only[Bool.and_eq_true] at t;obtain⟨⟨⟨⟨t1,t2⟩,V⟩,t4⟩,t5⟩:=t;obtain⟨h1,h2,B⟩:=hg;rw[XP] at h1 B;unfold Yk at h2;by_cases ab:16<ln b.gaps
 ·have HR:=A (show qY b=4 by unfold qY;rw[X.o,XQ YK,XT ab]);clear B;go_enter func125,ntmps125;go_wp2_with(go_at_call 197;refine(gj _ _ _ _).mono ?_;rintro e W1 ⟨rfl,rfl⟩;first|rw[t1]|rw[t2]|rw[V]|rw[t4]|rw[t5]|skip)
  exact a1B
 have HR:=A (show qY b=bn (xh b) (ln b.gaps) from Nc X.o ab);have H3:=A B;have R0:=A (ai.new w 44 (yj b d f));clear B;go_enter func125,ntmps125;go_wp2_with(go_at_call 197;refine(gj _ _ _ _).mono ?_;rintro e W1 ⟨rfl,rfl⟩;first|rw[t1]|rw[t2]|rw[V]|rw[t4]|rw[t5]|skip)
 obtain⟨P,s⟩:=aa (w.alloc (.cells (yj b d f).toArray 44));rw[s] at R0 a;have Z0:=A (show w.heap.size<P.heap.size by rw[<-s];simp);simp only[s];clear s;go_loopw [40] (λi wr=>a3t P b i wr) (λi _=>((ln b.gaps:Int)-Yf i).toNat)
 case atStart=>exact⟨0,D,rfl,XI _ _,λj K=>D⟩
 case round=>
  obtain⟨k,hk,rfl,hX,ac⟩:=hrel;have m:=A hX;have C:=A ac;clear hX ac;have R:=A (R0.o.ext m.o);have c2:=R.o.cell 2;have c5:=R.o.cell 5;have ah:=R.o.lt;by_cases l:k<ln b.gaps
  ·obtain⟨v,off,rfl,W,ad⟩:=H3.o D;have aj:v<wr.heap.size:=D;have E:=λi hi j K=>((m.o.cell (p:=⟨v,off+2*i+j,I⟩) (Nat.lt_trans W Z0.o)).trans (a.o.cell (p:=⟨v,off+2*i+j,I⟩) W)).trans (ad i hi j K)
   have c1:=E k l 0 YK;have N:=E k l 1 YK;rw[pn l] at c1 N;rw[Nat.add_zero] at c1;rw[Yd 2 k] at c1 N;have Q:0<k->wr.cell? ⟨v,off+(k-1)*2+1,I⟩=L (G F (b.gaps.getD (k-1) (0,0)).2):=λr=>by
    have:=E (k-1) D 1 YK;rwa[pn D,Yd 2 (k-1)] at this
   have c:=A (show xh b k=if(b.gaps.getD k (0,0)).1<0\/b.length<(b.gaps.getD k (0,0)).2\/(b.gaps.getD k (0,0)).2<=(b.gaps.getD k (0,0)).1 then 2 else if 0<k/\(b.gaps.getD k (0,0)).1<=(b.gaps.getD (k-1) (0,0)).2 then 10 else 0 from rfl);obtain⟨⟨x,y⟩,hx⟩:=aa (b.gaps.getD k (0,0));obtain⟨⟨z,u⟩,hy⟩:=aa (b.gaps.getD (k-1) (0,0));rw[hx] at c1 N c;rw[hy] at Q c;have af:=A Q;clear hx hy E ad Q;dsimp only at c;have EX:∀o,Ext P (wr.alloc o):=λo=>m.o.alloc m.o.size _
   have M:=A EX;clear EX;by_cases q:x<0\/b.length<y\/y<=x
   ·have g:=A (show qY b=2 by rw[HR.o,bM l C.o (by rw[c.o,XT q];decide),c.o,XT q]);by_cases Z:x<0
    ·have d1:YG (x<0)=Y:=by rw[XX];exact Z
     exact a1D
    have d1:YG (x<0)=O:=by rw[XL];exact Z
    by_cases S:b.length<y
    ·have d2:YG (b.length<y)=Y:=by rw[XX];exact S
     exact a1D
    have d2:YG (b.length<y)=O:=by rw[XL];exact S
    have ae:y<=x:=D;have d3:YG (y<=x)=Y:=by rw[XX];exact ae
    exact a1D
   have d1:YG (x<0)=O:=YU;have d2:YG (b.length<y)=O:=YU;have d3:YG (y<=x)=O:=YU;have H:=A q;clear q;by_cases r:0<k
   ·have c3:=af.o r;have tk:YG (0<(k:Int))=Y:=Zo;have e1:((k:Int)-1).toNat=k-1:=D;have e2:0<=(k:Int)-1:=D;have e3:(k:Int)-1<(ln b.gaps:Int):=D;have e4:(k:Int)<(ln b.gaps:Int):=D;have e5:F.wrap ((k:Int)-1)=(k:Int)-1:=Yh _ D;by_cases n:x<=u
    ·have g:=A (show qY b=10 by rw[HR.o,bM l C.o (by rw[c.o,XQ H.o,XT ⟨r,n⟩];decide),c.o,XQ H.o,XT ⟨r,n⟩]);have d4:YG (x<=u)=Y:=by rw[XX];exact n
     go_wp2;go_quiet (fail)
     go_wp2;go_ret;exact⟨Y6,below_drewN (a.o.tr (M.o _)) _⟩
    ·have d4:YG (x<=u)=O:=by rw[XL];exact n
     have T:=A (show xh b k=0 by rw[c.o,XQ H.o,XQ (λh=>n h.2)]);exact a1C
   ·have tk:YG (0<(k:Int))=O:=YU;have T:=A (show xh b k=0 by rw[c.o,XQ H.o,XQ (λh=>r h.1)]);exact a1C
  ·have ag:YG ((k:Int)<(ln b.gaps:Int))=O:=YU;have g:=A (show qY b=0 by rw[HR.o,bh (λj K=>C.o j D)]);go_wp2;go_ret;exact⟨Y6,a.o.tr m.o⟩
end
section
open Kp
def Wt(w:U)(l:List Br)(i:Z)(wr:U):Prop:=∃k:Nat,k<=ln l/\i=G F (k:Int)/\Ext w wr/\∀j,j<k->qY (l.getD j pV)=0
def ER(w:U)(E:Option Ym)(ac:Nat)(l:List Br)(m:iT w w.heap.size E ac l):
  XY Xz 58 #[V E (ln l) ac] w λe w'=>e=YC (G F (ju l))/\Ext w w':=by
 have h1:=m.1;have h2:=m.2.1;unfold Yk at h2;by_cases C:64<ln l
 ·have HR:=A (show ju l=4 by unfold ju;rw[XT C]);clear m;go_enter func58,ntmps58;go_wp2;go_ret;exact⟨YQ,Ext.ah _⟩
 have HR:=A (show ju l=bn (λi=>qY (l.getD i pV)) (ln l) by unfold ju;rw[XQ C]);have N:=A m;clear m;go_enter func58,ntmps58;go_wp2;go_loopw [11] (λi wr=>Wt w l i wr) (λi _=>((ln l:Int)-Yf i).toNat)
 case atStart=>exact⟨0,D,rfl,XI _ _,λj J=>D⟩
 case round=>
  obtain⟨k,hk,rfl,y,H⟩:=hrel;have a:=A y;have u:=A H;have q:=N.o.below y;clear y H;by_cases B:k<ln l
  ·obtain⟨b,off,rfl,M,I⟩:=q.2.2 D;obtain⟨R,S,d,s⟩:=I k B;have X:b<wr.heap.size:=Nat.lt_of_lt_of_le M a.o.size;have z:=d 0 YK;have c1:=d 1 YK;have c2:=d 2 YK;have c3:=d 3 YK;have c4:=d 4 YK;have c5:=d 5 YK;rw[Yd] at z c1 c2 c3 c4 c5;rw[Nat.add_zero] at z;obtain⟨x,hx⟩:=aa (l.getD k pV);rw[hx] at z c1 c2 c3 c4 c5 s;have K:=A (λ(p:Obj)=>(a.o.alloc a.o.size p:Ext w (wr.alloc p)));have P:=a.o.size;have t:=A (λ(p:Obj)=>C9 x R S (wr.alloc p) ((s.below (((XI _ _).alloc (XE _) p).mono P)).more YP));have n:=A (show qY (l.getD k pV)=qY x by rw[hx]);obtain⟨c,r⟩:=aa (qY x);rw[r] at n;simp only[r] at t;clear q I d s hx r;by_cases o:c=0
   ·have L:=A (show∀j,j<k+1->qY (l.getD j pV)=0 fromλj J=>by
     by_cases Q:j=k
     ·rw[Q,n.o];exact o
     ·exact u.o j D)
    subst o;go_wp2_with(go_at_call 125;refine(t.o _).mono ?_;rintro e W1 ⟨rfl,v⟩)
    exact⟨⟨k+1,D,YL,Ext.tr (K.o _) v,L.o⟩,YO⟩
   ·have f:=A (show ju l=c by rw[HR.o,bM B u.o (by show qY (l.getD k pV)≠0;rw[n.o];exact o)];exact n.o);have W:(c !=0)=Y:=by rw[Yn];exact o
    go_wp2_with(go_at_call 125;refine(t.o _).mono ?_;rintro e W1 ⟨rfl,v⟩)
    go_ret;exact⟨Zf,Ext.tr (K.o _) v⟩
  ·have T:YG ((k:Int)<(ln l:Int))=O:=YU;have g:=A (show ju l=0 by rw[HR.o,bh (λj J=>u.o j D)]);clear q;exact a1E
end
section
open Kp
abbrev yV(x:Sz):List Z:=[G F x.kind,G F x.width,G F x.depth]
abbrev bf(l:List Sz):List (List Z):=l.map yV
theorem yz{l:List Sz}(hi:i<ln l):(bf l).getD i []=yV (l.getD i ir):=by
 exact a1l
def Bk(l:List Sz):dv 3 (bf l):=bQ (f:=yV) (λ_=>rfl) l
def qg(l:List Sz)(k:Nat)(j:Nat):Bool:=cK (λi=>(l.getD i ir).kind==(j:Int)) k
def iB(w:U)(b:Nat)(l:List Sz)(k:Nat):Prop:=
 ∃cs:Array Z,w.heap[b]?=L (.cells cs 162 (0,0))/\cs.size=13/\∀j,j<13->cs[j]?=L (Yz (qg l k j))
theorem iB.cell{l:List Sz}(h:iB w b l k)(c:j<13):w.cell? ⟨b,j,I⟩=L (Yz (qg l k j)):=by
 obtain⟨cs,h1,h2,a⟩:=h;simp[World.cell?,h1,a j c]
theorem iB.frozen{l:List Sz}(h:iB w b l k)(j:Nat):w.frozen? ⟨b,j,I⟩=O:=by
 obtain⟨cs,h1,h2,a⟩:=h;simp[World.frozen?,h1]
theorem iB.lt{l:List Sz}(h:iB w b l k):b<w.heap.size:=by
 obtain⟨cs,h1,_⟩:=h;exact(XV.1 h1).1
theorem iB.ext{l:List Sz}(h:iB w b l k)(hx:Ext w w'):iB w' b l k:=by
 obtain⟨cs,h1,h2⟩:=h;exact⟨cs,(hx.block b (XV.1 h1).1).trans h1,h2⟩
theorem iB.next{l:List Sz}(h:iB w b l k)(f:d<13)(hk:(l.getD k ir).kind=(d:Int)):iB (w.setCell ⟨b,d,I⟩ (Yz Y)) b l (k+1):=by
 obtain⟨cs,h1,h2,c⟩:=h;refine⟨cs.setIfInBounds d (Yz Y),?_,by simpa using h2,λj e=> ?_⟩
 ·have g:=(XV.1 h1).1;simp[World.setCell,Array.getElem?_modify,h1]
 ·by_cases a:d=j
  ·subst a;rw[Array.getElem?_setIfInBounds_self_of_lt D];have:qg l (k+1) d=Y:=by unfold qg;rw[cK,hk];simp
   rw[this]
  ·rw[Array.getElem?_setIfInBounds_ne a,c j e];have:qg l (k+1) j=qg l k j:=by
    unfold qg;rw[cK,hk];have:((d:Int)==(j:Int))=O:=Y4;rw[this,Bool.or_false]
   rw[this]
def iB.start(w:U)(l:List Sz)(cs:Array Z)(h:cs=#[Yz O,Yz O,Yz O,Yz O,Yz O,Yz O,Yz O,Yz O,Yz O,Yz O,Yz O,Yz O,Yz O]):iB (w.alloc (.cells cs 162)) w.heap.size l 0:=by
 subst h;refine⟨_,XZ w _,H,λj a=> ?_⟩;rcases(show j=0\/j=1\/j=2\/j=3\/j=4\/j=5\/j=6\/j=7\/j=8\/j=9\/j=10\/j=11\/j=12 by omega) with rfl|rfl|rfl|rfl|rfl|rfl|rfl|rfl|rfl|rfl|rfl|rfl|rfl<;>rfl
structure Xy(w:U)(l:List Sz)(i:Z)(wr:U):Prop where
 ex:∃k:Nat,k<=ln l/\i=G F (k:Int)/\iB wr w.heap.size l k/\∀j,j<k->kc l j=0
 low:Yl w.heap.size w wr
def GL(w:U)(E:Option Ym)(ac:Nat)(l:List Sz)(hl:bR 3 w w.heap.size E ac (bf l)):
  XY Xz 56 #[V E (ln l) ac] w λe w'=>e=YC (G F (fE l))/\Ext w w':=by
 obtain⟨h1,h2,L⟩:=hl;rw[XP] at h1 L;unfold Yk at h2;have H3:=A L;clear L;go_enter func56,ntmps56;go_wp2;go_loopw [8] (λi wr=>Xy w l i wr) (λi _=>((ln l:Int)-Yf i).toNat)
 case atStart=>exact⟨⟨0,D,rfl,iB.start _ _ _ rfl,λj H=>D⟩,(XI _ _).alloc (XE _) _⟩
 case round=>
  obtain⟨⟨k,hk,rfl,Q,S⟩,X⟩:=hrel;have a:=A X;have M:=A S;have C:=A Q;clear X S Q;by_cases y:k<ln l
  ·obtain⟨b,off,rfl,P,W⟩:=H3.o D;have ak:b<wr.heap.size:=Nat.lt_of_lt_of_le P a.o.size;have J:=A (λi hi j H=>(a.o.cell (p:=⟨b,off+3*i+j,I⟩) P).trans (W i hi j H));have N:=J.o k y 0 YK;have c1:=J.o k y 1 YK;have c2:=J.o k y 2 YK;rw[yz y,Yd] at N c1 c2;rw[Nat.add_zero] at N;have n:=A (show kc l k=if(l.getD k ir).kind<1\/13<=(l.getD k ir).kind then 8 else if min (l.getD k ir).width (l.getD k ir).depth<1\/1000<max (l.getD k ir).width (l.getD k ir).depth then 2 else if cK (λm=>(l.getD m ir).kind==(l.getD k ir).kind) k then 7 else 0 from rfl);obtain⟨⟨f,v,x⟩,hx⟩:=aa (l.getD k ir);rw[hx] at N c1 c2 n;dsimp only at n;have HK:=A (show(l.getD k ir).kind=f by rw[hx]);clear hx W J;have q:=A (λo=>(a.o.alloc a.o.size o:Yl w.heap.size w (wr.alloc o)));have HG:=A (λ(h:kc l k=0)=>(show∀j,j<k+1->kc l j=0 fromλj H=>by
    by_cases ad:j=k
    ·rw[ad];exact h
    ·exact M.o j D))
   have r:=A (λ(c:Int) (h:kc l k=c) (h0:c≠0)=>(show fE l=c by unfold fE;rw[bM y M.o (by rw[h];exact h0),h]));by_cases B:f<1
   ·exact a1I
   have d1:YG (f<1)=O:=by rw[XL];exact B
   by_cases u:13<=f
   ·have d2:YG (13<=f)=Y:=by rw[XX];exact u
    exact a1H
   have d2:YG (13<=f)=O:=by rw[XL];exact u
   by_cases z:min v x<1
   ·have d3:YG (min v x<1)=Y:=by rw[XX];exact z
    exact a1G
   have d3:YG (min v x<1)=O:=by rw[XL];exact z
   by_cases t:1000<max v x
   ·have d4:YG (1000<max v x)=Y:=by rw[XX];exact t
    exact a1F
   have d4:YG (1000<max v x)=O:=by rw[XL];exact t
   obtain⟨d,T,rfl⟩:∃d:Nat,d<13/\f=(d:Int):=⟨f.toNat,D,D⟩;have ab:=C.o.cell T;have aj:=C.o.frozen d;have al:=C.o.lt;have ai:(d:Int)<13:=D;have af:0<=(d:Int):=D;have ag:(d:Int).toNat=d:=D;have ah:=A (show qg l k d=cK (λm=>(l.getD m ir).kind==(d:Int)) k from rfl);have K:=A (show kc l k=if qg l k d then 7 else 0 by rw[n.o,XQ D,XQ D];rfl);obtain⟨s,R⟩:=aa (qg l k d);rw[R] at ab K;clear R;cases s
   ·have Z:=A (HG.o (by rw[K.o];rfl));go_wp2;refine⟨⟨⟨k+1,D,YL,?_,Z.o⟩,?_⟩,YO⟩
    ·exact(C.o.next T HK.o).ext ((XI _ _).alloc (XE _) _)
    ·exact(a.o.setCell (p:=⟨w.heap.size,d,I⟩) (XE _) _).alloc (by simpa[World.setCell] using a.o.size) _
   ·have g:=A (r.o 7 (by rw[K.o];rfl) YK);go_wp2;go_ret;exact⟨Y6,q.o _⟩
  ·have ae:YG ((k:Int)<(ln l:Int))=O:=YU;have g:=A (show fE l=0 by unfold fE;rw[bh (λj H=>M.o j D)]);exact a1E
end
section
open Kp
abbrev iI(x:Aw):List Z:=[G F x.width,G F x.depth,G F x.spacing,G F x.load,G F x.span]
abbrev aO(l:List Aw):List (List Z):=l.map iI
theorem mj{l:List Aw}(hi:i<ln l):(aO l).getD i []=iI (l.getD i kI):=by
 exact a1l
def Hq(l:List Aw):dv 5 (aO l):=bQ (f:=iI) (λ_=>rfl) l
structure QC(x:Aw):Prop where
 w1:0<=x.width
 w2:x.width<=1048576
 d1:0<=x.depth
 d2:x.depth<=1048576
 s1:0<=x.spacing
 s2:x.spacing<=1048576
 l1:0<=x.load
 l2:x.load<=1048576
def IU{x:Aw}(h:kD x=Y):QC x:=by
 unfold kD at h;simp only[Bool.and_eq_true,J,XX] at h;obtain⟨⟨⟨⟨⟨_,_⟩,_,_⟩,_,_⟩,_,_⟩,_,_⟩:=h;constructor <;>omega
def FA(a b:Aw)(w:U)(g:QC a)(f:QC b):XY Xz 130 #[YE (iI a).toArray,YE (iI b).toArray] w λe w'=>e=YC (G F (pU a b))/\Ext w w':=by
 obtain⟨m,v,k,t,q,y,s,x⟩:=g;obtain⟨j,n,z,l,r,o,u,B⟩:=f;have i:=A (B9 w (.cells (iI a).toArray 48) (.cells (iI b).toArray 48) (.cells [G F (a.width-b.width),G F (a.depth-b.depth),G F (a.spacing-b.spacing),G F (a.load-b.load)].toArray 3));have c:=(ai.new ((w.alloc (.cells (iI a).toArray 48)).alloc (.cells (iI b).toArray 48)) 3 [G F (a.width-b.width),G F (a.depth-b.depth),G F (a.spacing-b.spacing),G F (a.load-b.load)]);rw[Ya,Ya] at c;have d:=A c;clear c;have HR:=A (show pU a b=xI (a.width-b.width) (a.depth-b.depth) (a.spacing-b.spacing) (a.load-b.load) from rfl);go_enter func130,ntmps130;go_wp2_with(go_at_call 201;(with_reducible refine(yO _ _ _ 3 _ _ _ _ d.o).mono ?_);rintro e W1 ⟨rfl,rfl⟩)
 go_ret;exact⟨YQ,i.o⟩
def Jw{l:List Aw}(h:¬4096<ln l):eE l=bn (jZ l) (ln l):=by unfold eE;rw[XQ h]
def Gf(x:Aw):kD x=((J x.width 1 1000&&J x.depth 1 1000&&(J x.spacing 1 65536&&J x.load 0 1048576))&&J x.span 1 65536):=by unfold kD;simp only[Bool.and_assoc]
def Xm(w:U)(l:List Aw)(i:Z)(wr:U):Prop:=∃k:Nat,k<=ln l/\i=G F (k:Int)/\Ext w wr/\∀j,j<k->jZ l j=0
def DZ(w:U)(E:Option Ym)(ac:Nat)(l:List Aw)(hl:bR 5 w w.heap.size E ac (aO l)):
  XY Xz 61 #[V E (ln l) ac] w λe w'=>e=YC (G F (eE l))/\Ext w w':=by
 obtain⟨h1,h2,L⟩:=hl;rw[XP] at h1 L;unfold Yk at h2;by_cases ah:4096<ln l
 ·have HR:=A (show eE l=4 by unfold eE;rw[XT ah]);clear L;go_enter func61,ntmps61;go_wp2;go_ret;exact⟨YQ,Ext.ah _⟩
 have HR:=A (Jw ah);have H3:=A L;clear L;go_enter func61,ntmps61;go_wp2;go_loopw [10] (λi wr=>Xm w l i wr) (λi _=>((ln l:Int)-Yf i).toNat)
 case atStart=>exact⟨0,D,rfl,XI _ _,λj N=>D⟩
 case round=>
  obtain⟨k,hk,rfl,hX,aj⟩:=hrel;have a:=A hX;have t:=A aj;clear hX aj;by_cases m:k<ln l
  ·obtain⟨b,off,rfl,hB,ak⟩:=H3.o D;have z:b<wr.heap.size:=Nat.lt_of_lt_of_le hB a.o.size;have d:=A (λi hi j N=>(a.o.cell (p:=⟨b,off+5*i+j,I⟩) hB).trans (ak i hi j N));have S:=d.o k m 0 YK;have c1:=d.o k m 1 YK;have c2:=d.o k m 2 YK;have c3:=d.o k m 3 YK;have c4:=d.o k m 4 YK;rw[mj m,Yd] at S c1 c2 c3 c4;rw[Nat.add_zero] at S;have s:=A (show jZ l k=if !kD (l.getD k kI) then 2 else if 0<k/\0<=pU (l.getD (k-1) kI) (l.getD k kI) then 10 else 0 from rfl);obtain⟨x,hx⟩:=aa (l.getD k kI);rw[hx] at S c1 c2 c3 c4 s;have ap:=A hx;clear hx ak;have RX:=A (ai.new wr 48 (iI x));have EX:=A (λo=>(a.o.alloc a.o.size o:Ext w (wr.alloc o)));have HG:=A (λ(h:jZ l k=0)=>(show∀j,j<k+1->jZ l j=0 fromλj N=>by
    by_cases an:j=k
    ·rw[an];exact h
    ·exact t.o j D))
   have n:=A (Gf x);obtain⟨r1,ag⟩:=aa (J x.width 1 1000&&J x.depth 1 1000&&(J x.spacing 1 65536&&J x.load 0 1048576));obtain⟨r2,ae⟩:=aa (J x.span 1 65536);rw[ag,ae] at n;have C:=A (λW=>BW x.width x.depth x.spacing x.load W);have T:=A (λW=>iV x.span 1 65536 W);simp only[ag] at C;simp only[ae] at T;clear ag ae;cases r1
   ·have f:=A (show eE l=2 by rw[HR.o,bM m t.o (by rw[s.o,n.o,XT Zb];decide),s.o,n.o,XT Zb]);go_wp2_with(go_at_call 128;refine(C.o _).mono ?_;rintro e W1 ⟨rfl,rfl⟩)
    go_ret;exact⟨Zf,EX.o _⟩
   cases r2
   ·have f:=A (show eE l=2 by rw[HR.o,bM m t.o (by rw[s.o,n.o,XT Zb];decide),s.o,n.o,XT Zb]);go_wp2_with(first
     |(go_at_call 128;refine(C.o _).mono ?_;rintro e W1 ⟨rfl,rfl⟩)
     |(go_at_call 129;refine(T.o _).mono ?_;rintro e W1 ⟨rfl,rfl⟩))
    go_ret;exact⟨Zf,EX.o _⟩
   have r:=A (show jZ l k=if 0<k/\0<=pU (l.getD (k-1) kI) x then 10 else 0 by rw[s.o,n.o,XQ YK]);have af:=IU (x:=x) n.o;by_cases h0:0<k
   ·have tk:YG (0<(k:Int))=Y:=Zo;have e1:((k:Int)-1).toNat=k-1:=D;have e2:0<=(k:Int)-1:=D;have e3:(k:Int)-1<(ln l:Int):=D;have e4:(k:Int)<(ln l:Int):=D;have e6:1<=(k:Int):=D;have e5:F.wrap ((k:Int)-1)=(k:Int)-1:=Yh _ D;have M:=t.o (k-1) D;have Z:QC (l.getD (k-1) kI):=by
     refine IU ?_;cases am:kD (l.getD (k-1) kI)
     ·unfold jZ at M;rw[am] at M;simp at M
     ·rfl
    have B:=d.o (k-1) D 0 YK;have P:=d.o (k-1) D 1 YK;have K:=d.o (k-1) D 2 YK;have H:=d.o (k-1) D 3 YK;have Q:=d.o (k-1) D 4 YK;rw[mj D,Yd] at B P K H Q;rw[Nat.add_zero] at B;obtain⟨y,hy⟩:=aa (l.getD (k-1) kI);rw[hy] at B P K H Q r Z;have KO:=A (λW=>FA y x W Z af);obtain⟨c,hc⟩:=aa (pU y x);rw[hc] at r;simp only[hc] at KO;clear hy M Z af hc;go_wp2_with(first
     |(go_at_call 128;refine(C.o _).mono ?_;rintro e W1 ⟨rfl,rfl⟩)
     |(go_at_call 129;refine(T.o _).mono ?_;rintro e W1 ⟨rfl,rfl⟩))
    refine fR 9 R R (λW2 ad=> ?_);have u:ai W2 wr.heap.size 48 (iI x):=RX.o.ext ad;have q:Ext wr W2:=Gk ad;have q0:=(q.cell (p:=⟨b,off+(k-1)*5,I⟩) z).trans B;have q1:=(q.cell (p:=⟨b,off+(k-1)*5+1,I⟩) z).trans P;have q2:=(q.cell (p:=⟨b,off+(k-1)*5+2,I⟩) z).trans K;have q3:=(q.cell (p:=⟨b,off+(k-1)*5+3,I⟩) z).trans H;have q4:=(q.cell (p:=⟨b,off+(k-1)*5+4,I⟩) z).trans Q;have y0:=u.cell 0;have y1:=u.cell 1;have y2:=u.cell 2;have y3:=u.cell 3;have y4:=u.cell 4;have al:=A q;clear u q ad S c1 c2 c3 c4 B P K H Q;simp only[List.take_succ_cons,List.take_zero,List.drop_succ_cons,List.drop_zero]
    repeat still_step
    refine wpStill_nil ?_;by_cases v:0<=c
    ·have tc:YG (0<=c)=Y:=by rw[XX];exact v
     have f:=A (show eE l=10 by rw[HR.o,bM m t.o (by rw[r.o,XT ⟨h0,v⟩];decide),r.o,XT ⟨h0,v⟩]);go_wp2_with(go_at_call 130;refine(KO.o _).mono ?_;rintro e W3 ⟨rfl,ab⟩)
     go_ret;exact⟨Zf,(a.o.tr al.o).tr ab⟩
    ·have tc:YG (0<=c)=O:=by rw[XL];exact v
     have X:=A (HG.o (by rw[r.o,XQ (λh=>v h.2)]));go_wp2_with(go_at_call 130;refine(KO.o _).mono ?_;rintro e W3 ⟨rfl,ab⟩)
     exact⟨⟨k+1,D,YL,(a.o.tr al.o).tr ab,X.o⟩,YO⟩
   ·have tk:YG (0<(k:Int))=O:=YU;have X:=A (HG.o (by rw[r.o,XQ (λh=>h0 h.1)]));clear af;go_wp2_with(first
     |(go_at_call 128;refine(C.o _).mono ?_;rintro e W1 ⟨rfl,rfl⟩)
     |(go_at_call 129;refine(T.o _).mono ?_;rintro e W1 ⟨rfl,rfl⟩))
    go_quiet (fail)
    go_wp2;exact⟨⟨k+1,D,YL,below_drewN (EX.o _) _,X.o⟩,YO⟩
  ·have ao:YG ((k:Int)<(ln l:Int))=O:=YU;have g:=A (show eE l=0 by rw[HR.o,bh (λj N=>t.o j D)]);exact a1E
end
section
open Kp
def jo(a b:Aw):Int:=xI (Lib.compareInt a.width b.width) (Lib.compareInt a.depth b.depth) (Lib.compareInt a.spacing b.spacing) (Lib.compareInt a.load b.load)
def Ii(n:Nat)(a b:Aw)(i:Nat)(v:Z)(_:U):Prop:=
 match i with
 |0=>v=YA (L ⟨n,0,I⟩)
 |1=>v=G F a.width
 |2=>v=YA (L ⟨n+1,0,I⟩)
 |3=>v=G F b.width
 |4=>v=G F (Lib.compareInt a.width b.width)
 |5=>v=YA (L ⟨n,1,I⟩)
 |6=>v=G F a.depth
 |7=>v=YA (L ⟨n+1,1,I⟩)
 |8=>v=G F b.depth
 |9=>v=G F (Lib.compareInt a.depth b.depth)
 |10=>v=YA (L ⟨n,2,I⟩)
 |11=>v=G F a.spacing
 |12=>v=YA (L ⟨n+1,2,I⟩)
 |13=>v=G F b.spacing
 |14=>v=G F (Lib.compareInt a.spacing b.spacing)
 |15=>v=YA (L ⟨n,3,I⟩)
 |16=>v=G F a.load
 |17=>v=YA (L ⟨n+1,3,I⟩)
 |18=>v=G F b.load
 |19=>v=G F (Lib.compareInt a.load b.load)
 |_=>True
def wS(a b:Aw)(w:U):XY Xz 144 #[YE (iI a).toArray,YE (iI b).toArray] w λe w'=>e=YC (G F (jo a b))/\Ext w w':=by
 obtain⟨o,j⟩:=aa ((w.alloc (.cells (iI a).toArray 48)).alloc (.cells (iI b).toArray 48));have E:=A (show Ext w o by rw[<-j];exact((XI _ _).alloc (XE _) _).alloc YL _);have K:=A (show ai o w.heap.size 48 (iI a) by rw[<-j];exact(ai.new w _ _).ext ((XI _ _).alloc (XE _) _));have N:=A (show ai o (w.heap.size+1) 48 (iI b) by
  have h:=ai.new (w.alloc (.cells (iI a).toArray 48)) 48 (iI b);rw[Ya] at h;rw[<-j];exact h)
 have HR:=A (show jo a b=xI (Lib.compareInt a.width b.width) (Lib.compareInt a.depth b.depth) (Lib.compareInt a.spacing b.spacing) (Lib.compareInt a.load b.load) from rfl);have J:=A j;clear j;go_enter func144,ntmps144;go_wp2_with fail
 rw[show(w.alloc (.cells #[G F a.width,G F a.depth,G F a.spacing,G F a.load,G F a.span] 48)).alloc (.cells #[G F b.width,G F b.depth,G F b.spacing,G F b.load,G F b.span] 48)=o from J.o];refine wp_region_any R (cH 20 (λc=>⟨#[YE (iI a).toArray,YE (iI b).toArray,YA (L ⟨w.heap.size,0,I⟩),YA (L ⟨w.heap.size+1,0,I⟩),G F 0,c 0,c 1,c 2,c 3,c 4,c 5,c 6,c 7,c 8,c 9,c 10,c 11,c 12,c 13,c 14,c 15,c 16,c 17,c 18,c 19,M,M],[]⟩)
  (λw'=>Ext o w') (Ii w.heap.size a b) (λ_=>O) R (λ_ _ h k=>h.tr k) (λi v _ _ h k=>h) (λ_ _ _ _ h=>YM) ?step ?tail (λ_=>M) _ (Ext.dr o))
 case step=>
  intro i c w' hi f d;have S:=λi=>(K.o.ext f).cell i
  have P:=λi=>(N.o.ext f).cell i
  rcases(show i=0\/i=1\/i=2\/i=3\/i=4\/i=5\/i=6\/i=7\/i=8\/i=9\/i=10\/i=11\/i=12\/i=13\/i=14\/i=15\/i=16\/i=17\/i=18\/i=19 by omega) with rfl|rfl|rfl|rfl|rfl|rfl|rfl|rfl|rfl|rfl|rfl|rfl|rfl|rfl|rfl|rfl|rfl|rfl|rfl|rfl<;>clear hi<;>refine XR rfl (λQ hK=> ?_)
  ·exact a1k
  ·have z:=d 0 R;simp only[Ii] at z;go_simp;exact hK _ _ ⟨G F a.width,by simp[z],Ext.ah _,rfl,λh=>YM⟩
  ·exact a1k
  ·have d2:=d 2 R;simp only[Ii] at d2;go_simp;exact hK _ _ ⟨G F b.width,by simp[d2],Ext.ah _,rfl,λh=>YM⟩
  ·have d1:=d 1 R;have d2:=d 3 R;simp only[Ii] at d1 d2;go_simp;refine(cmp_Compare_int a.width b.width _).mono ?_;rintro e W1 ⟨rfl,rfl⟩;exact hK _ _ ⟨G F (Lib.compareInt a.width b.width),by simp[d1,d2],Ext.ah _,rfl,λh=>YM⟩
  ·exact a1k
  ·have x:=d 5 R;simp only[Ii] at x;go_simp;exact hK _ _ ⟨G F a.depth,by simp[x],Ext.ah _,rfl,λh=>YM⟩
  ·exact a1k
  ·have y:=d 7 R;simp only[Ii] at y;go_simp;exact hK _ _ ⟨G F b.depth,by simp[y],Ext.ah _,rfl,λh=>YM⟩
  ·have d1:=d 6 R;have d2:=d 8 R;simp only[Ii] at d1 d2;go_simp;refine(cmp_Compare_int a.depth b.depth _).mono ?_;rintro e W1 ⟨rfl,rfl⟩;exact hK _ _ ⟨G F (Lib.compareInt a.depth b.depth),by simp[d1,d2],Ext.ah _,rfl,λh=>YM⟩
  ·exact a1k
  ·have q:=d 10 R;simp only[Ii] at q;go_simp;exact hK _ _ ⟨G F a.spacing,by simp[q],Ext.ah _,rfl,λh=>YM⟩
  ·exact a1k
  ·have l:=d 12 R;simp only[Ii] at l;go_simp;exact hK _ _ ⟨G F b.spacing,by simp[l],Ext.ah _,rfl,λh=>YM⟩
  ·have d1:=d 11 R;have d2:=d 13 R;simp only[Ii] at d1 d2;go_simp;refine(cmp_Compare_int a.spacing b.spacing _).mono ?_;rintro e W1 ⟨rfl,rfl⟩;exact hK _ _ ⟨G F (Lib.compareInt a.spacing b.spacing),by simp[d1,d2],Ext.ah _,rfl,λh=>YM⟩
  ·exact a1k
  ·have r:=d 15 R;simp only[Ii] at r;go_simp;exact hK _ _ ⟨G F a.load,by simp[r],Ext.ah _,rfl,λh=>YM⟩
  ·exact a1k
  ·have n:=d 17 R;simp only[Ii] at n;go_simp;exact hK _ _ ⟨G F b.load,by simp[n],Ext.ah _,rfl,λh=>YM⟩
  ·have d1:=d 16 R;have d2:=d 18 R;simp only[Ii] at d1 d2;go_simp;refine(cmp_Compare_int a.load b.load _).mono ?_;rintro e W1 ⟨rfl,rfl⟩;exact hK _ _ ⟨G F (Lib.compareInt a.load b.load),by simp[d1,d2],Ext.ah _,rfl,λh=>YM⟩
 case tail=>
  intro c w' f g _;have s:=g 4 D;have u:=g 9 D;have t:=g 14 D;have m:=g 19 D;simp only[Ii] at s u t m;have B:=A (E.o.tr (f.trans ((XI w'.heap.size w').alloc (XE _) (.cells [G F (Lib.compareInt a.width b.width),G F (Lib.compareInt a.depth b.depth),G F (Lib.compareInt a.spacing b.spacing),G F (Lib.compareInt a.load b.load)].toArray 3) |>.mono f.size)));have C:=A (ai.new w' 3 [G F (Lib.compareInt a.width b.width),G F (Lib.compareInt a.depth b.depth),G F (Lib.compareInt a.spacing b.spacing),G F (Lib.compareInt a.load b.load)]);clear g f;simp only[s,u,t,m,List.drop_succ_cons,List.drop_zero];go_wp2_with(go_at_call 201;(with_reducible refine(yO _ _ _ 3 _ _ _ _ C.o).mono ?_);rintro e W1 ⟨rfl,rfl⟩)
  go_ret;exact⟨YQ,B.o⟩
end
section
open Kp
def Hc(l:List Aw)(x:Aw):Nat->Nat->Nat->Nat
 |0,lo,_=>lo
 |f+1,lo,hi=>if lo<hi then(if jo (l.getD ((lo+hi)/2) kI) x<0 then Hc l x f ((lo+hi)/2+1) hi else Hc l x f lo ((lo+hi)/2)) else lo
def zn(l:List Aw)(x:Aw):Nat:=Hc l x (ln l) 0 (ln l)
def F2(l:List Aw)(x:Aw):Bool:=YG (zn l x<ln l)&&jo (l.getD (zn l x) kI) x==0
def Hl(l:List Aw)(x:Aw)(f lo:Nat):Hc l x f lo lo=lo:=by
 cases f with
 |zero=>rfl
 |succ f=>unfold Hc;rw[XQ D]
def Xi(o:U)(l:List Aw)(x:Aw)(i j:Z)(wr:U):Prop:=
 ∃lo hi f:Nat,i=G F (lo:Int)/\j=G F (hi:Int)/\lo<=hi/\hi<=ln l/\hi-lo<=f/\Hc l x f lo hi=zn l x/\Ext o wr
def No(w:U)(E:Option Ym)(ac:Nat)(l:List Aw)(x:Aw)(hl:bR 5 w w.heap.size E ac (aO l))(aj:ln l<=1000000):
  XY Xz 143 #[V E (ln l) ac,YE (iI x).toArray,.func (.func 144) #[] #[]] w λe w'=>e=YC (YF #[G F (zn l x:Int),Yz (F2 l x)])/\Ext w w':=by
 obtain⟨h1,h2,Q⟩:=hl;rw[XP] at h1 Q;unfold Yk at h2;obtain⟨o,K⟩:=aa (w.alloc (.cells (iI x).toArray 48));have S:=A (show Ext w o by rw[<-K];exact(XI _ _).alloc (XE _) _);have v:=A (show ai o w.heap.size 48 (iI x) by rw[<-K];exact ai.new w _ _);have HW:=A K;have g1:=enters_of func144 R H;have H3:=A Q;clear Q K;go_enter func143,ntmps143;go_wp2;rw[show w.alloc (.cells #[G F x.width,G F x.depth,G F x.spacing,G F x.load,G F x.span] 48)=o from HW.o];go_loopw [9,10] (λi j wr=>Xi o l x i j wr) (λi j _=>(Yf j-Yf i).toNat)
 case atStart=>exact⟨0,ln l,ln l,H,H,D,D,D,rfl,Ext.ah _⟩
 case round=>
  obtain⟨lo,hi,f,rfl,rfl,ah,ak,hf,Z,hX⟩:=hrel;have a:=A hX;have ab:=A Z;clear hX Z;by_cases af:lo<hi
  ·obtain⟨b,off,rfl,z,B⟩:=H3.o D;have n:=A (S.o.tr a.o);have d:b<wr.heap.size:=Nat.lt_of_lt_of_le z n.o.size;obtain⟨r,rfl⟩:∃r,f=r+1:=⟨f-1,D⟩;have hh:(lo+hi)/2<ln l:=D;have g:=A (λj T=>(n.o.cell (p:=⟨b,off+5*((lo+hi)/2)+j,I⟩) z).trans (B ((lo+hi)/2) hh j T));have k:=g.o 0 YK;have c1:=g.o 1 YK;have c2:=g.o 2 YK;have c3:=g.o 3 YK;have c4:=g.o 4 YK;rw[mj hh,Yd] at k c1 c2 c3 c4;rw[Nat.add_zero] at k;have hu:Hc l x (r+1) lo hi=if jo (l.getD ((lo+hi)/2) kI) x<0 then Hc l x r ((lo+hi)/2+1) hi else Hc l x r lo ((lo+hi)/2):=by
    rw[Hc,XT af]
   rw[ab.o] at hu;obtain⟨y,hy⟩:=aa (l.getD ((lo+hi)/2) kI);rw[hy] at k c1 c2 c3 c4 hu;have t:=A (λW=>wS y x W);obtain⟨c,q⟩:=aa (jo y x);rw[q] at hu;simp only[q] at t;have X:=A hu;clear hy q hu B;have e1:(((lo:Int)+(hi:Int))/2).toNat=(lo+hi)/2:=D;have e2:0<=((lo:Int)+(hi:Int))/2:=D;have e3:((lo:Int)+(hi:Int))/2<(ln l:Int):=D;go_wp2_with fail
   refine fR 6 R R (λW2 m=> ?_);have u:ai W2 w.heap.size 48 (iI x):=v.o.ext (a.o.tr m);have q0:=(m.cell (p:=⟨b,off+(lo+hi)/2*5,I⟩) d).trans k;have q1:=(m.cell (p:=⟨b,off+(lo+hi)/2*5+1,I⟩) d).trans c1;have q2:=(m.cell (p:=⟨b,off+(lo+hi)/2*5+2,I⟩) d).trans c2;have q3:=(m.cell (p:=⟨b,off+(lo+hi)/2*5+3,I⟩) d).trans c3;have q4:=(m.cell (p:=⟨b,off+(lo+hi)/2*5+4,I⟩) d).trans c4;have y0:=u.cell 0;have y1:=u.cell 1;have y2:=u.cell 2;have y3:=u.cell 3;have y4:=u.cell 4;have ae:=A m;clear u m k c1 c2 c3 c4;simp only[List.take_succ_cons,List.take_zero,List.drop_succ_cons,List.drop_zero]
   repeat still_step
   refine wpStill_nil ?_;by_cases J:c<0
   ·have tc:YG (c<0)=Y:=Yb J;have M:=A (X.o.trans (XT J));go_wp2_with(go_at_call 144;refine(t.o _).mono ?_;rintro e W3 ⟨rfl,N⟩)
    exact⟨⟨(lo+hi)/2+1,hi,r,by rw[show((lo:Int)+(hi:Int))/2+1=(((lo+hi)/2+1:Nat):Int) by omega],rfl,D,D,D,M.o.symm,(a.o.tr ae.o).tr N⟩,YO⟩
   ·have tc:YG (c<0)=O:=XU J;have M:=A (X.o.trans (XQ J));go_wp2_with(go_at_call 144;refine(t.o _).mono ?_;rintro e W3 ⟨rfl,N⟩)
    exact⟨⟨lo,(lo+hi)/2,r,H,by rw[show((lo:Int)+(hi:Int))/2=(((lo+hi)/2:Nat):Int) by omega],D,D,D,M.o.symm,(a.o.tr ae.o).tr N⟩,YO⟩
  ·obtain rfl:lo=hi:=D;have C:=A (show zn l x=lo by rw[<-ab.o,Hl]);by_cases L:lo<ln l
   ·obtain⟨b,off,rfl,z,B⟩:=H3.o D;have n:=A (S.o.tr a.o);have d:b<wr.heap.size:=Nat.lt_of_lt_of_le z n.o.size;have g:=A (λj T=>(n.o.cell (p:=⟨b,off+5*lo+j,I⟩) z).trans (B lo L j T));have k:=g.o 0 YK;have c1:=g.o 1 YK;have c2:=g.o 2 YK;have c3:=g.o 3 YK;have c4:=g.o 4 YK;rw[mj L,Yd] at k c1 c2 c3 c4;rw[Nat.add_zero] at k;have s:F2 l x=(jo (l.getD lo kI) x==0):=by unfold F2;rw[C.o,Yb L,Bool.true_and]
    obtain⟨y,hy⟩:=aa (l.getD lo kI);rw[hy] at k c1 c2 c3 c4 s;have t:=A (λW=>wS y x W);obtain⟨c,q⟩:=aa (jo y x);rw[q] at s;simp only[q] at t;have P:=A s;have t0:YG ((lo:Int)<(ln l:Int))=Y:=Yb D;have e3:(lo:Int)<(ln l:Int):=D;clear hy q s B;have b0:=λw' (h:Ext wr w')=>(h.cell (p:=⟨b,off+lo*5,I⟩) d).trans k
    have b1:=λw' (h:Ext wr w')=>(h.cell (p:=⟨b,off+lo*5+1,I⟩) d).trans c1
    have b2:=λw' (h:Ext wr w')=>(h.cell (p:=⟨b,off+lo*5+2,I⟩) d).trans c2
    have b3:=λw' (h:Ext wr w')=>(h.cell (p:=⟨b,off+lo*5+3,I⟩) d).trans c3
    have b4:=λw' (h:Ext wr w')=>(h.cell (p:=⟨b,off+lo*5+4,I⟩) d).trans c4
    have y0:=λw' (h:Ext wr w')=>(v.o.ext (a.o.tr h)).cell 0
    have y1:=λw' (h:Ext wr w')=>(v.o.ext (a.o.tr h)).cell 1
    have y2:=λw' (h:Ext wr w')=>(v.o.ext (a.o.tr h)).cell 2
    have y3:=λw' (h:Ext wr w')=>(v.o.ext (a.o.tr h)).cell 3
    have y4:=λw' (h:Ext wr w')=>(v.o.ext (a.o.tr h)).cell 4
    clear k c1 c2 c3 c4;go_wp2_with fail
    go_region_held3(λw'=>Ext wr w') (first|exact ad|exact Ext.dr wr) (first|(go_at_call 144;refine(t.o _).mono ?_;rintro e W1 ⟨rfl,ag⟩;have ad:Ext wr W1:=(Ext.dr wr).tr ag))
    go_wp2;go_ret2;exact⟨by rw[C.o,P.o];rfl,n.o.tr ad⟩
   ·have s:F2 l x=O:=by unfold F2;rw[C.o,XU L,Bool.false_and]
    have P:=A s;have t0:YG ((lo:Int)<(ln l:Int))=O:=XU D;have n:=A (S.o.tr a.o);clear s;go_wp2_with fail
    go_quiet (fail)
    go_wp2;go_ret2;exact⟨by rw[C.o,P.o];rfl,below_drewN n.o _⟩
end
section
open Kp
theorem gB{B:Nat}{r:List Sd}(h:bR 7 w B E ac (aE r))(a:0<ln r):
  ∃b off,E=L ⟨b,off,I⟩/\b<B/\∀i,i<ln r->w.cell? ⟨b,off+i*7,I⟩=L (G F (au r i).x)/\w.cell? ⟨b,off+i*7+1,I⟩=L (G F (au r i).y)/\
   w.cell? ⟨b,off+i*7+2,I⟩=L (G F (au r i).rise)/\w.cell? ⟨b,off+i*7+3,I⟩=L (G F (au r i).run)/\w.cell? ⟨b,off+i*7+4,I⟩=L (Yz (au r i).gable)/\
   w.cell? ⟨b,off+i*7+5,I⟩=L (G F (au r i).plate)/\w.cell? ⟨b,off+i*7+6,I⟩=L (G F (au r i).over):=by
 obtain⟨h1,h2,d⟩:=h;obtain⟨b,off,e,g,c⟩:=d (by rw[XP];exact a);refine⟨b,off,e,g,λi hi=> ?_⟩;have q:∀m,m<7->w.cell? ⟨b,off+i*7+m,I⟩=(nQ (au r i))[m]?:=by
  intro m f;have:=c i Z6 m f;rw[kJ hi,Yd] at this;exact this
 exact⟨q 0 YK,q 1 YK,q 2 YK,q 3 YK,q 4 YK,q 5 YK,q 6 YK⟩
def qu(n:Int):Int:=if n<0 then -1 else if 0<n then 1 else 0
def vX(n:Int)(w:U):XY Xz 254 #[G F n] w λx w'=>x=YC (G F (qu n))/\w'=w:=by
 by_cases h1:n<0
 ·have a:qu n= -1:=XT h1;rw[a];exact a2s
 ·by_cases h2:0<n
  ·have a:qu n=1:=by unfold qu;rw[XQ h1,XT h2]
   rw[a];have b:YG (n<0)=O:=XU h1;have c:YG (n>0)=Y:=Yb h2;clear a;exact a2s
  ·have a:qu n=0:=by unfold qu;rw[XQ h1,XQ h2]
   rw[a];have b:YG (n<0)=O:=XU h1;have c:YG (n>0)=O:=XU h2;clear a;exact a2s
def mB(w:U)(E:Option Ym)(ac:Nat)(r:List Sd)(h:bR 7 w w.heap.size E ac (aE r))(i:Nat)(hi:i<ln r):
  XY Xz 253 #[V E (ln r) ac,G F (i:Int)] w λx w'=>x=YC (YF #[G F (aS r i).x,G F (aS r i).y])/\Ext w w':=by
 have h1:=h.1;have h2:=h.2.1;rw[XP] at h1;unfold Yk at h2;obtain⟨b,off,rfl,f,c⟩:=gB h D;rw[jU];have w1:F.wrap ((i:Int)+1)=(i:Int)+1:=Yh _ D;obtain⟨p,a⟩:=aa ((i+1)%ln r);have d:p<ln r:=by rw[<-a];exact Nat.mod_lt _ D
 have e:((i:Int)+1).tmod (ln r:Int)=(p:Int):=by rw[Int.tmod_eq_emod_of_nonneg D,<-a];rfl
 have g:((ln r:Int)==0)=O:=XN.2 D;have w2:F.wrap (p:Int)=(p:Int):=Yh _ D;obtain⟨j,c1,_⟩:=c p d;rw[a];clear a c h;go_enter func253,ntmps253;go_wp2_with fail
 go_quiet (fail)
 go_wp2;go_ret2;exact⟨H,below_drewN (XI _ _) _⟩
def pR(r:List Sd)(i:Nat):Int:=qu (F.wrap ((aS r i).x-(au r i).x))
def pT(r:List Sd)(i:Nat):Int:=qu (F.wrap ((aS r i).y-(au r i).y))
def Mm(n:Int): -1<=qu n/\qu n<=1:=by unfold qu;split <;>(try split)<;>omega
def yy(w:U)(E:Option Ym)(ac:Nat)(r:List Sd)(h:bR 7 w w.heap.size E ac (aE r))(i:Nat)(hi:i<ln r):
  XY Xz 217 #[V E (ln r) ac,G F (i:Int)] w λx w'=>x=YC (YF #[G F (pR r i),G F (pT r i)])/\Ext w w':=by
 have h1:=h.1;have h2:=h.2.1;rw[XP] at h1;unfold Yk at h2;have o:=A (mB w E ac r h i hi);obtain⟨b,off,rfl,n,j⟩:=gB h D;have g:=A n;obtain⟨k,c1,_⟩:=j i hi;have c:=A (show qu (F.wrap ((aS r i).x-(au r i).x))=pR r i from rfl);have d:=A (show qu (F.wrap ((aS r i).y-(au r i).y))=pT r i from rfl);obtain⟨x,hx⟩:=aa (pR r i);obtain⟨y,hy⟩:=aa (pT r i);rw[hx] at c;rw[hy] at d;rw[hx,hy];have f:=A (λ(W:U)=>vX (F.wrap ((aS r i).x-(au r i).x)) W);have l:=A (λ(W:U)=>vX (F.wrap ((aS r i).y-(au r i).y)) W);rw[c.o] at f;rw[d.o] at l;clear hx hy j h c d;go_enter func217,ntmps217;go_wp2_with(go_at_call 253;refine o.o.mono ?_;rintro e W1 ⟨rfl,a⟩;have m:=A a;have q:=(a.cell (p:=⟨b,off+i*7,I⟩) g.o).trans k;have d1:=(a.cell (p:=⟨b,off+i*7+1,I⟩) g.o).trans c1;clear a;clear k c1)
 go_quiet ((go_at_call 254;first|exact Calls.quiet_of_same (f.o _)|exact Calls.quiet_of_same (l.o _)))
 go_wp2;go_ret2;exact⟨H,below_drewN m.o _⟩
def mO(r:List Sd)(i:Nat):Int:=wrap64 (wrap64 (pR r ((i+ln r-1)%ln r)*pT r i)-wrap64 (pT r ((i+ln r-1)%ln r)*pR r i))
def vg(w:U)(E:Option Ym)(ac:Nat)(r:List Sd)(h:bR 7 w w.heap.size E ac (aE r))(z:ln r<=1000000)(i:Nat)(hi:i<ln r):
  XY Xz 218 #[V E (ln r) ac,G F (i:Int)] w λx w'=>x=YC (G F (mO r i))/\Ext w w':=by
 have h1:=h.1;have h2:=h.2.1;rw[XP] at h1;unfold Yk at h2;have s:=A h;have w1:F.wrap ((i:Int)+ln r)=(i:Int)+ln r:=Yh _ D;have w2:F.wrap ((i:Int)+ln r-1)=(i:Int)+ln r-1:=Yh _ D;obtain⟨p,a⟩:=aa ((i+ln r-1)%ln r);have m:p<ln r:=by rw[<-a];exact Nat.mod_lt _ D
 have t:((i:Int)+ln r-1).tmod (ln r:Int)=(p:Int):=by rw[Int.tmod_eq_emod_of_nonneg D,show((i:Int)+ln r-1)=((i+ln r-1:Nat):Int) by omega,<-a];rfl
 have C:((ln r:Int)==0)=O:=XN.2 D;have B:F.wrap (p:Int)=(p:Int):=Yh _ D;have c:=A (λ(W:U) (hx:Ext w W) (k:Nat) (hk:k<ln r)=>yy W E ac r ((h.below hx).more hx.size) k hk);obtain⟨x,hx⟩:=aa (pR r p);obtain⟨y,hy⟩:=aa (pT r p);have q:=Mm (F.wrap ((aS r p).x-(au r p).x));have j:=A (c.o w (XI _ _) p m);have d:=A (λ(W:U) (hx:Ext w W)=>c.o W hx i hi);rw[hx,hy] at j;obtain⟨u,hu⟩:=aa (pR r i);obtain⟨v,b⟩:=aa (pT r i);simp only[hu,b] at d;have o:=A (show mO r i=wrap64 (wrap64 (x*v)-wrap64 (y*u)) by unfold mO;rw[a,hx,hy,hu,b]);rw[o.o];clear hx hy hu b a h c q;go_enter func218,ntmps218;go_wp2_with(first
  |(go_at_call 217;have g:=f;clear f;refine(d.o _ g).mono ?_;rintro e W2 ⟨rfl,n⟩;have l:=Ext.tr g n)
  |(go_at_call 217;refine j.o.mono ?_;rintro e W1 ⟨rfl,f⟩))
 go_ret;exact⟨H,l⟩
end
section
open Kp
theorem Io{rs:List (List Sd)}(i:gw w w.heap.size E ac rs)(d:0<ln rs):
  ∃b off,∃f:Nat->Option Ym×Nat,E=L ⟨b,off,I⟩/\b<w.heap.size/\∀W,Ext w W->∀k,k<ln rs->W.cell? ⟨b,off+k,I⟩=L (V (f k).1 (rs.getD k []).length (f k).2)/\bR 7 W W.heap.size (f k).1 (f k).2 (aE (rs.getD k [])):=by
 obtain⟨b,off,e,c,g⟩:=i.2.2 d;have hx:∀k,∃p:Option Ym×Nat,k<ln rs->w.cell? ⟨b,off+k,I⟩=L (V p.1 (rs.getD k []).length p.2)/\bR 7 w w.heap.size p.1 p.2 (aE (rs.getD k [])):=by
  intro k;by_cases hk:k<ln rs
  ·obtain⟨T,Q,h1,h2⟩:=g k hk;exact⟨(T,Q),λ_=>⟨h1,h2⟩⟩
  ·exact⟨(I,0),λh=>absurd h hk⟩
 obtain⟨f,j⟩:=Classical.axiomOfChoice hx;refine⟨b,off,f,e,c,λW a k hk=> ?_⟩;obtain⟨h1,h2⟩:=j k hk;exact⟨(a.cell c).trans h1,(h2.below a).more a.size⟩
theorem Mw{rs:List (List Sd)}(a:∀r∈rs,r≠[])(hk:k<ln rs):0<(rs.getD k []).length:=by
 rw[XJ,XO hk];exact List.length_pos_iff.2 (a _ (List.getElem_mem hk))
end
section
open Kp
def QY(n:Int): -9223372036854775808<=F.wrap n/\F.wrap n<=9223372036854775807:=by
 rw[IntWalk.i64_left];unfold RowKit.wrap64;omega
end
section
open Kp
def jw{fn:Func}{t u v x:Tmp}(h:fn.results=#[.tmp t,.tmp u,.tmp v,.tmp x])(tmps:Array Z)(P:Program)(w:U):
  (results fn tmps).run P w= .ok (YF #[tmps.getD t M,tmps.getD u M,tmps.getD v M,tmps.getD x M]) w:=by
 simp[results,h]
end
section
open Kp
def oo(y:ByteArray):Nat:=y.data.toList.findIdx (· ==47)
def aG(z:ByteArray):Bool×ByteArray×ByteArray×Bool:=
 let m:=z.data.toList.head?==L 45
 let y:=if m then z.extract 1 z.size else z
 if oo y<y.size then(m,y.extract 0 (oo y),y.extract (oo y+1) y.size,Y) else(m,y,⟨#[]⟩,O)
def ot(v:Bool×ByteArray×ByteArray×Bool):Z:= YF #[Yz v.1,Yy v.2.1,Yy v.2.2.1,Yz v.2.2.2]
theorem OW(hk:k<y.size)(h:∀m (a:m<k),((y[m]'D).toNat:Int)≠47)(h2:((y[k]'hk).toNat:Int)=47):oo y=k:=by
 unfold oo;have c:k<ln y.data.toList:=by rw[Array.length_toList];exact hk
 rw[List.findIdx_eq c];refine⟨?_,λm a=> ?_⟩
 ·have e:y[k]'hk=y.data.toList[k]:=Zy;rw[e] at h2;rw[Yg];exact UInt8.toNat_inj.1 (by have:(47:UInt8).toNat=47:=rfl;omega)
 ·have b:=h m a;have e:y[m]'D=y.data.toList[m]'(by rw[Array.length_toList];exact Nat.lt_trans a hk):=Zy;rw[e] at b;rw[XN];intro d;rw[d] at b;exact b H
theorem F6(h:∀m (b:m<y.size),((y[m]'b).toNat:Int)≠47):oo y=y.size:=by
 unfold oo;have d:ln y.data.toList=y.size:=Array.length_toList;rw[<-d,List.findIdx_eq_length];intro x hx;obtain⟨m,b,rfl⟩:=List.mem_iff_getElem.1 hx;have c:m<y.size:=d▸b;have a:=h m c;have e:y[m]'c=y.data.toList[m]:=Zy;rw[e] at a;rw[XN];intro f;rw[f] at a;exact a H
end
section
open Kp
def Gh(y:ByteArray)(k:Nat):Prop:=∀m (_:m<k) (h:m<y.size),((y[m]'h).toNat:Int)≠47
theorem wT(d:(z.data.toList.head?==L 45)=g)(hy:(if g then z.extract 1 z.size else z)=y):
  (∀k (hk:k<y.size),Gh y k->((y[k]'hk).toNat:Int)=47->aG z=(g,y.extract 0 k,y.extract (k+1) y.size,Y))/\(Gh y y.size->aG z=(g,y,⟨#[]⟩,O)):=by
 have c:aG z=if oo y<y.size then(g,y.extract 0 (oo y),y.extract (oo y+1) y.size,Y) else(g,y,⟨#[]⟩,O):=by
  unfold aG;simp only[d,hy]
 refine⟨λk hk b h=> ?_,λb=> ?_⟩
 ·rw[c,OW hk (λm a=>b m a D) h,XT hk]
 ·rw[c,F6 (λm a=>b m a a),XQ (Nat.lt_irrefl _)]
theorem PV(a:0<z.size):(z.data.toList.head?==L 45)=(((z[0]'a).toNat:Int)==45):=by
 have b:0<ln z.data.toList:=by rw[Array.length_toList];exact a
 have e:z[0]'a=z.data.toList[0]:=Zy;rw[e,List.head?_eq_getElem?,XO b,Bool.eq_iff_iff,Yg,Yg];constructor
 ·intro h;injection h with h;rw[h];rfl
 ·intro h;congr 1;exact UInt8.toNat_inj.1 (by have:(45:UInt8).toNat=45:=rfl;omega)
def lM(z:ByteArray)(w:U)(I:z.size<=1000000):XY Xz 99 #[Yy z] w λx w'=>x=YC (ot (aG z))/\Ext w w':=by
 by_cases v:z.size=0
 ·have s:z.data.toList=[]:=List.length_eq_zero_iff.1 (by rw[Array.length_toList];exact v);have j:=A (wT (z:=z) (y:=z) (g:=O) (by rw[s];rfl) H);clear s;go_enter func99,ntmps99;go_wp2;go_loopw [8] (λi wr=>∃k:Nat,i=G F (k:Int)/\k<=z.size/\Ext w wr/\Gh z k) (λi _=>((z.size:Int)-Yf i).toNat)
  case atStart=>exact⟨0,H,D,XI _ _,λm n _=>D⟩
  case round=>
   obtain⟨k,rfl,hk,b,c⟩:=hrel;have d:=A b;have a:=A c;clear b c;by_cases f:k<z.size
   ·exact absurd f D
   ·exact a2E
 have t:0<z.size:=D;obtain⟨B,E⟩:=aa (((z[0]'t).toNat:Int)==45);obtain⟨y,hy⟩:=aa (z.extract 1 z.size);have C:y.size<=z.size:=by rw[<-hy];simp
 have u:y.size<=1000000:=D;have o:=(PV t).trans E;cases B with
 |false=>
  have j:=A (wT o H);clear hy C u o;go_enter func99,ntmps99;go_wp2;go_loopw [8] (λi wr=>∃k:Nat,i=G F (k:Int)/\k<=z.size/\Ext w wr/\Gh z k) (λi _=>((z.size:Int)-Yf i).toNat)
  case atStart=>exact⟨0,H,D,XI _ _,λm n _=>D⟩
  case round=>
   obtain⟨k,rfl,hk,b,c⟩:=hrel;have d:=A b;have a:=A c;clear b c;by_cases f:k<z.size
   ·obtain⟨p,r⟩:=aa (((z[k]'f).toNat:Int)==47);have l:=A r;cases p with
    |true=>
     have HR:=A (show aG z=(O,z.extract 0 k,z.extract (k+1) z.size,Y) from j.o.1 k f a.o (Yg.1 l.o));exact a2D
    |false=>
     have q:=A (show Gh z (k+1) fromλm n h=>by
      by_cases e:m=k
      ·subst e;exact XN.1 l.o
      ·exact a.o m D h)
     go_wp2;exact⟨⟨k+1,by go_num,D,d.o,q.o⟩,YO⟩
   ·exact a2E
 |true=>
  have j:=A (wT o hy);clear o;go_enter func99,ntmps99;go_wp2;go_loopw [8] (λi wr=>∃k:Nat,i=G F (k:Int)/\k<=y.size/\Ext w wr/\Gh y k) (λi _=>((y.size:Int)-Yf i).toNat)
  case atStart=>exact⟨0,H,D,XI _ _,λm n _=>D⟩
  case round=>
   obtain⟨k,rfl,hk,b,c⟩:=hrel;have d:=A b;have a:=A c;clear b c;by_cases f:k<y.size
   ·obtain⟨p,r⟩:=aa (((y[k]'f).toNat:Int)==47);have l:=A r;cases p with
    |true=>
     have HR:=A (show aG z=(Y,y.extract 0 k,y.extract (k+1) y.size,Y) from j.o.1 k f a.o (Yg.1 l.o));exact a2D
    |false=>
     have q:=A (show Gh y (k+1) fromλm n h=>by
      by_cases e:m=k
      ·subst e;exact XN.1 l.o
      ·exact a.o m D h)
     go_wp2;exact⟨⟨k+1,by go_num,D,d.o,q.o⟩,YO⟩
   ·obtain rfl:k=y.size:=D;have HR:=A (show aG z=(Y,y,⟨#[]⟩,O) from j.o.2 a.o);go_wp2;refine bodyPost_ret (jw H _ _ _) H ?_;exact⟨YQ,d.o⟩
end
section
open Kp
structure Dg(z:ByteArray):Prop where
 pos:0<z.size
 lead:∀h:0<z.size,1<z.size->((z[0]'h).toNat:Int)≠48
 all:∀m (h:m<z.size),48<=((z[m]'h).toNat:Int)/\((z[m]'h).toNat:Int)<=57
def WH(z:ByteArray)(x:Ending):Prop:=∃b:Bool,x=YC (Yz b)/\(b=Y↔Dg z)
def V7(z:ByteArray)(k:Nat):Prop:=∀m (_:m<k) (h:m<z.size),48<=((z[m]'h).toNat:Int)/\((z[m]'h).toNat:Int)<=57
def ng (z : ByteArray) (w : U) (T : z.size <= 1000000) : XY Xz 100 #[Yy z] w λx w' => WH z x /\ Ext w w' := by
  have f := A (show ¬ Dg z -> WH z (YC (Yz O)) fromλa => ⟨_, rfl, ⟨λh => YM, λh => absurd h a⟩⟩);obtain ⟨n, a⟩ : ∃ n, z.size = n := ⟨_, H⟩;by_cases q : n = 0
  · have M : z.size = 0 := a.trans q
    clear a q;go_enter func100, ntmps100;go_wp2;go_ret;exact ⟨f.o (λh => by have := h.pos; omega), XI _ _⟩
  have o : 0 < z.size := D;obtain ⟨r, j⟩ : ∃ p, YG ((n : Int) > 1) = p := ⟨_, H⟩;obtain ⟨s, l⟩ : ∃ p, (((z[0]'o).toNat : Int) == 48) = p := ⟨_, H⟩;have S : ((n : Int) == 0) = O := XN.2 D;have Q : n <= 1000000 := D;have L := A (show (r = O \/ s = O) -> V7 z z.size -> WH z (YC (Yz Y)) fromλh g => ⟨_, rfl, ⟨λ_ => ⟨o, λ_ h1 => by
    rcases h with h | h
    · rw [h] at j; have := Yp j; omega
    · rw [h] at l; exact XN.1 l, λm d => g m d d⟩, λ_ => rfl⟩⟩)
  have c := A (show r = Y -> s = Y -> ¬ Dg z fromλh1 h2 h => by
    rw [h1] at j; rw [h2] at l; have := Yq j; exact h.lead o D (Yg.1 l))
  have C := A a;clear q;cases r <;> cases s
  all_goals
    go_enter func100, ntmps100;go_wp2
    first
      | (go_ret
         exact ⟨f.o (by first | exact c.o rfl rfl | exact c.o trivial trivial | exact c.o YL YL | exact c.o), XI _ _⟩)
      | (go_loopw [3] (λi wr => ∃ k : Nat, i =G F (k : Int) /\ k <= n /\ Ext w wr /\ V7 z k) (λi _ => ((n : Int) - Yf i).toNat)
         case atStart => exact ⟨0, H, D, XI _ _, λm d _ => D⟩
         case round =>
           obtain ⟨k, rfl, hk, B, g⟩ := hrel;have b := A B;have t := A g;clear B g;by_cases P : k < n
           · have u : k < z.size := by omega
             obtain ⟨E, s1⟩ : ∃ p, YG (((z[k]'u).toNat : Int) < 48) = p := ⟨_, H⟩;obtain ⟨K, s2⟩ : ∃ p, YG (((z[k]'u).toNat : Int) > 57) = p := ⟨_, H⟩;have v := A s1;have y := A s2;cases E with
             | true =>
               go_wp2;go_ret;exact ⟨f.o (λh => by have := h.all k YT; have := Yq v.o; omega), b.o⟩
             | false =>
               cases K with
               | true =>
                 go_wp2;go_ret;exact ⟨f.o (λh => by have := h.all k YT; have := Yq y.o; omega), b.o⟩
               | false =>
                 have I := A (show V7 z (k + 1) fromλm d h => by
                   by_cases e : m = k
                   · subst e
                     have N := Yp v.o;have R := Yp y.o;exact ⟨D, D⟩
                   · exact t.o m D h)
                 go_wp2;exact ⟨⟨k + 1, by go_num, D, b.o, I.o⟩, Zw⟩
           · obtain rfl : k = n := by omega
             have J := A (L.o (by first | exact .inl rfl | exact .inr rfl | simp) (C.o ▸ t.o));go_wp2;go_ret;exact ⟨J.o, b.o⟩)
end
section
open Kp
def pN(v:Bool×ByteArray×ByteArray×Bool):ByteArray:=if v.1 then(⟨#[45]⟩:ByteArray)++v.2.1 else v.2.1
def pD(v:Bool×ByteArray×ByteArray×Bool):ByteArray:=if v.2.2.2 then v.2.2.1 else⟨#[49]⟩
def j2(z:ByteArray):(aG z).2.1.size<=z.size:=by
 have key:∀(y:ByteArray) (q:Nat) (m:Bool),y.size<=z.size->(if q<y.size then(m,y.extract 0 q,y.extract (q+1) y.size,Y) else(m,y,(⟨#[]⟩:ByteArray),O)).2.1.size<=z.size:=by
  intro y q m hy;split
  ·show(y.extract 0 q).size<=z.size;rw[ByteArray.size_extract];omega
  ·exact hy
 exact a2F
def oU(z:ByteArray)(w:U)(i:z.size<=1000000):XY Xz 280 #[Yy z] w λx w'=>x=YC (YF #[Yy (pN (aG z)),Yy (pD (aG z))])/\Ext w w':=by
 have b:=A (lM z w i);have f:=j2 z;obtain⟨⟨g,n,d,sl⟩,a⟩:=aa (aG z);rw[a] at b f;dsimp only at f;rw[a];clear a;cases g<;>cases sl
 all_goals
  go_enter func280,ntmps280;go_wp2_with(go_at_call 99;refine b.o.mono ?_;unfold ot;rintro e W1 ⟨rfl,c⟩;have h:=A c;clear c)
  go_ret2;exact⟨H,h.o⟩
end
section
open Kp
def Q4{n:Int}(a: -9223372036854775808<=n)(h1:n<=9223372036854775807):(tx (Lib.itoa n)).size<=1000:=by
 rw[af];unfold Lib.itoa;split
 ·have:=qJ n.natAbs 20 YK D;rw[List.length_cons,Lib.decDigits_length];omega
 ·have:=qJ n.toNat 20 YK D;rw[Lib.decDigits_length];omega
end
section
open Kp
def oq(z:ByteArray)(w:U)(h:Fb z):XY Xz 229 #[Yy z] w λx w'=>x=YC (G F 0)/\Ext w w':=by
 obtain⟨n,s⟩:=aa z.size;have b:0<z.size:=h.pos;have y:n<=300:=by have:=h.len;omega
 have q:=A h;obtain⟨j,u⟩:=aa (((z[0]'b).toNat:Int)==45);obtain⟨l,v⟩:=aa (((z[0]'b).toNat:Int)==48);obtain⟨d,r⟩:=aa (YG ((n:Int)>1));obtain rfl:j=O:=by
  cases j
  ·rfl
  ·obtain⟨g,o,e⟩:=h.at b;have:=Yg.1 u;omega
 have J:((0:Int)==(n:Int))=O:=XN.2 D;have f:¬(l=Y/\d=Y):=by
  rintro⟨rfl,rfl⟩;exact h.lead b (by have:=Yq r;omega) (Yg.1 v)
 have t:=A f;have I:=A s;clear h f;cases l<;>cases d
 case true.true=>exact absurd ⟨H,H⟩ t.o
 all_goals
  go_enter func229,ntmps229;go_wp2;go_loopw [4] (λi wr=>∃k:Nat,i=G F (k:Int)/\k<=n/\Ext w wr) (λi _=>((n:Int)-Yf i).toNat)
  case atStart=>exact⟨0,H,D,XI _ _⟩
  case round=>
   obtain⟨k,rfl,hk,m⟩:=hrel;have a:=A m;clear m;by_cases E:k<n
   ·have c:k<z.size:=D;obtain⟨g,o,e⟩:=q.o.at c;have C:YG (((z[k]'c).toNat:Int)<48)=O:=XU D;have K:YG (((z[k]'c).toNat:Int)>57)=O:=XU D;clear e;go_wp2;exact⟨⟨k+1,by go_num,D,a.o⟩,YO⟩
   ·obtain rfl:k=n:=D;have B:¬300<(k:Int)-0:=D;exact a2G
def GY(a b:ByteArray)(w:U)(f:Fb a)(g:Fb b):XY Xz 172 #[Yy a,Yy b] w λx w'=>x=YC (G F 0)/\Ext w w':=by
 have c:=A (oq a w f);have d:=A (λW=>oq b W g);exact a2H
theorem pJ(h:Fb z)(hk:k<=z.size):cI z k<10^k:=by
 induction k with
 |zero=>exact Nat.one_pos
 |succ k a=>
  obtain⟨g,b,e⟩:=h.at (k:=k) D;rw[mJ D e,Nat.pow_succ];have:=a D;omega
theorem Ih(h:k<=17):(10:Nat)^k<=100000000000000000:=Nat.pow_le_pow_right YK h
def TU(z:ByteArray)(x:Ending):Prop:=∃(v:Int) (ok:Bool),x=YC (YF #[G F v,Yz ok])/\(ok=Y->v=(cI z z.size:Int))/\v.natAbs<3000000000000000000
def tX(y:ByteArray)(w:U)(h:Fb y):XY Xz 230 #[Yy y] w λx w'=>TU y x/\Ext w w':=by
 have j:=h.pos;have z:y.size<=1000000:=by have:=h.len;omega
 by_cases t:17<y.size
 ·exact a2J
 have d:=A h;have u:(((y[0]'j).toNat:Int)==45)=O:=by
  obtain⟨g,o,e⟩:=h.at j;rw[XN];omega
 clear h;go_enter func230,ntmps230;go_wp2;go_loopw [4,5] (λn i wr=>∃(k:Nat),n=G F (cI y k:Nat)/\i=G F (k:Int)/\k<=y.size/\Ext w wr) (λ_ i _=>((y.size:Int)-Yf i).toNat)
 case atStart=>exact⟨0,H,H,D,XI _ _⟩
 case round=>
  obtain⟨k,rfl,rfl,hk,m⟩:=hrel;have a:=A m;have r:=Nat.lt_of_lt_of_le (pJ d.o hk) (Ih D);obtain⟨v,c⟩:=aa (cI y k);rw[c] at r⊢;have f:=A c;clear m c;by_cases b:k<y.size
  ·obtain⟨g,o,e⟩:=d.o.at b;have l:=A (mJ b e);have s:(((y[k]'b).toNat:Int)-48)%256=(g:Int):=by rw[e];omega
   have q:(((y[k]'b).toNat:Int) !=45)=Y:=ZZ;exact a2I
  ·obtain rfl:k=y.size:=D;go_wp2;go_ret2;exact⟨⟨_,_,H,λ_=>by rw[f.o],D⟩,a.o⟩
def WO(a b:ByteArray)(x:Ending):Prop:=∃(u v:Int) (ok:Bool),x=YC (YF #[G F u,G F v,Yz ok])/\u.natAbs<3000000000000000000/\v.natAbs<3000000000000000000/\(ok=Y->u=(cI a a.size:Int)/\v=(cI b b.size:Int))
def Jr (a b : ByteArray) (w : U) (g : Fb a) (f : Fb b) : XY Xz 173 #[Yy a, Yy b] w λx w' => WO a b x /\ Ext w w' := by
  have d := A (tX a w g);have c := A (λW => tX b W f);exact a2K
end
section
open Kp
theorem Fb.JV(h:Fb z):Me z:=
 ⟨⟨0,D,h.pos,h.all,by have:=h.len;omega,⟨λe=>absurd e YK,λ⟨a,e⟩=>by have:=h.all 0 (XE _) a a;omega⟩⟩⟩
def Cr(z:Int):(tx (Lib.itoa z)).toList=[49]↔z=1:=by
 have h1:Lib.itoa 1=[49]:=Zz;rw[ByteArray.toList_eq,bH,<-h1];constructor
 ·intro h;have:=Yv Lib.atoi h;rw[yZ,yZ] at this;exact Option.some.inj this
 ·rintro rfl;rfl
def U8(a b:ByteArray)(e:Ending):Prop:=∃(t:ByteArray) (k:Int),e=YC (YF #[Yy t,G F k])/\t.size<=1000/\(t.toList=[49]↔Nat.gcd (cI a a.size) (cI b b.size)=1)
structure WV(w:U)(g:Nat)(x y:Z)(wr:U):Prop where
 ex:∃a b,bT wr wr.heap.size x a/\bT wr wr.heap.size y b/\bB a/\bB b/\ln a<=51/\ln b<=51/\Nat.gcd (aw a) (aw b)=g
 low:Ext w wr
def zw(w:U)(z:ByteArray)(c:Me z)(a:0<z.size):XY Xz 174 #[Yy z] w (TB z w):=
 (yc w z c).mono λ_ _ ⟨v,l,h1,h2,b,f,d,g⟩=>⟨_,v,l,h1,h2,b,f,d,λe=>by
  have h:Cc z=O:=by rw[Ia a,XN];have:=e 0 (XE _) a a;omega
  rw[g];unfold LF;rw[h];rfl⟩
def yM(a b:ByteArray)(w:U)(m:Fb a)(n:Fb b)(ht:bE w):XY Xz 103 #[Yy a,Yy b] w λe w'=>U8 a b e/\Ext w w':=by
 have KB:=A (GY a b w m n);have ha:a.size<=1000000:=by have:=m.len;omega
 have hb:b.size<=1000000:=by have:=n.len;omega
 obtain⟨g,J⟩:=aa (Nat.gcd (cI a a.size) (cI b b.size));have l:=A m;have o:=A n;have E:=A J;have HZ:=A (show∀z:Int,z.natAbs=g->0<=z->((tx (Lib.itoa z)).toList=[49]↔Nat.gcd (cI a a.size) (cI b b.size)=1) fromλz h L=>by
  rw[J,Cr];omega)
 clear m n J;have HT:=A ht;have HA:=A ha;have HB:=A hb;have au:∀(p:Bool) (v:Z) (W:U),(Instr.field 201 (YE #[Yz p,v]) 1).run Xz W= .ok v W:=λ_ _ _=>R
 clear ht;go_enter func103,ntmps103;go_wp2_with(first
  |(go_at_call 173;fail)
  |(go_at_call 172;refine KB.o.mono ?_;rintro e W1 ⟨rfl,af⟩;have X1:=A af;clear af))
 ·refine(Jr a b W1 l.o o.o).mono ?_;rintro e W2 ⟨⟨x,y,ok,rfl,hx,hy,N⟩,ak⟩;have X2:=A (X1.o.tr ak);have HV:=A N;clear ak N;cases ok
  ·go_wp2_with(first
    |(go_at_call 174;refine(zw W8 b o.o.JV o.o.pos).mono ?_;rintro e W4 ⟨s4,v4,l4,rfl,aj,ag,M,ae,ad⟩;have V4:=A (ad o.o.all);clear ad;have X4:=A (X3.o.tr ae))
    |(go_at_call 174;refine(zw W2 a l.o.JV l.o.pos).mono ?_;rintro e W8 ⟨s3,v3,l3,rfl,ab,ac,Q,C,T⟩;have V3:=A (T l.o.all);clear T;have X3:=A (X2.o.tr C)))
   have ST:=A (show WV w g v3 v4 W4 from⟨⟨l3,l4,ab.grow ae,aj,ac,ag,Q,M,by rw[V3.o,V4.o];exact E.o⟩,X4.o⟩);clear ab aj ac ag Q M;go_loopw [10,11] (λx y wr=>WV w g x y wr) (λ_ y wr=>Iq y wr)
   case atStart=>exact ST.o
   case round=>
    obtain⟨⟨p,q,sx,sy,X,k,lx,ly,j⟩,d⟩:=hrel;have i:=A j;clear j;have B:=rF sy;obtain⟨Ay,ax,rfl,aB,aq,_⟩:=id sy;obtain⟨Ax,az,rfl,ar,ao,_⟩:=id sx;unfold Yk at aq ao;have ap:=A sy;have am:=A B;have c:=A d;by_cases f:q=[]
    ·subst f;have CW:=A (Db wr O _ p sx X D);clear sx sy B d;go_wp2_with(go_at_call 176;refine CW.o.mono ?_;rintro e W5 ⟨t,rfl,_,ay,s,al⟩)
     go_ret2;exact⟨⟨_,_,H,D,by rw[al YL,E.o,<-i.o];show _↔Nat.gcd (aw p) 0=1;rw[Nat.gcd_zero_right]⟩,c.o.tr s⟩
    ·have aA:0<ln q:=List.length_pos_iff.2 f;have av:YG (0<(ln q:Int))=Y:=Zo;have CD:=A (Bt wr p q _ _ sx sy X.small k D D f);clear sx sy B d;go_wp2_with(go_at_call 175;refine CD.o.mono ?_;rintro e W5 ⟨vq,vr,rl,rfl,ah,ai,K,s⟩)
     refine⟨⟨⟨q,rl,ap.o.grow s,ah,k,ai,ly,?_,by rw[K,Nat.gcd_comm,<-Nat.gcd_rec,Nat.gcd_comm];exact i.o⟩,c.o.tr s⟩,?_⟩
     ·have:=kY ai k.small (by rw[K];exact Nat.le_of_lt (Nat.mod_lt _ (oS k.trim f)));omega
     ·rw[rF ah,am.o,K];exact Nat.mod_lt _ (oS k.trim f)
  ·go_wp2_with fail
   go_loopw [7,8] (λu v wr=>∃p q:Int,u=G F p/\v=G F q/\p.natAbs<3000000000000000000/\q.natAbs<3000000000000000000/\Nat.gcd p.natAbs q.natAbs=g/\Ext w wr) (λ_ v _=>(Yf v).natAbs)
   case atStart=>exact⟨x,y,H,H,hx,hy,by rw[(HV.o YL).1,(HV.o YL).2,Int.natAbs_natCast,Int.natAbs_natCast];exact E.o,X2.o⟩
   case round=>
    obtain⟨p,q,rfl,rfl,hp,hq,j,d⟩:=hrel;have i:=A j;clear j;have c:=A d;clear d;by_cases L:q=0
    ·subst L;have V:=A (show(max p (-p)).natAbs=g by have h:=i.o;simp at h;omega);have S:=A (show 0<=max p (-p) by omega);have an:(max p (-p)).natAbs<3000000000000000000:=D;have w1:F.wrap (-p)= -p:=Yh _ D;obtain⟨z,hz⟩:=aa (max p (-p));rw[hz] at an V S;go_wp2_with(go_at_call 170;refine(kg z wr D D (HT.o.below c.o (XE _))).mono ?_;rintro e W8 ⟨rfl,C⟩)
     go_ret2;exact⟨⟨_,_,H,Q4 D D,HZ.o z V.o S.o⟩,c.o.tr C⟩
    ·have h1:(p.tmod q).natAbs=p.natAbs%q.natAbs:=Int.natAbs_tmod _ _;have h2:p.natAbs%q.natAbs<q.natAbs:=Nat.mod_lt _ D;have w1:F.wrap (p.tmod q)=p.tmod q:=Yh _ D;have t0:(q !=0)=Y:=Yn.2 L;have I:=A (show(p.tmod q).natAbs<q.natAbs by omega);obtain⟨r,hr⟩:=aa (p.tmod q);have P:=A (show Nat.gcd q.natAbs (p.tmod q).natAbs=g by rw[h1,Nat.gcd_comm,<-Nat.gcd_rec,Nat.gcd_comm];exact i.o);rw[hr] at w1 I P;clear h1 h2;go_wp2_with fail
     go_quiet (fail)
     go_wp2
     go_round
     case rel=>exact⟨q,r,H,H,hq,by have:=I.o;omega,P.o,below_drewN c.o _⟩
     case measure=>simp[Yf];exact I.o
end
section
open Kp
theorem uQ(h:p:=by
  go_enter func219,ntmps219;go_wp2_with(first
   |(go_at_call 253;have hX0:=hX1;clear hX1;refine(P.o _ hX0.o).mono ?_;rintro e W2 ⟨rfl,hX2⟩;have HX2:=A (Ext.tr hX0.o hX2);have d0:=(HX2.o.cell (p:=⟨b,off+i*7,I⟩) f.o).trans B;have d1:=(HX2.o.cell (p:=⟨b,off+i*7+1,I⟩) f.o).trans c1;have f0:=(HX2.o.cell (p:=⟨d,c+k*7,I⟩) g.o).trans t;have f1:=(HX2.o.cell (p:=⟨d,c+k*7+1,I⟩) g.o).trans l;clear B c1 t l hX2)
   |(go_at_call 253;refine T.o.mono ?_;rintro e W1 ⟨rfl,hX1⟩;have hX1:=A hX1))
  simp only[List.append_eq,List.cons_append,List.nil_append];refine fR 66 R R (λW3 hW3=> ?_);have g0:=(hW3.cell (p:=⟨b,off+i*7,I⟩) (Nat.lt_of_lt_of_le f.o HX2.o.size)).trans d0;have g1:=(hW3.cell (p:=⟨b,off+i*7+1,I⟩) (Nat.lt_of_lt_of_le f.o HX2.o.size)).trans d1;have g2:=(hW3.cell (p:=⟨d,c+k*7,I⟩) (Nat.lt_of_lt_of_le g.o HX2.o.size)).trans f0;have g3:=(hW3.cell (p:=⟨d,c+k*7+1,I⟩) (Nat.lt_of_lt_of_le g.o HX2.o.size)).trans f1;have HX3:=A (HX2.o.tr hW3);clear hW3 d0 d1 f0 f1;refine tQ (λOPS hOPS=> ?_);have D15:(OPS[15]?).bind (·.dst)=L 40:=by rw[hOPS];rfl
  have D32:(OPS[32]?).bind (·.dst)=L 57:=by rw[hOPS];rfl
  have D49:(OPS[49]?).bind (·.dst)=L 74:=by rw[hOPS];rfl
  clear hOPS;simp only[List.take_succ_cons,List.take_zero,List.drop_succ_cons,List.drop_zero];iterate 16 still_step
  iterate 15 (refine wpStill_step (λK hK=> ?_);(first|rw[XQ (s7 rfl D15 rfl rfl)]|rw[XT (iq rfl D15 rfl rfl)]);go_simp;refine hK _ ?_;clear hK K)
  iterate 2 still_step
  iterate 15 (refine wpStill_step (λK hK=> ?_);(first|rw[XQ (s7 rfl D32 rfl rfl)]|rw[XT (iq rfl D32 rfl rfl)]);go_simp;refine hK _ ?_;clear hK K)
  iterate 2 still_step
  iterate 15 (refine wpStill_step (λK hK=> ?_);(first|rw[XQ (s7 rfl D49 rfl rfl)]|rw[XT (iq rfl D49 rfl rfl)]);go_simp;refine hK _ ?_;clear hK K)
  still_step
  refine wpStill_nil ?_;go_wp2;go_ret;exact⟨by rw[HV.o];simp,HX3.o⟩):p:=h
def Fu(w:U)(E:Option Ym)(ac:Nat)(r:List Sd)(h:bR 7 w w.heap.size E ac (aE r))(i:Nat)(hi:i<ln r)
  (q:Option Ym)(z:Nat)(r2:List Sd)(h2:bR 7 w w.heap.size q z (aE r2))(k:Nat)(hk:k<ln r2):
  XY Xz 219 #[V E (ln r) ac,G F (i:Int),V q (ln r2) z,G F (k:Int)] w λx w'=>x=YC (Yz (fT (kC r i) (kC r2 k)))/\Ext w w':=by
 have a1:=h.1;have a2:=h.2.1;have b1:=h2.1;have b2:=h2.2.1;rw[XP] at a1 b1;unfold Yk at a2 b2;have T:=A (mB w E ac r h i hi);have P:=A (λ(W:U) (hx:Ext w W)=>mB W q z r2 ((h2.below hx).more hx.size) k hk);obtain⟨b,off,rfl,N,J⟩:=gB h D;obtain⟨d,c,rfl,M,S⟩:=gB h2 D;obtain⟨B,c1,_⟩:=J i hi;obtain⟨t,l,_⟩:=S k hk;have f:=A N;have g:=A M;obtain⟨x,hx⟩:∃x,(aS r i).x=x:=⟨_,H⟩;obtain⟨y,hy⟩:∃y,(aS r i).y=y:=⟨_,H⟩;obtain⟨u,hu⟩:=aa ((aS r2 k).x);obtain⟨v,m⟩:=aa ((aS r2 k).y);have a:fT (kC r i) (kC r2 k)=(YG (min (au r i).x (aS r i).x<=max (au r2 k).x (aS r2 k).x)&&YG (min (au r2 k).x (aS r2 k).x<=max (au r i).x (aS r i).x)&&YG (min (au r i).y (aS r i).y<=max (au r2 k).y (aS r2 k).y)&&YG (min (au r2 k).y (aS r2 k).y<=max (au r i).y (aS r i).y)):=rfl;obtain⟨vv,C⟩:=aa (fT (kC r i) (kC r2 k));rw[C] at a⊢;rw[hx,hy,hu,m] at a;rw[hx,hy] at T;simp only[hu,m] at P;obtain⟨Q,o⟩:∃x,(au r i).x=x:=⟨_,H⟩;obtain⟨X,s⟩:=aa ((au r i).y);obtain⟨Y,j⟩:∃x,(au r2 k).x=x:=⟨_,H⟩;obtain⟨O,n⟩:=aa ((au r2 k).y);rw[o,s,j,n] at a;rw[o] at B;rw[s] at c1;rw[j] at t;rw[n] at l;clear C hx hy hu m J S h h2 N M o s j n;obtain⟨m0,ad⟩:=aa (min Q x);obtain⟨m1,ag⟩:=aa (max Y u);obtain⟨m2,aj⟩:=aa (min Y u);obtain⟨m3,ab⟩:=aa (max Q x);obtain⟨m4,ah⟩:=aa (min X y);obtain⟨m5,ak⟩:=aa (max O v);obtain⟨m6,af⟩:=aa (min O v);obtain⟨m7,ai⟩:=aa (max X y);rw[ad,ag,aj,ab,ah,ak,af,ai] at a;obtain⟨p1,lL⟩:=aa (YG (m0<=m1));obtain⟨p2,qQ⟩:=aa (YG (m2<=m3));obtain⟨Z,ae⟩:=aa (YG (m4<=m5));obtain⟨p4,al⟩:=aa (YG (m6<=m7));rw[lL,qQ,ae,al] at a;have HV:=A a;clear a;cases p1
 ·exact uQ
 cases p2
 ·exact uQ
 cases Z
 ·exact uQ
 exact uQ
end
section
open Kp
def lP(rs:List (List Sd))(k m q u:Nat):Bool:=
 !((k==q)&&(YG (u<=m)||(u==m+1)||((m==0)&&((u:Int)==((rs.getD k []).length:Int)-1))))&&fT (kC (rs.getD k []) m) (kC (rs.getD q []) u)
def Wq(rs:List (List Sd))(k m q:Nat):Prop:=∀u,u<(rs.getD q []).length->lP rs k m q u=O
def WY(rs:List (List Sd))(k m:Nat):Prop:=∀q,k<=q->q<ln rs->Wq rs k m q
def Wn(rs:List (List Sd))(k:Nat):Prop:=∀m,m<(rs.getD k []).length->WY rs k m
def S0(rs:List (List Sd))(b:Bool):Prop:=
 (b=Y->∃k m q u,k<ln rs/\m<(rs.getD k []).length/\k<=q/\q<ln rs/\u<(rs.getD q []).length/\lP rs k m q u=Y)/\(b=O->∀k,k<ln rs->Wn rs k)
theorem iZ{P:Nat->Prop}(h:∀j,j<n->P j)(c:P n):∀j,j<n+1->P j:=λj b=>by
 rcases Nat.lt_succ_iff_lt_or_eq.1 b with a|rfl
 ·exact h j a
 ·exact c
theorem Ow(h:p:=by
  cases zz
  ·have hf:=HU.o (by rw[HH.o];simp);have HF4:=A hf;clear hf;go_wp2_with fail
   go_region_held3(λw'=>Ext wr w') (first|exact hx1|exact Ext.dr wr) (first|(go_at_call 219;refine(KQu.o _ (HX4.o.tr (Ext.dr wr))).mono ?_;rintro e W3 ⟨rfl,hX5⟩;have hx1:Ext wr W3:=(Ext.dr wr).tr hX5;clear hX5))
   go_wp2
   go_round
   case rel=>exact⟨u+1,by go_num,D,HX4.o.tr hx1,HF4.o⟩
   case measure=>simp[Yf];omega
  ·have ht:=HT.o (by rw[HH.o];simp);have HT4:=A ht;clear ht;go_wp2_with fail
   go_region_held3(λw'=>Ext wr w') (first|exact hx1|exact Ext.dr wr) (first|(go_at_call 219;refine(KQu.o _ (HX4.o.tr (Ext.dr wr))).mono ?_;rintro e W3 ⟨rfl,hX5⟩;have hx1:Ext wr W3:=(Ext.dr wr).tr hX5;clear hX5))
   go_wp2;go_ret;exact⟨⟨_,H,HT4.o⟩,HX4.o.tr hx1⟩):p:=h
theorem zU(h:p:=by
  have hf:=HU.o (by rw[HH.o];simp);have HF4:=A hf;clear hf;go_wp2;exact⟨⟨u+1,by go_num,D,HX4.o,HF4.o⟩,YO⟩):p:=h
def AN(w:U)(E:Option Ym)(ac:Nat)(rs:List (List Sd))(r:gw w w.heap.size E ac rs)(hp:0<ln rs)(af:∀k,(rs.getD k []).length<=1000000):
  XY Xz 154 #[V E (ln rs) ac] w λx w'=>(∃b:Bool,x=YC (Yz b)/\Hid (S0 rs b))/\Ext w w':=by
 have h1:=r.1;have h2:=r.2.1;unfold Yk at h2;obtain⟨b,off,f,rfl,hb,hf⟩:=Io r hp;have HF:=A hf;have ah:=A af;have KT:=A (λ(W:U) (h:Ext w W) (k:Nat) (hk:k<ln rs) (i:Nat) (hi:i<(rs.getD k []).length) (q:Nat) (s:q<ln rs) (u:Nat) (hu:u<(rs.getD q []).length)=>Fu W (f k).1 (f k).2 (rs.getD k []) (hf W h k hk).2 i hi (f q).1 (f q).2 (rs.getD q []) (hf W h q s).2 u hu);clear r hf af;go_enter func154,ntmps154;go_wp2;go_loopw [3] (λi wr=>∃k:Nat,i=G F (k:Int)/\k<=ln rs/\Ext w wr/\∀j,j<k->Wn rs j) (λi _=>((ln rs:Int)-Yf i).toNat)
 case atStart=>exact⟨0,H,D,XI _ _,λj h=>D⟩
 case round=>
  obtain⟨k,rfl,hk,hX,ai⟩:=hrel;have HX:=A hX;have A1:=A ai;clear ai;by_cases v:k<ln rs
  ·obtain⟨n,o⟩:=aa ((rs.getD k []).length);obtain⟨fa,y⟩:=aa ((f k).1);obtain⟨fc,t⟩:=aa ((f k).2);have N:=A (λW (h:Ext w W)=>(show W.cell? ⟨b,off+k,I⟩=L (V fa n fc) by rw[<-o,<-y,<-t];exact(HF.o W h k v).1));have an:n<=1000000:=o▸ah.o k;have d:=A o;have HA:=A y;have am:=A t;clear hX o y t;go_wp2_with fail
   go_loopw [4] (λi wr=>∃m:Nat,i=G F (m:Int)/\m<=n/\Ext w wr/\∀j,j<m->WY rs k j) (λi _=>((n:Int)-Yf i).toNat)
   case atStart=>exact⟨0,H,D,HX.o,λj h=>D⟩
   case round=>
    obtain⟨m,rfl,hm,Q,ag⟩:=hrel;have Z:=A Q;have A2:=A ag;have c1:=N.o _ Q;clear Q ag;by_cases ae:m<n
    ·go_wp2_with fail
     clear c1;go_loopw [5] (λi wr=>∃q:Nat,i=G F (q:Int)/\q<=ln rs/\Ext w wr/\k<=q/\∀j,k<=j->j<q->Wq rs k m j) (λi _=>((ln rs:Int)-Yf i).toNat)
     case atStart=>exact⟨k,H,D,Z.o,XE _,λj h1 h2=>D⟩
     case round=>
      obtain⟨q,rfl,s,ad,al,X⟩:=hrel;have ak:=A ad;have A3:=A X;clear ad X;by_cases K:q<ln rs
      ·obtain⟨a,c⟩:=aa ((rs.getD q []).length);obtain⟨ga,z⟩:=aa ((f q).1);obtain⟨gc,M⟩:=aa ((f q).2);have HD:=A (λW (h:Ext w W)=>(show W.cell? ⟨b,off+q,I⟩=L (V ga a gc) by rw[<-c,<-z,<-M];exact(HF.o W h q K).1));have g:=KT.o;have g:=λ(W:U) (h:Ext w W)=>KT.o W h k v m (by rw[d.o];exact ae) q K
       simp only[c,z,M,d.o,HA.o,am.o] at g;have g:=A g;have aj:=A c;have ao:a<=1000000:=c▸ah.o q;clear c z M;go_wp2_with fail
       go_loopw [6] (λi wr=>∃u:Nat,i=G F (u:Int)/\u<=a/\Ext w wr/\∀j,j<u->lP rs k m q j=O) (λi _=>((a:Int)-Yf i).toNat)
       case atStart=>exact⟨0,H,D,ak.o,λj h=>D⟩
       case round=>
        obtain⟨u,rfl,hu,l,ab⟩:=hrel;have HX4:=A l;have A4:=A ab;have c1:=N.o _ l;have c2:=HD.o _ l;clear l ab;by_cases T:u<a
        ·have KQu:=λW (h:Ext w W)=>g.o W h u T
         obtain⟨zz,C⟩:=aa (fT (kC (rs.getD k []) m) (kC (rs.getD q []) u));simp only[C] at KQu;have KQu:=A KQu;have B:lP rs k m q u=(!((k==q)&&(YG (u<=m)||(u==m+1)||((m==0)&&((u:Int)==(n:Int)-1))))&&zz):=by unfold lP;rw[C,d.o]
         have HT:=A (λh:lP rs k m q u=Y=>(show Hid (S0 rs Y) from A ⟨λ_=>⟨k,m,q,u,v,by rw[d.o];exact ae,al,K,by rw[aj.o];exact T,h⟩,λh=>YM⟩));have HU:=A (λh:lP rs k m q u=O=>iZ (P:=λj=>lP rs k m q j=O) A4.o h);clear C;have w1:F.wrap ((m:Int)+1)=(m:Int)+1:=Yh _ D;have w2:F.wrap ((n:Int)-1)=(n:Int)-1:=Yh _ D;have a1:=λw' (h:Ext wr w')=>N.o w' (HX4.o.tr h)
         have a2:=λw' (h:Ext wr w')=>HD.o w' (HX4.o.tr h)
         obtain⟨S,t1⟩:=aa ((k:Int)==(q:Int));obtain⟨e2,t2⟩:=aa (YG ((u:Int)<=(m:Int)));obtain⟨R,t3⟩:=aa ((u:Int)==(m:Int)+1);obtain⟨e4,t4⟩:=aa ((m:Int)==0);obtain⟨e5,t5⟩:=aa ((u:Int)==(n:Int)-1);have s1:(k==q)=S:=by rw[<-t1,Bool.eq_iff_iff,Yg,Yg];omega
         have s2:YG (u<=m)=e2:=by rw[<-t2];exact Ys.2 D
         have s3:(u==m+1)=R:=by rw[<-t3,Bool.eq_iff_iff,Yg,Yg];omega
         have s4:(m==0)=e4:=by rw[<-t4,Bool.eq_iff_iff,Yg,Yg];omega
         rw[s1,s2,s3,s4,t5] at B;have HH:=A B;clear B;cases S
         ·exact Ow
         cases e2
         case true=>exact zU
         cases R
         case true=>exact zU
         cases e4
         ·exact Ow
         cases e5
         ·exact Ow
         ·exact zU
        ·obtain rfl:u=a:=D;have HQ:=A (show Wq rs k m q fromλj J=>A4.o j (by rw[<-aj.o];exact J));go_wp2;exact⟨⟨q+1,by go_num,D,HX4.o,D,λj h1 h2=>by
          rcases Nat.lt_succ_iff_lt_or_eq.1 h2 with h'|rfl
          ·exact A3.o j h1 h'
          ·exact HQ.o⟩,YO⟩
      ·obtain rfl:q=ln rs:=D;go_wp2;exact⟨⟨m+1,by go_num,D,ak.o,iZ A2.o (λq s hl=>A3.o q s hl)⟩,YO⟩
    ·obtain rfl:m=n:=D;have HK:=A (show Wn rs k fromλj J=>A2.o j (by rw[<-d.o];exact J));go_wp2;exact⟨⟨k+1,by go_num,D,Z.o,iZ A1.o HK.o⟩,YO⟩
  ·obtain rfl:k=ln rs:=D;go_wp2;go_ret;exact⟨⟨_,H,A ⟨λh=>YM,λ_=>A1.o⟩⟩,HX.o⟩
end
end Go.Proofs.YtnepbjnlmkppmaaGreatDoor

