/- ChangeApplies of kingpostlaw58: part 17 of its proof (merged and shortened by program). -/
import Derived.Lib.AppendZeros
import Derived.Test.YtnepbjnlmkppmaaGreatDoorP04
import Derived.Test.YtnepbjnlmkppmaaGreatDoorP05
set_option linter.unusedVariables false
set_option linter.unusedSimpArgs false
set_option linter.defProp false
set_option maxHeartbeats 8000000
set_option maxRecDepth 100000
open Go.RowKit Go.Shelf Go.Proofs.Tryz
open Array renaming getElem?_eq_some_iff→XV
open Bool renaming false→O,true→Y
open Decidable renaming decide→YG
open Go renaming World→U,undef→M,Value→Z,wpOp_step→XR,Calls→XY,TypeId→Yj,maxLen→Yk,Addr→Ym
open Go.Ending renaming returned→YC
open Go.IntKind renaming i64→F
open Go.IntWalk renaming i64_in→Yh
open Go.Lib renaming hid→A
open Go.Proofs.Tryz renaming prog→Xz
open Go.RowKit renaming intOf→Yf,Below→Yl
open Go.Value renaming slice→V,string→Yy,bool→Yz,pointer→YA,int→G,agg→YE,tuple→YF
open Go.World renaming alloc_heap_new→XZ,size_alloc→Ya
open List renaming getD_eq_getElem?_getD→XJ,getElem?_eq_getElem→XO,length_map→XP,length_append→Yc,length→ln
open Nat renaming le_refl→XE,mul_comm→Yd,le_trans→Ye
open Option renaming none→I,some→L
open Go.Proofs.YtnepbjnlmkppmaaGreatDoor
variable{m pv g:Bool}{y z:ByteArray}{N:List Nat}{r:List UInt8×Int}{l xs ag ar rc:List Z}{k n0 ac b i d j n base ae s it rb Q ab B0:Nat}{E T:Option Ym}{p:Prop}{α:Type}{w w' W W' W2 w1 o W3:U}{v1 v2 u v' X ad:Z}{t e e':Yj}
namespace Go.Proofs.YtnepbjnlmkppmaaGreatDoor
section
open Kp
def OV(g:Nat)(a b:List Nat)(f:Nat->Nat×Nat):Prop:=
 ∀(W:U) (k:Nat),XY Xz g #[G F (C a k:Int),G F (C b k:Int),G F ((f k).2:Int)] W λe w'=>e=YC (YF #[G F ((f (k+1)).1:Int),G F ((f (k+1)).2:Int)])/\W=w'
def LC{a b:List Nat}(c:Small a)(d:Small b):OV 339 a b (pW a b):=λW k=>
 (Lh _ _ _ W (aB c k) (aB d k) (NP c d k).1).mono λ_ _ ⟨h1,h2⟩=>⟨h1,h2.symm⟩
def vU{a b:List Nat}(c:Small a)(d:Small b):OV 340 a b (nW a b):=λW k=>
 (FH _ _ _ W (aB c k) (aB d k) (Fv c d k).1).mono λ_ _ ⟨h1,h2⟩=>⟨h1,h2.symm⟩
def TM(w:U)(f:Nat->Nat×Nat)(n:Nat)(e:Ending)(w':U):Prop:=
 ∃v,e=YC v/\bT w' w'.heap.size v (aD (cJ f n))/\Ext w w'
def nr(w:U)(a b:List Nat)(X vb:Z)(g:Nat)(f:Nat->Nat×Nat)(R:bT w w.heap.size X a)(M:bT w w.heap.size vb b)(aw:ln a<=1000000)(az:ln b<=1000000)
  (eg:∀args w,(callFunc g args).run Xz w= .ok (.enter g args) w)(d:OV g a b f)(aj:(f 0).2=0):
  XY Xz 338 #[X,vb,.func (.func g) #[] #[]] w (TM w f (max (ln a) (ln b)+1)):=by
 obtain⟨i0,W,ag,ah,ae⟩:=info_parts ie;have I0:=A W;have I1:=A ag;have I2:=A ah;have I3:=A ae;have HA:=A R;have HB:=A M;have HP:=A d;have HF:=A aj;obtain⟨E,ca,rfl,aF,al,_⟩:=id R;obtain⟨A',cb,rfl,ax,ak,_⟩:=id M;unfold Yk at al ak;obtain⟨n,N⟩:=aa (max (ln a) (ln b)+1);have ar:n<=1000001:=D;have aA:ln a<n:=D;have aB:ln b<n:=D;have aE:(max (ln a:Int) (ln b:Int))+1=(n:Int):=D;have HN:=A N;rw[N];clear R M d aj W ag ah ae N;go_enter func338,ntmps338;go_wp2;go_loopw [7,8,18] (λv c i wr=>WS w f n v c i wr) (λ_ _ i _=>((n:Int)-Yf i).toNat)
 case atStart=>exact⟨0,D,rfl,ZG,World.ownsRow_nil _ _ _ _,XI _ _⟩
 case round=>
  obtain⟨k,hk,rfl,rfl,ab,m⟩:=hrel;have r:=A ab;have L:=A m;have B:=(HA.o.below m);have z:=(HB.o.below m);have au:=m.size;clear ab m;by_cases av:k<n
  ·have C1:=A (vF wr _ _ a k B D);have C2:=A (vF wr _ _ b k z D);have C3:=A (HP.o wr k);have o:=A (fO f k);obtain⟨x,hx⟩:=aa ((f (k+1)).1);obtain⟨y,hy⟩:=aa ((f (k+1)).2);rw[hx,hy] at C3;rw[hx] at o;have HY:=A hy;clear B z hx hy;have an:w.heap.size<=(wr.alloc (.cells #[G F (x:Int)] 3)).heap.size:=YP;have ad:=A (bD r.o ((XI _ _).alloc (XE _) (.cells #[G F (x:Int)] 3)));obtain⟨vs,C⟩:=aa (uL (cJ f k));rw[C] at r ad;have P:=A C;clear C;go_wp2_with(first
    |(at_builtin;(refine wpList_append_own _ H _ _ _ H w.heap.size 3 i0 _ 1 8 underlying25 I0.o I1.o I2.o I3.o H D _ _ _ H ad.o ⟨wr.heap.size,0,I⟩ 1 1 [G F (x:Int)] H Zb (λj u hj=>Y1) ZD YR D an ?_);intro v' w' ap ao aC)
    |(go_at_fn g;refine C3.o.mono ?_;rintro e W3 ⟨rfl,rfl⟩)
    |(go_at_call 335;first|((with_reducible refine C1.o.mono ?_);rintro e W1 ⟨rfl,rfl⟩)|((with_reducible refine C2.o.mono ?_);rintro e W1 ⟨rfl,rfl⟩)))
   refine⟨⟨k+1,D,YL,by rw[HY.o],?_,fQ (L.o.alloc L.o.size _) ao (λq hq=>(aH r.o q hq).1)⟩,YO⟩;have e:uL (cJ f (k+1))=vs++[G F (x:Int)]:=ZL;rw[e];exact ap
  ·obtain rfl:k=n:=D;have aq:YG ((k:Int)<(k:Int))=O:=YU;have t:=gY r.o (bL f k);obtain⟨l,c2,rfl,s,J,T⟩:=id t;have CT:=A (DW wr l c2 (cJ f k) s J (λd=>by
    obtain⟨K,Q,e,ac,S⟩:=T d;exact⟨K,Q,e,S⟩))
   have HS:=A t;rw[bL] at CT HS;have am:=A (show bT wr wr.heap.size (V l (aD (cJ f k)).length c2) (aD (cJ f k)) by
    refine⟨l,c2,H,Ye (bC _) s,J,λd=> ?_⟩;have ay:=bC (cJ f k);obtain⟨K,Q,e,ac,S⟩:=T D;exact⟨K,Q,e,ac,λj hj=>by rw[wW hj];exact S j D⟩)
   have af:=bL f k;have Y:(Value.slice l (cJ f k).length c2)=V l k c2:=by rw[af]
   rw[Y];clear t s J T B z af Y;go_wp2_with(go_at_call 315;refine CT.o.mono ?_;rintro e W1 ⟨rfl,rfl⟩)
   go_ret;exact⟨_,H,am.o,L.o⟩
end
section
open Kp
def sg(m:Bool)(n:Nat):Int:=if m then -(n:Int) else n
theorem Tw{a b:List Nat}(e:Small a)(f:Small b)(r:max (ln a) (ln b)+1=n):Canon (aD (cJ (pW a b) n))/\val (aD (cJ (pW a b) n))=val a+val b:=by
 have m:Small (cJ (pW a b) n):=by
  intro d g;unfold cJ at g;obtain⟨i,_,rfl⟩:=List.mem_map.1 g;exact(NP e f i).2
 refine⟨fZ m,?_⟩;rw[jb];have h1:=QD (a:=a) (b:=b) n;have k:S (C a) n=val a:=kR D;have l:S (C b) n=val b:=kR D;have j:S (C (cJ (pW a b) n)) n=val (cJ (pW a b) n):=by unfold val;rw[bL]
 rw[k,l,j] at h1;have la:=Nat.lt_of_lt_of_le (ti e) (Nat.pow_le_pow_right YK (show ln a<=n-1 by omega):B^ln a<=B^(n-1));have lb:=Nat.lt_of_lt_of_le (ti f) (Nat.pow_le_pow_right YK (show ln b<=n-1 by omega):B^ln b<=B^(n-1));have o:B^n=B^(n-1)*B:=by rw[<-Nat.pow_succ];congr 1;omega
 have q:B^(n-1)*2<=B^(n-1)*B:=Nat.mul_le_mul_left _ YK;rcases Nat.eq_zero_or_pos (pW a b n).2 with c|c
 ·rw[c] at h1;omega
 ·have:1*B^n<=(pW a b n).2*B^n:=Nat.mul_le_mul_right _ c;omega
theorem Pf{a b:List Nat}(e:Small a)(g:Small b)(r:max (ln a) (ln b)+1=n)(q:val b<=val a):Canon (aD (cJ (nW a b) n))/\val (aD (cJ (nW a b) n))=val a-val b:=by
 have f:Small (cJ (nW a b) n):=by
  intro d j;unfold cJ at j;obtain⟨i,_,rfl⟩:=List.mem_map.1 j;exact(Fv e g i).2
 refine⟨fZ f,?_⟩;rw[jb];have h1:=QK e g n;have m:S (C a) n=val a:=kR D;have o:S (C b) n=val b:=kR D;have k:S (C (cJ (nW a b) n)) n=val (cJ (nW a b) n):=by unfold val;rw[bL]
 have l:=ti f;rw[bL] at l;rw[m,o,k] at h1;rcases Nat.eq_zero_or_pos (nW a b n).2 with c|c
 ·rw[c] at h1;omega
 ·have:1*B^n<=(nW a b n).2*B^n:=Nat.mul_le_mul_right _ c;omega
def zC(w:U)(z:Int)(e:Ending)(w':U):Prop:=
 ∃m v l,e=YC (YE #[Yz m,v])/\bT w' w'.heap.size v l/\Canon l/\sg m (val l)=z/\Ext w w'
def PF(a c b:Nat)(m:Bool)(v1 v2:Z)(N:List Nat):Nat->Z->U->Prop
 |0,v,_=>v=YA (L ⟨a,0,I⟩)
 |1,v,_=>v=Yz m
 |2,v,_=>v=YA (L ⟨c,1,I⟩)
 |3,v,_=>v=v1
 |4,v,_=>v=YA (L ⟨b,1,I⟩)
 |5,v,_=>v=v2
 |6,v,w=>bT w w.heap.size v N
 |_,v,w=>∃u,v=YE #[Yz m,u]/\bT w w.heap.size u N
theorem Al{a c b:Nat}{v:Z}(h:PF a c b m v1 v2 N i v w)(hx:Ext w w'):PF a c b m v1 v2 N i v w':=by
 match i,h with
 |0,h|1,h|2,h|3,h|4,h|5,h=>exact h
 |6,h=>exact bT.grow h hx
 |_+7,h=>obtain⟨u,e,hu⟩:=h;exact⟨u,e,hu.grow hx⟩
theorem Uc{l:List Nat}{v:Z}(h:bT w w.heap.size v l)(m:ai w b 311 [Yz O,V I 0 0])(x y:Z):
  bT ((w.setCell ⟨b,0,I⟩ x).setCell ⟨b,1,I⟩ y) ((w.setCell ⟨b,0,I⟩ x).setCell ⟨b,1,I⟩ y).heap.size v l:=by
 obtain⟨E,ac,rfl,h1,h2,k⟩:=h;refine⟨E,ac,H,h1,h2,λo=> ?_⟩;obtain⟨i,off,e,n,f⟩:=k o;refine⟨i,off,e,by simpa[World.setCell] using n,λj g=> ?_⟩;by_cases d:i=b
 ·exfalso;subst d;have a:=f j g;rw[m.cell] at a;rcases(show off+j=0\/off+j=1\/2<=off+j by omega) with c|c|c
  ·rw[c] at a;simp at a
  ·rw[c] at a;simp at a
  ·rw[List.getElem?_eq_none (by simpa using c)] at a;cases a
 ·rw[World.cell?_of_block (w:=w.setCell ⟨b,0,I⟩ x) (Below.heap_setCell _ _ _ _ d),World.cell?_of_block (w:=w) (Below.heap_setCell _ _ _ _ d)];exact f j g
def FZ(w:U)(a b c:List Z)(t:Yj):∃o,Hid (((w.alloc (.cells a.toArray t)).alloc (.cells b.toArray t)).alloc (.cells c.toArray t)=o)/\Hid (Ext w o)/\ai o w.heap.size t a/\ai o (w.heap.size+1) t b/\ai o (w.heap.size+1+1) t c:=by
 have e:=(ai.new (w.alloc (.cells a.toArray t)) t b).ext ((XI _ _).alloc (XE _) (.cells c.toArray t));have d:=ai.new ((w.alloc (.cells a.toArray t)).alloc (.cells b.toArray t)) t c;rw[Ya] at e;rw[Ya,Ya] at d;exact⟨_,A H,A (B9 w _ _ _),(ai.new w t a).ext (gI _ _ _),e,d⟩
theorem AE(h:p:=by
  intro i d w' hi hD hd;have hw0:Ext o w':=(Ext.tr r hD);have cA:=λi=>(B.ext hw0).cell i
  have cB:=λi=>(N.ext hw0).cell i
  rcases(show i=0\/i=1\/i=2\/i=3\/i=4\/i=5\/i=6\/i=7 by omega) with rfl|rfl|rfl|rfl|rfl|rfl|rfl|rfl<;>clear hi<;>refine XR rfl (λK hK=> ?_)
  ·exact a1k
  ·have d0:=hd 0 R;simp only[PF] at d0;go_simp;exact hK _ _ ⟨_,by simp[d0],Ext.ah _,rfl,λh=>YM⟩
  ·exact a1k
  ·have d2:=hd 2 R;simp only[PF] at d2;go_simp;exact hK _ _ ⟨_,by simp[d2],Ext.ah _,rfl,λh=>YM⟩
  ·exact a1k
  ·have d4:=hd 4 R;simp only[PF] at d4;go_simp;exact hK _ _ ⟨_,by simp[d4],Ext.ah _,rfl,λh=>YM⟩
  ·have d3:=hd 3 R;have d5:=hd 5 R;simp only[PF] at d3 d5;clear cA cB;go_simp;refine(u.o _ (j.o.tr hw0)).mono ?_;rintro e W4 ⟨v,rfl,hs,hX⟩;exact hK _ _ ⟨v,by simp[d3,d5],hX,hs,λh=>YM⟩
  ·have d1:=hd 1 R;obtain⟨A6,c6,e6,h61,h62,h63⟩:=id (hd 6 R:bT _ _ _ _);have d6:bT _ _ _ _:=hd 6 R;simp only[PF] at d1;rw[e6] at d6;clear cA cB h63;go_simp;exact hK _ _ ⟨_,by simp[d1,e6],Ext.ah _,⟨_,rfl,d6⟩,λh=>YM⟩):p:=h
theorem BC(h:p:=by
  intro d w' hD hv _;have hw0:Ext o w':=(Ext.tr r hD);obtain⟨v,e7,hs⟩:=hv 7 YK;obtain⟨A7,c7,rfl,_,_,_⟩:=id hs;have HS:=A hs;have r3:=z.ext hw0;have c0:=r3.cell 0;have c1:=r3.cell 1;have f0:=r3.frozen 0;have f1:=r3.frozen 1;have HR3:=A r3;clear hv hs r3;simp only[List.drop_succ_cons,List.drop_zero];go_wp2;have q0:=λx y=>(HR3.o.rU x y).cell 0
  have q1:=λx y=>(HR3.o.rU x y).cell 1
  refine bodyPost_ret (v:=d 7) ?_ H ⟨_,_,_,Yv _ e7,?_,J.o,C.o,?_⟩
  ·rw[e7];simp[results,results327,go_sem,q0,q1]
  ·have hb4:Yl w'.heap.size w' w':=XI _ _;exact Uc HS.o HR3.o _ _
  ·exact((j.o.tr hw0).setCell (p:=⟨w.heap.size+1+1,0,I⟩) YP _).setCell (p:=⟨w.heap.size+1+1,1,I⟩) YP _):p:=h
def Kx(w:U)(m:Bool)(a b:List Nat)(F G:Z)(s:bT w w.heap.size F a)(q:bT w w.heap.size G b)(t:Canon a)(l:Canon b)(ac:ln a<=400000)(ae:ln b<=400000):
  XY Xz 327 #[YE #[Yz m,F],YE #[Yz m,G]] w (zC w (sg m (val a)+sg m (val b))):=by
 have Q:=t.small;have S:=l.small;obtain⟨P,T⟩:=Tw Q S (n:=max (ln a) (ln b)+1) H;have C:=A (show sg m (val (aD (cJ (pW a b) (max (ln a) (ln b)+1))))=sg m (val a)+sg m (val b) by rw[T];unfold sg;cases m<;>simp <;>omega);have J:=A P;have X:=A (LC Q S);have HA:=A s;have HB:=A q;have ab:=A t;have ad:=A l;obtain⟨E,f,rfl,_,_,_⟩:=id s;obtain⟨c,g,rfl,_,_,_⟩:=id q;obtain⟨o,aa,j,B,N,z⟩:=FZ w [Yz m,V E (ln a) f] [Yz m,V c (ln b) g] [Yz O,V I 0 0] 311;have u:=A (λ(W:U) (h:Ext w W)=>nr W a b (V E (ln a) f) (V c (ln b) g) 339 _ (HA.o.grow h) (HB.o.grow h) D D (enters_of func339 R rfl) X.o rfl);have tm:(m==m)=Y:=YL;clear s q P T t l;go_enter func327,ntmps327;go_wp2;simp only[aa.o];have r:=Ext.ah o;refine wp_region_any R (cH 8 (λd=>⟨#[YE #[Yz m,V E (ln a) f],YE #[Yz m,V c (ln b) g],YA (L ⟨w.heap.size,0,I⟩),YA (L ⟨w.heap.size+1,0,I⟩),YA (L ⟨w.heap.size+1+1,0,I⟩),Yz Y,YA (L ⟨w.heap.size,0,I⟩),Yz m,YA (L ⟨w.heap.size+1,0,I⟩),Yz m,Yz Y,d 0,d 1,d 2,d 3,d 4,d 5,d 6,d 7,M,M,M,M,M,M,M,M,M,M,M,M,M,M,M,M,M,M,M,M,M,M,M],[]⟩)
  (λw'=>Ext o w') (PF (w.heap.size) (w.heap.size) (w.heap.size+1) m (V E (ln a) f) (V c (ln b) g) (aD (cJ (pW a b) (max (ln a) (ln b)+1)))) (λ_=>O) R (λ_ _ h k=>h.tr k) (λi v _ _ h k=>Al h k) (λ_ _ _ _ h=>YM) ?_ ?_ (λ_=>M) _ (Ext.dr o))
 ·exact AE
 ·exact BC
def PL(w:U)(f g:Bool)(a b:List Nat)(T vb:Z)(S:bT w w.heap.size T a)(Q:bT w w.heap.size vb b)(t:Canon a)(s:Canon b)(ai:ln a<=400000)(ak:ln b<=400000)(P:f≠g)(af:val b<=val a):
  XY Xz 327 #[YE #[Yz f,T],YE #[Yz g,vb]] w (zC w (sg f (val a)+sg g (val b))):=by
 have ab:=t.small;have ac:=s.small;obtain⟨aa,ad⟩:=Pf ab ac (n:=max (ln a) (ln b)+1) H af;have C:=A (show sg f (val (aD (cJ (nW a b) (max (ln a) (ln b)+1))))=sg f (val a)+sg g (val b) by rw[ad];unfold sg;cases f<;>cases g<;>simp at P⊢ <;>omega);have J:=A aa;have HP:=A (vU ab ac);have HA:=A S;have HB:=A Q;have ah:=A t;have aj:=A s;obtain⟨E,m,rfl,_,_,_⟩:=id S;obtain⟨l,q,rfl,_,_,_⟩:=id Q;obtain⟨o,ag,j,B,N,z⟩:=FZ w [Yz f,V E (ln a) m] [Yz g,V l (ln b) q] [Yz O,V I 0 0] 311;have u:=A (λ(W:U) (h:Ext w W)=>nr W a b (V E (ln a) m) (V l (ln b) q) 340 _ (HA.o.grow h) (HB.o.grow h) D D (enters_of func340 R rfl) HP.o rfl);have KD:=A (j7 o a b (V E (ln a) m) (V l (ln b) q) (HA.o.grow j.o) (HB.o.grow j.o) t s D);have tm:(f==g)=O:=by rw[XN];exact P
 clear S Q aa ad t s;go_enter func327,ntmps327;clear P;go_wp2_with(go_at_call 316;rw[ag.o];refine KD.o.mono ?_;rintro e X0 ⟨c,rfl,X,ae,r⟩;have tc:YG (0<=c)=Y:=(by rw[XX];rcases Int.lt_or_le c 0 with h|h;(have:=X.1 h;omega);exact h);clear X ae)
 refine wp_region_any R (cH 8 (λd=>⟨#[YE #[Yz f,V E (ln a) m],YE #[Yz g,V l (ln b) q],YA (L ⟨w.heap.size,0,I⟩),YA (L ⟨w.heap.size+1,0,I⟩),YA (L ⟨w.heap.size+1+1,0,I⟩),Yz O,YA (L ⟨w.heap.size,0,I⟩),Yz f,YA (L ⟨w.heap.size+1,0,I⟩),Yz g,Yz O,M,M,M,M,M,M,M,M,Yz Y,YA (L ⟨w.heap.size,1,I⟩),V E (ln a) m,YA (L ⟨w.heap.size+1,1,I⟩),V l (ln b) q,G F c,Yz Y,d 0,d 1,d 2,d 3,d 4,d 5,d 6,d 7,M,M,M,M,M,M,M,M],[]⟩)
  (λw'=>Ext X0 w') (PF (w.heap.size) (w.heap.size) (w.heap.size+1) f (V E (ln a) m) (V l (ln b) q) (aD (cJ (nW a b) (max (ln a) (ln b)+1)))) (λ_=>O) R (λ_ _ h k=>h.tr k) (λi v _ _ h k=>Al h k) (λ_ _ _ _ h=>YM) ?_ ?_ (λ_=>M) _ (Ext.dr X0))
 ·exact AE
 ·exact BC
def Qo(w:U)(g f:Bool)(a b:List Nat)(T vb:Z)(S:bT w w.heap.size T a)(Q:bT w w.heap.size vb b)(t:Canon a)(s:Canon b)(ai:ln a<=400000)(ak:ln b<=400000)(P:g≠f)(af:val a<val b):
  XY Xz 327 #[YE #[Yz g,T],YE #[Yz f,vb]] w (zC w (sg g (val a)+sg f (val b))):=by
 have ab:=t.small;have ac:=s.small;obtain⟨aa,ad⟩:=Pf ac ab (n:=max (ln b) (ln a)+1) H D;have C:=A (show sg f (val (aD (cJ (nW b a) (max (ln b) (ln a)+1))))=sg g (val a)+sg f (val b) by rw[ad];unfold sg;cases g<;>cases f<;>simp at P⊢ <;>omega);have J:=A aa;have HP:=A (vU ac ab);have HA:=A S;have HB:=A Q;have ah:=A t;have aj:=A s;obtain⟨E,m,rfl,_,_,_⟩:=id S;obtain⟨l,q,rfl,_,_,_⟩:=id Q;obtain⟨o,ag,j,B,N,z⟩:=FZ w [Yz g,V E (ln a) m] [Yz f,V l (ln b) q] [Yz O,V I 0 0] 311;have u:=A (λ(W:U) (h:Ext w W)=>nr W b a (V l (ln b) q) (V E (ln a) m) 340 _ (HB.o.grow h) (HA.o.grow h) D D (enters_of func340 R rfl) HP.o rfl);have KD:=A (j7 o a b (V E (ln a) m) (V l (ln b) q) (HA.o.grow j.o) (HB.o.grow j.o) t s D);have tm:(g==f)=O:=by rw[XN];exact P
 clear S Q aa ad t s;go_enter func327,ntmps327;clear P;go_wp2_with(go_at_call 316;rw[ag.o];refine KD.o.mono ?_;rintro e Y ⟨c,rfl,X,ae,r⟩;have tc:YG (0<=c)=O:=(by rw[XL];have:=X.2 af;omega);clear X ae)
 refine wp_region_any R (cH 8 (λd=>⟨#[YE #[Yz g,V E (ln a) m],YE #[Yz f,V l (ln b) q],YA (L ⟨w.heap.size,0,I⟩),YA (L ⟨w.heap.size+1,0,I⟩),YA (L ⟨w.heap.size+1+1,0,I⟩),Yz O,YA (L ⟨w.heap.size,0,I⟩),Yz g,YA (L ⟨w.heap.size+1,0,I⟩),Yz f,Yz O,M,M,M,M,M,M,M,M,Yz O,YA (L ⟨w.heap.size,1,I⟩),V E (ln a) m,YA (L ⟨w.heap.size+1,1,I⟩),V l (ln b) q,G F c,Yz O,M,M,M,M,M,M,M,M,d 0,d 1,d 2,d 3,d 4,d 5,d 6,d 7],[]⟩)
  (λw'=>Ext Y w') (PF (w.heap.size+1) (w.heap.size+1) (w.heap.size) f (V l (ln b) q) (V E (ln a) m) (aD (cJ (nW b a) (max (ln b) (ln a)+1)))) (λ_=>O) R (λ_ _ h k=>h.tr k) (λi v _ _ h k=>Al h k) (λ_ _ _ _ h=>YM) ?_ ?_ (λ_=>M) _ (Ext.dr Y))
 ·exact AE
 ·exact BC
def Ou(w:U)(c f:Bool)(a b:List Nat)(d e:Z)(i:bT w w.heap.size d a)(n:bT w w.heap.size e b)(j:Canon a)(k:Canon b)(g:ln a<=400000)(m:ln b<=400000):
  XY Xz 327 #[YE #[Yz c,d],YE #[Yz f,e]] w (zC w (sg c (val a)+sg f (val b))):=by
 by_cases l:c=f
 ·subst l;exact Kx w c a b d e i n j k g m
 ·by_cases o:val b<=val a
  ·exact PL w c f a b d e i n j k g m l o
  ·exact Qo w c f a b d e i n j k g m l D
end
section
open Kp
def mf(x y:Int):Int:=if x<y then -1 else if y<x then 1 else 0
def MV(l:List UInt8):num l=sg (Lib.hasPrefix l [45]) (ak (own l)):=by unfold num sg;rfl
def Qq{m c b:Bool}{l la lb:List Nat}{x y:Nat}{p q:Int}(i:Canon l)(e:sg m (val l)=sg c (val la)+sg (!b) (val lb))(j:val la=x)(o:val lb=y)(g:p=sg c x)(r:q=sg b y):
  mf p q=if((ln l:Int)==0)=Y then 0 else if m then -1 else 1:=by
 have n:(if((ln l:Int)==0)=Y then(0:Int) else if m then -1 else 1)=if ln l=0 then 0 else if m then -1 else 1:=by
  by_cases h:ln l=0<;>simp[h]
 rw[n];subst g r;rw[j,o] at e;have k:sg m (val l)=sg c x-sg b y:=by
  rw[e];unfold sg;cases b<;>simp <;>omega
 have d:=val_eq_zero i.trim;by_cases a:ln l=0
 ·have:l=[]:=List.length_eq_zero_iff.1 a;have f:=d.2 this;rw[XT a];unfold mf;rw[f] at k;have:sg m 0=0:=by unfold sg;cases m<;>rfl
  rw[XQ D,XQ D]
 ·have f:0<val l:=by
   rcases Nat.eq_zero_or_pos (val l) with h|h
   ·exact absurd (by rw[d.1 h];rfl) a
   ·exact h
  rw[XQ a];unfold mf;cases m
  ·have:sg O (val l)=val l:=rfl;rw[XQ D,XT D];rfl
  ·have:sg Y (val l)= -(val l:Int):=rfl;rw[XT D];rfl
def vE(a b:List UInt8)(w:U)(X:ln a<=100000)(Q:ln b<=100000)(s:18<ln a\/18<ln b)(h:dS a b=0):
  XY Xz 301 #[Yy (tx a),Yy (tx b)] w λe w'=>e=YC (YF #[G F (mf (num a) (num b)),G F 0])/\Ext w w':=by
 obtain⟨H,g⟩:=lh h;obtain⟨C,la⟩:=gO H;obtain⟨k,lb⟩:=gO g;have x:=dD C;have j:=dD k;have E:=A (jr a b w D D);rw[h] at E;have K2:=A (λW=>wI a b W s D D);have L:=A (λW=>mD W a x D);have K4:=A (λW=>mD W b j D);have aa:=A (MV a);have V:=A (MV b);have Z:=A la;have S:=A lb;clear h H g C k x j X Q s la lb;go_enter func301,ntmps301;go_wp2_with(first
  |(go_at_call 290;refine E.o.mono ?_;rintro e W1 ⟨rfl,P⟩)
  |(go_at_call 291;refine(K2.o _).mono ?_;rintro e W2 ⟨rfl,ac⟩)
  |(go_at_call 292;((with_reducible refine(K4.o _).mono ?_);rintro e c ⟨v4,l4,rfl,⟨g4,ah,rfl,ai,y⟩,q,d,f,n⟩;have K:=A y;have T:=A d;have R:=A f;have O:=A q;clear y d f q))
  |(go_at_call 292;((with_reducible refine(L.o _).mono ?_);rintro e W3 ⟨v3,N,rfl,⟨g3,ag,rfl,aj,z⟩,J,t,r,Y⟩;have u:=A z;have af:=A t;have ad:=A r;have M:=A J;clear z t r J))
  |(go_at_call 327;(refine(Ou _ _ _ N l4 _ _ (((u.o.sl u.o.lt).grow n).grow (gI c _ _)) ((K.o.sl K.o.lt).grow (gI c _ _)) M.o O.o (by have:=ad.o;have:=Z.o;omega) (by have:=R.o;have:=S.o;omega)).mono ?_);rintro e W5 ⟨m,v,l,rfl,i,B,I,ab⟩;obtain⟨A5,c5,rfl,q1,q2,_⟩:=id i;unfold Yk at q2;have ae:=A (Qq B I af.o T.o aa.o V.o);have o:=A ((Ext.tr (Ext.tr (Ext.tr P ac) Y) n).tr ((gI c _ _).tr ab));clear i B I))
 all_goals
  go_ret2;refine⟨?_,o.o.alloc o.o.size _⟩;rw[ae.o];simp[*]
def Mq(x y:Int):Lib.compareInt x y=mf x y:=by
 unfold Lib.compareInt mf;rcases Int.lt_trichotomy x y with h|h|h
 ·first|simp[h]|(rw[XT h,XT h])
 ·subst h;simp
 ·have:¬x<y:=D;simp[h,this]
def xj(x y:Int)(w:U):XY Xz 207 #[G F x,G F y] w λe w'=>e=YC (G F (mf x y))/\w'=w:=by
 rw[<-Mq];exact cmp_Compare_int x y w
def xL(a b:List UInt8)(w:U)(k:ln a<=100000)(i:ln b<=100000)(h:dS a b=0):
  XY Xz 301 #[Yy (tx a),Yy (tx b)] w λe w'=>e=YC (YF #[G F (mf (num a) (num b)),G F 0])/\Ext w w':=by
 by_cases j:18<ln a\/18<ln b
 ·exact vE a b w k i j h
 obtain⟨n,f⟩:=lh h;obtain⟨l,la⟩:=gO n;obtain⟨g,lb⟩:=gO f;have m:=A (jr a b w D D);rw[h] at m;have r:=A (λW=>o3 a b W D D l g);have d:=A (λW=>xj (num a) (num b) W);obtain⟨z,c⟩:=aa (mf (num a) (num b));rw[c];simp only[c] at d;clear h n f l g k i j la lb c;go_enter func301,ntmps301;go_wp2_with(first
  |(go_at_call 290;refine m.o.mono ?_;rintro e W1 ⟨rfl,o⟩)
  |(go_at_call 291;refine(r.o _).mono ?_;rintro e W2 ⟨rfl,q⟩)
  |(go_at_call 207;refine(d.o _).mono ?_;rintro e W3 ⟨rfl,rfl⟩))
 go_ret2;exact⟨H,Ext.tr o q⟩
end
section
open Kp
noncomputable def xO(a b:List UInt8):List UInt8×Int:=
 if ln a+ln b<=18 then(Lib.itoa (num a*num b),0) else re (Lib.hasPrefix a [45] !=Lib.hasPrefix b [45]) (cZ (ak (own a)*ak (own b)))
def yv{a:List UInt8}(b:aQ a=Y): -((10:Int)^ln a)<=num a/\num a<=(10:Int)^ln a:=by
 have h1:=lB (dD b);have h2:10^(own a).length<=10^ln a:=Nat.pow_le_pow_right YK (nl a);have c:((10^ln a:Nat):Int)=(10:Int)^ln a:=YL;rw[<-c];unfold num;split <;>omega
def jV{a b:List UInt8}(c:aQ a=Y)(d:aQ b=Y)(h:ln a+ln b<=18): -1000000000000000000<=num a*num b/\num a*num b<=1000000000000000000:=by
 have h1:=zA (yv c) (yv d);have h2:(10:Int)^ln a*(10:Int)^ln b<=1000000000000000000:=by
  rw[<-Int.pow_add];have:((10^(ln a+ln b):Nat):Int)<=((10^18:Nat):Int):=Int.ofNat_le.2 (Nat.pow_le_pow_right YK h);have e:((10^(ln a+ln b):Nat):Int)=(10:Int)^(ln a+ln b):=YL;rw[<-e];exact this
 omega
def LK(ae:Nat)(sa sb:Bool)(v1 v2:Z)(N:List Nat)(r:List UInt8×Int):Nat->Z->U->Prop
 |0,v,_=>v=YA (L ⟨ae,0,I⟩)
 |1,v,_=>v=Yz sa
 |2,v,_=>v=YA (L ⟨ae+1,0,I⟩)
 |3,v,_=>v=Yz sb
 |4,v,_=>v=Yz (sa !=sb)
 |5,v,_=>v=YA (L ⟨ae,1,I⟩)
 |6,v,_=>v=v1
 |7,v,_=>v=YA (L ⟨ae+1,1,I⟩)
 |8,v,_=>v=v2
 |9,v,w=>bT w w.heap.size v N/\Small N/\ln N<=1000
 |10,v,w=>∃u,v=YE #[Yz (sa !=sb),u]/\bT w w.heap.size u N/\Small N/\ln N<=1000
 |11,v,_=>v=YF #[Yy (tx r.1),G F r.2]
 |12,v,_=>v=Yy (tx r.1)
 |_,v,_=>v=G F r.2
theorem QO{sa sb:Bool}{v:Z}(h:LK ae sa sb v1 v2 N r i v w)(hx:Ext w w'):LK ae sa sb v1 v2 N r i v w':=by
 match i,h with
 |0,h|1,h|2,h|3,h|4,h|5,h|6,h|7,h|8,h|11,h|12,h=>exact h
 |9,h=>exact⟨bT.grow h.1 hx,h.2⟩
 |10,h=>obtain⟨u,e,hu,h2⟩:=h;exact⟨u,e,hu.grow hx,h2⟩
 |_+13,h=>exact h
def Ka(a b:List UInt8)(w:U)(ha:ln a<=100000)(hb:ln b<=100000)(aw:18<ln a+ln b)(h:dS a b=0)(ht:bE w):
  XY Xz 326 #[Yy (tx a),Yy (tx b)] w (jS w (xO a b)):=by
 obtain⟨ca,cb⟩:=lh h;obtain⟨fa,la⟩:=gO ca;obtain⟨fb,lb⟩:=gO cb;have da:=dD fa;have db:=dD fb;have K1:=A (jr a b w D D);rw[h] at K1;have z:=A (λW=>mD W a da D);have E:=A (λW=>mD W b db D);have aC:=A la;have aG:=A lb;have HT:=A ht;have HM:=A (show xO a b=re (Lib.hasPrefix a [45] !=Lib.hasPrefix b [45]) (cZ (ak (own a)*ak (own b))) by unfold xO;rw[XQ D]);have aN:YG ((ln a:Int)+(ln b:Int)<=18)=O:=YU;obtain⟨sa,K⟩:=aa (Lib.hasPrefix a [45]);obtain⟨sb,Q⟩:=aa (Lib.hasPrefix b [45]);rw[K,Q] at HM;unfold NQ at z E;simp only[K] at z;simp only[Q] at E;clear h ca cb fa fb da db aw la lb ht K Q;go_enter func326,ntmps326;go_wp2_with(first
  |(go_at_call 290;refine K1.o.mono ?_;rintro e W1 ⟨rfl,aF⟩)
  |(go_at_call 292;((with_reducible refine(E.o _).mono ?_);rintro e r ⟨v4,g,rfl,⟨m,j,rfl,aK,ae⟩,an,aj,Y,am⟩;have ah:=A ae;have aH:=A aj;have ax:=A Y;have au:=A an;clear ae aj Y an))
  |(go_at_call 292;((with_reducible refine(z.o _).mono ?_);rintro e W3 ⟨v3,f,rfl,⟨q,n,rfl,aL,aq⟩,af,ac,ab,aA⟩;have ap:=A aq;have aD:=A ac;have aI:=A ab;have aE:=A af;clear aq ac ab af)))
 have C:=A (Ext.tr (Ext.tr (Ext.tr aF aA) am) (gI r (.cells #[Yz sa,V (L ⟨q,0,I⟩) (ln f) n] 311) (.cells #[Yz sb,V (L ⟨m,0,I⟩) (ln g) j] 311)));have R1:=(ai.new r 311 [Yz sa,V (L ⟨q,0,I⟩) (ln f) n]).ext ((XI _ _).alloc (XE _) (.cells #[Yz sb,V (L ⟨m,0,I⟩) (ln g) j] 311));have T:=ai.new (r.alloc (.cells #[Yz sa,V (L ⟨q,0,I⟩) (ln f) n] 311)) 311 [Yz sb,V (L ⟨m,0,I⟩) (ln g) j];rw[Ya] at T;have S3:=((ap.o.sl ap.o.lt).grow am).grow (gI r (.cells #[Yz sa,V (L ⟨q,0,I⟩) (ln f) n] 311) (.cells #[Yz sb,V (L ⟨m,0,I⟩) (ln g) j] 311));have S4:=(ah.o.sl ah.o.lt).grow (gI r (.cells #[Yz sa,V (L ⟨q,0,I⟩) (ln f) n] 311) (.cells #[Yz sb,V (L ⟨m,0,I⟩) (ln g) j] 311));obtain⟨o,ao⟩:=aa ((r.alloc (.cells #[Yz sa,V (L ⟨q,0,I⟩) (ln f) n] 311)).alloc (.cells #[Yz sb,V (L ⟨m,0,I⟩) (ln g) j] 311));simp only[ao] at C R1 T S3 S4⊢;clear ao;have aP:ln f<=300:=by have:=aI.o;have:=aC.o;omega
 have aM:ln g<=300:=by have:=ax.o;have:=aG.o;omega
 have KT:=A (λ(W:U) (h:Ext o W)=>sL W f g _ _ (S3.grow h) (S4.grow h) aE.o.small au.o.small D D);have ar:=A (λ(W:U) (u:Z) (h:Ext o W) (J:bT W W.heap.size u (cZ (ak (own a)*ak (own b)))) (h1:Small (cZ (ak (own a)*ak (own b)))) (h2:(cZ (ak (own a)*ak (own b))).length<=1000)=>tL W (sa !=sb) _ u J h1 D (HT.o.below (C.o.tr h) (XE _)));refine wp_region_any R (cH 14 (λc=>⟨#[Yy (tx a),Yy (tx b),M,M,Yy ⟨#[]⟩,G F 0,G F 0,M,M,M,YA (L ⟨r.heap.size,0,I⟩),YA (L ⟨r.heap.size+1,0,I⟩),Yy (tx a),Yy (tx b),G F 0,G F 0,Yz O,M,Yy (tx a),G F (ln a:Int),Yy (tx b),G F (ln b:Int),G F ((ln a:Int)+(ln b:Int)),Yz O,M,M,M,M,M,M,M,M,M,M,M,M,Yy (tx a),YE #[Yz sa,V (L ⟨q,0,I⟩) (ln f) n],Yy (tx b),YE #[Yz sb,V (L ⟨m,0,I⟩) (ln g) j],c 0,c 1,c 2,c 3,c 4,c 5,c 6,c 7,c 8,c 9,c 10,c 11,c 12,c 13],[]⟩)
  (λw'=>Ext o w') (LK r.heap.size sa sb (V (L ⟨q,0,I⟩) (ln f) n) (V (L ⟨m,0,I⟩) (ln g) j) (cZ (ak (own a)*ak (own b))) (re (sa !=sb) (cZ (ak (own a)*ak (own b))))) (λ_=>O) R (λ_ _ h k=>h.tr k) (λi v _ _ h k=>QO h k) (λ_ _ _ _ h=>YM) ?step ?tail (λ_=>M) _ (Ext.dr o))
 case step=>
  intro i c w' hi s d;have N:=λi=>(R1.ext s).cell i
  have B:=λi=>(T.ext s).cell i
  rcases(show i=0\/i=1\/i=2\/i=3\/i=4\/i=5\/i=6\/i=7\/i=8\/i=9\/i=10\/i=11\/i=12\/i=13 by omega) with rfl|rfl|rfl|rfl|rfl|rfl|rfl|rfl|rfl|rfl|rfl|rfl|rfl|rfl<;>clear hi<;>refine XR rfl (λaQ hK=> ?_)
  ·exact a1k
  ·have d0:=d 0 R;simp only[LK] at d0;go_simp;exact hK _ _ ⟨Yz sa,by simp[d0],Ext.ah _,rfl,λh=>YM⟩
  ·exact a1k
  ·have d2:=d 2 R;simp only[LK] at d2;go_simp;exact hK _ _ ⟨Yz sb,by simp[d2],Ext.ah _,rfl,λh=>YM⟩
  ·have d1:=d 1 R;have d3:=d 3 R;simp only[LK] at d1 d3;go_simp;exact hK _ _ ⟨Yz (sa !=sb),by(simp[d1,d3];try(cases sa<;>cases sb<;>rfl)),Ext.ah _,H,λh=>YM⟩
  ·exact a1k
  ·have d5:=d 5 R;simp only[LK] at d5;go_simp;exact hK _ _ ⟨(V (L ⟨q,0,I⟩) (ln f) n),by simp[d5],Ext.ah _,rfl,λh=>YM⟩
  ·exact a1k
  ·have d7:=d 7 R;simp only[LK] at d7;go_simp;exact hK _ _ ⟨(V (L ⟨m,0,I⟩) (ln g) j),by simp[d7],Ext.ah _,rfl,λh=>YM⟩
  ·have d6:=d 6 R;have d8:=d 8 R;simp only[LK] at d6 d8;clear N B;go_simp;refine(KT.o _ s).mono ?_;rintro e W5 ⟨v,l,rfl,ho,hc,t,aO,P⟩;have S:cZ (ak (own a)*ak (own b))=l:=nf hc (by rw[t,aD.o,aH.o]);have J:bT W5 W5.heap.size v (cZ (ak (own a)*ak (own b))):=by rw[S];exact ho.sl
   exact hK _ _ ⟨v,by simp[d6,d8],P,⟨J,by rw[S];exact hc.small,by rw[S];omega⟩,λh=>YM⟩
  ·have d4:=d 4 R;obtain⟨y,ay,aJ⟩:=d 9 R;obtain⟨A9,c9,X,_,_,_⟩:=id y;simp only[LK] at d4;rw[X] at y;have D9:=A y;clear N B y;go_simp;exact hK _ _ ⟨YE #[Yz (sa !=sb),V A9 (cZ (ak (own a)*ak (own b))).length c9],by simp[d4,X],Ext.ah _,⟨_,rfl,D9.o,ay,aJ⟩,λh=>YM⟩
  ·obtain⟨u,aB,ad,az,av⟩:=d 10 R;have KR:=A (ar.o w' u s ad az av);clear N B ad;go_simp;refine KR.o.mono ?_;rintro e W6 ⟨rfl,P⟩;exact hK _ _ ⟨_,by simp[aB],P,rfl,λh=>YM⟩
  ·have x:=d 11 R;simp only[LK] at x;go_simp;exact hK _ _ ⟨Yy (tx (re (sa !=sb) (cZ (ak (own a)*ak (own b)))).1),by simp[x],Ext.ah _,rfl,λh=>YM⟩
  ·have x:=d 11 R;simp only[LK] at x;go_simp;exact hK _ _ ⟨G F (re (sa !=sb) (cZ (ak (own a)*ak (own b)))).2,by simp[x],Ext.ah _,rfl,λh=>YM⟩
 case tail=>
  intro c w' s t _;have al:=t 12 YK;have ag:=t 13 YK;simp only[LK] at al ag;clear t;simp only[List.drop_succ_cons,List.drop_zero];go_wp2;go_ret2;rw[HM.o];refine⟨?_,C.o.tr s⟩;simp[al,ag]
def Oy(a b:List UInt8)(w:U)(m:ln a<=100000)(k:ln b<=100000)(h:dS a b=0)(d:bE w):
  XY Xz 326 #[Yy (tx a),Yy (tx b)] w (jS w (xO a b)):=by
 by_cases l:ln a+ln b<=18
 ·obtain⟨r,g⟩:=lh h;obtain⟨f,la⟩:=gO r;obtain⟨c,lb⟩:=gO g;have q:=A (jr a b w D D);rw[h] at q;have s:=A (λW=>o3 a b W D D f c);have j:=A (show xO a b=(Lib.itoa (num a*num b),0) by unfold xO;rw[XT l]);have t:=A d;have n:=jV f c l;obtain⟨x,hx⟩:=aa (num a);obtain⟨y,hy⟩:=aa (num b);rw[hx,hy] at n j;simp only[hx,hy] at s;obtain⟨z,v⟩:=n;have w1:F.wrap (x*y)=x*y:=Yh _ D;have B:YG ((ln a:Int)+(ln b:Int)<=18)=Y:=Zo;clear h r g f c m k la lb d hx hy;go_enter func326,ntmps326;go_wp2_with(first
   |(go_at_call 290;refine q.o.mono ?_;rintro e W1 ⟨rfl,i⟩)
   |(go_at_call 291;refine(s.o _).mono ?_;rintro e W2 ⟨rfl,o⟩)
   |(go_at_call 170;refine(kg (x*y) _ D D (t.o.below (Ext.tr i o) (XE _))).mono ?_;rintro e W3 ⟨rfl,u⟩))
  go_ret2;rw[j.o];exact⟨H,Ext.tr (Ext.tr i o) u⟩
 ·exact Ka a b w m k D h d
end
section
open Kp
def ka(p:Nat->Bool):Nat->Int
 |0=> -1
 |n+1=>if ka p n= -1 then(if p n then(n:Int) else -1) else ka p n
theorem sO{p:Nat->Bool}(h:∀i,i<n->p i=O):ka p n= -1:=by
 induction n with
 |zero=>rfl
 |succ n a=>rw[ka,XT (a λi hi=>h i D),h n D];rfl
theorem AZ{p:Nat->Bool}(hk:k<n)(h:∀i,i<k->p i=O)(a:p k=Y):ka p n=(k:Int):=by
 induction n with
 |zero=>omega
 |succ n c=>
  rw[ka];by_cases b:k=n
  ·subst b;rw[XT (sO h),XT a]
  ·rw[c D,XQ D]
def OO(p:Nat->Bool)(n:Nat):YG (0<=ka p n)=cK p n:=by
 induction n with
 |zero=>rfl
 |succ n a=>
  rw[ka,cK,<-a];by_cases h:ka p n= -1
  ·rw[XT h,h];cases p n
   ·rfl
   ·show YG ((0:Int)<=(n:Int))=Y;rw[XX];omega
  ·rw[XQ h];have:∀m,ka p m= -1\/0<=ka p m:=by
    intro m
    induction m with
    |zero=>exact .inl H
    |succ m a=>
     rw[ka];by_cases b:ka p m= -1
     ·rw[XT b];cases p m
      ·exact .inl H
      ·exact .inr (by show(0:Int)<=(m:Int);omega)
     ·rw[XQ b];exact a
   have c:0<=ka p n:=(this n).resolve_left h;simp[c]
def WT(l:List Z):Nat->Z
 |1=>l.headD M
 |_=> YE l.toArray
def zk(g:Nat)(lb:Array Z)(k:Nat)(rows:List (List Z))(p:Nat->Bool)(w:U):Prop:=
 ∀(W:U) (i:Nat),i<ln rows->Ext w W->XY Xz g (#[WT (rows.getD i []) k]++lb) W λe w'=>e=YC (Yz (p i))/\Ext W w'
def Xt(w:U)(p:Nat->Bool)(n:Nat)(i:Z)(wr:U):Prop:=∃k:Nat,k<=n/\i=G F (k:Int)/\Ext w wr/\∀j,j<k->p j=O
def Qn{w wr:U}{b o:Nat}{v:Option Z}(a:Ext w wr)(c:b<w.heap.size)(h:w.cell? ⟨b,o,I⟩=v):wr.cell? ⟨b,o,I⟩=v:=(a.cell (p:=⟨b,o,I⟩) c).trans h
def QB(f k:Nat):Prop:=∀(w:U) (E:Option Ym) (ac n:Nat) (rows:List (List Z)),ln rows=n->bR k w w.heap.size E ac rows->dv k rows->∀(p:Nat->Bool) (g:Nat) (lb:Array Z),
  (∀args w,(callFunc g args).run Xz w= .ok (.enter g args) w)->zk g lb k rows p w->
  XY Xz f #[V E n ac,.func (.func g) #[] lb] w λe w'=>e=YC (G F (ka p n))/\Ext w w'
def TJ(f k:Nat):Prop:=∀(w:U) (E:Option Ym) (ac n:Nat) (rows:List (List Z)),ln rows=n->bR k w w.heap.size E ac rows->dv k rows->∀(p:Nat->Bool) (g:Nat) (lb:Array Z),
  (∀args w,(callFunc g args).run Xz w= .ok (.enter g args) w)->zk g lb k rows p w->
  XY Xz f #[V E n ac,.func (.func g) #[] lb] w λe w'=>e=YC (Yz (cK p n))/\Ext w w'
theorem uM(h:p:=by
  obtain⟨h1,h2,h3⟩:=d;rw[a] at h1 h3;unfold Yk at h2;have H3:=A h3;have HN:=A a;have HP:=A c;clear h3 a c;go_wp2;go_loopw [5,8] (λ_ i wr=>Xt w p n i wr) (λ_ i _=>((n:Int)-Yf i).toNat)
  case atStart=>exact⟨0,D,rfl,XI _ _,λj hj=>D⟩
  case round=>
   obtain⟨i,hi,rfl,hX,hall⟩:=hrel;have HX:=A hX;have HA:=A hall;clear hX hall;by_cases hlt:i<n
   ·obtain⟨b,off,rfl,hB,hcell0⟩:=H3.o D;have hcell:=λi hi j hj=>Qn HX.o hB (hcell0 i hi j hj)
    have hcall:=HP.o wr i (by rw[HN.o];exact hlt) HX.o;have hi':i<ln rows:=by rw[HN.o];exact hlt
    have hw1:=f _ (List.getElem_mem hi');obtain⟨row,hrow⟩:=aa (rows.getD i []);rw[show rows[i]=row by rw[<-hrow,XJ,XO hi'];rfl] at hw1;rw[hrow] at hcall
    try(have c0:=hcell i hlt 0 YK;rw[hrow,Yd] at c0)
    try(have c1:=hcell i hlt 1 YK;rw[hrow,Yd] at c1)
    try(have c2:=hcell i hlt 2 YK;rw[hrow,Yd] at c2)
    try(have c3:=hcell i hlt 3 YK;rw[hrow,Yd] at c3)
    try(have c4:=hcell i hlt 4 YK;rw[hrow,Yd] at c4)
    try(have c5:=hcell i hlt 5 YK;rw[hrow,Yd] at c5)
    try(have c6:=hcell i hlt 6 YK;rw[hrow,Yd] at c6)
    simp only[Nat.mul_one,Nat.add_zero] at c0;clear hcell hcell0 hrow hi';rcases row with _|⟨x0,_|⟨x1,_|⟨x2,_|⟨x3,_|⟨x4,_|⟨x5,_|⟨x6,_|⟨x7,r⟩⟩⟩⟩⟩⟩⟩⟩<;>first|(exfalso;simp only[List.length_cons,List.length_nil] at hw1;omega)|skip
    simp only[WT,List.headD_cons] at hcall;have HC:=A hcall;clear hcall hw1;cases hq:p i
    ·rw[hq] at HC;have HQ:=A hq;clear hq;go_wp2_with(go_at_fn g;refine HC.o.mono ?_;rintro e w' ⟨rfl,hb'⟩)
     refine⟨⟨i+1,D,YL,HX.o.tr hb',λj hj=> ?_⟩,YO⟩;by_cases hjk:j=i
     ·rw[hjk];exact HQ.o
     ·exact HA.o j D
    ·rw[hq] at HC;have HR:=A (AZ hlt HA.o hq);clear hq;go_wp2_with(go_at_fn g;refine HC.o.mono ?_;rintro e w' ⟨rfl,hb'⟩)
     go_ret;exact⟨YQ,HX.o.tr hb'⟩
   ·have hlt':YG ((i:Int)<(n:Int))=O:=YU;have HR:=A (sO (p:=p) (n:=n) (λj hj=>HA.o j D));go_wp2;go_ret;exact⟨YQ,HX.o⟩):p:=h
theorem wJ(h:p:=by
  have HR:=A (OO p n);clear d b c a;obtain⟨x,hx⟩:=aa (ka p n);rw[hx] at f HR;clear hx;go_wp2_with(refine f.o.mono ?_;rintro e w' ⟨rfl,hb'⟩)
  go_ret;exact⟨by rw[<-HR.o];rfl,hb'⟩):p:=h
def Bh:QB 181 7:=by
 intro w E ac n rows a d f p g lb k c;go_enter func181,ntmps181;exact uM
def Bn:TJ 111 7:=by
 intro w E ac n rows d b c p g lb i a;have f:=A (Bh w E ac n rows d b c p g lb i a);go_enter func111,ntmps111;exact wJ
def zJ:QB 184 1:=by
 intro w E ac n rows a d f p g lb k c;go_enter func184,ntmps184;exact uM
def AL:TJ 115 1:=by
 intro w E ac n rows d b c p g lb i a;have f:=A (zJ w E ac n rows d b c p g lb i a);go_enter func115,ntmps115;exact wJ
def Bq:QB 196 5:=by
 intro w E ac n rows a d f p g lb k c;go_enter func196,ntmps196;exact uM
def At:TJ 123 5:=by
 intro w E ac n rows d b c p g lb i a;have f:=A (Bq w E ac n rows d b c p g lb i a);go_enter func123,ntmps123;exact wJ
def zL:QB 137 3:=by
 intro w E ac n rows a d f p g lb k c;go_enter func137,ntmps137;exact uM
end
section
open Kp
def s8:(Xz.info? 36).map (λi=>(i.zero,i.size,i.bytes))=L (L (YE #[G F 0,G F 0,G F 0,G F 0,Yz O,G F 0,G F 0]),7,56):=R
def LO(n:Nat)(w:U)(l:n<=1000000):XY Xz 182 #[V I 0 0,G F (n:Int)] w λe w'=>∃v,e=YC v/\w'.ownsRow w.heap.size 36 7 v 0 []/\Ext w w':=by
 obtain⟨m,c,f,j,E⟩:=info_parts s8;by_cases k:0<n
 ·have b:=λty=>Lib.run_append_nil_zeros (P:=Xz) w 102 3 ty 36 m _ .i64 .i64 underlying102 underlying3 c f n k D D Z8
  have a:=A (U.ownsRow_made (base:=w.heap.size) (e:=36) (size:=7) w.drew (Builtin.zeroCells (Value.agg #[G F 0,G F 0,G F 0,G F 0,Yz O,G F 0,G F 0]).cells n++Builtin.zeroCells (Value.agg #[G F 0,G F 0,G F 0,G F 0,Yz O,G F 0,G F 0]).cells (grownCap w n 0 36-n)) (grownCap w n 0 36) (XE _) (grownCap_le_maxLen _ _ _ _ YR) (by
   have:=grownCap_ge w n 0 36;rw[Array.size_append,size_zeroCells,size_zeroCells,<-Nat.add_mul];have e:n+(grownCap w n 0 36-n)=grownCap w n 0 36:=D;rw[e];rfl))
  have d:=A (show Ext w (w.drew.alloc (.cells (Builtin.zeroCells (Value.agg #[G F 0,G F 0,G F 0,G F 0,Yz O,G F 0,G F 0]).cells n++Builtin.zeroCells (Value.agg #[G F 0,G F 0,G F 0,G F 0,Yz O,G F 0,G F 0]).cells (grownCap w n 0 36-n)) 36)) from((XI _ _).drew).alloc (XE _) _);obtain⟨W1,g⟩:=aa (w.drew.alloc (.cells (Builtin.zeroCells (Value.agg #[G F 0,G F 0,G F 0,G F 0,Yz O,G F 0,G F 0]).cells n++Builtin.zeroCells (Value.agg #[G F 0,G F 0,G F 0,G F 0,Yz O,G F 0,G F 0]).cells (grownCap w n 0 36-n)) 36));have q:=grownCap_ge w n 0 36;obtain⟨r,i⟩:=aa (grownCap w n 0 36);rw[i] at q;simp only[i] at a d g b;simp only[g] at a d b;have o:=A b;clear b c f j E i g;go_enter func182,ntmps182;go_wp2_with(at_builtin;refine Lib.wpList_append_run _ H _ _ _ _ H _ _ H H _ _ (o.o _) ?_)
  go_ret;exact⟨_,H,a.o,d.o⟩
 ·obtain rfl:n=0:=D;have a:=A (World.ownsRow_nil w w.heap.size 36 7);clear c f j E k l;go_enter func182,ntmps182;go_wp2;go_ret;exact⟨_,H,a.o,Ext.ah _⟩
theorem eQ{rs:List (List Sd)}(hk:k<ln rs):(rs.take (k+1)).flatten=(rs.take k).flatten++rs.getD k []:=by
 rw[List.take_succ_eq_append_getElem hk,List.flatten_append];simp[List.getD,XO hk]
def gx(rs:List (List Sd))(k:Nat):(rs.take k).flatten.length<=ln rs.flatten:=by
 have:rs.flatten=(rs.take k).flatten++(rs.drop k).flatten:=ZU;rw[this,Yc];omega
def Xc(w:U)(rs:List (List Sd))(v i:Z)(wr:U):Prop:=
 ∃k:Nat,k<=ln rs/\i=G F (k:Int)/\wr.ownsRow w.heap.size 36 7 v (rs.take k).flatten.length (aE (rs.take k).flatten).flatten/\Ext w wr
def Xl(rs:List (List Sd))(s i:Z):Prop:=∃k:Nat,k<=ln rs/\i=G F (k:Int)/\s=G F ((rs.take k).flatten.length:Int)
def tA(w:U)(E:Option Ym)(ac:Nat)(rs:List (List Sd))(x:gw w w.heap.size E ac rs)(ai:∀r∈rs,r≠[])(ah:ln rs.flatten<=1000):
  XY Xz 112 #[V E (ln rs) ac] w λe w'=>∃C F,e=YC (V C (ln rs.flatten) F)/\bR 7 w' w'.heap.size C F (aE rs.flatten)/\Ext w w':=by
 have h1:=x.1;have h2:=x.2.1;unfold Yk at h2;obtain⟨i0,J,R,W,P⟩:=info_parts s8;have I0:=A J;have I1:=A R;have I2:=A W;have I3:=A P;have K:=A x;clear x J R W P;go_enter func112,ntmps112;go_wp2
 go_loop [3,11] (λs i=>Xl rs s i) (λ_ i=>((ln rs:Int)-Yf i).toNat)
 case atStart=>exact⟨0,D,rfl,YL⟩
 case round=>
  obtain⟨k,hk,rfl,rfl⟩:=hrel;by_cases c:k<ln rs
  ·obtain⟨b,off,rfl,hB,l⟩:=K.o.2.2 D;obtain⟨T,Q,c1,j⟩:=l k c;have f:=eQ c;have y:=gx rs (k+1);have B:((rs.take (k+1)).flatten.length:Int)=((rs.take k).flatten.length:Int)+((rs.getD k []).length:Int):=by rw[f];simp
   obtain⟨m,g⟩:=aa ((rs.take k).flatten.length);obtain⟨d,o⟩:=aa ((rs.getD k []).length);rw[o] at c1;have hs:m+d<=1000:=by rw[g,o] at B;omega
   exact a1y
  ·obtain rfl:k=ln rs:=D;have L:(rs.take (ln rs)).flatten.length=ln rs.flatten:=by rw[List.take_length]
   rw[L];clear L;obtain⟨m,g⟩:=aa (ln rs.flatten);rw[g] at ah⊢;have t:=A g;clear g;go_wp2_with(go_at_call 182;refine(LO m _ D).mono ?_;rintro e W1 ⟨v,rfl,z,hx⟩;have HO:=A z;have HX:=A hx;clear z hx)
   go_loopw [6,27] (λv i wr=>Xc w rs v i wr) (λ_ i _=>((ln rs:Int)-Yf i).toNat)
   case atStart=>exact⟨0,D,rfl,by simpa using HO.o,HX.o⟩
   case round=>
    obtain⟨k,hk,rfl,M,X⟩:=hrel;have n:=A M;have a:=A X;clear M X;by_cases c:k<ln rs
    ·obtain⟨b,off,rfl,hB,l⟩:=(K.o.below a.o).2.2 D;obtain⟨T,Q,c1,j⟩:=l k c;have G:rs.getD k []≠[]:=by
      have e:rs.getD k []=rs[k]:=by rw[XJ,XO c];rfl
      rw[e];exact ai _ (List.getElem_mem c)
     have f:=eQ c;have y:=gx rs (k+1);obtain⟨ring,N⟩:=aa (rs.getD k []);rw[N] at c1 j G f;have aj:0<ln ring:=List.length_pos_iff.2 G;obtain⟨ba,oa,rfl,_,_⟩:=id (j.2.2 (by rw[XP];exact aj));have ae:=A (j.cells (dB ring) YK);have af:=A (show(aE ring).flatten.length=ln ring*7 by rw[bI (dB ring),XP]);have ak:(rs.take k).flatten.length+ln ring<=1000:=by rw[f,Yc] at y;rw[t.o] at y;omega
     have ag:=A (show∀u∈(aE ring).flatten,u.oneCell'=Y by
      intro u hu;obtain⟨r,x,O⟩:=List.mem_flatten.1 hu;obtain⟨s,_,rfl⟩:=List.mem_map.1 x;simp only[List.mem_cons,List.not_mem_nil,or_false] at O;rcases O with rfl|rfl|rfl|rfl|rfl|rfl|rfl<;>rfl)
     have HQ:=A f;have ab:=a.o.size;clear l j G f y N;go_wp2_with(at_builtin;(refine wpList_append_own _ H _ _ _ H w.heap.size 36 i0 _ 7 56 underlying102 I0.o I1.o I2.o I3.o H D _ _ _ H n.o ⟨ba,oa,I⟩ (ln ring) Q (aE ring).flatten H af.o ae.o ag.o YR D ab ?_);intro v' w' Z S al)
     exact a1x
    ·obtain rfl:k=ln rs:=D;have z:=n.o;rw[List.take_length] at z;obtain⟨C,F,rfl,j⟩:=bK z (by rw[XP]) (dB _);have HS:=A j;have ad:=t.o;clear z j;go_wp2;go_ret;exact⟨C,F,by rw[ad];rfl,HS.o,a.o⟩
end
section
open Kp
theorem Bx.grown(h:Bx w b t u){v:Z}(i:w.ownsRow base e s v n xs)(f:w.grownBy w' v.ownBlock)(d:t≠e):Bx w' b t u:=by
 refine(f.block b h.lt (λc=> ?_)).trans h;obtain⟨_,⟨rfl,_⟩|⟨g,ac,cur,rfl,_,a,_⟩⟩:=i
 ·cases c
 ·have j:b=g:=by simpa[Value.ownBlock] using c
  subst j;unfold Bx at h;exact a1A
theorem ai.grown(h:ai w b t l){v:Z}(i:w.ownsRow base e s v n xs)(f:w.grownBy w' v.ownBlock)(d:t≠e):ai w' b t l:=by
 refine(f.block b h.lt (λc=> ?_)).trans h;obtain⟨_,⟨rfl,_⟩|⟨g,ac,cur,rfl,_,a,_⟩⟩:=i
 ·cases c
 ·have j:b=g:=by simpa[Value.ownBlock] using c
  subst j;unfold ai at h;exact a1A
theorem nF{i j l:Nat}(h:w.ownsRow i e' l v' j ag){v:Z}(u:w.ownsRow base e s v n xs)(m:w.grownBy w' v.ownBlock)(x:e'≠e):w'.ownsRow i e' l v' j ag:=by
 obtain⟨a,b|⟨f,t,o,rfl,r,d,q⟩⟩:=h
 ·exact a06
 ·refine⟨a,.inr ⟨f,t,o,H,r,(m.block f (XV.1 d).1 (λk=> ?_)).trans d,q⟩⟩;obtain⟨_,⟨rfl,_⟩|⟨g,ac,cur,rfl,_,c,_⟩⟩:=u
  ·cases k
  ·have y:f=g:=by simpa[Value.ownBlock] using k
   subst y;rw[d] at c;injection c with c;injection c with _ h2 _
   exact x h2
theorem tP{v:Z}(h:w.ownsRow base e s v n xs)(d:w.grownBy w' v.ownBlock):KeepsOthers w w':=by
 refine⟨d.size,λb o c f=>(d.block b (XV.1 c).1 (λe'=> ?_)).trans c⟩;obtain⟨_,⟨rfl,_⟩|⟨g,ac,cur,rfl,_,a,_⟩⟩:=h
 ·cases e'
 ·have i:b=g:=by simpa[Value.ownBlock] using e'
  subst i;rw[c] at a;injection a with a;subst a;cases f
theorem tC{B:Nat}{a w w':U}{v:Z}(h:Yl B a w)(d:w.ownsRow base e s v n xs)(c:w.grownBy w' v.ownBlock)(f:B<=base)(b:B<=w.heap.size):Yl B a w':=
 h.grown c b (λk hk=>Ye f (aH d k hk).1)
theorem eF{v:Z}(h:w.ownsRow base e s v n xs):∃E m c,v=V E m c:=by
 exact a07
abbrev Ko(r i:Nat):List Z:=[G F (r:Int),G F (i:Int)]
abbrev mh(l:List (Nat×Nat×qf)):List (List Z):=l.map λx=>xz x.2.2
abbrev me(l:List (Nat×Nat×qf)):List (List Z):=l.map λx=>Ko x.1 x.2.1
def PQ(l:List (Nat×Nat×qf)):dv 4 (mh l):=bQ (f:=λx:Nat×Nat×qf=>xz x.2.2) (λ_=>rfl) l
def QJ(l:List (Nat×Nat×qf)):dv 2 (me l):=bQ (f:=λx:Nat×Nat×qf=>Ko x.1 x.2.1) (λ_=>rfl) l
def O4:(Xz.info? 224).map (λi=>(i.zero,i.size,i.bytes))=L (L (YE #[G F 0,G F 0,G F 0,G F 0]),4,32):=R
def G8:(Xz.info? 227).map (λi=>(i.zero,i.size,i.bytes))=L (L (YE #[G F 0,G F 0]),2,16):=R
structure SQ(b:Nat)(l:List (Nat×Nat×qf))(X ad:Z)(W:U):Prop where
 ba:Bx W b 221 X
 bp:Bx W (b+1) 222 ad
 a:W.ownsRow (b+2) 224 4 X (ln l) (mh l).flatten
 p:W.ownsRow (b+2) 227 2 ad (ln l) (me l).flatten
theorem SQ.stays{l:List (Nat×Nat×qf)}(h:SQ b l X ad W)(a:aI n0 W W'):SQ b l X ad W':=
 ⟨h.ba.stays a,h.bp.stays a,vZ h.a a,vZ h.p a⟩
theorem SQ.ext{l:List (Nat×Nat×qf)}(h:SQ b l X ad W)(hx:Ext W W'):SQ b l X ad W':=h.stays (hx.stays (n0:=0) (Nat.zero_le _))
structure Xq(w:U)(E:Option Ym)(ac:Nat)(rs:List (List Sd))(k:Nat)(W:U):Prop where
 ex:∃X ad,SQ w.heap.size (kx rs k) X ad W
 rg:gw W w.heap.size E ac rs
 low:Yl w.heap.size w W
structure VS(w:U)(it rb k:Nat)(a:List Deferred)(T:Option Ym)(Q:Nat)(l:List (Nat×Nat×qf))(ring:List Sd)(j:Nat)(W:U):Prop where
 ex:∃X ad,SQ w.heap.size (l++jG k ring j) X ad W
 r:Bx W rb 3 (G F (k:Int))
 it:Bx W it 102 (V T (ln ring) Q)
 sl:bR 7 W w.heap.size T Q (aE ring)
 mks:Mk w.heap.size a W
 low:Yl w.heap.size w W
theorem VS.stays{b:List Deferred}{l:List (Nat×Nat×qf)}{ring:List Sd}(h:VS w it rb k b T Q l ring j W)(d:∀c,PD c∈b->c<w1.heap.size)(a:aI w1.heap.size W W')(e:w.heap.size<=w1.heap.size):VS w it rb k b T Q l ring j W':=
 ⟨by obtain⟨X,ad,h⟩:=h.ex;exact⟨X,ad,h.stays a⟩,h.r.stays a,h.it.stays a,h.sl.stays (dB ring) a,h.mks.stays d a,h.low.trans (a.below.mono e)⟩
def WZ(X ad:Z)(k j:Nat)(ar rc:List Z):Nat->Z
 |0=>X
 |1=> YE ar.toArray
 |2=> YE rc.toArray
 |5=>ad
 |6=> G F (k:Int)
 |7=> G F (j:Int)
 |_=> YE (Ko k j).toArray
structure JG(b it rb ab:Nat)(k j:Nat)(T:Option Ym)(Q:Nat)(ring:List Sd)(B0:Nat)(o W2:U)(l:List (Nat×Nat×qf))(ar rc:List Z)(X ad:Z)(N:Nat->Bool)(c:Nat->Z)(w:U):Prop where
 ba:Bx w b 221 X
 bp:Bx w (b+1) 222 ad
 r:Bx w rb 3 (G F (k:Int))
 it:Bx w it 102 (V T (ln ring) Q)
 rar:ai w ab 215 ar
 low:Yl B0 o w
 keep:KeepsOthers W2 w
 v:∀i,i<11->N i=Y->i≠3->i≠4->i≠9->i≠10->c i=WZ X ad k j ar rc i
 s3:N 3=Y->N 4=O->∃g,c 3=V (L ⟨g,0,I⟩) 1 1/\ai w g 224 rc
 s9:N 9=Y->N 10=O->∃g,c 9=V (L ⟨g,0,I⟩) 1 1/\ai w g 227 (Ko k j)
 a:w.ownsRow (b+2) 224 4 (if N 4 then c 4 else X) (if N 4 then ln l+1 else ln l) (if N 4 then(mh l).flatten++rc else(mh l).flatten)
 p:w.ownsRow (b+2) 227 2 (if N 10 then c 10 else ad) (if N 10 then ln l+1 else ln l) (if N 10 then(me l).flatten++Ko k j else(me l).flatten)
theorem JG.sz{ring:List Sd}{l:List (Nat×Nat×qf)}{N:Nat->Bool}{a:Nat->Z}(h:JG b it rb ab k j T Q ring B0 o W2 l ar rc X ad N a w):b+2<=w.heap.size:=h.bp.lt
theorem JG.step{ring:List Sd}{l:List (Nat×Nat×qf)}{N:Nat->Bool}{d:Nat->Z}(h:JG b it rb ab k j T Q ring B0 o W2 l ar rc X ad N d w)
  (hx:Ext w w')(O:B0<=b){v:Z}(s:i≠4)(y:i≠10)(C:i≠3->i≠9->v=WZ X ad k j ar rc i)
  (A:i=3->∃g,v=V (L ⟨g,0,I⟩) 1 1/\ai w' g 224 rc)(G:i=9->∃g,v=V (L ⟨g,0,I⟩) 1 1/\ai w' g 227 (Ko k j)):
  JG b it rb ab k j T Q ring B0 o W2 l ar rc X ad (kn N i) (bN d i v) w':=by
 have f:=hx.stays (n0:=0) (Nat.zero_le _);have M:=h.sz;have t:kn N i 4=N 4:=by unfold kn;rw[XQ (Ne.symm s)]
 have u:kn N i 10=N 10:=by unfold kn;rw[XQ (Ne.symm y)]
 have J:bN d i v 4=d 4:=by unfold bN;rw[XQ (Ne.symm s)]
 have B:bN d i v 10=d 10:=by unfold bN;rw[XQ (Ne.symm y)]
 refine⟨h.ba.stays f,h.bp.stays f,h.r.stays f,h.it.stays f,h.rar.ext hx,h.low.trans (hx.mono D),h.keep.trans hx.keeps,λm E c z K r F=> ?_,λc x=> ?_,λc q=> ?_,?_,?_⟩
 ·by_cases a:m=i
  ·subst a;simp only[bN,XT];exact C z r
  ·simp only[kn,XQ a] at c;simp only[bN,XQ a];exact h.v m E c z K r F
 ·by_cases a:3=i
  ·subst a;simp only[bN,XT];exact A H
  ·simp only[kn,XQ a] at c;simp only[bN,XQ a];rw[t] at x;obtain⟨g,e,n⟩:=h.s3 c x;exact⟨g,e,n.ext hx⟩
 ·by_cases a:9=i
  ·subst a;simp only[bN,XT];exact G H
  ·simp only[kn,XQ a] at c;simp only[bN,XQ a];rw[u] at q;obtain⟨g,e,n⟩:=h.s9 c q;exact⟨g,e,n.ext hx⟩
 ·rw[t,J];exact bD h.a hx
 ·rw[u,B];exact bD h.p hx
theorem JG.VF{ring:List Sd}{l:List (Nat×Nat×qf)}{N:Nat->Bool}{i:Nat->Z}(h:JG b it rb ab k j T Q ring B0 o W2 l ar rc X ad N i w)
  (A:B0<=b)(u:N 4=O){v:Z}(x:w'.ownsRow (b+2) 224 4 v (ln l+1) ((mh l).flatten++rc))(c:w.grownBy w' X.ownBlock):
  JG b it rb ab k j T Q ring B0 o W2 l ar rc X ad (kn N 4) (bN i 4 v) w':=by
 have z:=h.sz;have a:=h.a;rw[u] at a;simp only[XQ (by decide:¬O=Y)] at a;refine⟨h.ba.grown a c YK,h.bp.grown a c YK,h.r.grown a c YK,h.it.grown a c YK,h.rar.grown a c YK,tC h.low a c D D,h.keep.trans (tP a c),λm q d y f r s=> ?_,λ_ d=> ?_,λd n=> ?_,?_,?_⟩
 ·simp only[kn,XQ f] at d;simp only[bN,XQ f];exact h.v m q d y f r s
 ·simp[kn] at d
 ·obtain⟨g,e,t⟩:=h.s9 (by simpa[kn] using d) (by simpa[kn] using n);exact⟨g,by simpa[bN] using e,t.grown a c YK⟩
 ·simpa[kn,bN] using x
 ·have:=nF h.p a c YK;simpa[kn,bN] using this
theorem JG.Tb{ring:List Sd}{l:List (Nat×Nat×qf)}{N:Nat->Bool}{i:Nat->Z}(h:JG b it rb ab k j T Q ring B0 o W2 l ar rc X ad N i w)
  (A:B0<=b)(t:N 10=O){v:Z}(x:w'.ownsRow (b+2) 227 2 v (ln l+1) ((me l).flatten++Ko k j))(c:w.grownBy w' ad.ownBlock):
  JG b it rb ab k j T Q ring B0 o W2 l ar rc X ad (kn N 10) (bN i 10 v) w':=by
 have z:=h.sz;have a:=h.p;rw[t] at a;simp only[XQ (by decide:¬O=Y)] at a;refine⟨h.ba.grown a c YK,h.bp.grown a c YK,h.r.grown a c YK,h.it.grown a c YK,h.rar.grown a c YK,tC h.low a c D D,h.keep.trans (tP a c),λm q d y u r f=> ?_,λd n=> ?_,λ_ d=> ?_,?_,?_⟩
 ·simp only[kn,XQ f] at d;simp only[bN,XQ f];exact h.v m q d y u r f
 ·obtain⟨g,e,s⟩:=h.s3 (by simpa[kn] using d) (by simpa[kn] using n);exact⟨g,by simpa[bN] using e,s.grown a c YK⟩
 ·simp[kn] at d
 ·have:=nF h.a a c YK;simpa[kn,bN] using this
 ·simpa[kn,bN] using x
def Dn(rs:List (List Sd))(n:Nat)(b:n<=ln rs):(kx rs n).length=(rs.take n).flatten.length:=by
 induction n with
 |zero=>rfl
 |succ n a=>
  rw[kx,Yc,a D,eQ D,Yc];unfold jG;rw[XP,List.length_range]
def Ll(k:Nat)(ring:List Sd)(j:Nat):(jG k ring j).length=j:=by unfold jG;rw[XP,List.length_range]
def Hb(k:Nat)(ring:List Sd)(j:Nat):jG k ring (j+1)=jG k ring j++[(k,j,kC ring j)]:=by
 unfold jG;rw[List.range_succ,List.map_append];rfl
theorem Mf{rs:List (List Sd)}(b:n<=ln rs){x:Nat×Nat×qf}(h:x∈kx rs n):x.1<ln rs/\x.2.1<(rs.getD x.1 []).length:=by
 induction n with
 |zero=>cases h
 |succ n a=>
  rw[kx] at h;rcases List.mem_append.1 h with h|h
  ·exact a D h
  ·unfold jG at h;obtain⟨i,hi,rfl⟩:=List.mem_map.1 h;exact⟨by show n<_;omega,List.mem_range.1 hi⟩
theorem yG{l:List (Nat×Nat×qf)}(hi:i<ln l):(mh l).getD i []=xz (l.getD i uj).2.2:=by
 exact a1l
theorem zv{l:List (Nat×Nat×qf)}(hi:i<ln l):(me l).getD i []=Ko (l.getD i uj).1 (l.getD i uj).2.1:=by
 exact a1l
end
section
open Kp
attribute [local go_sem] Oper.semAt_some
def mI(r:List Sd)(j:Nat):Bool:=cK (λi=> !(au r i).gable) j
def lr(rs:List (List Sd))(k:Nat):Bool:=cK (λm=>mI (rs.getD m []) (rs.getD m []).length) k
structure Xu(w:U)(E:Option Ym)(ac:Nat)(rs:List (List Sd))(k:Nat)(W:U):Prop where
 res:Bx W w.heap.size 4 (Yz O)
 sm:Bx W (w.heap.size+1) 4 (Yz (lr rs k))
 rg:gw W w.heap.size E ac rs
 low:Yl w.heap.size w W
 ok:∀j,j<k->cK (ug (rs.getD j [])) (rs.getD j []).length=O
structure Qg(w:U)(it:Nat)(a:List Deferred)(T:Option Ym)(Q:Nat)(ring:List Sd)(pv:Bool)(j:Nat)(W:U):Prop where
 res:Bx W w.heap.size 4 (Yz O)
 sm:Bx W (w.heap.size+1) 4 (Yz (pv||mI ring j))
 it:Bx W it 102 (V T (ln ring) Q)
 sl:bR 7 W w.heap.size T Q (aE ring)
 mks:Mk w.heap.size a W
 low:Yl w.heap.size w W
 ok:∀i,i<j->ug ring i=O
theorem Qg.stays{b:List Deferred}{ring:List Sd}(h:Qg w it b T Q ring pv j W)(d:∀c,PD c∈b->c<w1.heap.size)(a:aI w1.heap.size W W')(e:w.heap.size<=w1.heap.size):Qg w it b T Q ring pv j W':=
 ⟨h.res.stays a,h.sm.stays a,h.it.stays a,h.sl.stays (dB ring) a,h.mks.stays d a,h.low.trans (a.below.mono e),h.ok⟩
structure Ug(w:U)(a:List Deferred)(ring:List Sd)(c:Code)(j:Nat)(W:U):Prop where
 ret:c= .ret
 res:Bx W w.heap.size 4 (Yz O)
 mks:Mk w.heap.size a W
 low:Yl w.heap.size w W
 bad:ug ring j=Y
theorem Ug.stays{a:List Deferred}{ring:List Sd}{c:Code}(h:Ug w a ring c j W)(e:∀d,PD d∈a->d<w1.heap.size)(b:aI w1.heap.size W W')(f:w.heap.size<=w1.heap.size):Ug w a ring c j W':=
 ⟨h.ret,h.res.stays b,h.mks.stays e b,h.low.trans (b.below.mono f),h.bad⟩
theorem SI{c:List Deferred}{ring:List Sd}{v:Bool}(h:Qg w it c T Q ring pv j W2)(hx:Ext (W2.setCell ⟨w.heap.size+1,0,I⟩ (Yz v)) W3)(e:it≠w.heap.size+1):
  Bx W3 w.heap.size 4 (Yz O)/\Bx W3 (w.heap.size+1) 4 (Yz v)/\Bx W3 it 102 (V T (ln ring) Q)/\bR 7 W3 w.heap.size T Q (aE ring)/\Mk w.heap.size c W3/\Yl w.heap.size w W3/\KeepsOthers W2 W3:=by
 have f:Yl w.heap.size W2 (W2.setCell ⟨w.heap.size+1,0,I⟩ (Yz v)):=(XI _ _).setCell (p:=⟨w.heap.size+1,0,I⟩) YL _;have d:=h.low.size;have b:Yl w.heap.size W2 W3:=f.trans (hx.mono (by simpa[World.setCell] using d));have hk:KeepsOthers W2 W3:=(KeepsOthers.setCell _ _ _).trans hx.keeps;have a:=hx.stays (n0:=0) (Nat.zero_le _);exact⟨(h.res.eC YL _).stays a,(h.sm.put _).stays a,(h.it.eC (by simpa using e) _).stays a,h.sl.below b,h.mks.keeps hk,h.low.trans b,hk⟩
theorem Se{b:List Deferred}{ring:List Sd}{v:Bool}{a:Act}(h:Qg w it b T Q ring pv j W2)(hx:Ext (W2.setCell ⟨w.heap.size+1,0,I⟩ (Yz v)) W3)(d:it≠w.heap.size+1)(e:(pv||mI ring (j+1))=v)(g:ug ring j=O):
  mw (Qg w it b T Q ring pv) (Ug w b ring) j W2 .normal a W3:=by
 obtain⟨h1,h2,c,l,k,n,f⟩:=SI h hx d;refine⟨f,h1,by rw[e];exact h2,c,l,k,n,λi hi=> ?_⟩;by_cases m:i=j
 ·rw[m];exact g
 ·exact h.ok i D
theorem Qp{b:List Deferred}{ring:List Sd}{v:Bool}{a:Act}(h:Qg w it b T Q ring pv j W2)(hx:Ext (W2.setCell ⟨w.heap.size+1,0,I⟩ (Yz v)) W3)(c:it≠w.heap.size+1)(e:ug ring j=Y):
  mw (Qg w it b T Q ring pv) (Ug w b ring) j W2 .ret a (W3.setCell ⟨w.heap.size,0,I⟩ (Yz O)):=by
 obtain⟨h1,h2,i,k,f,g,d⟩:=SI h hx c;exact⟨d.trans (KeepsOthers.setCell _ _ _),H,h1.put _,f.keeps (KeepsOthers.setCell _ _ _),g.setCell (p:=⟨w.heap.size,0,I⟩) (XE _) _,e⟩
def D5 (w : U) (E : Option Ym) (ac : Nat) (rs : List (List Sd)) (hr : gw w w.heap.size E ac rs) (aq : Ea rs) :
    XY Xz 120 #[V E (ln rs) ac] w λe w' => e =YC (Yz (iK rs)) /\ Ext w w' := by
  have h1 := hr.1;have h2 := hr.2.1;unfold Yk at h2;have aR := aq.count;refine (callsIn_wide (n := 9)).1 (callsIn_of_wp_marks func120 H trivial ?_);simp only [ntmps120, List.size_toArray, List.length_cons, List.length_nil, Nat.reduceAdd, Nat.reduceSub, Array.replicate_succ, Array.replicate_zero, List.push_toArray, List.append_toArray, List.nil_append, List.cons_append]
  gi_wp2
  refine wpIn_loop (λa W => ∃ (u : Nat -> Z) (k : Nat) (y : List Deferred), k <= ln rs /\ a = ⟨#[V E (ln rs) ac, u 1, YA (L ⟨w.heap.size, 0, I⟩), YA (L ⟨w.heap.size + 1, 0, I⟩), u 4, u 5, u 6, u 7, V E (ln rs) ac, G F (ln rs : Int), G F (k : Int), u 11, u 12, u 13, u 14, u 15, u 16, u 17, u 18, u 19, u 20, u 21, u 22, u 23, u 24, u 25, u 26, u 27, u 28, u 29, u 30, u 31, u 32, u 33, u 34, u 35, u 36, u 37, u 38, u 39, u 40, u 41, u 42, u 43, u 44, u 45, u 46, u 47, u 48], y⟩ /\ Xu w E ac rs k W /\ Mk w.heap.size y W)
    (λa _ => ((ln rs : Int) - Yf (a.tmps.getD 10 M)).toNat) ?start ?round
  case start =>
    exact ⟨λ_ => M, 0, [], D, rfl, ⟨(Bx.at_ rfl).alloc _, Bx.at_ YL, hr.below (gI _ _ _), gI _ _ _, λj hj => D⟩, Mk.nil _ _⟩
  case round =>
    rintro a W ⟨u, k, y, hk, rfl, r, hM⟩;by_cases ao : k < ln rs
    · obtain ⟨b, off, rfl, hB, ay⟩ := r.rg.2.2 D
      obtain ⟨T, Q, az, av⟩ := ay k ao;obtain ⟨aB, X, aJ⟩ := aq.ring ao;obtain ⟨ring, aj⟩ : ∃ ring, rs.getD k [] = ring := ⟨_, H⟩;rw [aj] at az av aB X aJ;have ap := A aj;have q := A r;have S := A hM;clear aj ay r hM;gi_wp2_with (refine ⟨trivial, ?_⟩; gi_at_call 185; refine (callsIn_wide.2 (lg _ _ _ _)).mono ?_; rintro e w' ⟨rfl, rfl⟩)
      have aN := q.o.sm.lt;have z : ∀ B, PD B ∈ y -> B < (W.alloc (.cells #[V T (ln ring) Q] 102)).heap.size := λB P => by have := S.o.lt P; simp; omega
      have aa : w.heap.size <= (W.alloc (.cells #[V T (ln ring) Q] 102)).heap.size := Y7;refine iE (gf := 243) (lb := #[YA (L ⟨W.heap.size, 0, I⟩)]) H (enters_of func243 R H)
        (jY W.heap.size T Q ring D) (λk x e => by rw [e]; rfl)
        (Qg w W.heap.size y T Q ring (lr rs k)) (Ug w y ring) (λj d V' h hs => h.stays z hs aa) (λc j d V' h hs => h.stays z hs aa) (λj d h => vu h.it h.sl) ?start ?round ?done ?stop
      case start =>
        have hA : Ext W (W.alloc (.cells #[V T (ln ring) Q] 102)) := (XI _ _).alloc (XE _) _;exact ⟨q.o.res.alloc _, by rw [show (lr rs k || mI ring 0) = lr rs k by unfold mI cK; simp]; exact q.o.sm.alloc _, Bx.at_ H, av.below (hA.mono D), S.o.keeps hA.keeps, q.o.low.trans (hA.mono D), λi hi => D⟩
      case done =>
        intro B d P hi s;have aD := A (hi.mks.cons z P D s);have f := A hi;clear hi s
        gi_wp2
        refine ⟨⟨λi => match i with | 1 => _ | 4 => _ | 5 => _ | 6 => _ | 7 => _ | 11 => _ | 12 => _ | 13 => _ | 14 => _ | 15 => _ | 16 => _ | 17 => _ | 18 => _ | 19 => _ | 20 => _ | 21 => _ | 22 => _ | 23 => _ | 24 => _ | 25 => _ | 26 => _ | 27 => _ | 28 => _ | 29 => _ | 30 => _ | 31 => _ | 32 => _ | 33 => _ | 34 => _ | 35 => _ | 36 => _ | 37 => _ | 38 => _ | 39 => _ | 40 => _ | 41 => _ | 42 => _ | 43 => _ | 44 => _ | 45 => _ | 46 => _ | 47 => _ | _ => _, k + 1, _, D, rfl, ⟨f.o.res, ?_, ?_, f.o.low, ?_⟩, aD.o⟩, Zw⟩
        · have e : lr rs (k + 1) = (lr rs k || mI ring (ln ring)) := by unfold lr; rw [cK, ap.o]
          rw [e]; exact f.o.sm
        · exact hr.below f.o.low
        · intro j hj
          by_cases aL : j = k
          · rw [aL, ap.o]; exact bz f.o.ok
          · exact q.o.ok j D
      case stop =>
        rintro B c j d P hj ⟨rfl, aE, aA, aF, aK⟩ s;have HA := A (show iK rs = O by
          unfold iK;rw [dh ao (by rw [ap.o]; exact dh hj aK)]; rfl)
        gi_wp2
        refine (aA.cons z P D s).leaves (λW' C => ?_);have hb := (aE.stays C).cell;exact ⟨Yz O, by simp [results, results120, go_sem, hb], by rw [HA.o], aF.trans C.below⟩
      case round =>
        intro l j x d aM hj hx hi s;obtain rfl := hx;have HK := A s;have RA := A (ai.new d 215 (ko (fV ring j) (au ring j) (aS ring j)));have EA := A (show Ext d (d.alloc (.cells (ko (fV ring j) (au ring j) (aS ring j)).toArray 215)) from (XI _ _).alloc (XE _) _);have aG : (W.alloc (.cells #[V T (ln ring) Q] 102)).heap.size <= d.heap.size := by have := hi.it.lt; simp; omega
        have f := A hi;clear s hi;refine du (bA _ _) R ?_;go_wp2_with (refine wpList_store_row rfl 215 (.tmp 7) (.tmp 17) rfl d.heap.size (ko (fV ring j) (au ring j) (aS ring j)).toArray rfl rfl 215 _ (XZ _ _) R R R ?_; rw [gH _ _ _ _ rfl])
        refine dw (HK.o _ _ EA.o (λW2 ag aP => ?_));have ak := (f.o.stays z (EA.o.stays aG) aa).stays z ag aa;have R2 : ai W2 d.heap.size 215 (ko (fV ring j) (au ring j) (aS ring j)) := ag.cells _ _ _ _ RA.o;have aQ := f.o.it.lt;clear HK f EA RA ag;obtain ⟨an, ae⟩ := ku X ((j + ln ring - 1) % ln ring);obtain ⟨ar, aw⟩ := ku X j;obtain ⟨af, am⟩ := ku X ((j + 1) % ln ring);rw [<- jU] at af am;rw [<- Bg] at an ae;obtain ⟨own, J⟩ : ∃ o, au ring j = o := ⟨_, H⟩;obtain ⟨N, ad⟩ : ∃ o, aS ring j = o := ⟨_, H⟩;obtain ⟨m, ab⟩ : ∃ o, fV ring j = o := ⟨_, H⟩;have HO := A (show ug ring j = (!YG (0 < (own.x - m.x) * (N.y - own.y) - (own.y - m.y) * (N.x - own.x)) && (own.gable || m.gable || own.plate != m.plate)) by unfold ug Jc tj vC ma oT; rw [J, ad, ab]);have HS := A (show (lr rs k || mI ring (j + 1)) = ((lr rs k || mI ring j) || !own.gable) by unfold mI; rw [cK, J, Bool.or_assoc]);rw [J] at ar aw;rw [ad] at af am;rw [ab] at an ae;rw [J, ad, ab] at R2;rw [J, ad, ab];have I2 := A ak;obtain ⟨sv, al⟩ : ∃ sv, (lr rs k || mI ring j) = sv := ⟨_, H⟩;rw [al] at HS;have S2 := ak.sm;rw [al] at S2;have cS := S2.cell;have fS := S2.frozen;have cA := λi => R2.cell i
        have n1 : ¬ d.heap.size = w.heap.size + 1 := D;have n2 : ¬ w.heap.size + 1 = d.heap.size := D;have cl := A (λW => Jl m own N W an ae ar aw af am);obtain ⟨lf, ah⟩ : ∃ lf, YG (0 < (own.x - m.x) * (N.y - own.y) - (own.y - m.y) * (N.x - own.x)) = lf := ⟨_, H⟩;rw [ah] at HO;simp only [ah] at cl;clear ak al ah;obtain ⟨g, hg⟩ : ∃ g, own.gable = g := ⟨_, H⟩;obtain ⟨bg, aI⟩ : ∃ g, m.gable = g := ⟨_, H⟩;obtain ⟨pl, aH⟩ : ∃ g, (own.plate != m.plate) = g := ⟨_, H⟩;rw [hg, aI, aH] at HO;rw [hg] at HS;have RF := A (λv => R2.eC (p := ⟨w.heap.size + 1, 0, I⟩) n2 v);have ax : W.heap.size ≠ w.heap.size + 1 := D;cases lf <;> cases g <;> cases bg <;> cases pl <;> cases sv
        all_goals first
          | (have HP := A (show ug ring j = O by rw [HO.o]; rfl)
             gi_wp2_with (first
               | (refine cD (bA _ _) rfl 215 (.tmp 7) rfl d.heap.size rfl 215 _ (0, 0) _ (RF.o _) underlying215 rfl R ?_)
               | (refine ⟨trivial, ?_⟩; gi_at_call 193; refine (CallsIn.inRound l (callsIn_wide.2 (cl.o _))).mono ?_; rintro e W3 ⟨rfl, t⟩; have aC := λi => ((RF.o _).ext t).cell i; have K := (I2.o.res.eC (p := ⟨w.heap.size + 1, 0, I⟩) YL _).stays (t.stays (n0 := 0) (Nat.zero_le _)); have c0 := K.cell; have f0 := K.frozen))
             exact Se I2.o t ax HS.o HP.o)
          | (have HP := A (show ug ring j = Y by rw [HO.o]; rfl)
             gi_wp2_with (first
               | (refine cD (bA _ _) rfl 215 (.tmp 7) rfl d.heap.size rfl 215 _ (0, 0) _ (RF.o _) underlying215 rfl R ?_)
               | (refine ⟨trivial, ?_⟩; gi_at_call 193; refine (CallsIn.inRound l (callsIn_wide.2 (cl.o _))).mono ?_; rintro e W3 ⟨rfl, t⟩; have aC := λi => ((RF.o _).ext t).cell i; have K := (I2.o.res.eC (p := ⟨w.heap.size + 1, 0, I⟩) YL _).stays (t.stays (n0 := 0) (Nat.zero_le _)); have c0 := K.cell; have f0 := K.frozen))
             exact Qp I2.o t ax HP.o)
    · have aO : YG ((k : Int) < (ln rs : Int)) = O := by rw [XL]; omega
      have c1 := r.sm.cell;have c0 := r.res.cell;have f0 := r.res.frozen;have q := A r;have S := A hM;clear r hM;have HE := A (show iK rs = lr rs k by
        unfold iK;obtain rfl : k = ln rs := D;rw [bz q.o.ok]; rfl)
      gi_wp2
      refine (S.o.keeps (KeepsOthers.setCell _ _ _)).leaves (λW' C => ?_);have hb := ((q.o.res.put (Yz (lr rs k))).stays C).cell;exact ⟨Yz (lr rs k), by simp [results, results120, go_sem, hb], by rw [HE.o], (q.o.low.setCell (p := ⟨w.heap.size, 0, I⟩) (XE _) _).trans C.below⟩
end
section
open Kp
attribute [local go_sem] Oper.semAt_some
def AS (w : U) (E : Option Ym) (ac : Nat) (rs : List (List Sd)) (hr : gw w w.heap.size E ac rs) (ah : Ea rs) :
    XY Xz 118 #[V E (ln rs) ac] w λe w' => e =YC (Yz (fx rs)) /\ Ext w w' := by
  have h1 := hr.1;have h2 := hr.2.1;unfold Yk at h2;have cr := ah.count;refine (callsIn_wide (n := 9)).1 (callsIn_of_wp_marks func118 H trivial ?_);simp only [ntmps118, List.size_toArray, List.length_cons, List.length_nil, Nat.reduceAdd, Nat.reduceSub, Array.replicate_succ, Array.replicate_zero, List.push_toArray, List.append_toArray, List.nil_append, List.cons_append]
  gi_wp2
  refine wpIn_loop (λa W => ∃ (u : Nat -> Z) (k : Nat) (ds : List Deferred), k <= ln rs /\ a = ⟨#[V E (ln rs) ac, u 1, Yz O, YA (L ⟨w.heap.size, 0, I⟩), YA (L ⟨w.heap.size + 1, 0, I⟩), u 5, u 6, u 7, u 8, u 9, u 10, u 11, u 12, u 13, V E (ln rs) ac, G F (ln rs : Int), G F (k : Int), u 17, u 18, u 19, u 20, u 21, u 22, u 23, u 24, u 25, u 26, u 27, u 28, u 29, u 30, u 31, u 32, u 33, u 34, u 35, u 36, u 37, u 38, u 39, u 40, u 41, u 42, u 43, u 44, u 45, u 46, u 47, u 48, u 49, u 50, u 51, u 52, u 53, u 54, u 55, u 56, u 57, u 58, u 59, u 60, u 61, u 62, u 63, u 64, u 65, u 66, u 67, u 68, u 69, u 70, u 71, u 72, u 73, u 74, u 75, u 76, u 77, u 78, u 79, u 80, u 81, u 82, u 83, u 84, u 85, u 86, u 87, u 88, u 89, u 90, u 91, u 92, u 93, u 94, u 95, u 96, u 97, u 98, u 99, u 100, u 101], ds⟩ /\ Xq w E ac rs k W /\ Mk w.heap.size ds W)
    (λa _ => ((ln rs : Int) - Yf (a.tmps.getD 16 M)).toNat) ?start ?round
  case start =>
    exact ⟨λ_ => M, 0, [], D, rfl, ⟨⟨fg, fg, (Bx.at_ rfl).alloc _, Bx.at_ YL, World.ownsRow_nil _ _ _ _, World.ownsRow_nil _ _ _ _⟩, hr.below (gI _ _ _), gI _ _ _⟩, Mk.nil _ _⟩
  case round =>
    rintro a W ⟨u, k, ds, hk, rfl, hJ, hM⟩;by_cases bo : k < ln rs
    · obtain ⟨b, off, rfl, hB, aw⟩ := hJ.rg.2.2 D
      obtain ⟨T, Q, ax, bj⟩ := aw k bo;obtain ⟨bU, bF, cd⟩ := ah.ring bo;obtain ⟨ring, aK⟩ : ∃ ring, rs.getD k [] = ring := ⟨_, H⟩;rw [aK] at ax bj bU bF cd;have cf := A aK;have HJ := A hJ;have HM := A hM;clear aK aw hJ hM;gi_wp2_with (refine ⟨trivial, ?_⟩; gi_at_call 185; refine (callsIn_wide.2 (lg _ _ _ _)).mono ?_; rintro e w' ⟨rfl, rfl⟩)
      have aP := HJ.o.low.size;obtain ⟨X0, Y0, ab⟩ := HJ.o.ex;have ch := ab.bp.lt;obtain ⟨W1, aj⟩ : ∃ W1, (W.alloc (.cells #[G F (k : Int)] 3)).alloc (.cells #[V T (ln ring) Q] 102) = W1 := ⟨_, H⟩;have hA : Ext W W1 := by rw [<- aj]; exact gI _ _ _
      have cq : W1.heap.size = W.heap.size + 2 := by rw [<- aj]; simp
      have bW : Bx W1 W.heap.size 3 (G F (k : Int)) := by rw [<- aj]; exact (Bx.at_ H).alloc _
      have bQ : Bx W1 (W.heap.size + 1) 102 (V T (ln ring) Q) := by rw [<- aj]; exact Bx.at_ YL
      rw [aj];clear aj;have aD : ∀ am, PD am ∈ ds -> am < W1.heap.size := λam hD => by have := HM.o.lt hD; omega
      have aG : w.heap.size <= W1.heap.size := D;refine iE (gf := 243) (lb := #[YA (L ⟨W.heap.size + 1, 0, I⟩)]) H (enters_of func243 R H)
        (jY (W.heap.size + 1) T Q ring D) (λk x e => by rw [e]; rfl)
        (VS w (W.heap.size + 1) W.heap.size k ds T Q (kx rs k) ring) (λ_ _ _ => False) (λj s V' h hs => h.stays aD hs aG) (λc j s V' h hs => h) (λj s h => vu h.it h.sl) ?start ?round ?done ?stop
      case stop => intro am c j s hD y h; exact h.elim
      case start =>
        exact ⟨⟨X0, Y0, by rw [show jG k ring 0 = [] from rfl, List.append_nil]; exact ab.ext hA⟩, bW, bQ, bj.below (hA.mono D), HM.o.keeps hA.keeps, HJ.o.low.trans (hA.mono D)⟩
      case done =>
        intro am s hD hi f;have ap := A (hi.mks.cons aD hD D f);have HI := A hi;clear hi f
        gi_wp2
        refine ⟨⟨λi => match i with | 1 => _ | 5 => _ | 6 => _ | 7 => _ | 8 => _ | 9 => _ | 10 => _ | 11 => _ | 12 => _ | 13 => _ | 17 => _ | 18 => _ | 19 => _ | 20 => _ | 21 => _ | 22 => _ | 23 => _ | 24 => _ | 25 => _ | 26 => _ | 27 => _ | 28 => _ | 29 => _ | 30 => _ | 31 => _ | 32 => _ | 33 => _ | 34 => _ | 35 => _ | 36 => _ | 37 => _ | 38 => _ | 39 => _ | 40 => _ | 41 => _ | 42 => _ | 43 => _ | 44 => _ | 45 => _ | 46 => _ | 47 => _ | 48 => _ | 49 => _ | 50 => _ | 51 => _ | 52 => _ | 53 => _ | 54 => _ | 55 => _ | 56 => _ | 57 => _ | 58 => _ | 59 => _ | 60 => _ | 61 => _ | 62 => _ | 63 => _ | 64 => _ | 65 => _ | 66 => _ | 67 => _ | 68 => _ | 69 => _ | 70 => _ | 71 => _ | 72 => _ | 73 => _ | 74 => _ | 75 => _ | 76 => _ | 77 => _ | 78 => _ | 79 => _ | 80 => _ | 81 => _ | 82 => _ | 83 => _ | 84 => _ | 85 => _ | 86 => _ | 87 => _ | 88 => _ | 89 => _ | 90 => _ | 91 => _ | 92 => _ | 93 => _ | 94 => _ | 95 => _ | 96 => _ | 97 => _ | 98 => _ | 99 => _ | 100 => _ | _ => _, k + 1, _, D, rfl, ⟨?_, hr.below HI.o.low, HI.o.low⟩, ap.o⟩, Zw⟩;have e : kx rs (k + 1) = kx rs k ++ jG k ring (ln ring) := by rw [kx, cf.o]
        rw [e]; exact HI.o.ex
      case round =>
        intro l j x s ae y hx hi f;obtain rfl := hx;have HK := A f;have RA := A (ai.new s 215 (ko (fV ring j) (au ring j) (aS ring j)));have EA := A (show Ext s (s.alloc (.cells (ko (fV ring j) (au ring j) (aS ring j)).toArray 215)) from (XI _ _).alloc (XE _) _);have b6 : W1.heap.size <= s.heap.size := by have := hi.it.lt; omega
        have HI := A hi;clear f hi;refine wpIn_seq ?_;refine du (bA _ _) R ?_;go_wp2;refine dw ?_;show Code.wpIn _ _ _ _ _ _ _;refine du (bA _ _) R ?_;go_wp2_with (refine wpList_store_row rfl 215 (.tmp 8) (.tmp 24) rfl s.heap.size (ko (fV ring j) (au ring j) (aS ring j)).toArray rfl rfl 215 _ (XZ _ _) R R R ?_; rw [gH _ _ _ _ rfl])
        refine dw (HK.o _ _ EA.o (λW2 ay cm => ?_));have ao := (HI.o.stays aD (EA.o.stays b6) aG).stays aD ay aG;have R2 : ai W2 s.heap.size 215 (ko (fV ring j) (au ring j) (aS ring j)) := ay.cells _ _ _ _ RA.o;clear HK HI EA RA ay;obtain ⟨own, az⟩ : ∃ o, au ring j = o := ⟨_, H⟩;obtain ⟨t, aB⟩ : ∃ o, aS ring j = o := ⟨_, H⟩;obtain ⟨ag, aW⟩ : ∃ o, fV ring j = o := ⟨_, H⟩;have bl := A (show kC ring j = ⟨min own.x t.x, min own.y t.y, max own.x t.x, max own.y t.y⟩ by unfold kC; rw [az, aB]);rw [az, aB, aW] at R2;rw [az, aB, aW];clear az aB aW;obtain ⟨bx, aF⟩ : ∃ bx : qf, (⟨min own.x t.x, min own.y t.y, max own.x t.x, max own.y t.y⟩ : qf) = bx := ⟨_, H⟩;rw [aF] at bl;have aY := λW => LD ag own t W
        simp only [aF] at aY;have b1 := A aY;clear aF aY;obtain ⟨X, ad, an⟩ := ao.ex;have bv : JG w.heap.size (W.heap.size + 1) W.heap.size s.heap.size k j T Q ring w.heap.size W2 W2 (kx rs k ++ jG k ring j) (ko ag own t) (xz bx) X ad (λ_ => O) (λi => match i with | 0 => u 25 | 1 => u 26 | 2 => u 27 | 3 => u 28 | 4 => u 29 | 5 => u 30 | 6 => u 31 | 7 => u 32 | 8 => u 33 | 9 => u 34 | _ => u 35) W2.drew :=
          ⟨an.ba.drew, an.bp.drew, ao.r.drew, ao.it.drew, R2.drew, (XI _ _).drew, (Ext.dr W2).keeps, (λ_ _ h => YM), (λh => YM), (λh => YM), bD an.a (Ext.dr W2), bD an.p (Ext.dr W2)⟩
        have b8 : (kx rs k ++ jG k ring j).length <= 1000000 := by
          rw [Yc, Ll, Dn rs k D];have := gx rs k;have := ah.len;omega
        have aQ := A ao;have a7 := A bv;clear an ao bv R2;obtain ⟨z, a0⟩ : ∃ z, kx rs k ++ jG k ring j = z := ⟨_, H⟩;rw [a0] at a7 b8;have bE := A a0;clear a0;obtain ⟨ib, bg, a9, bm, ar⟩ := info_parts O4;obtain ⟨ip, bu, lL, qQ, bt⟩ := info_parts G8;have b4 := A bg;have bM := A a9;have bO := A bm;have bR := A ar;have cb := A bu;have bC := A lL;have bX := A qQ;have b9 := A bt;clear bg a9 bm ar bu lL qQ bt
        gi_wp2
        refine wpIn_region_any R (zV (bA _ _) R 11 (λr => ⟨#[V (L ⟨b, off, I⟩) (ln rs) ac, u 1, Yz O, YA (L ⟨w.heap.size, 0, I⟩), YA (L ⟨w.heap.size + 1, 0, I⟩), YA (L ⟨W.heap.size, 0, I⟩), V T (ln ring) Q, G F (j : Int), YA (L ⟨s.heap.size, 0, I⟩), u 9, u 10, u 11, u 12, u 13, V (L ⟨b, off, I⟩) (ln rs) ac, G F (ln rs : Int), G F (k : Int), Yz Y, G F (k : Int), YA (L ⟨b, off + k, I⟩), V T (ln ring) Q, V T (ln ring) Q, .func (.func 243) #[] #[YA (L ⟨W.heap.size + 1, 0, I⟩)], G F (j : Int), YE (ko ag own t).toArray, r 0, r 1, r 2, r 3, r 4, r 5, r 6, r 7, r 8, r 9, r 10, u 36, u 37, u 38, u 39, u 40, u 41, u 42, u 43, u 44, u 45, u 46, u 47, u 48, u 49, u 50, u 51, u 52, u 53, u 54, u 55, u 56, u 57, u 58, u 59, u 60, u 61, u 62, u 63, u 64, u 65, u 66, u 67, u 68, u 69, u 70, u 71, u 72, u 73, u 74, u 75, u 76, u 77, u 78, u 79, u 80, u 81, u 82, u 83, u 84, u 85, u 86, u 87, u 88, u 89, u 90, u 91, u 92, u 93, u 94, u 95, u 96, u 97, u 98, u 99, u 100, u 101], []⟩)
          (JG w.heap.size (W.heap.size + 1) W.heap.size s.heap.size k j T Q ring w.heap.size W2 W2 z (ko ag own t) (xz bx) X ad) R ?step ?tail (λi => match i with | 0 => u 25 | 1 => u 26 | 2 => u 27 | 3 => u 28 | 4 => u 29 | 5 => u 30 | 6 => u 31 | 7 => u 32 | 8 => u 33 | 9 => u 34 | _ => u 35) _ a7.o)
        case tail =>
          intro N r w3 hL d;have bq := hL 4 YK;have a8 := hL 10 YK;have v := d.a;have hp := d.p;rw [bq] at v;rw [a8] at hp;simp only [Yr] at v hp;have ca := d.ba.cell;have fa := d.ba.frozen;have cp := d.bp.cell;have fp := d.bp.frozen;have HG := A d;obtain ⟨A4, n4, q4, e4⟩ := eF v;obtain ⟨a2, aX, aL, bJ⟩ := eF hp;rw [e4] at v;rw [bJ] at hp;have HA := A v;have HP := A hp;clear d v hp hL bq a8;simp only [List.drop_succ_cons, List.drop_zero]
          gi_wp2
          have ba : Yl w.heap.size W2 w3 := HG.o.low;have cl := ba.size;have e1 : kx rs k ++ jG k ring (j + 1) = z ++ [(k, j, kC ring j)] := by rw [Hb, <- List.append_assoc, bE.o]
          have e2 : (mh (z ++ [(k, j, kC ring j)])).flatten = (mh z).flatten ++ xz bx := by
            unfold mh; rw [List.map_append, List.flatten_append, List.map_singleton, bl.o]; rfl
          have e3 : (me (z ++ [(k, j, kC ring j)])).flatten = (me z).flatten ++ Ko k j := by
            unfold me; rw [List.map_append, List.flatten_append, List.map_singleton]; rfl
          have bh := HG.o.keep.trans ((KeepsOthers.setCell w3 ⟨w.heap.size, 0, I⟩ (V A4 n4 q4)).trans (KeepsOthers.setCell _ ⟨w.heap.size + 1, 0, I⟩ (V a2 aX aL)));have ar : Yl w.heap.size W2 ((w3.setCell ⟨w.heap.size, 0, I⟩ (V A4 n4 q4)).setCell ⟨w.heap.size + 1, 0, I⟩ (V a2 aX aL)) := (ba.setCell (p := ⟨w.heap.size, 0, I⟩) (XE _) _).setCell (p := ⟨w.heap.size + 1, 0, I⟩) YL _;refine ⟨bh, ⟨V A4 n4 q4, V a2 aX aL, ?_⟩, (HG.o.r.eC Y7 _).eC Y7 _, (HG.o.it.eC Y7 _).eC Y7 _, aQ.o.sl.below ar, aQ.o.mks.keeps bh, aQ.o.low.trans ar⟩;rw [e1];refine ⟨(HG.o.ba.put _).eC YL _, (HG.o.bp.eC YL _).put _, ?_, ?_⟩
          · rw [e2, Yc]
            exact dF (dF HA.o (λh => by have := (aH HA.o _ h).1; dsimp only at this; omega) _) (λh => by have := (aH HA.o _ h).1; dsimp only at this; omega) _
          · rw [e3, Yc]
            exact dF (dF HP.o (λh => by have := (aH HP.o _ h).1; dsimp only at this; omega) _) (λh => by have := (aH HP.o _ h).1; dsimp only at this; omega) _
        case step =>
          intro i N r w3 hi ak d hd;have c0 := d.ba.cell;have c5 := d.bp.cell;have c6 := d.r.cell;rcases (show i = 0 \/ i = 1 \/ i = 2 \/ i = 3 \/ i = 4 \/ i = 5 \/ i = 6 \/ i = 7 \/ i = 8 \/ i = 9 \/ i = 10 by omega) with rfl | rfl | rfl | rfl | rfl | rfl | rfl | rfl | rfl | rfl | rfl <;> clear hi
          · refine XR H (λae f => ?_)
            go_simp;exact f _ _ ⟨X, H, d.step (Ext.ah _) (XE _) YK YK (λ_ _ => rfl) (λh => YM) (λh => YM)⟩
          · refine lC H H ?_
            exact wp_load_row 215 (.tmp 8) H s.heap.size H 215 (ko ag own t).toArray (0, 0) _ d.rar underlying215 H R ⟨YE (ko ag own t).toArray, H, d.step (Ext.ah _) (XE _) YK YK (λ_ _ => rfl) (λh => YM) (λh => YM)⟩
          · refine XR H (λae f => ?_)
            have d1 : r 1 =YE (ko ag own t).toArray := d.v 1 YK (hd 1 R) YK YK YK YK;go_simp;refine (b1.o _).mono ?_;rintro e W4 ⟨rfl, hX⟩;exact f _ _ ⟨YE (xz bx).toArray, by simp [d1, bN], d.step hX (XE _) YK YK (λ_ _ => rfl) (λh => YM) (λh => YM)⟩
          · refine XR H (λae f => ?_)
            have d2 : r 2 =YE (xz bx).toArray := d.v 2 YK (hd 2 R) YK YK YK YK;go_simp;exact f _ _ ⟨_, by simp [d2, bN], d.step ((XI _ _).alloc (XE _) _) (XE _) YK YK (λh => absurd rfl h) (λ_ => ⟨_, rfl, ai.new _ _ _⟩) (λh => YM)⟩
          · refine lC H H ?_
            have d0 : r 0 = X := d.v 0 YK (hd 0 R) YK YK YK YK;obtain ⟨g, e3, bY⟩ := d.s3 (hd 3 R) ak;have v := d.a;rw [ak] at v;simp only [XQ (by decide : ¬ O = Y)] at v;refine wp_append_own _ (.tmp 25) (.tmp 28) 221 H (w.heap.size + 2) 224 ib _ 4 32 underlying221 b4.o bM.o bO.o bR.o H D X (ln z) (mh z).flatten d0 v ⟨g, 0, I⟩ 1 1 (xz bx) e3 Zb (λj u y => by rw [Addr.add_lit, Nat.zero_add, bY.cell]; exact y) (by simp [Value.oneCell']) (by unfold Yk; omega) D d.sz ?_;intro v' w' aU a1 _;exact ⟨v', H, d.VF (XE _) ak aU a1⟩
          · refine XR H (λae f => ?_)
            go_simp;exact f _ _ ⟨ad, H, d.step (Ext.ah _) (XE _) YK YK (λ_ _ => rfl) (λh => YM) (λh => YM)⟩
          · refine XR H (λae f => ?_)
            go_simp;exact f _ _ ⟨G F (k : Int), H, d.step (Ext.ah _) (XE _) YK YK (λ_ _ => rfl) (λh => YM) (λh => YM)⟩
          · refine XR H (λae f => ?_)
            go_simp;exact f _ _ ⟨G F (j : Int), H, d.step (Ext.ah _) (XE _) YK YK (λ_ _ => rfl) (λh => YM) (λh => YM)⟩
          · refine XR H (λae f => ?_)
            have d6 : r 6 =G F (k : Int) := d.v 6 YK (hd 6 R) YK YK YK YK;have d7 : r 7 =G F (j : Int) := d.v 7 YK (hd 7 R) YK YK YK YK;go_simp;exact f _ _ ⟨YE (Ko k j).toArray, by simp [d6, d7, bN], d.step (Ext.ah _) (XE _) YK YK (λ_ _ => rfl) (λh => YM) (λh => YM)⟩
          · refine XR H (λae f => ?_)
            have d8 : r 8 =YE (Ko k j).toArray := d.v 8 YK (hd 8 R) YK YK YK YK;go_simp;exact f _ _ ⟨_, by simp [d8, bN], d.step ((XI _ _).alloc (XE _) _) (XE _) YK YK (λ_ h => absurd rfl h) (λh => YM) (λ_ => ⟨_, rfl, ai.new _ _ _⟩)⟩
          · refine lC H H ?_
            have d5 : r 5 = ad := d.v 5 YK (hd 5 R) YK YK YK YK;obtain ⟨g, e9, b0⟩ := d.s9 (hd 9 R) ak;have v := d.p;rw [ak] at v;simp only [XQ (by decide : ¬ O = Y)] at v;refine wp_append_own _ (.tmp 30) (.tmp 34) 222 H (w.heap.size + 2) 227 ip _ 2 16 underlying222 cb.o bC.o bX.o b9.o H D ad (ln z) (me z).flatten d5 v ⟨g, 0, I⟩ 1 1 (Ko k j) e9 Zb (λj' u y => by rw [Addr.add_lit, Nat.zero_add, b0.cell]; exact y) (by simp [Value.oneCell']) (by unfold Yk; omega) D d.sz ?_;intro v' w' aU a1 _;exact ⟨v', H, d.Tb (XE _) ak aU a1⟩
    · obtain rfl : k = ln rs := by omega
      have cj : YG ((ln rs : Int) < (ln rs : Int)) = O := by rw [XL]; omega
      obtain ⟨X, ad, ab⟩ := hJ.ex;obtain ⟨N, hL⟩ : ∃ N, kx rs (ln rs) = N := ⟨_, H⟩;rw [hL] at ab;have br : ∀ x ∈ N, x.1 < ln rs /\ x.2.1 < (rs.getD x.1 []).length := λx hx => Mf (XE _) (by rw [hL]; exact hx)
      have ci : ln N <= 24 := by
        rw [<- hL, Dn rs _ (XE _), List.take_length]; exact ah.len
      have bp := A (show fx rs = cK (λi => cK (λk => vB rs (N.getD i uj) (N.getD k uj)) i) (ln N) by unfold fx; rw [hL]);clear hL;obtain ⟨AX, cX, rfl, aA⟩ := bK ab.a (by rw [XP]) (PQ _);obtain ⟨AY, cY, rfl, aC⟩ := bK ab.p (by rw [XP]) (QJ _);have bS := aA.1;have aq := aA.2.1;have bZ := aC.1;have bG := aC.2.1;rw [XP] at bS bZ;unfold Yk at aq bG;have cn := ab.ba.cell;have HB := A ab;have b3 := A aA;have bL := A aC;have bs := A br;have HJ := A hJ;have HM := A hM;clear ab aA aC br hJ hM
      gi_wp2
      refine wpIn_wide.2 ?_;go_loopw [39] (λi wr => ∃ m : Nat, m <= ln N /\ i =G F (m : Int) /\ Ext W wr /\ ∀ j, j < m -> cK (λk => vB rs (N.getD j uj) (N.getD k uj)) j = O) (λi _ => ((ln N : Int) - Yf i).toNat)
      case atStart => exact ⟨0, D, rfl, XI _ _, λj y => D⟩
      case round =>
        obtain ⟨m, hm, rfl, hx, bc⟩ := hrel;have HX := A hx;have HA := A bc;clear hx bc;have aP := HJ.o.low.size;by_cases B : m < ln N
        · have bw : 0 < ln N := by omega
          go_wp2;go_loopw [43] (λq b2 => ∃ k : Nat, k <= m /\ q =G F (k : Int) /\ Ext W b2 /\ ∀ j, j < k -> vB rs (N.getD m uj) (N.getD j uj) = O) (λq _ => ((m : Int) - Yf q).toNat)
          case atStart => exact ⟨0, D, rfl, HX.o, λj y => D⟩
          case round =>
            obtain ⟨k, hk, rfl, bB, bd⟩ := hrel;have S := A bB;have bb := A bd;clear bB bd;by_cases bI : k < m
            · obtain ⟨P, oX, rfl, bn, aO⟩ := b3.o.2.2 (by rw [XP]; exact bw)
              obtain ⟨b5, oY, rfl, b7, aE⟩ := bL.o.2.2 (by rw [XP]; exact bw);rw [XP] at aO aE;have K : k < ln N := D;obtain ⟨⟨C, si, bi⟩, hi⟩ : ∃ x, N.getD m uj = x := ⟨_, H⟩;obtain ⟨⟨rk, sk, bk⟩, al⟩ : ∃ x, N.getD k uj = x := ⟨_, H⟩;have aZ := bs.o (N.getD m uj) (by rw [XJ, XO B]; exact List.getElem_mem B);have ap := bs.o (N.getD k uj) (by rw [XJ, XO K]; exact List.getElem_mem K);rw [hi] at aZ;rw [al] at ap;dsimp only at aZ ap;obtain ⟨aV, bH⟩ := aZ;obtain ⟨bT, ay⟩ := ap;have bP := (ah.ring aV).2.2;have co := (ah.ring bT).2.2;obtain ⟨b, off, rfl, hB, aw⟩ := hr.2.2 D;obtain ⟨T, Q, ax, _⟩ := aw C aV;have bf : wr.cell? ⟨b, off + C, I⟩ = L (V T (rs.getD C []).length Q) := (S.o.cell (p := ⟨b, off + C, I⟩) (by show b < W.heap.size; omega)).trans ((HJ.o.low.cell (p := ⟨b, off + C, I⟩) hB).trans ax);have HH := A (show vB rs (N.getD m uj) (N.getD k uj) = (!(C == rk && ((si : Int) - sk == 1 || (si : Int) - sk == ((rs.getD C []).length : Int) - 1)) && fT bi bk) by rw [hi, al]; rfl);obtain ⟨n, hn⟩ : ∃ n, (rs.getD C []).length = n := ⟨_, H⟩;rw [hn] at bP bH bf HH;have aa := A (λi (hi : i < ln N) j (y : j < 4) => (S.o.cell (p := ⟨P, oX + 4 * i + j, I⟩) bn).trans (aO i hi j y));have av := A (λi (hi : i < ln N) j (y : j < 2) => (S.o.cell (p := ⟨b5, oY + 2 * i + j, I⟩) b7).trans (aE i hi j y));have y0 := av.o m B 0 YK;have y1 := av.o m B 1 YK;have y2 := av.o k K 0 YK;have y3 := av.o k K 1 YK;rw [zv B, hi] at y0 y1;rw [zv K, al] at y2 y3;rw [Nat.add_zero, Yd] at y0 y2;rw [Yd] at y1 y3;have x0 := aa.o m B 0 YK;have x1 := aa.o m B 1 YK;have x2 := aa.o m B 2 YK;have x3 := aa.o m B 3 YK;have x4 := aa.o k K 0 YK;have x5 := aa.o k K 1 YK;have x6 := aa.o k K 2 YK;have x7 := aa.o k K 3 YK;rw [yG B, hi] at x0 x1 x2 x3;rw [yG K, al] at x4 x5 x6 x7;rw [Nat.add_zero, Yd] at x0 x4;rw [Yd] at x1 x2 x3 x5 x6 x7;dsimp only [xz, Ko] at x0 x1 x2 x3 x4 x5 x6 x7 y0 y1 y2 y3;have cp := (HB.o.bp.stays (S.o.stays (n0 := 0) (Nat.zero_le _))).cell;have ca := (HB.o.ba.stays (S.o.stays (n0 := 0) (Nat.zero_le _))).cell;have cg : C < ln rs := aV;clear aw ax aO aE hi al hn aa av;have aM := A (λW => F7 bi bk W);obtain ⟨mt, aT⟩ : ∃ mt, fT bi bk = mt := ⟨_, H⟩;simp only [aT] at aM;rw [aT] at HH;clear aT;obtain ⟨e1, aN⟩ : ∃ e1, (C == rk) = e1 := ⟨_, H⟩;have t1 : ((C : Int) == (rk : Int)) = e1 := by rw [<- aN, Bool.eq_iff_iff]; simp only [Yg]; omega
              obtain ⟨e2, t2⟩ : ∃ e2, ((si : Int) - (sk : Int) == 1) = e2 := ⟨_, H⟩;obtain ⟨e3, t3⟩ : ∃ e3, ((si : Int) - (sk : Int) == (n : Int) - 1) = e3 := ⟨_, H⟩;rw [aN, t2, t3] at HH;clear aN;have a4 := A (λ(h : vB rs (N.getD m uj) (N.getD k uj) = O) => (show ∀ j, j < k + 1 -> vB rs (N.getD m uj) (N.getD j uj) = O fromλj y => by
                by_cases a3 : j = k
                · rw [a3]; exact h
                · exact bb.o j D))
              have bV := A (λ(h : vB rs (N.getD m uj) (N.getD k uj) = Y) => (show fx rs = Y by
                rw [bp.o]; exact dh B (dh bI h)))
              have w1 : F.wrap ((si : Int) - (sk : Int)) = (si : Int) - (sk : Int) := Yh _ D;have w2 : F.wrap ((n : Int) - 1) = (n : Int) - 1 := Yh _ D;cases e1 <;> cases e2 <;> cases e3
              all_goals
                go_wp2;go_quiet (fail)
                go_wp2;go_quiet (fail)
                go_wp2
              all_goals first
                | (have HZ := A (show vB rs (N.getD m uj) (N.getD k uj) = mt by rw [HH.o]; rfl)
                   refine fR 11 R R (λW2 be => ?_);have J : Ext wr W2 := JD be;have aq := S.o.tr J;have a5 := A aq;have ck := (HB.o.ba.stays (aq.stays (n0 := 0) (Nat.zero_le _))).cell;have af : P < wr.heap.size := Nat.lt_of_lt_of_le bn S.o.size;have z0 := (J.cell (p := ⟨P, oX + m * 4, I⟩) af).trans x0;have z1 := (J.cell (p := ⟨P, oX + m * 4 + 1, I⟩) af).trans x1;have z2 := (J.cell (p := ⟨P, oX + m * 4 + 2, I⟩) af).trans x2;have z3 := (J.cell (p := ⟨P, oX + m * 4 + 3, I⟩) af).trans x3;have z4 := (J.cell (p := ⟨P, oX + k * 4, I⟩) af).trans x4;have z5 := (J.cell (p := ⟨P, oX + k * 4 + 1, I⟩) af).trans x5;have z6 := (J.cell (p := ⟨P, oX + k * 4 + 2, I⟩) af).trans x6;have z7 := (J.cell (p := ⟨P, oX + k * 4 + 3, I⟩) af).trans x7;clear J aq be x0 x1 x2 x3 x4 x5 x6 x7 y0 y1 y2 y3 cp ca bf;simp only [List.take_succ_cons, List.take_zero, List.drop_succ_cons, List.drop_zero]
                   repeat still_step
                   refine wpStill_nil ?_;cases mt
                   · have aI := A (a4.o HZ.o)
                     go_wp2_with (go_at_call 190; refine (aM.o _).mono ?_; rintro e W5 ⟨rfl, aR⟩)
                     exact ⟨⟨k + 1, D, YL, a5.o.tr aR, aI.o⟩, Zw⟩
                   · have cc := A (bV.o HZ.o)
                     go_wp2_with (go_at_call 190; refine (aM.o _).mono ?_; rintro e W5 ⟨rfl, aR⟩)
                     have a6 := a5.o.tr aR;refine (HM.o.keeps a6.keeps).leaves (λW' aJ => ?_);exact ⟨Yz Y, by simp [results, results118, go_sem], by rw [cc.o], (HJ.o.low.trans (a6.mono aP)).trans aJ.below⟩)
                | (have aI := A (a4.o (by rw [HH.o]; rfl))
                   go_quiet (fail)
                   go_wp2;exact ⟨⟨k + 1, D, YL, below_drewN S.o _, aI.o⟩, Zw⟩)
            · obtain rfl : k = m := by omega
              have ce : YG ((k : Int) < (k : Int)) = O := by rw [XL]; omega
              go_wp2;refine ⟨⟨k + 1, D, YL, S.o, λj y => ?_⟩, Zw⟩;by_cases a3 : j = k
              · rw [a3]; exact bz bb.o
              · exact HA.o j D
        · obtain rfl : m = ln N := by omega
          have ce : YG ((ln N : Int) < (ln N : Int)) = O := by rw [XL]; omega
          have HE := A (show fx rs = O by rw [bp.o]; exact bz HA.o);go_wp2
          gi_wp2
          refine (HM.o.keeps HX.o.keeps).leaves (λW' aJ => ?_);exact ⟨Yz O, by simp [results, results118, go_sem], by rw [HE.o], (HJ.o.low.trans (HX.o.mono aP)).trans aJ.below⟩
end
section
open Kp
theorem wR(l:List α)(d:α)(p:α->Bool):cK (λi=>p (l.getD i d)) (ln l)=l.any p:=by
 rw[Bool.eq_iff_iff,LX,List.any_eq_true];constructor
 ·rintro⟨i,hi,a⟩;refine⟨l[i],List.getElem_mem hi,?_⟩;rwa[XJ,XO hi] at a
 ·rintro⟨x,hx,a⟩;obtain⟨i,hi,rfl⟩:=List.mem_iff_getElem.1 hx;exact⟨i,hi,by rw[XJ,XO hi];exact a⟩
def EZ(s:Sd)(w:U):XY Xz 113 #[YE (nQ s).toArray] w λe w'=>e=YC (Yz (!aJ s))/\Ext w w':=by
 have d:=A (show Ext w (w.alloc (.cells (nQ s).toArray 36)) from(XI _ _).alloc (XE _) _);have c:=A (λW=>Dl s W);obtain⟨r,a⟩:=aa (aJ s);simp only[a] at c⊢;clear a;go_enter func113,ntmps113;go_wp2_with(go_at_call 114;refine(c.o _).mono ?_;rintro e W1 ⟨rfl,b⟩)
 go_ret;exact⟨H,d.o.tr b⟩
def Cg(w:U)(E:Option Ym)(ac:Nat)(r:List Sd)(g:bR 7 w w.heap.size E ac (aE r))(f:MF r)(a:ln r<=1000):
  XY Xz 116 #[V E (ln r) ac] w λe w'=>e=YC (Yz (!cz r))/\Ext w w':=by
 have c:=A (Cf w E ac r g f a);obtain⟨b,d⟩:=aa (cz r);obtain⟨n,a⟩:=aa (ln r);rw[d,a] at c;rw[d,a];clear d a g f;go_enter func116,ntmps116;go_wp2_with(go_at_call 117;refine c.o.mono ?_;rintro e W1 ⟨rfl,h⟩)
 go_ret;exact⟨H,h⟩
noncomputable def kp(w:U)(b off n:Nat):List (List Z):=(List.range n).map λi=>[(w.cell? ⟨b,off+i,I⟩).getD M]
theorem yD{b off n i:Nat}(hi:i<n):(kp w b off n).getD i []=[(w.cell? ⟨b,off+i,I⟩).getD M]:=by
 unfold kp;simp[List.getD,hi]
def R8(w:U)(b off n:Nat):dv 1 (kp w b off n):=bQ (f:=λi=>[(w.cell? ⟨b,off+i,I⟩).getD M]) (λ_=>rfl) _
theorem gw.rows{B b off ac:Nat}{rs:List (List Sd)}(h:gw w B (L ⟨b,off,I⟩) ac rs)(c:0<ln rs):bR 1 w B (L ⟨b,off,I⟩) ac (kp w b off (ln rs)):=by
 obtain⟨h1,h2,f⟩:=h;have a:(kp w b off (ln rs)).length=ln rs:=by unfold kp;simp
 refine⟨by rw[a];exact h1,h2,λ_=> ?_⟩;obtain⟨l,k,e,g,d⟩:=f c;obtain⟨rfl,rfl⟩:b=l/\off=k:=ZI;refine⟨b,off,H,g,λi hi j n=> ?_⟩;obtain rfl:j=0:=D;rw[a] at hi;obtain⟨T,Q,m,_⟩:=d i hi;rw[yD hi,Nat.one_mul,Nat.add_zero,m];rfl
theorem Qb{b off ac:Nat}{rs:List (List Sd)}(h:gw w w.heap.size (L ⟨b,off,I⟩) ac rs)(a:0<ln rs)(j:∀r∈rs,MF r)(q:ln rs.flatten<=24):
  zk 116 #[] 1 (kp w b off (ln rs)) (λi=> !cz (rs.getD i [])) w:=by
 intro W i hi hx;have f:(kp w b off (ln rs)).length=ln rs:=by unfold kp;simp
 rw[f] at hi;obtain⟨n,g,e,o,c⟩:=h.2.2 a;obtain⟨rfl,rfl⟩:b=n/\off=g:=ZI;obtain⟨T,Q,m,l⟩:=c i hi;have e:rs.getD i []=rs[i]:=by rw[XJ,XO hi];rfl
 have k:MF (rs.getD i []):=by rw[e];exact j _ (List.getElem_mem hi)
 have d:(rs.getD i []).length<=1000:=by
  rw[e];exact Ye (List.sublist_flatten_of_mem (List.getElem_mem hi)).length_le D
 rw[yD hi,m];exact Cg W T Q _ ((l.below hx).more hx.size) k d
def Rk(l:List Sd)(w:U):zk 113 #[] 7 (aE l) (λi=> !aJ (l.getD i Sw)) w:=by
 intro W i hi hx;rw[XP] at hi;rw[kJ hi];exact EZ _ W
def Xx(rs:List (List Sd))(s i:Z):Prop:=∃k:Nat,k<=ln rs/\i=G F (k:Int)/\s=G F ((rs.take k).flatten.length:Int)/\∀j,j<k->rs.getD j []≠[]
def wV(w:U)(E:Option Ym)(ac:Nat)(rs:List (List Sd))(v:gw w w.heap.size E ac rs)(aI:ln rs.flatten<=4000000000):
  XY Xz 49 #[YE #[V E (ln rs) ac]] w λe w'=>e=YC (G F (dL rs))/\Ext w w':=by
 have h1:=v.1;have h2:=v.2.1;unfold Yk at h2;have u:=A (show Ext w (w.alloc (.cells #[V E (ln rs) ac] 24)) from(XI _ _).alloc (XE _) _);have o:=A (Bx.new w 24 (V E (ln rs) ac));have Z0:=A (show w.heap.size<(w.alloc (.cells #[V E (ln rs) ac] 24)).heap.size by simp);have HR:=A ((v.below u.o).more (B':=(w.alloc (.cells #[V E (ln rs) ac] 24)).heap.size) YL);clear v;go_enter func49,ntmps49;go_wp2;obtain⟨a,au⟩:=aa (w.alloc (.cells #[V E (ln rs) ac] 24));simp only[au] at u o Z0 HR⊢;clear au;have c0:=o.o.cell
 go_loop [3,9] (λs i=>Xx rs s i) (λ_ i=>((ln rs:Int)-Yf i).toNat)
 case atStart=>exact⟨0,D,rfl,YL,λj hj=>D⟩
 case round=>
  obtain⟨k,hk,rfl,rfl,ay⟩:=hrel;have HA:=A ay;clear ay;by_cases ag:k<ln rs
  ·obtain⟨b,off,rfl,hB,aB⟩:=HR.o.2.2 D;obtain⟨T,Q,c1,aO⟩:=aB k ag;have hq:=eQ ag;have aH:=gx rs (k+1);have aj:((rs.take (k+1)).flatten.length:Int)=((rs.take k).flatten.length:Int)+((rs.getD k []).length:Int):=by rw[hq];simp
   obtain⟨m,C⟩:=aa ((rs.take k).flatten.length);obtain⟨d,hd⟩:=aa ((rs.getD k []).length);rw[hd] at c1;have hs:m+d<=4000000000:=by rw[C,hd] at aj;omega
   rw[C];have HQ:=A aj;have t:=A C;have HD:=A hd;clear aB aO hq aj C hd aH;by_cases h0:d=0
   ·have tz:((d:Int)==0)=Y:=by rw[h0];rfl
    have g:=A (show dL rs=5 by
     have:rs.any (·.isEmpty)=Y:=by
      rw[List.any_eq_true];refine⟨rs[k],List.getElem_mem ag,?_⟩;have hz:=HD.o;rw[h0,XJ,XO ag] at hz;rw[List.isEmpty_iff];exact List.length_eq_zero_iff.1 hz
     unfold dL;rw[this];rfl)
    clear h0;go_wp2;go_ret;exact⟨Y6,u.o⟩
   ·have tz:((d:Int)==0)=O:=Y4;have HN:=A (show rs.getD k []≠[] by intro e;have hz:=HD.o;rw[e] at hz;exact h0 hz.symm);clear h0;go_wp2
    go_round
    case rel=>exact⟨k+1,D,by go_num,by rw[HQ.o,t.o,HD.o],λj hj=>by
     by_cases aN:j=k
     ·rw[aN];exact HN.o
     ·exact HA.o j D⟩
    case measure=>simp[Yf];omega
  ·obtain rfl:k=ln rs:=D;have ht:(rs.take (ln rs)).flatten.length=ln rs.flatten:=by rw[List.take_length]
   rw[ht];clear ht;have ai:∀r∈rs,r≠[]:=by
    intro r v;obtain⟨i,hi,rfl⟩:=List.mem_iff_getElem.1 v;have:=HA.o i hi;rwa[XJ,XO hi] at this
   have av:rs.any (·.isEmpty)=O:=by
    rw[List.any_eq_false];intro r v;simpa[List.isEmpty_iff] using ai r v
   have aw:=A av;clear av HA;obtain⟨m,C⟩:=aa (ln rs.flatten);rw[C] at aI⊢;have t:=A C;clear C;by_cases S:rs=[]
   ·have ax:m=0:=by rw[<-t.o,S];rfl
    have tz:((m:Int)==0)=Y:=by rw[ax];rfl
    have g:=A (show dL rs=5 by unfold dL;rw[S];rfl);clear S ax;go_wp2;go_ret;exact⟨Y6,u.o⟩
   have ap:0<ln rs:=List.length_pos_iff.2 S;have aQ:0<m:=by
    rw[<-t.o];obtain⟨r,l,e⟩:=List.exists_cons_of_ne_nil S;have:=List.length_pos_iff.2 (ai r (by rw[e];simp));rw[e,List.flatten_cons,Yc];omega
   have tz:((m:Int)==0)=O:=Y4;have az:=A ai;have aA:=A (show rs.isEmpty=O by simpa[List.isEmpty_iff] using S);clear ai S;by_cases aD:24<m
   ·have g:=A (show dL rs=4 by unfold dL;rw[aw.o,aA.o,t.o,XQ YK,XT aD]);go_wp2;go_ret;exact⟨Y6,u.o⟩
   have g:=A (show dL rs=if rs.flatten.any (λs=> !aJ s) then 2 else if rs.any (λr=> !cz r) then 14 else if fx rs then 15 else if !gQ rs|| !iK rs then 14 else 0 by
    unfold dL;rw[aw.o,aA.o,t.o,XQ YK,XQ aD])
   obtain⟨b,off,rfl,hB,_⟩:=id (HR.o.2.2 ap);have af:=A (λ(W:U) (h:Ext a W)=>((HR.o.below h).more h.size:gw W W.heap.size (L ⟨b,off,I⟩) ac rs));have k1:=A (tA a (L ⟨b,off,I⟩) ac rs HR.o az.o (by rw[t.o];omega));have aG:=A (show(aE rs.flatten).length=m by rw[XP,t.o]);have N:=A (λ(W:U) (H:Option Ym) (P:Nat) (h:bR 7 W W.heap.size H P (aE rs.flatten))=>
    (Bn W H P m (aE rs.flatten) aG.o h (dB _) (λi=> !aJ (rs.flatten.getD i Sw)) 113 #[] (enters_of func113 R rfl) (Rk _ W)))
   have ad:cK (λi=> !aJ (rs.flatten.getD i Sw)) m=rs.flatten.any (λs=> !aJ s):=by rw[<-t.o];exact wR rs.flatten Sw (λs=> !aJ s)
   rw[t.o] at k1;cases B:rs.flatten.any (λs=> !aJ s)
   case true=>
    have f:=A (show dL rs=2 by rw[g.o,B];rfl);rw[B] at ad;simp only[ad] at N;clear ad B;go_wp2_with(first
     |(go_at_call 111;refine(N.o _ _ _ y.o).mono ?_;rintro e W2 ⟨rfl,z⟩)
     |(go_at_call 112;refine k1.o.mono ?_;rintro e W1 ⟨H,P,rfl,n,aM⟩;have y:=A n;clear n))
    go_ret;exact⟨Zf,(u.o.tr aM).tr z⟩
   rw[B] at ad;simp only[ad] at N;have ak:∀r∈rs,MF r:=by
    intro r v s hs;rw[List.any_eq_false] at B;have:=B s (List.mem_flatten.2 ⟨r,v,hs⟩);simp only[Bool.not_eq_true,Bool.not_eq_false'] at this;unfold aJ at this;simp only[Bool.and_eq_true,J,XX] at this;exact⟨this.1.1.1.2,this.1.1.2⟩
   have aF:=A (show dL rs=if rs.any (λr=> !cz r) then 14 else if fx rs then 15 else if !gQ rs|| !iK rs then 14 else 0 by rw[g.o,B];rfl);clear ad B;have aq:ln rs.flatten<=24:=by rw[t.o];omega
   have aC:Ea rs:=⟨az.o,ak,aq⟩;have al:=A aC;have aK:=A (λW=>show(kp W b off (ln rs)).length=ln rs by unfold kp;simp);have X:=A (λ(W:U) (h:Ext a W)=>
    (AL W (L ⟨b,off,I⟩) ac (ln rs) (kp W b off (ln rs)) (aK.o W) ((af.o W h).rows ap) (R8 _ _ _ _) (λi=> !cz (rs.getD i [])) 116 #[] (enters_of func116 R rfl) (Qb (af.o W h) ap ak aq)))
   have Z:cK (λi=> !cz (rs.getD i [])) (ln rs)=rs.any (λr=> !cz r):=wR rs [] (λr=> !cz r);clear ak aC aq;cases t2:rs.any (λr=> !cz r)
   case true=>
    have f:=A (show dL rs=14 by rw[aF.o,t2];rfl);rw[t2] at Z;simp only[Z] at X;clear Z t2;go_wp2_with(first
     |(go_at_call 115;refine(X.o _ c).mono ?_;rintro e W3 ⟨rfl,M⟩;have q:Ext a W3:=c.tr M)
     |(go_at_call 111;refine(N.o _ _ _ y.o).mono ?_;rintro e W2 ⟨rfl,z⟩;have c:Ext a W2:=K.tr z;have c2:=(o.o.stays (c.stays (n0:=0) (Nat.zero_le _))).cell)
     |(go_at_call 112;refine k1.o.mono ?_;rintro e W1 ⟨H,P,rfl,n,K⟩;have y:=A n;clear n))
    go_ret;exact⟨Zf,u.o.tr q⟩
   rw[t2] at Z;simp only[Z] at X;have ah:=A (show dL rs=if fx rs then 15 else if !gQ rs|| !iK rs then 14 else 0 by rw[aF.o,t2];rfl);clear Z t2;have k4:=A (λ(W:U) (h:Ext a W)=>AS W (L ⟨b,off,I⟩) ac rs (af.o W h) al.o);have k5:=A (λ(W:U) (h:Ext a W)=>Ep W (L ⟨b,off,I⟩) ac rs (af.o W h) al.o);have k6:=A (λ(W:U) (h:Ext a W)=>D5 W (L ⟨b,off,I⟩) ac rs (af.o W h) al.o);obtain⟨x4,am⟩:=aa (fx rs);obtain⟨x5,ar⟩:=aa (gQ rs);obtain⟨x6,an⟩:=aa (iK rs);simp only[am] at k4;simp only[ar] at k5;simp only[an] at k6;rw[am,ar,an] at ah;clear am ar an;cases x4
   case true=>
    have f:=A (show dL rs=15 by rw[ah.o];rfl);go_wp2_with(first
     |(go_at_call 118;refine(k4.o _ q).mono ?_;rintro e W4 ⟨rfl,ae⟩;have x:Ext a W4:=q.tr ae;have c4:=(o.o.stays (x.stays (n0:=0) (Nat.zero_le _))).cell)
     |(go_at_call 115;refine(X.o _ c).mono ?_;rintro e W3 ⟨rfl,M⟩;have q:Ext a W3:=c.tr M;have c3:=(o.o.stays (q.stays (n0:=0) (Nat.zero_le _))).cell)
     |(go_at_call 111;refine(N.o _ _ _ y.o).mono ?_;rintro e W2 ⟨rfl,z⟩;have c:Ext a W2:=K.tr z;have c2:=(o.o.stays (c.stays (n0:=0) (Nat.zero_le _))).cell)
     |(go_at_call 112;refine k1.o.mono ?_;rintro e W1 ⟨H,P,rfl,n,K⟩;have y:=A n;clear n))
    go_ret;exact⟨Zf,u.o.tr x⟩
   cases x5
   case false=>
    have f:=A (show dL rs=14 by rw[ah.o];rfl);go_wp2_with(first
     |(go_at_call 119;refine(k5.o _ x).mono ?_;rintro e W5 ⟨rfl,ao⟩;have ab:Ext a W5:=x.tr ao;have c5:=(o.o.stays (ab.stays (n0:=0) (Nat.zero_le _))).cell)
     |(go_at_call 118;refine(k4.o _ q).mono ?_;rintro e W4 ⟨rfl,ae⟩;have x:Ext a W4:=q.tr ae;have c4:=(o.o.stays (x.stays (n0:=0) (Nat.zero_le _))).cell)
     |(go_at_call 115;refine(X.o _ c).mono ?_;rintro e W3 ⟨rfl,M⟩;have q:Ext a W3:=c.tr M;have c3:=(o.o.stays (q.stays (n0:=0) (Nat.zero_le _))).cell)
     |(go_at_call 111;refine(N.o _ _ _ y.o).mono ?_;rintro e W2 ⟨rfl,z⟩;have c:Ext a W2:=K.tr z;have c2:=(o.o.stays (c.stays (n0:=0) (Nat.zero_le _))).cell)
     |(go_at_call 112;refine k1.o.mono ?_;rintro e W1 ⟨H,P,rfl,n,K⟩;have y:=A n;clear n))
    go_ret;exact⟨Zf,u.o.tr ab⟩
   cases x6;all_goals
    go_wp2_with(first
     |(go_at_call 120;refine(k6.o _ ab).mono ?_;rintro e W6 ⟨rfl,aL⟩;have aP:Ext a W6:=ab.tr aL)
     |(go_at_call 119;refine(k5.o _ x).mono ?_;rintro e W5 ⟨rfl,ao⟩;have ab:Ext a W5:=x.tr ao;have c5:=(o.o.stays (ab.stays (n0:=0) (Nat.zero_le _))).cell)
     |(go_at_call 118;refine(k4.o _ q).mono ?_;rintro e W4 ⟨rfl,ae⟩;have x:Ext a W4:=q.tr ae;have c4:=(o.o.stays (x.stays (n0:=0) (Nat.zero_le _))).cell)
     |(go_at_call 115;refine(X.o _ c).mono ?_;rintro e W3 ⟨rfl,M⟩;have q:Ext a W3:=c.tr M;have c3:=(o.o.stays (q.stays (n0:=0) (Nat.zero_le _))).cell)
     |(go_at_call 111;refine(N.o _ _ _ y.o).mono ?_;rintro e W2 ⟨rfl,z⟩;have c:Ext a W2:=K.tr z;have c2:=(o.o.stays (c.stays (n0:=0) (Nat.zero_le _))).cell)
     |(go_at_call 112;refine k1.o.mono ?_;rintro e W1 ⟨H,P,rfl,n,K⟩;have y:=A n;clear n))
    go_ret;exact⟨by rw[ah.o];rfl,u.o.tr aP⟩
def FT(w:U)(E:Option Ym)(ac:Nat)(rs:List (List Sd))(i:gw w w.heap.size E ac rs)(B:ln rs.flatten<=4000000000):
  XY Xz 122 #[YE #[V E (ln rs) ac]] w λe w'=>∃k n s x,e=YC (YF #[V k n s,G F x])/\(dL rs=0->n=ln rs.flatten/\x=0/\bR 7 w' w'.heap.size k s (aE rs.flatten))/\(dL rs≠0->x=1)/\Ext w w':=by
 have f:=A (show Ext w (w.alloc (.cells #[V E (ln rs) ac] 24)) from(XI _ _).alloc (XE _) _);have C:=A (Bx.new w 24 (V E (ln rs) ac));have o:=A ((i.below f.o).more (B':=(w.alloc (.cells #[V E (ln rs) ac] 24)).heap.size) YL);clear i;obtain⟨u,b⟩:=aa (w.alloc (.cells #[V E (ln rs) ac] 24));have g:=A (wV u E ac rs (by rw[<-b];exact o.o) B);rw[b] at f C o;by_cases a:dL rs=0
 ·have y:∀r∈rs,r≠[]:=by
   intro r i e;have:rs.any (·.isEmpty)=Y:=List.any_eq_true.2 ⟨r,i,Z4⟩;unfold dL at a;rw[this] at a;simp at a
  have v:ln rs.flatten<=1000:=by
   unfold dL at a;by_cases L:24<ln rs.flatten
   ·rw[XT L] at a;split at a<;>simp at a
   ·omega
  have t:=A (λ(W:U) (h:Ext u W)=>tA W E ac rs ((o.o.below h).more h.size) y v);have q:=A a;rw[a] at g;obtain⟨m,j⟩:=aa (ln rs.flatten);rw[j] at t;have I:=A j;clear a y v B j;have l:=A b;clear b;go_enter func122,ntmps122;go_wp2_with(first
   |(go_at_call 112;refine(t.o _ d).mono ?_;rintro e W2 ⟨k,s,rfl,D,K⟩;have J:=A D;clear D)
   |(go_at_call 49;rw[l.o];refine g.o.mono ?_;rintro e W1 ⟨rfl,d⟩;have c1:=(C.o.stays (d.stays (n0:=0) (Nat.zero_le _))).cell))
  go_ret2;exact⟨_,_,_,_,H,λ_=>⟨I.o.symm,rfl,J.o⟩,λh=>absurd q.o h,(f.o.tr d).tr K⟩
 ·have q:=A a;obtain⟨c,z⟩:=aa (dL rs);rw[z] at g a;have M:(c !=0)=Y:=by rw[Yn];exact a
  have l:=A b;clear b z a;go_enter func122,ntmps122;go_wp2_with(go_at_call 49;rw[l.o];refine g.o.mono ?_;rintro e W1 ⟨rfl,d⟩)
  go_ret2;exact⟨_,_,_,_,H,λh=>absurd h q.o,λ_=>rfl,f.o.tr d⟩
end
section
open Kp
def jA(rows:List (List Z)):Prop:=∀r∈rows,∀u∈r,u.oneCell'=Y
def jA.flat{rows:List (List Z)}(h:jA rows):∀u∈rows.flatten,u.oneCell'=Y:=by
 intro u hu;obtain⟨r,b,a⟩:=List.mem_flatten.1 hu;exact h r b u a
theorem bR.L8{B ac:Nat}{rows:List (List Z)}(h:bR k w B I ac rows):rows=[]:=by
 cases rows with
 |nil=>rfl
 |cons r l=>
  obtain⟨b,off,e,_⟩:=h.2.2 YL;cases e
theorem bR.G2{B:Nat}{p:Ym}{rows:List (List Z)}(h:bR k w B (L p) ac rows)(c:dv k rows)(hk:0<k):
  ∀j u,rows.flatten[j]?=L u->w.cell? (p.add j)=L u:=by
 intro j u a;have d:0<ln rows:=by
  cases rows with
  |nil=>simp at a
  |cons=>simp
 obtain⟨b,off,e,_⟩:=id (h.2.2 d);cases e;exact h.cells c hk j u a
def Tx(f:FuncId)(t:Yj)(k:Nat):Prop:=∀(w:U) (E:Option Ym) (ac:Nat) (rows:List (List Z)),bR k w w.heap.size E ac rows->dv k rows->jA rows->ln rows<=1000000->
  XY Xz f #[V E (ln rows) ac] w λe w'=>∃v,e=YC v/\w'.ownsRow w.heap.size t k v (ln rows) rows.flatten/\Ext w w'
theorem nG(h:p:=by
  have q:=λ(w:U) (a:Option Ym) (n c n' c':Nat)=>Lib.run_eql_slice_nil w _ _ a n c n' c' f
  cases E with
  |none=>
   have:=e.L8;subst this;clear e d h1 l;go_wp2;go_ret;exact⟨_,H,⟨H,.inl ⟨H,H⟩⟩,Ext.ah _⟩
  |some p=>
   have hnews:=A (e.G2 d YK);have hfl:=A (bI d);have hone:=A h1.flat;clear e d h1;go_wp2_with(at_builtin;refine wpList_append_own _ H _ _ _ H w.heap.size _ m _ _ _ f hi i k g H YK _ _ _ H (U.ownsRow_made w #[] 0 (XE _) (Nat.zero_le _) H) p (ln rows) ac rows.flatten H hfl.o ?qc2 hone.o ?qc4 ?qc5 ?qc6 ?_)
   case qc2=>
    intro j u hj;have:=hnews.o j u hj;revert this;obtain⟨b,off,x⟩:=p;intro this;exact Lib.cell?_alloc_some _ this
   case qc4=>unfold Yk;omega
   case qc5=>omega
   case qc6=>simp
   intro v' w1 hown hgrow hnil;go_wp2;go_ret;refine⟨v',H,by simpa using hown,?_⟩;exact((XI _ w).alloc (XE _) _).grown hgrow YL (by intro q hq;simp[Value.ownBlock] at hq;omega)):p:=h
def Df:(Xz.info? 36).map (λi=>(i.zero,i.size,i.bytes))=L (L (YE #[G F 0,G F 0,G F 0,G F 0,Yz O,G F 0,G F 0]),7,56):=R
def RW:Tx 132 36 7:=by
 intro w E ac rows e d h1 l;obtain⟨m,hi,i,k,g⟩:=info_parts Df;have f:=underlying102;go_enter func132,ntmps132;exact nG
def mn:(Xz.info? 3).map (λi=>(i.zero,i.size,i.bytes))=L (L (G F 0),1,8):=R
def Hk:Tx 135 3 1:=by
 intro w E ac rows e d h1 l;obtain⟨m,hi,i,k,g⟩:=info_parts mn;have f:=underlying25;go_enter func135,ntmps135;exact nG
def sA:(Xz.info? 39).map (λi=>(i.zero,i.size,i.bytes))=L (L (YE #[G F 0,Yy {data:=#[]},Yy {data:=#[]},Yy {data:=#[]},Yy {data:=#[]}]),5,72):=R
def Jf:Tx 136 39 5:=by
 intro w E ac rows e d h1 l;obtain⟨m,hi,i,k,g⟩:=info_parts sA;have f:=underlying26;go_enter func136,ntmps136;exact nG
def qS:(Xz.info? 41).map (λi=>(i.zero,i.size,i.bytes))=L (L (YE #[G F 0,G F 0,G F 0]),3,24):=R
def IJ:Tx 206 41 3:=by
 intro w E ac rows e d h1 l;obtain⟨m,hi,i,k,g⟩:=info_parts qS;have f:=underlying27;go_enter func206,ntmps206;exact nG
def qU:(Xz.info? 44).map (λi=>(i.zero,i.size,i.bytes))=L (L (YE #[G F 0,G F 0,G F 0,G F 0,G F 0,V I 0 0]),6,64):=R
def ID:Tx 140 44 6:=by
 intro w E ac rows e d h1 l;obtain⟨m,hi,i,k,g⟩:=info_parts qU;have f:=underlying28;go_enter func140,ntmps140;exact nG
def rh:(Xz.info? 46).map (λi=>(i.zero,i.size,i.bytes))=L (L (YE #[G F 0,G F 0,Yy {data:=#[]}]),3,32):=R
def II:Tx 141 46 3:=by
 intro w E ac rows e d h1 l;obtain⟨m,hi,i,k,g⟩:=info_parts rh;have f:=underlying31;go_enter func141,ntmps141;exact nG
def mA:(Xz.info? 48).map (λi=>(i.zero,i.size,i.bytes))=L (L (YE #[G F 0,G F 0,G F 0,G F 0,G F 0]),5,40):=R
def Hs:Tx 142 48 5:=by
 intro w E ac rows e d h1 l;obtain⟨m,hi,i,k,g⟩:=info_parts mA;have f:=underlying32;go_enter func142,ntmps142;exact nG
end
end Go.Proofs.YtnepbjnlmkppmaaGreatDoor
