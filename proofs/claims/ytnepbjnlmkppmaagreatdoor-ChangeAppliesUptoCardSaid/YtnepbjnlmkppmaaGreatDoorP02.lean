/- ChangeApplies of kingpostlaw58: part 2 of its proof (merged and shortened by program). -/
import Derived.Laws.Rows
import Derived.Laws.Tables
import Derived.WideMake
import Derived.MapKept
import Derived.Laws.StructEq
import Derived.Deep.DeepCutAuto
import Derived.Test.YtnepbjnlmkppmaaGreatDoorP01
set_option linter.unusedVariables false
set_option linter.unusedSimpArgs false
set_option linter.defProp false
set_option maxHeartbeats 8000000
set_option maxRecDepth 100000
open Go.RowKit Go.Shelf Go.Proofs.Tryz
open Array renaming getElem?_eq_some_iff→XV
open Bool renaming false→O,true→Y
open Decidable renaming decide→YG
open Go renaming World→U,undef→M,Value→Z,Calls→XY,TypeId→Yj,maxLen→Yk,Addr→Ym
open Go.Ending renaming returned→YC
open Go.IntKind renaming i64→F
open Go.Lib renaming hid→A
open Go.Proofs.Tryz renaming prog→Xz
open Go.RowKit renaming intOf→Yf,Below→Yl
open Go.Value renaming slice→V,string→Yy,bool→Yz,pointer→YA,int→G,agg→YE,tuple→YF
open Go.World renaming alloc_heap_new→XZ,size_alloc→Ya
open List renaming getD_eq_getElem?_getD→XJ,getElem?_eq_getElem→XO,length_append→Yc,length→ln
open Nat renaming le_refl→XE,mul_comm→Yd,le_trans→Ye
open Option renaming none→I,some→L
open Go.Proofs.YtnepbjnlmkppmaaGreatDoor
variable{q cs:Array Z}{s r:List UInt8}{l:List Z}{n B0 b c blk k f:Nat}{d:Option Ym}{p:Prop}{o:Type}{W j w w':U}{g:Z}{t T:Yj}
namespace Go.Proofs.YtnepbjnlmkppmaaGreatDoor
section
open Kp
theorem cL(h:dA s=L (n,r)):n<1000000000:=by
 unfold dA at h;split at h
 ·cases h
 ·rename_i hk;simp only[Option.some.injEq,Prod.mk.injEq] at h;rw[<-h.1];have h1:=lB (lz s);have:10^(lead s).length<=10^8:=Nat.pow_le_pow_right YK D;omega
theorem iC(h:dA s=L (n,r)):ln r<=ln s:=by
 unfold dA at h;split at h
 ·cases h
 ·simp only[Option.some.injEq,Prod.mk.injEq] at h;rw[<-h.2];simp
def M4(w:U)(g:Nat)(x y:Z)(wr:U):Prop:=
 ∃a b:Nat,x=G F a/\y=G F b/\a<1000000000/\b<1000000000/\Nat.gcd a b=g/\Yl w.heap.size w wr
def Pu(a b:Nat)(w:U)(l:a<1000000000)(j:b<1000000000):
  XY Xz 289 #[G F a,G F b] w λe w'=>e=YC (G F (Nat.gcd a b:Nat))/\Yl w.heap.size w w':=by
 go_enter func289,ntmps289;go_wp2;go_loopw [0,1] (λx y wr=>M4 w (Nat.gcd a b) x y wr) (λ_ y _=>(Yf y).natAbs)
 case atStart=>exact⟨a,b,H,H,l,j,H,XI _ _⟩
 case round=>
  obtain⟨x,y,rfl,rfl,hx,hy,c,g⟩:=hrel;by_cases m:y=0
  ·subst m;rw[Nat.gcd_zero_right] at c;have o:=A c;clear c;have r:(((0:Nat):Int) !=0)=O:=rfl;go_wp2;go_ret;exact⟨cU (by rw[o.o]),g⟩
  ·have q:((y:Int) !=0)=Y:=ZZ;have d:((x:Int).tmod (y:Int))=((x%y:Nat):Int):=by rw[Int.tmod_eq_emod_of_nonneg D];rfl
   have f:x%y<y:=Nat.mod_lt _ D;have k:=A (λn=>show M4 w (Nat.gcd a b) (G F y) (G F ((x:Int).tmod (y:Int))) (wr.drewN n) from⟨y,x%y,H,by rw[d],hy,D,by rw[Nat.gcd_comm,<-Nat.gcd_rec,Nat.gcd_comm];exact c,below_drewN g n⟩);have i:=A (show(Yf (G F ((x:Int).tmod (y:Int)))).natAbs<(Yf (G F (y:Int))).natAbs by rw[d];simp[Yf];exact f);clear c d f;go_wp2;go_quiet (fail)
   go_roundw
   case rel=>exact⟨_,_,_,_,_,_,_,_,k.o _,H⟩
   case measure=>exact i.o
def bS(a:List UInt8):Bool:=match dA (own a) with
 |none=>O
 |some (n,r)=>if(own a).length<ln a/\n=0 then O else match r with
  |[]=>Y
  |c::b=>if c=47 then(match dA b with
    |none=>O
    |some (d,q)=>q.isEmpty&&YG (2<=d)&&YG (Nat.gcd n d=1)) else O
def vR(a:List UInt8):Int×Int:=match dA (own a) with
 |none=>(0,0)
 |some (n,r)=>((if(own a).length<ln a then -(n:Int) else n),match r with
  |[]=>1
  |_::b=>match dA b with
   |none=>0
   |some (d,_)=>(d:Int))
def dK(a:List UInt8):Int×Int:=if bS a then vR a else(0,0)
def dy(w:U)(a:List UInt8)(e:Ending)(w':U):Prop:=∃x y:Int,e=YC (YF #[YE #[G F x,G F y],Yz (bS a)])/\dK a=(x,y)/\Yl w.heap.size w w'
def yI(a:List UInt8):(∃r,a=45::r/\own a=r)\/(own a=a/\∀b,a.head?=L b->b≠45):=by
 cases a with
 |nil=>exact .inr ⟨H,λb h=>YM⟩
 |cons c r=>
  by_cases d:c=45
  ·subst d;exact .inl ⟨r,H,H⟩
  ·refine .inr ⟨?_,λb h=>by cases h;exact d⟩;unfold own Lib.trimPrefix;have:Lib.hasPrefix (c::r) [45]=O:=by simp[Lib.hasPrefix,List.isPrefixOf,Ne.symm d]
   rw[this];rfl
theorem jj(h:dA s=I):oe s=YF #[G F 0,Yy ⟨#[]⟩,Yz O]:=by unfold oe;rw[h]
theorem aL(h:dA s=L (n,r)):oe s=YF #[G F n,Yy (tx r),Yz Y]:=by unfold oe;rw[h]
theorem gR.below{u v:Z}(h:gR W b t u v)(a:Yl B0 W j)(c:b<B0):gR j b t u v:=(a.block b c).trans h
theorem jP{B:Nat}(h:Yl B w W)(a:Yl W.heap.size W j)(b:B<=W.heap.size):Yl B w j:=h.trans (a.mono b)
def aW(c:UInt8)(r:List UInt8):(tx (c::r)).extract 1 (ln r+1)=tx r:=by
 have:=lQ (c::r) 1;exact a0r
theorem iW{c:UInt8}(h:c≠45):own (c::r)=c::r:=by
 rcases yI (c::r) with⟨a,e,_⟩|⟨e,_⟩
 ·cases e;exact absurd H h
 ·exact e
theorem Ib{a:Act}{x y:Int}{b:Bool}(c:gR W blk 283 (G F x) (G F y))
  (h2:a.tmps[2]?=L (YA (L ⟨blk,0,I⟩)))(d:a.tmps[3]?=L (Yz b))(i:a.defers=[])(e:bS s=b)(f:dK s=(x,y))(g:Yl w.heap.size w W):
  bodyPost Xz f261 (dy w s) .ret a W:=by
 have h:=c.cell0;have c1:=c.fJ;refine bodyPost_ret (v:= YF #[YE #[G F x,G F y],Yz b]) ?_ i ⟨x,y,by rw[e],f,g⟩;simp[results,results261,go_sem,h2,d,h,c1]
theorem dE(h:p:=by
 go_enter func261,ntmps261;go_wp2_with(first
  |(go_at_call 288;refine(tE _ _ YT).mono ?_;first
    |(rintro e w1 ⟨rfl,hB1⟩;rw[i.o];have X1:=A ((gR.at_ H).below hB1 YL);have c0:=X1.o.cell0;have c1:=X1.o.fJ;have f0:=X1.o.frozen 0;have f1:=X1.o.frozen 1;have l1:=X1.o.lt)
    |(rintro e w2 ⟨rfl,hB2⟩;rw[HV2.o];have X2:=A (((X1.o.alloc _).below hB2 YP));have Y2:=A ((gR.at_ H).below hB2 YL);have d0:=X2.o.cell0;have d1:=X2.o.fJ;have g0:=X2.o.frozen 0;have g1:=X2.o.frozen 1;have e0:=Y2.o.cell0;have e1:=Y2.o.fJ;have k0:=Y2.o.frozen 0;have k1:=Y2.o.frozen 1;have l2:=Y2.o.lt))
  |(go_at_call 289;refine(Pu _ _ _ YT YT).mono ?_;rintro e w3 ⟨rfl,hB3⟩;have X3:=A ((X2.o.eC (p:=⟨w1.heap.size,1,I⟩) YP _).below hB3 (by simpa[World.setCell] using by omega));have Y3:=A ((Y2.o.ue _).below hB3 (by simpa[World.setCell] using l2));have m0:=X3.o.cell0;have m1:=X3.o.fJ;have n0:=X3.o.frozen 0;have n1:=X3.o.frozen 1;have o0:=Y3.o.cell0;have o1:=Y3.o.fJ;have q0:=Y3.o.frozen 0;have q1:=Y3.o.frozen 1))
 refine Ib (blk:=w.heap.size) ?nofX H H H g.o f.o ?nofB
 case nofX=>repeat first|with_reducible apply gR.nz|with_reducible apply gR.ue|with_reducible apply gR.eC|with_reducible apply gR.alloc|with_reducible exact X3.o|with_reducible exact X2.o|with_reducible exact X1.o|omega|(simp;done)|(simp;omega)
 case nofB=>repeat first|with_reducible refine Below.setCell ?_ YW _|with_reducible refine Below.alloc ?_ YW _|with_reducible refine jP ?_ YT Zg|with_reducible exact XI _ _):p:=h
def BH(r:List UInt8)(w:U)(d:ln r<=1000000)(a:dA r=I):XY Xz 261 #[Yy (tx (45::r))] w (dy w (45::r)):=by
 have c:own (45::r)=r:=rfl;have b:bS (45::r)=O:=by unfold bS;simp[c,a]
 have g:=A b;have f:=A (show dK (45::r)=(0,0) by unfold dK;rw[b];rfl);have i:=A (jj a);have hx:=aW 45 r;clear b c a;exact dE
def Bz(r:List UInt8)(w:U)(m:ln r<=1000000)(n:Nat)(q:List UInt8)(a:dA r=L (n,q))(c:n=0):XY Xz 261 #[Yy (tx (45::r))] w (dy w (45::r)):=by
 have d:own (45::r)=r:=rfl;have b:bS (45::r)=O:=by unfold bS;simp[d,a,c]
 have g:=A b;have f:=A (show dK (45::r)=(0,0) by unfold dK;rw[b];rfl);have i:=A (aL a);have j:=cL a;have l:F.wrap (-(n:Int))= -(n:Int):=cQ D D;have k:((n:Int)==0)=Y:=by rw[Yg];omega
 have hx:=aW 45 r;clear b d a c;exact dE
def ET(r:List UInt8)(w:U)(m:ln r<=1000000)(n:Nat)(a:dA r=L (n,[]))(d:n≠0):XY Xz 261 #[Yy (tx (45::r))] w (dy w (45::r)):=by
 have c:own (45::r)=r:=rfl;have b:bS (45::r)=Y:=by unfold bS;simp[c,a,d]
 have g:=A b;have f:=A (show dK (45::r)=((-(n:Int)),1) by unfold dK;rw[b];unfold vR;simp[c,a]);have i:=A (aL a);have j:=cL a;have l:F.wrap (-(n:Int))= -(n:Int):=cQ D D;have k:((n:Int)==0)=O:=Y4;have hx:=aW 45 r;clear b c a d;exact dE
def uq(r:List UInt8)(w:U)(s:ln r<=1000000)(n:Nat)(c:UInt8)(j:List UInt8)(a:dA r=L (n,(c::j)))(k:n≠0)(b:c≠47):XY Xz 261 #[Yy (tx (45::r))] w (dy w (45::r)):=by
 have l:own (45::r)=r:=rfl;have d:bS (45::r)=O:=by unfold bS;simp[l,a,k,b]
 have g:=A d;have f:=A (show dK (45::r)=(0,0) by unfold dK;rw[d];rfl);have i:=A (aL a);have m:=cL a;have q:F.wrap (-(n:Int))= -(n:Int):=cQ D D;have o:((n:Int)==0)=O:=Y4;have t:((((tx (c::j))[0]'Zr).toNat:Int) !=47)=Y:=by rw[Yn];intro e;exact b (UInt8.toNat.inj (by show c.toNat=47;exact Int.ofNat.inj e))
 have hx:=aW 45 r;clear d l a k b;exact dE
def xC(r:List UInt8)(w:U)(c:ln r<=1000000)(n:Nat)(b:List UInt8)(a:dA r=L (n,(47::b)))(k:n≠0)(d:dA b=I):XY Xz 261 #[Yy (tx (45::r))] w (dy w (45::r)):=by
 have l:own (45::r)=r:=rfl;have j:bS (45::r)=O:=by unfold bS;simp[l,a,k,d]
 have g:=A j;have f:=A (show dK (45::r)=(0,0) by unfold dK;rw[j];rfl);have i:=A (aL a);have m:=cL a;have s:F.wrap (-(n:Int))= -(n:Int):=cQ D D;have o:((n:Int)==0)=O:=Y4;have q:ln b<=1000000:=Zc;have t:=aW 47 b;have HV2:=A (jj d);have hx:=aW 45 r;clear j l a k d;exact dE
def BG(r:List UInt8)(w:U)(c:ln r<=1000000)(n:Nat)(b:List UInt8)(a:dA r=L (n,(47::b)))(l:n≠0)(d:Nat)(o:UInt8)(q:List UInt8)(j:dA b=L (d,(o::q))):XY Xz 261 #[Yy (tx (45::r))] w (dy w (45::r)):=by
 have m:own (45::r)=r:=rfl;have k:bS (45::r)=O:=by unfold bS;simp[m,a,l,j]
 have g:=A k;have f:=A (show dK (45::r)=(0,0) by unfold dK;rw[k];rfl);have i:=A (aL a);have s:=cL a;have v:F.wrap (-(n:Int))= -(n:Int):=cQ D D;have t:((n:Int)==0)=O:=Y4;have u:ln b<=1000000:=Zc;have y:=aW 47 b;have HV2:=A (aL j);have x:=cL j;have hx:=aW 45 r;clear k m a l j;exact dE
def xq(r:List UInt8)(w:U)(c:ln r<=1000000)(n:Nat)(b:List UInt8)(a:dA r=L (n,(47::b)))(m:n≠0)(d:Nat)(j:dA b=L (d,[]))(l:¬2<=d):XY Xz 261 #[Yy (tx (45::r))] w (dy w (45::r)):=by
 have o:own (45::r)=r:=rfl;have k:bS (45::r)=O:=by unfold bS;simp[o,a,m,j];intro h;exact absurd h l
 have g:=A k;have f:=A (show dK (45::r)=(0,0) by unfold dK;rw[k];rfl);have i:=A (aL a);have q:=cL a;have v:F.wrap (-(n:Int))= -(n:Int):=cQ D D;have s:((n:Int)==0)=O:=Y4;have t:ln b<=1000000:=Zc;have y:=aW 47 b;have HV2:=A (aL j);have x:=cL j;have u:YG ((d:Int)<2)=Y:=Zo;have hx:=aW 45 r;clear k o a m l j;exact dE
def vD(r:List UInt8)(w:U)(c:ln r<=1000000)(n:Nat)(b:List UInt8)(a:dA r=L (n,(47::b)))(m:n≠0)(d:Nat)(j:dA b=L (d,[]))(q:2<=d)(l:¬Nat.gcd n d=1):XY Xz 261 #[Yy (tx (45::r))] w (dy w (45::r)):=by
 have o:own (45::r)=r:=rfl;have k:bS (45::r)=O:=by unfold bS;simp[o,a,m,j,l]
 have g:=A k;have f:=A (show dK (45::r)=(0,0) by unfold dK;rw[k];rfl);have i:=A (aL a);have t:=cL a;have y:F.wrap (-(n:Int))= -(n:Int):=cQ D D;have u:((n:Int)==0)=O:=Y4;have v:ln b<=1000000:=Zc;have B:=aW 47 b;have HV2:=A (aL j);have z:=cL j;have x:YG ((d:Int)<2)=O:=YU;have s:(((Nat.gcd n d:Nat):Int) !=1)=Y:=ZZ;have hx:=aW 45 r;clear k o a m q l j;exact dE
def GK(r:List UInt8)(w:U)(c:ln r<=1000000)(n:Nat)(j:List UInt8)(a:dA r=L (n,(47::j)))(q:n≠0)(d:Nat)(b:dA j=L (d,[]))(o:2<=d)(k:Nat.gcd n d=1):XY Xz 261 #[Yy (tx (45::r))] w (dy w (45::r)):=by
 have m:own (45::r)=r:=rfl;have l:bS (45::r)=Y:=by unfold bS;simp[m,a,q,b,k,o]
 have g:=A l;have f:=A (show dK (45::r)=((-(n:Int)),(d:Int)) by unfold dK;rw[l];unfold vR;simp[m,a,b]);have i:=A (aL a);have t:=cL a;have y:F.wrap (-(n:Int))= -(n:Int):=cQ D D;have u:((n:Int)==0)=O:=Y4;have v:ln j<=1000000:=Zc;have B:=aW 47 j;have HV2:=A (aL b);have z:=cL b;have x:YG ((d:Int)<2)=O:=YU;have s:(((Nat.gcd n d:Nat):Int) !=1)=O:=by rw[k];rfl
 have hx:=aW 45 r;clear l m a q o k b;exact dE
def AW(c0:UInt8)(r:List UInt8)(w:U)(j:(c0::r).length<=1000000)(b:c0≠45)(a:dA (c0::r)=I):XY Xz 261 #[Yy (tx (c0::r))] w (dy w (c0::r)):=by
 have d:own (c0::r)=(c0::r):=iW b;have c:bS (c0::r)=O:=by unfold bS;simp[d,a]
 have g:=A c;have f:=A (show dK (c0::r)=(0,0) by unfold dK;rw[c];rfl);have i:=A (jj a);exact a0P
def EF(c0:UInt8)(r:List UInt8)(w:U)(l:(c0::r).length<=1000000)(b:c0≠45)(n:Nat)(a:dA (c0::r)=L (n,[])):XY Xz 261 #[Yy (tx (c0::r))] w (dy w (c0::r)):=by
 have d:own (c0::r)=(c0::r):=iW b;have c:bS (c0::r)=Y:=by unfold bS;simp[d,a]
 have g:=A c;have f:=A (show dK (c0::r)=((n:Int),1) by unfold dK;rw[c];unfold vR;simp[d,a]);have i:=A (aL a);have j:=cL a;have k:F.wrap (-(n:Int))= -(n:Int):=cQ D D;exact a0P
def ud(c0:UInt8)(r:List UInt8)(w:U)(s:(c0::r).length<=1000000)(b:c0≠45)(n:Nat)(c:UInt8)(k:List UInt8)(a:dA (c0::r)=L (n,(c::k)))(d:c≠47):XY Xz 261 #[Yy (tx (c0::r))] w (dy w (c0::r)):=by
 have l:own (c0::r)=(c0::r):=iW b;have j:bS (c0::r)=O:=by unfold bS;simp[l,a,d]
 have g:=A j;have f:=A (show dK (c0::r)=(0,0) by unfold dK;rw[j];rfl);have i:=A (aL a);have q:=cL a;have m:F.wrap (-(n:Int))= -(n:Int):=cQ D D;have t:((((tx (c::k))[0]'Zr).toNat:Int) !=47)=Y:=by rw[Yn];intro e;exact d (UInt8.toNat.inj (by show c.toNat=47;exact Int.ofNat.inj e))
 have o:((((tx (c0::r))[0]'Zr).toNat:Int)==45)=O:=YS;clear j l a d b;exact dE
def xT(c0:UInt8)(r:List UInt8)(w:U)(c:(c0::r).length<=1000000)(b:c0≠45)(n:Nat)(d:List UInt8)(a:dA (c0::r)=L (n,(47::d)))(j:dA d=I):XY Xz 261 #[Yy (tx (c0::r))] w (dy w (c0::r)):=by
 have l:own (c0::r)=(c0::r):=iW b;have k:bS (c0::r)=O:=by unfold bS;simp[l,a,j]
 have g:=A k;have f:=A (show dK (c0::r)=(0,0) by unfold dK;rw[k];rfl);have i:=A (aL a);have m:=cL a;have q:F.wrap (-(n:Int))= -(n:Int):=cQ D D;have o:ln d<=1000000:=Zc;have s:=aW 47 d;have HV2:=A (jj j);exact a0Q
def AU(c0:UInt8)(r:List UInt8)(w:U)(c:(c0::r).length<=1000000)(b:c0≠45)(n:Nat)(m:List UInt8)(a:dA (c0::r)=L (n,(47::m)))(d:Nat)(o:UInt8)(q:List UInt8)(j:dA m=L (d,(o::q))):XY Xz 261 #[Yy (tx (c0::r))] w (dy w (c0::r)):=by
 have l:own (c0::r)=(c0::r):=iW b;have k:bS (c0::r)=O:=by unfold bS;simp[l,a,j]
 have g:=A k;have f:=A (show dK (c0::r)=(0,0) by unfold dK;rw[k];rfl);have i:=A (aL a);have s:=cL a;have u:F.wrap (-(n:Int))= -(n:Int):=cQ D D;have t:ln m<=1000000:=Zc;have x:=aW 47 m;have HV2:=A (aL j);have v:=cL j;exact a0Q
def xt(c0:UInt8)(r:List UInt8)(w:U)(c:(c0::r).length<=1000000)(b:c0≠45)(n:Nat)(j:List UInt8)(a:dA (c0::r)=L (n,(47::j)))(d:Nat)(k:dA j=L (d,[]))(m:¬2<=d):XY Xz 261 #[Yy (tx (c0::r))] w (dy w (c0::r)):=by
 have o:own (c0::r)=(c0::r):=iW b;have l:bS (c0::r)=O:=by unfold bS;simp[o,a,k];intro h;exact absurd h m
 have g:=A l;have f:=A (show dK (c0::r)=(0,0) by unfold dK;rw[l];rfl);have i:=A (aL a);have q:=cL a;have u:F.wrap (-(n:Int))= -(n:Int):=cQ D D;have s:ln j<=1000000:=Zc;have y:=aW 47 j;have HV2:=A (aL k);have x:=cL k;have t:YG ((d:Int)<2)=Y:=Zo;have v:((((tx (c0::r))[0]'Zr).toNat:Int)==45)=O:=YS;clear l o a m k b;exact dE
def we(c0:UInt8)(r:List UInt8)(w:U)(c:(c0::r).length<=1000000)(b:c0≠45)(n:Nat)(o:List UInt8)(a:dA (c0::r)=L (n,(47::o)))(d:Nat)(j:dA o=L (d,[]))(q:2<=d)(l:¬Nat.gcd n d=1):XY Xz 261 #[Yy (tx (c0::r))] w (dy w (c0::r)):=by
 have m:own (c0::r)=(c0::r):=iW b;have k:bS (c0::r)=O:=by unfold bS;simp[m,a,j,l]
 have g:=A k;have f:=A (show dK (c0::r)=(0,0) by unfold dK;rw[k];rfl);have i:=A (aL a);have t:=cL a;have x:F.wrap (-(n:Int))= -(n:Int):=cQ D D;have u:ln o<=1000000:=Zc;have z:=aW 47 o;have HV2:=A (aL j);have y:=cL j;have v:YG ((d:Int)<2)=O:=YU;have s:(((Nat.gcd n d:Nat):Int) !=1)=Y:=ZZ;exact a0R
def FY(c0:UInt8)(r:List UInt8)(w:U)(c:(c0::r).length<=1000000)(b:c0≠45)(n:Nat)(o:List UInt8)(a:dA (c0::r)=L (n,(47::o)))(d:Nat)(j:dA o=L (d,[]))(q:2<=d)(l:Nat.gcd n d=1):XY Xz 261 #[Yy (tx (c0::r))] w (dy w (c0::r)):=by
 have m:own (c0::r)=(c0::r):=iW b;have k:bS (c0::r)=Y:=by unfold bS;simp[m,a,j,l,q]
 have g:=A k;have f:=A (show dK (c0::r)=((n:Int),(d:Int)) by unfold dK;rw[k];unfold vR;simp[m,a,j]);have i:=A (aL a);have t:=cL a;have x:F.wrap (-(n:Int))= -(n:Int):=cQ D D;have u:ln o<=1000000:=Zc;have z:=aW 47 o;have HV2:=A (aL j);have y:=cL j;have v:YG ((d:Int)<2)=O:=YU;have s:(((Nat.gcd n d:Nat):Int) !=1)=O:=by rw[l];rfl
 exact a0R
end
section
open Kp
def Rq(w:U):XY Xz 261 #[Yy (tx [])] w (dy w []):=by
 have c:=A (show bS []=O by rfl);have f:=A (jj (s:=[]) Zb);have d:([]:List UInt8).length<=1000000:=YL;go_enter func261,ntmps261;go_wp2_with(go_at_call 288;refine(tE [] _ d).mono ?_;rintro e w1 ⟨rfl,b⟩;rw[f.o];have a:=A ((gR.at_ H).below b YL);have i:=a.o.cell0;have c1:=a.o.fJ;have g:=a.o.frozen 0;have f1:=a.o.frozen 1;have l1:=a.o.lt)
 refine Ib (blk:=w.heap.size) (x:=0) (y:=0) ?nofX H H H c.o H ?nofB
 case nofX=>repeat first|with_reducible apply gR.nz|with_reducible apply gR.ue|with_reducible exact a.o
 case nofB=>repeat first|with_reducible refine Below.setCell ?_ YW _|with_reducible refine Below.alloc ?_ YW _|with_reducible refine jP ?_ YT Zg|with_reducible exact XI _ _
def mc(a:List UInt8)(w:U)(i:ln a<=1000000):XY Xz 261 #[Yy (tx a)] w (dy w a):=by
 cases a with
 |nil=>exact Rq w
 |cons g r=>
  by_cases j:g=45
  ·subst j;have h:ln r<=1000000:=by simp at i;omega
   cases b:dA r with
   |none=>exact BH r w h b
   |some p=>
    obtain⟨n,q⟩:=p;by_cases k:n=0
    ·exact Bz r w h n q b k
    ·cases q with
     |nil=>exact ET r w h n b k
     |cons c e=>
      by_cases o:c=47
      ·subst o;cases f:dA e with
       |none=>exact xC r w h n e b k f
       |some p=>
        obtain⟨d,q⟩:=p;cases q with
        |cons s q=>exact BG r w h n e b k d s q f
        |nil=>
         by_cases l:2<=d
         ·by_cases m:Nat.gcd n d=1
          ·exact GK r w h n e b k d f l m
          ·exact vD r w h n e b k d f l m
         ·exact xq r w h n e b k d f l
      ·exact uq r w h n c e b k o
  ·cases b:dA (g::r) with
   |none=>exact AW g r w i j b
   |some p=>
    obtain⟨n,q⟩:=p;cases q with
    |nil=>exact EF g r w i j n b
    |cons c e=>
     by_cases o:c=47
     ·subst o;cases f:dA e with
      |none=>exact xT g r w i j n e b f
      |some p=>
       obtain⟨d,q⟩:=p;cases q with
       |cons s q=>exact AU g r w i j n e b d s q f
       |nil=>
        by_cases l:2<=d
        ·by_cases m:Nat.gcd n d=1
         ·exact FY g r w i j n e b d f l m
         ·exact we g r w i j n e b d f l m
        ·exact xt g r w i j n e b d f l
     ·exact ud g r w i j n c e b o
def kv(s:List UInt8):Nat:=if 1<(lead s).length/\s.head?=L 48 then 0 else(lead s).length
def ON(s:List UInt8)(i:Z):Prop:=∃k:Nat,k<=ln s/\i=G F (k:Int)/\(s.take k).all ix=Y
def Ce(s:List UInt8)(w:U)(J:ln s<=1000000):
  XY Xz 287 #[Yy (tx s)] w λe w'=>e=YC (G F (kv s))/\w'=w:=by
 go_enter func287,ntmps287;go_wp2
 go_loop [3] (λi=>ON s i) (λi=>((ln s:Int)-Yf i).toNat)
 case atStart=>exact⟨0,D,rfl,rfl⟩
 case round=>
  obtain⟨k,hk,rfl,d⟩:=hrel;by_cases m:∃h:k<ln s,ix (s[k]'h)=Y
  ·obtain⟨j,c⟩:=m;have n:k<(tx s).size:=by rw[af];exact j
   have hx:(tx s)[k]'n=s[k]:=rfl;have C:=lv c;have d1:48<=(((tx s)[k]'n).toNat:Int):=by rw[hx];omega
   have d2:(((tx s)[k]'n).toNat:Int)<=57:=by rw[hx];omega
   have x:ON s (G F ((k:Int)+1)):=⟨k+1,D,YL,Ey j d c⟩;have I:=A x;clear x C hx d c;go_wp2;exact⟨I.o,YO⟩
  ·have z:(lead s).length=k:=by
    by_cases j:k<ln s
    ·refine yk d j ?_;cases c:ix s[k] with
     |false=>rfl
     |true=>exact absurd ⟨j,c⟩ m
    ·have e:k=ln s:=D;rw[e] at d;rw[e];exact C7 d
   have y:(¬k<ln s)\/(∃h:k<(tx s).size,(((tx s)[k]'h).toNat:Int)<48)\/(∃h:k<(tx s).size,57<(((tx s)[k]'h).toNat:Int)):=by
    by_cases h1:k<ln s
    ·have q:ix s[k]=O:=by
      cases c:ix s[k] with
      |false=>rfl
      |true=>exact absurd ⟨h1,c⟩ m
     have l:k<(tx s).size:=by rw[af];exact h1
     rw[uX] at q;simp only[Bool.and_eq_false_iff,XL] at q;rcases q with h|h
     ·exact .inr (.inl ⟨l,by show((s[k]).toNat:Int)<48;omega⟩)
     ·exact .inr (.inr ⟨l,by show 57<((s[k]).toNat:Int);omega⟩)
    ·exact .inl h1
   have v:=A z;clear m z d;by_cases f:1<k/\s.head?=L 48
   ·obtain⟨h1,a⟩:=f;have HR:=A (show kv s=0 by unfold kv;rw[v.o,XT ⟨h1,a⟩]);have u:0<(tx s).size:=ZB;have E:((((tx s)[0]'u).toNat:Int)==48)=Y:=by
     rw[Yg];cases s with
     |nil=>cases a
     |cons b r=>simp only[List.head?_cons,Option.some.injEq] at a;subst a;rfl
    clear a;have l:YG (1<(k:Int))=Y:=Zo;rcases y with B|⟨g,t⟩|⟨g,t⟩
    ·go_wp2;go_ret;exact⟨cU YQ,H⟩
    ·have o:k<ln s:=ZV;go_wp2;go_ret;exact⟨cU YQ,H⟩
    ·have o:k<ln s:=ZV;go_wp2;go_ret;exact⟨cU YQ,H⟩
   ·have HR:=A (show kv s=k by unfold kv;rw[v.o,XQ f]);by_cases h1:1<k
    ·have a:¬s.head?=L 48:=λh=>f ⟨h1,h⟩
     have u:0<(tx s).size:=ZB;have E:((((tx s)[0]'u).toNat:Int)==48)=O:=by
      rw[XN];intro e;exact a (nB e)
     have l:YG (1<(k:Int))=Y:=Zo;clear f a;exact a0S
    ·have l:YG (1<(k:Int))=O:=YU;clear f;exact a0S
end
section
open Kp
def zB(a b:List UInt8):(Lib.cut a b).1.length<=ln a/\(Lib.cut a b).2.1.length<=ln a:=by
 unfold Lib.cut;split
 ·simp;omega
 ·simp
abbrev jE(w:U):Prop:=∃m:Int,w.cell? ⟨1,0,I⟩=L (G F m)
theorem jE.below(h:jE w)(b:Yl B0 w w')(c:w.heap.size<=B0):jE w':=by
 obtain⟨m,a⟩:=h;have:=Am a;exact⟨m,(b.cell D).trans a⟩
def Ot(a:List UInt8)(w:U)(c:ln a<=1000000)(b:jE w):
  XY Xz 285 #[Yy (tx a),Yy ⟨#[47]⟩] w λe w'=>e=YC (YF #[Yy (tx (Lib.cut a [47]).1),Yy (tx (Lib.cut a [47]).2.1),Yz (Lib.cut a [47]).2.2])/\Yl w.heap.size w w':=by
 obtain⟨m,b⟩:=b;have h:=strings_Cut (tx a) (tx [47]) m w ZB b;rw[bH,bH] at h;exact h.mono λ_ _ ⟨h1,n,h2⟩=>⟨h1,by rw[h2];exact below_drewN (XI _ _) n⟩
def vP(a:List UInt8)(w:U):
  XY Xz 286 #[Yy (tx a),Yy ⟨#[45]⟩] w λe w'=>e=YC (YF #[Yy (tx (own a)),Yz (Lib.hasPrefix a [45])])/\w'=w:=by
 have h:=strings_CutPrefix (tx a) (tx [45]) w;rw[bH,bH] at h;exact h
def nX(s:List UInt8):Bool:=YG (¬kv s=0)&&YG (¬kv s<ln s)
theorem iX(a:¬kv s=0)(h1:¬kv s<ln s):nX s=Y:=by unfold nX;simp[a];omega
def eU(a:List UInt8):Option (List UInt8×List UInt8):=
 let n:=(Lib.cut a [47]).1
 let d:=(Lib.cut a [47]).2.1
 if nX (own n)=O\/(Lib.hasPrefix n [45]=Y/\own n=[48]) then I
 else if(Lib.cut a [47]).2.2=O then L (n,[49])
 else if nX d=O\/d=[48]\/d=[49] then I
 else L (n,d)
def Ab (w : U) (r : Option (List UInt8 × List UInt8)) (e : Ending) (w' : U) : Prop :=
  (match r with
   | none => e =YC (YF #[YE #[Yy ⟨#[]⟩, Yy ⟨#[]⟩], Yz O])
   | some (n, d) => e =YC (YF #[YE #[Yy (tx n), Yy (tx d)], Yz Y])) /\ Yl w.heap.size w w'
theorem AG{a:Act}{r:Option (List UInt8×List UInt8)}(d:r=I)(b:gR W blk 255 (Yy ⟨#[]⟩) (Yy ⟨#[]⟩))
  (h2:a.tmps[2]?=L (YA (L ⟨blk,0,I⟩)))(c:a.tmps[3]?=L (Yz O))(g:a.defers=[])(e:Yl w.heap.size w W):
  bodyPost Xz Tryz.f260 (Ab w r) .ret a W:=by
 have f:=b.cell0;have c1:=b.fJ;subst d;refine bodyPost_ret (v:= YF #[YE #[Yy ⟨#[]⟩,Yy ⟨#[]⟩],Yz O]) ?_ g ⟨H,e⟩;simp[results,results260,go_sem,h2,c,f,c1]
theorem zY{a:Act}{r:Option (List UInt8×List UInt8)}{n d:List UInt8}(e:r=L (n,d))(b:gR W blk 255 (Yy (tx n)) (Yy (tx d)))
  (h2:a.tmps[2]?=L (YA (L ⟨blk,0,I⟩)))(c:a.tmps[3]?=L (Yz Y))(h:a.defers=[])(f:Yl w.heap.size w W):
  bodyPost Xz Tryz.f260 (Ab w r) .ret a W:=by
 have g:=b.cell0;have c1:=b.fJ;subst e;refine bodyPost_ret (v:= YF #[YE #[Yy (tx n),Yy (tx d)],Yz Y]) ?_ h ⟨H,f⟩;simp[results,results260,go_sem,h2,c,g,c1]
theorem jm(h:p:=by
 try clear hk
 try clear b
 try clear l
 try clear j
 clear r h1 h2 g c f;go_enter func260,ntmps260;go_wp2_with(first
  |(go_at_call 285;refine(Ot a _ D (x.o.below ((XI _ _).alloc (XE _) _) (XE _))).mono ?_;rintro e w1 ⟨rfl,hB1⟩;rw[G.o,F.o,E.o];have X1:=A ((gR.at_ H).below hB1 YL);have c0:=X1.o.cell0;have c1:=X1.o.fJ;have f0:=X1.o.frozen 0;have f1:=X1.o.frozen 1;have l1:=X1.o.lt)
  |(go_at_call 286;refine(vP _ _).mono ?_;rintro e w2 ⟨rfl,rfl⟩;rw[C.o,z.o])
  |(go_at_call 287;refine(Ce _ _ (by first|assumption|decide)).mono ?_;rintro e w2 ⟨rfl,rfl⟩))
 first
  |refine zY (blk:=w.heap.size) i.o ?cutX rfl rfl rfl ?cutB
  |refine AG (blk:=w.heap.size) i.o ?cutX rfl rfl rfl ?cutB
 case cutX=>repeat first|with_reducible apply gR.nz|with_reducible apply gR.ue|with_reducible exact X1.o
 case cutB=>repeat first|with_reducible refine Below.setCell ?_ YW _|with_reducible refine Below.alloc ?_ YW _|with_reducible refine jP ?_ YT Zg|with_reducible exact XI _ _):p:=h
set_option maxHeartbeats 40000000 in
def Ob(a:List UInt8)(w:U)(D:ln a<=1000000)(r:jE w):XY Xz 260 #[Yy (tx a)] w (Ab w (eU a)):=by
 obtain⟨n,h1⟩:=aa ((Lib.cut a [47]).1);obtain⟨d,h2⟩:=aa ((Lib.cut a [47]).2.1);obtain⟨v,g⟩:=aa ((Lib.cut a [47]).2.2);obtain⟨o,c⟩:=aa (own n);obtain⟨neg,f⟩:=aa (Lib.hasPrefix n [45]);have N:ln o<=1000000:=by have:=nl n;have:=(zB a [47]).1;rw[h1] at this;rw[<-c];omega
 have Q:ln d<=1000000:=by have:=(zB a [47]).2;rw[h2] at this;omega
 have G:=A h1;have F:=A h2;have E:=A g;have C:=A c;have z:=A f;have x:=A r;by_cases hk:kv o=0
 ·
  have i:=A (show eU a=I by unfold eU;simp only[];rw[h1,h2,g,c,f];rw[XT (.inl (by unfold nX;simp[hk]))]);have B:((kv o:Int)==0)=Y:=by rw[Yg];omega
  exact jm
 have B:((kv o:Int)==0)=O:=Y4;by_cases q:kv o<ln o
 ·
  have i:=A (show eU a=I by unfold eU;simp only[];rw[h1,h2,g,c,f];rw[XT (.inl (by unfold nX;simp[hk,q]))]);have J:YG (kv o<ln o)=Y:=Zo;exact jm
 have J:YG (kv o<ln o)=O:=YU;by_cases b:neg=Y/\o=[48]
 ·
  obtain⟨u,b⟩:=b;have i:=A (show eU a=I by unfold eU;simp only[];rw[h1,h2,g,c,f];rw[XT (.inr ⟨u,b⟩)]);subst u;subst b;exact jm
 have t:neg=Y->(o==[48])=O:=λh=>by rw[XN];exactλe=>b ⟨h,e⟩
 cases hi:v with
 |false=>
  have i:=A (show eU a=L (n,[49]) by unfold eU;simp only[];rw[h1,h2,g,c,f];rw[XQ (λh=>h.elim (λh=>ZS) b)];rw[XT hi]);exact a0T
 |true=>
  have j:¬v=O:=by rw[hi];decide
  by_cases l:kv d=0
  ·
   have i:=A (show eU a=I by unfold eU;simp only[];rw[h1,h2,g,c,f];rw[XQ (λh=>h.elim (λh=>ZS) b)];rw[XQ j];rw[XT (.inl (by unfold nX;simp[l]))]);have y:((kv d:Int)==0)=Y:=by rw[Yg];omega
   exact a0T
  have y:((kv d:Int)==0)=O:=Y4;by_cases s:kv d<ln d
  ·
   have i:=A (show eU a=I by unfold eU;simp only[];rw[h1,h2,g,c,f];rw[XQ (λh=>h.elim (λh=>ZS) b)];rw[XQ j];rw[XT (.inl (by unfold nX;simp[l,s]))]);have K:YG (kv d<ln d)=Y:=Zo;exact a0T
  have K:YG (kv d<ln d)=O:=YU;by_cases k:d=[48]
  ·
   have i:=A (show eU a=I by unfold eU;simp only[];rw[h1,h2,g,c,f];rw[XQ (λh=>h.elim (λh=>ZS) b)];rw[XQ j];rw[XT (.inr (.inl k))]);subst k;exact a0T
  have P:(d==[48])=O:=by rw[XN];exact k
  by_cases m:d=[49]
  ·
   have i:=A (show eU a=I by unfold eU;simp only[];rw[h1,h2,g,c,f];rw[XQ (λh=>h.elim (λh=>ZS) b)];rw[XQ j];rw[XT (.inr (.inr m))]);clear k;subst m;exact a0T
  have M:(d==[49])=O:=by rw[XN];exact m
  have i:=A (show eU a=L (n,d) by unfold eU;simp only[];rw[h1,h2,g,c,f];rw[XQ (λh=>h.elim (λh=>ZS) b)];rw[XQ j];rw[XQ (λh=>h.elim (λh=>by rw[iX l s] at h;cases h) (λh=>h.elim k m))]);exact a0T
end
section
open Kp
noncomputable def aC(a:List UInt8):Int:=match eU a with
 |none=>11
 |some (n,d)=>
  if bS a=Y then 0
  else if 300<(own n).length\/300<ln d then 4
  else if d=[49] then 0
  else if¬(nw n d).2=0\/¬(nw n d).1=[49] then 11
  else 0
def Aj(w:U)(a:List UInt8)(e:Ending)(w':U):Prop:=∃x y:ByteArray,e=YC (YF #[YE #[Yy x,Yy y],G F (aC a)])/\(aC a=0->∃n d,eU a=L (n,d)/\x=tx n/\y=tx d)/\Yl w.heap.size w w'
theorem Od{a:Act}{x y:ByteArray}{c:Int}(e:aC s=c)(b:gR W blk 255 (Yy x) (Yy y))
  (h2:a.tmps[2]?=L (YA (L ⟨blk,0,I⟩)))(g:a.tmps[3]?=L (G F c))(j:a.defers=[])(f:c=0->∃n d,eU s=L (n,d)/\x=tx n/\y=tx d)(h:Yl w.heap.size w W):
  bodyPost Xz Tryz.f228 (Aj w s) .ret a W:=by
 have i:=b.cell0;have c1:=b.fJ;refine bodyPost_ret (v:= YF #[YE #[Yy x,Yy y],G F c]) ?_ j ⟨x,y,by rw[e],by rw[e];exact f,h⟩;simp[results,results228,go_sem,h2,g,i,c1]
def rD{a n d:List UInt8}(h:eU a=L (n,d)):ln n<=ln a/\ln d<=ln a+1:=by
 have b:=zB a [47];unfold eU at h;simp only[] at h;split at h
 ·cases h
 split at h
 ·simp only[Option.some.injEq,Prod.mk.injEq] at h;rw[<-h.1,<-h.2];exact⟨b.1,YL⟩
 split at h
 ·cases h
 ·simp only[Option.some.injEq,Prod.mk.injEq] at h;rw[<-h.1,<-h.2];exact⟨b.1,D⟩
theorem lS(h:p:=by
 try clear C
 try clear i
 try clear j
 try clear m
 try clear k
 try clear c
 clear B z b;go_enter func228,ntmps228;go_wp2_with(first
  |(go_at_call 260;refine(Ob a _ r (E.o.below ((XI _ _).alloc (XE _) _) (XE _))).mono ?_;rw[t.o];rintro e w1 ⟨rfl,hB1⟩;have X1:=A ((gR.at_ H).below hB1 YL);have c0:=X1.o.cell0;have c1:=X1.o.fJ;have f0:=X1.o.frozen 0;have f1:=X1.o.frozen 1;have l1:=X1.o.lt)
  |(go_at_call 261;refine(mc a _ r).mono ?_;rintro e w2 ⟨nx,ny,rfl,_,hB2⟩;rw[v.o];have X2:=A ((X1.o.alloc _).below hB2 YP);have Y2:=A ((gR.at_ H).below hB2 YL);have d0:=X2.o.cell0;have d1:=X2.o.fJ;have g0:=X2.o.frozen 0;have g1:=X2.o.frozen 1;have e0:=Y2.o.cell0;have e1:=Y2.o.fJ;have l2:=Y2.o.lt;have l3:=X2.o.lt)
  |(go_at_call 248;refine(eG _ _).mono ?_;rintro e w5 ⟨rfl,rfl⟩;rw[G.o])
  |(go_at_call 262;refine(Qe _ _ _ YT YT (F.o.below (B0:=w.heap.size) (by repeat first|with_reducible refine Below.setCell ?_ YW _|with_reducible refine Below.alloc ?_ YW _|with_reducible refine jP ?_ YT Zg|with_reducible exact XI _ _) (XE _))).mono ?_;rw[I.o];rintro e w3 ⟨rfl,hB3⟩;have X3:=A ((X2.o.alloc _).below hB3 YP);have Y3:=A ((Y2.o.alloc _).below hB3 YP);have m0:=X3.o.cell0;have m1:=X3.o.fJ;have n0:=X3.o.frozen 0;have n1:=X3.o.frozen 1;have o0:=Y3.o.cell0;have o1:=Y3.o.fJ))
 first
  |refine Od (blk:=w.heap.size) (x:=⟨#[]⟩) (y:=⟨#[]⟩) f.o ?rrX rfl rfl rfl (λh=>absurd h YK) ?rrB
  |refine Od (blk:=w.heap.size) (x:=tx _) (y:=tx _) f.o ?rrX rfl rfl rfl (λ_=>⟨_,_,t.o,rfl,rfl⟩) ?rrB
 case rrX=>repeat first|with_reducible apply gR.nz|with_reducible apply gR.ue|with_reducible apply gR.eC|with_reducible apply gR.alloc|with_reducible exact X3.o|with_reducible exact X2.o|with_reducible exact X1.o|omega|(simp;done)|(simp;omega)
 case rrB=>repeat first|with_reducible refine Below.setCell ?_ YW _|with_reducible refine Below.alloc ?_ YW _|with_reducible refine jP ?_ YT Zg|with_reducible exact XI _ _):p:=h
set_option maxHeartbeats 40000000 in
def pB(a:List UInt8)(w:U)(r:ln a<=300000)(B:jE w)(z:bE w):XY Xz 228 #[Yy (tx a)] w (Aj w a):=by
 have E:=A B;have F:=A z;cases b:eU a with
 |none=>
  replace r:ln a<=1000000:=D
  have f:=A (show aC a=11 by unfold aC;rw[b]);have t:=A b;exact lS
 |some p=>
  obtain⟨n,d⟩:=p;have C:=rD b;have K:ln n<=1000000:=D;have N:ln d<=1000000:=D
  replace r:ln a<=1000000:=D
  have t:=A b;by_cases c:bS a=Y
  ·
   have f:=A (show aC a=0 by unfold aC;rw[b];simp only[];rw[XT c]);have v:=A c;exact lS
  have v:=A (show bS a=O by simpa using c);obtain⟨o,i⟩:=aa (own n);have G:=A i;by_cases q:300<ln o
  ·
   have f:=A (show aC a=4 by unfold aC;rw[b];simp only[];rw[XQ c];rw[i,XT (.inl q)]);exact lS
  by_cases l:300<ln d
  ·
   have f:=A (show aC a=4 by unfold aC;rw[b];simp only[];rw[XQ c];rw[i,XT (.inr l)]);exact lS
  by_cases j:d=[49]
  ·
   have f:=A (show aC a=0 by unfold aC;rw[b];simp only[];rw[XQ c];rw[i,XQ (λh=>h.elim q l)];rw[XT j]);subst j;exact lS
  have M:(d==[49])=O:=by rw[XN];exact j
  obtain⟨⟨g,u⟩,m⟩:=aa (nw n d);have I:=A m;by_cases k:u=0
  ·by_cases s:g=[49]
   ·
    have f:=A (show aC a=0 by unfold aC;rw[b];simp only[];rw[XQ c];rw[i,XQ (λh=>h.elim q l)];rw[XQ j];rw[m,XQ (λh=>h.elim (λx=>x k) (λx=>x s))]);subst k;subst s;exact lS
   ·
    have f:=A (show aC a=11 by unfold aC;rw[b];simp only[];rw[XQ c];rw[i,XQ (λh=>h.elim q l)];rw[XQ j];rw[m,XT (.inr s)]);subst k;have J:(g==[49])=O:=by rw[XN];exact s
    exact lS
  ·
   have f:=A (show aC a=11 by unfold aC;rw[b];simp only[];rw[XQ c];rw[i,XQ (λh=>h.elim q l)];rw[XQ j];rw[m,XT (.inl k)]);have L:(u !=0)=Y:=by rw[Yn];exact k
   exact lS
def qK(a:List UInt8)(w:U)(g:ln a<=300000)(c:jE w)(b:bE w):
  XY Xz 171 #[Yy (tx a)] w λe w'=>e=YC (G F (aC a))/\Yl w.heap.size w w':=by
 have d:=A (pB a w g c b);clear c b;go_enter func171,ntmps171;go_wp2_with(go_at_call 228;refine d.o.mono ?_;rintro e w1 ⟨x,y,rfl,_,f⟩;have i:=f.size)
 go_ret;exact⟨H,by repeat first|with_reducible refine Below.setCell ?_ YW _|with_reducible refine Below.alloc ?_ YW _|with_reducible refine jP ?_ YT Zg|with_reducible exact XI _ _⟩
end
section
open Kp
def P(e:Ed)(g:Z):Array Z:=#[G F e.kind,G F e.index,G F e.sx,G F e.sy,G F e.srise,G F e.srun,Yz e.gable,G F e.splate,G F e.sover,G F e.oside,Yy (tx e.oleft),Yy (tx e.oright),Yy (tx e.olow),Yy (tx e.ohigh),G F e.zkind,G F e.zwidth,G F e.zdepth,G F e.bwidth,G F e.bdepth,G F e.blength,G F e.bcount,G F e.bcost,g,G F e.lkind,G F e.lside,Yy (tx e.lweight),G F e.awidth,G F e.adepth,G F e.aspacing,G F e.aload,G F e.aspan,G F e.twidth,G F e.tlength,G F e.tlap,G F e.ttail,G F e.number,Yy (tx e.text)]
abbrev fg:Z:= V I 0 0
def Oq(k:Int):Ed:={oK with kind:=k}
def aF(e:Ed)(g:Z):(P e g).size=37:=rfl
attribute [local go_sem] aF
def dG(e:Ed)(g:Z):(P e g)[0]?=L (G F e.kind):=rfl
def eV(e:Ed)(g:Z):(P e g)[1]?=L (G F e.index):=rfl
def gJ(e:Ed)(g:Z):(P e g)[2]?=L (G F e.sx):=rfl
def il(e:Ed)(g:Z):(P e g)[3]?=L (G F e.sy):=rfl
def gL(e:Ed)(g:Z):(P e g)[4]?=L (G F e.srise):=rfl
def gK(e:Ed)(g:Z):(P e g)[5]?=L (G F e.srun):=rfl
def gM(e:Ed)(g:Z):(P e g)[6]?=L (Yz e.gable):=rfl
def gN(e:Ed)(g:Z):(P e g)[7]?=L (G F e.splate):=rfl
def gW(e:Ed)(g:Z):(P e g)[8]?=L (G F e.sover):=rfl
def gZ(e:Ed)(g:Z):(P e g)[9]?=L (G F e.oside):=rfl
def en(e:Ed)(g:Z):(P e g)[10]?=L (Yy (tx e.oleft)):=rfl
def ef(e:Ed)(g:Z):(P e g)[11]?=L (Yy (tx e.oright)):=rfl
def eh(e:Ed)(g:Z):(P e g)[12]?=L (Yy (tx e.olow)):=rfl
def dZ(e:Ed)(g:Z):(P e g)[13]?=L (Yy (tx e.ohigh)):=rfl
def dk(e:Ed)(g:Z):(P e g)[14]?=L (G F e.zkind):=rfl
def eL(e:Ed)(g:Z):(P e g)[15]?=L (G F e.zwidth):=rfl
def eP(e:Ed)(g:Z):(P e g)[16]?=L (G F e.zdepth):=rfl
def dW(e:Ed)(g:Z):(P e g)[17]?=L (G F e.bwidth):=rfl
def dX(e:Ed)(g:Z):(P e g)[18]?=L (G F e.bdepth):=rfl
def dU(e:Ed)(g:Z):(P e g)[19]?=L (G F e.blength):=rfl
def dV(e:Ed)(g:Z):(P e g)[20]?=L (G F e.bcount):=rfl
def eo(e:Ed)(g:Z):(P e g)[21]?=L (G F e.bcost):=rfl
def dt(e:Ed)(g:Z):(P e g)[22]?=L (g):=rfl
def eH(e:Ed)(g:Z):(P e g)[23]?=L (G F e.lkind):=rfl
def eI(e:Ed)(g:Z):(P e g)[24]?=L (G F e.lside):=rfl
def dY(e:Ed)(g:Z):(P e g)[25]?=L (Yy (tx e.lweight)):=rfl
def eO(e:Ed)(g:Z):(P e g)[26]?=L (G F e.awidth):=rfl
def eR(e:Ed)(g:Z):(P e g)[27]?=L (G F e.adepth):=rfl
def eK(e:Ed)(g:Z):(P e g)[28]?=L (G F e.aspacing):=rfl
def eB(e:Ed)(g:Z):(P e g)[29]?=L (G F e.aload):=rfl
def eM(e:Ed)(g:Z):(P e g)[30]?=L (G F e.aspan):=rfl
def ff(e:Ed)(g:Z):(P e g)[31]?=L (G F e.twidth):=rfl
def eY(e:Ed)(g:Z):(P e g)[32]?=L (G F e.tlength):=rfl
def fe(e:Ed)(g:Z):(P e g)[33]?=L (G F e.tlap):=rfl
def eZ(e:Ed)(g:Z):(P e g)[34]?=L (G F e.ttail):=rfl
def dd(e:Ed)(g:Z):(P e g)[35]?=L (G F e.number):=rfl
def dP(e:Ed)(g:Z):(P e g)[36]?=L (Yy (tx e.text)):=rfl
attribute [local go_sem] dG eV gJ il gL gK gM gN gW gZ en ef eh dZ dk eL eP dW dX dU dV eo dt eH eI dY eO eR eK eB eM ff eY fe eZ dd dP
theorem gH(c:Array Z)(t:Yj)(n:Nat)(cs:Array Z)(a:n=w.heap.size):(w.alloc (.cells c t)).setRow n cs=w.alloc (.cells cs t):=by
 subst a;unfold World.setRow U.alloc
 congr 1
 apply Array.ext_getElem?;intro k;simp only[Array.getElem?_modify,Array.getElem?_push];by_cases hk:k=w.heap.size
 ·subst hk;simp
 ·simp[hk,Ne.symm hk]
theorem j8(o:Obj)(n:Nat)(cs:Array Z)(a:n<w.heap.size):(w.alloc o).setRow n cs=(w.setRow n cs).alloc o:=by
 unfold World.setRow U.alloc
 congr 1
 apply Array.ext_getElem?;intro k;simp only[Array.getElem?_modify,Array.getElem?_push,Array.size_modify];by_cases hk:k=w.heap.size
 ·subst hk;simp[Nat.ne_of_lt a]
 ·simp[hk]
def km(w:U)(n:Nat)(cs:Array Z):w.drew.setRow n cs=(w.setRow n cs).drew:=rfl
def jv(w:U)(k n:Nat)(cs:Array Z):(w.drewN k).setRow n cs=(w.setRow n cs).drewN k:=rfl
attribute [local go_sem] gH j8 km jv
theorem setRow_heap(h:w.heap[n]?=L (.cells q t (0,0)))(cs:Array Z):(w.setRow n cs).heap[n]?=L (.cells cs t (0,0)):=by
 simp[World.setRow,Array.getElem?_modify,h]
theorem al{B n:Nat}(h:Yl B w W)(a:B<=n)(cs:Array Z):Yl B w (W.setRow n cs):=
 h.trans ⟨rfl,rfl,rfl,by simp[World.setRow],λk hk=>by simp only[World.setRow,Array.getElem?_modify];rw[XQ D]⟩
def lL(w:U)(a b:Obj):((w.alloc a).alloc b).heap[w.heap.size]?=L a:=by
 rw[heap_alloc_old _ _ YL,heap_alloc_new]
def qQ(w:U)(a b c:Obj):(((w.alloc a).alloc b).alloc c).heap[w.heap.size]?=L a:=by
 rw[heap_alloc_old _ _ YP,lL]
def Cp(w:U)(a b c:Obj):(((w.alloc a).alloc b).alloc c).heap[w.heap.size+1]?=L b:=by
 rw[heap_alloc_old _ _ YL];have:=heap_alloc_new (w.alloc a) b;exact a0r
def zi(w:U)(a b c:Obj):(((w.alloc a).alloc b).alloc c).heap[w.heap.size+1+1]?=L c:=by
 have:=heap_alloc_new ((w.alloc a).alloc b) c;exact a0r
def Ei(w:U)(a b c:Obj):(((w.alloc a).alloc b).alloc c).drew.heap[w.heap.size+1]?=L b:=Cp w a b c
def AJ(w:U)(a b c:Obj):(((w.alloc a).alloc b).alloc c).drew.heap[w.heap.size+1+1]?=L c:=zi w a b c
end
section
open Kp
def kj(B b:Nat)(wide num:Int)(a:K)(w:U):Prop:=
 ∃p,ES b p/\Bd B b 87 p [G F wide,G F num] (Lib.byteCells a) w
theorem kj.heap{B b:Nat}{wide num:Int}{c:K}(h:kj B b wide num c w):∃p v,w.heap[b]?=L (.cells #[p,v,G F wide,G F num] 87 (0,0)):=by
 obtain⟨p,_,_,v,a,_⟩:=h;exact⟨p,v,a⟩
theorem kj.Ho{B b:Nat}{wide num:Int}{c:K}(h:kj B b wide num c w):w.cell? ⟨b,2,I⟩=L (G F wide):=by
 obtain⟨p,v,a⟩:=h.heap;simp[World.cell?,a]
theorem kj.BQ{B b:Nat}{wide num:Int}{c:K}(h:kj B b wide num c w):w.cell? ⟨b,3,I⟩=L (G F num):=by
 obtain⟨p,v,a⟩:=h.heap;simp[World.cell?,a]
theorem kj.frozen{B b:Nat}{wide num:Int}{c:K}(h:kj B b wide num c w)(i:Nat):w.frozen? ⟨b,i,I⟩=O:=by
 obtain⟨p,v,a⟩:=h.heap;simp[World.frozen?,a]
theorem kj.lt{B b:Nat}{wide num:Int}{c:K}(h:kj B b wide num c w):b<w.heap.size:=by
 obtain⟨p,v,a⟩:=h.heap;exact(XV.1 a).1
theorem kj.low{B b:Nat}{wide num:Int}{a:K}(h:kj B b wide num a w):B<=b:=by
 obtain⟨p,_,c,_⟩:=h;exact c
theorem kj.WJ{B b:Nat}{wide num:Int}{a:K}(h:kj B b wide num a w)(x:Int):kj B b x num a (w.setCell ⟨b,2,I⟩ (G F x)):=by
 exact a0U
theorem kj.Wp{B b:Nat}{wide num:Int}{a:K}(h:kj B b wide num a w)(x:Int):kj B b wide x a (w.setCell ⟨b,3,I⟩ (G F x)):=by
 exact a0U
theorem kj.keep{B b:Nat}{wide num:Int}{a:K}(h:kj B b wide num a w)(i:Nat)(x:Z):aA B b w (w.setCell ⟨b,i,I⟩ x):=
 ⟨(XI _ _).setCell (p:=⟨b,i,I⟩) h.low _,(Yw _ _ _).setCell ⟨b,i,I⟩ rfl _⟩
theorem kj.below{B b:Nat}{wide num:Int}{a:K}(h:kj B b wide num a w)(e:Yl w.heap.size w w'):kj B b wide num a w':=by
 obtain⟨p,c,d⟩:=h;exact⟨p,c,d.below e⟩
structure Gl(w:U):Prop where
 pow:bE w
 maxl:jE w
 syn:∃a p,w.var? Xz "strconv.ErrSyntax" =L #[.iface a p]
 rng:∃a p,w.var? Xz "strconv.ErrRange" =L #[.iface a p]
 wrd:∀j,j<12->w.cell? ⟨0,1+j,I⟩=L (Yy (tx (dH.getD j [])))
theorem vL{n:String}{g:Nat}(a:Xz.globalNamed n=L g)(h:w.var? Xz n=L cs){B:Nat}(b:Yl B w w')(c:g<B):w'.var? Xz n=L cs:=by
 unfold U.var? at h⊢;rw[a] at h⊢;simp only[Option.bind_some] at h⊢;rw[b.block g c];exact h
theorem Gl.keep(h:Gl w){B:Nat}(a:Yl B w w')(n:9<=B):Gl w':=by
 obtain⟨h1,⟨m,h2⟩,⟨e,b,c⟩,⟨f,d,l⟩,k⟩:=h;exact⟨vL (g:=6) R h1 a D,⟨m,(a.cell (by show 1<B;omega)).trans h2⟩,
  ⟨e,b,vL (g:=4) R c a D⟩,⟨f,d,vL (g:=5) R l a D⟩,
  λj i=>(a.cell (by show 0<B;omega)).trans (k j i)⟩
def uw(B b:Nat)(wide num:Int)(a:K)(w:U)(e:Ending)(w':U):Prop:=
 e=YC (YF #[])/\kj B b wide num a w'/\aA B b w w'
def bV(B b:Nat)(wide num:Int)(a s:K)(w:U)(h:kj B b wide num a w)(t:ln a+ln s<=100000000)(l:B<=w.heap.size):
  XY Xz 96 #[ou b,Yy (tx s)] w (uw B b wide num (jg a s) w):=by
 obtain⟨p,g,d⟩:=h;have i:=A (LU B b _ p _ _ w d);rw[Lib.byteCells_length] at i;by_cases c:a=[]
 ·have q:¬0<ln a:=by rw[c];simp
  have k:=A (show jg a s=a++s by unfold jg;rw[XT c,c];rfl);have cs:=A (ke B b _ p _ _ (tx s) w d g qw (by rw[Lib.byteCells_length,af];omega) l);clear c d g;go_enter func96,ntmps96;go_wp2_with(first|(go_at_call 167;refine i.o.mono ?_;rintro e w1 ⟨rfl,rfl⟩)|(go_at_call 169;refine cs.o.mono ?_;rintro e w2 ⟨rfl,j,f⟩))
  go_end0;refine⟨H,?_,f⟩;rw[k.o];refine⟨_,.inr H,?_⟩;rw[dz];exact j
 ·have q:0<ln a:=List.length_pos_iff.2 c;have k:=A (show jg a s=a++[32]++s by unfold jg;rw[XQ c];simp);have n:=A (yb B b _ p _ _ 32 w d g qw (by rw[Lib.byteCells_length];omega) l);clear c d g;go_enter func96,ntmps96;go_wp2_with(first|(go_at_call 167;refine i.o.mono ?_;rintro e w1 ⟨rfl,rfl⟩)|(go_at_call 168;refine n.o.mono ?_;rintro e w2 ⟨rfl,j,f⟩;have r:=f.low.size)|(go_at_call 169;refine(ke B b _ _ _ _ (tx s) _ j (.inr H) qw (by rw[Yc,Lib.byteCells_length,af];simp;omega) D).mono ?_;rintro e u ⟨rfl,m,o⟩))
  go_end0;refine⟨H,?_,f.trans o⟩;rw[k.o];refine⟨_,.inr H,?_⟩;rw[dz,dz];exact m
def bw(w:U)(c:Nat)(T:Yj)(l:List Z):Prop:=w.heap[c]?=L (.cells l.toArray T (0,0))
theorem bw.bd{B b c:Nat}(h:bw w c T l)(hk:aA B b w w')(a:c≠b)(d:T≠5):bw w' c T l:=
 hk.kept c _ h (λe=>a (by cases e;rfl)) (λcs f e=>d (by cases e;rfl))
theorem bw.cell(h:bw w c T l)(i:Nat):w.cell? ⟨c,i,I⟩=l[i]?:=by unfold bw at h;simp[World.cell?,h]
theorem bw.below(h:bw w c T l)(b:Yl B0 w w')(a:c<B0):bw w' c T l:=(b.block c a).trans h
theorem bw.lt(h:bw w c T l):c<w.heap.size:=(XV.1 h).1
abbrev rj(l:List Int):List Z:=l.map (G F ·)
def aZ(n:Int):Prop:= -9223372036854775808<=n/\n<=9223372036854775807
def rB(a s:K):(jg a s).length<=ln a+ln s+1:=by
 unfold jg;split
 ·omega
 ·simp;omega
def qH{n:Int}(h:aZ n):(Lib.itoa n).length<=20:=by
 obtain⟨a,h1⟩:=h;unfold Lib.itoa;split
 ·have:=zP n.natAbs 19 YK D;rw[List.length_cons,Lib.decDigits_length];omega
 ·have:=zP n.toNat 19 YK D;rw[Lib.decDigits_length];omega
def iH{l:List Int}(h:∀n∈l,aZ n)(a:K):(bt a (jD l)).length<=ln a+21*ln l:=by
 induction l generalizing a with
 |nil=>simp[jD,bt]
 |cons n l c=>
  have h1:=qH (h n YL);have h2:=rB a (Lib.itoa n);have b:=c (λm d=>h m (by simp[d])) (jg a (Lib.itoa n));simp only[jD,List.map_cons,gX,List.length_cons] at b⊢;omega
theorem jd{l:List o}(h:k<ln l):l.take (k+1)=l.take k++[l[k]]:=List.take_succ_eq_append_getElem h
def JE(x:Int)(l:List Int)(n:Int):fY x (l++[n])=if pS n then 2 else fY x l:=by
 unfold fY;rw[List.any_append,List.any_cons,List.any_nil,Bool.or_false];generalize l.any pS=a;generalize pS n=b;cases a<;>cases b<;>rfl
def nD(a:K)(b:List K)(s:K):bt a (b++[s])=jg (bt a b) s:=by rw[kM];rfl
structure Pe(B b:Nat)(wide num:Int)(a:K)(l:List Int)(w:U)(i:Z)(wr:U):Prop where
 ex:∃k:Nat,k<=ln l/\i=G F (k:Int)/\kj B b (fY wide (l.take k)) num (bt a (jD (l.take k))) wr
 keep:aA B b w wr
def ey(B b c:Nat)(T:Yj)(wide num:Int)(a:K)(l:List Int)(ab:Nat)(w:U)(h:kj B b wide num a w)(S:bw w c T (rj l))(Y:c≠b)(hT:T≠5)
  (C:∀n∈l,aZ n)(au:ln a+21*ln l<=10000000)(aj:B<=w.heap.size)(N:Gl w)(E:9<=B):
  XY Xz 97 #[ou b,V (L ⟨c,0,I⟩) (ln l) ab] w (uw B b (fY wide l) num (bt a (jD l)) w):=by
 have ap:ln l<=10000000:=D;have ag:=A (show Pe B b wide num a l w (G F 0) w from⟨⟨0,D,rfl,by simp only[List.take_zero];exact h⟩,aA.refl _ _ _⟩);have HG:=A N;have Z:=A S;have P:=A C;clear h N S C;go_enter func97,ntmps97;go_wp2;go_loopw [8] (λi wr=>Pe B b wide num a l w i wr) (λi _=>((ln l:Int)-Yf i).toNat)
 case atStart=>exact ag.o
 case round=>
  obtain⟨⟨k,hk,rfl,d⟩,f⟩:=hrel;have av:=f.low.size;by_cases x:k<ln l
  ·have R:=Z.o.bd f Y hT;have ac:wr.cell? ⟨c,k,I⟩=L (G F l[k]):=by rw[R.cell];simp[x]
   have z:=P.o l[k] (List.getElem_mem x);have u:=HG.o.keep f.low E;have X:=qH z;have am:(bt a (jD (l.take k))).length<=ln a+21*k:=by
    have:=iH (l:=l.take k) (λn s=>P.o n (List.mem_of_mem_take s)) a;rw[List.length_take] at this;omega
   have o:=A (show fY wide (l.take (k+1))=(if pS l[k] then 2 else fY wide (l.take k))/\bt a (jD (l.take (k+1)))=jg (bt a (jD (l.take k))) (Lib.itoa l[k]) by
    rw[jd x,JE,CP];exact⟨H,by show bt a (_++[Lib.itoa l[k]])=_;rw[nD]⟩)
   obtain⟨n,s⟩:=aa (l[k]);rw[s] at ac z X o;have M:∀j,aA B b wr j->kj B b (fY wide (l.take (k+1))) num (bt a (jD (l.take (k+1)))) j->Pe B b wide num a l w (G F ((k:Int)+1)) j:=
    λj af W=>⟨⟨k+1,D,YL,W⟩,f.trans af⟩
   have J:=A M;have ak:=A f;have ah:=d.Ho;have ar:=d.frozen 2;clear s R M f;obtain⟨aq,ai⟩:=z;cases m:pS n with
   |true=>
    have r:n< -1073741824\/1073741824<n:=by unfold pS at m;simpa using m
    have q:=A (d.WJ 2);have Q:=A (d.keep 2 (G F 2));have ad:=A (u.keep Q.o.low E);have ao:(wr.setCell ⟨b,2,I⟩ (G F 2)).heap.size=wr.heap.size:=by simp[World.setCell]
    have v:=A (kg n (wr.setCell ⟨b,2,I⟩ (G F 2)) D D ad.o.pow);rw[m] at o;clear d u;rcases r with r|r
    ·exact a0W
    ·exact a0W
   |false=>
    have r:¬n< -1073741824/\¬1073741824<n:=by unfold pS at m;simpa using m
    obtain⟨al,an⟩:=r;have q:=A d;have v:=A (kg n wr D D u.pow);rw[m] at o;clear d u;go_wp2_with(first|(go_at_call 170;refine v.o.mono ?_;rintro e W1 ⟨rfl,g⟩;have ae:=g.size)|(go_at_call 96;refine(bV B b _ num _ (Lib.itoa n) W1 (q.o.below g) D D).mono ?_;rintro e W2 ⟨rfl,t,y⟩))
    refine⟨J.o _ ((aA.aY g D).trans y) ZK,YO⟩
  ·exact a0V
def zu(x:Int)(l:List K)(a:K):js aC x (l++[a])=if js aC x l=0 then aC a else js aC x l:=by unfold js;rw[List.foldl_append];rfl
def qi{l:List K}{m:Nat}(h:∀a∈l,ln a<=m)(b:K):(bt b l).length<=ln b+(m+1)*ln l:=by
 induction l generalizing b with
 |nil=>simp[bt]
 |cons a l c=>
  have h1:=h a YL;have h2:=rB b a;have e:=c (λm d=>h m (by simp[d])) (jg b a);rw[gX,List.length_cons,Nat.mul_succ];omega
abbrev sY(l:List K):List Z:=l.map (λa=> Yy (tx a))
structure NI(B b:Nat)(wide num:Int)(a:K)(l:List K)(w:U)(i:Z)(wr:U):Prop where
 ex:∃k:Nat,k<=ln l/\i=G F (k:Int)/\kj B b wide (js aC num (l.take k)) (bt a (l.take k)) wr
 keep:aA B b w wr
def yq(B b c:Nat)(T:Yj)(wide num:Int)(g:K)(l:List K)(ab:Nat)(w:U)(h:kj B b wide num g w)(S:bw w c T (sY l))(Y:c≠b)(hT:T≠5)
  (C:∀a∈l,ln a<=1000)(am:ln l<=100)(an:ln g<=1000000)(aj:B<=w.heap.size)(N:Gl w)(W:9<=B):
  XY Xz 98 #[ou b,V (L ⟨c,0,I⟩) (ln l) ab] w (uw B b wide (js aC num l) (bt g l) w):=by
 have ai:=A (show NI B b wide num g l w (G F 0) w from⟨⟨0,D,rfl,by simp only[List.take_zero];exact h⟩,aA.refl _ _ _⟩);have HG:=A N;have Z:=A S;have P:=A C;clear h N S C;go_enter func98,ntmps98;go_wp2;go_loopw [9] (λi wr=>NI B b wide num g l w i wr) (λi _=>((ln l:Int)-Yf i).toNat)
 case atStart=>exact ai.o
 case round=>
  obtain⟨⟨k,hk,rfl,d⟩,f⟩:=hrel;have ao:=f.low.size;by_cases v:k<ln l
  ·have Q:=Z.o.bd f Y hT;have ad:wr.cell? ⟨c,k,I⟩=L (Yy (tx l[k])):=by rw[Q.cell];simp[v]
   have af:=P.o l[k] (List.getElem_mem v);have z:=HG.o.keep f.low W;have al:(bt g (l.take k)).length<=ln g+1001*k:=by
    have:=qi (l:=l.take k) (m:=1000) (λn hn=>P.o n (List.mem_of_mem_take hn)) g;rw[List.length_take] at this;have:min k (ln l)=k:=D
    simp_all
   have o:=A (show js aC num (l.take (k+1))=(if js aC num (l.take k)=0 then aC l[k] else js aC num (l.take k))/\bt g (l.take (k+1))=jg (bt g (l.take k)) l[k] by
    rw[jd v,zu,nD];exact⟨H,H⟩)
   obtain⟨a,R⟩:=aa (l[k]);rw[R] at ad af o;obtain⟨x,hx⟩:=aa (js aC num (l.take k));rw[hx] at o d;have M:∀j,aA B b wr j->kj B b wide (js aC num (l.take (k+1))) (bt g (l.take (k+1))) j->NI B b wide num g l w (G F ((k:Int)+1)) j:=
    λj ag X=>⟨⟨k+1,D,YL,X⟩,f.trans ag⟩
   have E:=A M;have J:=A (qK a wr D z.maxl z.pow);have q:=A d;clear R hx Q M f d z;by_cases u:x=0
   ·subst u;rw[XT rfl] at o;go_wp2_with(first|(go_at_call 171;refine J.o.mono ?_;rintro e W1 ⟨rfl,s⟩;have ae:=s.size;have r:=A (q.o.below s);have ac:=r.o.BQ;have ah:=r.o.frozen 3)|(go_at_call 96;refine(bV B b wide (aC a) _ a _ (r.o.Wp _) D (by simp[World.setCell];omega)).mono ?_;rintro e W2 ⟨rfl,t,y⟩))
    refine⟨E.o _ (((aA.aY s D).trans (r.o.keep 3 _)).trans y) ZK,YO⟩
   ·have ak:(x==0)=O:=by rw[XN];exact u
    rw[XQ u] at o;clear u;go_wp2_with(first|(go_at_call 171;refine J.o.mono ?_;rintro e W1 ⟨rfl,s⟩;have ae:=s.size;have r:=A (q.o.below s);have ac:=r.o.BQ;have ah:=r.o.frozen 3)|(go_at_call 96;refine(bV B b wide x _ a _ r.o D D).mono ?_;rintro e W2 ⟨rfl,t,y⟩))
    refine⟨E.o _ ((aA.aY s D).trans y) ZK,YO⟩
  ·exact a0V
def If(s:K)(i:Z):Prop:=∃k:Nat,k<=ln s/\i=G F (k:Int)/\(s.take k).all qk=Y
def qy(s:K)(w:U)(a:ln s<=1000000):
  XY Xz 27 #[Yy (tx s)] w λe w'=>e=YC (Yz (kH s))/\w'=w:=by
 go_enter func27,ntmps27;go_wp2
 go_loop [7] (λi=>If s i) (λi=>((ln s:Int)-Yf i).toNat)
 case atStart=>exact⟨0,D,rfl,rfl⟩
 case round=>
  exact a0X
end
section
open Kp
def eS{T b i:Yj}{d:TypeDesc}(j:Xz.underlying T=L (.map b i))(hk:Xz.underlying b=L d)(w:U)(a f:Array MapEntry)(c:Nat)(k v:Z)(hi:MapKept.IsKey d k)
  (l:Instr.findNow d k a.toList 0=L I)(h:a.push {key:=k,val:=v,born:=c}=f):
  (Instr.mapUpdate T (.map (L w.heap.size)) k v).run Xz (w.alloc (.map a c))= .ok () (w.alloc (.map f (c+1))):=by
 have e:(w.alloc (.map a c)).heap[w.heap.size]?=L (.map a c):=XZ w _;have g:(Instr.checkKey O 10000 b k).run Xz (w.alloc (.map a c))= .ok () (w.alloc (.map a c)):=MapKept.run_checkKey hk hi O 9999;subst h;simp[Instr.mapUpdate,run_underlying j,MapKept.run_getObj_map e,g,MapKept.run_findKey hk l,MapKept.run_setObj_map _ e,Result.andThen];unfold U.alloc
 congr 1
 apply Array.ext_getElem?;intro k;simp only[Array.getElem?_setIfInBounds,Array.getElem?_push,Array.size_push];by_cases hk:k=w.heap.size
 ·subst hk;simp
 ·simp[hk,Ne.symm hk]
def CX{T e g:Yj}{d:TypeDesc}(i:Xz.underlying T=L (.map e g))(hk:Xz.underlying e=L d)(w:U)(b c:Nat)(a:Array MapEntry)(j:w.heap[b]?=L (.map a c))(k:Z)(hi:MapKept.IsKey d k)(h:Bool)
  {r:Option (Nat×Z)}(l:Instr.findNow d k a.toList 0=L r){z:Z}(m:(zeroValue g).run Xz w= .ok z w):
  (Instr.lookup T (.map (L b)) k h).run Xz w= .ok (if h then YF #[(r.map (·.2)).getD z,Yz r.isSome] else(r.map (·.2)).getD z) w:=by
 have f:(Instr.checkKey a.isEmpty 10000 e k).run Xz w= .ok () w:=MapKept.run_checkKey hk hi a.isEmpty 9999;cases r with
 |none=>simp[Instr.lookup,run_underlying i,MapKept.run_getObj_map j,f,MapKept.run_findKey hk l,m,Result.andThen]
 |some p=>simp[Instr.lookup,run_underlying i,MapKept.run_getObj_map j,f,MapKept.run_findKey hk l,Result.andThen]
abbrev WA:Array MapEntry:=#[]
abbrev U3:Array MapEntry:=#[{key:= G F 4,val:= Yy ⟨#[112,117,114,108,105,110]⟩,born:=0}]
abbrev Vj:Array MapEntry:=#[{key:= G F 4,val:= Yy ⟨#[112,117,114,108,105,110]⟩,born:=0},{key:= G F 5,val:= Yy ⟨#[111,112,101,110,105,110,103]⟩,born:=1}]
abbrev Vm:Array MapEntry:=#[{key:= G F 4,val:= Yy ⟨#[112,117,114,108,105,110]⟩,born:=0},{key:= G F 5,val:= Yy ⟨#[111,112,101,110,105,110,103]⟩,born:=1},{key:= G F 6,val:= Yy ⟨#[115,105,122,101]⟩,born:=2}]
abbrev Vn:Array MapEntry:=#[{key:= G F 4,val:= Yy ⟨#[112,117,114,108,105,110]⟩,born:=0},{key:= G F 5,val:= Yy ⟨#[111,112,101,110,105,110,103]⟩,born:=1},{key:= G F 6,val:= Yy ⟨#[115,105,122,101]⟩,born:=2},{key:= G F 7,val:= Yy ⟨#[98,97,114]⟩,born:=3}]
abbrev UC:Array MapEntry:=#[{key:= G F 4,val:= Yy ⟨#[112,117,114,108,105,110]⟩,born:=0},{key:= G F 5,val:= Yy ⟨#[111,112,101,110,105,110,103]⟩,born:=1},{key:= G F 6,val:= Yy ⟨#[115,105,122,101]⟩,born:=2},{key:= G F 7,val:= Yy ⟨#[98,97,114]⟩,born:=3},{key:= G F 10,val:= Yy ⟨#[108,111,97,100]⟩,born:=4}]
abbrev M9:Array MapEntry:=#[{key:= G F 4,val:= Yy ⟨#[112,117,114,108,105,110]⟩,born:=0},{key:= G F 5,val:= Yy ⟨#[111,112,101,110,105,110,103]⟩,born:=1},{key:= G F 6,val:= Yy ⟨#[115,105,122,101]⟩,born:=2},{key:= G F 7,val:= Yy ⟨#[98,97,114]⟩,born:=3},{key:= G F 10,val:= Yy ⟨#[108,111,97,100]⟩,born:=4},{key:= G F 11,val:= Yy ⟨#[115,112,97,110]⟩,born:=5}]
abbrev V5:Array MapEntry:=#[]
abbrev Vf:Array MapEntry:=#[{key:= Yy ⟨#[110,97,109,101]⟩,val:= G F 1,born:=0}]
abbrev UN:Array MapEntry:=#[{key:= Yy ⟨#[110,97,109,101]⟩,val:= G F 1,born:=0},{key:= Yy ⟨#[115,105,100,101]⟩,val:= G F 2,born:=1}]
abbrev Ux:Array MapEntry:=#[{key:= Yy ⟨#[110,97,109,101]⟩,val:= G F 1,born:=0},{key:= Yy ⟨#[115,105,100,101]⟩,val:= G F 2,born:=1},{key:= Yy ⟨#[115,112,97,99,105,110,103]⟩,val:= G F 3,born:=2}]
abbrev Vz:Array MapEntry:=#[{key:= Yy ⟨#[110,97,109,101]⟩,val:= G F 1,born:=0},{key:= Yy ⟨#[115,105,100,101]⟩,val:= G F 2,born:=1},{key:= Yy ⟨#[115,112,97,99,105,110,103]⟩,val:= G F 3,born:=2},{key:= Yy ⟨#[112,117,114,108,105,110]⟩,val:= G F 4,born:=3}]
abbrev Vr:Array MapEntry:=#[{key:= Yy ⟨#[110,97,109,101]⟩,val:= G F 1,born:=0},{key:= Yy ⟨#[115,105,100,101]⟩,val:= G F 2,born:=1},{key:= Yy ⟨#[115,112,97,99,105,110,103]⟩,val:= G F 3,born:=2},{key:= Yy ⟨#[112,117,114,108,105,110]⟩,val:= G F 4,born:=3},{key:= Yy ⟨#[111,112,101,110,105,110,103]⟩,val:= G F 5,born:=4}]
abbrev Vw:Array MapEntry:=#[{key:= Yy ⟨#[110,97,109,101]⟩,val:= G F 1,born:=0},{key:= Yy ⟨#[115,105,100,101]⟩,val:= G F 2,born:=1},{key:= Yy ⟨#[115,112,97,99,105,110,103]⟩,val:= G F 3,born:=2},{key:= Yy ⟨#[112,117,114,108,105,110]⟩,val:= G F 4,born:=3},{key:= Yy ⟨#[111,112,101,110,105,110,103]⟩,val:= G F 5,born:=4},{key:= Yy ⟨#[115,105,122,101]⟩,val:= G F 6,born:=5}]
abbrev VN:Array MapEntry:=#[{key:= Yy ⟨#[110,97,109,101]⟩,val:= G F 1,born:=0},{key:= Yy ⟨#[115,105,100,101]⟩,val:= G F 2,born:=1},{key:= Yy ⟨#[115,112,97,99,105,110,103]⟩,val:= G F 3,born:=2},{key:= Yy ⟨#[112,117,114,108,105,110]⟩,val:= G F 4,born:=3},{key:= Yy ⟨#[111,112,101,110,105,110,103]⟩,val:= G F 5,born:=4},{key:= Yy ⟨#[115,105,122,101]⟩,val:= G F 6,born:=5},{key:= Yy ⟨#[98,97,114]⟩,val:= G F 7,born:=6}]
abbrev UY:Array MapEntry:=#[{key:= Yy ⟨#[110,97,109,101]⟩,val:= G F 1,born:=0},{key:= Yy ⟨#[115,105,100,101]⟩,val:= G F 2,born:=1},{key:= Yy ⟨#[115,112,97,99,105,110,103]⟩,val:= G F 3,born:=2},{key:= Yy ⟨#[112,117,114,108,105,110]⟩,val:= G F 4,born:=3},{key:= Yy ⟨#[111,112,101,110,105,110,103]⟩,val:= G F 5,born:=4},{key:= Yy ⟨#[115,105,122,101]⟩,val:= G F 6,born:=5},{key:= Yy ⟨#[98,97,114]⟩,val:= G F 7,born:=6},{key:= Yy ⟨#[107,101,114,102]⟩,val:= G F 8,born:=7}]
abbrev VE:Array MapEntry:=#[{key:= Yy ⟨#[110,97,109,101]⟩,val:= G F 1,born:=0},{key:= Yy ⟨#[115,105,100,101]⟩,val:= G F 2,born:=1},{key:= Yy ⟨#[115,112,97,99,105,110,103]⟩,val:= G F 3,born:=2},{key:= Yy ⟨#[112,117,114,108,105,110]⟩,val:= G F 4,born:=3},{key:= Yy ⟨#[111,112,101,110,105,110,103]⟩,val:= G F 5,born:=4},{key:= Yy ⟨#[115,105,122,101]⟩,val:= G F 6,born:=5},{key:= Yy ⟨#[98,97,114]⟩,val:= G F 7,born:=6},{key:= Yy ⟨#[107,101,114,102]⟩,val:= G F 8,born:=7},{key:= Yy ⟨#[116,105,108,101]⟩,val:= G F 9,born:=8}]
abbrev Sj:Array MapEntry:=#[{key:= Yy ⟨#[110,97,109,101]⟩,val:= G F 1,born:=0},{key:= Yy ⟨#[115,105,100,101]⟩,val:= G F 2,born:=1},{key:= Yy ⟨#[115,112,97,99,105,110,103]⟩,val:= G F 3,born:=2},{key:= Yy ⟨#[112,117,114,108,105,110]⟩,val:= G F 4,born:=3},{key:= Yy ⟨#[111,112,101,110,105,110,103]⟩,val:= G F 5,born:=4},{key:= Yy ⟨#[115,105,122,101]⟩,val:= G F 6,born:=5},{key:= Yy ⟨#[98,97,114]⟩,val:= G F 7,born:=6},{key:= Yy ⟨#[107,101,114,102]⟩,val:= G F 8,born:=7},{key:= Yy ⟨#[116,105,108,101]⟩,val:= G F 9,born:=8},{key:= Yy ⟨#[108,111,97,100]⟩,val:= G F 10,born:=9}]
abbrev SH:Array MapEntry:=#[{key:= Yy ⟨#[110,97,109,101]⟩,val:= G F 1,born:=0},{key:= Yy ⟨#[115,105,100,101]⟩,val:= G F 2,born:=1},{key:= Yy ⟨#[115,112,97,99,105,110,103]⟩,val:= G F 3,born:=2},{key:= Yy ⟨#[112,117,114,108,105,110]⟩,val:= G F 4,born:=3},{key:= Yy ⟨#[111,112,101,110,105,110,103]⟩,val:= G F 5,born:=4},{key:= Yy ⟨#[115,105,122,101]⟩,val:= G F 6,born:=5},{key:= Yy ⟨#[98,97,114]⟩,val:= G F 7,born:=6},{key:= Yy ⟨#[107,101,114,102]⟩,val:= G F 8,born:=7},{key:= Yy ⟨#[116,105,108,101]⟩,val:= G F 9,born:=8},{key:= Yy ⟨#[108,111,97,100]⟩,val:= G F 10,born:=9},{key:= Yy ⟨#[115,112,97,110]⟩,val:= G F 11,born:=10}]
abbrev wQ:Array MapEntry:=#[{key:= Yy ⟨#[110,97,109,101]⟩,val:= G F 1,born:=0},{key:= Yy ⟨#[115,105,100,101]⟩,val:= G F 2,born:=1},{key:= Yy ⟨#[115,112,97,99,105,110,103]⟩,val:= G F 3,born:=2},{key:= Yy ⟨#[112,117,114,108,105,110]⟩,val:= G F 4,born:=3},{key:= Yy ⟨#[111,112,101,110,105,110,103]⟩,val:= G F 5,born:=4},{key:= Yy ⟨#[115,105,122,101]⟩,val:= G F 6,born:=5},{key:= Yy ⟨#[98,97,114]⟩,val:= G F 7,born:=6},{key:= Yy ⟨#[107,101,114,102]⟩,val:= G F 8,born:=7},{key:= Yy ⟨#[116,105,108,101]⟩,val:= G F 9,born:=8},{key:= Yy ⟨#[108,111,97,100]⟩,val:= G F 10,born:=9},{key:= Yy ⟨#[115,112,97,110]⟩,val:= G F 11,born:=10},{key:= Yy ⟨#[114,101,109,111,118,101]⟩,val:= G F 12,born:=11}]
def tU(w:U):XY Xz 26 #[] w λe w'=>e=YC (.map (L w.heap.size))/\w'=w.alloc (.map M9 6):=by
 have a:=@run_makeMap Xz;have g:=eS (T:=77) underlying77 underlying3 w WA U3 0 (G F 4) (Yy ⟨#[112,117,114,108,105,110]⟩) Y8 H H;have u1:=eS (T:=77) underlying77 underlying3 w U3 Vj 1 (G F 5) (Yy ⟨#[111,112,101,110,105,110,103]⟩) Y8 H H;have b:=eS (T:=77) underlying77 underlying3 w Vj Vm 2 (G F 6) (Yy ⟨#[115,105,122,101]⟩) Y8 H H;have d:=eS (T:=77) underlying77 underlying3 w Vm Vn 3 (G F 7) (Yy ⟨#[98,97,114]⟩) Y8 H H;have c:=eS (T:=77) underlying77 underlying3 w Vn UC 4 (G F 10) (Yy ⟨#[108,111,97,100]⟩) Y8 H H;have f:=eS (T:=77) underlying77 underlying3 w UC M9 5 (G F 11) (Yy ⟨#[115,112,97,110]⟩) Y8 H H;go_enter func26,ntmps26;exact a0h
def GA(w:U):XY Xz 106 #[] w λe w'=>e=YC (.map (L w.heap.size))/\w'=w.alloc (.map wQ 12):=by
 have b:=@run_makeMap Xz;have m:=eS (T:=145) underlying145 underlying9 w V5 Vf 0 (Yy ⟨#[110,97,109,101]⟩) (G F 1) Y8 R H;have u1:=eS (T:=145) underlying145 underlying9 w Vf UN 1 (Yy ⟨#[115,105,100,101]⟩) (G F 2) Y8 R H;have c:=eS (T:=145) underlying145 underlying9 w UN Ux 2 (Yy ⟨#[115,112,97,99,105,110,103]⟩) (G F 3) Y8 R H;have f:=eS (T:=145) underlying145 underlying9 w Ux Vz 3 (Yy ⟨#[112,117,114,108,105,110]⟩) (G F 4) Y8 R H;have d:=eS (T:=145) underlying145 underlying9 w Vz Vr 4 (Yy ⟨#[111,112,101,110,105,110,103]⟩) (G F 5) Y8 R H;have j:=eS (T:=145) underlying145 underlying9 w Vr Vw 5 (Yy ⟨#[115,105,122,101]⟩) (G F 6) Y8 R H;have n:=eS (T:=145) underlying145 underlying9 w Vw VN 6 (Yy ⟨#[98,97,114]⟩) (G F 7) Y8 R H;have k:=eS (T:=145) underlying145 underlying9 w VN UY 7 (Yy ⟨#[107,101,114,102]⟩) (G F 8) Y8 R H;have i:=eS (T:=145) underlying145 underlying9 w UY VE 8 (Yy ⟨#[116,105,108,101]⟩) (G F 9) Y8 R H;have l:=eS (T:=145) underlying145 underlying9 w VE Sj 9 (Yy ⟨#[108,111,97,100]⟩) (G F 10) Y8 R H;have a:=eS (T:=145) underlying145 underlying9 w Sj SH 10 (Yy ⟨#[115,112,97,110]⟩) (G F 11) Y8 R H;have g:=eS (T:=145) underlying145 underlying9 w SH wQ 11 (Yy ⟨#[114,101,109,111,118,101]⟩) (G F 12) Y8 R H;go_enter func106,ntmps106;exact a0h
theorem Mt(n:Int):Instr.findNow (.int .i64) (.int .i64 n) M9.toList 0=L (if n=4 then L (0,.string (tx iy)) else if n=5 then L (1,.string (tx fD)) else if n=6 then L (2,.string (tx lE)) else if n=7 then L (3,.string (tx mH)) else if n=10 then L (4,.string (tx lN)) else if n=11 then L (5,.string (tx mU)) else I):=by
 simp only[Instr.findNow,Instr.sameNow,Yr]
 by_cases e:n=4
 ·subst e;rfl
 by_cases d:n=5
 ·subst d;rfl
 by_cases f:n=6
 ·subst f;rfl
 by_cases b:n=7
 ·subst b;rfl
 by_cases c:n=10
 ·subst c;rfl
 by_cases a:n=11
 ·subst a;rfl
 have i:(n==4)=O:=by simpa using e
 have g:(n==5)=O:=by simpa using d
 have k:(n==6)=O:=by simpa using f
 have h:(n==7)=O:=by simpa using b
 have l:(n==10)=O:=by simpa using c
 have j:(n==11)=O:=by simpa using a
 simp[i,g,k,h,l,j,e,d,f,b,c,a]
theorem Eb(w:U)(b c:Nat)(f:w.heap[b]?=L (.map M9 c))(n:Int)(d:Bool):
  (Instr.lookup 77 (.map (L b)) (.int .i64 n) d).run Xz w= .ok (if d then .tuple #[.string (tx (qB n)),.bool (j9 n)] else .string (tx (qB n))) w:=by
 have l:(zeroValue 9).run Xz w= .ok (.string ⟨#[]⟩) w:=by kernel_rfl
 rw[CX underlying77 underlying3 w b c M9 f (.int .i64 n) (by simp[MapKept.IsKey]) d (Mt n) l]
 unfold qB j9
 congr 1
 by_cases j:n=4
 ·subst j;rfl
 by_cases i:n=5
 ·subst i;rfl
 by_cases k:n=6
 ·subst k;rfl
 by_cases e:n=7
 ·subst e;rfl
 by_cases g:n=10
 ·subst g;rfl
 by_cases a:n=11
 ·subst a;rfl
 have f:(n==4||n==5||n==6||n==7||n==10||n==11)=O:=by simp[j,i,k,e,g,a]
 rw[f]
 simp only[j,i,k,e,g,a,Yu]
 rfl
def jJ(a b:K):(tx a==tx b)=YG (a=b):=by
 rw[beq_toListBytes,ByteArray.toList_eq,ByteArray.toList_eq,bH,bH,Bool.eq_iff_iff];simp
theorem Ns(s:K):Instr.findNow .string (.string (tx s)) wQ.toList 0=L (if s=qd then L (0,.int .i64 1) else if s=nT then L (1,.int .i64 2) else if s=iF then L (2,.int .i64 3) else if s=iy then L (3,.int .i64 4) else if s=fD then L (4,.int .i64 5) else if s=lE then L (5,.int .i64 6) else if s=mH then L (6,.int .i64 7) else if s=qa then L (7,.int .i64 8) else if s=p8 then L (8,.int .i64 9) else if s=lN then L (9,.int .i64 10) else if s=mU then L (10,.int .i64 11) else if s=iL then L (11,.int .i64 12) else I):=by
 have r:(tx s==⟨#[110,97,109,101]⟩)=decide (s=qd):=jJ s qd
 have p:(tx s==⟨#[115,105,100,101]⟩)=decide (s=nT):=jJ s nT
 have n:(tx s==⟨#[115,112,97,99,105,110,103]⟩)=decide (s=iF):=jJ s iF
 have x:(tx s==⟨#[112,117,114,108,105,110]⟩)=decide (s=iy):=jJ s iy
 have q:(tx s==⟨#[111,112,101,110,105,110,103]⟩)=decide (s=fD):=jJ s fD
 have m:(tx s==⟨#[115,105,122,101]⟩)=decide (s=lE):=jJ s lE
 have v:(tx s==⟨#[98,97,114]⟩)=decide (s=mH):=jJ s mH
 have u:(tx s==⟨#[107,101,114,102]⟩)=decide (s=qa):=jJ s qa
 have o:(tx s==⟨#[116,105,108,101]⟩)=decide (s=p8):=jJ s p8
 have t:(tx s==⟨#[108,111,97,100]⟩)=decide (s=lN):=jJ s lN
 have w:(tx s==⟨#[115,112,97,110]⟩)=decide (s=mU):=jJ s mU
 have y:(tx s==⟨#[114,101,109,111,118,101]⟩)=decide (s=iL):=jJ s iL
 simp only[Instr.findNow,Instr.sameNow,r,p,n,x,q,m,v,u,o,t,w,y]
 by_cases c:s=qd
 ·rw[XT c];simp only[Yb c]
 rw[XQ c];simp only[XU c]
 by_cases d:s=nT
 ·rw[XT d];simp only[Yb d]
 rw[XQ d];simp only[XU d]
 by_cases i:s=iF
 ·rw[XT i];simp only[Yb i]
 rw[XQ i];simp only[XU i]
 by_cases a:s=iy
 ·rw[XT a];simp only[Yb a]
 rw[XQ a];simp only[XU a]
 by_cases e:s=fD
 ·rw[XT e];simp only[Yb e]
 rw[XQ e];simp only[XU e]
 by_cases j:s=lE
 ·rw[XT j];simp only[Yb j]
 rw[XQ j];simp only[XU j]
 by_cases b:s=mH
 ·rw[XT b];simp only[Yb b]
 rw[XQ b];simp only[XU b]
 by_cases h:s=qa
 ·rw[XT h];simp only[Yb h]
 rw[XQ h];simp only[XU h]
 by_cases f:s=p8
 ·rw[XT f];simp only[Yb f]
 rw[XQ f];simp only[XU f]
 by_cases k:s=lN
 ·rw[XT k];simp only[Yb k]
 rw[XQ k];simp only[XU k]
 by_cases g:s=mU
 ·rw[XT g];simp only[Yb g]
 rw[XQ g];simp only[XU g]
 by_cases l:s=iL
 ·rw[XT l];simp only[Yb l]
 rw[XQ l];simp only[XU l]
theorem Nv(w:U)(b c:Nat)(r:w.heap[b]?=L (.map wQ c))(s:K):
  (Instr.lookup 145 (.map (L b)) (.string (tx s)) O).run Xz w= .ok (.int .i64 (kindOf s)) w:=by
 have q:(zeroValue 3).run Xz w= .ok (.int .i64 0) w:=by kernel_rfl
 rw[CX underlying145 underlying9 w b c wQ r (.string (tx s)) (by simp[MapKept.IsKey]) O (Ns s) q]
 unfold kindOf
 congr 1
 by_cases e:s=qd
 ·rw[XT e,XT e];rfl
 rw[XQ e,XQ e]
 by_cases f:s=nT
 ·rw[XT f,XT f];rfl
 rw[XQ f,XQ f]
 by_cases m:s=iF
 ·rw[XT m,XT m];rfl
 rw[XQ m,XQ m]
 by_cases a:s=iy
 ·rw[XT a,XT a];rfl
 rw[XQ a,XQ a]
 by_cases g:s=fD
 ·rw[XT g,XT g];rfl
 rw[XQ g,XQ g]
 by_cases n:s=lE
 ·rw[XT n,XT n];rfl
 rw[XQ n,XQ n]
 by_cases d:s=mH
 ·rw[XT d,XT d];rfl
 rw[XQ d,XQ d]
 by_cases l:s=qa
 ·rw[XT l,XT l];rfl
 rw[XQ l,XQ l]
 by_cases i:s=p8
 ·rw[XT i,XT i];rfl
 rw[XQ i,XQ i]
 by_cases o:s=lN
 ·rw[XT o,XT o];rfl
 rw[XQ o,XQ o]
 by_cases j:s=mU
 ·rw[XT j,XT j];rfl
 rw[XQ j,XQ j]
 by_cases k:s=iL
 ·rw[XT k,XT k];rfl
 rw[XQ k,XQ k]
 rfl
end
section
open Kp
attribute [local go_sem] aF dG eV gJ il gL gK gM gN gW gZ en ef eh dZ dk eL eP dW dX dU dV eo dt eH eI dY eO eR eK eB eM ff eY fe eZ dd dP
def fF(w:U)(c:Nat)(e:Ed)(g:Z):Prop:=w.heap[c]?=L (.cells (P e g) 50 (0,0))
theorem fF.cell{e:Ed}(h:fF w c e g)(i:Nat):w.cell? ⟨c,i,I⟩=(P e g)[i]?:=by unfold fF at h;simp[World.cell?,h]
theorem fF.bd{B b c:Nat}{e:Ed}(h:fF w c e g)(hk:aA B b w w')(a:c≠b):fF w' c e g:=
 hk.kept c _ h (λe=>a (by cases e;rfl)) (λcs d e=>by cases e)
theorem fF.below{e:Ed}(h:fF w c e g)(b:Yl B0 w w')(a:c<B0):fF w' c e g:=(b.block c a).trans h
theorem fF.lt{e:Ed}(h:fF w c e g):c<w.heap.size:=(XV.1 h).1
def fF.new(w:U)(e:Ed)(g:Z):fF (w.alloc (.cells (P e g) 50)) w.heap.size e g:=XZ w _
theorem fF.alloc{e:Ed}(h:fF w c e g)(o:Obj):fF (w.alloc o) c e g:=(Below.heap_alloc w o c h.lt).trans h
def bw.new(w:U)(T:Yj)(l:List Z):bw (w.alloc (.cells l.toArray T)) w.heap.size T l:=XZ w _
theorem kj.alloc{B b:Nat}{wide num:Int}{a:K}(h:kj B b wide num a w)(o:Obj):kj B b wide num a (w.alloc o):=h.below ((XI _ _).alloc (XE _) _)
def aA.alloc{B b:Nat}(w:U)(a:B<=w.heap.size)(o:Obj):aA B b w (w.alloc o):=aA.aY ((XI _ _).alloc (XE _) _) a
structure ja(e:Ed):Prop where
 ints:∀n∈aN e,aZ n
 nums:∀a∈numsOf e,ln a<=1000
 text:ln e.text<=1000
def kB(B b:Nat)(e:Ed)(w:U)(r:Ending)(w':U):Prop:=uw B b (fY 0 (aN e)) (js aC 0 (numsOf e)) (bt [] (cE e)) w r w'
def RC(B b:Nat)(e:Ed)(d:Option Ym)(k f:Nat)(w:U)(h:kj B b 0 0 [] w)(c:ja e)(hk:e.kind=1)(m:Gl w)(N:9<=B)(F:B<=w.heap.size):
  XY Xz 29 #[ou b,YE (P e (V d k f))] w (kB B b e w):=by
 have Z:(e.kind==1)=Y:=YN;have M:(e.kind==2)=O:=YN;have k3:(e.kind==3)=O:=YN;have S:(e.kind==4)=O:=YN;have k5:(e.kind==5)=O:=YN;have T:(e.kind==6)=O:=YN;have R:(e.kind==7)=O:=YN;have k8:(e.kind==8)=O:=YN;have k9:(e.kind==9)=O:=YN;have L:(e.kind==10)=O:=YN;have X:(e.kind==11)=O:=YN;have ac:(e.kind==12)=O:=YN;have j:=A (show aN e=[] by unfold aN;rw[hk];simp);have g:=A (show numsOf e=[] by unfold numsOf;rw[hk];simp);have G:=A (show bj e=[qd,e.text] by unfold bj;rw[hk];simp);have o:∀n∈([]:List Int),aZ n:=Y5;have s:∀a∈([]:List K),ln a<=1000:=YZ;have aa:=c.text;have ab:=h.lt;have v:=A (h.alloc (.cells (P e (V d k f)) 50));have x:=A (fF.new w e (V d k f));have t:=A (aA.alloc (B:=B) (b:=b) w F (.cells (P e (V d k f)) 50));have HG:=A m;have J:=A o;have Q:=A s;clear h c m hk o s;go_enter func29,ntmps29;go_wp2_with(first|(go_at_call 96;refine(bV B b 0 0 _ e.text _ u.o (by show 4+_<=_;omega) D).mono ?_;rintro r W2 ⟨rfl,C,E⟩)|(go_at_call 96;refine(bV B b 0 0 [] qd _ v.o YK YP).mono ?_;rintro r W1 ⟨rfl,q,l⟩;have y:=A (x.o.bd l D);have W:=λi=>y.o.cell i;have z:=l.low.size;simp only[Ya] at z;have u:=A q;have I:=A (t.o.trans l);clear q l))
 go_end0;refine⟨H,?_,I.o.trans E⟩;rw[j.o,g.o];unfold cE;rw[j.o,g.o,G.o];exact C
def Nj(B b:Nat)(e:Ed)(d:Option Ym)(k f:Nat)(w:U)(h:kj B b 0 0 [] w)(c:ja e)(hk:e.kind=2)(v:e.gable=Y)(o:Gl w)(q:9<=B)(M:B<=w.heap.size):
  XY Xz 29 #[ou b,YE (P e (V d k f))] w (kB B b e w):=by
 have k1:(e.kind==1)=O:=YN;have S:(e.kind==2)=Y:=YN;have k3:(e.kind==3)=O:=YN;have W:(e.kind==4)=O:=YN;have k5:(e.kind==5)=O:=YN;have Z:(e.kind==6)=O:=YN;have X:(e.kind==7)=O:=YN;have k8:(e.kind==8)=O:=YN;have k9:(e.kind==9)=O:=YN;have R:(e.kind==10)=O:=YN;have ab:(e.kind==11)=O:=YN;have af:(e.kind==12)=O:=YN;have j:=A (show aN e=[e.index,e.sx,e.sy,e.srise,e.srun,e.splate,e.sover,1] by unfold aN;rw[hk];simp[v,Uj]);have g:=A (show numsOf e=[] by unfold numsOf;rw[hk];simp);have N:=A (show bj e=[nT] by unfold bj;rw[hk];simp);have s:∀n∈([e.index,e.sx,e.sy,e.srise,e.srun,e.splate,e.sover,1]:List Int),aZ n:=Y5;have u:∀a∈([]:List K),ln a<=1000:=YZ;have ac:=c.text;have ae:=h.lt;have E:=A (h.alloc (.cells (P e (V d k f)) 50));have F:=A (fF.new w e (V d k f));have z:=A (aA.alloc (B:=B) (b:=b) w M (.cells (P e (V d k f)) 50));have Q:=A o;have C:=A s;have T:=A u;have y:=A v;clear h c o hk s u;go_enter func29,ntmps29;have ad:=y.o;go_wp2_with(first
  |(go_at_call 96;refine(bV B b 0 0 [] nT _ E.o YK YP).mono ?_;rintro r W1 ⟨rfl,t,l⟩;have G:=A (F.o.bd l D);have aa:=λi=>G.o.cell i;have I:=l.low.size;simp only[Ya] at I;have m:=A t;have x:=A (z.o.trans l);clear t l)
  |(go_at_call 97;(refine(ey B b _ 3 0 0 _ [e.index,e.sx,e.sy,e.srise,e.srun,e.splate,e.sover,1] _ _ (m.o.alloc _) (bw.new W1 _ (rj [e.index,e.sx,e.sy,e.srise,e.srun,e.splate,e.sover,1])) Zs YK C.o (by show _+21*8<=_;decide) YP ((Q.o.keep x.o.low q).keep ((XI _ _).alloc (XE _) _) D) q).mono ?_);rintro r W2 ⟨rfl,J,L⟩))
 go_end0;refine⟨H,?_,(x.o.trans (aA.alloc W1 D _)).trans L⟩;rw[j.o,g.o];unfold cE;rw[j.o,g.o,N.o];simp only[List.append_nil];exact J
def OM(B b:Nat)(e:Ed)(d:Option Ym)(k f:Nat)(w:U)(h:kj B b 0 0 [] w)(c:ja e)(hk:e.kind=2)(v:e.gable=O)(o:Gl w)(q:9<=B)(M:B<=w.heap.size):
  XY Xz 29 #[ou b,YE (P e (V d k f))] w (kB B b e w):=by
 have k1:(e.kind==1)=O:=YN;have S:(e.kind==2)=Y:=YN;have k3:(e.kind==3)=O:=YN;have W:(e.kind==4)=O:=YN;have k5:(e.kind==5)=O:=YN;have Z:(e.kind==6)=O:=YN;have X:(e.kind==7)=O:=YN;have k8:(e.kind==8)=O:=YN;have k9:(e.kind==9)=O:=YN;have R:(e.kind==10)=O:=YN;have ab:(e.kind==11)=O:=YN;have af:(e.kind==12)=O:=YN;have j:=A (show aN e=[e.index,e.sx,e.sy,e.srise,e.srun,e.splate,e.sover,0] by unfold aN;rw[hk];simp[v,Uj]);have g:=A (show numsOf e=[] by unfold numsOf;rw[hk];simp);have N:=A (show bj e=[nT] by unfold bj;rw[hk];simp);have s:∀n∈([e.index,e.sx,e.sy,e.srise,e.srun,e.splate,e.sover,0]:List Int),aZ n:=Y5;have u:∀a∈([]:List K),ln a<=1000:=YZ;have ac:=c.text;have ae:=h.lt;have E:=A (h.alloc (.cells (P e (V d k f)) 50));have F:=A (fF.new w e (V d k f));have z:=A (aA.alloc (B:=B) (b:=b) w M (.cells (P e (V d k f)) 50));have Q:=A o;have C:=A s;have T:=A u;have y:=A v;clear h c o hk s u;go_enter func29,ntmps29;have ad:=y.o;go_wp2_with(first
  |(go_at_call 96;refine(bV B b 0 0 [] nT _ E.o YK YP).mono ?_;rintro r W1 ⟨rfl,t,l⟩;have G:=A (F.o.bd l D);have aa:=λi=>G.o.cell i;have I:=l.low.size;simp only[Ya] at I;have m:=A t;have x:=A (z.o.trans l);clear t l)
  |(go_at_call 97;(refine(ey B b _ 3 0 0 _ [e.index,e.sx,e.sy,e.srise,e.srun,e.splate,e.sover,0] _ _ (m.o.alloc _) (bw.new W1 _ (rj [e.index,e.sx,e.sy,e.srise,e.srun,e.splate,e.sover,0])) Zs YK C.o (by show _+21*8<=_;decide) YP ((Q.o.keep x.o.low q).keep ((XI _ _).alloc (XE _) _) D) q).mono ?_);rintro r W2 ⟨rfl,J,L⟩))
 go_end0;refine⟨H,?_,(x.o.trans (aA.alloc W1 D _)).trans L⟩;rw[j.o,g.o];unfold cE;rw[j.o,g.o,N.o];simp only[List.append_nil];exact J
def QW(B b:Nat)(e:Ed)(d:Option Ym)(k f:Nat)(w:U)(h:kj B b 0 0 [] w)(c:ja e)(hk:e.kind=3)(o:Gl w)(q:9<=B)(J:B<=w.heap.size):
  XY Xz 29 #[ou b,YE (P e (V d k f))] w (kB B b e w):=by
 have k1:(e.kind==1)=O:=YN;have Q:(e.kind==2)=O:=YN;have k3:(e.kind==3)=Y:=YN;have S:(e.kind==4)=O:=YN;have k5:(e.kind==5)=O:=YN;have W:(e.kind==6)=O:=YN;have T:(e.kind==7)=O:=YN;have k8:(e.kind==8)=O:=YN;have k9:(e.kind==9)=O:=YN;have N:(e.kind==10)=O:=YN;have Z:(e.kind==11)=O:=YN;have ac:(e.kind==12)=O:=YN;have j:=A (show aN e=[e.index,e.number] by unfold aN;rw[hk];simp);have g:=A (show numsOf e=[] by unfold numsOf;rw[hk];simp);have L:=A (show bj e=[iF] by unfold bj;rw[hk];simp);have s:∀n∈([e.index,e.number]:List Int),aZ n:=Y5;have u:∀a∈([]:List K),ln a<=1000:=YZ;have aa:=c.text;have ab:=h.lt;have z:=A (h.alloc (.cells (P e (V d k f)) 50));have C:=A (fF.new w e (V d k f));have x:=A (aA.alloc (B:=B) (b:=b) w J (.cells (P e (V d k f)) 50));have M:=A o;have y:=A s;have R:=A u;clear h c o hk s u;go_enter func29,ntmps29;go_wp2_with(first
  |(go_at_call 96;refine(bV B b 0 0 [] iF _ z.o YK YP).mono ?_;rintro r W1 ⟨rfl,t,l⟩;have E:=A (C.o.bd l D);have X:=λi=>E.o.cell i;have F:=l.low.size;simp only[Ya] at F;have m:=A t;have v:=A (x.o.trans l);clear t l)
  |(go_at_call 97;(refine(ey B b _ 3 0 0 _ [e.index,e.number] _ _ (m.o.alloc _) (bw.new W1 _ (rj [e.index,e.number])) Zs YK y.o (by show _+21*2<=_;decide) YP ((M.o.keep v.o.low q).keep ((XI _ _).alloc (XE _) _) D) q).mono ?_);rintro r W2 ⟨rfl,G,I⟩))
 go_end0;refine⟨H,?_,(v.o.trans (aA.alloc W1 D _)).trans I⟩;rw[j.o,g.o];unfold cE;rw[j.o,g.o,L.o];simp only[List.append_nil];exact G
def R7(B b:Nat)(e:Ed)(d:Option Ym)(k f:Nat)(w:U)(h:kj B b 0 0 [] w)(c:ja e)(hk:e.kind=4)(o:Gl w)(q:9<=B)(J:B<=w.heap.size):
  XY Xz 29 #[ou b,YE (P e (V d k f))] w (kB B b e w):=by
 have k1:(e.kind==1)=O:=YN;have Q:(e.kind==2)=O:=YN;have k3:(e.kind==3)=O:=YN;have S:(e.kind==4)=Y:=YN;have k5:(e.kind==5)=O:=YN;have W:(e.kind==6)=O:=YN;have T:(e.kind==7)=O:=YN;have k8:(e.kind==8)=O:=YN;have k9:(e.kind==9)=O:=YN;have N:(e.kind==10)=O:=YN;have Z:(e.kind==11)=O:=YN;have ac:(e.kind==12)=O:=YN;have j:=A (show aN e=[e.number] by unfold aN;rw[hk];simp);have g:=A (show numsOf e=[] by unfold numsOf;rw[hk];simp);have L:=A (show bj e=[iy] by unfold bj;rw[hk];simp);have s:∀n∈([e.number]:List Int),aZ n:=Y5;have u:∀a∈([]:List K),ln a<=1000:=YZ;have aa:=c.text;have ab:=h.lt;have z:=A (h.alloc (.cells (P e (V d k f)) 50));have C:=A (fF.new w e (V d k f));have x:=A (aA.alloc (B:=B) (b:=b) w J (.cells (P e (V d k f)) 50));have M:=A o;have y:=A s;have R:=A u;clear h c o hk s u;go_enter func29,ntmps29;go_wp2_with(first
  |(go_at_call 96;refine(bV B b 0 0 [] iy _ z.o YK YP).mono ?_;rintro r W1 ⟨rfl,t,l⟩;have E:=A (C.o.bd l D);have X:=λi=>E.o.cell i;have F:=l.low.size;simp only[Ya] at F;have m:=A t;have v:=A (x.o.trans l);clear t l)
  |(go_at_call 97;(refine(ey B b _ 3 0 0 _ [e.number] _ _ (m.o.alloc _) (bw.new W1 _ (rj [e.number])) Zs YK y.o (by show _+21*1<=_;decide) YP ((M.o.keep v.o.low q).keep ((XI _ _).alloc (XE _) _) D) q).mono ?_);rintro r W2 ⟨rfl,G,I⟩))
 go_end0;refine⟨H,?_,(v.o.trans (aA.alloc W1 D _)).trans I⟩;rw[j.o,g.o];unfold cE;rw[j.o,g.o,L.o];simp only[List.append_nil];exact G
def P5(B b:Nat)(e:Ed)(d:Option Ym)(o f:Nat)(w:U)(h:kj B b 0 0 [] w)(c:ja e)(hk:e.kind=5)(u:Gl w)(k:9<=B)(N:B<=w.heap.size):
  XY Xz 29 #[ou b,YE (P e (V d o f))] w (kB B b e w):=by
 have k1:(e.kind==1)=O:=YN;have k2:(e.kind==2)=O:=YN;have k3:(e.kind==3)=O:=YN;have k4:(e.kind==4)=O:=YN;have k5:(e.kind==5)=Y:=YN;have k6:(e.kind==6)=O:=YN;have k7:(e.kind==7)=O:=YN;have k8:(e.kind==8)=O:=YN;have k9:(e.kind==9)=O:=YN;have ag:(e.kind==10)=O:=YN;have ac:(e.kind==11)=O:=YN;have af:(e.kind==12)=O:=YN;have j:=A (show aN e=[e.index,e.oside] by unfold aN;rw[hk];simp);have g:=A (show numsOf e=[e.oleft,e.oright,e.olow,e.ohigh] by unfold numsOf;rw[hk];simp);have Z:=A (show bj e=[fD] by unfold bj;rw[hk];simp);have y:∀n∈([e.index,e.oside]:List Int),aZ n:=Y5;have E:∀a∈([e.oleft,e.oright,e.olow,e.ohigh]:List K),ln a<=1000:=YZ;have ad:=c.text;have ah:=h.lt;have S:=A (h.alloc (.cells (P e (V d o f)) 50));have T:=A (fF.new w e (V d o f));have J:=A (aA.alloc (B:=B) (b:=b) w N (.cells (P e (V d o f)) 50));have t:=A u;have s:=A y;have L:=A E;clear h c u hk y E;go_enter func29,ntmps29;go_wp2_with(first
  |(go_at_call 96;refine(bV B b 0 0 [] fD _ S.o YK YP).mono ?_;rintro r W1 ⟨rfl,z,l⟩;have v:=A (T.o.bd l D);have M:=λi=>v.o.cell i;have W:=l.low.size;simp only[Ya] at W;have m:=A z;have F:=A (J.o.trans l);clear z l)
  |(go_at_call 97;(refine(ey B b _ 3 0 0 _ [e.index,e.oside] _ _ (m.o.alloc _) (bw.new W1 _ (rj [e.index,e.oside])) Zs YK s.o (by show _+21*2<=_;decide) YP ((t.o.keep F.o.low k).keep ((XI _ _).alloc (XE _) _) D) k).mono ?_);rintro r C ⟨rfl,x,q⟩;have Q:=A ((v.o.alloc _).bd q D);have ae:=λi=>Q.o.cell i;have R:=q.low.size;simp only[Ya] at R;have X:=iH s.o (jg [] fD);have I:=A x;have G:=A ((F.o.trans (aA.alloc W1 D _)).trans q);clear x q M)
  |(go_at_call 98;(refine(yq B b _ 37 _ 0 _ [e.oleft,e.oright,e.olow,e.ohigh] _ _ (I.o.alloc _) (bw.new C _ (sY [e.oleft,e.oright,e.olow,e.ohigh])) (by have:=I.o.lt;omega) YK L.o (by show 4<=100;decide) (Ye X (by show _+21*2<=_;decide)) YP ((t.o.keep G.o.low k).keep ((XI _ _).alloc (XE _) _) D) k).mono ?_);rintro r W3 ⟨rfl,aa,ab⟩))
 go_end0;refine⟨H,?_,(G.o.trans (aA.alloc C D _)).trans ab⟩;rw[j.o,g.o];unfold cE;rw[j.o,g.o,Z.o,kM];exact aa
def PW(B b:Nat)(e:Ed)(d:Option Ym)(k f:Nat)(w:U)(h:kj B b 0 0 [] w)(c:ja e)(hk:e.kind=8)(o:Gl w)(q:9<=B)(J:B<=w.heap.size):
  XY Xz 29 #[ou b,YE (P e (V d k f))] w (kB B b e w):=by
 have k1:(e.kind==1)=O:=YN;have Q:(e.kind==2)=O:=YN;have k3:(e.kind==3)=O:=YN;have S:(e.kind==4)=O:=YN;have k5:(e.kind==5)=O:=YN;have W:(e.kind==6)=O:=YN;have T:(e.kind==7)=O:=YN;have k8:(e.kind==8)=Y:=YN;have k9:(e.kind==9)=O:=YN;have N:(e.kind==10)=O:=YN;have Z:(e.kind==11)=O:=YN;have ac:(e.kind==12)=O:=YN;have j:=A (show aN e=[e.number] by unfold aN;rw[hk];simp);have g:=A (show numsOf e=[] by unfold numsOf;rw[hk];simp);have L:=A (show bj e=[qa] by unfold bj;rw[hk];simp);have s:∀n∈([e.number]:List Int),aZ n:=Y5;have u:∀a∈([]:List K),ln a<=1000:=YZ;have aa:=c.text;have ab:=h.lt;have z:=A (h.alloc (.cells (P e (V d k f)) 50));have C:=A (fF.new w e (V d k f));have x:=A (aA.alloc (B:=B) (b:=b) w J (.cells (P e (V d k f)) 50));have M:=A o;have y:=A s;have R:=A u;clear h c o hk s u;go_enter func29,ntmps29;go_wp2_with(first
  |(go_at_call 96;refine(bV B b 0 0 [] qa _ z.o YK YP).mono ?_;rintro r W1 ⟨rfl,t,l⟩;have E:=A (C.o.bd l D);have X:=λi=>E.o.cell i;have F:=l.low.size;simp only[Ya] at F;have m:=A t;have v:=A (x.o.trans l);clear t l)
  |(go_at_call 97;(refine(ey B b _ 3 0 0 _ [e.number] _ _ (m.o.alloc _) (bw.new W1 _ (rj [e.number])) Zs YK y.o (by show _+21*1<=_;decide) YP ((M.o.keep v.o.low q).keep ((XI _ _).alloc (XE _) _) D) q).mono ?_);rintro r W2 ⟨rfl,G,I⟩))
 go_end0;refine⟨H,?_,(v.o.trans (aA.alloc W1 D _)).trans I⟩;rw[j.o,g.o];unfold cE;rw[j.o,g.o,L.o];simp only[List.append_nil];exact G
def Q0(B b:Nat)(e:Ed)(d:Option Ym)(k f:Nat)(w:U)(h:kj B b 0 0 [] w)(c:ja e)(hk:e.kind=9)(o:Gl w)(q:9<=B)(J:B<=w.heap.size):
  XY Xz 29 #[ou b,YE (P e (V d k f))] w (kB B b e w):=by
 have k1:(e.kind==1)=O:=YN;have Q:(e.kind==2)=O:=YN;have k3:(e.kind==3)=O:=YN;have S:(e.kind==4)=O:=YN;have k5:(e.kind==5)=O:=YN;have W:(e.kind==6)=O:=YN;have T:(e.kind==7)=O:=YN;have k8:(e.kind==8)=O:=YN;have k9:(e.kind==9)=Y:=YN;have N:(e.kind==10)=O:=YN;have Z:(e.kind==11)=O:=YN;have ac:(e.kind==12)=O:=YN;have j:=A (show aN e=[e.twidth,e.tlength,e.tlap,e.ttail] by unfold aN;rw[hk];simp);have g:=A (show numsOf e=[] by unfold numsOf;rw[hk];simp);have L:=A (show bj e=[p8] by unfold bj;rw[hk];simp);have s:∀n∈([e.twidth,e.tlength,e.tlap,e.ttail]:List Int),aZ n:=Y5;have u:∀a∈([]:List K),ln a<=1000:=YZ;have aa:=c.text;have ab:=h.lt;have z:=A (h.alloc (.cells (P e (V d k f)) 50));have C:=A (fF.new w e (V d k f));have x:=A (aA.alloc (B:=B) (b:=b) w J (.cells (P e (V d k f)) 50));have M:=A o;have y:=A s;have R:=A u;clear h c o hk s u;go_enter func29,ntmps29;go_wp2_with(first
  |(go_at_call 96;refine(bV B b 0 0 [] p8 _ z.o YK YP).mono ?_;rintro r W1 ⟨rfl,t,l⟩;have E:=A (C.o.bd l D);have X:=λi=>E.o.cell i;have F:=l.low.size;simp only[Ya] at F;have m:=A t;have v:=A (x.o.trans l);clear t l)
  |(go_at_call 97;(refine(ey B b _ 3 0 0 _ [e.twidth,e.tlength,e.tlap,e.ttail] _ _ (m.o.alloc _) (bw.new W1 _ (rj [e.twidth,e.tlength,e.tlap,e.ttail])) Zs YK y.o (by show _+21*4<=_;decide) YP ((M.o.keep v.o.low q).keep ((XI _ _).alloc (XE _) _) D) q).mono ?_);rintro r W2 ⟨rfl,G,I⟩))
 go_end0;refine⟨H,?_,(v.o.trans (aA.alloc W1 D _)).trans I⟩;rw[j.o,g.o];unfold cE;rw[j.o,g.o,L.o];simp only[List.append_nil];exact G
def OZ(B b:Nat)(e:Ed)(d:Option Ym)(o f:Nat)(w:U)(h:kj B b 0 0 [] w)(c:ja e)(hk:e.kind=10)(u:Gl w)(k:9<=B)(N:B<=w.heap.size):
  XY Xz 29 #[ou b,YE (P e (V d o f))] w (kB B b e w):=by
 have k1:(e.kind==1)=O:=YN;have k2:(e.kind==2)=O:=YN;have k3:(e.kind==3)=O:=YN;have k4:(e.kind==4)=O:=YN;have k5:(e.kind==5)=O:=YN;have k6:(e.kind==6)=O:=YN;have k7:(e.kind==7)=O:=YN;have k8:(e.kind==8)=O:=YN;have k9:(e.kind==9)=O:=YN;have ag:(e.kind==10)=Y:=YN;have ac:(e.kind==11)=O:=YN;have af:(e.kind==12)=O:=YN;have j:=A (show aN e=[e.index,e.lkind,e.lside] by unfold aN;rw[hk];simp);have g:=A (show numsOf e=[e.lweight] by unfold numsOf;rw[hk];simp);have Z:=A (show bj e=[lN] by unfold bj;rw[hk];simp);have y:∀n∈([e.index,e.lkind,e.lside]:List Int),aZ n:=Y5;have E:∀a∈([e.lweight]:List K),ln a<=1000:=YZ;have ad:=c.text;have ah:=h.lt;have S:=A (h.alloc (.cells (P e (V d o f)) 50));have T:=A (fF.new w e (V d o f));have J:=A (aA.alloc (B:=B) (b:=b) w N (.cells (P e (V d o f)) 50));have t:=A u;have s:=A y;have L:=A E;clear h c u hk y E;go_enter func29,ntmps29;go_wp2_with(first
  |(go_at_call 96;refine(bV B b 0 0 [] lN _ S.o YK YP).mono ?_;rintro r W1 ⟨rfl,z,l⟩;have v:=A (T.o.bd l D);have M:=λi=>v.o.cell i;have W:=l.low.size;simp only[Ya] at W;have m:=A z;have F:=A (J.o.trans l);clear z l)
  |(go_at_call 97;(refine(ey B b _ 3 0 0 _ [e.index,e.lkind,e.lside] _ _ (m.o.alloc _) (bw.new W1 _ (rj [e.index,e.lkind,e.lside])) Zs YK s.o (by show _+21*3<=_;decide) YP ((t.o.keep F.o.low k).keep ((XI _ _).alloc (XE _) _) D) k).mono ?_);rintro r C ⟨rfl,x,q⟩;have Q:=A ((v.o.alloc _).bd q D);have ae:=λi=>Q.o.cell i;have R:=q.low.size;simp only[Ya] at R;have X:=iH s.o (jg [] lN);have I:=A x;have G:=A ((F.o.trans (aA.alloc W1 D _)).trans q);clear x q M)
  |(go_at_call 98;(refine(yq B b _ 37 _ 0 _ [e.lweight] _ _ (I.o.alloc _) (bw.new C _ (sY [e.lweight])) (by have:=I.o.lt;omega) YK L.o (by show 1<=100;decide) (Ye X (by show _+21*3<=_;decide)) YP ((t.o.keep G.o.low k).keep ((XI _ _).alloc (XE _) _) D) k).mono ?_);rintro r W3 ⟨rfl,aa,ab⟩))
 go_end0;refine⟨H,?_,(G.o.trans (aA.alloc C D _)).trans ab⟩;rw[j.o,g.o];unfold cE;rw[j.o,g.o,Z.o,kM];exact aa
def OY(B b:Nat)(e:Ed)(d:Option Ym)(k f:Nat)(w:U)(h:kj B b 0 0 [] w)(c:ja e)(hk:e.kind=11)(o:Gl w)(q:9<=B)(N:B<=w.heap.size):
  XY Xz 29 #[ou b,YE (P e (V d k f))] w (kB B b e w):=by
 have k1:(e.kind==1)=O:=YN;have X:(e.kind==2)=O:=YN;have k3:(e.kind==3)=O:=YN;have k4:(e.kind==4)=O:=YN;have k5:(e.kind==5)=O:=YN;have k6:(e.kind==6)=O:=YN;have k7:(e.kind==7)=O:=YN;have k8:(e.kind==8)=O:=YN;have k9:(e.kind==9)=O:=YN;have W:(e.kind==10)=O:=YN;have ab:(e.kind==11)=Y:=YN;have ae:(e.kind==12)=O:=YN;have j:=A (show aN e=[e.awidth,e.adepth,e.aspacing,e.aload,e.aspan] by unfold aN;rw[hk];simp);have g:=A (show numsOf e=[] by unfold numsOf;rw[hk];simp);have Q:=A (show bj e=[mU] by unfold bj;rw[hk];simp);have s:∀n∈([e.awidth,e.adepth,e.aspacing,e.aload,e.aspan]:List Int),aZ n:=Y5;have u:∀a∈([]:List K),ln a<=1000:=YZ;have ac:=c.text;have ad:=h.lt;have C:=A (h.alloc (.cells (P e (V d k f)) 50));have E0:=A (fF.new w e (V d k f));have y:=A (aA.alloc (B:=B) (b:=b) w N (.cells (P e (V d k f)) 50));have S:=A o;have z:=A s;have aa:=A u;clear h c o hk s u;have I:=A (C.o.alloc (.cells (([G F e.awidth,G F e.adepth,G F e.aspacing,G F e.aload,G F e.aspan]:List Z)).toArray 48));have T:=A (bw.new (w.alloc (.cells (P e (V d k f)) 50)) 48 [G F e.awidth,G F e.adepth,G F e.aspacing,G F e.aload,G F e.aspan]);have x:=A (y.o.trans (aA.alloc (w.alloc (.cells (P e (V d k f)) 50)) YP (.cells (([G F e.awidth,G F e.adepth,G F e.aspacing,G F e.aload,G F e.aspan]:List Z)).toArray 48)));go_enter func29,ntmps29;go_wp2_with(first
  |(go_at_call 96;refine(bV B b 0 0 [] mU _ I.o YK YP).mono ?_;rintro r W1 ⟨rfl,t,l⟩;have E:=A (T.o.bd l YP YK);have R:=λi=>E.o.cell i;simp only[Ya] at R;have J:=l.low.size;simp only[Ya] at J;have m:=A t;have v:=A (x.o.trans l);clear t l)
  |(go_at_call 97;(refine(ey B b _ 3 0 0 _ [e.awidth,e.adepth,e.aspacing,e.aload,e.aspan] _ _ (m.o.alloc _) (bw.new W1 _ (rj [e.awidth,e.adepth,e.aspacing,e.aload,e.aspan])) Zs YK z.o (by show _+21*5<=_;decide) YP ((S.o.keep v.o.low q).keep ((XI _ _).alloc (XE _) _) D) q).mono ?_);rintro r W2 ⟨rfl,L,M⟩))
 go_end0;refine⟨H,?_,(v.o.trans (aA.alloc W1 D _)).trans M⟩;rw[j.o,g.o];unfold cE;rw[j.o,g.o,Q.o];simp only[List.append_nil];exact L
end
section
open Kp
attribute [local go_sem] aF dG eV dk eL eP dW dX dU dV eo dt dd
def Ma(w:U)(e:Ending)(w':U):Prop:=
 ∃g a,e=YC (V (L ⟨g,0,I⟩) 12 a)/\w.heap.size<=g/\(∃cur:Array Z,w'.heap[g]?=L (.cells cur 9 (0,0)))/\(∀j,j<12->w'.cell? ⟨g,j,I⟩=L (Yy (tx (dH.getD j []))))/\12<=a/\a<=Yk/\Yl w.heap.size w w'
def EY(w:U)(i:Gl w):XY Xz 95 #[V (L ⟨0,1,I⟩) 12 12] w (Ma w):=by
 refine(slices_Clone_string 0 1 12 12 (dH.map tx) w YK YK (λj a=> ?_)).mono ?_
 ·have c:j<12:=by simpa[dH] using a
  rw[i.wrd j c]
  congr 2
  rw[XJ,XJ,List.getElem?_map];have:j<ln dH:=c;rw[XO this];rfl
 ·rintro e w' ⟨v,rfl,r,x,l⟩;obtain⟨u,⟨b,o⟩|⟨g,s,cur,b,t,d,m,q,y,f⟩⟩:=r
  ·cases o
  ·refine⟨g,s,by rw[b],t,⟨cur,d⟩,λj a=> ?_,m,q,l⟩;have h1:w'.cell? ⟨g,j,I⟩=cur[j]?:=by simp[World.cell?,d]
   rw[h1];have h2:(cur.toList.take (12*1))[j]?=((dH.map tx).take 12 |>.map Value.string)[j]?:=by rw[f]
   rw[List.getElem?_take,XT D] at h2;rw[Array.getElem?_toList] at h2;rw[h2];have k:∀n:Fin 12,((dH.map tx).take 12 |>.map Value.string)[n.1]?=L (Yy (tx (dH.getD n.1 []))):=by
    intro n
    match n with
    |⟨0,_⟩=>rfl
    |⟨1,_⟩=>rfl
    |⟨2,_⟩=>rfl
    |⟨3,_⟩=>rfl
    |⟨4,_⟩=>rfl
    |⟨5,_⟩=>rfl
    |⟨6,_⟩=>rfl
    |⟨7,_⟩=>rfl
    |⟨8,_⟩=>rfl
    |⟨9,_⟩=>rfl
    |⟨10,_⟩=>rfl
    |⟨11,_⟩=>rfl
   exact k ⟨j,a⟩
def sF(w:U)(a:Gl w):XY Xz 28 #[] w (Ma w):=by
 have c:=A (EY w a);clear a;go_enter func28,ntmps28;go_wp2_with(go_at_call 95;refine c.o.mono ?_;rintro e w1 ⟨g,d,rfl,h1,h2,b,h,f,i⟩)
 go_ret;exact⟨g,d,H,h1,h2,b,h,f,i⟩
theorem Gl.drew(h:Gl w):Gl w.drew:=h.keep (B:=9) (XI 9 w).drew (XE _)
def P9(B b:Nat)(e:Ed)(d:Option Ym)(l f:Nat)(w:U)(h:kj B b 0 0 [] w)(C:ja e)(hk:e.kind=6)(Z:1<=e.zkind/\e.zkind<=12)(I:Gl w)(o:9<=B)(W:B<=w.heap.size):
  XY Xz 29 #[ou b,YE (P e (V d l f))] w (kB B b e w):=by
 have k1:(e.kind==1)=O:=YN;have k2:(e.kind==2)=O:=YN;have k3:(e.kind==3)=O:=YN;have k4:(e.kind==4)=O:=YN;have k5:(e.kind==5)=O:=YN;have k6:(e.kind==6)=Y:=YN;have k7:(e.kind==7)=O:=YN;have k8:(e.kind==8)=O:=YN;have k9:(e.kind==9)=O:=YN;have ap:(e.kind==10)=O:=YN;have ag:(e.kind==11)=O:=YN;have al:(e.kind==12)=O:=YN;have q:=A (show aN e=[e.zwidth,e.zdepth] by unfold aN;rw[hk];simp);have M:=A (show numsOf e=[] by unfold numsOf;rw[hk];simp);have HH:=A (show bj e=[lE,mE e.zkind] by unfold bj;rw[hk];simp);have T:=A (show∀n∈([e.zwidth,e.zdepth]:List Int),aZ n by have:=C.ints;rw[q.o] at this;exact this);obtain⟨K,X⟩:=Z;obtain⟨j,t⟩:∃j:Nat,e.zkind-1=(j:Int):=⟨(e.zkind-1).toNat,D⟩;have v:j<12:=D;have c:=A (show dH.getD j []=mE e.zkind by unfold mE;rw[t];rfl);have ah:(mE e.zkind).length<=16:=by
  rw[<-c.o];have:∀n:Fin 12,(dH.getD n.1 []).length<=16:=Zz;exact this ⟨j,v⟩
 have aq:=h.lt;have HA:=A (h.alloc (.cells (P e (V d l f)) 50));have E0:=A (fF.new w e (V d l f));have S:=A (aA.alloc (B:=B) (b:=b) w W (.cells (P e (V d l f)) 50));have E:=A I;have an:F.wrap (e.zkind-1)=(j:Int):=by rw[t];exact cQ D D
 clear h C I hk t;go_enter func29,ntmps29;go_upto_region 26 with(go_at_call 96;refine(bV B b 0 0 [] lE _ HA.o YK YP).mono ?_;rintro r W1 ⟨rfl,N,a⟩;have s:=A (E0.o.bd a D);have af:=λi=>s.o.cell i;have K:=a.low.size;simp only[Ya] at K;have aa:=A N;have R:=A (S.o.trans a);clear N a)
 go_region_with (first
  |(go_at_call 28;(refine(sF _ (E.o.keep R.o.low o).drew).mono ?_;rintro r W2 ⟨g,am,rfl,aj,⟨cur,ab⟩,x,ae,ac,y⟩;have k:=A ((XI _ W1).drew.trans y);have z:=A (s.o.below k.o s.o.lt);have ak:=λi=>z.o.cell i;have ar:=x j v;have X:=k.o.size;clear ab x y;unfold Yk at ac))
  |(go_at_call 96;(refine(bV B b 0 0 _ (dH.getD j []) _ (aa.o.below k.o) (by rw[c.o];show 4+_<=_;omega) D).mono ?_;rintro r u ⟨rfl,Q,m⟩;have E3:=A (z.o.bd m D);have ai:=λi=>E3.o.cell i;have ao:=m.low.size;have J:=A Q;have G:=A ((R.o.trans (aA.aY k.o D)).trans m);clear Q m)))
 all_goals
  go_wp2_with(go_at_call 97;(refine(ey B b _ 3 0 0 _ [e.zwidth,e.zdepth] _ _ (J.o.alloc _) (bw.new u _ (rj [e.zwidth,e.zdepth])) (by have:=J.o.lt;omega) YK T.o (by rw[c.o];have:=rB (jg [] lE) (mE e.zkind);have h4:(jg [] lE).length=4:=rfl;show _+21*2<=_;omega) YP ((E.o.keep G.o.low o).keep ((XI _ _).alloc (XE _) _) D) o).mono ?_);rintro r W4 ⟨rfl,L,ad⟩)
  go_end0;refine⟨H,?_,(G.o.trans (aA.alloc u D _)).trans ad⟩;rw[q.o,M.o];unfold cE;rw[q.o,M.o,HH.o];rw[c.o] at L;simp only[List.append_nil];exact L
def Pv(n:Int):(qB n).length<=16:=by
 unfold qB
 repeat' split
 all_goals decide
def OF(B b:Nat)(e:Ed)(d:Option Ym)(g f:Nat)(w:U)(h:kj B b 0 0 [] w)(t:ja e)(hk:e.kind=12)(v:Gl w)(q:9<=B)(I:B<=w.heap.size):
  XY Xz 29 #[ou b,YE (P e (V d g f))] w (kB B b e w):=by
 have k1:(e.kind==1)=O:=YN;have k2:(e.kind==2)=O:=YN;have k3:(e.kind==3)=O:=YN;have k4:(e.kind==4)=O:=YN;have k5:(e.kind==5)=O:=YN;have k6:(e.kind==6)=O:=YN;have Z:(e.kind==7)=O:=YN;have k8:(e.kind==8)=O:=YN;have k9:(e.kind==9)=O:=YN;have ah:(e.kind==10)=O:=YN;have ab:(e.kind==11)=O:=YN;have ae:(e.kind==12)=Y:=YN;have k:=A (show aN e=[e.index] by unfold aN;rw[hk];simp);have y:=A (show numsOf e=[] by unfold numsOf;rw[hk];simp);have S:=A (show bj e=[iL,qB e.number] by unfold bj;rw[hk];simp);have G:=A (show∀n∈([e.index]:List Int),aZ n by have:=t.ints;rw[k.o] at this;exact this);have aj:=Pv e.number;have ai:=h.lt;have M:=A (h.alloc (.cells (P e (V d g f)) 50));have N:=A (fF.new w e (V d g f));have F:=A (aA.alloc (B:=B) (b:=b) w I (.cells (P e (V d g f)) 50));have K:=A v;clear h t v hk;go_enter func29,ntmps29;go_upto_region 3 with(go_at_call 96;refine(bV B b 0 0 [] iL _ M.o YK YP).mono ?_;rintro r W1 ⟨rfl,z,a⟩;have m:=A (N.o.bd a D);have aa:=λi=>m.o.cell i;have Q:=a.low.size;simp only[Ya] at Q;have L:=A z;have W:=A (F.o.trans a);clear z a)
 go_region_with (first
  |(go_at_call 26;(refine(tU _).mono ?_;rintro r C ⟨rfl,l⟩;have c:=A (show Yl W1.heap.size W1 C by rw[l];exact(XI _ W1).drew.alloc (XE _) _);have J:=Eb C W1.heap.size 6 (by rw[l];exact XZ W1.drew _) e.number O;have s:=A (m.o.below c.o m.o.lt);have ad:=λi=>s.o.cell i;have ag:=c.o.size;simp only[Bool.false_eq_true,Yu] at J;clear l))
  |(go_at_call 96;(refine(bV B b 0 0 _ (qB e.number) _ (L.o.below c.o) (by show 6+_<=_;omega) D).mono ?_;rintro r o ⟨rfl,E,j⟩;have X:=A (s.o.bd j D);have ac:=λi=>X.o.cell i;have af:=j.low.size;have x:=A E;have u:=A ((W.o.trans (aA.aY c.o D)).trans j);clear E j)))
 all_goals
  go_wp2_with(go_at_call 97;(refine(ey B b _ 3 0 0 _ [e.index] _ _ (x.o.alloc _) (bw.new o _ (rj [e.index])) (by have:=x.o.lt;omega) YK G.o (by have:=rB (jg [] iL) (qB e.number);have h4:(jg [] iL).length=6:=rfl;show _+21*1<=_;omega) YP ((K.o.keep u.o.low q).keep ((XI _ _).alloc (XE _) _) D) q).mono ?_);rintro r W4 ⟨rfl,R,T⟩)
  go_end0;refine⟨H,?_,(u.o.trans (aA.alloc o D _)).trans T⟩;rw[k.o,y.o];unfold cE;rw[k.o,y.o,S.o];simp only[List.append_nil];exact R
end
section
open Kp
attribute [local go_sem] aF dG eV dW dX dU dV eo dt
def aT(w:U)(B:Nat)(d:Option Ym)(f:Nat)(l:List (Int×Int)):Prop:=
 ln l<=f/\f<=Yk/\(0<ln l->∃a b,d=L ⟨a,b,I⟩/\a<B/\∀j (c:j<ln l),w.cell? ⟨a,b+2*j,I⟩=L (G F (l[j]'c).1)/\w.cell? ⟨a,b+2*j+1,I⟩=L (G F (l[j]'c).2))
theorem aT.below{B:Nat}{l:List (Int×Int)}(h:aT w B d f l)(c:Yl B w w'):aT w' B d f l:=by
 refine⟨h.1,h.2.1,λk=> ?_⟩;obtain⟨i,m,e,a,b⟩:=h.2.2 k;exact⟨i,m,e,a,λj g=>⟨(c.cell a).trans (b j g).1,(c.cell a).trans (b j g).2⟩⟩
theorem aT.more{B B':Nat}{l:List (Int×Int)}(h:aT w B d f l)(j:B<=B'):aT w B' d f l:=by
 refine⟨h.1,h.2.1,λc=> ?_⟩;obtain⟨b,g,e,i,a⟩:=h.2.2 c;exact⟨b,g,e,D,a⟩
def bw.N6(w:U)(o:Obj)(T:Yj)(l:List Z):bw ((w.alloc o).alloc (.cells l.toArray T)) (w.heap.size+1) T l:=by
 have:=bw.new (w.alloc o) T l;rw[Ya] at this;exact this
def yh(l:List (Int×Int))(g:Int×Int):kF (l++[g])=kF l++[g.1,g.2]:=by simp[kF]
def vN(l:List (Int×Int)):(kF l).length=2*ln l:=by
 unfold kF
 induction l with
 |nil=>rfl
 |cons g l a=>simp[a];omega
def Kw(x:Int)(a b:List Int):fY x (a++b)=fY (fY x a) b:=by
 unfold fY;rw[List.any_append];cases a.any pS<;>cases b.any pS<;>rfl
structure Tp(B b:Nat)(e:Ed)(w:U)(i:Z)(wr:U):Prop where
 ex:∃k:Nat,k<=ln e.gaps/\i=G F (k:Int)/\kj B b (fY 0 ([e.index,e.bwidth,e.bdepth,e.blength,e.bcount,e.bcost]++kF (e.gaps.take k))) 0 (bt [] (mH::jD ([e.index,e.bwidth,e.bdepth,e.blength,e.bcount,e.bcost]++kF (e.gaps.take k)))) wr
 keep:aA B b w wr
def Ra(B b:Nat)(e:Ed)(d:Option Ym)(f:Nat)(w:U)(h:kj B b 0 0 [] w)(T:ja e)(hk:e.kind=7)(ad:aT w B d f e.gaps)(aG:ln e.gaps<=16)(u:Gl w)(s:9<=B)(an:B<=w.heap.size):
  XY Xz 29 #[ou b,YE (P e (V d (ln e.gaps) f))] w (kB B b e w):=by
 have k1:(e.kind==1)=O:=YN;have k2:(e.kind==2)=O:=YN;have k3:(e.kind==3)=O:=YN;have k4:(e.kind==4)=O:=YN;have k5:(e.kind==5)=O:=YN;have k6:(e.kind==6)=O:=YN;have k7:(e.kind==7)=Y:=YN;have k8:(e.kind==8)=O:=YN;have k9:(e.kind==9)=O:=YN;have aH:(e.kind==10)=O:=YN;have aE:(e.kind==11)=O:=YN;have aF:(e.kind==12)=O:=YN;have E:=A (show aN e=[e.index,e.bwidth,e.bdepth,e.blength,e.bcount,e.bcost]++kF e.gaps by unfold aN;rw[hk];simp);have af:=A (show numsOf e=[] by unfold numsOf;rw[hk];simp);have HH:=A (show bj e=[mH] by unfold bj;rw[hk];simp);have z:=A (show∀n∈[e.index,e.bwidth,e.bdepth,e.blength,e.bcount,e.bcost]++kF e.gaps,aZ n by have:=T.ints;rw[E.o] at this;exact this);have aj:=A (show∀n∈([e.index,e.bwidth,e.bdepth,e.blength,e.bcount,e.bcost]:List Int),aZ n fromλn a=>z.o n (List.mem_append_left _ a));have aL:=h.lt;have al:=A ((h.alloc (.cells (P e (V d (ln e.gaps) f)) 50)).alloc (.cells (([G F e.bwidth,G F e.bdepth,G F e.blength,G F e.bcount,G F e.bcost,V d (ln e.gaps) f]:List Z)).toArray 44));have E0:=A ((fF.new w e (V d (ln e.gaps) f)).alloc (.cells (([G F e.bwidth,G F e.bdepth,G F e.blength,G F e.bcount,G F e.bcost,V d (ln e.gaps) f]:List Z)).toArray 44));have A0:=A (bw.new (w.alloc (.cells (P e (V d (ln e.gaps) f)) 50)) 44 [G F e.bwidth,G F e.bdepth,G F e.blength,G F e.bcount,G F e.bcost,V d (ln e.gaps) f]);have aq:=A ((aA.alloc (B:=B) (b:=b) w an (.cells (P e (V d (ln e.gaps) f)) 50)).trans (aA.alloc (w.alloc (.cells (P e (V d (ln e.gaps) f)) 50)) YP (.cells (([G F e.bwidth,G F e.bdepth,G F e.blength,G F e.bcount,G F e.bcost,V d (ln e.gaps) f]:List Z)).toArray 44)));have W:=A u;have ao:=A ad;clear h T u hk ad;go_enter func29,ntmps29;go_wp2_with(first
  |(go_at_call 96;refine(bV B b 0 0 [] mH _ al.o YK YP).mono ?_;rintro r W1 ⟨rfl,ag,q⟩;have J:=A (A0.o.bd q YP YK);have ai:=λi=>J.o.cell i;simp only[Ya] at ai;have E1:=A (E0.o.bd q D);have am:=λi=>E1.o.cell i;have au:=q.low.size;simp only[Ya] at au;have m:=A ag;have ah:=A (aq.o.trans q);clear ag q)
  |(go_at_call 97;(refine(ey B b _ 3 0 0 _ [e.index,e.bwidth,e.bdepth,e.blength,e.bcount,e.bcost] _ _ (m.o.alloc _) (bw.new W1 _ (rj [e.index,e.bwidth,e.bdepth,e.blength,e.bcount,e.bcost])) Zs YK aj.o (by show _+21*6<=_;decide) YP ((W.o.keep ah.o.low s).keep ((XI _ _).alloc (XE _) _) D) s).mono ?_);rintro r W2 ⟨rfl,ae,v⟩;have A2:=A ((J.o.below ((XI _ _).alloc (XE _) _) J.o.lt).bd v YP YK);have L:=λi=>A2.o.cell i;simp only[Ya] at L;have ar:=v.low.size;simp only[Ya] at ar;have aC:=A ae;have aB:=A ((ah.o.trans (aA.alloc W1 D _)).trans v);clear ae v ai am))
 have M:=A (show Tp B b e w (G F 0) W2 from⟨⟨0,D,rfl,by simp only[List.take_zero];exact aC.o⟩,aB.o⟩);go_loopw [156] (λi wr=>Tp B b e w i wr) (λi _=>((ln e.gaps:Int)-Yf i).toNat)
 case atStart=>exact M.o
 case round=>
  obtain⟨⟨k,hk,rfl,o⟩,c⟩:=hrel;have aO:=c.low.size;by_cases t:k<ln e.gaps
  ·obtain⟨aJ,ay,ap⟩:=(ao.o.below c.low);obtain⟨gb,go,rfl,aM,aa⟩:=ap D;obtain⟨R,N⟩:=aa k t;unfold Yk at ay;have Q:=A (show e.gaps.take (k+1)=e.gaps.take k++[e.gaps[k]] from jd t);have X:e.gaps[k].1∈kF e.gaps:=List.mem_flatMap.2 ⟨e.gaps[k],List.getElem_mem t,YL⟩;have ab:e.gaps[k].2∈kF e.gaps:=List.mem_flatMap.2 ⟨e.gaps[k],List.getElem_mem t,YL⟩;have K:∀n∈([e.gaps[k].1,e.gaps[k].2]:List Int),aZ n:=by
    intro n a;simp only[List.mem_cons,List.not_mem_nil,or_false] at a;rcases a with rfl|rfl
    ·exact z.o _ (List.mem_append_right _ X)
    ·exact z.o _ (List.mem_append_right _ ab)
   obtain⟨x,y,ac⟩:∃x y,e.gaps[k]=(x,y):=⟨_,_,H⟩;rw[ac] at R N K Q;have az:=A K;have aI:(bt [] (mH::jD ([e.index,e.bwidth,e.bdepth,e.blength,e.bcount,e.bcost]++kF (e.gaps.take k)))).length<=3+21*38:=by
    rw[gX];have:=iH (l:=[e.index,e.bwidth,e.bdepth,e.blength,e.bcount,e.bcost]++kF (e.gaps.take k)) (λn a=>z.o n (by
     rcases List.mem_append.1 a with h|h
     ·exact List.mem_append_left _ h
     ·refine List.mem_append_right _ ?_;obtain⟨g,u,a⟩:=List.mem_flatMap.1 h;exact List.mem_flatMap.2 ⟨g,List.mem_of_mem_take u,a⟩)) (jg [] mH)
    have h3:(jg [] mH).length=3:=rfl;rw[Yc,vN,List.length_take] at this;have h6:([e.index,e.bwidth,e.bdepth,e.blength,e.bcount,e.bcost]).length=6:=rfl;omega
   have HN:=A (λ(j:U) (aw:aA B b wr j) (ak:kj B b (fY 0 ([e.index,e.bwidth,e.bdepth,e.blength,e.bcount,e.bcost]++kF (e.gaps.take (k+1)))) 0 (bt [] (mH::jD ([e.index,e.bwidth,e.bdepth,e.blength,e.bcount,e.bcost]++kF (e.gaps.take (k+1))))) j)=>(show Tp B b e w (G F ((k:Int)+1)) j from⟨⟨k+1,D,YL,ak⟩,c.trans aw⟩));have C:=A o;have I:=A c;have aK:=o.lt;rw[Yd] at R N;clear o c aa X ab K ac M L;go_wp2_with(go_at_call 97;(refine(ey B b _ 3 _ 0 _ [x,y] _ _ ((C.o.alloc _).alloc _) (bw.N6 wr (.cells #[G F x,G F y] 135) _ (rj [x,y])) D YK az.o (by show _+21*2<=_;omega) YP ((W.o.keep I.o.low s).keep (((XI _ _).alloc (XE _) _).alloc YL _) D) s).mono ?_);rintro r W4 ⟨rfl,av,ax⟩)
   refine⟨HN.o _ (((aA.alloc wr D _).trans (aA.alloc _ YP _)).trans ax) ?_,YO⟩;rw[Q.o,yh,<-List.append_assoc,Kw];have e1:∀l:List Int,bt [] (mH::jD (l++[x,y]))=bt (bt [] (mH::jD l)) (jD [x,y]):=λl=>by rw[CP,gX,gX,kM]
   rw[e1];exact av
  ·have S:e.gaps.take k=e.gaps:=List.take_of_length_le D;rw[S] at o;have C:=A o;have I:=A c;have aD:YG ((k:Int)<(ln e.gaps:Int))=O:=YU;clear o c M L S;go_wp2;go_end0;refine⟨H,?_,I.o⟩;rw[E.o,af.o];unfold cE;rw[E.o,af.o,HH.o];simp only[List.append_nil];exact C.o
end
section
open Kp
def Kj(l:K):(tx l).toList=l:=by rw[ByteArray.toList_eq,bH]
def Jh(x y u v:Int)(W:U):(binOp .neq 135 (YE #[G F x,G F y]) (YE #[G F u,G F v])).run Xz W= .ok (Yz (!(x==u&&y==v))) W:=by
 rw[run_neq_struct,run_equalIn_agg _ _ _ _ _ R R];simp only[Program.fieldsOf,underlying135];cases hx:(x==u)<;>cases hy:(y==v)<;>simp[go_sem,hx,hy,Result.andThen,underlying3,isAgg3]
attribute [local go_sem] Result.andThen Kj underlying3 isAgg3 underlying4 isAgg4 underlying37 isAgg37
def nU(a b:Ed):Bool:=(a.sx==b.sx)&&(a.sy==b.sy)&&(a.srise==b.srise)&&(a.srun==b.srun)&&(a.gable==b.gable)&&(a.splate==b.splate)&&(a.sover==b.sover)
theorem Ew(a b:Ed)(W:U):(binOp .eql 36 (.agg #[.int .i64 a.sx,.int .i64 a.sy,.int .i64 a.srise,.int .i64 a.srun,.bool a.gable,.int .i64 a.splate,.int .i64 a.sover]) (.agg #[.int .i64 b.sx,.int .i64 b.sy,.int .i64 b.srise,.int .i64 b.srun,.bool b.gable,.int .i64 b.splate,.int .i64 b.sover])).run Xz W= .ok (.bool (nU a b)) W:=by
 rw[run_eql_struct,run_equalIn_agg _ _ _ _ _ (by kernel_rfl) (by kernel_rfl)]
 simp only[Program.fieldsOf,underlying36]
 unfold nU
 cases h:(a.sx==b.sx)
 case' true=>cases h:(a.sy==b.sy)
 case' true=>cases h:(a.srise==b.srise)
 case' true=>cases h:(a.srun==b.srun)
 case' true=>cases h:(a.gable==b.gable)
 case' true=>cases h:(a.splate==b.splate)
 case' true=>cases h:(a.sover==b.sover)
 all_goals simp[go_sem, *]
def vS(a b:Ed):Bool:=(a.oside==b.oside)&&(a.oleft==b.oleft)&&(a.oright==b.oright)&&(a.olow==b.olow)&&(a.ohigh==b.ohigh)
theorem Hd(a b:Ed)(W:U):(binOp .eql 39 (.agg #[.int .i64 a.oside,.string (tx a.oleft),.string (tx a.oright),.string (tx a.olow),.string (tx a.ohigh)]) (.agg #[.int .i64 b.oside,.string (tx b.oleft),.string (tx b.oright),.string (tx b.olow),.string (tx b.ohigh)])).run Xz W= .ok (.bool (vS a b)) W:=by
 rw[run_eql_struct,run_equalIn_agg _ _ _ _ _ (by kernel_rfl) (by kernel_rfl)]
 simp only[Program.fieldsOf,underlying39]
 unfold vS
 cases h:(a.oside==b.oside)
 case' true=>cases h:(a.oleft==b.oleft)
 case' true=>cases h:(a.oright==b.oright)
 case' true=>cases h:(a.olow==b.olow)
 case' true=>cases h:(a.ohigh==b.ohigh)
 all_goals simp[go_sem, *]
def oh(a b:Ed):Bool:=(a.zkind==b.zkind)&&(a.zwidth==b.zwidth)&&(a.zdepth==b.zdepth)
theorem CG(a b:Ed)(W:U):(binOp .eql 41 (.agg #[.int .i64 a.zkind,.int .i64 a.zwidth,.int .i64 a.zdepth]) (.agg #[.int .i64 b.zkind,.int .i64 b.zwidth,.int .i64 b.zdepth])).run Xz W= .ok (.bool (oh a b)) W:=by
 rw[run_eql_struct,run_equalIn_agg _ _ _ _ _ (by kernel_rfl) (by kernel_rfl)]
 simp only[Program.fieldsOf,underlying41]
 unfold oh
 cases h:(a.zkind==b.zkind)
 case' true=>cases h:(a.zwidth==b.zwidth)
 case' true=>cases h:(a.zdepth==b.zdepth)
 all_goals simp[go_sem, *]
def wh(a b:Ed):Bool:=(a.lkind==b.lkind)&&(a.lside==b.lside)&&(a.lweight==b.lweight)
theorem EU(a b:Ed)(W:U):(binOp .eql 46 (.agg #[.int .i64 a.lkind,.int .i64 a.lside,.string (tx a.lweight)]) (.agg #[.int .i64 b.lkind,.int .i64 b.lside,.string (tx b.lweight)])).run Xz W= .ok (.bool (wh a b)) W:=by
 rw[run_eql_struct,run_equalIn_agg _ _ _ _ _ (by kernel_rfl) (by kernel_rfl)]
 simp only[Program.fieldsOf,underlying46]
 unfold wh
 cases h:(a.lkind==b.lkind)
 case' true=>cases h:(a.lside==b.lside)
 case' true=>cases h:(a.lweight==b.lweight)
 all_goals simp[go_sem, *]
def Fq(a b:Ed):Bool:=(a.awidth==b.awidth)&&(a.adepth==b.adepth)&&(a.aspacing==b.aspacing)&&(a.aload==b.aload)&&(a.aspan==b.aspan)
theorem H7(a b:Ed)(W:U):(binOp .eql 48 (.agg #[.int .i64 a.awidth,.int .i64 a.adepth,.int .i64 a.aspacing,.int .i64 a.aload,.int .i64 a.aspan]) (.agg #[.int .i64 b.awidth,.int .i64 b.adepth,.int .i64 b.aspacing,.int .i64 b.aload,.int .i64 b.aspan])).run Xz W= .ok (.bool (Fq a b)) W:=by
 rw[run_eql_struct,run_equalIn_agg _ _ _ _ _ (by kernel_rfl) (by kernel_rfl)]
 simp only[Program.fieldsOf,underlying48]
 unfold Fq
 cases h:(a.awidth==b.awidth)
 case' true=>cases h:(a.adepth==b.adepth)
 case' true=>cases h:(a.aspacing==b.aspacing)
 case' true=>cases h:(a.aload==b.aload)
 case' true=>cases h:(a.aspan==b.aspan)
 all_goals simp[go_sem, *]
def wM(a b:Ed):Bool:=(a.twidth==b.twidth)&&(a.tlength==b.tlength)&&(a.tlap==b.tlap)&&(a.ttail==b.ttail)
theorem Ef(a b:Ed)(W:U):(binOp .eql 30 (.agg #[.int .i64 a.twidth,.int .i64 a.tlength,.int .i64 a.tlap,.int .i64 a.ttail]) (.agg #[.int .i64 b.twidth,.int .i64 b.tlength,.int .i64 b.tlap,.int .i64 b.ttail])).run Xz W= .ok (.bool (wM a b)) W:=by
 rw[run_eql_struct,run_equalIn_agg _ _ _ _ _ (by kernel_rfl) (by kernel_rfl)]
 simp only[Program.fieldsOf,underlying30]
 unfold wM
 cases h:(a.twidth==b.twidth)
 case' true=>cases h:(a.tlength==b.tlength)
 case' true=>cases h:(a.tlap==b.tlap)
 case' true=>cases h:(a.ttail==b.ttail)
 all_goals simp[go_sem, *]
def im(a b:Ed):Bool:=
 (a.kind==b.kind)&&(a.index==b.index)&&nU a b&&vS a b&&oh a b&&(a.bwidth==b.bwidth)&&(a.bdepth==b.bdepth)&&(a.blength==b.blength)&&(a.bcount==b.bcount)&&(a.bcost==b.bcost)&&(a.gaps==b.gaps)&&wh a b&&Fq a b&&wM a b&&(a.number==b.number)&&(a.text==b.text)
def sS(a b:Ed):im a b=Y↔a=b:=by
 unfold im nU vS oh wh Fq wM;simp only[Bool.and_eq_true,Yg];constructor
 ·intro h;cases a;cases b;simp only[Ed.mk.injEq] at h⊢;simp only[h,and_self]
 ·intro h;subst h;simp
end
section
open Kp
structure UI(w:U)(a b:List (Int×Int))(i:Z)(wr:U):Prop where
 ex:∃k:Nat,k<=ln a/\i=G F (k:Int)/\a.take k=b.take k
 low:Yl w.heap.size w wr
def po(w:U)(d M:Option Ym)(L P:Nat)(a b:List (Int×Int))(r:aT w w.heap.size d L a)(q:aT w w.heap.size M P b):
  XY Xz 131 #[V d (ln a) L,V M (ln b) P] w λe w'=>e=YC (Yz (a==b))/\Yl w.heap.size w w':=by
 have la:=r.1;have lb:=q.1;have aa:=r.2.1;have T:=q.2.1;unfold Yk at aa T;have HA:=A r;have HB:=A q;clear r q;by_cases l:ln a=ln b
 ·have X:((ln a:Int) !=(ln b:Int))=O:=by rw[bne_eq_false_iff_eq,l]
  have N:=A l;clear l;go_enter func131,ntmps131;go_wp2;go_loopw [13] (λi wr=>UI w a b i wr) (λi _=>((ln a:Int)-Yf i).toNat)
  case atStart=>exact⟨⟨0,D,rfl,YL⟩,XI _ _⟩
  case round=>
   obtain⟨⟨k,hk,rfl,j⟩,o⟩:=hrel;by_cases s:k<ln a
   ·have R:k<ln b:=by rw[<-N.o];exact s
    obtain⟨_,_,t⟩:=HA.o.below o;obtain⟨_,_,z⟩:=HB.o.below o;obtain⟨ba,oa,rfl,_,B⟩:=t D;obtain⟨bb,ob,rfl,_,C⟩:=z D;obtain⟨Q,K⟩:=B k s;obtain⟨E,I⟩:=C k R;rw[Yd] at Q K E I;obtain⟨x,y,m⟩:∃x y,a[k]=(x,y):=⟨_,_,H⟩;obtain⟨u,v,f⟩:∃u v,b[k]=(u,v):=⟨_,_,H⟩;rw[m] at Q K;rw[f] at E I;have J:=λW=>Jh x y u v W
    cases c:(x==u&&y==v) with
    |true=>
     have g:=A (λn=>(show UI w a b (G F ((k:Int)+1)) (wr.drewN n) from⟨⟨k+1,D,YL,by
      rw[jd s,jd R,j,m,f];simp only[Bool.and_eq_true,Yg] at c;rw[c.1,c.2]⟩,below_drewN o n⟩))
     rw[c] at J;clear c j B C t z m f;go_wp2;go_quiet (fail)
     go_wp2;exact⟨g.o _,YO⟩
    |false=>
     have g:=A (show(a==b)=O by
      rw[XN];intro h;subst h;rw[m] at f;simp only[Prod.mk.injEq] at f;rw[f.1,f.2] at c;simp at c)
     rw[c] at J;clear c j B C t z m f;go_wp2;go_quiet (fail)
     go_wp2;go_ret;exact⟨by rw[g.o];rfl,below_drewN o _⟩
   ·have g:=A (show(a==b)=Y by
     rw[Yg];have S:a.take k=a:=List.take_of_length_le D;have Z:b.take k=b:=List.take_of_length_le (by have:=N.o;omega);rw[S,Z] at j;exact j)
    have ab:YG ((k:Int)<(ln a:Int))=O:=YU;clear j;go_wp2;go_ret;exact⟨by rw[g.o];rfl,o⟩
 ·have X:((ln a:Int) !=(ln b:Int))=Y:=ZZ;have g:=A (show(a==b)=O by rw[XN];intro h;exact l (by rw[h]));clear l;go_enter func131,ntmps131;go_wp2;go_ret;exact⟨by rw[g.o];rfl,XI _ _⟩
end
section
open Kp
attribute [local go_sem] aF dG eV gJ il gL gK gM gN gW gZ en ef eh dZ dk eL eP dW dX dU dV eo dt eH eI dY eO eR eK eB eM ff eY fe eZ dd dP
abbrev om(e:Ed)(d:Option Ym)(f:Nat):List Z:=[G F e.bwidth,G F e.bdepth,G F e.blength,G F e.bcount,G F e.bcost,V d (ln e.gaps) f]
structure Ij(w:U)(a b:Ed)(d e:Option Ym)(g f:Nat)(i h:Z)(c:U):Prop where
 ea:fF c w.heap.size a (V d (ln a.gaps) g)
 eb:fF c (w.heap.size+1) b (V e (ln b.gaps) f)
 bars:∃p q,i=YA (L ⟨p,0,I⟩)/\h=YA (L ⟨q,0,I⟩)/\bw c p 44 (om a d g)/\bw c q 44 (om b e f)
 low:Yl w.heap.size w c
def DK(w:U)(a b c d:Obj):((((w.alloc a).alloc b).alloc c).alloc d).heap[w.heap.size]?=L a:=by
 rw[heap_alloc_old _ _ (by first|(simp;done)|(simp;omega)),qQ]
def Dr(w:U)(a b c d:Obj):((((w.alloc a).alloc b).alloc c).alloc d).heap[w.heap.size+1]?=L b:=by
 rw[heap_alloc_old _ _ (by first|(simp;done)|(simp;omega)),Cp]
def CU(w:U)(a b c d:Obj):((((w.alloc a).alloc b).alloc c).alloc d).heap[w.heap.size+1+1]?=L c:=by
 rw[heap_alloc_old _ _ YL,zi]
def CJ(w:U)(a b c d:Obj):((((w.alloc a).alloc b).alloc c).alloc d).heap[w.heap.size+1+1+1]?=L d:=by
 have:=heap_alloc_new (((w.alloc a).alloc b).alloc c) d;exact a0r
def o4(w:U)(a b c d:Obj):Yl w.heap.size w ((((w.alloc a).alloc b).alloc c).alloc d).drew:=
 ((((((XI _ _).alloc (XE _) _).alloc YL _).alloc YP _).alloc YP _)).drew
end
section
open Kp
attribute [local go_sem] aF dG eV gJ il gL gK gM gN gW gZ en ef eh dZ dk eL eP dW dX dU dV eo dt eH eI dY eO eR eK eB eM ff eY fe eZ dd dP
theorem uy(h:p:=by
  subst c;have qside:=λW=>Ew a b W
  have gside:Xz.eqGuardType Xz.depth 36=O:=R;have qopn:=λW=>Hd a b W
  have gopn:Xz.eqGuardType Xz.depth 39=O:=R;have qsize:=λW=>CG a b W
  have gsize:Xz.eqGuardType Xz.depth 41=O:=R;have qload:=λW=>EU a b W
  have gload:Xz.eqGuardType Xz.depth 46=O:=R;have qalw:=λW=>H7 a b W
  have galw:Xz.eqGuardType Xz.depth 48=O:=R;have qtile:=λW=>Ef a b W
  have gtile:Xz.eqGuardType Xz.depth 30=O:=R;go_wp2_with(go_at_call 131;refine s.o.mono ?_;rintro r W2 ⟨rfl,hB2⟩;have EA2:=A (g.o.below hB2 l);have EB2:=A (f.o.below hB2 t);have eca2:=λi=>EA2.o.cell i;have ecb2:=λi=>EB2.o.cell i)
  go_ret
  first|exact⟨rfl,k.o.trans (hB2.mono D)⟩|exact⟨rfl,k.o⟩):p:=h
end
end Go.Proofs.YtnepbjnlmkppmaaGreatDoor
