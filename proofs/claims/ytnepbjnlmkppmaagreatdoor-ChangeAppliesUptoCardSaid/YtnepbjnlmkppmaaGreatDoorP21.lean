/- ChangeApplies of kingpostlaw58: part 21 of its proof (merged and shortened by program). -/
import Derived.Laws.ResultCell
import Derived.Test.YtnepbjnlmkppmaaGreatDoorP02
set_option linter.unusedVariables false
set_option linter.unusedSimpArgs false
set_option linter.defProp false
set_option maxHeartbeats 8000000
set_option maxRecDepth 100000
open Go.RowKit Go.Shelf Go.Proofs.Tryz
open Bool renaming false→O,true→Y
open Decidable renaming decide→YG
open Go renaming World→U,undef→M,Value→Z,Calls→XY,maxLen→Yk,Addr→Ym
open Go.Ending renaming returned→YC
open Go.IntKind renaming i64→F
open Go.Lib renaming hid→A
open Go.Proofs.Tryz renaming prog→Xz
open Go.RowKit renaming intOf→Yf,Below→Yl
open Go.Value renaming slice→V,bool→Yz,int→G,agg→YE
open Go.World renaming alloc_heap_new→XZ,size_alloc→Ya
open List renaming length→ln
open Nat renaming le_refl→XE,mul_comm→Yd
open Option renaming none→I,some→L
open Go.Proofs.YtnepbjnlmkppmaaGreatDoor
variable{c:Array Z}{d:Bool}{z:ByteArray}{a x y b:Int}{k q E i:Nat}{o N g:Option Ym}{w W S:U}
namespace Go.Proofs.YtnepbjnlmkppmaaGreatDoor
section
open Kp
attribute [local go_sem] aF dG eV gJ il gL gK gM gN gW gZ en ef eh dZ dk eL eP dW dX dU dV eo dt eH eI dY eO eR eK eB eM ff eY fe eZ dd dP
structure Vy(w:U)(e:Ed)(o g:Option Ym)(a b:Nat)(i:Z)(wr:U):Prop where
 ex:∃k:Nat,k<=ln e.gaps/\i=G F (k:Int)
 ra:bw wr w.heap.size 44 (om e o a)
 rb:bw wr (w.heap.size+1) 44 (om e g b)
 low:Yl w.heap.size w wr
theorem Vy.Ta{w wr:U}{e:Ed}{a b:Nat}{i:Z}(h:Vy w e o g a b i wr)(hk:k<=ln e.gaps)(n:Nat):Vy w e o g a b (G F (k:Int)) (wr.drewN n):=
 ⟨⟨k,hk,rfl⟩,h.ra.below (below_drewN (XI wr.heap.size _) n) h.ra.lt,h.rb.below (below_drewN (XI wr.heap.size _) n) h.rb.lt,below_drewN h.low n⟩
def GB(w:U)(e:Ed)(o g:Option Ym)(b a:Nat)(f:aT w w.heap.size o b e.gaps)(d:aT w w.heap.size g a e.gaps):
  XY Xz 48 #[YE (om e o b).toArray,YE (om e g a).toArray] w λr w'=>r=YC (Yz Y)/\Yl w.heap.size w w':=by
 have la:=f.1;have lb:=d.1;have J:=f.2.1;have M:=d.2.1;unfold Yk at J M;have I:=A f;have K:=A d;have R:=A (show Vy w e o g b a (G F 0) ((w.alloc (.cells (om e o b).toArray 44)).alloc (.cells (om e g a).toArray 44)) from
  ⟨⟨0,D,rfl⟩,by unfold bw;rw[heap_alloc_old _ _ YL];exact XZ _ _,by have:=XZ (w.alloc (.cells (om e o b).toArray 44)) (.cells (om e g a).toArray 44);rw[Ya] at this;exact this,((XI _ _).alloc (XE _) _).alloc YL _⟩)
 clear f d;go_enter func48,ntmps48;go_wp2;go_loopw [5] (λi wr=>Vy w e o g b a i wr) (λi _=>((ln e.gaps:Int)-Yf i).toNat)
 case atStart=>exact R.o
 case round=>
  have Q:=A hrel;obtain⟨⟨k,hk,rfl⟩,l,j,c⟩:=hrel;have X:=λi=>bw.cell l i
  have V:=λi=>bw.cell j i
  by_cases z:k<ln e.gaps
  ·obtain⟨_,_,B⟩:=I.o.below c;obtain⟨_,_,E⟩:=K.o.below c;obtain⟨ba,oa,rfl,_,q⟩:=B D;obtain⟨Z,T,rfl,_,v⟩:=E D;obtain⟨s,C⟩:=q k z;obtain⟨m,u⟩:=v k z;rw[Yd] at s C m u;obtain⟨x,y,t⟩:∃x y,e.gaps[k]=(x,y):=⟨_,_,H⟩;rw[t] at s C m u;have L:=λW=>Jh x y x y W
   simp only[Yt,Bool.and_self,Bool.not_true] at L;have P:=A (λn=>Q.o.Ta (k:=k+1) D n);clear l j c q v B E t;go_wp2;go_quiet (fail)
   go_wp2;refine⟨?_,YO⟩;exact P.o _
  ·have S:YG ((k:Int)<(ln e.gaps:Int))=O:=YU;have N:=A c;clear l j c;go_wp2;go_ret;exact⟨H,N.o⟩
end
section
open Kp
attribute [local go_sem] aF dG eV gJ il gL gK gM gN gW gZ en ef eh dZ dk eL eP dW dX dU dV eo dt eH eI dY eO eR eK eB eM ff eY fe eZ dd dP
def Du(a b:Ed):Bool:=(a.bwidth==b.bwidth)&&(a.bdepth==b.bdepth)&&(a.blength==b.blength)&&(a.bcount==b.bcount)&&(a.bcost==b.bcost)&&(a.gaps==b.gaps)
def Kv(a b:Ed):im a b=((a.kind==b.kind)&&(a.index==b.index)&&nU a b&&vS a b&&oh a b&&Du a b&&wh a b&&Fq a b&&wM a b&&(a.number==b.number)&&(a.text==b.text)):=by
 unfold im Du;simp only[Bool.and_assoc]
theorem Um(h:(x==y)=d):(x !=y)= !d:=by rw[<-h];rfl
def EV(w:U)(e f:Ed)(o g:Option Ym)(s j:Nat)(C:aT w w.heap.size o s e.gaps)(x:aT w w.heap.size g j f.gaps)(v:ln e.gaps=ln f.gaps->e.gaps=f.gaps):
  XY Xz 48 #[YE (om e o s).toArray,YE (om f g j).toArray] w λr w'=>r=YC (Yz (Du e f))/\Yl w.heap.size w w':=by
 by_cases i:Du e f=Y
 ·have h2:=i;unfold Du at h2;simp only[Bool.and_eq_true,Yg] at h2;obtain⟨⟨⟨⟨⟨q,h1⟩,h2⟩,m⟩,n⟩,l⟩:=h2;have F:om f g j=om e g j:=by unfold om;rw[q,h1,h2,m,n,l]
  rw[i,F];exact GB w e o g s j C (l▸x)
 ·have u:=A (Bool.not_eq_true _▸i:Du e f=O);rw[u.o];have t:=((XI w.heap.size w).alloc (XE _) (.cells (om e o s).toArray 44)).alloc YL (.cells (om f g j).toArray 44);have G:=A t;unfold Du at i;obtain⟨E,q⟩:=aa (e.bwidth==f.bwidth);obtain⟨d1,h1⟩:=aa (e.bdepth==f.bdepth);obtain⟨d2,h2⟩:=aa (e.blength==f.blength);obtain⟨y,m⟩:=aa (e.bcount==f.bcount);obtain⟨z,n⟩:=aa (e.bcost==f.bcost);have l:E=Y->d1=Y->d2=Y->y=Y->z=Y->((ln e.gaps:Int)==(ln f.gaps:Int))=O:=λa b c d k=>by
   rw[XN];intro M;have:=v D;rw[q,h1,h2,m,n,a,b,c,d,k,this] at i;simp at i
  have K:=Um q;have J:=Um h1;have L:=Um h2;have P:=Um m;have I:=Um n;have B:=λa b c d k=>Um (l a b c d k)
  clear i C x v t l u;cases E
  case' true=>cases d1
  case' true.true=>cases d2
  case' true.true.true=>cases y
  case' true.true.true.true=>cases z
  all_goals try(have N:=B rfl rfl rfl rfl rfl)
  all_goals
   clear B;go_enter func48,ntmps48;go_wp2;go_ret;exact⟨H,G.o⟩
def rV(w:U)(e f:Ed)(o g:Option Ym)(b a:Nat)(B:aT w w.heap.size o b e.gaps)(y:aT w w.heap.size g a f.gaps)(u:ln e.gaps=ln f.gaps->e.gaps=f.gaps):
  XY Xz 19 #[YE (P e (V o (ln e.gaps) b)),YE (P f (V g (ln f.gaps) a))] w λr w'=>r=YC (Yz (im e f))/\Yl w.heap.size w w':=by
 have c:Yl w.heap.size w ((w.alloc (.cells (P e (V o (ln e.gaps) b)) 50)).alloc (.cells (P f (V g (ln f.gaps) a)) 50)):=((XI _ _).alloc (XE _) _).alloc YL _;have ae:=A c;have n:=A ((fF.new w e (V o (ln e.gaps) b)).alloc (.cells (P f (V g (ln f.gaps) a)) 50));have d:=A (show fF ((w.alloc (.cells (P e (V o (ln e.gaps) b)) 50)).alloc (.cells (P f (V g (ln f.gaps) a)) 50)) (w.heap.size+1) f (V g (ln f.gaps) a) by
  have:=fF.new (w.alloc (.cells (P e (V o (ln e.gaps) b)) 50)) f (V g (ln f.gaps) a);rw[Ya] at this;exact this)
 have v:=A (EV _ e f o g b a ((B.below c).more YP) ((y.below c).more YP) u);have ag:=λi=>n.o.cell i
 have ac:=λi=>d.o.cell i
 have C:=λW=>Ew e f W
 have am:Xz.eqGuardType Xz.depth 36=O:=R;have F:=λW=>Hd e f W
 have ai:Xz.eqGuardType Xz.depth 39=O:=R;have D:=λW=>CG e f W
 have ah:Xz.eqGuardType Xz.depth 41=O:=R;have G:=λW=>EU e f W
 have ak:Xz.eqGuardType Xz.depth 46=O:=R;have L:=λW=>H7 e f W
 have ad:Xz.eqGuardType Xz.depth 48=O:=R;have ab:=λW=>Ef e f W
 have al:Xz.eqGuardType Xz.depth 30=O:=R;have q:=Kv e f;obtain⟨K,T⟩:=aa (e.kind==f.kind);obtain⟨d1,h1⟩:=aa (e.index==f.index);obtain⟨d2,h2⟩:=aa (nU e f);obtain⟨Q,l⟩:=aa (vS e f);obtain⟨H,k⟩:=aa (oh e f);obtain⟨Y,j⟩:=aa (Du e f);obtain⟨E,s⟩:=aa (wh e f);obtain⟨J,m⟩:=aa (Fq e f);obtain⟨I,t⟩:=aa (wM e f);obtain⟨X,S⟩:=aa (e.number==f.number);obtain⟨z,Z⟩:=aa (e.text==f.text);rw[T,h1,h2,l,k,j,s,m,t,S,Z] at q;rw[h2] at C;rw[l] at F;rw[k] at D;rw[j] at v;rw[s] at G;rw[m] at L;rw[t] at ab;rw[q];clear B y c u q h2 l k j s m t;have an:(tx e.text==tx f.text)=z:=(by rw[jJ,<-Z,Bool.eq_iff_iff];simp);cases K
 case' true=>cases d1
 case' true.true=>cases d2
 case' true.true.true=>cases Q
 case' true.true.true.true=>cases H
 case' true.true.true.true.true=>cases Y
 case' true.true.true.true.true.true=>cases E
 case' true.true.true.true.true.true.true=>cases J
 case' true.true.true.true.true.true.true.true=>cases I
 case' true.true.true.true.true.true.true.true.true=>cases X
 case' true.true.true.true.true.true.true.true.true.true=>cases z
 all_goals
  go_enter func19,ntmps19;go_wp2_with(go_at_call 48;refine v.o.mono ?_;rintro r W2 ⟨rfl,x⟩;have N:=A (n.o.below x n.o.lt);have M:=A (d.o.below x d.o.lt);have aj:=λi=>N.o.cell i;have af:=λi=>M.o.cell i)
  all_goals go_ret
  all_goals exact⟨rfl,by first|exact ae.o|exact ae.o.trans (x.mono ae.o.size)⟩
end
end Go.Proofs.YtnepbjnlmkppmaaGreatDoor
