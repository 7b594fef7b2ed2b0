/- ChangeApplies of kingpostlaw58: part 20 of its proof (merged and shortened by program). -/
import Derived.Laws.ResultCell
import Derived.Test.YtnepbjnlmkppmaaGreatDoorP07
import Derived.Test.YtnepbjnlmkppmaaGreatDoorP17
import Derived.Test.YtnepbjnlmkppmaaGreatDoorP18
set_option linter.unusedVariables false
set_option linter.unusedSimpArgs false
set_option linter.defProp false
set_option maxHeartbeats 8000000
set_option maxRecDepth 100000
open Go.RowKit Go.Shelf Go.Proofs.Tryz
open Bool renaming false→O,true→Y
open Decidable renaming decide→YG
open Go renaming World→U,undef→M,Value→Z,wpOp_step→XR,Calls→XY,TypeId→Yj,maxLen→Yk,Addr→Ym
open Go.Ending renaming returned→YC
open Go.IntKind renaming i64→F
open Go.IntWalk renaming i64_in→Yh
open Go.Lib renaming hid→A
open Go.Proofs.Tryz renaming prog→Xz
open Go.RowKit renaming intOf→Yf,Below→Yl
open Go.Value renaming slice→V,string→Yy,bool→Yz,pointer→YA,int→G,agg→YE,tuple→YF
open Go.World renaming alloc_heap_new→XZ,size_alloc→Ya
open List renaming getD_eq_getElem?_getD→XJ,getElem?_eq_getElem→XO,length_map→XP,length_append→Yc,length→ln
open Nat renaming le_refl→XE,mul_comm→Yd,le_trans→Ye
open Option renaming none→I,some→L
open Go.Proofs.YtnepbjnlmkppmaaGreatDoor
variable{c:Array Z}{d:Bool}{z:ByteArray}{a x y b:Int}{k q E i:Nat}{o N g:Option Ym}{p:Prop}{w W S:U}
namespace Go.Proofs.YtnepbjnlmkppmaaGreatDoor
section
open Kp
def Tt:Array Z:=#[.nilFunc,.func (.func 64) #[] #[],.func (.func 65) #[] #[],.func (.func 66) #[] #[],.func (.func 67) #[] #[],.func (.func 68) #[] #[],.func (.func 70) #[] #[],.func (.func 71) #[] #[],.func (.func 73) #[] #[],.func (.func 74) #[] #[],.func (.func 75) #[] #[],.func (.func 77) #[] #[],.func (.func 78) #[] #[]]
def EO(w:U):XY Xz 22 #[] w λe w'=>e=YC (YE Tt)/\Ext w w':=by
 have a:=XZ w (.cells #[.nilFunc,.nilFunc,.nilFunc,.nilFunc,.nilFunc,.nilFunc,.nilFunc,.nilFunc,.nilFunc,.nilFunc,.nilFunc,.nilFunc,.nilFunc] 73);have hx:Ext w ((w.alloc (.cells #[.nilFunc,.nilFunc,.nilFunc,.nilFunc,.nilFunc,.nilFunc,.nilFunc,.nilFunc,.nilFunc,.nilFunc,.nilFunc,.nilFunc,.nilFunc] 73)).setRow w.heap.size Tt):=al ((XI _ _).alloc (XE _) _) (XE _) _;have b:=A a;have c:=A hx;clear a hx;go_enter func22,ntmps22;go_wp2_with(refine wpList_store_row rfl 73 _ _ rfl w.heap.size Tt rfl rfl 73 _ b.o R R R ?_)
 refine bodyPost_ret (results_cell_row H _ _ _ _ _ (0,0) _ H (setRow_heap b.o _) underlying73 H R) H ⟨H,c.o⟩
end
section
open Kp
def qV(n:Int)(w:U):XY Xz 159 #[G F n] w λe w'=>e=YC (Yz (J n 1 1000))/\w'=w:=by
 have a:J n 1 1000=(YG (1<=n)&&YG (n<=1000)):=rfl;rw[a];clear a;cases b:YG (n>=1)<;>cases c:YG (n<=1000)
 all_goals
  go_enter func159,ntmps159;go_wp2;go_ret;exact⟨H,H⟩
theorem wC{B:Nat}{l:List Sz}(h:bR 3 w B N E (bf l))(a:0<ln l):
  ∃b off,N=L ⟨b,off,I⟩/\b<B/\∀i,i<ln l->w.cell? ⟨b,off+i*3,I⟩=L (G F (l.getD i ir).kind)/\w.cell? ⟨b,off+i*3+1,I⟩=L (G F (l.getD i ir).width)/\w.cell? ⟨b,off+i*3+2,I⟩=L (G F (l.getD i ir).depth):=by
 obtain⟨h1,h2,d⟩:=h;obtain⟨b,off,e,g,c⟩:=d (by rw[XP];exact a);refine⟨b,off,e,g,λi hi=> ?_⟩;have q:∀m,m<3->w.cell? ⟨b,off+i*3+m,I⟩=(yV (l.getD i ir))[m]?:=by
  intro m f;have:=c i Z6 m f;rw[yz hi,Yd] at this;exact this
 exact⟨q 0 YK,q 1 YK,q 2 YK⟩
end
section
open Kp
def fA(a:Aw):Nat->Int
 |0=>a.width
 |1=>a.depth
 |2=>a.spacing
 |_=>a.load
theorem qh(h:x=y):Lib.compareInt x y=0:=by unfold Lib.compareInt;rw[XQ D,XQ D]
theorem N5(h:x≠y):Lib.compareInt x y≠0:=by
 unfold Lib.compareInt;split
 ·decide
 ·rw[XT D];decide
theorem TI{a b:Aw}(hk:k<4)(h:∀q,q<k->fA a q=fA b q)(c:fA a k≠fA b k):jo a b=Lib.compareInt (fA a k) (fA b k):=by
 unfold jo xI;rcases(show k=0\/k=1\/k=2\/k=3 by omega) with rfl|rfl|rfl|rfl
 ·exact XT (N5 c)
 ·rw[@qh a.width b.width (h 0 YK),XQ YK];exact XT (N5 c)
 ·rw[@qh a.width b.width (h 0 YK),@qh a.depth b.depth (h 1 YK),XQ YK,XQ YK];exact XT (N5 c)
 ·rw[@qh a.width b.width (h 0 YK),@qh a.depth b.depth (h 1 YK),@qh a.spacing b.spacing (h 2 YK)];rfl
def T9{a b:Aw}(h:∀q,q<4->fA a q=fA b q):jo a b=0:=by
 unfold jo xI;rw[@qh a.width b.width (h 0 YK),@qh a.depth b.depth (h 1 YK),@qh a.spacing b.spacing (h 2 YK),@qh a.load b.load (h 3 YK)];rfl
def oH(B:Nat)(a b:Aw):Nat->Z
 |0=> YA (L ⟨B,0,I⟩)
 |1=> G F (fA a 0)
 |2=> YA (L ⟨B,1,I⟩)
 |3=> G F (fA a 1)
 |4=> YA (L ⟨B,2,I⟩)
 |5=> G F (fA a 2)
 |6=> YA (L ⟨B,3,I⟩)
 |7=> G F (fA a 3)
 |9=> YA (L ⟨B+1,0,I⟩)
 |10=> G F (fA b 0)
 |11=> YA (L ⟨B+1,1,I⟩)
 |12=> G F (fA b 1)
 |13=> YA (L ⟨B+1,2,I⟩)
 |14=> G F (fA b 2)
 |15=> YA (L ⟨B+1,3,I⟩)
 |16=> G F (fA b 3)
 |_=>M
def WM(a:Aw)(v:Z)(w:U):Prop:=∃g,v=V (L ⟨g,0,I⟩) 4 4/\ai w g 3 [G F (fA a 0),G F (fA a 1),G F (fA a 2),G F (fA a 3)]
def IN(B:Nat)(a b:Aw):Nat->Z->U->Prop
 |8,v,w=>WM a v w
 |17,v,w=>WM b v w
 |18,v,w=>WM a v w
 |i,v,_=>v=oH B a b i
theorem Qk{B:Nat}{a b:Aw}{v:Z}{w w':U}(h:IN B a b i v w)(hx:Ext w w'):IN B a b i v w':=by
 unfold IN at *;split at h<;>first|exact h|(obtain⟨g,e,c⟩:=h;exact⟨g,e,c.ext hx⟩)
def zH(a b:Aw)(w:U):XY Xz 165 #[YE (iI a).toArray,YE (iI b).toArray] w λe w'=>e=YC (G F (jo a b))/\Ext w w':=by
 obtain⟨B,C⟩:=gz w.heap.size;obtain⟨s,n⟩:=aa ((w.alloc (.cells (iI a).toArray 48)).alloc (.cells (iI b).toArray 48));have K:=A (show Ext w s by rw[<-n];exact((XI _ _).alloc (XE _) _).alloc YL _);have j:=A (λW (h:Ext s W)=>(show ai W B 48 (iI a)/\ai W (B+1) 48 (iI b) from by
  rw[C];refine⟨ai.ext (by rw[<-n];exact(ai.new w _ _).ext ((XI _ _).alloc (XE _) _)) h,ai.ext ?_ h⟩;have:=ai.new (w.alloc (.cells (iI a).toArray 48)) 48 (iI b);rw[Ya] at this;rw[<-n];exact this))
 have HW:=A n;clear n;go_enter func165,ntmps165;go_upto_region 1 with(fail)
 rw[HW.o,<-C];clear C;refine wp_region_any R (fC 19 (λu=>⟨#[YE (iI a).toArray,YE (iI b).toArray,YA (L ⟨B,0,I⟩),YA (L ⟨B+1,0,I⟩),G F 0,u 18,M,M,u 0,u 1,u 2,u 3,u 4,u 5,u 6,u 7,u 8,u 9,u 10,u 11,u 12,u 13,u 14,u 15,u 16,u 17,M,M,M,M,M,M,M,M,M,M,M,M,M,M,M,M,M,M,M,M,M,M],[]⟩)
  (λw'=>Ext s w') (λi v w=>IN B a b i v w) (λ_=>O) R (λ_ _ h k=>h.tr k) (λ_ _ _ _ h k=>Qk h k) (λ_ _ _ _ h=>YM) ?step ?tail (λ_=>M) _ (Ext.dr _))
 case step=>
  intro i u w' hi f d;rcases(show i=0\/i=1\/i=2\/i=3\/i=4\/i=5\/i=6\/i=7\/i=8\/i=9\/i=10\/i=11\/i=12\/i=13\/i=14\/i=15\/i=16\/i=17\/i=18 by omega) with rfl|rfl|rfl|rfl|rfl|rfl|rfl|rfl|rfl|rfl|rfl|rfl|rfl|rfl|rfl|rfl|rfl|rfl|rfl<;>clear hi<;>refine XR rfl (λal c=> ?_)
  ·go_simp;exact c _ _ ⟨oH B a b 0,H,Ext.ah _,H,λh=>YM⟩
  ·have m:=(j.o _ f).1.cell 0;have r:=d 0 YK R;simp only[IN,oH] at r;go_simp;exact c _ _ ⟨oH B a b 1,by simp[r,oH,fA],Ext.ah _,rfl,λh=>YM⟩
  ·go_simp;exact c _ _ ⟨oH B a b 2,H,Ext.ah _,H,λh=>YM⟩
  ·have m:=(j.o _ f).1.cell 1;have d2:=d 2 YK R;simp only[IN,oH] at d2;go_simp;exact c _ _ ⟨oH B a b 3,by simp[d2,oH,fA],Ext.ah _,rfl,λh=>YM⟩
  ·go_simp;exact c _ _ ⟨oH B a b 4,H,Ext.ah _,H,λh=>YM⟩
  ·have m:=(j.o _ f).1.cell 2;have S:=d 4 YK R;simp only[IN,oH] at S;go_simp;exact c _ _ ⟨oH B a b 5,by simp[S,oH,fA],Ext.ah _,rfl,λh=>YM⟩
  ·go_simp;exact c _ _ ⟨oH B a b 6,H,Ext.ah _,H,λh=>YM⟩
  ·have m:=(j.o _ f).1.cell 3;have Q:=d 6 YK R;simp only[IN,oH] at Q;go_simp;exact c _ _ ⟨oH B a b 7,by simp[Q,oH,fA],Ext.ah _,rfl,λh=>YM⟩
  ·have d1:=d 1 YK R;have d3:=d 3 YK R;have d5:=d 5 YK R;have d7:=d 7 YK R;simp only[IN,oH] at d1 d3 d5 d7;go_simp;exact c _ _ ⟨V (L ⟨w'.heap.size,0,I⟩) 4 4,by simp[d1,d3,d5,d7],(XI _ _).alloc (XE _) _,⟨_,rfl,ai.new _ _ _⟩,λh=>YM⟩
  ·go_simp;exact c _ _ ⟨oH B a b 9,H,Ext.ah _,H,λh=>YM⟩
  ·have m:=(j.o _ f).2.cell 0;have d9:=d 9 YK R;simp only[IN,oH] at d9;go_simp;exact c _ _ ⟨oH B a b 10,by simp[d9,oH,fA],Ext.ah _,rfl,λh=>YM⟩
  ·go_simp;exact c _ _ ⟨oH B a b 11,H,Ext.ah _,H,λh=>YM⟩
  ·have m:=(j.o _ f).2.cell 1;have ae:=d 11 YK R;simp only[IN,oH] at ae;go_simp;exact c _ _ ⟨oH B a b 12,by simp[ae,oH,fA],Ext.ah _,rfl,λh=>YM⟩
  ·go_simp;exact c _ _ ⟨oH B a b 13,H,Ext.ah _,H,λh=>YM⟩
  ·have m:=(j.o _ f).2.cell 2;have ab:=d 13 YK R;simp only[IN,oH] at ab;go_simp;exact c _ _ ⟨oH B a b 14,by simp[ab,oH,fA],Ext.ah _,rfl,λh=>YM⟩
  ·go_simp;exact c _ _ ⟨oH B a b 15,H,Ext.ah _,H,λh=>YM⟩
  ·have m:=(j.o _ f).2.cell 3;have X:=d 15 YK R;simp only[IN,oH] at X;go_simp;exact c _ _ ⟨oH B a b 16,by simp[X,oH,fA],Ext.ah _,rfl,λh=>YM⟩
  ·have ac:=d 10 YK R;have P:=d 12 YK R;have af:=d 14 YK R;have ad:=d 16 YK R;simp only[IN,oH] at ac P af ad;go_simp;exact c _ _ ⟨V (L ⟨w'.heap.size,0,I⟩) 4 4,by simp[ac,P,af,ad],(XI _ _).alloc (XE _) _,⟨_,rfl,ai.new _ _ _⟩,λh=>YM⟩
  ·have d8:=d 8 YK R;go_simp;exact c _ _ ⟨u 8,YL,Ext.ah _,d8,λh=>YM⟩
 case tail=>
  intro u w' f E _;obtain⟨o,e5,ra⟩:=E 18 YK;obtain⟨g,e6,rb⟩:=E 17 YK;have aj:=A ra;have ag:=A rb;have N:=A f;clear E f ra rb;simp only[e5,e6,List.drop_succ_cons,List.drop_zero];go_wp2_with fail
  go_loopw [7] (λi wr=>∃k:Nat,i=G F (k:Int)/\k<=4/\(∀q,q<k->fA a q=fA b q)/\Ext w' wr) (λi _=>((4:Int)-Yf i).toNat)
  case atStart=>exact⟨0,H,YK,λq h=>D,Ext.ah _⟩
  case round=>
   obtain⟨k,rfl,hk,z,t⟩:=hrel;have l:=A t;have HQ:=A z;by_cases ah:k<4
   ·have e4:(k:Int)<4:=D;have ca:∀W,Ext w' W->W.cell? ⟨o,k,I⟩=L (G F (fA a k)):=λW h=>((aj.o.ext h).cell k).trans (by rcases(show k=0\/k=1\/k=2\/k=3 by omega) with rfl|rfl|rfl|rfl<;>rfl)
    have cb:∀W,Ext w' W->W.cell? ⟨g,k,I⟩=L (G F (fA b k)):=λW h=>((ag.o.ext h).cell k).trans (by rcases(show k=0\/k=1\/k=2\/k=3 by omega) with rfl|rfl|rfl|rfl<;>rfl)
    have c0:=ca _ t;have r:=cb _ t;have J:=A (λh=>TI ah z (h:fA a k≠fA b k));have T:=A (λ(h:fA a k=fA b k) q (ak:q<k+1)=>(if e:q<k then z q e else by rw[show q=k by omega];exact h:fA a q=fA b q));obtain⟨x,hx⟩:=aa (fA a k);obtain⟨y,hy⟩:=aa (fA b k);rw[hx,hy] at J T;rw[hx] at c0;rw[hy] at r;clear t z ca cb hx hy;rcases Int.lt_trichotomy x y with h|h|h
    ·have Z:YG (x<y)=Y:=Yb h;go_wp2_with fail
     go_quiet (fail)
     go_wp2;go_ret;exact⟨by rw[J.o D];unfold Lib.compareInt;rw[XT h];rfl,K.o.tr (N.o.tr (below_drewN l.o _))⟩
    ·have Z:YG (x<y)=O:=XU D;have t2:YG (x>y)=O:=XU D;go_wp2_with fail
     go_quiet (fail)
     go_wp2_with fail
     go_quiet (fail)
     go_wp2;exact⟨⟨k+1,by go_num,D,T.o h,below_drewN l.o _⟩,YO⟩
    ·have Z:YG (x<y)=O:=XU D;have t2:YG (x>y)=Y:=Yb h;go_wp2_with fail
     go_quiet (fail)
     go_wp2_with fail
     go_quiet (fail)
     go_wp2;go_ret;exact⟨by rw[J.o D];unfold Lib.compareInt;rw[XQ D,XT h];rfl,K.o.tr (N.o.tr (by first|exact below_drewN l.o _|exact below_drewN (below_drewN l.o _) _))⟩
   ·obtain rfl:k=4:=D;go_wp2;go_ret;exact⟨by rw[T9 HQ.o];rfl,K.o.tr (N.o.tr l.o)⟩
end
section
open Kp
theorem WW(h1: -1<=x)(h2:x<=1):0<=x*x/\x*x<=1:=by
 rcases(show x= -1\/x=0\/x=1 by omega) with rfl|rfl|rfl<;>decide
end
section
open Kp
def ky(P:Prop)(x:Ending):Prop:=∃b:Bool,x=YC (Yz b)/\(b=O->P)
structure Mi(rs:List (List Sd)):Prop where
 f:ln rs.flatten<=40
 n:ln rs<=40
 e:ln rs.flatten<=8\/24<ln rs.flatten
def Dx(w:U)(N:Option Ym)(E:Nat)(rs:List (List Sd))(q:gw w w.heap.size N E rs)(n:Int)(r:n=8)(W:ln rs.flatten<=4000000000):
  XY Xz 13 #[YE #[V N (ln rs) E],G F n] w λx w'=>ky (Mi rs) x/\Ext w w':=by
 have S:=A r;clear r;have h1:=q.1;have h2:=q.2.1;unfold Yk at h2;have e:=A (show Ext w (w.alloc (.cells #[V N (ln rs) E] 24)) from(XI _ _).alloc (XE _) _);have P:=A (Bx.new w 24 (V N (ln rs) E));have Z0:=A (show w.heap.size<(w.alloc (.cells #[V N (ln rs) E] 24)).heap.size by simp);have I:=A ((q.below e.o).more (B':=(w.alloc (.cells #[V N (ln rs) E] 24)).heap.size) YL);clear q;go_enter func13,ntmps13;go_wp2;obtain⟨w0,v⟩:=aa (w.alloc (.cells #[V N (ln rs) E] 24));simp only[v] at e P Z0 I⊢;clear v;have c0:=P.o.cell
 go_loop [5,6] (λs i=>∃k:Nat,k<=ln rs/\i=G F (k:Int)/\s=G F ((rs.take k).flatten.length:Int)) (λ_ i=>((ln rs:Int)-Yf i).toNat)
 case atStart=>exact⟨0,D,rfl,YL⟩
 case round=>
  obtain⟨k,hk,rfl,rfl⟩:=hrel;by_cases C:k<ln rs
  ·obtain⟨b,off,rfl,hB,l⟩:=I.o.2.2 D;obtain⟨Ai,ci,c1,j⟩:=l k C;have f:=eQ C;have y:=gx rs (k+1);have B:((rs.take (k+1)).flatten.length:Int)=((rs.take k).flatten.length:Int)+((rs.getD k []).length:Int):=by rw[f];simp
   obtain⟨m,g⟩:=aa ((rs.take k).flatten.length);obtain⟨d,o⟩:=aa ((rs.getD k []).length);rw[o] at c1;have hs:m+d<=4000000000:=by rw[g,o] at B;omega
   exact a1y
  ·obtain rfl:k=ln rs:=D;have J:(rs.take (ln rs)).flatten.length=ln rs.flatten:=by rw[List.take_length]
   rw[J];clear J;obtain⟨m,g⟩:=aa (ln rs.flatten);rw[g] at W⊢;obtain⟨L,lL⟩:=aa (YG ((m:Int)>n));obtain⟨H,qQ⟩:=aa (YG ((m:Int)<=24));obtain⟨u,X⟩:=aa (YG ((m:Int)>40));obtain⟨M,ab⟩:=aa (YG ((ln rs:Int)>40));have t:=A g;have Y:=A X;have Q:=A ab;clear g;have Z:=A lL;have T:=A qQ;have R:∀{b:Bool},(b=O->u=O/\M=O/\(L=O\/H=O))->(b=O->Mi rs):=λh hb=>by
    obtain⟨a,c,d⟩:=h hb;have K:=Y.o;rw[a] at K;have z:=Q.o;rw[c] at z;have:=Yp K;have:=Yp z;have g:=t.o;have r:=S.o;refine⟨D,D,?_⟩;rcases d with d|d
    ·have h1:=Z.o;rw[d] at h1;have:=Yp h1;omega
    ·have h2:=T.o;rw[d] at h2;have:=Yp h2;omega
   cases L<;>cases H<;>cases u<;>cases M
   all_goals
    go_wp2;go_ret
    first|exact⟨⟨_,rfl,λ_=>trivial⟩,e.o⟩|(refine⟨⟨_,rfl,R ?_⟩,e.o⟩;simp)
end
section
open Kp
structure Fe(s:U)(t:Yj)(zero Q:List Z)(val:Nat->Z)(B:Nat->Bool)(u:Nat->Z)(W:U):Prop where
 vals:∀q,B q=Y->q<15->u q=val q
 ext:Ext s W
 a:B 15=Y->∃pa,u 15=YA (L ⟨pa,0,I⟩)/\s.heap.size<=pa/\ai W pa t (if B 17=Y then Q else zero)/\(B 16=Y->u 16≠ YA (L ⟨pa,0,I⟩))
 b:B 16=Y->∃c,u 16=YA (L ⟨c,0,I⟩)/\s.heap.size<=c/\ai W c t zero
 st:B 17=Y->B 15=Y
variable {s W : U} {t : Yj} {zero Q : List Z} {val : Nat → Z} {B : Nat → Bool} {u : Nat → Z}
def Fe.start(h:Ext s W)(a:Nat->Z):Fe s t zero Q val (λ_=>O) a W:=
 ⟨λ_ h=>YM,h,λh=>YM,λh=>YM,λh=>YM⟩
def Fe.pure(h:Fe s t zero Q val B u W){q:Nat}(i:q<15){v:Z}(g:v=val q):Fe s t zero Q val (kn B q) (bN u q v) W:=by
 have d:15≠q:=D;have b:16≠q:=D;have f:17≠q:=D;refine⟨λm c a=> ?_,h.ext,?_,?_,?_⟩
 ·by_cases e:m=q
  ·subst e;rw[dI];exact g
  ·exact a2t
 ·rw[aj d,aj b,aj f,bF d,bF b];exact h.a
 ·rw[aj b,bF b];exact h.b
 ·rw[aj f,aj d];exact h.st
theorem Fe.Xw(h:Fe s t zero Q val B u W)(j:B 15=O)(n:zero=zero)(l:S=W.alloc (.cells zero.toArray t)):Fe s t zero Q val (kn B 15) (bN u 15 (YA (L ⟨W.heap.size,0,I⟩))) S:=by
 subst l;have g:B 17=O:=by cases q:B 17 with|false=>rfl|true=>rw[h.st q] at j;cases j
 have hx:Ext W (W.alloc (.cells zero.toArray t)):=(XI _ _).alloc (XE _) _;refine⟨λm c a=> ?_,h.ext.tr hx,?_,?_,?_⟩
 ·have e:m≠15:=D;exact a2t
 ·intro _;rw[dI,aj (k:=17) YK,g,aj (k:=16) YK,bF (k:=16) YK];refine⟨_,H,h.ext.size,by rw[XQ YK];exact ai.new _ _ _,λd e=> ?_⟩;obtain⟨i,f,_,b⟩:=h.b d;rw[f] at e;exact a2u
 ·rw[aj (k:=16) YK,bF (k:=16) YK];intro d;obtain⟨i,f,a,b⟩:=h.b d;exact⟨i,f,a,b.ext hx⟩
 ·rw[aj (k:=17) YK,g];intro h;cases h
theorem Fe.Xo(h:Fe s t zero Q val B u W)(d:S=W.alloc (.cells zero.toArray t)):Fe s t zero Q val (kn B 16) (bN u 16 (YA (L ⟨W.heap.size,0,I⟩))) S:=by
 subst d;have hx:Ext W (W.alloc (.cells zero.toArray t)):=(XI _ _).alloc (XE _) _;refine⟨λm c a=> ?_,h.ext.tr hx,?_,?_,?_⟩
 ·have e:m≠16:=D;exact a2t
 ·rw[aj (k:=15) YK,aj (k:=17) YK,bF (k:=15) YK,dI];intro g;obtain⟨pa,f,a,b,_⟩:=h.a g;refine⟨pa,f,a,b.ext hx,λ_ e=> ?_⟩;exact a2u
 ·intro _;rw[dI];exact⟨_,H,h.ext.size,ai.new _ _ _⟩
 ·rw[aj (k:=17) YK,aj (k:=15) YK];exact h.st
def Fe.store(h:Fe s t zero Q val B u W)(l:B 15=Y){pa:Nat}(g:u 15=YA (L ⟨pa,0,I⟩)):Fe s t zero Q val (kn B 17) (bN u 17 M) (W.setRow pa Q.toArray):=by
 obtain⟨n,b,a,r,f⟩:=h.a l;obtain rfl:pa=n:=by rw[g] at b;injection b with b;injection b with b;injection b with b
 refine⟨λm c a=> ?_,al h.ext a _,?_,?_,?_⟩
 ·have e:m≠17:=D;exact a2t
 ·rw[aj (k:=15) YK,aj (k:=16) YK,fM,bF (k:=15) YK,bF (k:=16) YK];intro _;exact⟨pa,g,a,by rw[XT rfl];exact setRow_heap r _,f⟩
 ·rw[aj (k:=16) YK,bF (k:=16) YK];intro i;obtain⟨d,j,q,o⟩:=h.b i;have v:d≠pa:=λe=>f i (by rw[j,e])
  have:(W.setRow pa Q.toArray).heap[d]?=W.heap[d]?:=by simp only[World.setRow,Array.getElem?_modify];rw[XQ (Ne.symm v)]
  exact⟨d,j,q,this.trans o⟩
 ·intro _;rw[aj (k:=15) YK];exact l
def qC(a ok n c k p:Nat)(r:List Sd):Nat->Z
 |0=> V (L ⟨a,ok,I⟩) n c
 |1=> G F (k:Int)
 |2=> V (L ⟨a,ok,I⟩) n c
 |3=> G F (n:Int)
 |4=> G F ((k:Int)+n)
 |5=> G F ((k:Int)+n-1)
 |6=> V (L ⟨a,ok,I⟩) n c
 |7=> G F (n:Int)
 |8=> G F (p:Int)
 |9=> YA (L ⟨a,ok+p*7,I⟩)
 |10=> YE (nQ (au r p)).toArray
 |11=> V (L ⟨a,ok,I⟩) n c
 |12=> G F (k:Int)
 |13=> YA (L ⟨a,ok+k*7,I⟩)
 |14=> YE (nQ (au r k)).toArray
 |_=>M
theorem wpList_skip{P:Program}{ops:Array Oper}{rest:List Oper}{o:Oper}{a:Act}{Q:Exit->Act->U->Prop}(c:Region.wanted o (yielded ops a.tmps)=O)(h:wpList P ops Q rest (a.put o.dst M) w):wpList P ops Q (o::rest) a w:=
 wpList_step λ_ b=>by
  rw[XQ (by rw[c];decide)];exact b _ _ h
end
section
open Kp
def oZ{rs:List (List Sd)}(h:ln rs.flatten<=1000000)(k:Nat):(rs.getD k []).length<=1000000:=by
 by_cases hk:k<ln rs
 ·rw[XJ,XO hk];exact Ye (List.sublist_flatten_of_mem (List.getElem_mem hk)).length_le h
 ·rw[XJ,List.getElem?_eq_none D];exact Nat.zero_le _
end
section
open Kp
theorem Dg.jh(h:Dg z)(b:z.size<=300):Fb z:=⟨h.pos,b,λm _ _ a=>h.all m a,h.lead⟩
theorem xe(h:k<=9):(10:Nat)^k<=1000000000:=Nat.pow_le_pow_right YK h
def iU(y:ByteArray)(w:U)(h:Fb y)(r:y.size<=9):XY Xz 102 #[Yy y] w λx w'=>x=YC (G F (cI y y.size:Nat))/\Ext w w':=by
 have d:=A h;clear h;go_enter func102,ntmps102;go_wp2;go_loopw [3,4] (λn i wr=>∃(k:Nat),n=G F (cI y k:Nat)/\i=G F (k:Int)/\k<=y.size/\Ext w wr) (λ_ i _=>((y.size:Int)-Yf i).toNat)
 case atStart=>exact⟨0,H,H,D,XI _ _⟩
 case round=>
  obtain⟨k,rfl,rfl,hk,j⟩:=hrel;have a:=A j;have m:=Nat.lt_of_lt_of_le (pJ d.o hk) (xe D);obtain⟨v,b⟩:=aa (cI y k);rw[b] at m⊢;have f:=A b;clear j b;by_cases c:k<y.size
  ·obtain⟨g,o,e⟩:=d.o.at c;have l:=A (mJ c e);have q:(((y[k]'c).toNat:Int)-48)%256=(g:Int):=by rw[e];omega
   exact a2I
  ·obtain rfl:k=y.size:=D;go_wp2;go_ret;exact⟨Zf,a.o⟩
def xW(a b:Nat)(w:U)(j:b<1000000000000000000):XY Xz 101 #[G F (a:Int),G F (b:Int)] w λx w'=>x=YC (G F (Nat.gcd a b:Nat))/\Ext w w':=by
 obtain⟨g,c⟩:=aa (Nat.gcd a b);rw[c];have m:=A c;clear c;go_enter func101,ntmps101;go_wp2;go_loopw [0,1] (λx y wr=>∃p q:Nat,x=G F (p:Int)/\y=G F (q:Int)/\q<1000000000000000000/\Nat.gcd p q=g/\Ext w wr) (λ_ y _=>(Yf y).natAbs)
 case atStart=>exact⟨a,b,H,H,j,m.o,XI _ _⟩
 case round=>
  obtain⟨p,q,rfl,rfl,s,c,f⟩:=hrel;have e:=A f;have i:=A c;clear f c;by_cases l:q=0
  ·subst l;go_wp2;go_ret;exact⟨by rw[<-i.o,Nat.gcd_zero_right];rfl,e.o⟩
  ·obtain⟨r,d⟩:=aa (p%q);have h1:(p:Int).tmod q=(r:Int):=by rw[IntWalk.rem_in _ _ D,<-d];simp
   have h2:r<q:=by rw[<-d];exact Nat.mod_lt _ D
   have k:=A (show Nat.gcd q r=g by rw[<-d,Nat.gcd_comm,<-Nat.gcd_rec,Nat.gcd_comm];exact i.o);have w1:F.wrap (r:Int)=r:=Yh _ D;have o:((q:Int) !=0)=Y:=Yn.2 D;have n:¬(q:Int)=0:=D;clear d;go_wp2_with fail
   go_quiet (fail)
   go_wp2
   go_round
   case rel=>exact⟨q,r,H,H,D,k.o,below_drewN e.o _⟩
   case measure=>simp[Yf];exact h2
end
section
open Kp
def nK(z:ByteArray):(aG z).2.2.1.size<=z.size:=by
 have key:∀(y:ByteArray) (q:Nat) (m:Bool),y.size<=z.size->(if q<y.size then(m,y.extract 0 q,y.extract (q+1) y.size,Y) else(m,y,(⟨#[]⟩:ByteArray),O)).2.2.1.size<=z.size:=by
  intro y q m hy;split
  ·show(y.extract (q+1) y.size).size<=z.size;rw[ByteArray.size_extract];omega
  ·exact Nat.zero_le _
 exact a2F
structure Vu(z:ByteArray):Prop where
 pos:0<z.size
 num:0<(pN (aG z)).size
 den:0<(pD (aG z)).size
def sK(g sl c f a d b e:Bool):Bool:= !(sl&&(c||f))&& !(g&&a)&& !d&& !b&&(!sl||e)
def ks(z:ByteArray):Prop:=
 let v:=aG z
 Dg v.2.1/\(v.2.2.2=Y->Dg v.2.2.1)/\sK v.1 v.2.2.2 (v.2.2.1.toList==[48]) (v.2.2.1.toList==[49]) (v.2.1.toList==[48]) (YG (300<v.2.1.size)) (YG (300<v.2.2.1.size)) (Nat.gcd (cI v.2.1 v.2.1.size) (cI v.2.2.1 v.2.2.1.size)==1)=Y
theorem ks.num(h:ks z):Vu z:=by
 obtain⟨h1,h2,_⟩:=h;have a:=j2 z;have:=h1.pos;refine⟨D,?_,?_⟩
 ·unfold pN;split
  ·rw[ByteArray.size_append];omega
  ·exact h1.pos
 ·unfold pD;split
  ·exact(h2 YT).pos
  ·decide
def Sk(z:ByteArray)(e:Ending):Prop:=∃k:Int,e=YC (G F k)/\(k=0↔ks z)
def oI (z : ByteArray) (w : U) (Z : z.size <= 1000000) (c : bE w) : XY Xz 37 #[Yy z] w λe w' => Sk z e /\ Ext w w' := by
  have T := A c;have I := A (lM z w Z);have O := j2 z;have N := nK z;have E := A (show ks z ↔ ks z from Iff.rfl);unfold Sk;unfold ks at E ⊢;obtain ⟨⟨g, n, d, sl⟩, y⟩ : ∃ v, aG z = v := ⟨_, H⟩;rw [y] at I O N ⊢;dsimp only at O N ⊢;clear y c E;have V : n.size <= 1000000 := D;have Y : d.size <= 1000000 := D;have DN := A (λW => ng n W V);have DD := A (λW => ng d W Y);obtain ⟨p1, h1⟩ : ∃ p, (d.toList == [48]) = p := ⟨_, H⟩;obtain ⟨p2, h2⟩ : ∃ p, (d.toList == [49]) = p := ⟨_, H⟩;obtain ⟨p3, h3⟩ : ∃ p, (n.toList == [48]) = p := ⟨_, H⟩;obtain ⟨P, s⟩ : ∃ p, YG (300 < n.size) = p := ⟨_, H⟩;obtain ⟨B, r⟩ : ∃ p, YG (300 < d.size) = p := ⟨_, H⟩;obtain ⟨q, o⟩ : ∃ q, Nat.gcd (cI n n.size) (cI d d.size) = q := ⟨_, H⟩;obtain ⟨J, l⟩ : ∃ p, (q == 1) = p := ⟨_, H⟩;rw [h1, h2, h3, s, r, o, l];have X : YG (300 < (n.size : Int)) = P := by rw [<- s]; simp; omega
  have S : YG (300 < (d.size : Int)) = B := by rw [<- r]; simp; omega
  have ad : ((q : Int) != 1) = !J := by
    rw [<- l]; cases a : (q == 1)
    · rw [XN] at a; rw [Bool.not_false, Yn]; omega
    · rw [Yg] at a; subst a; rfl
  have ac := A (show ∀ t : ByteArray, (t.toList = [49] ↔ Nat.gcd (cI n n.size) (cI d d.size) = 1) -> (t.toList == [49]) = J fromλt h => by
    rw [o] at h; rw [<- l, Bool.eq_iff_iff, Yg, Yg]; exact h)
  have HQ := A o;have ab : q.gcd 0 = q := Nat.gcd_zero_right q;clear o s r l ab;cases g <;> cases sl
  all_goals
    go_enter func37, ntmps37;go_wp2_with (go_at_call 99; refine I.o.mono ?_; unfold ot; rintro e W1 ⟨rfl, L⟩; have aa := A L; clear L)
    refine (DN.o W1).mono ?_;rintro e W2 ⟨⟨b, rfl, a⟩, R⟩;have K := A (aa.o.tr R);have j := A a;clear R a;cases b
  all_goals (cases P <;> cases B)
  all_goals go_wp2_with (first
      | (go_at_call 103; (refine (yM n d _ ((j.o.1 YL).jh (by have := Yp X; omega)) ((m.o.1 (by first | simp | assumption)).jh (by have := Yp S; omega)) (T.o.below i.o (XE _))).mono ?_); rintro e W4 ⟨⟨t, k, rfl, _, c⟩, f⟩; have u := A (i.o.tr f); have ae := ac.o t c; clear f c)
      | (go_at_call 101; (refine (xW (cI n n.size) (cI d d.size) _ (by have := Nat.lt_of_lt_of_le (pJ M.o (XE _)) (xe D); omega)).mono ?_); rw [HQ.o]; rintro e W6 ⟨rfl, G⟩; have X6 := A (X5.o.tr G); clear G)
      | (go_at_call 102; have M := A ((m.o.1 (by first | simp | assumption)).jh D); (with_reducible refine (iU d _ M.o D).mono ?_); rintro e W5 ⟨rfl, Q⟩; have X5 := A (u.o.tr Q); clear Q)
      | (go_at_call 102; refine (iU n _ ((j.o.1 YL).jh D) D).mono ?_; rintro e W4 ⟨rfl, f⟩; have u := A (i.o.tr f); clear f)
      | (go_at_call 100; refine (DD.o _).mono ?_; rintro e W3 ⟨⟨b3, rfl, x⟩, C⟩; have i := A (K.o.tr C); have m := A x; clear C x))
  all_goals go_ret
  all_goals refine ⟨?_, by first | exact K.o | exact i.o | exact u.o | exact X6.o⟩
  all_goals first
    | (refine ⟨0, rfl, ⟨λ_ => ⟨j.o.1 ?_, λh => ?_, ?_⟩, λ_ => rfl⟩⟩
       · first | rfl | trivial
       · first | (cases h; done) | (apply m.o.1; first | rfl | trivial | assumption)
       · simp_all [sK]; done)
    | (refine ⟨_, rfl, ⟨λh => absurd h YK, λ⟨h, _⟩ => ?_⟩⟩
       have F := j.o.2 h;cases F; done)
    | (refine ⟨_, rfl, ⟨λh => absurd h YK, λ⟨_, _, h⟩ => ?_⟩⟩
       simp_all [sK]; done)
    | (refine ⟨_, rfl, ⟨λh => absurd h YK, λ⟨_, h, _⟩ => ?_⟩⟩
       have F := m.o.2 (h (by first | rfl | trivial))
       simp_all; done)
    | trace_state
end
section
open Kp
def VH(z:ByteArray)(e:Ending):Prop:=∃(a b:ByteArray) (k:Int),e=YC (YF #[Yy a,Yy b,G F k])/\(ks z->k=0/\a=pN (aG z)/\b=pD (aG z))
def q9(z:ByteArray)(w:U)(c:z.size<=1000000)(f:bE w):XY Xz 257 #[Yy z] w λe w'=>VH z e/\Ext w w':=by
 have d:=A (oI z w c f);have i:=A (λW=>oU z W c);go_enter func257,ntmps257;go_wp2_with(first
  |(go_at_call 280;refine(i.o _).mono ?_;rintro e m ⟨rfl,l⟩;have g:=A (a.o.tr l))
  |(go_at_call 37;refine d.o.mono ?_;rintro e W1 ⟨⟨k,rfl,hk⟩,b⟩;have a:=A b;have j:=A hk;clear b hk))
 ·go_ret3
  exact⟨⟨_,_,_,H,λh=>absurd (j.o.2 h) a0d⟩,a.o⟩
 ·go_ret3
  exact⟨⟨_,_,_,H,λ_=>⟨rfl,rfl,rfl⟩⟩,g.o⟩
def Hu(z:ByteArray):(pN (aG z)).size<=z.size+1:=by
 have h:=j2 z;unfold pN;split
 ·rw[ByteArray.size_append];show 1+_<=_;omega
 ·omega
def Iy(z:ByteArray):(pD (aG z)).size<=z.size+1:=by
 have h:=nK z;unfold pD;split
 ·omega
 ·show 1<=_;omega
end
section
open Kp
def VW(a:List ByteArray):List Z:=a.map Value.string
end
section
open Kp
attribute [local go_sem] aF gZ en ef eh dZ dt eH eI dY dP
def fH(n:Nat):Bool:=(YG (20<n)&&YG (n<299))||YG (604<n)
def Py(s:ByteArray)(w:U):XY Xz 45 #[Yy s] w λe w'=>e=YC (Yz (fH s.size))/\w'=w:=by
 by_cases h1:s.size<=20
 ·have a:=A (show fH s.size=O by unfold fH;simp;omega);go_enter func45,ntmps45;go_wp2;go_ret;exact⟨by rw[a.o];simp;omega,rfl⟩
 by_cases h2:s.size<299
 ·have a:=A (show fH s.size=Y by unfold fH;simp;omega);have b:YG (20<(s.size:Int))=Y:=Zo;exact a2L
 ·have a:=A (show fH s.size=YG (604<(s.size:Int)) by unfold fH;rw[Bool.eq_iff_iff];simp;omega);have b:YG (20<(s.size:Int))=Y:=Zo;have c:YG ((s.size:Int)<299)=O:=YU;exact a2L
def E6(w:U)(c E:Nat)(T:Yj)(x y:Int)(s:K)(a:bw w c T [G F x,G F y,Yy (tx s)]):
  XY Xz 16 #[V (L ⟨c,0,I⟩) 1 E] w λe w'=>e=YC (Yz (YG (50<ln s)))/\w'=w:=by
 have c2:w.cell? ⟨c,2,I⟩=L (Yy (tx s)):=by rw[a.cell];rfl
 clear a;by_cases h:50<ln s
 ·have HR:=A (show YG (50<ln s)=Y by simpa using h);go_enter func16,ntmps16;go_wp2;refine wp_loop_rounds 2 ?_;exact a1N
 ·have HR:=A (show YG (50<ln s)=O by simpa using h);go_enter func16,ntmps16;go_wp2;refine wp_loop_rounds 2 ?_;exact a1M
def kA(a b c d:K):Bool:=fH (ln a)||fH (ln b)||fH (ln c)||fH (ln d)
def nd(s:K)(w:U):XY Xz 45 #[Yy (tx s)] w λe w'=>e=YC (Yz (fH (ln s)))/\w'=w:=by
 have:=Py (tx s) w;rw[af] at this;exact this
def tB(w:U)(k E:Nat)(T:Yj)(x:Int)(a b c d:K)(f:bw w k T [G F x,Yy (tx a),Yy (tx b),Yy (tx c),Yy (tx d)]):
  XY Xz 14 #[V (L ⟨k,0,I⟩) 1 E] w λe w'=>e=YC (Yz (kA a b c d))/\w'=w:=by
 have c1:w.cell? ⟨k,1,I⟩=L (Yy (tx a)):=by rw[f.cell];rfl
 have c2:w.cell? ⟨k,2,I⟩=L (Yy (tx b)):=by rw[f.cell];rfl
 have c3:w.cell? ⟨k,3,I⟩=L (Yy (tx c)):=by rw[f.cell];rfl
 have c4:w.cell? ⟨k,4,I⟩=L (Yy (tx d)):=by rw[f.cell];rfl
 clear f;cases j:fH (ln a)
 ·cases i:fH (ln b)
  ·cases l:fH (ln c)
   ·cases g:fH (ln d)
    ·have HR:=A (show kA a b c d=O by unfold kA;simp[j,i,l,g]);go_enter func14,ntmps14;go_wp2;refine wp_loop_rounds 2 ?_;rw[rounds_succ];go_wp2_with(go_at_call 45;refine(nd _ _).mono ?_;rintro e w1 ⟨rfl,rfl⟩)
     exact a1N
    ·have HR:=A (show kA a b c d=Y by unfold kA;simp[g]);exact a2M
   ·have HR:=A (show kA a b c d=Y by unfold kA;simp[l]);exact a2M
  ·have HR:=A (show kA a b c d=Y by unfold kA;simp[i]);exact a2M
 ·have HR:=A (show kA a b c d=Y by unfold kA;simp[j]);exact a2M
def bw.Wu(w:U)(o a:Obj)(T:Yj)(l:List Z):bw (((w.alloc o).alloc a).alloc (.cells l.toArray T)) (w.heap.size+1+1) T l:=by
 have:=bw.N6 (w.alloc o) a T l;rw[Ya] at this;exact this
def fl(e:Ed):Bool:=YG (40<ln e.text)||YG (17<ln e.gaps)||kA e.oleft e.oright e.olow e.ohigh||YG (50<ln e.lweight)
def xu(w:U)(e:Ed)(o:Option Ym)(q:Nat):
  XY Xz 5 #[YE (P e (V o (ln e.gaps) q))] w λr w'=>r=YC (Yz (fl e))/\Yl w.heap.size w w':=by
 have a:=A (show Yl w.heap.size w (w.alloc (.cells (P e (V o (ln e.gaps) q)) 50)) from(XI _ _).alloc (XE _) _);by_cases h1:40<ln e.text
 ·have HR:=A (show fl e=Y by unfold fl;simp[h1]);go_enter func5,ntmps5;go_wp2;go_ret;exact⟨YQ,a.o⟩
 by_cases h2:17<ln e.gaps
 ·have HR:=A (show fl e=Y by unfold fl;simp[h2]);go_enter func5,ntmps5;go_wp2;go_ret;exact⟨YQ,a.o⟩
 cases b:kA e.oleft e.oright e.olow e.ohigh
 ·have HR:=A (show fl e=(YG (40<(ln e.text:Int))||YG (17<(ln e.gaps:Int))||YG (50<ln e.lweight)) by unfold fl;rw[b,Bool.eq_iff_iff];simp;omega);go_enter func5,ntmps5;go_wp2_with(first
   |(go_at_call 14;refine(tB _ _ _ 39 e.oside e.oleft e.oright e.olow e.ohigh (bw.N6 w _ _ _)).mono ?_;rintro r W1 ⟨rfl,rfl⟩)
   |(go_at_call 16;refine(E6 _ _ _ 46 e.lkind e.lside e.lweight (bw.Wu w _ _ _ _)).mono ?_;rintro r W1 ⟨rfl,rfl⟩))
  go_ret;exact⟨YQ,(a.o.alloc YL _).alloc YP _⟩
 ·have HR:=A (show fl e=Y by unfold fl;simp[b]);go_enter func5,ntmps5;go_wp2_with(go_at_call 14;refine(tB _ _ _ 39 e.oside e.oleft e.oright e.olow e.ohigh (bw.N6 w _ _ _)).mono ?_;rintro r W1 ⟨rfl,rfl⟩)
  go_ret;exact⟨YQ,a.o.alloc YL _⟩
end
section
open Kp
theorem MQ{B:Nat}{l:List Aw}(h:bR 5 w B N E (aO l))(d:0<ln l):
  ∃b off,N=L ⟨b,off,I⟩/\b<B/\∀i,i<ln l->w.cell? ⟨b,off+i*5,I⟩=L (G F (l.getD i kI).width)/\w.cell? ⟨b,off+i*5+1,I⟩=L (G F (l.getD i kI).depth)/\w.cell? ⟨b,off+i*5+2,I⟩=L (G F (l.getD i kI).spacing)/\w.cell? ⟨b,off+i*5+3,I⟩=L (G F (l.getD i kI).load)/\w.cell? ⟨b,off+i*5+4,I⟩=L (G F (l.getD i kI).span):=by
 obtain⟨h1,h2,f⟩:=h;obtain⟨b,off,e,g,a⟩:=f (by rw[XP];exact d);refine⟨b,off,e,g,λi hi=> ?_⟩;have c:(aO l).getD i []=iI (l.getD i kI):=by simp[List.getD,XO hi]
 have q:∀m,m<5->w.cell? ⟨b,off+i*5+m,I⟩=(iI (l.getD i kI))[m]?:=by
  exact a2N
 exact⟨q 0 YK,q 1 YK,q 2 YK,q 3 YK,q 4 YK⟩
def Bi(a b s l:Int):Int:=if(J a 1 1000&&J b 1 1000&&J s 1 65536&&J l 0 1048576)=Y then 0 else 2
def sM(a b s l:Int)(w:U):XY Xz 162 #[G F a,G F b,G F s,G F l] w λx w'=>x=YC (G F (Bi a b s l))/\w'=w:=by
 unfold Bi;cases f:J a 1 1000 with
 |false=>
  exact a2O
 |true=>
  cases g:J b 1 1000 with
  |false=>
   exact a2O
  |true=>
   cases c:J s 1 65536 with
   |false=>
    exact a2O
   |true=>
    cases d:J l 0 1048576 with
    |false=>
     exact a2O
    |true=>
     exact a2O
end
section
open Kp
def jM(r:List Sd)(k:Nat):Bool:=(pR r k*pR r k+pT r k*pT r k !=1)||(mO r k==0)
def iJ(r:List Sd):Bool:= !cK (jM r) (ln r)&&YG (4<=ln r)
def DI(w:U)(N:Option Ym)(E:Nat)(r:List Sd)(h:bR 7 w w.heap.size N E (aE r))(hn:ln r<=1000000):
  XY Xz 153 #[V N (ln r) E] w λx w'=>x=YC (Yz (iJ r))/\Ext w w':=by
 have h1:=h.1;have h2:=h.2.1;rw[XP] at h1;unfold Yk at h2;have Q:=A (λ(W:U) (hx:Ext w W)=>((h.below hx).more hx.size:bR 7 W W.heap.size N E (aE r)));clear h;obtain⟨v,q⟩:=aa (iJ r);rw[q];have P:=A q;clear q;go_enter func153,ntmps153;go_wp2;go_loopw [3] (λi wr=>∃k:Nat,i=G F (k:Int)/\k<=ln r/\Ext w wr/\∀j,j<k->jM r j=O) (λi _=>((ln r:Int)-Yf i).toNat)
 case atStart=>exact⟨0,H,D,XI _ _,λj h=>D⟩
 case round=>
  obtain⟨k,rfl,hk,C,M⟩:=hrel;have a:=A C;have R:=A M;clear M;by_cases z:k<ln r
  ·have l:=A (yy wr N E r (Q.o _ C) k z);have J:=A (λ(W:U) (hx:Ext w W)=>vg W N E r (Q.o _ hx) hn k z);have g:=A (show jM r k=((pR r k*pR r k+pT r k*pT r k !=1)||(mO r k==0)) from rfl);have L:=A (λh:jM r k=Y=>show v=O by rw[<-P.o];unfold iJ;rw[dh z h];rfl);obtain⟨B,o⟩:=Mm (F.wrap ((aS r k).x-(au r k).x));obtain⟨n,s⟩:=Mm (F.wrap ((aS r k).y-(au r k).y));obtain⟨x,hx⟩:=aa (pR r k);obtain⟨y,hy⟩:=aa (pT r k);change -1<=pR r k at B;change pR r k<=1 at o;change -1<=pT r k at n;change pT r k<=1 at s;rw[hx] at B o l g;rw[hy] at n s l g;clear hx hy C;have sx:=WW B o;have sy:=WW n s;have w1:F.wrap (x*x)=x*x:=Yh _ D;have w2:F.wrap (y*y)=y*y:=Yh _ D;have w3:F.wrap (x*x+y*y)=x*x+y*y:=Yh _ D;obtain⟨b,Z⟩:=aa (x*x+y*y !=1);obtain⟨t,K⟩:=aa (mO r k);rw[K] at J g;obtain⟨c,T⟩:=aa (t==0);rw[Z,T] at g;clear K;cases b with
   |true=>
    have I:=L.o g.o;subst I;go_wp2_with(go_at_call 217;refine l.o.mono ?_;rintro e W1 ⟨rfl,d⟩;have f:=A (Ext.tr a.o d);clear d)
    go_ret;exact⟨H,f.o⟩
   |false=>
    cases c with
    |true=>
     have I:=L.o g.o;subst I;go_wp2_with(first
      |(go_at_call 218;refine(J.o _ f.o).mono ?_;rintro e W2 ⟨rfl,m⟩;have u:=A (Ext.tr f.o m);clear m)
      |(go_at_call 217;refine l.o.mono ?_;rintro e W1 ⟨rfl,d⟩;have f:=A (Ext.tr a.o d);clear d))
     go_ret;exact⟨H,u.o⟩
    |false=>
     have X:=A g.o;go_wp2_with(first
      |(go_at_call 218;refine(J.o _ f.o).mono ?_;rintro e W2 ⟨rfl,m⟩;have u:=A (Ext.tr f.o m);clear m)
      |(go_at_call 217;refine l.o.mono ?_;rintro e W1 ⟨rfl,d⟩;have f:=A (Ext.tr a.o d);clear d))
     exact⟨⟨k+1,by go_num,D,u.o,λj hj=>by
      rcases Nat.lt_succ_iff_lt_or_eq.1 hj with h|rfl
      ·exact R.o j h
      ·exact X.o⟩,YO⟩
  ·obtain rfl:k=ln r:=D;have S:v=YG (4<=ln r):=by rw[<-P.o];unfold iJ;rw[bz R.o];simp
   have t1:YG ((ln r:Int)>=4)=v:=by rw[S];congr 1;simp only[ge_iff_le,eq_iff_iff];omega
   clear S;exact a2G
end
section
open Kp
theorem mX(h:p:=by
  go_enter func152,ntmps152;go_wp2_with(go_at_call 216;refine(Ky _ _ _ _).mono ?_;rintro e W1 ⟨rfl,rfl⟩)
  go_ret;exact⟨YL,g.o⟩):p:=h
def Ex(s:Sd)(w:U):XY Xz 152 #[YE (nQ s).toArray] w λx w'=>x=YC (Yz (aJ s))/\Ext w w':=by
 have r:=ai.new w 36 (nQ s);have g:=A (show Ext w (w.alloc (.cells (nQ s).toArray 36)) from(XI _ _).alloc (XE _) _);obtain⟨x,y,rise,run,gable,plate,over⟩:=s;cases gable;all_goals
  have c:=λi=>r.cell i
  obtain⟨t,q⟩:=aa (J x 0 65536);obtain⟨a,o⟩:=aa (J y 0 65536);obtain⟨j,u⟩:=aa (J plate 0 65536);obtain⟨v,b⟩:=aa (J over 0 65536);obtain⟨d,f⟩:=aa (J rise 1 48);obtain⟨z,n⟩:=aa (J run 1 48);obtain⟨k,m⟩:=aa (rise==0);obtain⟨B,l⟩:=aa (run==0);unfold aJ;simp only[q,o,u,b,f,n,m,l,Yr,Bool.false_eq_true,Yu];cases t
  ·exact mX
  cases a
  ·exact mX
  cases j
  ·exact mX
  cases v
  ·exact mX
  cases d<;>cases k<;>exact mX
def mg(r:List Sd)(x y:Int)(k:Nat):Bool:=((au r k).x==(aS r k).x)&&YG ((aS r k).x>x)&&YG (min (au r k).y (aS r k).y<=y)&&YG (y<max (au r k).y (aS r k).y)
theorem mF(h:p:=by
  go_wp2_with(go_at_call 253;refine K.o.mono ?_;rintro e W1 ⟨rfl,hX1⟩;have HX1:=A (Ext.tr a.o hX1);have d0:=(hX1.cell (p:=⟨b,off+k*7,I⟩) C.o).trans m;have d1:=(hX1.cell (p:=⟨b,off+k*7+1,I⟩) C.o).trans c1;clear hX1;clear m c1)
  exact⟨⟨k+1,by rw[S.o];simp,by go_num,D,HX1.o⟩,YO⟩):p:=h
def BY(w:U)(N:Option Ym)(E:Nat)(r:List Sd)(h:bR 7 w w.heap.size N E (aE r))(x y:Int):
  XY Xz 221 #[V N (ln r) E,G F x,G F y] w λe w'=>e=YC (Yz (nY (mg r x y) (ln r)))/\Ext w w':=by
 have h1:=h.1;have h2:=h.2.1;rw[XP] at h1;unfold Yk at h2;have B:=A (λ(W:U) (hx:Ext w W)=>((h.below hx).more hx.size:bR 7 W W.heap.size N E (aE r)));clear h;obtain⟨f,g⟩:=aa (nY (mg r x y));have P:=A (show∀k,f (k+1)=(if mg r x y k then !f k else f k) by rw[<-g];intro k;rfl);have R:=A (show f 0=O by rw[<-g];rfl);rw[g];clear g;go_enter func221,ntmps221;go_wp2;go_loopw [7,8] (λs i wr=>∃k:Nat,s=Yz (f k)/\i=G F (k:Int)/\k<=ln r/\Ext w wr) (λ_ i _=>((ln r:Int)-Yf i).toNat)
 case atStart=>exact⟨0,by rw[R.o],rfl,D,XI _ _⟩
 case round=>
  obtain⟨k,rfl,rfl,hk,d⟩:=hrel;have a:=A d;by_cases t:k<ln r
  ·obtain⟨b,off,rfl,J,z⟩:=gB (B.o _ d) D;obtain⟨m,c1,_⟩:=z k t;have C:=A J;have K:=A (mB wr _ E r (B.o _ d) k t);have c:=P.o k;unfold mg at c;obtain⟨u,hu⟩:=aa ((aS r k).x);obtain⟨v,j⟩:=aa ((aS r k).y);obtain⟨X,l⟩:=aa ((au r k).x);obtain⟨q,n⟩:=aa ((au r k).y);rw[hu,j,l,n] at c;rw[hu,j] at K;rw[l] at m;rw[n] at c1;clear z d J hu j l n;obtain⟨Y,lL⟩:=aa (X==u);obtain⟨Q,qQ⟩:=aa (YG (u>x));obtain⟨M,T⟩:=aa (YG (min q v<=y));obtain⟨Z,ab⟩:=aa (YG (y<max q v));rw[lL,qQ,T,ab] at c;obtain⟨o,L⟩:=aa (f k);rw[L] at c⊢;have S:=A c;clear c L;cases Y
   ·exact mF
   cases Q
   ·exact mF
   cases M
   ·exact mF
   cases Z
   ·exact mF
   ·exact mF
  ·obtain rfl:k=ln r:=D;exact a2G
def lD(r:List Sd):Nat->Int
 |0=>0
 |k+1=>wrap64 (wrap64 (lD r k+wrap64 ((au r k).x*(aS r k).y))-wrap64 ((aS r k).x*(au r k).y))
def Ge(w:U)(N:Option Ym)(E:Nat)(r:List Sd)(h:bR 7 w w.heap.size N E (aE r))(K:ln r<=1000000):
  XY Xz 220 #[V N (ln r) E] w λx w'=>x=YC (G F (lD r (ln r)))/\Ext w w':=by
 have h1:=h.1;have h2:=h.2.1;rw[XP] at h1;unfold Yk at h2;have l:=A (λ(W:U) (hx:Ext w W)=>((h.below hx).more hx.size:bR 7 W W.heap.size N E (aE r)));clear h;obtain⟨f,g⟩:=aa (lD r);have y:=A (show∀k,f (k+1)=wrap64 (wrap64 (f k+wrap64 ((au r k).x*(aS r k).y))-wrap64 ((aS r k).x*(au r k).y)) by rw[<-g];intro k;rfl);have B:=A (show f 0=0 by rw[<-g];rfl);rw[g];clear g;go_enter func220,ntmps220;go_wp2;go_loopw [3,4] (λs i wr=>∃k:Nat,s=G F (f k)/\i=G F (k:Int)/\k<=ln r/\Ext w wr) (λ_ i _=>((ln r:Int)-Yf i).toNat)
 case atStart=>exact⟨0,by rw[B.o],rfl,D,XI _ _⟩
 case round=>
  obtain⟨k,rfl,rfl,hk,d⟩:=hrel;have a:=A d;by_cases q:k<ln r
  ·obtain⟨b,off,rfl,o,t⟩:=gB (l.o _ d) D;obtain⟨u,c1,_⟩:=t k q;have n:=A o;have J:=A (mB wr _ E r (l.o _ d) k q);have j:=y.o k;obtain⟨z,m⟩:=aa (f k);rw[m] at j⊢;have C:=A j;clear t d o j m;go_wp2_with(go_at_call 253;refine J.o.mono ?_;rintro e W1 ⟨rfl,c⟩;have v:=A (Ext.tr a.o c);have L:=(c.cell (p:=⟨b,off+k*7,I⟩) n.o).trans u;have d1:=(c.cell (p:=⟨b,off+k*7+1,I⟩) n.o).trans c1;clear c;clear u c1)
   go_quiet (fail)
   go_wp2;exact⟨⟨k+1,by rw[C.o],by go_num,D,below_drewN v.o _⟩,YO⟩
  ·obtain rfl:k=ln r:=D;exact a2G
end
section
open Kp
def nH(rs:List (List Sd))(k m:Nat):Bool:= !(m==k)&&(nY (mg (rs.getD m []) (au (rs.getD k []) 0).x (au (rs.getD k []) 0).y) (rs.getD m []).length !=(m==0))
def nS(rs:List (List Sd))(k:Nat):Bool:=YG (1<=k)&&(YG (0<=lD (rs.getD k []) (rs.getD k []).length)||cK (nH rs k) (ln rs))
def vJ(rs:List (List Sd)):Bool:=YG (0<lD (rs.getD 0 []) (rs.getD 0 []).length)&& !cK (nS rs) (ln rs)
def IX(rs:List (List Sd)):∀j,j<1->nS rs j=O:=λj h=>by
 obtain rfl:j=0:=D;simp[nS]
theorem SO(h:p:=by
  have HU:=A (iZ (P:=λj=>nH rs k j=O) A2.o (ar.o.trans H));go_wp2_with fail
  go_region_held3(λw'=>Ext wr w') (first|exact hx1|exact Ext.dr wr) (first|(go_at_call 221;refine(o.o _ (Ext.dr wr)).mono ?_;rintro e W3 ⟨rfl,hX4⟩;have hx1:Ext wr W3:=(Ext.dr wr).tr hX4;clear hX4))
  go_wp2
  go_round
  case rel=>exact⟨m+1,by go_num,D,ab.o.tr hx1,HU.o⟩
  case measure=>simp[Yf];omega):p:=h
theorem Nw(h:p:=by
  have J:=av.o (by rw[aq.o];exact dh ae (ar.o.trans H));subst J;go_wp2_with fail
  go_region_held3(λw'=>Ext wr w') (first|exact hx1|exact Ext.dr wr) (first|(go_at_call 221;refine(o.o _ (Ext.dr wr)).mono ?_;rintro e W3 ⟨rfl,hX4⟩;have hx1:Ext wr W3:=(Ext.dr wr).tr hX4;clear hX4))
  go_wp2;go_ret;exact⟨H,ab.o.tr hx1⟩):p:=h
def DL(w:U)(N:Option Ym)(E:Nat)(rs:List (List Sd))(Z:gw w w.heap.size N E rs)(hp:0<ln rs)(ao:∀r∈rs,r≠[])(am:∀k,(rs.getD k []).length<=1000000):
  XY Xz 155 #[V N (ln rs) E] w λx w'=>x=YC (Yz (vJ rs))/\Ext w w':=by
 have h1:=Z.1;have h2:=Z.2.1;unfold Yk at h2;obtain⟨b,off,f,rfl,hb,R⟩:=Io Z hp;have C:=A R;have KT:=A (λ(W:U) (h:Ext w W) (k:Nat) (hk:k<ln rs)=>Ge W (f k).1 (f k).2 (rs.getD k []) (R W h k hk).2 (am k));have KI:=A (λ(W:U) (h:Ext w W) (k:Nat) (hk:k<ln rs)=>BY W (f k).1 (f k).2 (rs.getD k []) (R W h k hk).2);have aA:=A ao;have t:=(R w (XI _ _) 0 hp).1;rw[Nat.add_zero] at t;have aE:(0:Int)<(ln rs:Int):=D;clear Z R ao am;obtain⟨v,hv⟩:=aa (vJ rs);rw[hv];have y:v=(YG (0<lD (rs.getD 0 []) (rs.getD 0 []).length)&& !cK (nS rs) (ln rs)):=hv.symm;clear hv;have s:=KT.o w (XI _ _) 0 hp;obtain⟨z0,al⟩:=aa (lD (rs.getD 0 []) (rs.getD 0 []).length);rw[al] at y s;obtain⟨n0,n⟩:=aa ((rs.getD 0 []).length);rw[n] at t s;have s:=A s;clear n al;by_cases c:0<z0
 case neg=>
  have t0:YG (z0<=0)=Y:=Yb D;have J:v=O:=by rw[y,XU c];rfl
  subst J;clear y c;go_enter func155,ntmps155;go_wp2_with(go_at_call 220;refine s.o.mono ?_;rintro e W1 ⟨rfl,L⟩;have af:=A L;clear L)
  go_ret;exact⟨H,af.o⟩
 have t0:YG (z0<=0)=O:=XU D;rw[Yb c,Bool.true_and] at y;have HV:=A y;clear y c;go_enter func155,ntmps155;go_wp2_with(go_at_call 220;refine s.o.mono ?_;rintro e W1 ⟨rfl,L⟩;have af:=A L;clear L)
 clear s t;go_loopw [3] (λi wr=>∃k:Nat,1<=k/\i=G F (k:Int)/\k<=ln rs/\Ext w wr/\∀j,j<k->nS rs j=O) (λi _=>((ln rs:Int)-Yf i).toNat)
 case atStart=>exact⟨1,D,rfl,D,af.o,IX rs⟩
 case round=>
  obtain⟨k,az,rfl,hk,M,ap⟩:=hrel;have a:=A M;have A1:=A ap;clear ap;by_cases g:k<ln rs
  ·have t:=(C.o wr M k g).1;have d:=KT.o wr M k g;have X:=Mw aA.o g;have B:nS rs k=(YG (0<=lD (rs.getD k []) (rs.getD k []).length)||cK (nH rs k) (ln rs)):=by unfold nS;rw[Yb az,Bool.true_and]
   have av:=A (λh:nS rs k=Y=>show v=O by rw[HV.o,dh g h];rfl);have ay:=A (λh:nS rs k=O=>iZ (P:=λj=>nS rs j=O) A1.o h);obtain⟨z,c⟩:=aa (lD (rs.getD k []) (rs.getD k []).length);rw[c] at B d;obtain⟨n0,n⟩:=aa ((rs.getD k []).length);rw[n] at t d X;obtain⟨bk,ok,u,_⟩:=gB (C.o _ M k g).2 (by rw[n];exact X);rw[u] at t d;have HA:=A u;clear u;have d:=A d;have ai:=A n;clear M n c;by_cases c:0<=z
   case pos=>
    have t1:YG (z>=0)=Y:=Yb c;have J:=av.o (by rw[B,Yb c];rfl);subst J;clear B c;go_wp2_with(go_at_call 220;refine d.o.mono ?_;rintro e W2 ⟨rfl,Q⟩;have ac:=A (Ext.tr a.o Q);clear Q)
    go_ret;exact⟨H,ac.o⟩
   have t1:YG (z>=0)=O:=XU c;rw[XU c,Bool.false_or] at B;have aq:=A B;clear B c;go_wp2_with(go_at_call 220;refine d.o.mono ?_;rintro e W2 ⟨rfl,Q⟩;have ac:=A (Ext.tr a.o Q);clear Q)
   clear t d;go_loopw [4] (λi wr=>∃m:Nat,i=G F (m:Int)/\m<=ln rs/\Ext w wr/\∀j,j<m->nH rs k j=O) (λi _=>((ln rs:Int)-Yf i).toNat)
   case atStart=>exact⟨0,H,D,ac.o,λj h=>D⟩
   case round=>
    obtain⟨m,rfl,hm,l,an⟩:=hrel;have ab:=A l;have A2:=A an;clear an;by_cases ae:m<ln rs
    ·by_cases ah:m=k
     ·have t1:((m:Int) !=(k:Int))=O:=by rw[ah];simp
      have HU:=A (iZ (P:=λj=>nH rs k j=O) A2.o (by unfold nH;rw[ah];simp));clear l;go_wp2_with fail
      go_quiet (fail)
      go_wp2;exact⟨⟨m+1,by go_num,D,below_drewN ab.o _,HU.o⟩,YO⟩
     ·have t1:((m:Int) !=(k:Int))=Y:=ZZ;obtain⟨aB,ax,u,aj,ak⟩:=gB (C.o _ l k g).2 (by rw[ai.o];exact X);obtain⟨rfl,rfl⟩:bk=aB/\ok=ax:=by have:=HA.o.symm.trans u;injection this with this;injection this with h1 h2;exact⟨h1,h2⟩
      clear u;obtain⟨S,T,_⟩:=ak 0 (by rw[ai.o];exact X);rw[Nat.zero_mul,Nat.add_zero] at S T;have cm:=λw' (h:Ext wr w')=>(C.o w' (l.tr h) m ae).1
      have ck:=λw' (h:Ext wr w')=>(C.o w' (l.tr h) k g).1
      have o:=λW (h:Ext wr W)=>KI.o W (l.tr h) m ae (au (rs.getD k []) 0).x (au (rs.getD k []) 0).y
      have K:nH rs k m=(nY (mg (rs.getD m []) (au (rs.getD k []) 0).x (au (rs.getD k []) 0).y) (rs.getD m []).length !=(m==0)):=by unfold nH;rw[XN.2 ah];rfl
      obtain⟨sx,ag⟩:∃x,(au (rs.getD k []) 0).x=x:=⟨_,H⟩;obtain⟨sy,ad⟩:=aa ((au (rs.getD k []) 0).y);rw[ag] at S;rw[ad] at T;simp only[ag,ad] at o K;obtain⟨q,hq⟩:=aa (nY (mg (rs.getD m []) sx sy) (rs.getD m []).length);simp only[hq] at o K;obtain⟨nm,aw⟩:=aa ((rs.getD m []).length);simp only[aw] at cm o;simp only[ai.o,HA.o] at ck;have o:=A o;have cx:=λw' (h:Ext wr w')=>(h.cell (p:=⟨bk,ok,I⟩) aj).trans S
      have cy:=λw' (h:Ext wr w')=>(h.cell (p:=⟨bk,ok+1,I⟩) aj).trans T
      have aD:(0:Int)<(n0:Int):=D;obtain⟨e,he⟩:=aa (m==0);rw[he] at K;have te:((m:Int)==0)=e:=by rw[<-he,Bool.eq_iff_iff,Yg,Yg];omega
      have ar:=A K;clear l ak S T aw hq ag ad he K;cases q<;>cases e
      ·exact SO
      ·exact Nw
      ·exact Nw
      ·exact SO
    ·obtain rfl:m=ln rs:=D;have HK:=A (ay.o (by rw[aq.o];exact bz A2.o));go_wp2;exact⟨⟨k+1,D,by go_num,D,ab.o,HK.o⟩,YO⟩
  ·obtain rfl:k=ln rs:=D;have aC:v=Y:=by rw[HV.o,bz A1.o];rfl
   subst aC;exact a2G
end
section
open Kp
def mR(r:List Sd)(m:Nat):Bool:=YG (mO r m<0)&&((fV r m).gable||(au r m).gable||(fV r m).plate !=(au r m).plate)
def sq(rs:List (List Sd)):Bool:= !cK (λk=>cK (mR (rs.getD k [])) (rs.getD k []).length) (ln rs)&&lr rs (ln rs)
theorem P4(h:p:=by
  intro i B u W hi hL hI hd;have HI:=A hI;rcases(show i=0\/i=1\/i=2\/i=3\/i=4\/i=5\/i=6\/i=7\/i=8\/i=9\/i=10\/i=11\/i=12\/i=13\/i=14\/i=15\/i=16\/i=17 by omega) with rfl|rfl|rfl|rfl|rfl|rfl|rfl|rfl|rfl|rfl|rfl|rfl|rfl|rfl|rfl|rfl|rfl|rfl<;>clear hi hI<;>refine XR rfl (λK hK=> ?_)
  ·exact a2U
  ·exact a2U
  ·exact a2U
  ·have d2:=HI.o.vals 2 (hd 2 R) YK;simp only[qC] at d2;go_simp;exact hK _ _ ⟨_,by simp[bN,qC,d2],HI.o.pure YK rfl⟩
  ·have d1:=HI.o.vals 1 (hd 1 R) YK;simp only[qC] at d1;have d3:=HI.o.vals 3 (hd 3 R) YK;simp only[qC] at d3;have w1:F.wrap ((m:Int)+ln ring)=(m:Int)+ln ring:=Yh _ D;go_simp;exact hK _ _ ⟨_,by simp[bN,qC,d1,d3],HI.o.pure YK rfl⟩
  ·have d4:=HI.o.vals 4 (hd 4 R) YK;simp only[qC] at d4;have w2:F.wrap ((m:Int)+ln ring-1)=(m:Int)+ln ring-1:=Yh _ D;go_simp;exact hK _ _ ⟨_,by simp[bN,qC,d4],HI.o.pure YK rfl⟩
  ·exact a2U
  ·have d6:=HI.o.vals 6 (hd 6 R) YK;simp only[qC] at d6;go_simp;exact hK _ _ ⟨_,by simp[bN,qC,d6],HI.o.pure YK rfl⟩
  ·have d5:=HI.o.vals 5 (hd 5 R) YK;simp only[qC] at d5;have d7:=HI.o.vals 7 (hd 7 R) YK;simp only[qC] at d7;have q1:=az.o;have w3:F.wrap (p:Int)=(p:Int):=Yh _ D;have z1:((ln ring:Int)==0)=O:=XN.2 D;have z2:¬ring=[]:=by intro h;rw[h] at Q;simp at Q
   go_simp;exact hK _ _ ⟨_,by simp[bN,qC,d5,d7],HI.o.pure YK rfl⟩
  ·have d0:=HI.o.vals 0 (hd 0 R) YK;simp only[qC] at d0;have d8:=HI.o.vals 8 (hd 8 R) YK;simp only[qC] at d8;go_simp;exact hK _ _ ⟨_,by simp[bN,qC,d0,d8],HI.o.pure YK rfl⟩
  ·have d9:=HI.o.vals 9 (hd 9 R) YK;simp only[qC] at d9;obtain⟨y0,y1,y2,y3,y4,y5,y6⟩:=HC.o p aL;have c0:=(HI.o.ext.cell (p:=⟨c,ok+p*7,I⟩) d.o).trans y0;have c1:=(HI.o.ext.cell (p:=⟨c,ok+p*7+1,I⟩) d.o).trans y1;have c2:=(HI.o.ext.cell (p:=⟨c,ok+p*7+2,I⟩) d.o).trans y2;have c3:=(HI.o.ext.cell (p:=⟨c,ok+p*7+3,I⟩) d.o).trans y3;have c4:=(HI.o.ext.cell (p:=⟨c,ok+p*7+4,I⟩) d.o).trans y4;have c5:=(HI.o.ext.cell (p:=⟨c,ok+p*7+5,I⟩) d.o).trans y5;have c6:=(HI.o.ext.cell (p:=⟨c,ok+p*7+6,I⟩) d.o).trans y6;clear y0 y1 y2 y3 y4 y5 y6;go_simp;exact hK _ _ ⟨_,by simp[bN,qC,d9],HI.o.pure YK rfl⟩
  ·exact a2U
  ·exact a2U
  ·have d11:=HI.o.vals 11 (hd 11 R) YK;simp only[qC] at d11;have d12:=HI.o.vals 12 (hd 12 R) YK;simp only[qC] at d12;go_simp;exact hK _ _ ⟨_,by simp[bN,qC,d11,d12],HI.o.pure YK rfl⟩
  ·have d13:=HI.o.vals 13 (hd 13 R) YK;simp only[qC] at d13;obtain⟨y0,y1,y2,y3,y4,y5,y6⟩:=HC.o m Q;have c0:=(HI.o.ext.cell (p:=⟨c,ok+m*7,I⟩) d.o).trans y0;have c1:=(HI.o.ext.cell (p:=⟨c,ok+m*7+1,I⟩) d.o).trans y1;have c2:=(HI.o.ext.cell (p:=⟨c,ok+m*7+2,I⟩) d.o).trans y2;have c3:=(HI.o.ext.cell (p:=⟨c,ok+m*7+3,I⟩) d.o).trans y3;have c4:=(HI.o.ext.cell (p:=⟨c,ok+m*7+4,I⟩) d.o).trans y4;have c5:=(HI.o.ext.cell (p:=⟨c,ok+m*7+5,I⟩) d.o).trans y5;have c6:=(HI.o.ext.cell (p:=⟨c,ok+m*7+6,I⟩) d.o).trans y6;clear y0 y1 y2 y3 y4 y5 y6;go_simp;exact hK _ _ ⟨_,by simp[bN,qC,d13],HI.o.pure YK rfl⟩
  ·go_simp;exact hK _ _ ⟨_,H,HI.o.Xw hL H H⟩
  ·go_simp;exact hK _ _ ⟨_,H,HI.o.Xo H⟩
  ·have d10:=HI.o.vals 10 (hd 10 R) YK;simp only[qC] at d10;have h15:=hd 15 R;obtain⟨pa,e15,_,o,_⟩:=HI.o.a h15;rw[XQ (by rw[hL];decide)] at o;exact wp_store_row 36 (.tmp 7) (.tmp 35) H pa (nQ (au ring p)).toArray e15 d10 36 _ o R H R (hK _ _ ⟨M,H,HI.o.store h15 e15⟩)):p:=h
theorem wY(h:p:=by
  have n:=HF.o (by rw[BAD.o];simp);subst n;go_wp2_with(first
   |(refine wpList_store_row rfl 36 _ _ rfl pb _ rfl rfl 36 _ RB.o R R R ?_)
   |(go_at_call 218;refine(KT.o _ (y.o.tr E2.o)).mono ?_;rintro x1 W3 ⟨rfl,hX4⟩;have HX4:=A (Ext.tr E2.o hX4);have ca:=λi=>(RA2.o.ext hX4).cell i;have cb:=λi=>(RB2.o.ext hX4).cell i;clear hX4))
  go_ret;exact⟨H,y.o.tr HX4.o⟩):p:=h
theorem En(h:p:=by
  have hok:=am.o (by rw[BAD.o];simp);have HO:=A hok;clear hok;go_wp2_with(first
   |(refine wpList_store_row rfl 36 _ _ rfl pb _ rfl rfl 36 _ RB.o R R R ?_)
   |(go_at_call 218;refine(KT.o _ (y.o.tr E2.o)).mono ?_;rintro x1 W3 ⟨rfl,hX4⟩;have HX4:=A (Ext.tr E2.o hX4);have ca:=λi=>(RA2.o.ext hX4).cell i;have cb:=λi=>(RB2.o.ext hX4).cell i;clear hX4))
  go_round
  case rel=>exact⟨m+1,by rw[HG.o];simp,by go_num,D,y.o.tr HX4.o,HO.o⟩
  case measure=>simp[Yf];omega):p:=h
theorem Hi(h:p:=by
  have hok:=am.o (by rw[BAD.o];simp);have HO:=A hok;clear hok;go_wp2_with(first
   |(with_reducible show wpList _ _ _ ({dst:=L 45,op:=_,type:=_,pos:=_,after:=_,guard:=_}::_) _ _;refine wpList_skip R ?_)
   |(with_reducible show wpList _ _ _ ({dst:=L 46,op:=_,type:=_,pos:=_,after:=_,guard:=_}::_) _ _;refine wpList_skip R ?_)
   |(with_reducible show wpList _ _ _ ({dst:=L 47,op:=_,type:=_,pos:=_,after:=_,guard:=_}::_) _ _;refine wpList_skip R ?_)
   |(with_reducible show wpList _ _ _ ({dst:=L 48,op:=_,type:=_,pos:=_,after:=_,guard:=_}::_) _ _;refine wpList_skip R ?_)
   |(with_reducible show wpList _ _ _ ({dst:=L 49,op:=_,type:=_,pos:=_,after:=_,guard:=_}::_) _ _;refine wpList_skip R ?_)
   |(with_reducible show wpList _ _ _ ({dst:=L 50,op:=_,type:=_,pos:=_,after:=_,guard:=_}::_) _ _;refine wpList_skip R ?_)
   |(with_reducible show wpList _ _ _ ({dst:=L 51,op:=_,type:=_,pos:=_,after:=_,guard:=_}::_) _ _;refine wpList_skip R ?_)
   |(with_reducible show wpList _ _ _ ({dst:=L 52,op:=_,type:=_,pos:=_,after:=_,guard:=_}::_) _ _;refine wpList_skip R ?_)
   |(with_reducible show wpList _ _ _ ({dst:=L 53,op:=_,type:=_,pos:=_,after:=_,guard:=_}::_) _ _;refine wpList_skip R ?_)
   |(with_reducible show wpList _ _ _ ({dst:=L 54,op:=_,type:=_,pos:=_,after:=_,guard:=_}::_) _ _;refine wpList_skip R ?_)
   |(with_reducible show wpList _ _ _ ({dst:=L 55,op:=_,type:=_,pos:=_,after:=_,guard:=_}::_) _ _;refine wpList_skip R ?_)
   |(with_reducible show wpList _ _ _ ({dst:=L 56,op:=_,type:=_,pos:=_,after:=_,guard:=_}::_) _ _;refine wpList_skip R ?_)
   |(with_reducible show wpList _ _ _ ({dst:=L 57,op:=_,type:=_,pos:=_,after:=_,guard:=_}::_) _ _;refine wpList_skip R ?_)
   |(refine wpList_store_row rfl 36 _ _ rfl pb _ rfl rfl 36 _ RB.o R R R ?_)
   |(go_at_call 218;refine(KT.o _ (y.o.tr E2.o)).mono ?_;rintro x1 W3 ⟨rfl,hX4⟩;have HX4:=A (Ext.tr E2.o hX4);have ca:=λi=>(RA2.o.ext hX4).cell i;have cb:=λi=>(RB2.o.ext hX4).cell i;clear hX4))
  go_round
  case rel=>exact⟨m+1,by rw[HG.o];simp,by go_num,D,y.o.tr HX4.o,HO.o⟩
  case measure=>simp[Yf];omega):p:=h
theorem RI(h:p:=by
  intro B u W hL hI;have v14:=hI.vals 14 (hL 14 D) YK;simp only[qC] at v14;obtain⟨pa,e15,hpa,ra,hab⟩:=hI.a (hL 15 D);rw[XT (hL 17 D)] at ra;obtain⟨pb,e16,hpb,rb⟩:=hI.b (hL 16 D);have hab:pa≠pb:=λe=>hab (hL 16 D) (by rw[e16,e])
  have HD:=A hI.ext;have RA:=A ra;have RB:=A rb;clear hI ra rb;simp only[v14,e15,e16,List.drop_succ_cons,List.drop_zero];clear v14 e15 e16;have E2:=A (al HD.o hpb (nQ (au ring m)).toArray);have RA2:=A (show ai (W.setRow pb (nQ (au ring m)).toArray) pa 36 (nQ (au ring p)) from(by
   have:(W.setRow pb (nQ (au ring m)).toArray).heap[pa]?=W.heap[pa]?:=by simp only[World.setRow,Array.getElem?_modify];rw[XQ (Ne.symm hab)]
   exact this.trans RA.o))
  have RB2:=A (show ai (W.setRow pb (nQ (au ring m)).toArray) pb 36 (nQ (au ring m)) from setRow_heap RB.o _);obtain⟨sa,hsa⟩:=aa (au ring p);obtain⟨sb,hsb⟩:=aa (au ring m);have bad:=aM.o;have r:=aD.o;rw[hsa,hsb] at bad;rw[hsb] at r;rw[ht] at bad;rw[hsa,hsb] at RA2;rw[hsb] at RB2 E2;rw[hsb];obtain⟨ax,ay,arise,arun,ag,apl,aov⟩:=sa;obtain⟨bx,by',brise,brun,bg,bpl,bov⟩:=sb;clear hsa hsb HC az;have BAD:=A bad;have HG:=A r;clear bad r;cases t
  ·cases o2
   ·exact Hi
   ·exact Hi
  ·cases ag
   case true=>exact wY
   cases bg
   case true=>exact wY
   by_cases hap:apl=bpl
   ·subst hap;cases o2
    ·exact En
    ·exact En
   ·have tp:(apl !=bpl)=Y:=Yn.2 hap;rw[tp] at BAD;clear hap;exact wY):p:=h
def Cl(w:U)(N:Option Ym)(E:Nat)(rs:List (List Sd))(o:gw w w.heap.size N E rs)(hp:0<ln rs)(aC:∀k,(rs.getD k []).length<=1000000):
  XY Xz 156 #[V N (ln rs) E] w λx w'=>x=YC (Yz (sq rs))/\Ext w w':=by
 have h1:=o.1;have h2:=o.2.1;unfold Yk at h2;obtain⟨b,off,f,rfl,hb,hf⟩:=Io o hp;have aq:=A hf;have aF:=A aC;clear o hf aC;obtain⟨v,n⟩:=aa (sq rs);rw[n];have HV:=A n;clear n;obtain⟨l,hG⟩:=aa (lr rs);have ao:=A hG;have G0:=A (show l 0=O by rw[<-hG];rfl);clear hG;go_enter func156,ntmps156;go_wp2;go_loopw [3,4] (λs i wr=>∃k:Nat,s=Yz (l k)/\i=G F (k:Int)/\k<=ln rs/\Ext w wr/\∀j,j<k->cK (mR (rs.getD j [])) (rs.getD j []).length=O) (λ_ i _=>((ln rs:Int)-Yf i).toNat)
 case atStart=>exact⟨0,by rw[G0.o],rfl,D,XI _ _,λj h=>D⟩
 case round=>
  obtain⟨k,rfl,rfl,hk,S,ar⟩:=hrel;have a:=A S;have A1:=A ar;clear ar;by_cases ad:k<ln rs
  ·have c0:=(aq.o wr S k ad).1;have ac:=A (show l (k+1)=(l k||mI (rs.getD k []) (rs.getD k []).length) by rw[<-ao.o];rfl);have aj:=A (λh:cK (mR (rs.getD k [])) (rs.getD k []).length=Y=>show v=O by rw[<-HV.o];unfold sq;rw[dh (p:=λk=>cK (mR (rs.getD k [])) (rs.getD k []).length) ad h];rfl);have aw:=A (λh:cK (mR (rs.getD k [])) (rs.getD k []).length=O=>iZ (P:=λj=>cK (mR (rs.getD j [])) (rs.getD j []).length=O) A1.o h);obtain⟨ring,J⟩:=aa (rs.getD k []);rw[J] at ac aj aw;have C:=A (λW (h:Ext w W)=>J▸(aq.o W h k ad).2:∀W,Ext w W->bR 7 W W.heap.size (f k).1 (f k).2 (aE ring));have aJ:ln ring<=1000000:=J▸aF.o k;have aK:ln ring<=(f k).2:=by have:=(C.o wr S).1;rw[XP] at this;exact this
   have av:=(C.o wr S).2.1;unfold Yk at av;rw[J] at c0;obtain⟨fa,an⟩:=aa ((f k).1);obtain⟨T,af⟩:=aa ((f k).2);simp only[an,af] at c0 C aK av;obtain⟨z,ah⟩:=aa (l k);rw[ah] at ac⊢;clear S J an af ah;obtain⟨g,Z⟩:∃g:Nat->Bool,(λm=>z||mI ring m)=g:=⟨_,H⟩;have aI:=A (show∀m,g (m+1)=(g m|| !(au ring m).gable) by rw[<-Z];intro m;show(z||(mI ring m|| !(au ring m).gable))=_;rw[Bool.or_assoc]);have aG:=A (show g 0=z by rw[<-Z];show(z||O)=z;simp);have aN:=A (show l (k+1)=g (ln ring) by rw[<-Z];exact ac.o);clear Z;go_wp2_with fail
   go_loopw [3,6] (λs i wr=>∃m:Nat,s=Yz (g m)/\i=G F (m:Int)/\m<=ln ring/\Ext w wr/\∀j,j<m->mR ring j=O) (λ_ i _=>((ln ring:Int)-Yf i).toNat)
   case atStart=>exact⟨0,by rw[aG.o],rfl,D,a.o,λj h=>D⟩
   case round=>
    obtain⟨m,rfl,rfl,hm,ab,ap⟩:=hrel;have y:=A ab;have A2:=A ap;clear ap;by_cases Q:m<ln ring
    ·obtain⟨c,ok,rfl,ae,aB⟩:=gB (C.o _ ab) D;have HF:=A (λh:mR ring m=Y=>aj.o (dh Q h));have am:=A (λh:mR ring m=O=>iZ (P:=λj=>mR ring j=O) A2.o h);have bad:mR ring m=(YG (mO ring m<0)&&((au ring ((m+ln ring-1)%ln ring)).gable||(au ring m).gable||(au ring ((m+ln ring-1)%ln ring)).plate !=(au ring m).plate)):=rfl;have r:=aI.o m;obtain⟨p,X⟩:=aa ((m+ln ring-1)%ln ring);rw[X] at bad;have aL:p<ln ring:=by rw[<-X];exact Nat.mod_lt _ D
     have q1:((m:Int)+ln ring-1).tmod (ln ring:Int)=(p:Int):=by rw[Int.tmod_eq_emod_of_nonneg D,show((m:Int)+ln ring-1)=((m+ln ring-1:Nat):Int) by omega,<-X];rfl
     have az:=A q1;have KT:=A (λ(W:U) (hx:Ext w W)=>vg W _ T ring (C.o W hx) aJ m Q);have HC:=A aB;have d:=A ae;obtain⟨q,hq⟩:=aa (mO ring m);simp only[hq] at KT;rw[hq] at bad;obtain⟨o2,ak⟩:=aa (g m);rw[ak] at r⊢;have aM:=A bad;have aD:=A r;clear ab aB ae hq X q1 bad r ak;obtain⟨t,ht⟩:=aa (YG (q<0));go_wp2_with fail
     refine wp_region_any R (cP 18 (λu=>⟨#[V (L ⟨b,off,I⟩) (ln rs) E,M,u2,Yz o2,G F (k:Int),V (L ⟨c,ok,I⟩) (ln ring) T,G F (m:Int),u 15,u 16,G F (k:Int),V (L ⟨b,off,I⟩) (ln rs) E,G F (ln rs:Int),Yz Y,u13,u14,V (L ⟨b,off,I⟩) (ln rs) E,G F (k:Int),YA (L ⟨b,off+k,I⟩),V (L ⟨c,ok,I⟩) (ln ring) T,G F (m:Int),V (L ⟨c,ok,I⟩) (ln ring) T,G F (ln ring:Int),Yz Y,u23,u24,u 0,u 1,u 2,u 3,u 4,u 5,u 6,u 7,u 8,u 9,u 10,u 11,u 12,u 13,u 14,u40,u41,u42,u43,u44,u45,u46,u47,u48,u49,u50,u51,u52,u53,u54,u55,u56,u57,u58,u59,u60,u61,u62,u63,u64,M],[]⟩)
      (λB u W=>Fe wr 36 (nQ Sw) (nQ (au ring p)) (qC c ok (ln ring) T m p ring) B u W) R ?_ ?_ (λi=>match i with|0=>u25|1=>u26|2=>u27|3=>u28|4=>u29|5=>u30|6=>u31|7=>u32|8=>u33|9=>u34|10=>u35|11=>u36|12=>u37|13=>u38|14=>u39|15=>u7|16=>u8|_=>M) _ (Fe.start (Ext.dr wr) _))
     ·exact P4
     ·exact RI
    ·obtain rfl:m=ln ring:=D;have aA:=aw.o (bz A2.o);have aH:=A aA;clear aA;go_wp2;exact⟨⟨k+1,by rw[aN.o],by go_num,D,y.o,aH.o⟩,YO⟩
  ·obtain rfl:k=ln rs:=D;have n:v=l (ln rs):=by rw[<-HV.o,<-ao.o];unfold sq;rw[bz A1.o];simp
   subst n;exact a2G
end
section
open Kp
open Classical in
noncomputable def rp(rs:List (List Sd)):Bool:=YG (∃k m q u,k<ln rs/\m<(rs.getD k []).length/\k<=q/\q<ln rs/\u<(rs.getD q []).length/\lP rs k m q u=Y)
open Classical in
def UU{rs:List (List Sd)}{b:Bool}(h:S0 rs b):b=rp rs:=by
 unfold rp;cases b
 ·symm
  rw[XL];rintro⟨k,m,q,u,hk,d,e,c,hu,a⟩;have:=h.2 H k hk m d q e c u hu;rw[this] at a;cases a
 ·symm
  rw[XX];exact h.1 H
noncomputable def oO(rs:List (List Sd)):Int:=
 if rs.any (·.isEmpty)||rs.isEmpty then 5
 else if 24<ln rs.flatten then 4
 else if rs.flatten.any λs=> !aJ s then 2
 else if rs.any λr=> !iJ r then 14
 else if rp rs then 15
 else if !vJ rs|| !sq rs then 14
 else 0
theorem We{rs:List (List Sd)}(h:rs.getD k []=[])(hk:k<ln rs):oO rs=5:=by
 unfold oO;have:rs.any (·.isEmpty)=Y:=by
  rw[List.any_eq_true];refine⟨rs[k],List.getElem_mem hk,?_⟩;rw[XJ,XO hk] at h;simp only[Option.getD_some] at h;rw[h];rfl
 rw[this];rfl
def VA{rs:List (List Sd)}(c:∀r∈rs,r≠[])(a:0<ln rs):oO rs=(if 24<ln rs.flatten then 4 else if rs.flatten.any (λs=> !aJ s) then 2 else if rs.any (λr=> !iJ r) then 14 else if rp rs then 15 else if !vJ rs|| !sq rs then 14 else 0):=by
 unfold oO;have h1:rs.any (·.isEmpty)=O:=by
  rw[List.any_eq_false];intro r b h;exact c r b (List.isEmpty_iff.1 h)
 have h2:rs.isEmpty=O:=by cases rs with
  |nil=>simp at a
  |cons=>rfl
 rw[h1,h2];rfl
theorem Iv{r:List Sd}(h:i<ln r):au r i∈r:=by
 unfold au;rw[XJ,XO h];exact List.getElem_mem h
theorem mG{rs:List (List Sd)}(h:k<ln rs):rs.getD k []∈rs:=by
 rw[XJ,XO h];exact List.getElem_mem h
def Of{rs:List (List Sd)}{k m:Nat}(hk:k<ln rs)(a:m<(rs.getD k []).length)(h:aJ (au (rs.getD k []) m)=O):(rs.flatten.any λs=> !aJ s)=Y:=by
 rw[List.any_eq_true];exact⟨_,List.mem_flatten.2 ⟨_,mG hk,Iv a⟩,by rw[h];rfl⟩
def Dk{rs:List (List Sd)}(h:∀j,j<ln rs->∀i,i<(rs.getD j []).length->aJ (au (rs.getD j []) i)=Y):(rs.flatten.any λs=> !aJ s)=O:=by
 rw[List.any_eq_false];intro s c;obtain⟨r,b,d⟩:=List.mem_flatten.1 c;obtain⟨j,a,rfl⟩:=List.mem_iff_getElem.1 b;obtain⟨i,hi,rfl⟩:=List.mem_iff_getElem.1 d;have:=h j a i (by rw[XJ,XO a];exact hi);unfold au at this;rw[XJ,XJ,XO a] at this;simp only[Option.getD_some] at this;rw[XO hi] at this;exact a2V
theorem Ol{rs:List (List Sd)}(hk:k<ln rs)(h:iJ (rs.getD k [])=O):(rs.any λr=> !iJ r)=Y:=by
 rw[List.any_eq_true];exact⟨_,mG hk,by rw[h];rfl⟩
def Eo{rs:List (List Sd)}(h:∀j,j<ln rs->iJ (rs.getD j [])=Y):(rs.any λr=> !iJ r)=O:=by
 rw[List.any_eq_false];intro r b;obtain⟨j,a,rfl⟩:=List.mem_iff_getElem.1 b;have:=h j a;rw[XJ,XO a] at this;exact a2V
def wA(w:U)(N:Option Ym)(E:Nat)(rs:List (List Sd))(X:gw w w.heap.size N E rs)(ac:ln rs.flatten<=1000000):
  XY Xz 79 #[YE #[V N (ln rs) E]] w λx w'=>x=YC (G F (oO rs))/\Ext w w':=by
 have h1:=X.1;have h2:=X.2.1;unfold Yk at h2;have c:=A (show Ext w (w.alloc (.cells #[V N (ln rs) E] 24)) from(XI _ _).alloc (XE _) _);have R0:=A (Bx.new w 24 (V N (ln rs) E));obtain⟨v,y⟩:=aa (oO rs);rw[y];have HV:=A y;clear y;by_cases B:ln rs=0
 ·rw[B] at c R0;have K:=R0.o.cell;rw[B];clear X;go_enter func79,ntmps79;have y:v=5:=by rw[<-HV.o,List.length_eq_zero_iff.1 B];rfl
  subst y;go_wp2;go_ret;exact⟨H,c.o⟩
 have B:0<ln rs:=D;have aj:=(X.below c.o).more c.o.size;obtain⟨b,off,f,hA,hb,hf⟩:=Io aj B;have HF:=A hf;have aP:=A (oZ ac);have KC:=A (λ(W:U) (h:Ext (w.alloc (.cells #[V N (ln rs) E] 24)) W)=>AN W N E rs ((aj.below h).more h.size) B (oZ ac));have KP:=A (λ(J:∀r∈rs,r≠[]) (W:U) (h:Ext (w.alloc (.cells #[V N (ln rs) E] 24)) W)=>DL W N E rs ((aj.below h).more h.size) B J (oZ ac));have KR:=A (λ(W:U) (h:Ext (w.alloc (.cells #[V N (ln rs) E] 24)) W)=>Cl W N E rs ((aj.below h).more h.size) B (oZ ac));have KS:=A (λ(W:U) (h:Ext (w.alloc (.cells #[V N (ln rs) E] 24)) W) (k:Nat) (hk:k<ln rs)=>DI W (f k).1 (f k).2 (rs.getD k []) (hf W h k hk).2 (oZ ac k));have aN:=A ac;subst hA;clear X aj hf ac;go_enter func79,ntmps79;have K:=R0.o.cell;have aS:((ln rs:Int)==0)=O:=XN.2 D;have aT:¬rs=[]:=by intro h;rw[h] at B;simp at B
 go_upto_block 0 with(fail)
 obtain⟨Q,ay⟩:=aa (w.alloc (.cells #[V (L ⟨b,off,I⟩) (ln rs) E] 24));simp only[ay] at c R0 HF KC KP KR KS hb⊢;clear ay K;have hB:=λW (h:Ext Q W)=>(R0.o.below h R0.o.lt).cell
 have M:=A hB;clear hB;go_cut [3] (λs wx=>s=G F (ln rs.flatten:Int)/\(∀r∈rs,r≠[])/\Ext Q wx)
 case first =>
  go_wp2_with fail
  go_loopw [3,4] (λs i wr=>∃k:Nat,k<=ln rs/\i=G F (k:Int)/\s=G F ((rs.take k).flatten.length:Int)/\Ext Q wr/\∀m,m<k->rs.getD m []≠[]) (λ_ i _=>((ln rs:Int)-Yf i).toNat)
  case atStart=>exact⟨0,D,rfl,YL,XI _ _,λm g=>D⟩
  case round=>
   obtain⟨k,hk,rfl,rfl,R,ao⟩:=hrel;have a:=A R;have HA:=A ao;have K:=M.o _ R;by_cases C:k<ln rs
   ·have c1:=(HF.o _ R k C).1;have u:=eQ C;have aO:=gx rs (k+1);have S:((rs.take (k+1)).flatten.length:Int)=((rs.take k).flatten.length:Int)+((rs.getD k []).length:Int):=by rw[u];simp
    obtain⟨m,g⟩:=aa ((rs.take k).flatten.length);obtain⟨d,hd⟩:=aa ((rs.getD k []).length);rw[hd] at c1;have hs:m+d<=1000000:=by have:=aN.o;rw[g,hd] at S;omega
    rw[g];have HQ:=A S;have HM:=A g;have HD:=A hd;clear u S g hd aO R ao;by_cases h0:d=0
    ·subst h0;have y:=We (List.length_eq_zero_iff.1 HD.o) C;rw[HV.o] at y;subst y;exact a2Y
    ·have tz:((d:Int)==0)=O:=Y4;have T:=A (show∀j,j<k+1->rs.getD j []≠[] fromλj hj=>by
      by_cases aQ:j=k
      ·rw[aQ];intro e;have hz:=HD.o;rw[e] at hz;exact h0 hz.symm
      ·exact HA.o j D)
     clear h0;go_wp2
     go_round
     case rel=>exact⟨k+1,D,by go_num,by rw[HQ.o,HM.o,HD.o],a.o,T.o⟩
     case measure=>simp[Yf];omega
   ·obtain rfl:k=ln rs:=D;have J:∀r∈rs,r≠[]:=by
     intro r X;obtain⟨i,hi,rfl⟩:=List.mem_iff_getElem.1 X;have:=HA.o i hi;rw[XJ,XO hi] at this;exact this
    have aG:=A J;rw[List.take_length];obtain⟨m,g⟩:=aa (ln rs.flatten);rw[g];have HM:=A g;clear g R ao J;go_wp2_with fail
    go_meet;exact⟨by rw[HM.o],aG.o,a.o⟩
 case rest=>
  obtain⟨rfl,J,R⟩:=hcut;have a:=A R;have KP:=A (KP.o J);have ab:=HV.o;rw[VA J B] at ab;obtain⟨m,g⟩:=aa (ln rs.flatten);rw[g] at ab;rw[g];clear R g;by_cases aF:24<m
  ·have t4:YG ((m:Int)>24)=Y:=Yb D;rw[XT aF] at ab;subst ab;clear J;exact a2Y
  have t4:YG ((m:Int)>24)=O:=XU D;rw[XQ aF] at ab;have az:=A ab;have aG:=A J;clear J ab
  go_upto_block 2 with(fail)
  go_cut [] (λwx=>(∀j,j<ln rs->∀i,i<(rs.getD j []).length->aJ (au (rs.getD j []) i)=Y)/\Ext Q wx)
  case first =>
   go_wp2_with fail
   go_loopw [5] (λi wr=>∃k:Nat,i=G F (k:Int)/\k<=ln rs/\Ext Q wr/\∀j,j<k->∀i,i<(rs.getD j []).length->aJ (au (rs.getD j []) i)=Y) (λi _=>((ln rs:Int)-Yf i).toNat)
   case atStart=>exact⟨0,H,D,a.o,λj h=>D⟩
   case round=>
    obtain⟨k,rfl,hk,al,ag⟩:=hrel;have aA:=A al;have A1:=A ag;clear ag;have K:=M.o _ al;by_cases C:k<ln rs
    ·obtain⟨n,hn⟩:=aa ((rs.getD k []).length);have T:=A hn;have aR:n<=1000000:=by rw[<-hn];exact aP.o k
     clear al hn;go_wp2_with fail
     clear K;go_loopw [6] (λi wr=>∃m:Nat,i=G F (m:Int)/\m<=n/\Ext Q wr/\∀i,i<m->aJ (au (rs.getD k []) i)=Y) (λi _=>((n:Int)-Yf i).toNat)
     case atStart=>exact⟨0,H,D,aA.o,λj h=>D⟩
     case round=>
      obtain⟨m,rfl,g,o,aE⟩:=hrel;have ad:=A o;have A2:=A aE;clear aE;have K:=M.o _ o;have c1:=(HF.o _ o k C).1;rw[T.o] at c1;by_cases aH:m<n
      ·obtain⟨bk,ok,hA,aL,aI⟩:=gB (HF.o _ o k C).2 (by rw[T.o];omega);obtain⟨y0,y1,y2,y3,y4,y5,y6⟩:=aI m (by rw[T.o];exact aH);rw[hA] at c1;have Z:=λh:aJ (au (rs.getD k []) m)=O=>(XT (Of C (by rw[T.o];exact aH) h)).symm.trans az.o
       have t:=λh:aJ (au (rs.getD k []) m)=Y=>iZ (P:=λi=>aJ (au (rs.getD k []) i)=Y) A2.o h
       obtain⟨q,u⟩:=aa (aJ (au (rs.getD k []) m));rw[u] at Z t;have ap:=A Z;have an:=A t;clear Z t;obtain⟨s,hs⟩:=aa (au (rs.getD k []) m);rw[hs] at u;have ai:=Ex s;rw[u] at ai;rw[hs] at y0 y1 y2 y3 y4 y5 y6;obtain⟨sx,sy,sr,su,sg,sp,so⟩:=s;dsimp only at y0 y1 y2 y3 y4 y5 y6;have ai:=A ai;clear o hA aL aI hs u;cases q
       ·have y:=ap.o H;subst y;go_wp2_with(go_at_call 152;refine(ai.o _).mono ?_;rintro e W1 ⟨rfl,l⟩;have z:=A (ad.o.tr l);clear l)
        exact a2W
       ·have t:=an.o H;have aq:=A t;clear t;go_wp2_with(go_at_call 152;refine(ai.o _).mono ?_;rintro e W1 ⟨rfl,l⟩;have z:=A (ad.o.tr l);clear l)
        exact⟨⟨m+1,by go_num,D,z.o,aq.o⟩,YO⟩
      ·obtain rfl:m=n:=D;have HK:=A (iZ (P:=λj=>∀i,i<(rs.getD j []).length->aJ (au (rs.getD j []) i)=Y) A1.o (λi hi=>A2.o i (by rw[<-T.o];exact hi)));clear o;go_wp2;exact⟨⟨k+1,by go_num,D,ad.o,HK.o⟩,YO⟩
    ·obtain rfl:k=ln rs:=D;clear al;go_wp2_with fail
     go_meet;exact⟨A1.o,aA.o⟩
  case rest=>
   obtain⟨ax,hcut⟩:=hcut;have a:=A hcut;have av:=az.o;rw[Dk ax] at av;have aB:=A av;clear hcut ax av
   go_upto_block 6 with(fail)
   go_cut [] (λwx=>(∀j,j<ln rs->iJ (rs.getD j [])=Y)/\Ext Q wx)
   case first =>
    go_wp2_with fail
    go_loopw [7] (λi wr=>∃k:Nat,i=G F (k:Int)/\k<=ln rs/\Ext Q wr/\∀j,j<k->iJ (rs.getD j [])=Y) (λi _=>((ln rs:Int)-Yf i).toNat)
    case atStart=>exact⟨0,H,D,a.o,λj h=>D⟩
    case round=>
     obtain⟨k,rfl,hk,o,ag⟩:=hrel;have ad:=A o;have A1:=A ag;clear ag;have K:=M.o _ o;by_cases C:k<ln rs
     ·have c1:=(HF.o _ o k C).1;have ak:=A (KS.o _ o k C);have Z:=λh:iJ (rs.getD k [])=O=>(XT (Ol C h)).symm.trans aB.o
      have t:=λh:iJ (rs.getD k [])=Y=>iZ (P:=λj=>iJ (rs.getD j [])=Y) A1.o h
      obtain⟨q,u⟩:=aa (iJ (rs.getD k []));rw[u] at Z t ak;have ap:=A Z;have an:=A t;clear Z t u;obtain⟨ring,aD⟩:=aa (rs.getD k []);obtain⟨fa,aC⟩:=aa ((f k).1);obtain⟨fc,aw⟩:=aa ((f k).2);rw[aD,aC,aw] at c1 ak;clear o aD aC aw;cases q
      ·have y:=ap.o H;subst y;go_wp2_with(go_at_call 153;refine ak.o.mono ?_;rintro e W1 ⟨rfl,l⟩;have z:=A (ad.o.tr l);clear l)
       exact a2W
      ·have t:=an.o H;have aq:=A t;clear t;go_wp2_with(go_at_call 153;refine ak.o.mono ?_;rintro e W1 ⟨rfl,l⟩;have z:=A (ad.o.tr l);clear l)
       exact⟨⟨k+1,by go_num,D,z.o,aq.o⟩,YO⟩
     ·obtain rfl:k=ln rs:=D;clear o;go_wp2_with fail
      go_meet;exact⟨A1.o,ad.o⟩
   case rest=>
    obtain⟨aK,hcut⟩:=hcut;have a:=A hcut;have K:=M.o _ hcut;have am:=aB.o;rw[Eo aK] at am;simp only[Bool.false_eq_true,Yu] at am;have aM:=A am;clear hcut aK am;go_wp2_with(go_at_call 154;fail)
    refine(KC.o _ a.o).mono ?_;rintro e W1 ⟨⟨q,rfl,u⟩,l⟩;have z:=A (a.o.tr l);have c4:=M.o _ z.o;have ae:=aM.o;rw[<-UU u.o] at ae;clear l K u;obtain⟨q2,S⟩:=aa (vJ rs);obtain⟨q3,ar⟩:=aa (sq rs);rw[S,ar] at ae;rw[S] at KP;rw[ar] at KR;clear S ar;cases q
    ·cases q2
     ·obtain rfl:(14:Int)=v:=ae;go_wp2_with(go_at_call 155;refine(KP.o _ z.o).mono ?_;rintro e W2 ⟨rfl,ah⟩;have af:=A (z.o.tr ah);have c5:=M.o _ af.o;clear ah c4)
      go_ret;exact⟨H,c.o.tr af.o⟩
     ·cases q3
      ·obtain rfl:(14:Int)=v:=ae;exact a2X
      ·obtain rfl:(0:Int)=v:=ae;exact a2X
    ·obtain rfl:(15:Int)=v:=ae;go_wp2_with fail
     exact a2W
end
section
open Kp
def GO(r:List Sd):Prop:=∀i,i<ln r->aJ (au r i)=Y
theorem Jm{r:List Sd}(h:GO r)(hi:i<ln r):0<=(au r i).x/\(au r i).x<=65536/\0<=(au r i).y/\(au r i).y<=65536:=by
 have:=h i hi;unfold aJ J at this;simp only[Bool.and_eq_true,XX] at this;omega
theorem Sa{r:List Sd}(hi:i<ln r):aS r ((i+ln r-1)%ln r)=au r i:=by
 rw[jU]
 congr 1
 rcases Nat.eq_zero_or_pos i with rfl|h
 ·rw[Nat.zero_add,Nat.mod_eq_of_lt (by omega:ln r-1<ln r),show ln r-1+1=ln r by omega,Nat.mod_self]
 ·rw[show i+ln r-1=(i-1)+ln r by omega,Nat.add_mod_right,Nat.mod_eq_of_lt (by omega:i-1<ln r),show i-1+1=i by omega,Nat.mod_eq_of_lt hi]
theorem CE(h1:0<=a)(h2:a<=65536)(d:0<=b)(c:b<=65536):F.wrap (a-b)=a-b:=Yh _ D
theorem uT{r:List Sd}(h:GO r)(hi:i<ln r):pR r i=qu (ma r i):=by
 unfold pR ma;exact a2Z
theorem uz{r:List Sd}(h:GO r)(hi:i<ln r):pT r i=qu (oT r i):=by
 unfold pT oT;exact a2Z
theorem pK{r:List Sd}(hi:i<ln r):ma r ((i+ln r-1)%ln r)=tj r i/\oT r ((i+ln r-1)%ln r)=vC r i:=by
 unfold ma oT tj vC;rw[Sa hi,Bg];exact⟨H,H⟩
def jF(n:Int):(qu n=0↔n=0)/\(qu n=1↔0<n)/\(qu n= -1↔n<0):=by unfold qu;split <;>(try split)<;>omega
def nR(n:Int):(qu n=0/\n=0)\/(qu n=1/\0<n)\/(qu n= -1/\n<0):=by unfold qu;split <;>(try split)<;>omega
theorem zO{r:List Sd}(h:GO r)(hi:i<ln r):mO r i=qu (tj r i)*qu (oT r i)-qu (vC r i)*qu (ma r i):=by
 have e:=Nat.mod_lt (i+ln r-1) (by omega:ln r>0);unfold mO;rw[uT h e,uz h e,uT h hi,uz h hi,(pK hi).1,(pK hi).2];rcases nR (tj r i) with⟨a,_⟩|⟨a,_⟩|⟨a,_⟩<;>rcases nR (vC r i) with⟨b,_⟩|⟨b,_⟩|⟨b,_⟩<;>rcases nR (ma r i) with⟨c,_⟩|⟨c,_⟩|⟨c,_⟩<;>rcases nR (oT r i) with⟨d,_⟩|⟨d,_⟩|⟨d,_⟩<;>rw[a,b,c,d]<;>decide+kernel
theorem BT{r:List Sd}(h:GO r)(hi:i<ln r)(a:jM r i=O):(qu (ma r i)*qu (ma r i)+qu (oT r i)*qu (oT r i)=1)/\mO r i≠0:=by
 unfold jM at a;rw[Bool.or_eq_false_iff] at a;rw[uT h hi,uz h hi] at a;exact⟨by simpa using a.1,by simpa using a.2⟩
theorem pf{r:List Sd}(h:GO r)(hi:i<ln r)(g:∀j,j<ln r->jM r j=O):(ma r i=0/\oT r i≠0/\tj r i≠0/\vC r i=0)\/(ma r i≠0/\oT r i=0/\tj r i=0/\vC r i≠0):=by
 have e:=Nat.mod_lt (i+ln r-1) (by omega:ln r>0);obtain⟨h1,h2⟩:=BT h hi (g i hi);obtain⟨f,_⟩:=BT h e (g _ e);rw[(pK hi).1,(pK hi).2] at f;rw[zO h hi] at h2;rcases nR (tj r i) with⟨a,a'⟩|⟨a,a'⟩|⟨a,a'⟩<;>rcases nR (vC r i) with⟨b,m⟩|⟨b,m⟩|⟨b,m⟩<;>rcases nR (ma r i) with⟨c,k⟩|⟨c,k⟩|⟨c,k⟩<;>rcases nR (oT r i) with⟨d,l⟩|⟨d,l⟩|⟨d,l⟩<;>rw[c,d] at h1<;>rw[a,b] at f<;>rw[a,b,c,d] at h2<;>omega
def yp{r:List Sd}(h:GO r)(e:iJ r=Y):cz r=Y/\∀j,j<ln r->jM r j=O:=by
 unfold iJ at e;rw[Bool.and_eq_true,Bool.not_eq_true'] at e;have f:=nA e.1;refine⟨?_,f⟩;unfold cz;rw[e.2,Bool.true_and,bz]
 ·rfl
 intro i hi;unfold nP;rcases pf h hi f with⟨a,b,c,d⟩|⟨a,b,c,d⟩
 ·rw[a,XN.2 b,XN.2 c];rfl
 ·rw[b,XN.2 a,c];rfl
theorem Q8{r:List Sd}(h:GO r)(e:∀j,j<ln r->jM r j=O)(hi:i<ln r):Jc r i= !YG (mO r i<0):=by
 unfold Jc;rw[zO h hi];rcases pf h hi e with⟨a,b,c,d⟩|⟨a,b,c,d⟩
 ·rw[a,d,(jF 0).1.2 rfl];simp only[Int.mul_zero,Int.sub_zero];rcases Int.lt_or_lt_of_ne c with c|c<;>rcases Int.lt_or_lt_of_ne b with b|b
  ·rw[(jF _).2.2.2 c,(jF _).2.2.2 b,Yb (Int.mul_pos_of_neg_of_neg c b)];rfl
  ·rw[(jF _).2.2.2 c,(jF _).2.1.2 b,XU (by have:=Int.mul_neg_of_neg_of_pos c b;omega)];rfl
  ·rw[(jF _).2.1.2 c,(jF _).2.2.2 b,XU (by have:=Int.mul_neg_of_pos_of_neg c b;omega)];rfl
  ·rw[(jF _).2.1.2 c,(jF _).2.1.2 b,Yb (Int.mul_pos c b)];rfl
 ·rw[b,c,(jF 0).1.2 rfl];simp only[Int.zero_mul,Int.zero_sub];rcases Int.lt_or_lt_of_ne d with d|d<;>rcases Int.lt_or_lt_of_ne a with a|a
  ·rw[(jF _).2.2.2 d,(jF _).2.2.2 a,XU (by have:=Int.mul_pos_of_neg_of_neg d a;omega)];rfl
  ·rw[(jF _).2.2.2 d,(jF _).2.1.2 a,Yb (by have:=Int.mul_neg_of_neg_of_pos d a;omega)];rfl
  ·rw[(jF _).2.1.2 d,(jF _).2.2.2 a,Yb (by have:=Int.mul_neg_of_pos_of_neg d a;omega)];rfl
  ·rw[(jF _).2.1.2 d,(jF _).2.1.2 a,XU (by have:=Int.mul_pos d a;omega)];rfl
theorem SW{r:List Sd}(h:GO r)(a:∀j,j<ln r->jM r j=O)(hi:i<ln r):ug r i=mR r i:=by
 unfold ug mR;rw[Q8 h a hi,Bool.not_not]
 congr 1
 rw[Bool.or_comm (au r i).gable]
 congr 1
 rw[Bool.eq_iff_iff,Yn,Yn];exact ne_comm
end
section
open Kp
def Vo{r:List Sd}(h:GO r)(o:ln r<=24):∀k,k<=ln r->lD r k=rK (λi=>(au r i).x*(aS r i).y-(au r i).y*(aS r i).x) k/\ -(8589934592*(k:Int))<=lD r k/\lD r k<=8589934592*(k:Int):=by
 intro k hk
 induction k with
 |zero=>exact⟨H,by simp[lD],by simp[lD]⟩
 |succ k a=>
  obtain⟨e,g,n⟩:=a D;have h1:=Jm h (show k<ln r by omega);have h2:=Jm h (Nat.mod_lt (k+1) (by omega:ln r>0));rw[<-jU] at h2;have j:0<=(au r k).x*(aS r k).y:=Int.mul_nonneg h1.1 h2.2.2.1;have m:(au r k).x*(aS r k).y<=65536*65536:=Int.mul_le_mul h1.2.1 h2.2.2.2 h2.2.2.1 YK;have f:0<=(aS r k).x*(au r k).y:=Int.mul_nonneg h2.1 h1.2.2.1;have l:(aS r k).x*(au r k).y<=65536*65536:=Int.mul_le_mul h2.2.1 h1.2.2.2 h1.2.2.1 YK;have c:(au r k).y*(aS r k).x=(aS r k).x*(au r k).y:=Int.mul_comm _ _;rw[lD,rK,<-e,c];generalize(au r k).x*(aS r k).y=P at *;generalize(aS r k).x*(au r k).y=Q at *;have w1:wrap64 P=P:=IntWalk.wrap64_in _ D;have w2:wrap64 Q=Q:=IntWalk.wrap64_in _ D;have b:wrap64 (lD r k+P)=lD r k+P:=IntWalk.wrap64_in _ D;have d:wrap64 (lD r k+P-Q)=lD r k+P-Q:=IntWalk.wrap64_in _ D;rw[w1,w2,b,d];refine⟨D,D,D⟩
def Jd{r:List Sd}(h:GO r)(a:ln r<=24):lD r (ln r)=oD r:=(Vo h a _ (XE _)).1
def Sf(r:List Sd)(x y:Int)(k:Nat):mg r x y k=lR r x y k:=by
 unfold mg lR ma;rcases Int.lt_trichotomy (au r k).x (aS r k).x with a|a|a
 ·rw[XN.2 D,XN.2 D];rfl
 ·rw[a];have b:((aS r k).x==(aS r k).x)=Y:=YL;have c:((aS r k).x-(aS r k).x==0)=Y:=YL;rw[b,c];simp only[Bool.true_and,gt_iff_lt,Bool.and_assoc]
  congr 1
  rw[Bool.eq_iff_iff];simp only[Bool.and_eq_true,XX,Yn,ne_eq,Ys];omega
 ·rw[XN.2 D,XN.2 D];rfl
def JW(r:List Sd)(x y:Int):nY (mg r x y) (ln r)=kE r x y:=Gb λi _=>Sf r x y i
structure Fit(rs:List (List Sd)):Prop where
 pos:0<ln rs
 len:∀k,(rs.getD k []).length<=24
 rg:∀k,k<ln rs->GO (rs.getD k [])
 sh:∀k,k<ln rs->∀j,j<(rs.getD k []).length->jM (rs.getD k []) j=O
def lexB(a b:Nat×Nat×qf):Prop:=a.1<b.1\/a.1=b.1/\a.2.1<b.2.1
def Jg(rs:List (List Sd))(N:Nat):(∀x∈kx rs N,x.1<N/\x.2.1<(rs.getD x.1 []).length/\x.2.2=kC (rs.getD x.1 []) x.2.1)/\List.Pairwise lexB (kx rs N):=by
 induction N with
 |zero=>exact⟨λx h=>by simp[kx] at h,List.Pairwise.nil⟩
 |succ N d=>
  have e:∀x∈jG N (rs.getD N []) (rs.getD N []).length,x.1=N/\x.2.1<(rs.getD N []).length/\x.2.2=kC (rs.getD N []) x.2.1:=by
   intro x hx;unfold jG at hx;obtain⟨i,hi,rfl⟩:=List.mem_map.1 hx;exact⟨H,List.mem_range.1 hi,H⟩
  rw[kx];refine⟨λx hx=> ?_,?_⟩
  ·rcases List.mem_append.1 hx with h|h
   ·obtain⟨a,b,c⟩:=d.1 x h;exact⟨D,b,c⟩
   ·obtain⟨a,b,c⟩:=e x h;rw[a];exact⟨D,b,c⟩
  ·rw[List.pairwise_append];refine⟨d.2,?_,λa f b g=> .inl ?_⟩
   ·unfold jG;rw[List.pairwise_map];exact List.pairwise_lt_range.imp λh=> .inr ⟨rfl,h⟩
   ·rw[(e b g).1];exact(d.1 a f).1
def Fw(a b:qf):fT a b=fT b a:=by
 unfold fT;rw[Bool.eq_iff_iff];simp only[Bool.and_eq_true,XX];omega
def MC{rs:List (List Sd)}{a b:Nat×Nat×qf}(c:a.2.1<(rs.getD a.1 []).length/\a.2.2=kC (rs.getD a.1 []) a.2.1)(g:b.2.2=kC (rs.getD b.1 []) b.2.1)(d:lexB b a):vB rs a b=lP rs b.1 b.2.1 a.1 a.2.1:=by
 unfold vB lP;rw[c.2,g,Fw]
 congr 2
 rcases d with h|⟨h,h2⟩
 ·have e:(a.1==b.1)=O:=XN.2 D;have f:(b.1==a.1)=O:=XN.2 D;rw[e,f];rfl
 ·have i:=c.1;rw[h];simp only[BEq.rfl,Bool.true_and];rw[Bool.eq_iff_iff];simp only[Bool.or_eq_true,Bool.and_eq_true,Yg,XX];omega
def FU{rs:List (List Sd)}(h:rp rs=O):fx rs=O:=by
 have l:∀k m q u,k<ln rs->m<(rs.getD k []).length->k<=q->q<ln rs->u<(rs.getD q []).length->lP rs k m q u=O:=by
  intro k m q u h1 h2 g t s;cases r:lP rs k m q u with
  |false=>rfl
  |true=>
   exfalso;unfold rp at h;rw[XL] at h;exact h ⟨k,m,q,u,h1,h2,g,t,s,r⟩
 obtain⟨b,o⟩:=Jg rs (ln rs);unfold fx;refine bz λi hi=>bz λk hk=> ?_
 have a:k<(kx rs (ln rs)).length:=D;have c:=(List.pairwise_iff_getElem.1 o) k i a hi hk;rw[XJ,XJ,XO hi,XO a];simp only[Option.getD_some];obtain⟨j,d,f⟩:=b _ (List.getElem_mem hi);obtain⟨e,n,v⟩:=b _ (List.getElem_mem a);rw[MC ⟨d,f⟩ v c];exact l _ _ _ _ e n (by rcases c with h|⟨h,_⟩<;>omega) j d
end
section
open Kp
theorem V6(h:((a==0)==(b==0))=O):¬(a=0↔b=0):=by
 intro e;have:(a==0)=(b==0):=by rw[Bool.eq_iff_iff,Yg,Yg];exact e
 rw[this] at h;simp at h
def sQ{r:List Sd}(h:GO r):iJ r=cz r:=by
 rw[Bool.eq_iff_iff];refine⟨λe=>(yp h e).1,λe=> ?_⟩;unfold cz at e;rw[Bool.and_eq_true,Bool.not_eq_true'] at e;have f:=nA e.2;unfold iJ;rw[e.1,Bool.and_true,bz]
 ·rfl
 intro i hi;have l:=Nat.mod_lt (i+ln r-1) (by omega:ln r>0);have a:=f i hi;have b:=f _ l;unfold nP at a b;rw[(pK hi).1,(pK hi).2] at b;rw[Bool.or_eq_false_iff] at a b;have o:=V6 a.1;have n:=V6 a.2;have m:=V6 b.1;unfold jM;rw[uT h hi,uz h hi,zO h hi];clear a b f e;rcases nR (tj r i) with⟨a,a'⟩|⟨a,a'⟩|⟨a,a'⟩<;>rcases nR (vC r i) with⟨b,k⟩|⟨b,k⟩|⟨b,k⟩<;>rcases nR (ma r i) with⟨c,g⟩|⟨c,g⟩|⟨c,g⟩<;>rcases nR (oT r i) with⟨d,j⟩|⟨d,j⟩|⟨d,j⟩<;>first|(exfalso;omega)|(rw[a,b,c,d];rfl)
def Cy{rs:List (List Sd)}{N k m:Nat}(hk:k<N)(b:m<(rs.getD k []).length):(k,m,kC (rs.getD k []) m)∈kx rs N:=by
 induction N with
 |zero=>omega
 |succ N a=>
  rw[kx,List.mem_append];by_cases e:k=N
  ·subst e;exact .inr (List.mem_map.2 ⟨m,List.mem_range.2 b,H⟩)
  ·exact .inl (a D)
open Classical in
def GS(rs:List (List Sd)):rp rs=fx rs:=by
 cases h:rp rs with
 |false=>exact(FU h).symm
 |true=>
  unfold rp at h;have h:=Yq h;obtain⟨k,m,q,u,h1,h2,t,o,l,g⟩:=h;obtain⟨v,n⟩:=Jg rs (ln rs);obtain⟨i,hi,d⟩:=List.mem_iff_getElem.1 (Cy h1 h2);obtain⟨j,c,f⟩:=List.mem_iff_getElem.1 (Cy o l);have b:lexB (k,m,kC (rs.getD k []) m) (q,u,kC (rs.getD q []) u):=by
   unfold lexB;by_cases e:k=q
   ·refine .inr ⟨e,?_⟩;subst e;apply Nat.lt_of_not_le;intro r;unfold lP at g;simp[r] at g
   ·exact .inl D
  have s:i<j:=by
   rcases Nat.lt_trichotomy i j with a|a|a
   ·exact a
   ·exfalso;subst a;have:=d.symm.trans f;unfold lexB at b;simp only[Prod.mk.injEq] at this b;omega
   ·exfalso;have:=List.pairwise_iff_getElem.1 n j i c hi a;rw[d,f] at this;unfold lexB at b this;simp only at b this;omega
  symm
  unfold fx;refine dh c (dh s ?_);rw[XJ,XJ,XO c,XO hi];simp only[Option.getD_some];rw[f,d,MC ⟨l,rfl⟩ rfl b];exact g
def Vk{r:List Sd}(h:GO r)(f:∀j,j<ln r->jM r j=O)(v:ln r=4):oD r≠0:=by
 have o:=pf h (i:=0) D f;have w1:=pf h (i:=1) D f;have w2:=pf h (i:=2) D f;have u:=pf h (i:=3) D f
 match r,v with
 |[p,q,s,t],_=>
  simp only[ma,oT,tj,vC,au,fV,aS,List.length_cons,List.length_nil] at o w1 w2 u;simp only[oD,rK,au,aS,List.length_cons,List.length_nil];simp at o w1 w2 u⊢;have key:∀a b c d:Int,a≠b->c≠d->a*c-a*d-b*c+b*d≠0:=by
   intro a b c d h1 h2 e;have:=Int.mul_eq_zero.1 (show(a-b)*(c-d)=0 by rw[Int.sub_mul,Int.mul_sub,Int.mul_sub];omega);omega
  rcases o with⟨a,b,c,d⟩|⟨a,b,c,d⟩
  ·have m:q.x=p.x:=D;have n:t.y=p.y:=D;have l:s.y=q.y:=D;have g:t.x=s.x:=D;have k:=key p.x s.x q.y p.y D D;rw[m,n,l,g,Int.mul_comm p.y p.x,Int.mul_comm q.y s.x];omega
  ·have m:q.y=p.y:=D;have n:t.x=p.x:=D;have l:s.x=q.x:=D;have g:t.y=s.y:=D;have k:=key p.x q.x p.y s.y D D;rw[m,n,l,g,Int.mul_comm p.y q.x,Int.mul_comm s.y p.x];omega
theorem N7{rs:List (List Sd)}(hi:i<ln rs)(a:i≠0):(rs.getD 0 []).length+(rs.getD i []).length<=ln rs.flatten:=by
 cases rs with
 |nil=>simp at hi
 |cons r t=>
  obtain⟨i,rfl⟩:∃k,i=k+1:=⟨i-1,D⟩;rw[List.flatten_cons,Yc];have:((r::t).getD (i+1) [])=t.getD i []:=rfl;rw[this];have:=(List.sublist_flatten_of_mem (mG (rs:=t) (k:=i) ZF)).length_le;show ln r+_<=_;omega
def J7{rs:List (List Sd)}(h:Fit rs)(d:∀k,k<ln rs->4<=(rs.getD k []).length)(j:ln rs.flatten<=8):vJ rs=gQ rs:=by
 have c:∀i,i<ln rs->FV rs i=if i=0 then !YG (0<lD (rs.getD 0 []) (rs.getD 0 []).length) else nS rs i:=by
  intro i hi;unfold FV;rw[<-Jd (h.rg i hi) (h.len i)];by_cases e:i=0
  ·subst e;rw[XT rfl,bz (λk _=>YL),Bool.or_false];cases YG (0<lD (rs.getD 0 []) (rs.getD 0 []).length)<;>rfl
  ·rw[XQ e];have g:=N7 hi e;have a:=Vk (h.rg i hi) (h.sh i hi) (by have:=d 0 h.pos;have:=d i hi;omega);rw[<-Jd (h.rg i hi) (h.len i)] at a;unfold nS;rw[XN.2 e,Yb (by omega:1<=i),Bool.true_and]
   congr 1
   ·generalize lD (rs.getD i []) (rs.getD i []).length=T at a⊢;rw[Bool.eq_iff_iff];simp;omega
   ·refine qx λk hk=> ?_
    unfold nH;rw[JW,Bool.or_false]
 unfold vJ gQ;rw[Bool.eq_iff_iff];simp only[Bool.and_eq_true,Bool.not_eq_true',XX];constructor
 ·rintro⟨a,b⟩;refine bz λi hi=> ?_
  rw[c i hi];split
  ·rw[Yb a];rfl
  ·exact nA b i hi
 ·intro b;have f:=nA b;refine⟨?_,bz λi hi=> ?_⟩
  ·have:=f 0 h.pos;rw[c 0 h.pos,XT rfl] at this;exact a0r
  ·by_cases e:i=0
   ·subst e;exact IX rs 0 YK
   ·have:=f i hi;rwa[c i hi,XQ e] at this
def Kb{rs:List (List Sd)}(h:Fit rs):sq rs=iK rs:=by
 unfold sq iK
 congr 2
 exact qx λk hk=>(qx λi hi=>SW (h.rg k hk) (h.sh k hk) hi).symm
def Ic{rs:List (List Sd)}(l:ln rs.flatten<=8\/24<ln rs.flatten):oO rs=dL rs:=by
 unfold oO dL;by_cases c1:(rs.any (·.isEmpty)||rs.isEmpty)=Y
 ·rw[XT c1,XT c1]
 rw[XQ c1,XQ c1];by_cases c2:24<ln rs.flatten
 ·rw[XT c2,XT c2]
 rw[XQ c2,XQ c2];by_cases c3:(rs.flatten.any λs=> !aJ s)=Y
 ·rw[XT c3,XT c3]
 rw[XQ c3,XQ c3];have g:0<ln rs:=by
  cases rs with
  |nil=>simp at c1
  |cons=>simp
 rw[Bool.not_eq_true] at c3;have a:∀k,k<ln rs->GO (rs.getD k []):=by
  intro k hk i hi;have:=List.any_eq_false.1 c3 _ (List.mem_flatten.2 ⟨_,mG hk,Iv hi⟩);exact a0r
 have e:∀r,r∈rs->∃k,k<ln rs/\rs.getD k []=r:=by
  intro r b;obtain⟨k,hk,rfl⟩:=List.mem_iff_getElem.1 b;exact⟨k,hk,by rw[XJ,XO hk];rfl⟩
 have f:(rs.any λr=> !iJ r)=(rs.any λr=> !cz r):=by
  rw[Bool.eq_iff_iff];simp only[List.any_eq_true];constructor <;>rintro⟨r,b,j⟩<;>refine⟨r,b,?_⟩<;>obtain⟨k,hk,rfl⟩:=e r b
  ·rwa[<-sQ (a k hk)]
  ·rwa[sQ (a k hk)]
 rw[f];by_cases c4:(rs.any λr=> !cz r)=Y
 ·rw[XT c4,XT c4]
 rw[XQ c4,XQ c4,GS];rw[Bool.not_eq_true] at c4;have c:∀k,k<ln rs->cz (rs.getD k [])=Y:=by
  intro k hk;have:=List.any_eq_false.1 c4 _ (mG hk);exact a0r
 have d:Fit rs:=⟨g,λk=>by
  by_cases hk:k<ln rs
  ·exact Ye (List.sublist_flatten_of_mem (mG hk)).length_le D
  ·rw[XJ,List.getElem?_eq_none D];exact Nat.zero_le _,a,λk hk=>(yp (a k hk) (by rw[sQ (a k hk)];exact c k hk)).2⟩
 rw[J7 d (λk hk=>by have:=c k hk;unfold cz at this;simp at this;exact this.1) D,Kb d]
end
section
open Kp
theorem uF(h:p:=by
  go_enter func164,ntmps164;go_wp2;go_ret;exact⟨by rw[e.o]<;>rfl,k.o⟩):p:=h
def Cu(a b:Aw)(w:U):XY Xz 164 #[YE (iI a).toArray,YE (iI b).toArray] w λx w'=>x=YC (Yz (YG (pU a b<0)))/\Ext w w':=by
 have k:=A (gI w (.cells (iI a).toArray 48) (.cells (iI b).toArray 48));have g:=((ai.new w 48 (iI a)).ext ((XI _ _).alloc (XE _) (.cells (iI b).toArray 48)));have f:=ai.new (w.alloc (.cells (iI a).toArray 48)) 48 (iI b);rw[Ya] at f;have o:=λi=>g.cell i
 have n:=λi=>f.cell i
 obtain⟨v,c⟩:=aa (YG (pU a b<0));rw[c];unfold pU xI at c;clear g f;by_cases h1:a.width=b.width
 case neg=>
  have l:(a.width !=b.width)=Y:=Yn.2 h1;have e:=A (show v=YG (a.width<b.width) by rw[<-c,XT D];exact Ys.2 D);clear c h1;exact uF
 have l:(a.width !=b.width)=O:=by simpa using h1
 rw[XQ D] at c;by_cases h2:a.depth=b.depth
 case neg=>
  have m:(a.depth !=b.depth)=Y:=Yn.2 h2;have e:=A (show v=YG (a.depth<b.depth) by rw[<-c,XT D];exact Ys.2 D);clear c h1 h2;exact uF
 have m:(a.depth !=b.depth)=O:=by simpa using h2
 rw[XQ D] at c;by_cases d:a.spacing=b.spacing
 case neg=>
  have j:(a.spacing !=b.spacing)=Y:=Yn.2 d;have e:=A (show v=YG (a.spacing<b.spacing) by rw[<-c,XT D];exact Ys.2 D);clear c h1 h2 d;exact uF
 have j:(a.spacing !=b.spacing)=O:=by simpa using d
 rw[XQ D] at c;have e:=A (show v=YG (a.load<b.load) by rw[<-c];exact Ys.2 D);clear c h1 h2 d;exact uF
def NA(l:List Aw)(k:Nat):jZ l k=(if !kD (l.getD k kI) then 2 else if YG (0<k)&& !YG (pU (l.getD (k-1) kI) (l.getD k kI)<0) then 10 else 0):=by
 unfold jZ;have a:(0<k/\0<=pU (l.getD (k-1) kI) (l.getD k kI))↔(YG (0<k)&& !YG (pU (l.getD (k-1) kI) (l.getD k kI)<0))=Y:=by
  simp only[Bool.and_eq_true,XX,Bool.not_eq_true',XL];omega
 simp only[a]
def Gx(w:U)(N:Option Ym)(E:Nat)(l:List Aw)(hl:bR 5 w w.heap.size N E (aO l)):
  XY Xz 87 #[V N (ln l) E] w λx w'=>x=YC (G F (eE l))/\Ext w w':=by
 have h1:=hl.1;have h2:=hl.2.1;rw[XP] at h1;unfold Yk at h2;have HL:=A (λ(W:U) (hx:Ext w W)=>((hl.below hx).more hx.size:bR 5 W W.heap.size N E (aO l)));clear hl;obtain⟨v,a⟩:=aa (eE l);rw[a];have B:v=(if 4096<ln l then 4 else bn (jZ l) (ln l)):=a.symm;clear a;by_cases X:4096<ln l
 case pos=>
  have t5:YG ((ln l:Int)>4096)=Y:=Yb D;rw[XT X] at B;subst B;clear X;go_enter func87,ntmps87;go_wp2;go_ret;exact⟨H,XI _ _⟩
 have t5:YG ((ln l:Int)>4096)=O:=XU D;rw[XQ X] at B;have HV:=A B;clear X B;go_enter func87,ntmps87;go_wp2;go_loopw [3] (λi wr=>∃k:Nat,i=G F (k:Int)/\k<=ln l/\Ext w wr/\∀j,j<k->jZ l j=0) (λi _=>((ln l:Int)-Yf i).toNat)
 case atStart=>exact⟨0,H,D,XI _ _,λj h=>D⟩
 case round=>
  obtain⟨k,rfl,hk,hX,al⟩:=hrel;have d:=A hX;have t:=A al;clear al;by_cases af:k<ln l
  ·obtain⟨b,off,rfl,hb,hc⟩:=MQ (HL.o _ hX) D;obtain⟨y0,y1,y2,y3,y4⟩:=hc k af;have HC:=A hc;have c:=A hb;have HF:=A (λ(z:Int) (h:jZ l k=z) (hz:z≠0)=>show v=z by rw[HV.o,<-h];exact bM af t.o (by rw[h];exact hz));have ah:=A (λh:jZ l k=0=>iZ (P:=λj=>jZ l j=0) t.o h);have n:=NA l k;obtain⟨x,hx⟩:=aa (l.getD k kI);rw[hx] at y0 y1 y2 y3 y4 n;obtain⟨o,m,r,g,s⟩:=x;dsimp only at y0 y1 y2 y3 y4;have Z:=A (λW=>sM o m r g W);have ab:kD ⟨o,m,r,g,s⟩=((J o 1 1000&&J m 1 1000&&J r 1 65536&&J g 0 1048576)&&J s 1 65536):=rfl;obtain⟨p,hp⟩:=aa (J s 1 65536);have KO:=A (λW=>kN s 1 65536 W);simp only[hp] at KO;rw[hp] at ab;obtain⟨cc,ac⟩:=aa (J o 1 1000&&J m 1 1000&&J r 1 65536&&J g 0 1048576);have aj:Bi o m r g=(if cc=Y then 0 else 2):=by unfold Bi;rw[ac]
   simp only[aj] at Z;rw[ac] at ab;rw[ab] at n;clear hX hc hb hx aj hp ac ab;cases cc
   case false=>
    have a:=HF.o 2 (n.trans H) YK;subst a;clear n;go_wp2_with fail
    go_quiet ((go_at_call 162;exact Calls.quiet_of_same (Z.o _)))
    go_wp2;go_ret;exact⟨H,below_drewN d.o _⟩
   cases p
   case false=>
    have a:=HF.o 2 (n.trans H) YK;subst a;clear n;go_wp2_with fail
    go_quiet ((first|(go_at_call 162;exact Calls.quiet_of_same (Z.o _))|(go_at_call 163;exact Calls.quiet_of_same (KO.o _))))
    go_wp2;go_ret;exact⟨H,below_drewN d.o _⟩
   have f:jZ l k=(if YG (0<k)&& !YG (pU (l.getD (k-1) kI) ⟨o,m,r,g,s⟩<0) then 10 else 0):=n;have am:=A f;clear n f;go_wp2_with fail
   go_quiet ((first|(go_at_call 162;exact Calls.quiet_of_same (Z.o _))|(go_at_call 163;exact Calls.quiet_of_same (KO.o _))))
   by_cases ak:k=0
   ·subst ak;have HO:=A (ah.o am.o);go_wp2_with fail
    go_quiet (fail)
    go_wp2;exact⟨⟨1,by go_num,D,below_drewN d.o _,HO.o⟩,YO⟩
   ·have t5:YG ((k:Int)>0)=Y:=Yb D;have t6:0<k:=D;have f:=am.o;rw[Yb t6,Bool.true_and] at f;have w1:F.wrap ((k:Int)-1)=((k-1:Nat):Int):=by rw[Yh _ D];omega
    have ae:k-1<ln l:=D;obtain⟨C,S,L,M,T⟩:=HC.o (k-1) ae;obtain⟨v',ad⟩:=aa (l.getD (k-1) kI);rw[ad] at C S L M T f;obtain⟨R,ag⟩:=aa (k-1);rw[ag] at w1 ae C S L M T;have y:=λW=>Cu v' ⟨o,m,r,g,s⟩ W
    obtain⟨q,hq⟩:=aa (YG (pU v' ⟨o,m,r,g,s⟩<0));simp only[hq] at y;rw[hq] at f;clear hq;obtain⟨vw,vd,u,vl,vp⟩:=v';dsimp only at C S L M T;have y:=A y;have ai:=A f;have a0:=λw' (h:Ext wr w')=>(h.cell (p:=⟨b,off+k*5,I⟩) c.o).trans y0
    have b0:=λw' (h:Ext wr w')=>(h.cell (p:=⟨b,off+R*5,I⟩) c.o).trans C
    have a1:=λw' (h:Ext wr w')=>(h.cell (p:=⟨b,off+k*5+1,I⟩) c.o).trans y1
    have b1:=λw' (h:Ext wr w')=>(h.cell (p:=⟨b,off+R*5+1,I⟩) c.o).trans S
    have a2:=λw' (h:Ext wr w')=>(h.cell (p:=⟨b,off+k*5+2,I⟩) c.o).trans y2
    have b2:=λw' (h:Ext wr w')=>(h.cell (p:=⟨b,off+R*5+2,I⟩) c.o).trans L
    have a3:=λw' (h:Ext wr w')=>(h.cell (p:=⟨b,off+k*5+3,I⟩) c.o).trans y3
    have b3:=λw' (h:Ext wr w')=>(h.cell (p:=⟨b,off+R*5+3,I⟩) c.o).trans M
    have a4:=λw' (h:Ext wr w')=>(h.cell (p:=⟨b,off+k*5+4,I⟩) c.o).trans y4
    have b4:=λw' (h:Ext wr w')=>(h.cell (p:=⟨b,off+R*5+4,I⟩) c.o).trans T
    clear C S L M T y0 y1 y2 y3 y4 ad ag ak f;go_wp2_with fail
    cases q
    ·have a:=HF.o 10 ai.o YK;subst a
     go_region_held3(λw'=>Ext wr w') (first|exact K|exact below_drewN (below_drewN (XI _ _) _) _|exact Ext.tr (below_drewN (XI _ _) _) (Ext.dr _)) (first|(go_at_call 164;refine(y.o _).mono ?_;rintro e W3 ⟨rfl,Q⟩;have K:Ext wr W3:=Ext.tr (Ext.tr (below_drewN (XI _ _) _) (Ext.dr _)) Q;clear Q))
     go_wp2;go_ret;exact⟨H,d.o.tr K⟩
    ·have HO:=A (ah.o ai.o)
     go_region_held3(λw'=>Ext wr w') (first|exact K|exact below_drewN (below_drewN (XI _ _) _) _|exact Ext.tr (below_drewN (XI _ _) _) (Ext.dr _)) (first|(go_at_call 164;refine(y.o _).mono ?_;rintro e W3 ⟨rfl,Q⟩;have K:Ext wr W3:=Ext.tr (Ext.tr (below_drewN (XI _ _) _) (Ext.dr _)) Q;clear Q))
     go_wp2
     go_round
     case rel=>exact⟨k+1,by go_num,D,d.o.tr K,HO.o⟩
     case measure=>simp[Yf];omega
  ·exact a3g
end
section
open Kp
def MH(l:List Sz)(k:Nat):kc l k=(if YG ((l.getD k ir).kind<1)||YG ((l.getD k ir).kind>12) then 8 else if !(J (l.getD k ir).width 1 1000&&J (l.getD k ir).depth 1 1000) then 2 else if cK (λm=>(l.getD m ir).kind==(l.getD k ir).kind) k then 7 else 0):=by
 unfold kc J;dsimp only;have a:((l.getD k ir).kind<1\/13<=(l.getD k ir).kind)↔(YG ((l.getD k ir).kind<1)||YG ((l.getD k ir).kind>12))=Y:=by
  simp only[Bool.or_eq_true,XX];omega
 have b:(min (l.getD k ir).width (l.getD k ir).depth<1\/1000<max (l.getD k ir).width (l.getD k ir).depth)↔(!(YG (1<=(l.getD k ir).width)&&YG ((l.getD k ir).width<=1000)&&(YG (1<=(l.getD k ir).depth)&&YG ((l.getD k ir).depth<=1000))))=Y:=by
  simp only[Bool.not_eq_true',Bool.and_eq_false_iff,XL];omega
 simp only[a,b]
theorem uE(h:p:=by
  have d:=HE.o;simp at d;have c:=R.o _ d YK;subst c;clear d;go_wp2_with(go_at_call 159;refine(qV _ _).mono ?_;rintro e W1 ⟨rfl,rfl⟩)
  go_ret;exact⟨H,a.o⟩):p:=h
def GN(w:U)(N:Option Ym)(E:Nat)(l:List Sz)(r:bR 3 w w.heap.size N E (bf l)):
  XY Xz 83 #[V N (ln l) E] w λx w'=>x=YC (G F (fE l))/\Ext w w':=by
 have h1:=r.1;have h2:=r.2.1;rw[XP] at h1;unfold Yk at h2;have Z:=A (λ(W:U) (hx:Ext w W)=>((r.below hx).more hx.size:bR 3 W W.heap.size N E (bf l)));clear r;obtain⟨v,c⟩:=aa (fE l);rw[c];have T:=A (show bn (kc l) (ln l)=v from c);clear c;go_enter func83,ntmps83;go_wp2;go_loopw [3] (λi wr=>∃k:Nat,i=G F (k:Int)/\k<=ln l/\Ext w wr/\∀j,j<k->kc l j=0) (λi _=>((ln l:Int)-Yf i).toNat)
 case atStart=>exact⟨0,H,D,XI _ _,λj h=>D⟩
 case round=>
  obtain⟨k,rfl,hk,M,ac⟩:=hrel;have a:=A M;have K:=A ac;clear ac;by_cases y:k<ln l
  ·obtain⟨b,off,rfl,L,g⟩:=wC (Z.o _ M) D;obtain⟨c0,c1,c2⟩:=g k y;have R:=A (λ(z:Int) (h:kc l k=z) (hz:z≠0)=>show v=z by rw[<-T.o,<-h];exact bM y K.o (by rw[h];exact hz));have ad:=A (λh:kc l k=0=>iZ (P:=λj=>kc l j=0) K.o h);have d:=MH l k;obtain⟨f,o⟩:=aa ((l.getD k ir).kind);obtain⟨wd,u⟩:=aa ((l.getD k ir).width);obtain⟨dp,I⟩:=aa ((l.getD k ir).depth);have ag:=A o;rw[o,u,I] at d;rw[o] at c0;rw[u] at c1;rw[I] at c2;obtain⟨p1,t1⟩:=aa (YG (f<1));obtain⟨p2,t2⟩:=aa (YG (f>12));obtain⟨p3,t3⟩:=aa (J wd 1 1000);obtain⟨p4,t4⟩:=aa (J dp 1 1000);rw[t1,t2,t3,t4] at d;have HE:=A d;have ak:∀q,q=ln l->0<q:=λq h=>D
   clear M g o u I L d;cases p1
   case true=>exact uE
   cases p2
   case true=>exact uE
   cases p3
   ·exact uE
   cases p4
   ·exact uE
   have S:=A (show kc l k=(if cK (λm=>(l.getD m ir).kind==f) k then 7 else 0) from HE.o);go_wp2_with(go_at_call 159;refine(qV _ _).mono ?_;rintro e W1 ⟨rfl,rfl⟩)
   go_loopw [4] (λi wr=>∃m:Nat,i=G F (m:Int)/\m<=k/\Ext w wr/\∀j,j<m->((l.getD j ir).kind==f)=O) (λi _=>((k:Int)-Yf i).toNat)
   case atStart=>exact⟨0,H,D,a.o,λj h=>D⟩
   case round=>
    obtain⟨m,rfl,hm,B,ab⟩:=hrel;have Q:=A B;have X:=A ab;clear ab;by_cases af:m<k
    ·obtain⟨b',ai,e,L,g⟩:=wC (Z.o _ B) D;injection e with e
     injection e with e1 e2
     subst e1;subst e2;have d0:=(g m D).1;have d1:=(g k y).1;rw[ag.o] at d1;have aj:m<ln l:=D;have t:=λh:((l.getD m ir).kind==f)=Y=>R.o 7 (show kc l k=7 by rw[S.o,dh af h];rfl) YK
     have s:=λh:((l.getD m ir).kind==f)=O=>iZ (P:=λj=>((l.getD j ir).kind==f)=O) X.o h
     obtain⟨q,hq⟩:=aa ((l.getD m ir).kind);rw[hq] at t s d0;obtain⟨p,hp⟩:=aa (q==f);rw[hp] at t s;have ae:=A t;have ah:=A s;clear B g L c0 c1 c2 t s hq;cases p
     ·have n:=ah.o H;have C:=A n;clear n;go_wp2_with fail
      go_quiet (fail)
      go_wp2;exact⟨⟨m+1,by go_num,D,below_drewN Q.o _,C.o⟩,YO⟩
     ·have c:=ae.o H;subst c;go_wp2_with fail
      go_quiet (fail)
      go_wp2;go_ret;exact⟨H,below_drewN Q.o _⟩
    ·obtain rfl:m=k:=D;have n:=ad.o (by rw[S.o,bz X.o];rfl);have C:=A n;clear n;go_wp2;exact⟨⟨m+1,by go_num,D,Q.o,C.o⟩,YO⟩
  ·obtain rfl:k=ln l:=D;have c:v=0:=by rw[<-T.o];exact bh K.o
   subst c;exact a2G
end
section
open Kp
def tF(s:K)(w:U)(a:ln s<=1000000):
  XY Xz 32 #[Yy (tx s)] w λe w'=>e=YC (Yz (kH s))/\w'=w:=by
 go_enter func32,ntmps32;go_wp2
 go_loop [3] (λi=>If s i) (λi=>((ln s:Int)-Yf i).toNat)
 case atStart=>exact⟨0,D,rfl,rfl⟩
 case round=>
  exact a0X
end
end Go.Proofs.YtnepbjnlmkppmaaGreatDoor
