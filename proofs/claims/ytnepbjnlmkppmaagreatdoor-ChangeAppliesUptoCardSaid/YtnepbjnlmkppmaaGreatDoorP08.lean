/- ChangeApplies of kingpostlaw58: part 8 of its proof (merged and shortened by program). -/
import Derived.Deep.AppendLies
import Derived.Deep.RegionLaw
import Derived.Lib.SliceRun
import Derived.Shelf.RegionOpenPlain
import Derived.Lib.AppendZerosOnto
import Derived.Lib.Overlaps
import Derived.Shelf.Spec.SlicesInsert
import Derived.Shelf.Spec.SlicesInsertGrow
import Derived.Test.YtnepbjnlmkppmaaGreatDoorP06
import Derived.Test.YtnepbjnlmkppmaaGreatDoorP07
import Derived.Test.YtnepbjnlmkppmaaGreatDoorP17
import Derived.Test.YtnepbjnlmkppmaaGreatDoorP18
set_option linter.unusedVariables false
set_option linter.unusedSimpArgs false
set_option linter.defProp false
set_option maxHeartbeats 8000000
set_option maxRecDepth 100000
open Go.RowKit Go.Shelf Go.Proofs.Tryz
open Array renaming getElem?_eq_some_iff→XV
open Bool renaming false→O,true→Y
open Decidable renaming decide→YG
open Go renaming World→U,undef→M,Value→Z,wpOp_step→XR,Calls→XY,TypeId→Yj,maxLen→Yk,Addr→Ym
open Go.Ending renaming returned→YC
open Go.IntKind renaming i64→F
open Go.IntWalk renaming i64_in→Yh
open Go.Lib renaming hid→A
open Go.Proofs.Tryz renaming prog→Xz
open Go.RowKit renaming intOf→Yf,Below→Yl
open Go.Value renaming slice→V,string→Yy,bool→Yz,pointer→YA,int→G,agg→YE,tuple→YF
open Go.World renaming alloc_heap_new→XZ,size_alloc→Ya
open List renaming getD_eq_getElem?_getD→XJ,getElem?_eq_getElem→XO,length_map→XP,length_append→Yc,length→ln
open Nat renaming le_refl→XE,mul_comm→Yd,le_trans→Ye
open Option renaming none→I,some→L
open Go.Proofs.YtnepbjnlmkppmaaGreatDoor
variable{cur z C X:Array Z}{l:List Int}{x Q d vals B:List Z}{a i b c n k m base g y s o B0 pb:Nat}{S:Option Ym}{p:Prop}{T β:Type}{w w' W W1:U}{ab:Z}{e E t:Yj}
namespace Go.Proofs.YtnepbjnlmkppmaaGreatDoor
section
open Kp
noncomputable def kr(a b:List UInt8):List UInt8×Int:=if dS a b=0 then xO a b else([],dS a b)
noncomputable def nV(a b:List UInt8):Int×Int:=if dS a b=0 then(mf (num a) (num b),0) else(0,dS a b)
def Ca(s:List UInt8):ln s<=(own s).length+1:=by
 rcases yI s with⟨r,rfl,h⟩|⟨h,_⟩
 ·rw[h];simp
 ·rw[h];omega
def Eg(a b:List UInt8):(kr a b).1.length<=1000:=by
 unfold kr;split
 ·rename_i h;obtain⟨d,c⟩:=lh h;unfold xO;split
  ·rename_i e;have g:=jV (gO d).1 (gO c).1 e;have:=qH (n:=num a*num b) (by unfold aZ;omega);show(Lib.itoa _).length<=_;omega
  ·unfold re;split
   ·simp
   ·rename_i f;have:=Ca (BL (Lib.hasPrefix a [45] !=Lib.hasPrefix b [45]) (cZ (ak (own a)*ak (own b))));show(BL _ _).length<=_;omega
 ·simp
def yS(a b:List UInt8)(w:U)(g:ln a<=100000)(i:ln b<=100000)(d:bE w):
  XY Xz 326 #[Yy (tx a),Yy (tx b)] w (jS w (kr a b)):=by
 by_cases h:dS a b=0
 ·rw[show kr a b=xO a b by unfold kr;rw[XT h]];exact Oy a b w g i h d
 ·have c:=A (show kr a b=([],dS a b) by unfold kr;rw[XQ h]);have j:(dS a b !=0)=Y:=Zk;have f:=A (jr a b w D D);clear h d;go_enter func326,ntmps326;exact a1u
def Lm(a b:List UInt8)(w:U)(d:ln a<=100000)(g:ln b<=100000):
  XY Xz 301 #[Yy (tx a),Yy (tx b)] w λe w'=>e=YC (YF #[G F (nV a b).1,G F (nV a b).2])/\Ext w w':=by
 by_cases h:dS a b=0
 ·rw[show nV a b=(mf (num a) (num b),0) by unfold nV;rw[XT h]];exact xL a b w d g h
 ·have c:=A (show nV a b=(0,dS a b) by unfold nV;rw[XQ h]);have i:(dS a b !=0)=Y:=Zk;have f:=A (jr a b w D D);clear h;go_enter func301,ntmps301;exact a1u
structure Xs where
 u:List UInt8
 v:List UInt8
 e:Int
noncomputable def uI(a d1 b d2:List UInt8):Xs:=
 if(kr a d2).2≠0 then⟨[],[],(kr a d2).2⟩ else⟨(kr a d2).1,(kr b d1).1,(kr b d1).2⟩
def Q1(b d1 a d2:List UInt8):(uI b d1 a d2).u.length<=1000/\(uI b d1 a d2).v.length<=1000:=by
 unfold uI;split
 ·simp
 ·exact⟨Eg _ _,Eg _ _⟩
def zG(a d1 b d2:List UInt8)(w:U)(h1:ln a<=100000)(h2:ln d1<=100000)(s:ln b<=100000)(x:ln d2<=100000)(r:bE w):
  XY Xz 300 #[YE #[Yy (tx a),Yy (tx d1)],YE #[Yy (tx b),Yy (tx d2)]] w λe w'=>
   e=YC (YF #[Yy (tx (uI a d1 b d2).u),Yy (tx (uI a d1 b d2).v),G F (uI a d1 b d2).e])/\Ext w w':=by
 have k:=A (gI w (.cells #[Yy (tx a),Yy (tx d1)] 255) (.cells #[Yy (tx b),Yy (tx d2)] 255));have y:=A ((ai.new w 255 [Yy (tx a),Yy (tx d1)]).ext ((XI _ _).alloc (XE _) (.cells #[Yy (tx b),Yy (tx d2)] 255)));have r2:=ai.new (w.alloc (.cells #[Yy (tx a),Yy (tx d1)] 255)) 255 [Yy (tx b),Yy (tx d2)];rw[Ya] at r2;have B:=A r2;clear r2;have q:=A r;have m:=A (λ(W:U) (h:Ext w W)=>yS a d2 W h1 x (q.o.below h (XE _)));have p:=A (λ(W:U) (h:Ext w W)=>yS b d1 W s h2 (q.o.below h (XE _)));have l:=A (show uI a d1 b d2=if(kr a d2).2≠0 then⟨[],[],(kr a d2).2⟩ else⟨(kr a d2).1,(kr b d1).1,(kr b d1).2⟩ from rfl);clear r;obtain⟨⟨u,c⟩,hu⟩:=aa (kr a d2);obtain⟨⟨v,d⟩,n⟩:=aa (kr b d1);rw[hu,n] at l;unfold jS at m p;simp only[hu] at m;simp only[n] at p;dsimp only at l;clear hu n;by_cases g:c=0
 ·have o:=A (show uI a d1 b d2=⟨u,v,d⟩ by rw[l.o,XQ (λh=>h g)]);subst g;go_enter func300,ntmps300;go_wp2_with(first
   |(go_at_call 326;((with_reducible refine(m.o _ k.o).mono ?_);rintro e W1 ⟨rfl,f⟩;have C:=λi=>(y.o.ext f).cell i;have E:=λi=>(B.o.ext f).cell i;have j:=A (Ext.tr k.o f)))
   |(go_at_call 326;((with_reducible refine(p.o _ j.o).mono ?_);rintro e D ⟨rfl,z⟩)))
  rw[o.o];refine bodyPost_ret (v:= YF #[Yy (tx u),Yy (tx v),G F d]) ?_ H ⟨H,Ext.tr j.o z⟩;simp[results,results300,go_sem]
 ·have o:=A (show uI a d1 b d2=⟨[],[],c⟩ by rw[l.o,XT g]);have t:(c !=0)=Y:=by rw[Yn];exact g
  clear g;go_enter func300,ntmps300;go_wp2_with(go_at_call 326;((with_reducible refine(m.o _ k.o).mono ?_);rintro e W1 ⟨rfl,f⟩;have j:=A (Ext.tr k.o f)))
  rw[o.o];refine bodyPost_ret (v:= YF #[Yy (tx []),Yy (tx []),G F c]) ?_ H ⟨H,j.o⟩;simp[results,results300,go_sem,tx]
end
section
open Kp
def vG{a:List UInt8}{x y:Int}(h:dK a=(x,y)): -1000000000<=x/\x<=1000000000/\ -1000000000<=y/\y<=1000000000:=by
 unfold dK at h;split at h
 ·unfold vR at h;cases b:dA (own a) with
  |none=>rw[b] at h;injection h with h1 h2;omega
  |some p=>
   obtain⟨n,r⟩:=p;rw[b] at h;dsimp only at h;have i:=cL b;injection h with h1 h2
   have hx: -1000000000<=x/\x<=1000000000:=by
    rw[<-h1];split <;>omega
   have hy: -1000000000<=y/\y<=1000000000:=by
    rw[<-h2];cases r with
    |nil=>simp
    |cons c e=>
     dsimp only;cases f:dA e with
     |none=>simp
     |some q=>
      obtain⟨d,g⟩:=q;have:=cL f;dsimp only;omega
   exact⟨hx.1,hx.2,hy.1,hy.2⟩
 ·injection h with h1 h2;omega
def bU(a:List UInt8):List UInt8×List UInt8:=(eU a).getD ([],[])
noncomputable def jf(a b:List UInt8):Int×Int:=
 if bS a&&bS b then(mf ((dK a).1*(dK b).2) ((dK b).1*(dK a).2),0)
 else if(uI (bU a).1 (bU a).2 (bU b).1 (bU b).2).e≠0 then(0,(uI (bU a).1 (bU a).2 (bU b).1 (bU b).2).e)
 else nV (uI (bU a).1 (bU a).2 (bU b).1 (bU b).2).u (uI (bU a).1 (bU a).2 (bU b).1 (bU b).2).v
def OQ(w:U)(r:Int×Int)(e:Ending)(w':U):Prop:=e=YC (YF #[G F r.1,G F r.2])/\Ext w w'
def BK(a b:List UInt8)(w:U)(ha:ln a<=99999)(hb:ln b<=99999)(Z:aC a=0)(cb:aC b=0)(hm:jE w)(ht:bE w):
  XY Xz 274 #[Yy (tx a),Yy (tx b)] w (OQ w (jf a b)):=by
 have HM:=A hm;have HT:=A ht;have S:=A (λW=>mc a W D);have KB:=A (λW=>mc b W D);have X:=A (λ(W:U) (h:Ext w W)=>pB a W D (HM.o.below h (XE _)) (HT.o.below h (XE _)));have ab:=A (λ(W:U) (h:Ext w W)=>pB b W D (HM.o.below h (XE _)) (HT.o.below h (XE _)));unfold dy at S KB;unfold Aj at X ab;simp only[Z] at X;simp only[cb] at ab;have HQ:=A (show jf a b=if bS a&&bS b then(mf ((dK a).1*(dK b).2) ((dK b).1*(dK a).2),0)
  else if(uI (bU a).1 (bU a).2 (bU b).1 (bU b).2).e≠0 then(0,(uI (bU a).1 (bU a).2 (bU b).1 (bU b).2).e)
  else nV (uI (bU a).1 (bU a).2 (bU b).1 (bU b).2).u (uI (bU a).1 (bU a).2 (bU b).1 (bU b).2).v from rfl)
 obtain⟨oa,ah⟩:=aa (bS a);obtain⟨ob,aj⟩:=aa (bS b);rw[ah,aj] at HQ;simp only[ah] at S;simp only[aj] at KB;have KZ:=A (λ(x y:Int) (W:U)=>xj x y W);clear hm ht ah aj;by_cases ac:(oa&&ob)=Y
 ·obtain⟨rfl,rfl⟩:oa=Y/\ob=Y:=by simpa using ac
  have HV:=A (show jf a b=(mf ((dK a).1*(dK b).2) ((dK b).1*(dK a).2),0) by rw[HQ.o];rfl);clear ac Z cb;go_enter func274,ntmps274;go_wp2_with(first
   |(go_at_call 261;((with_reducible refine(S.o _).mono ?_);rintro e W1 ⟨x1,T,rfl,an,E⟩;obtain⟨b1,b2,b3,b4⟩:=vG an;have aq:=A an;clear an;have R1:=A (ai.new W1 283 [G F x1,G F T]);have l:=A E;clear E))
   |(go_at_call 261;((with_reducible refine(KB.o _).mono ?_);rintro e W2 ⟨x2,y2,rfl,al,P⟩;obtain⟨b5,b6,b7,b8⟩:=vG al;have ap:=A al;clear al;have q0:=(R1.o.ext P).cell 0;have q1:=(R1.o.ext P).cell 1;have qz:=(R1.o.ext P).lt;have I:=A (Ext.tr (l.o.alloc (Below.size l.o) _) P);clear P;have lL:=zA (a:=x1) (b:=y2) (m:=1000000000) (n:=1000000000) D D;have qQ:=zA (a:=x2) (b:=T) (m:=1000000000) (n:=1000000000) D D;obtain⟨p1,p2⟩:=lL;obtain⟨p3,p4⟩:=qQ))
   |(go_at_call 207;refine(KZ.o _ _ _).mono ?_;rintro e Q ⟨rfl,rfl⟩))
  go_ret2;refine⟨?_,I.o.alloc (Below.size I.o) _⟩;rw[HV.o,aq.o,ap.o]
  rfl
 ·obtain⟨q,d1,ae⟩:∃n d,eU a=L (n,d):=by
   cases h:eU a with
   |none=>unfold aC at Z;rw[h] at Z;cases Z
   |some p=>exact⟨p.1,p.2,H⟩
  obtain⟨J,d2,ad⟩:∃n d,eU b=L (n,d):=by
   cases h:eU b with
   |none=>unfold aC at cb;rw[h] at cb;cases cb
   |some p=>exact⟨p.1,p.2,H⟩
  have ar:=rD ae;have au:=rD ad;have KC:=A (λ(W:U) (h:Ext w W)=>zG q d1 J d2 W D D D D (HT.o.below h (XE _)));have am:=Q1 q d1 J d2;have HV:=A (show jf a b=if(uI q d1 J d2).e≠0 then(0,(uI q d1 J d2).e) else nV (uI q d1 J d2).u (uI q d1 J d2).v by
   have g:bU a=(q,d1):=by unfold bU;rw[ae];rfl
   have o:bU b=(J,d2):=by unfold bU;rw[ad];rfl
   rw[HQ.o,XQ ac,g,o])
  obtain⟨⟨u,v,c⟩,hu⟩:=aa (uI q d1 J d2);rw[hu] at HV am;simp only[hu] at KC;dsimp only at HV am;have KI:=A (λW=>Lm u v W D D);have af:=A ae;have ag:=A ad;have ao:=A ac;clear hu am ae ad ar au Z cb ac;by_cases hc:c=0
  ·have V:=A (show jf a b=nV u v by rw[HV.o,XQ (λh=>h hc)]);subst hc;obtain⟨⟨z,f⟩,hz⟩:=aa (nV u v);rw[hz] at V;simp only[hz] at KI;clear hz;cases oa
   ·go_enter func274,ntmps274;go_wp2_with(first
     |(go_at_call 261;((with_reducible refine(S.o _).mono ?_);rintro e W1 ⟨x1,T,rfl,_,E⟩;have l:=A (Ext.tr (Ext.ah w) E);clear E))
     |(go_at_call 228;((with_reducible refine(X.o _ (l.o.alloc (Below.size l.o) _)).mono ?_);rintro e Q ⟨x3,y3,rfl,M,K⟩;obtain⟨B,C,g,rfl,rfl⟩:=M trivial;rw[af.o] at g;obtain⟨rfl,rfl⟩:q=B/\d1=C:=by{injection g with g;injection g with o r;exact⟨o,r⟩};have s:=A (ai.new Q 255 [Yy (tx q),Yy (tx d1)]);have k:=A (Ext.tr (l.o.alloc (Below.size l.o) _) K);clear K M))
     |(go_at_call 228;((with_reducible refine(ab.o _ (k.o.alloc (Below.size k.o) _)).mono ?_);rintro e W4 ⟨x4,y4,rfl,O,i⟩;obtain⟨B,C,g,rfl,rfl⟩:=O trivial;rw[ag.o] at g;obtain⟨rfl,rfl⟩:J=B/\d2=C:=by{injection g with g;injection g with o r;exact⟨o,r⟩};have s0:=(s.o.ext i).cell 0;have s1:=(s.o.ext i).cell 1;have sz:=(s.o.ext i).lt;have j:=A (Ext.tr (k.o.alloc (Below.size k.o) _) i);clear i O))
     |(go_at_call 300;((with_reducible refine(KC.o _ (j.o.alloc (Below.size j.o) _)).mono ?_);rintro e W5 ⟨rfl,N⟩;have R:=A (Ext.tr (j.o.alloc (Below.size j.o) _) N);clear N))
     |(go_at_call 301;refine(KI.o _).mono ?_;rintro e W6 ⟨rfl,ak⟩))
    go_ret2;rw[V.o];exact⟨H,Ext.tr R.o ak⟩
   ·cases ob
    ·go_enter func274,ntmps274;go_wp2_with(first
      |(go_at_call 261;((with_reducible refine(S.o _).mono ?_);rintro e W1 ⟨x1,T,rfl,_,E⟩;have l:=A (Ext.tr (Ext.ah w) E);clear E))
      |(go_at_call 261;((with_reducible refine(KB.o _).mono ?_);rintro e W2 ⟨x2,y2,rfl,_,P⟩;have I:=A (Ext.tr (l.o.alloc (Below.size l.o) _) P);clear P))
      |(go_at_call 228;((with_reducible refine(X.o _ (I.o.alloc (Below.size I.o) _)).mono ?_);rintro e Q ⟨x3,y3,rfl,M,K⟩;obtain⟨B,C,g,rfl,rfl⟩:=M trivial;rw[af.o] at g;obtain⟨rfl,rfl⟩:q=B/\d1=C:=by{injection g with g;injection g with o r;exact⟨o,r⟩};have s:=A (ai.new Q 255 [Yy (tx q),Yy (tx d1)]);have k:=A (Ext.tr (I.o.alloc (Below.size I.o) _) K);clear K M))
      |(go_at_call 228;((with_reducible refine(ab.o _ (k.o.alloc (Below.size k.o) _)).mono ?_);rintro e W4 ⟨x4,y4,rfl,O,i⟩;obtain⟨B,C,g,rfl,rfl⟩:=O trivial;rw[ag.o] at g;obtain⟨rfl,rfl⟩:J=B/\d2=C:=by{injection g with g;injection g with o r;exact⟨o,r⟩};have s0:=(s.o.ext i).cell 0;have s1:=(s.o.ext i).cell 1;have sz:=(s.o.ext i).lt;have j:=A (Ext.tr (k.o.alloc (Below.size k.o) _) i);clear i O))
      |(go_at_call 300;((with_reducible refine(KC.o _ (j.o.alloc (Below.size j.o) _)).mono ?_);rintro e W5 ⟨rfl,N⟩;have R:=A (Ext.tr (j.o.alloc (Below.size j.o) _) N);clear N))
      |(go_at_call 301;refine(KI.o _).mono ?_;rintro e W6 ⟨rfl,ak⟩))
     go_ret2;rw[V.o];exact⟨H,Ext.tr R.o ak⟩
    ·exact absurd H ao.o
  ·have V:=A (show jf a b=(0,c) by rw[HV.o,XT hc]);have t:(c !=0)=Y:=by rw[Yn];exact hc
   clear hc;cases oa
   ·go_enter func274,ntmps274;go_wp2_with(first
     |(go_at_call 261;((with_reducible refine(S.o _).mono ?_);rintro e W1 ⟨x1,T,rfl,_,E⟩;have l:=A (Ext.tr (Ext.ah w) E);clear E))
     |(go_at_call 228;((with_reducible refine(X.o _ (l.o.alloc (Below.size l.o) _)).mono ?_);rintro e Q ⟨x3,y3,rfl,M,K⟩;obtain⟨B,C,g,rfl,rfl⟩:=M trivial;rw[af.o] at g;obtain⟨rfl,rfl⟩:q=B/\d1=C:=by{injection g with g;injection g with o r;exact⟨o,r⟩};have s:=A (ai.new Q 255 [Yy (tx q),Yy (tx d1)]);have k:=A (Ext.tr (l.o.alloc (Below.size l.o) _) K);clear K M))
     |(go_at_call 228;((with_reducible refine(ab.o _ (k.o.alloc (Below.size k.o) _)).mono ?_);rintro e W4 ⟨x4,y4,rfl,O,i⟩;obtain⟨B,C,g,rfl,rfl⟩:=O trivial;rw[ag.o] at g;obtain⟨rfl,rfl⟩:J=B/\d2=C:=by{injection g with g;injection g with o r;exact⟨o,r⟩};have s0:=(s.o.ext i).cell 0;have s1:=(s.o.ext i).cell 1;have sz:=(s.o.ext i).lt;have j:=A (Ext.tr (k.o.alloc (Below.size k.o) _) i);clear i O))
     |(go_at_call 300;((with_reducible refine(KC.o _ (j.o.alloc (Below.size j.o) _)).mono ?_);rintro e W5 ⟨rfl,N⟩;have R:=A (Ext.tr (j.o.alloc (Below.size j.o) _) N);clear N)))
    go_ret2;rw[V.o];exact⟨H,R.o⟩
   ·cases ob
    ·go_enter func274,ntmps274;go_wp2_with(first
      |(go_at_call 261;((with_reducible refine(S.o _).mono ?_);rintro e W1 ⟨x1,T,rfl,_,E⟩;have l:=A (Ext.tr (Ext.ah w) E);clear E))
      |(go_at_call 261;((with_reducible refine(KB.o _).mono ?_);rintro e W2 ⟨x2,y2,rfl,_,P⟩;have I:=A (Ext.tr (l.o.alloc (Below.size l.o) _) P);clear P))
      |(go_at_call 228;((with_reducible refine(X.o _ (I.o.alloc (Below.size I.o) _)).mono ?_);rintro e Q ⟨x3,y3,rfl,M,K⟩;obtain⟨B,C,g,rfl,rfl⟩:=M trivial;rw[af.o] at g;obtain⟨rfl,rfl⟩:q=B/\d1=C:=by{injection g with g;injection g with o r;exact⟨o,r⟩};have s:=A (ai.new Q 255 [Yy (tx q),Yy (tx d1)]);have k:=A (Ext.tr (I.o.alloc (Below.size I.o) _) K);clear K M))
      |(go_at_call 228;((with_reducible refine(ab.o _ (k.o.alloc (Below.size k.o) _)).mono ?_);rintro e W4 ⟨x4,y4,rfl,O,i⟩;obtain⟨B,C,g,rfl,rfl⟩:=O trivial;rw[ag.o] at g;obtain⟨rfl,rfl⟩:J=B/\d2=C:=by{injection g with g;injection g with o r;exact⟨o,r⟩};have s0:=(s.o.ext i).cell 0;have s1:=(s.o.ext i).cell 1;have sz:=(s.o.ext i).lt;have j:=A (Ext.tr (k.o.alloc (Below.size k.o) _) i);clear i O))
      |(go_at_call 300;((with_reducible refine(KC.o _ (j.o.alloc (Below.size j.o) _)).mono ?_);rintro e W5 ⟨rfl,N⟩;have R:=A (Ext.tr (j.o.alloc (Below.size j.o) _) N);clear N)))
     go_ret2;rw[V.o];exact⟨H,R.o⟩
    ·exact absurd H ao.o
def jL(a b:List UInt8)(w:U)(k:ln a<=99999)(m:ln b<=99999)(j:aC a=0)(d:aC b=0)(i:jE w)(h:bE w):
  XY Xz 246 #[Yy (tx a),Yy (tx b)] w λe w'=>e=YC (G F (jf a b).1)/\Ext w w':=by
 have c:=A (BK a b w k m j d i h);obtain⟨⟨z,f⟩,g⟩:=aa (jf a b);unfold OQ at c;rw[g] at c⊢;clear g j d i h;go_enter func246,ntmps246;go_wp2_with(go_at_call 274;refine c.o.mono ?_;rintro e W1 ⟨rfl,l⟩)
 go_ret;exact⟨H,l⟩
end
section
open Kp
abbrev G9(l:List (List UInt8)):List (List Z):=l.map λs=>[Yy (tx s)]
theorem zh{l:List (List UInt8)}(hi:i<ln l):(G9 l).getD i []=[Yy (tx (l.getD i []))]:=by
 exact a1l
noncomputable def eW(l:List (List UInt8)):Int:=
 if bn (λi=>aC (l.getD i [])) (ln l)≠0 then bn (λi=>aC (l.getD i [])) (ln l) else bn (λi=>iw (l.getD i [])) (ln l)
def WL(w:U)(n:Nat)(f:Nat->Int)(i:Z)(wr:U):Prop:=∃k:Nat,k<=n/\i=G F (k:Int)/\Ext w wr/\∀j,j<k->f j=0
def AP(w:U)(S:Option Ym)(y:Nat)(l:List (List UInt8))(hl:bR 1 w w.heap.size S y (G9 l))(d:∀x∈l,ln x<=99999)(hm:jE w)(Z:bE w):
  XY Xz 245 #[V S (ln l) y] w λe w'=>e=YC (G F (eW l))/\Ext w w':=by
 obtain⟨h1,h2,L⟩:=hl;rw[XP] at h1 L;unfold Yk at h2;have H3:=A L;have X:=A d;have Q:=A hm;have T:=A Z;have W:=A (show eW l=if bn (λi=>aC (l.getD i [])) (ln l)≠0 then bn (λi=>aC (l.getD i [])) (ln l) else bn (λi=>iw (l.getD i [])) (ln l) from rfl);clear L d hm Z;go_enter func245,ntmps245;go_wp2;go_loopw [11] (λi wr=>WL w (ln l) (λi=>aC (l.getD i [])) i wr) (λi _=>((ln l:Int)-Yf i).toNat)
 case atStart=>exact⟨0,D,rfl,XI _ _,λj B=>D⟩
 case round=>
  obtain⟨k,hk,rfl,E,v⟩:=hrel;have a:=A E;have M:=A v;clear E v;by_cases r:k<ln l
  ·obtain⟨b,off,rfl,K,C⟩:=H3.o D;have H:=(a.o.cell (p:=⟨b,off+1*k+0,I⟩) K).trans (C k r 0 YK);rw[zh r,Nat.one_mul,Nat.add_zero] at H;have u:=X.o (l.getD k []) (by rw[XJ,XO r];exact List.getElem_mem r);obtain⟨s,d⟩:=aa (l.getD k []);rw[d] at H u;have n:=A (qK s wr D (Q.o.below a.o (XE _)) (T.o.below a.o (XE _)));have m:=A (show aC (l.getD k [])=aC s by rw[d]);obtain⟨c,t⟩:=aa (aC s);rw[t] at n m;clear C u d t;by_cases g:c=0
   ·have J:=A (show∀j,j<k+1->aC (l.getD j [])=0 fromλj B=>by
     by_cases P:j=k
     ·rw[P,m.o];exact g
     ·exact M.o j D)
    subst g;go_wp2_with(go_at_call 171;refine n.o.mono ?_;rintro e W1 ⟨rfl,o⟩)
    exact⟨⟨k+1,D,YL,Ext.tr a.o o,J.o⟩,YO⟩
   ·have f:=A (show eW l=c by
     have h1:bn (λi=>aC (l.getD i [])) (ln l)=c:=by rw[bM r M.o (by show aC (l.getD k [])≠0;rw[m.o];exact g)];exact m.o
     rw[W.o,h1,XT g])
    have tc:(c !=0)=Y:=by rw[Yn];exact g
    go_wp2_with(go_at_call 171;refine n.o.mono ?_;rintro e W1 ⟨rfl,o⟩)
    go_ret;exact⟨Zf,Ext.tr a.o o⟩
  ·have ab:YG ((k:Int)<(ln l:Int))=O:=YU;have R:=A (show eW l=bn (λi=>iw (l.getD i [])) (ln l) by
    have h1:bn (λi=>aC (l.getD i [])) (ln l)=0:=bh (λj B=>M.o j D);rw[W.o,h1,XQ (λh=>h rfl)])
   clear hk;go_wp2;go_loopw [23] (λi wr=>WL w (ln l) (λi=>iw (l.getD i [])) i wr) (λi _=>((ln l:Int)-Yf i).toNat)
   case atStart=>exact⟨0,D,rfl,a.o,λj B=>D⟩
   case round=>
    clear a;obtain⟨q,hq,rfl,E,v⟩:=hrel;have a:=A E;have N:=A v;clear E v;by_cases z:q<ln l
    ·obtain⟨b,off,rfl,K,C⟩:=H3.o D;have H:=(a.o.cell (p:=⟨b,off+1*q+0,I⟩) K).trans (C q z 0 YK);rw[zh z,Nat.one_mul,Nat.add_zero] at H;have u:=X.o (l.getD q []) (by rw[XJ,XO z];exact List.getElem_mem z);obtain⟨s,d⟩:=aa (l.getD q []);rw[d] at H u;have n:=A (Eu s wr D (Q.o.below a.o (XE _)) (T.o.below a.o (XE _)));have m:=A (show iw (l.getD q [])=iw s by rw[d]);obtain⟨c,t⟩:=aa (iw s);rw[t] at n m;clear C u d t;by_cases g:c=0
     ·have J:=A (show∀j,j<q+1->iw (l.getD j [])=0 fromλj B=>by
       by_cases P:j=q
       ·rw[P,m.o];exact g
       ·exact N.o j D)
      subst g;go_wp2_with(go_at_call 273;refine n.o.mono ?_;rintro e W1 ⟨rfl,o⟩)
      exact⟨⟨q+1,D,YL,Ext.tr a.o o,J.o⟩,YO⟩
     ·have f:=A (show eW l=c by
       rw[R.o,bM z N.o (by show iw (l.getD q [])≠0;rw[m.o];exact g)];exact m.o)
      have tc:(c !=0)=Y:=by rw[Yn];exact g
      go_wp2_with(go_at_call 273;refine n.o.mono ?_;rintro e W1 ⟨rfl,o⟩)
      go_ret;exact⟨Zf,Ext.tr a.o o⟩
    ·have ac:YG ((q:Int)<(ln l:Int))=O:=YU;have f:=A (show eW l=0 by rw[R.o,bh (λj B=>N.o j D)]);go_wp2;go_ret;exact⟨Zf,a.o⟩
abbrev uk(o:nc):List Z:=[G F o.side,Yy (tx o.left),Yy (tx o.right),Yy (tx o.low),Yy (tx o.high)]
abbrev aV(l:List nc):List (List Z):=l.map uk
theorem ph{l:List nc}(hi:i<ln l):(aV l).getD i []=uk (l.getD i fm):=by
 exact a1l
def lU(l:List nc):dv 5 (aV l):=bQ (f:=uk) (λ_=>rfl) l
noncomputable def mZ(o:nc):Int:=if eW [o.left,o.right,o.low,o.high]≠0 then eW [o.left,o.right,o.low,o.high] else if 0<=(jf o.left o.right).1\/0<=(jf o.low o.high).1 then 10 else 0
noncomputable def xr(a b:nc):Bool:=a.side==b.side&&YG ((jf a.left b.right).1<0)&&YG ((jf b.left a.right).1<0)&&YG ((jf a.low b.high).1<0)&&YG ((jf b.low a.high).1<0)
structure Rs(o:nc):Prop where
 l1:ln o.left<=99999
 r1:ln o.right<=99999
 w1:ln o.low<=99999
 h1:ln o.high<=99999
 l2:aC o.left=0
 r2:aC o.right=0
 w2:aC o.low=0
 h2:aC o.high=0
structure BJ(o:nc):Prop where
 l1:ln o.left<=99999
 r1:ln o.right<=99999
 w1:ln o.low<=99999
 h1:ln o.high<=99999
def IS{a b c d:List UInt8}(h:eW [a,b,c,d]=0):aC a=0/\aC b=0/\aC c=0/\aC d=0:=by
 unfold eW at h;split at h
 ·rename_i h1;exact absurd h h1
 ·rename_i h1;have e:=ij (Decidable.not_not.1 h1);exact⟨e 0 YL,e 1 YL,e 2 YL,e 3 YL⟩
def P3{o:nc}(e:BJ o)(h:mZ o=0):Rs o:=by
 have g:eW [o.left,o.right,o.low,o.high]=0:=by
  by_cases f:eW [o.left,o.right,o.low,o.high]=0
  ·exact f
  ·unfold mZ at h;rw[XT f] at h;exact absurd h f
 obtain⟨a,b,c,d⟩:=IS g;exact⟨e.l1,e.r1,e.w1,e.h1,a,b,c,d⟩
def Ee(o:nc)(w:U)(X:BJ o)(P:jE w)(J:bE w):XY Xz 194 #[YE (uk o).toArray] w λe w'=>e=YC (G F (mZ o))/\Ext w w':=by
 obtain⟨sd,a,b,c,d⟩:=o;obtain⟨l1,r1,w1,h1⟩:=X;dsimp only at l1 r1 w1 h1;have t:=A P;have u:=A J;have l:=A (gI w (.cells #[G F sd,Yy (tx a),Yy (tx b),Yy (tx c),Yy (tx d)] 39) (.cells #[Yy (tx a),Yy (tx b),Yy (tx c),Yy (tx d)] 37));have v:=A ((ai.new w 39 [G F sd,Yy (tx a),Yy (tx b),Yy (tx c),Yy (tx d)]).ext ((XI _ _).alloc (XE _) (.cells #[Yy (tx a),Yy (tx b),Yy (tx c),Yy (tx d)] 37)));have r2:=ai.new (w.alloc (.cells #[G F sd,Yy (tx a),Yy (tx b),Yy (tx c),Yy (tx d)] 39)) 37 [Yy (tx a),Yy (tx b),Yy (tx c),Yy (tx d)];rw[Ya] at r2;have R:bR 1 _ _ (L ⟨w.heap.size+1,0,I⟩) 4 (G9 [a,b,c,d]):=⟨YL,YR,λ_=>⟨w.heap.size+1,0,rfl,r2.lt,λi hi j hj=>by
  obtain rfl:j=0:=D;simp at hi;rw[r2.cell,Nat.one_mul,Nat.zero_add,Nat.add_zero];rcases(show i=0\/i=1\/i=2\/i=3 by omega) with rfl|rfl|rfl|rfl<;>rfl⟩⟩
 have s:=A (AP _ _ 4 [a,b,c,d] R (by simp;exact⟨l1,r1,w1,h1⟩) (t.o.below l.o (XE _)) (u.o.below l.o (XE _)));have B:=A (show mZ ⟨sd,a,b,c,d⟩=if eW [a,b,c,d]≠0 then eW [a,b,c,d] else if 0<=(jf a b).1\/0<=(jf c d).1 then 10 else 0 from rfl);have K:=A (λh=>IS (a:=a) (b:=b) (c:=c) (d:=d) h);clear P J r2 R;obtain⟨n,Q⟩:=aa (eW [a,b,c,d]);rw[Q] at s B K;clear Q;by_cases k:n=0
 ·obtain⟨M,N,H,cd⟩:=K.o k;have E:=A (λ(W:U) (h:Ext w W)=>jL a b W l1 r1 M N (t.o.below h (XE _)) (u.o.below h (XE _)));have S:=A (λ(W:U) (h:Ext w W)=>jL c d W w1 h1 H cd (t.o.below h (XE _)) (u.o.below h (XE _)));have r:=A (show mZ ⟨sd,a,b,c,d⟩=if 0<=(jf a b).1\/0<=(jf c d).1 then 10 else 0 by rw[B.o,XQ (λh=>h k)]);subst k;obtain⟨x,hx⟩:=aa ((jf a b).1);obtain⟨y,hy⟩:=aa ((jf c d).1);rw[hx,hy] at r;simp only[hx] at E;simp only[hy] at S;clear hx hy M N H cd;by_cases z:0<=x
  ·have T:YG (0<=x)=Y:=by rw[XX];exact z
   have f:=A (show mZ ⟨sd,a,b,c,d⟩=10 by rw[r.o,XT (.inl z)]);go_enter func194,ntmps194;go_wp2_with(first
    |(go_at_call 245;refine s.o.mono ?_;rintro e W1 ⟨rfl,g⟩;have V:=λi=>(v.o.ext g).cell i;have m:=A (Ext.tr l.o g);clear g)
    |(go_at_call 246;((with_reducible refine(E.o _ m.o).mono ?_);rintro e Z ⟨rfl,q⟩)))
   go_ret;exact⟨Zf,Ext.tr m.o q⟩
  ·have T:YG (0<=x)=O:=by rw[XL];exact z
   by_cases C:0<=y
   ·have ab:YG (0<=y)=Y:=by rw[XX];exact C
    have f:=A (show mZ ⟨sd,a,b,c,d⟩=10 by rw[r.o,XT (.inr C)]);exact a1w
   ·have ab:YG (0<=y)=O:=by rw[XL];exact C
    have f:=A (show mZ ⟨sd,a,b,c,d⟩=0 by rw[r.o,XQ D]);exact a1w
 ·have f:=A (show mZ ⟨sd,a,b,c,d⟩=n by rw[B.o,XT k]);have tn:(n !=0)=Y:=by rw[Yn];exact k
  clear k;go_enter func194,ntmps194;go_wp2_with(go_at_call 245;refine s.o.mono ?_;rintro e W1 ⟨rfl,g⟩)
  go_ret;exact⟨Zf,Ext.tr l.o g⟩
end
section
open Kp
noncomputable def Ch(l:List nc):Bool:= !cK (λi=>cK (λk=>xr (l.getD i fm) (l.getD k fm)) i) (ln l)
noncomputable def gS(l:List nc):Bool×Int:=
 if 32<ln l then(O,4) else if bn (λi=>mZ (l.getD i fm)) (ln l)≠0 then(O,bn (λi=>mZ (l.getD i fm)) (ln l)) else(Ch l,0)
def T6(a b:nc)(s p q r t:Bool)(h1:(a.side==b.side)=s)(h2:YG ((jf a.left b.right).1<0)=p)(c:YG ((jf b.left a.right).1<0)=q)(e:YG ((jf a.low b.high).1<0)=r)(d:YG ((jf b.low a.high).1<0)=t):xr a b=(s&&p&&q&&r&&t):=by
 unfold xr;rw[h1,h2,c,e,d]
def AF(a b:nc)(w:U)(ha:Rs a)(hb:Rs b)(N:jE w)(J:bE w):XY Xz 195 #[YE (uk a).toArray,YE (uk b).toArray] w λe w'=>e=YC (Yz (xr a b))/\Ext w w':=by
 obtain⟨l1,r1,w1,h1,l2,r2,w2,h2⟩:=ha;obtain⟨T,s1,Q,S,P,s2,F,G⟩:=hb;have r:=A N;have s:=A J;have o:=A (λ(W:U) (h:Ext w W)=>jL a.left b.right W l1 s1 l2 s2 (r.o.below h (XE _)) (s.o.below h (XE _)));have v:=A (λ(W:U) (h:Ext w W)=>jL b.left a.right W T r1 P r2 (r.o.below h (XE _)) (s.o.below h (XE _)));have x:=A (λ(W:U) (h:Ext w W)=>jL a.low b.high W w1 S w2 G (r.o.below h (XE _)) (s.o.below h (XE _)));have L:=A (λ(W:U) (h:Ext w W)=>jL b.low a.high W Q h1 F h2 (r.o.below h (XE _)) (s.o.below h (XE _)));have g:=A (gI w (.cells (uk a).toArray 39) (.cells (uk b).toArray 39));have n:=A ((ai.new w 39 (uk a)).ext ((XI _ _).alloc (XE _) (.cells (uk b).toArray 39)));have B:=ai.new (w.alloc (.cells (uk a).toArray 39)) 39 (uk b);rw[Ya] at B;have q:=A B;have M:=A (T6 a b);clear N J B l1 r1 w1 h1 l2 r2 w2 h2 T s1 Q S P s2 F G;obtain⟨c1,z⟩:=aa ((jf a.left b.right).1);obtain⟨c2,y⟩:=aa ((jf b.left a.right).1);obtain⟨c3,C⟩:=aa ((jf a.low b.high).1);obtain⟨c4,D⟩:=aa ((jf b.low a.high).1);rw[z,y,C,D] at M;simp only[z] at o;simp only[y] at v;simp only[C] at x;simp only[D] at L;clear z y C D;obtain⟨R,t0⟩:=aa (a.side==b.side);obtain⟨X,t1⟩:=aa (YG (c1<0));obtain⟨I,t2⟩:=aa (YG (c2<0));obtain⟨E,t3⟩:=aa (YG (c3<0));obtain⟨Y,t4⟩:=aa (YG (c4<0));have f:=A (M.o R X I E Y t0 t1 t2 t3 t4);cases R
 ·have k:=A (show xr a b=O by rw[f.o];rfl);go_enter func195,ntmps195;go_wp2;go_ret;exact⟨by rw[k.o];rfl,g.o⟩
 cases X
 ·have k:=A (show xr a b=O by rw[f.o];rfl);go_enter func195,ntmps195;go_wp2_with(go_at_call 246;((with_reducible refine(o.o _ g.o).mono ?_);rintro e W1 ⟨rfl,c⟩))
  go_ret;exact⟨by rw[k.o];rfl,Ext.tr g.o c⟩
 cases I
 ·have k:=A (show xr a b=O by rw[f.o];rfl);go_enter func195,ntmps195;go_wp2_with(first
   |(go_at_call 246;((with_reducible refine(o.o _ g.o).mono ?_);rintro e W1 ⟨rfl,c⟩;have H:=λi=>(n.o.ext c).cell i;have K:=λi=>(q.o.ext c).cell i;have j:=A (Ext.tr g.o c);clear c))
   |(go_at_call 246;((with_reducible refine(v.o _ j.o).mono ?_);rintro e V ⟨rfl,d⟩)))
  go_ret;exact⟨by rw[k.o];rfl,Ext.tr j.o d⟩
 cases E
 ·have k:=A (show xr a b=O by rw[f.o];rfl);go_enter func195,ntmps195;go_wp2_with(first
   |(go_at_call 246;((with_reducible refine(o.o _ g.o).mono ?_);rintro e W1 ⟨rfl,c⟩;have H:=λi=>(n.o.ext c).cell i;have K:=λi=>(q.o.ext c).cell i;have u:=A (n.o.ext c);have t:=A (q.o.ext c);have j:=A (Ext.tr g.o c);clear c))
   |(go_at_call 246;((with_reducible refine(v.o _ j.o).mono ?_);rintro e V ⟨rfl,d⟩;have q3:=λi=>(u.o.ext d).cell i;have q4:=λi=>(t.o.ext d).cell i;have m:=A (Ext.tr j.o d);clear d))
   |(go_at_call 246;((with_reducible refine(x.o _ m.o).mono ?_);rintro e W3 ⟨rfl,l⟩)))
  go_ret;exact⟨by rw[k.o];rfl,Ext.tr m.o l⟩
 cases Y;all_goals
  go_enter func195,ntmps195;go_wp2_with(first
   |(go_at_call 246;((with_reducible refine(o.o _ g.o).mono ?_);rintro e W1 ⟨rfl,c⟩;have H:=λi=>(n.o.ext c).cell i;have K:=λi=>(q.o.ext c).cell i;have u:=A (n.o.ext c);have t:=A (q.o.ext c);have j:=A (Ext.tr g.o c);clear c))
   |(go_at_call 246;((with_reducible refine(v.o _ j.o).mono ?_);rintro e V ⟨rfl,d⟩;have q3:=λi=>(u.o.ext d).cell i;have q4:=λi=>(t.o.ext d).cell i;have S3:=A (u.o.ext d);have S4:=A (t.o.ext d);have m:=A (Ext.tr j.o d);clear d))
   |(go_at_call 246;((with_reducible refine(x.o _ m.o).mono ?_);rintro e W3 ⟨rfl,l⟩;have q5:=λi=>(S3.o.ext l).cell i;have q6:=λi=>(S4.o.ext l).cell i;have Z:=A (Ext.tr m.o l);clear l))
   |(go_at_call 246;((with_reducible refine(L.o _ Z.o).mono ?_);rintro e W4 ⟨rfl,ab⟩)))
  go_ret;exact⟨Zf,Ext.tr Z.o ab⟩
end
section
open Kp
def xD(w:U)(S:Option Ym)(y:Nat)(l:List nc)(hl:bR 5 w w.heap.size S y (aV l))(hs:ln l<=32->∀o∈l,BJ o)(W:jE w)(ht:bE w):
  XY Xz 121 #[V S (ln l) y] w λe w'=>e=YC (YF #[Yz (gS l).1,G F (gS l).2])/\Ext w w':=by
 obtain⟨h1,h2,T⟩:=hl;rw[XP] at h1 T;unfold Yk at h2;by_cases ah:32<ln l
 ·have Q:=A (show gS l=(O,4) by unfold gS;rw[XT ah]);clear T hs W ht;go_enter func121,ntmps121;go_wp2;go_ret2;rw[Q.o];exact⟨H,Ext.ah _⟩
 have Q:=A (show gS l=if bn (λi=>mZ (l.getD i fm)) (ln l)≠0 then(O,bn (λi=>mZ (l.getD i fm)) (ln l)) else(Ch l,0) by unfold gS;rw[XQ ah]);have H3:=A T;have HS:=A (show∀i,i<ln l->BJ (l.getD i fm) fromλi hi=>hs D _ (by rw[XJ,XO hi];exact List.getElem_mem hi));have HM:=A W;have HT:=A ht;clear T hs W ht;go_enter func121,ntmps121;go_wp2;go_loopw [16] (λi wr=>WL w (ln l) (λi=>mZ (l.getD i fm)) i wr) (λi _=>((ln l:Int)-Yf i).toNat)
 case atStart=>exact⟨0,D,rfl,XI _ _,λj d=>D⟩
 case round=>
  obtain⟨k,hk,rfl,f,s⟩:=hrel;have g:=A f;have t:=A s;clear f s;by_cases n:k<ln l
  ·obtain⟨b,off,rfl,P,K⟩:=H3.o D;have a:=A (λi hi j d=>(g.o.cell (p:=⟨b,off+5*i+j,I⟩) P).trans (K i hi j d));have B:=a.o k n 0 YK;have c1:=a.o k n 1 YK;have c2:=a.o k n 2 YK;have c3:=a.o k n 3 YK;have c4:=a.o k n 4 YK;rw[ph n,Yd] at B c1 c2 c3 c4;rw[Nat.add_zero] at B;have Z:=HS.o k n;obtain⟨o,J⟩:=aa (l.getD k fm);rw[J] at B c1 c2 c3 c4 Z;have z:=A (λ(p:Obj)=>(g.o.alloc g.o.size p:Ext w (wr.alloc p)));have KS:=A (λ(p:Obj)=>Ee o (wr.alloc p) Z (HM.o.below (z.o p) (XE _)) (HT.o.below (z.o p) (XE _)));have r:=A (show mZ (l.getD k fm)=mZ o by rw[J]);obtain⟨c,hc⟩:=aa (mZ o);rw[hc] at r;simp only[hc] at KS;clear K a Z J hc;by_cases M:c=0
   ·have X:=A (show∀j,j<k+1->mZ (l.getD j fm)=0 fromλj d=>by
     by_cases N:j=k
     ·rw[N,r.o];exact M
     ·exact t.o j D)
    subst M;go_wp2_with(go_at_call 194;refine(KS.o _).mono ?_;rintro e W1 ⟨rfl,E⟩)
    exact⟨⟨k+1,D,YL,Ext.tr (z.o _) E,X.o⟩,YO⟩
   ·have L:=A (show gS l=(O,c) by
     have h1:bn (λi=>mZ (l.getD i fm)) (ln l)=c:=by rw[bM n t.o (by show mZ (l.getD k fm)≠0;rw[r.o];exact M)];exact r.o
     rw[Q.o,h1,XT M])
    have tc:(c !=0)=Y:=by rw[Yn];exact M
    go_wp2_with(go_at_call 194;refine(KS.o _).mono ?_;rintro e W1 ⟨rfl,E⟩)
    go_ret2;rw[L.o];exact⟨H,Ext.tr (z.o _) E⟩
  ·have an:YG ((k:Int)<(ln l:Int))=O:=YU;have HD:=A (show gS l=(Ch l,0) by
    have h1:bn (λi=>mZ (l.getD i fm)) (ln l)=0:=bh (λj d=>t.o j D);rw[Q.o,h1,XQ (λh=>h rfl)])
   have af:=A (show∀i,i<ln l->Rs (l.getD i fm) fromλi hi=>P3 (HS.o i hi) (t.o i D));clear hk;go_wp2;go_loopw [28] (λi wr=>∃m:Nat,m<=ln l/\i=G F (m:Int)/\Ext w wr/\∀j,j<m->cK (λk=>xr (l.getD j fm) (l.getD k fm)) j=O) (λi _=>((ln l:Int)-Yf i).toNat)
   case atStart=>exact⟨0,D,rfl,g.o,λj d=>D⟩
   case round=>
    clear g t;obtain⟨m,W,rfl,f,s⟩:=hrel;have g:=A f;have t:=A s;clear f s;by_cases v:m<ln l
    ·obtain⟨b,off,rfl,P,K⟩:=H3.o D;have aj:=A K;have a:=A (λi hi j d=>(g.o.cell (p:=⟨b,off+5*i+j,I⟩) P).trans (K i hi j d));have B:=a.o m v 0 YK;have c1:=a.o m v 1 YK;have c2:=a.o m v 2 YK;have c3:=a.o m v 3 YK;have c4:=a.o m v 4 YK;rw[ph v,Yd] at B c1 c2 c3 c4;rw[Nat.add_zero] at B;have ac:=af.o m v;obtain⟨o,J⟩:=aa (l.getD m fm);rw[J] at B c1 c2 c3 c4 ac;have HO:=A J;have al:=A ac;have RM:=A (ai.new wr 39 (uk o));have EM:=A (show Ext wr (wr.alloc (.cells (uk o).toArray 39)) from(XI _ _).alloc (XE _) _);have ap:m<=y:=D;clear K a J ac;go_wp2;obtain⟨w1,ab⟩:=aa (wr.alloc (.cells (uk o).toArray 39));rw[ab] at RM EM;simp only[ab];clear ab B c1 c2 c3 c4;go_loopw [37] (λq wq=>∃k:Nat,k<=m/\q=G F (k:Int)/\Ext w1 wq/\∀j,j<k->xr (l.getD m fm) (l.getD j fm)=O) (λq _=>((m:Int)-Yf q).toNat)
     case atStart=>exact⟨0,D,rfl,XI _ _,λj d=>D⟩
     case round=>
      obtain⟨q,hq,rfl,f,s⟩:=hrel;have R:=A (Ext.tr (Ext.tr g.o EM.o) f);have r1:=RM.o.ext f;have ag:=A s;have ae:=A f;clear f s;by_cases ak:q<m
      ·have C:q<ln l:=D;have a:=A (λi hi j d=>(R.o.cell (p:=⟨b,off+5*i+j,I⟩) P).trans (aj.o i hi j d));have d0:=a.o q C 0 YK;have d1:=a.o q C 1 YK;have d2:=a.o q C 2 YK;have d3:=a.o q C 3 YK;have d4:=a.o q C 4 YK;rw[ph C,Yd] at d0 d1 d2 d3 d4;rw[Nat.add_zero] at d0;have ad:=af.o q C;obtain⟨u,hu⟩:=aa (l.getD q fm);rw[hu] at d0 d1 d2 d3 d4 ad;have z:=A (λ(p:Obj)=>(R.o.alloc R.o.size p:Ext w (wr.alloc p)));have KO:=A (λ(p:Obj)=>AF o u (wr.alloc p) al.o ad (HM.o.below (z.o p) (XE _)) (HT.o.below (z.o p) (XE _)));have r:=A (show xr (l.getD m fm) (l.getD q fm)=xr o u by rw[hu,HO.o]);obtain⟨x,hx⟩:=aa (xr o u);rw[hx] at r;simp only[hx] at KO;have e0:=r1.cell 0;have e1:=r1.cell 1;have e2:=r1.cell 2;have e3:=r1.cell 3;have e4:=r1.cell 4;have ez:=r1.lt;have am:=A (λ(p:Obj)=>(ae.o.alloc ae.o.size p:Ext w1 (wr.alloc p)));clear a ad hu hx r1;cases x
       ·have X:=A (show∀j,j<q+1->xr (l.getD m fm) (l.getD j fm)=O fromλj d=>by
         by_cases N:j=q
         ·rw[N];exact r.o
         ·exact ag.o j D)
        go_wp2_with(go_at_call 195;refine(KO.o _).mono ?_;rintro e W1 ⟨rfl,E⟩)
        exact⟨⟨q+1,D,YL,Ext.tr (am.o _) E,X.o⟩,YO⟩
       ·have L:=A (show gS l=(O,0) by
         rw[HD.o];unfold Ch;rw[dh (p:=λi=>cK (λk=>xr (l.getD i fm) (l.getD k fm)) i) v (dh (p:=λk=>xr (l.getD m fm) (l.getD k fm)) ak r.o)];rfl)
        go_wp2_with(go_at_call 195;refine(KO.o _).mono ?_;rintro e W1 ⟨rfl,E⟩)
        go_ret2;rw[L.o];exact⟨H,Ext.tr (z.o _) E⟩
      ·obtain rfl:q=m:=D;have aq:YG ((q:Int)<(q:Int))=O:=YU;clear r1;go_wp2;refine⟨⟨q+1,D,YL,R.o,λj d=> ?_⟩,YO⟩;by_cases N:j=q
       ·rw[N];exact bz ag.o
       ·exact t.o j D
    ·have ao:YG ((m:Int)<(ln l:Int))=O:=YU;have L:=A (show gS l=(Y,0) by
      rw[HD.o];unfold Ch;rw[bz (λj d=>t.o j D)];rfl)
     go_wp2;go_ret2;rw[L.o];exact⟨H,g.o⟩
end
section
open Kp
noncomputable def lH(rs:List (List Sd))(l:List nc):Int:=
 if(gS l).2≠0 then(gS l).2 else if dL rs≠0 then 1 else if l.any (λo=> !J o.side 0 ((ln rs.flatten:Int)-1)) then 2 else if(gS l).1 then 0 else 28
def FO(o:nc)(w:U)(B:Nat)(S:Option Ym)(n y:Nat)(i:n<=4000000000)(a:Bx w B 102 (V S n y)):
  XY Xz 124 #[YE (uk o).toArray,YA (L ⟨B,0,I⟩)] w λe w'=>e=YC (Yz (!J o.side 0 ((n:Int)-1)))/\Ext w w':=by
 have c:=a.cell;have g:=a.lt;have f:=A (show Ext w (w.alloc (.cells (uk o).toArray 39)) from(XI _ _).alloc (XE _) _);have w1:F.wrap ((n:Int)-1)=(n:Int)-1:=Yh _ D;have b:=A (λW=>iQ o.side 0 ((n:Int)-1) W);obtain⟨r,d⟩:=aa (J o.side 0 ((n:Int)-1));simp only[d] at b⊢;clear a d;go_enter func124,ntmps124;go_wp2_with(go_at_call 50;refine(b.o _).mono ?_;rintro e W1 ⟨rfl,rfl⟩)
 go_ret;exact⟨H,f.o⟩
def Qs(l:List nc)(w:U)(B:Nat)(S:Option Ym)(n y:Nat)(b:n<=4000000000)(a:Bx w B 102 (V S n y)):
  zk 124 #[YA (L ⟨B,0,I⟩)] 5 (aV l) (λi=> !J (l.getD i fm).side 0 ((n:Int)-1)) w:=by
 intro W i hi hx;rw[XP] at hi;rw[ph hi];exact FO _ W B S n y b (a.stays (hx.stays (n0:=0) (Nat.zero_le _)))
def xB(w:U)(S:Option Ym)(y:Nat)(rs:List (List Sd))(v:Option Ym)(C:Nat)(l:List nc)(hr:gw w w.heap.size S y rs)(Q:ln rs.flatten<=4000000000)
  (D:bR 5 w w.heap.size v C (aV l))(hs:ln l<=32->∀o∈l,BJ o)(hm:jE w)(ht:bE w):
  XY Xz 54 #[YE #[V S (ln rs) y],V v (ln l) C] w λe w'=>e=YC (G F (lH rs l))/\Ext w w':=by
 have m:=A (show Ext w (w.alloc (.cells #[V S (ln rs) y] 24)) from(XI _ _).alloc (XE _) _);have R0:=A (Bx.new w 24 (V S (ln rs) y));have HR:=A (λ(W:U) (h:Ext w W)=>((hr.below h).more h.size:gw W W.heap.size S y rs));have HL:=A (λ(W:U) (h:Ext w W)=>((D.below h).more h.size:bR 5 W W.heap.size v C (aV l)));have HM:=A hm;have HT:=A ht;have h1:=D.1;have h2:=D.2.1;rw[XP] at h1;unfold Yk at h2;have HS:=A hs;have s:=A (λ(W:U) (h:Ext w W)=>xD W v C l (HL.o W h) HS.o (HM.o.below h (XE _)) (HT.o.below h (XE _)));have u:=A (λ(W:U) (h:Ext w W)=>FT W S y rs (HR.o W h) Q);have r:=A (show lH rs l=if(gS l).2≠0 then(gS l).2 else if dL rs≠0 then 1 else if l.any (λo=> !J o.side 0 ((ln rs.flatten:Int)-1)) then 2 else if(gS l).1 then 0 else 28 from rfl);obtain⟨⟨d,c⟩,X⟩:=aa (gS l);obtain⟨p,O⟩:=aa (dL rs);rw[X,O] at r;simp only[X] at s;simp only[O] at u;dsimp only at r;obtain⟨n,Z⟩:=aa (ln rs.flatten);rw[Z] at r Q;simp only[Z] at u;have M:=A (λ(W:U) (h:Ext w W) (B:Nat) (g:Option Ym) (j:Nat) (hb:Bx W B 102 (V g n j))=>
  At W v C (ln l) (aV l) (by rw[XP]) (HL.o W h) (lU l) (λi=> !J (l.getD i fm).side 0 ((n:Int)-1)) 124 #[YA (L ⟨B,0,I⟩)] (enters_of func124 R rfl) (Qs l W B g n j Q hb))
 have N:cK (λi=> !J (l.getD i fm).side 0 ((n:Int)-1)) (ln l)=l.any (λo=> !J o.side 0 ((n:Int)-1)):=wR l fm (λo=> !J o.side 0 ((n:Int)-1));obtain⟨x,hx⟩:=aa (l.any (λo=> !J o.side 0 ((n:Int)-1)));rw[hx] at r N;simp only[N] at M;clear hr D hm ht hs X O Z N hx;by_cases t:c=0
 ·have E:=A (show lH rs l=if p≠0 then 1 else if x then 2 else if d then 0 else 28 by rw[r.o,XQ (λh=>h t)]);subst t;by_cases z:p=0
  ·have H:=A (show lH rs l=if x then 2 else if d then 0 else 28 by rw[E.o,XQ (λh=>h z)]);subst z;cases x
   ·cases d;all_goals
     go_enter func54,ntmps54;go_wp2_with(first
      |(go_at_call 121;refine(s.o _ m.o).mono ?_;rintro e W1 ⟨rfl,a⟩;have q1:=(R0.o.stays (a.stays (n0:=0) (Nat.zero_le _))).cell;have b:=A (Ext.tr m.o a);clear a)
      |(go_at_call 122;refine(u.o _ b.o).mono ?_;rintro e K ⟨g,q,j,x',rfl,lL,qQ,f⟩;obtain⟨rfl,rfl,_⟩:=lL trivial;have k:=A ((Ext.tr b.o f).alloc (Ext.tr b.o f).size (.cells #[V g q j] 102));have T:=A (Bx.new K 102 (V g q j));clear f lL qQ)
      |(go_at_call 123;refine(M.o _ k.o _ _ _ T.o).mono ?_;rintro e W3 ⟨rfl,P⟩))
     go_ret;exact⟨by rw[H.o];rfl,Ext.tr k.o P⟩
   ·go_enter func54,ntmps54;go_wp2_with(first
     |(go_at_call 121;refine(s.o _ m.o).mono ?_;rintro e W1 ⟨rfl,a⟩;have q1:=(R0.o.stays (a.stays (n0:=0) (Nat.zero_le _))).cell;have b:=A (Ext.tr m.o a);clear a)
     |(go_at_call 122;refine(u.o _ b.o).mono ?_;rintro e K ⟨g,q,j,x',rfl,lL,qQ,f⟩;obtain⟨rfl,rfl,_⟩:=lL trivial;have k:=A ((Ext.tr b.o f).alloc (Ext.tr b.o f).size (.cells #[V g q j] 102));have T:=A (Bx.new K 102 (V g q j));clear f lL qQ)
     |(go_at_call 123;refine(M.o _ k.o _ _ _ T.o).mono ?_;rintro e W3 ⟨rfl,P⟩))
    go_ret;exact⟨by rw[H.o];rfl,Ext.tr k.o P⟩
  ·have H:=A (show lH rs l=1 by rw[E.o,XT z]);have ab:=A z;clear z;go_enter func54,ntmps54;go_wp2_with(first
    |(go_at_call 121;refine(s.o _ m.o).mono ?_;rintro e W1 ⟨rfl,a⟩;have q1:=(R0.o.stays (a.stays (n0:=0) (Nat.zero_le _))).cell;have b:=A (Ext.tr m.o a);clear a)
    |(go_at_call 122;refine(u.o _ b.o).mono ?_;rintro e K ⟨g,q,j,x',rfl,lL,qQ,f⟩;obtain rfl:=qQ ab.o;have k:=A (Ext.tr b.o f);clear f lL qQ))
   go_ret;exact⟨by rw[H.o];rfl,k.o.alloc k.o.size _⟩
 ·have E:=A (show lH rs l=c by rw[r.o,XT t]);have tc:(c !=0)=Y:=by rw[Yn];exact t
  clear t;go_enter func54,ntmps54;go_wp2_with(go_at_call 121;refine(s.o _ m.o).mono ?_;rintro e W1 ⟨rfl,a⟩)
  go_ret;exact⟨by rw[E.o];rfl,Ext.tr m.o a⟩
end
section
open Kp
abbrev MK(x:Ld):List Z:=[G F x.kind,G F x.side,Yy (tx x.weight)]
abbrev bG(l:List Ld):List (List Z):=l.map MK
theorem LA{l:List Ld}(hi:i<ln l):(bG l).getD i []=MK (l.getD i pO):=by
 exact a1l
def nN(l:List Ld):dv 3 (bG l):=bQ (f:=MK) (λ_=>rfl) l
def T3(a:List UInt8):Nat:=match eU a with|none=>0|some (n,d)=>max (own n).length (ln d)
noncomputable def BM(a:List UInt8):Int:=if aC a≠0 then aC a else if 20<T3 a then 4 else if Lib.hasPrefix a [45] then 2 else 0
noncomputable def lT(l:List Ld)(i:Nat):Int:=
 if(l.getD i pO).kind<1\/3<(l.getD i pO).kind then 8 else if(l.getD i pO).side< -1\/24<=(l.getD i pO).side then 2 else BM (l.getD i pO).weight
noncomputable def fh(l:List Ld):Int:=if 64<ln l then 4 else bn (lT l) (ln l)
def wy(s:List UInt8)(w:U):XY Xz 199 #[Yy (tx s),Yy ⟨#[45]⟩] w λe w'=>e=YC (Yz (Lib.hasPrefix s [45]))/\w'=w:=by
 have:=strings_HasPrefix (tx s) (tx [45]) w;rw[bH,bH] at this;exact this
def E7(a:List UInt8)(w:U)(B:ln a<=300000)(i:jE w)(k:bE w)(b:aC a=0):XY Xz 198 #[Yy (tx a)] w λe w'=>e=YC (G F (T3 a:Int))/\Ext w w':=by
 have l:=A (uZ a w B i k);rw[b] at l;obtain⟨n,d,f⟩:∃n d,eU a=L (n,d):=by
  unfold aC at b;cases E:eU a with
  |none=>rw[E] at b;cases b
  |some p=>exact⟨p.1,p.2,H⟩
 have j:=A (show T3 a=max (own n).length (ln d) by unfold T3;rw[f]);have t:=A f;have I:=rD f;have C:=nl n;clear i k b f;obtain⟨o,g⟩:=aa (own n);rw[g] at j C;have v:=A g;clear g;go_enter func198,ntmps198;go_wp2_with(first
  |(go_at_call 247;refine l.o.mono ?_;rintro e W1 ⟨x,y,rfl,s,q⟩;obtain⟨z,r,c,rfl,rfl⟩:=s H;rw[t.o] at c;obtain⟨rfl,rfl⟩:n=z/\d=r:=by{injection c with c;injection c with u m;exact⟨u,m⟩})
  |(go_at_call 248;refine(eG _ _).mono ?_;rintro e J ⟨rfl,rfl⟩;rw[v.o]))
 go_ret;exact⟨by rw[j.o];exact Ae D,q⟩
def C8(a:List UInt8)(w:U)(x:ln a<=300000)(k:jE w)(l:bE w):XY Xz 127 #[Yy (tx a)] w λe w'=>e=YC (G F (BM a))/\Ext w w':=by
 have j:=A (qK a w x k l);have u:=A (λW=>wy a W);by_cases d:aC a=0
 ·have s:=A (λ(W:U) (h:Ext w W)=>E7 a W x (k.below h (XE _)) (l.below h (XE _)) d);have i:=A (show BM a=if 20<T3 a then 4 else if Lib.hasPrefix a [45] then 2 else 0 by unfold BM;rw[XQ (λh=>h d)]);rw[d] at j;clear k l d;obtain⟨n,o⟩:=aa (T3 a);rw[o] at i;simp only[o] at s;obtain⟨b,m⟩:=aa (Lib.hasPrefix a [45]);rw[m] at i;simp only[m] at u;clear o m;by_cases q:20<n
  ·have f:=A (show BM a=4 by rw[i.o,XT q]);have t:YG (20<(n:Int))=Y:=Zo;go_enter func127,ntmps127;go_wp2_with(first
    |(go_at_call 171;refine j.o.mono ?_;rintro e W1 ⟨rfl,g⟩)
    |(go_at_call 198;refine(s.o _ g).mono ?_;rintro e y ⟨rfl,r⟩))
   go_ret;exact⟨Zf,Ext.tr g r⟩
  ·have t:YG (20<(n:Int))=O:=YU;cases b
   ·have f:=A (show BM a=0 by rw[i.o,XQ q];rfl);exact a1J
   ·have f:=A (show BM a=2 by rw[i.o,XQ q];rfl);exact a1J
 ·have f:=A (show BM a=aC a by unfold BM;rw[XT d]);obtain⟨c,v⟩:=aa (aC a);rw[v] at j f d;have t:(c !=0)=Y:=by rw[Yn];exact d
  clear k l d v;go_enter func127,ntmps127;go_wp2_with(go_at_call 171;refine j.o.mono ?_;rintro e W1 ⟨rfl,g⟩)
  go_ret;exact⟨Zf,g⟩
def Xn(w:U)(l:List Ld)(i:Z)(wr:U):Prop:=∃k:Nat,k<=ln l/\i=G F (k:Int)/\Ext w wr/\∀j,j<k->lT l j=0
def Fx(w:U)(S:Option Ym)(y:Nat)(l:List Ld)(hl:bR 3 w w.heap.size S y (bG l))(N:∀x∈l,ln x.weight<=300000)(Q:jE w)(M:bE w):
  XY Xz 60 #[V S (ln l) y] w λe w'=>e=YC (G F (fh l))/\Ext w w':=by
 obtain⟨h1,h2,v⟩:=hl;rw[XP] at h1 v;unfold Yk at h2;by_cases X:64<ln l
 ·have HR:=A (show fh l=4 by unfold fh;rw[XT X]);clear v N Q M;go_enter func60,ntmps60;go_wp2;go_ret;exact⟨YQ,Ext.ah _⟩
 have HR:=A (show fh l=bn (lT l) (ln l) by unfold fh;rw[XQ X]);have H3:=A v;have HS:=A N;have HM:=A Q;have HT:=A M;clear v N Q M;go_enter func60,ntmps60;go_wp2;go_loopw [11] (λi wr=>Xn w l i wr) (λi _=>((ln l:Int)-Yf i).toNat)
 case atStart=>exact⟨0,D,rfl,XI _ _,λj C=>D⟩
 case round=>
  obtain⟨k,hk,rfl,hX,Z⟩:=hrel;have a:=A hX;have P:=A Z;clear hX Z;by_cases d:k<ln l
  ·obtain⟨b,off,rfl,W,ab⟩:=H3.o D;have ae:b<wr.heap.size:=Nat.lt_of_lt_of_le W a.o.size;have E:=A (λi hi j C=>(a.o.cell (p:=⟨b,off+3*i+j,I⟩) W).trans (ab i hi j C));have T:=E.o k d 0 YK;have c1:=E.o k d 1 YK;have c2:=E.o k d 2 YK;rw[LA d,Yd] at T c1 c2;rw[Nat.add_zero] at T;have n:=A (show lT l k=if(l.getD k pO).kind<1\/3<(l.getD k pO).kind then 8 else if(l.getD k pO).side< -1\/24<=(l.getD k pO).side then 2 else BM (l.getD k pO).weight from rfl);have m:=HS.o (l.getD k pO) (by rw[XJ,XO d];exact List.getElem_mem d);obtain⟨⟨f,sd,H⟩,hx⟩:=aa (l.getD k pO);rw[hx] at T c1 c2 n m;dsimp only at n m;clear hx ab E;have q:=A (λo=>(a.o.alloc a.o.size o:Ext w (wr.alloc o)));have HG:=A (λ(h:lT l k=0)=>(show∀j,j<k+1->lT l j=0 fromλj C=>by
    by_cases ac:j=k
    ·rw[ac];exact h
    ·exact P.o j D))
   have r:=A (λ(c:Int) (h:lT l k=c) (h0:c≠0)=>(show fh l=c by rw[HR.o,bM d P.o (by rw[h];exact h0),h]));by_cases B:f<1
   ·exact a1I
   have d1:YG (f<1)=O:=by rw[XL];exact B
   by_cases u:3<f
   ·have d2:YG (3<f)=Y:=by rw[XX];exact u
    exact a1H
   have d2:YG (3<f)=O:=by rw[XL];exact u
   by_cases z:sd< -1
   ·have d3:YG (sd< -1)=Y:=by rw[XX];exact z
    exact a1G
   have d3:YG (sd< -1)=O:=by rw[XL];exact z
   by_cases t:24<=sd
   ·have d4:YG (24<=sd)=Y:=by rw[XX];exact t
    exact a1F
   have d4:YG (24<=sd)=O:=by rw[XL];exact t
   have K:=A (show lT l k=BM H by rw[n.o,XQ D,XQ D]);have L:=A (λ(o:Obj)=>C8 H (wr.alloc o) m (HM.o.below (q.o o) (XE _)) (HT.o.below (q.o o) (XE _)));obtain⟨c,J⟩:=aa (BM H);rw[J] at K;simp only[J] at L;clear J m;by_cases s:c=0
   ·have HZ:=A (HG.o (by rw[K.o,s]));subst s;go_wp2_with(go_at_call 127;refine(L.o _).mono ?_;rintro e W2 ⟨rfl,R⟩)
    exact⟨⟨k+1,D,YL,Ext.tr (q.o _) R,HZ.o⟩,YO⟩
   ·have g:=A (r.o c K.o s);have tc:(c !=0)=Y:=by rw[Yn];exact s
    go_wp2_with(go_at_call 127;refine(L.o _).mono ?_;rintro e W2 ⟨rfl,R⟩)
    go_ret;exact⟨Y6,Ext.tr (q.o _) R⟩
  ·have ad:YG ((k:Int)<(ln l:Int))=O:=YU;have g:=A (show fh l=0 by rw[HR.o,bh (λj C=>P.o j D)]);exact a1E
end
section
open Kp
structure bO where
 name:List UInt8
 rings:List (List Sd)
 origin:Int
 spacing:Int
 purlins:List Int
 openings:List nc
 sizes:List Sz
 bars:List Br
 kerf:Int
 tile:Tl
 aq:List Ld
 spans:List Aw
structure cO where
 pa:Option Ym
 pc:Nat
 ua:Option Ym
 uc:Nat
 oa:Option Ym
 oc:Nat
 za:Option Ym
 zc:Nat
 ba:Option Ym
 bc:Nat
 la:Option Ym
 lc:Nat
 sa:Option Ym
 sc:Nat
def aM(j:bO)(a:cO):Array Z:=#[Yy (tx j.name),V a.pa (ln j.rings) a.pc,G F j.origin,G F j.spacing,V a.ua (ln j.purlins) a.uc,V a.oa (ln j.openings) a.oc,V a.za (ln j.sizes) a.zc,V a.ba (ln j.bars) a.bc,G F j.kerf,G F j.tile.width,G F j.tile.length,G F j.tile.lap,G F j.tile.tail,V a.la (ln j.aq) a.lc,V a.sa (ln j.spans) a.sc]
def bJ(j:bO)(a:cO):(aM j a).size=15:=rfl
def gE(j:bO)(a:cO):(aM j a)[0]?=L (Yy (tx j.name)):=rfl
def fX(j:bO)(a:cO):(aM j a)[1]?=L (V a.pa (ln j.rings) a.pc):=rfl
def gA(j:bO)(a:cO):(aM j a)[2]?=L (G F j.origin):=rfl
def gC(j:bO)(a:cO):(aM j a)[3]?=L (G F j.spacing):=rfl
def fN(j:bO)(a:cO):(aM j a)[4]?=L (V a.ua (ln j.purlins) a.uc):=rfl
def fG(j:bO)(a:cO):(aM j a)[5]?=L (V a.oa (ln j.openings) a.oc):=rfl
def fU(j:bO)(a:cO):(aM j a)[6]?=L (V a.za (ln j.sizes) a.zc):=rfl
def fI(j:bO)(a:cO):(aM j a)[7]?=L (V a.ba (ln j.bars) a.bc):=rfl
def gD(j:bO)(a:cO):(aM j a)[8]?=L (G F j.kerf):=rfl
def gy(j:bO)(a:cO):(aM j a)[9]?=L (G F j.tile.width):=rfl
def dQ(j:bO)(a:cO):(aM j a)[10]?=L (G F j.tile.length):=rfl
def dO(j:bO)(a:cO):(aM j a)[11]?=L (G F j.tile.lap):=rfl
def dR(j:bO)(a:cO):(aM j a)[12]?=L (G F j.tile.tail):=rfl
def dn(j:bO)(a:cO):(aM j a)[13]?=L (V a.la (ln j.aq) a.lc):=rfl
def dq(j:bO)(a:cO):(aM j a)[14]?=L (V a.sa (ln j.spans) a.sc):=rfl
attribute [local go_sem] bJ gE fX gA gC fN fG fU fI gD gy dQ dO dR dn dq
def JC(w:U)(c:Nat)(j:bO)(a:cO):Prop:=w.heap[c]?=L (.cells (aM j a) 34 (0,0))
theorem JC.ext{j:bO}{a:cO}(h:JC w c j a)(hx:Ext w w'):JC w' c j a:=(hx.block c (XV.1 h).1).trans h
theorem JC.lt{j:bO}{a:cO}(h:JC w c j a):c<w.heap.size:=(XV.1 h).1
theorem JC.cell{j:bO}{a:cO}(h:JC w c j a)(i:Nat):w.cell? ⟨c,i,I⟩=(aM j a)[i]?:=by unfold JC at h;simp[World.cell?,h]
theorem JC.frozen{j:bO}{a:cO}(h:JC w c j a)(i:Nat):w.frozen? ⟨c,i,I⟩=O:=by unfold JC at h;simp[World.frozen?,h]
structure fW(w:U)(B:Nat)(j:bO)(a:cO):Prop where
 p:gw w B a.pa a.pc j.rings
 u:bR 1 w B a.ua a.uc (aU j.purlins)
 o:bR 5 w B a.oa a.oc (aV j.openings)
 z:bR 3 w B a.za a.zc (bf j.sizes)
 b:iT w B a.ba a.bc j.bars
 l:bR 3 w B a.la a.lc (bG j.aq)
 s:bR 5 w B a.sa a.sc (aO j.spans)
theorem fW.below{B:Nat}{j:bO}{a:cO}(h:fW w B j a)(b:Yl B w w'):fW w' B j a:=
 ⟨h.p.below b,h.u.below b,h.o.below b,h.z.below b,h.b.below b,h.l.below b,h.s.below b⟩
theorem fW.more{B B':Nat}{j:bO}{a:cO}(h:fW w B j a)(b:B<=B'):fW w B' j a:=
 ⟨h.p.more b,h.u.more b,h.o.more b,h.z.more b,h.b.more b,h.l.more b,h.s.more b⟩
theorem fW.grow{j:bO}{a:cO}(h:fW w w.heap.size j a)(hx:Ext w w'):fW w' w'.heap.size j a:=(h.below hx).more hx.size
structure sB(j:bO):Prop where
 name:ln j.name<=1000000
 rings:ln j.rings.flatten<=4000000000
 ops:ln j.openings<=32->∀o∈j.openings,BJ o
 aq:∀x∈j.aq,ln x.weight<=300000
noncomputable def kU(j:bO):Int:=
 if kH j.name=O then 13 else if dL j.rings≠0 then dL j.rings else if J j.origin 0 65536=O then 2 else if J j.spacing 1 65536=O then 2
 else if iv j.purlins≠0 then iv j.purlins else if lH j.rings j.openings≠0 then lH j.rings j.openings else if fE j.sizes≠0 then fE j.sizes else if ju j.bars≠0 then ju j.bars
 else if J j.kerf 0 100=O then 2 else if eD j.tile≠0 then eD j.tile else if fh j.aq≠0 then fh j.aq else eE j.spans
def EH(b W:U)(c:Nat)(j:bO)(a:cO)(d:JC W c j a)(f:fW b b.heap.size j a)(m:sB j)(l:jE b)(k:bE b)(hx:Ext b W):
  XY Xz 51 #[YA (L ⟨c,0,I⟩)] W λe w'=>e=YC (G F (iv j.purlins))/\Ext W w':=by
 have h:=A (BE W a.ua a.uc j.purlins (f.grow hx).u);have q:=λi=>d.cell i
 have n:=d.lt;obtain⟨x,g⟩:=aa (iv j.purlins);rw[g] at h⊢;clear d f m l k hx g;go_enter func51,ntmps51;go_wp2_with(go_at_call 52;refine h.o.mono ?_;rintro e W1 ⟨rfl,o⟩)
 go_ret;exact⟨H,Ext.ah _⟩
def De(b W:U)(c:Nat)(j:bO)(a:cO)(d:JC W c j a)(g:fW b b.heap.size j a)(f:sB j)(k:jE b)(h:bE b)(hx:Ext b W):
  XY Xz 53 #[YA (L ⟨c,0,I⟩)] W λe w'=>e=YC (G F (lH j.rings j.openings))/\Ext W w':=by
 have m:=A (xB W a.pa a.pc j.rings a.oa a.oc j.openings (g.grow hx).p f.rings (g.grow hx).o f.ops (k.below hx (XE _)) (h.below hx (XE _)));have q:=λi=>d.cell i
 have o:=d.lt;obtain⟨x,l⟩:=aa (lH j.rings j.openings);rw[l] at m⊢;clear d g f k h hx l;go_enter func53,ntmps53;go_wp2_with(go_at_call 54;refine m.o.mono ?_;rintro e W1 ⟨rfl,n⟩)
 go_ret;exact⟨H,n⟩
def CH(b W:U)(c:Nat)(j:bO)(a:cO)(d:JC W c j a)(f:fW b b.heap.size j a)(n:sB j)(l:jE b)(k:bE b)(hx:Ext b W):
  XY Xz 55 #[YA (L ⟨c,0,I⟩)] W λe w'=>e=YC (G F (fE j.sizes))/\Ext W w':=by
 have h:=A (GL W a.za a.zc j.sizes (f.grow hx).z);have q:=λi=>d.cell i
 have o:=d.lt;obtain⟨x,g⟩:=aa (fE j.sizes);rw[g] at h⊢;clear d f n l k hx g;go_enter func55,ntmps55;go_wp2_with(go_at_call 56;refine h.o.mono ?_;rintro e W1 ⟨rfl,m⟩)
 go_ret;exact⟨H,m⟩
def Cz(b W:U)(c:Nat)(j:bO)(a:cO)(d:JC W c j a)(f:fW b b.heap.size j a)(n:sB j)(l:jE b)(k:bE b)(hx:Ext b W):
  XY Xz 57 #[YA (L ⟨c,0,I⟩)] W λe w'=>e=YC (G F (ju j.bars))/\Ext W w':=by
 have h:=A (ER W a.ba a.bc j.bars (f.grow hx).b);have q:=λi=>d.cell i
 have o:=d.lt;obtain⟨x,g⟩:=aa (ju j.bars);rw[g] at h⊢;clear d f n l k hx g;go_enter func57,ntmps57;go_wp2_with(go_at_call 58;refine h.o.mono ?_;rintro e W1 ⟨rfl,m⟩)
 go_ret;exact⟨H,m⟩
def xm (w : U) (j : bO) (a : cO) (hb : fW w w.heap.size j a) (k : sB j) (hm : jE w) (X : bE w) :
    XY Xz 20 #[YE (aM j a)] w λe w' => e =YC (G F (kU j)) /\ Ext w w' := by
  have s := A (show Ext w (w.alloc (.cells (aM j a) 34)) from (XI _ _).alloc (XE _) _);have V := A (show JC (w.alloc (.cells (aM j a) 34)) w.heap.size j a from XZ w _);obtain ⟨f, K⟩ : ∃ f, w.alloc (.cells (aM j a) 34) = f := ⟨_, H⟩;rw [K] at s V;have T := A K;clear K;have m := hb.grow s.o;have o := hm.below s.o (XE _);have n := X.below s.o (XE _);have KN := A (λW => qy j.name W k.name);have Z := A (wV f a.pa a.pc j.rings m.p k.rings);have l := A (λ(W : U) (h : Ext f W) => V.o.ext h);have aa := A (λ(W : U) (h : Ext f W) => EH f W w.heap.size j a (l.o W h) m k o n h);have ab := A (λ(W : U) (h : Ext f W) => De f W w.heap.size j a (l.o W h) m k o n h);have Y := A (λ(W : U) (h : Ext f W) => CH f W w.heap.size j a (l.o W h) m k o n h);have ac := A (λ(W : U) (h : Ext f W) => Cz f W w.heap.size j a (l.o W h) m k o n h);have KT := A (λW => F1 j.tile W);have KL := A (λ(W : U) (h : Ext f W) => Fx W a.la a.lc j.aq (m.grow h).l k.aq (o.below h (XE _)) (n.below h (XE _)));have KS := A (λ(W : U) (h : Ext f W) => DZ W a.sa a.sc j.spans (m.grow h).s);have g1 := enters_of func51 R H;have g2 := enters_of func53 R H;have g3 := enters_of func55 R H;have g4 := enters_of func57 R H;have B := A (show kU j = if kH j.name = O then 13 else if dL j.rings ≠ 0 then dL j.rings else if J j.origin 0 65536 = O then 2 else if J j.spacing 1 65536 = O then 2
    else if iv j.purlins ≠ 0 then iv j.purlins else if lH j.rings j.openings ≠ 0 then lH j.rings j.openings else if fE j.sizes ≠ 0 then fE j.sizes else if ju j.bars ≠ 0 then ju j.bars
    else if J j.kerf 0 100 = O then 2 else if eD j.tile ≠ 0 then eD j.tile else if fh j.aq ≠ 0 then fh j.aq else eE j.spans from rfl)
  clear hb k hm X m o n;obtain ⟨nm, h1⟩ : ∃ x, kH j.name = x := ⟨_, H⟩;obtain ⟨pe, h2⟩ : ∃ x, dL j.rings = x := ⟨_, H⟩;obtain ⟨b2, t2⟩ : ∃ x, J j.origin 0 65536 = x := ⟨_, H⟩;obtain ⟨b3, Q⟩ : ∃ x, J j.spacing 1 65536 = x := ⟨_, H⟩;obtain ⟨e1, y⟩ : ∃ x, iv j.purlins = x := ⟨_, H⟩;obtain ⟨e2, v⟩ : ∃ x, lH j.rings j.openings = x := ⟨_, H⟩;obtain ⟨e3, P⟩ : ∃ x, fE j.sizes = x := ⟨_, H⟩;obtain ⟨e4, E⟩ : ∃ x, ju j.bars = x := ⟨_, H⟩;obtain ⟨b8, S⟩ : ∃ x, J j.kerf 0 100 = x := ⟨_, H⟩;obtain ⟨te, M⟩ : ∃ x, eD j.tile = x := ⟨_, H⟩;obtain ⟨le, N⟩ : ∃ x, fh j.aq = x := ⟨_, H⟩;obtain ⟨se, C⟩ : ∃ x, eE j.spans = x := ⟨_, H⟩;rw [h1, h2, t2, Q, y, v, P, E, S, M, N, C] at B;simp only [h1] at KN;rw [h2] at Z;simp only [y] at aa;simp only [v] at ab;simp only [P] at Y;simp only [E] at ac;simp only [M] at KT;simp only [N] at KL;simp only [C] at KS;clear h1 h2 y v P E M N C;have u := B.o;clear B;cases nm
  case' true => by_cases d : pe = 0
  case' pos => subst d; cases b2
  case' true => cases b3
  case' true => by_cases d : e1 = 0
  case' pos => subst d; by_cases d : e2 = 0
  case' pos => subst d; by_cases d : e3 = 0
  case' pos => subst d; by_cases d : e4 = 0
  case' pos => subst d; cases b8
  case' true => by_cases d : te = 0
  case' pos => subst d; by_cases d : le = 0
  case' pos => subst d
  all_goals
    first | have tp := Yn.2 d | skip
    first | simp only [d, ne_eq, not_true_eq_false, not_false_eq_true, Yr, Yu, Bool.true_eq_false] at u | simp only [ne_eq, not_true_eq_false, Yr, Yu, Bool.true_eq_false] at u
    have HE := A u;clear u;go_enter func20, ntmps20
  iterate 9 all_goals (first
      | (go_ret; exact ⟨by rw [HE.o] <;> rfl, by first | exact Ext.tr s.o b.o | (rw [T.o]; exact s.o)⟩)
      | (first | rw [rounds_succ] | (refine wp_loop_rounds 6 ?_; rw [rounds_succ]) | skip
         go_wp2_with (first
          | ((first | (go_at_call 53; refine (ab.o _ b.o).mono ?_) | (go_at_call 55; refine (Y.o _ b.o).mono ?_) | (go_at_call 57; refine (ac.o _ b.o).mono ?_)); rintro e t ⟨rfl, c⟩; have r := λi => (g.o.ext c).cell i; have q := λi => (l.o t (Ext.tr b.o c)).cell i; have z := (g.o.ext c).lt; have g := A (g.o.ext c); have b := A (Ext.tr b.o c); clear c)
          | ((first | (go_at_call 60; refine (KL.o _ b.o).mono ?_) | (go_at_call 61; refine (KS.o _ b.o).mono ?_) | (go_at_call 59; refine (KT.o _).mono ?_)); rintro e t ⟨rfl, c⟩; have q := λi => (l.o t (Ext.tr b.o c)).cell i; have b := A (Ext.tr b.o c); clear c)
          | (go_at_call 51; refine (aa.o _ (b.o.alloc b.o.size _)).mono ?_; rintro e t ⟨rfl, c⟩; have r := λi => (g.o.ext c).cell i; have q := λi => (l.o t (Ext.tr (b.o.alloc b.o.size _) c)).cell i; have z := (g.o.ext c).lt; have g := A (g.o.ext c); have b := A (Ext.tr (b.o.alloc b.o.size _) c); clear c)
          | (go_at_call 50; refine (iQ _ _ _ _).mono ?_; rintro e W9 ⟨rfl, rfl⟩; first | rw [t2] | rw [Q] | rw [S] | skip)
          | (go_at_call 49; rw [T.o]; refine Z.o.mono ?_; rintro e W1 ⟨rfl, D⟩; have q1 := λi => (l.o W1 D).cell i; have b := A (Ext.tr (Ext.ah f) D); have g := A (ai.new W1 112 [.func (.func 51) #[] #[YA (L ⟨w.heap.size, 0, I⟩)], .func (.func 53) #[] #[YA (L ⟨w.heap.size, 0, I⟩)], .func (.func 55) #[] #[YA (L ⟨w.heap.size, 0, I⟩)], .func (.func 57) #[] #[YA (L ⟨w.heap.size, 0, I⟩)]]); clear D)
          | (go_at_call 27; refine (KN.o _).mono ?_; rintro e W9 ⟨rfl, rfl⟩))))
end
section
open Kp
attribute [local go_sem] bJ gE fX gA gC fN fG fU fI gD gy dQ dO dR dn dq
attribute [local go_sem] aF dG eV gJ il gL gK gM gN gW gZ en ef eh dZ dk eL eP dW dX dU dV eo dt eH eI dY eO eR eK eB eM ff eY fe eZ dd dP
structure ew(c:Nat)(w w':U):Prop where
 below:Yl c w w'
 others:∀b,b<w.heap.size->b≠c->w'.heap[b]?=w.heap[b]?
theorem ew.ext(h:Ext w W)(a:c<w.heap.size):ew c w W:=⟨h.mono (Nat.le_of_lt a),λb d _=>h.block b d⟩
theorem ew.put(h:ew c w W)(i:Nat)(v:Z):ew c w (W.setCell ⟨c,i,I⟩ v):=
 ⟨h.below.setCell (XE _) v,λb d a=>(Below.heap_setCell _ _ _ _ a).trans (h.others b d a)⟩
theorem ew.row(h:ew c w W)(cs:Array Z):ew c w (W.setRow c cs):=
 ⟨al h.below (XE _) cs,λb d a=>(by
  have:(W.setRow c cs).heap[b]?=W.heap[b]?:=by simp only[World.setRow,Array.getElem?_modify];rw[XQ (Ne.symm a)]
  exact this.trans (h.others b d a))⟩
theorem ew.alloc(h:ew c w W)(d:c<=W.heap.size)(o:Obj):ew c w (W.alloc o):=
 ⟨h.below.alloc d o,λb a e=>(Below.heap_alloc _ _ _ (Nat.lt_of_lt_of_le a h.below.size)).trans (h.others b a e)⟩
def yw(X:Nat->Prop)(c n:Nat)(w W:U):Prop:=w.heap.size<=W.heap.size/\∀b,b<w.heap.size->(b<c/\¬X b)\/n<=b->W.heap[b]?=w.heap[b]?
def yw.self(X:Nat->Prop)(c n:Nat)(w:U):yw X c n w w:=⟨XE _,λ_ _ _=>rfl⟩
def zI(X:Nat->Prop)(B:Nat)(w W:U):Prop:=w.heap.size<=W.heap.size/\∀b,b<B->¬X b->W.heap[b]?=w.heap[b]?
structure fP(X:Nat->Prop)(w:U)(B:Nat)(j:bO)(a:cO):Prop extends fW w B j a where
 av:∀W,zI X B w W->fW W W.heap.size j a
theorem zI.below{X:Nat->Prop}{B:Nat}(h:zI X B w' W)(a:Yl B w w'):zI X B w W:=⟨Ye a.size h.1,λb h1 h2=>(h.2 b h1 h2).trans (a.block b h1)⟩
theorem zI.less{X:Nat->Prop}{B B':Nat}(h:zI X B' w W)(a:B<=B'):zI X B w W:=⟨h.1,λb h1 h2=>h.2 b (Nat.lt_of_lt_of_le h1 a) h2⟩
theorem fP.below{X:Nat->Prop}{B:Nat}{j:bO}{a:cO}(h:fP X w B j a)(b:Yl B w w'):fP X w' B j a:=⟨h.tofW.below b,λW c=>h.av W (c.below b)⟩
theorem fP.more{X:Nat->Prop}{B B':Nat}{j:bO}{a:cO}(h:fP X w B j a)(b:B<=B'):fP X w B' j a:=⟨h.tofW.more b,λW c=>h.av W (c.less b)⟩
theorem fP.grow{X:Nat->Prop}{j:bO}{a:cO}(h:fP X w w.heap.size j a)(hx:Ext w w'):fP X w' w'.heap.size j a:=(h.below hx).more hx.size
theorem fP.mono{X d:Nat->Prop}{B:Nat}{j:bO}{a:cO}(h:fP X w B j a)(hy:∀b,b<B->d b->X b):fP d w B j a:=⟨h.tofW,λW c=>h.av W ⟨c.1,λb h1 h2=>c.2 b h1 (λq=>h2 (hy b h1 q))⟩⟩
theorem fW.off{B:Nat}{j:bO}{a:cO}(h:fW w B j a)(d:w.heap.size<=W.heap.size)(c:∀b,b<B->W.heap[b]?=w.heap[b]?):fW W B j a:=by
 have q:fW {w with heap:=W.heap} B j a:=h.below ⟨H,H,H,d,c⟩;exact⟨q.p,q.u,q.o,q.z,q.b,q.l,q.s⟩
theorem fW.v{B:Nat}{j:bO}{a:cO}(h:fW w B j a)(f:B<=w.heap.size){X:Nat->Prop}(e:∀b,b<B->¬X b):fP X w B j a:=
 ⟨h,λ_ c=>(h.off c.1 λb d=>c.2 b d (e b d)).more (Ye f c.1)⟩
theorem fP.to{X:Nat->Prop}{j:bO}{a:cO}(d:fP X w c j a)(f:c<w.heap.size)(h1:Yl c w w')(e:yw X c n w' W):fW W W.heap.size j a:=by
 have h2:=h1.size;have g:=e.1;exact d.av W ⟨D,λb d hx=>(e.2 b D (.inl ⟨d,hx⟩)).trans (h1.block b d)⟩
def kW(X:Nat->Prop)(c:Nat)(w w':U)(j':bO)(a':cO):Prop:=ew c w w'/\JC w' c j' a'/\∀W,yw X c w.heap.size w' W->fW W W.heap.size j' a'
theorem kW.at_{X:Nat->Prop}{j':bO}{a':cO}(h:kW X c w w' j' a'):fW w' w'.heap.size j' a':=h.2.2 w' (yw.self _ _ _ _)
theorem JC.put{j j':bO}{a a':cO}(h:JC w c j a)(x:Z)(e:(aM j a).setIfInBounds i x=aM j' a'):JC (w.setCell ⟨c,i,I⟩ x) c j' a':=by
 unfold JC at *;rw[<-e];simp[World.setCell,Array.getElem?_modify,h]
def RL(w:U)(c:Nat)(j:bO)(a:cO)(e:Ed)(g:Z)(b:JC w c j a){X:Nat->Prop}(f:fP X w c j a):
  XY Xz 64 #[YA (L ⟨c,0,I⟩),YE (P e g)] w λx w'=>x=YC (G F 0)/\kW X c w w' {j with name:=e.text} a:=by
 have i:=b.lt;have k:=EC.new w (P e g);have o:=k.cell 36;have d:=b.ext ((XI _ _).alloc (XE _) (.cells (P e g) 50));have q:=d.cell 0;have r:=d.frozen 0;have n:=A (show kW X c w ((w.setCell ⟨c,0,I⟩ (Yy (tx e.text))).alloc (.cells (P e g) 50)) {j with name:=e.text} a from by
  have h1:ew c w ((w.setCell ⟨c,0,I⟩ (Yy (tx e.text))).alloc (.cells (P e g) 50)):=((ew.ext (XI _ w) i).put 0 _).alloc YP _;have m:JC (w.setCell ⟨c,0,I⟩ (Yy (tx e.text))) c {j with name:=e.text} a:=b.put _ H;refine⟨h1,m.ext ((XI _ _).alloc (XE _) _),λW l=> ?_⟩;have h2:=f.to i h1.below l;exact⟨h2.p,h2.u,h2.o,h2.z,h2.b,h2.l,h2.s⟩)
 clear b f d;go_enter func64,ntmps64;go_wp2;go_ret;exact⟨H,n.o⟩
def Qh(w:U)(c:Nat)(j:bO)(a:cO)(e:Ed)(g:Z)(b:JC w c j a){X:Nat->Prop}(f:fP X w c j a):
  XY Xz 73 #[YA (L ⟨c,0,I⟩),YE (P e g)] w λx w'=>x=YC (G F 0)/\kW X c w w' {j with kerf:=e.number} a:=by
 have i:=b.lt;have k:=EC.new w (P e g);have o:=k.cell 35;have d:=b.ext ((XI _ _).alloc (XE _) (.cells (P e g) 50));have q:=d.cell 8;have r:=d.frozen 8;have n:=A (show kW X c w ((w.setCell ⟨c,8,I⟩ (G F e.number)).alloc (.cells (P e g) 50)) {j with kerf:=e.number} a from by
  have h1:ew c w ((w.setCell ⟨c,8,I⟩ (G F e.number)).alloc (.cells (P e g) 50)):=((ew.ext (XI _ w) i).put 8 _).alloc YP _;have m:JC (w.setCell ⟨c,8,I⟩ (G F e.number)) c {j with kerf:=e.number} a:=b.put _ H;refine⟨h1,m.ext ((XI _ _).alloc (XE _) _),λW l=> ?_⟩;have h2:=f.to i h1.below l;exact⟨h2.p,h2.u,h2.o,h2.z,h2.b,h2.l,h2.s⟩)
 clear b f d;go_enter func73,ntmps73;go_wp2;go_ret;exact⟨H,n.o⟩
def RU(w:U)(c:Nat)(j:bO)(a:cO)(e:Ed)(g:Z)(d:JC w c j a){X:Nat->Prop}(f:fP X w c j a):
  XY Xz 74 #[YA (L ⟨c,0,I⟩),YE (P e g)] w λx w'=>x=YC (G F 0)/\kW X c w w' {j with tile:=⟨e.twidth,e.tlength,e.tlap,e.ttail⟩} a:=by
 have i:=d.lt;have b:=EC.new w (P e g);have c1:=b.cell 31;have c2:=b.cell 32;have c3:=b.cell 33;have c4:=b.cell 34;have l:=d.ext ((XI _ _).alloc (XE _) (.cells (P e g) 50));have k:=A (show(w.alloc (.cells (P e g) 50)).heap[c]?=L (.cells (aM j a) 34 (0,0)) from l);have n:=A (show kW X c w ((w.alloc (.cells (P e g) 50)).setRow c (putAt (aM j a) 9 #[G F e.twidth,G F e.tlength,G F e.tlap,G F e.ttail])) {j with tile:=⟨e.twidth,e.tlength,e.tlap,e.ttail⟩} a from by
  have h1:ew c w ((w.alloc (.cells (P e g) 50)).setRow c (putAt (aM j a) 9 #[G F e.twidth,G F e.tlength,G F e.tlap,G F e.ttail])):=((ew.ext (XI _ w) i).alloc D _).row _;refine⟨h1,setRow_heap k.o _,λW m=> ?_⟩;have h2:=f.to i h1.below m;exact⟨h2.p,h2.u,h2.o,h2.z,h2.b,h2.l,h2.s⟩)
 clear d f l;go_enter func74,ntmps74;go_wp2_with(first
  |(refine bZ rfl 30 _ _ rfl c 9 _ rfl rfl 34 _ k.o R (Nat.le_of_ble_eq_true R) R ?_))
 go_ret;exact⟨H,n.o⟩
end
section
open Kp
def cM(n:Nat)(i:Int):Int:=if 0<=i/\i<=(n:Int) then 0 else 6
def bm{T:Type}(l:List T)(i:Int)(x:T):List T:=if i=(ln l:Int) then l++[x] else l.set i.toNat x
theorem MB{rows:List (List Z)}(a:dv k rows)(hx:ln x=k)(m:Nat):dv k (rows.set m x):=by
 intro r b;rcases List.mem_or_eq_of_mem_set b with h|h
 ·exact a r h
 ·subst h;exact hx
theorem sW{rows:List (List Z)}(a:dv k rows)(b:m<=ln rows):rows.flatten.take (m*k)=(rows.take m).flatten:=by
 have e:rows.flatten=(rows.take m).flatten++(rows.drop m).flatten:=ZU;have c:(rows.take m).flatten.length=m*k:=by
  exact a1S
 rw[e,List.take_left' c]
theorem kL{rows:List (List Z)}(a:dv k rows)(b:m<=ln rows):rows.flatten.drop (m*k)=(rows.drop m).flatten:=by
 have e:rows.flatten=(rows.take m).flatten++(rows.drop m).flatten:=ZU;have c:(rows.take m).flatten.length=m*k:=by
  exact a1S
 rw[e,List.drop_left' c]
theorem NY{rows:List (List Z)}(b:dv k rows)(a:m<ln rows)(x:List Z):
  (rows.set m x).flatten=rows.flatten.take (m*k)++x++rows.flatten.drop (m*k+k):=by
 rw[List.set_eq_take_append_cons_drop,XT a,List.flatten_append,List.flatten_cons,sW b (Nat.le_of_lt a),<-Nat.succ_mul,kL b a,List.append_assoc]
theorem jn{rows:List (List Z)}(q:base<=g)(r:w.heap[g]?=L (.cells cur e (0,0)))(h1:n<=y)(h2:y<=Yk)
  (f:cur.size=y*k)(t:cur.toList.take (n*k)=rows.flatten)(s:ln rows=n)(a:dv k rows)(hx:ln x=k)(c:m<n):
  (w.setRow g (putAt cur (m*k) x.toArray)).ownsRow base e k (V (L ⟨g,0,I⟩) n y) n (rows.set m x).flatten:=by
 subst s;have u:m*k+k<=ln rows*k:=by rw[<-Nat.succ_mul];exact Nat.mul_le_mul_right k c
 have v:ln rows*k<=y*k:=Nat.mul_le_mul_right k h1;have d:cur.toList=rows.flatten++cur.toList.drop (ln rows*k):=by rw[<-t,List.take_append_drop]
 have l:ln rows.flatten=ln rows*k:=bI a;have o:ln cur.toList=y*k:=by simp[f]
 refine⟨by rw[bI (MB a hx m),List.length_set],.inr ⟨g,y,_,rfl,q,setRow_heap r _,h1,h2,?_,?_⟩⟩
 ·unfold putAt;simp only[List.size_toArray,Yc,List.length_take,List.length_drop,o,hx];omega
 ·unfold putAt;rw[NY a c];simp only[Nat.add_zero];rw[hx];generalize cur.toList.drop (ln rows*k)=b at d;have i:(rows.flatten++b).take (m*k)=rows.flatten.take (m*k):=List.take_append_of_le_length D;have j:(rows.flatten++b).drop (m*k+k)=rows.flatten.drop (m*k+k)++b:=List.drop_append_of_le_length D;rw[d,i,j,<-List.append_assoc,List.take_left'];simp only[Yc,List.length_take,List.length_drop,hx,l];omega
end
section
open Kp
def Ru(S:Option Ym)(n y B k:Nat)(E:Yj)(rows:List (List Z))(x:List Z)(i:Nat)(v:Z)(W:U):Prop:=
 match i with
 |0=>v=V S n y
 |1=>W.ownsRow B E k v n rows.flatten
 |2=>v=YE x.toArray
 |_=>∃g,v=V (L ⟨g,0,I⟩) 1 1/\ai W g E x
theorem j1{v:Z}(h:w.ownsRow base e s v n Q)(b:0<n):
  ∃g y cur,v=V (L ⟨g,0,I⟩) n y/\base<=g/\w.heap[g]?=L (.cells cur e (0,0))/\n<=y/\y<=Yk/\cur.size=y*s/\cur.toList.take (n*s)=Q:=by
 obtain⟨_,⟨_,a⟩|⟨g,y,cur,h⟩⟩:=h
 ·omega
 ·exact⟨g,y,cur,h⟩
theorem ft{base c n s:Nat}{v:Z}(h:w.ownsRow base e s v n Q)(d:c<=base):w.ownsRow c e s v n Q:=by
 obtain⟨a,b|⟨g,y,cur,e,h1,h2⟩⟩:=h
 ·exact a06
 ·exact⟨a,.inr ⟨g,y,cur,e,Ye d h1,h2⟩⟩
theorem uS{n y B k:Nat}{rows:List (List Z)}{v:Z}{W a:U}(h:Ru S n y B k E rows x i v W)(hx:Ext W a):Ru S n y B k E rows x i v a:=by
 rcases(show i=0\/i=1\/i=2\/3<=i by omega) with rfl|rfl|rfl|hi
 ·exact h
 ·exact bD h hx
 ·exact h
 ·obtain⟨j,rfl⟩:∃j,i=j+3:=⟨i-3,D⟩;obtain⟨g,e,b⟩:=h;exact⟨g,e,b.ext hx⟩
def Ul(S:Option Ym)(n y:Nat)(i:Int)(X:Z)(g:Nat)(d:Nat->Z):Act:=⟨#[V S n y,G F i,X,M,M,YA (L ⟨g,0,I⟩),V I 0 0,G F 0,M,
 Yz O,G F i,Yz O,Yz O,G F i,V S n y,G F (n:Int),Yz O,Yz O,Yz Y,G F i,V S n y,G F (n:Int),
 Yz Y,d 0,d 1,d 2,d 3,M,M,M,M,M,M,M,M],[]⟩
def Bo(w:U)(x:List Z)(t:Yj):∃a,Hid (w.alloc (.cells x.toArray t)=a)/\Hid (Ext w a)/\Hid (ai a w.heap.size t x):=⟨_,A rfl,A ((XI _ _).alloc (XE _) _),A (ai.new w _ _)⟩
def rP{rows:List (List Z)}{i:Int}(x:List Z)(h:i=(ln rows:Int)):bm rows i x=rows++[x]:=XT h
theorem LY{rows:List (List Z)}(x:List Z)(h:¬(m:Int)=(ln rows:Int)):bm rows (m:Int) x=rows.set m x:=XQ h
theorem zM(h:p:=by
  obtain rfl:=c.o;rw[show cM (ln rows) i=6 from XQ hi];by_cases hi0:i<0
  ·have z:YG (i<0)=Y:=Yb hi0;clear hi hi0;go_wp2;go_ret2;exact⟨_,⟨_,_,_,H⟩,H,b.o⟩
  ·have z:YG (i<0)=O:=XU hi0;have N:YG (i>(ln rows:Int))=Y:=Yb D;clear hi hi0;go_wp2;go_ret2;exact⟨_,⟨_,_,_,H⟩,H,b.o⟩):p:=h
theorem Ni(b:m<n)(h1:n<=y)(a:s=y*k):m*k+k<=s:=by
 rw[a,<-Nat.succ_mul];exact Nat.mul_le_mul_right k D
theorem Bu(h:p:=by
  obtain rfl:=c.o;have C:(i==(ln rows:Int))=O:=XN.2 a;obtain⟨m,rfl⟩:∃m:Nat,i=(m:Int):=⟨i.toNat,D⟩;have hm:m<ln rows:=D;rw[LY _ a];have HW:=A f;clear hi a f;have H1:=A u;go_wp2_with(first
   |(refine bZ rfl _ _ _ rfl _ _ _ rfl rfl _ _ HH.o R HS.o (by simpa using H1.o) ?_)
   |(refine(x.o _ b.o).mono ?_;rintro e W1 ⟨v,rfl,ho,hX⟩;obtain⟨g,cp,cur,rfl,hb,hh,q1,q2,q3,q4⟩:=j1 ho D;have HH:=A hh;have HQ:=A q3;have HF:=A q4;have cR:=λi=>(B.o.ext hX).cell i;have HX:=A (b.o.tr hX);have HB:=A hb;have HS:=A (Ni hm q1 q3);clear ho hh q3 q4 hX hb))
  go_ret2;refine⟨_,⟨_,_,_,H⟩,H,?_,?_⟩
  ·exact jn (Ye b.o.size HB.o) HH.o q1 q2 HQ.o HF.o H HW.o H hm
  ·exact al HX.o (Ye b.o.size HB.o) _):p:=h
theorem uV(h:p:=by
  intro i d w' hi hD hd;unfold Ul;have cA:=λi=>(B.o.ext hD).cell i
  rcases(show i=0\/i=1\/i=2\/i=3 by omega) with rfl|rfl|rfl|rfl<;>clear hi<;>refine XR rfl (λK hK=> ?_)
  ·exact a1k
  ·have d0:=hd 0 R;simp only[Ru] at d0;have hE:=A (b.o.tr hD);go_simp;refine(x.o _ hE.o).mono ?_;rintro e W1 ⟨v,rfl,ho,hX⟩;exact hK _ _ ⟨v,by simp[d0],hX,ft ho hE.o.size,λh=>YM⟩
  ·exact a1k
  ·have d2:=hd 2 R;simp only[Ru] at d2;go_simp;exact hK _ _ ⟨_,by simp[d2],(XI _ _).alloc (XE _) _,⟨_,rfl,ai.new _ _ _⟩,λh=>YM⟩):p:=h
theorem ux(h:p:=by
  intro d w' hD hV _;have v1:=hV 1 D;obtain⟨g,v3,r3⟩:=hV 3 D;simp only[Ru] at v1;have HO:=A v1;have RG:=A r3;have HX:=A (b.o.tr hD);have hone:=A (List.all_eq_true.1 u);clear hV v1 r3 hD u;unfold Ul;simp only[v3,List.drop_succ_cons,List.drop_zero];refine wpList_append_own _ H _ _ _ H w.heap.size _ P _ _ _ E T.o J.o L.o Q.o H YK _ _ _ H HO.o ⟨g,0,I⟩ 1 1 _ H H (World.news_of_block (t:=_) (fr:=(0,0)) RG.o) hone.o YR D HX.o.size ?_;intro v' w1 hown hgrow hnil;go_wp2;go_ret2;exact⟨v',rX.of hown,H,by simpa using hown,fQ HX.o hgrow (λq hq=>(aH HO.o q hq).1)⟩):p:=h
def OE(w:U)(S:Option Ym)(y:Nat)(rows:List (List Z))(j r l n o:Z)(i:Int)(hr:bR 5 w w.heap.size S y rows)(f:dv 5 rows)(h1:jA rows)(u:[j,r,l,n,o].all (·.oneCell')=Y)(ac:ln rows<=1000000):
  XY Xz 69 #[V S (ln rows) y,G F i,YE #[j,r,l,n,o]] w λe w'=>∃v,rX v/\e=YC (YF #[v,G F (cM (ln rows) i)])/\(cM (ln rows) i=0->w'.ownsRow w.heap.size 39 5 v (bm rows i [j,r,l,n,o]).length (bm rows i [j,r,l,n,o]).flatten)/\Ext w w':=by
 obtain⟨X,c,b,B⟩:=Bo w [j,r,l,n,o] 39;have HR:=A hr;clear hr;go_enter func69,ntmps69;by_cases hi:0<=i/\i<=(ln rows:Int)
 case neg=>exact zM
 have z:YG (i<0)=O:=XU D;have N:YG (i>(ln rows:Int))=O:=XU D;rw[show cM (ln rows) i=0 from XT hi];have x:=A (λ(W:U) (h:Ext w W)=>Jf W S y rows ((HR.o.below h).more h.size) f h1 ac);by_cases a:i=(ln rows:Int)
 case neg=>exact Bu
 have C:(i==(ln rows:Int))=Y:=Yg.2 a;rw[rP _ a];obtain⟨P,hI,aa,ab,s⟩:=info_parts sA;have T:=A hI;have J:=A aa;have L:=A ab;have Q:=A s;have E:=underlying26;clear hI aa ab s hi a;go_wp2_with fail
 rw[c.o];refine wp_region_any R (cH 4 (Ul S (ln rows) y i (YE #[j,r,l,n,o]) w.heap.size) (λw'=>Ext X w') (Ru S (ln rows) y w.heap.size 5 39 rows [j,r,l,n,o]) (λ_=>O) R (λ_ _ h k=>h.tr k) (λi v _ _ h k=>uS h k) (λ_ _ _ _ h=>YM) ?_ ?_ (λ_=>M) _ (Ext.dr X))
 ·exact uV
 ·exact ux
def Pj(w:U)(S:Option Ym)(y:Nat)(rows:List (List Z))(j n l:Z)(i:Int)(hr:bR 3 w w.heap.size S y rows)(f:dv 3 rows)(h1:jA rows)(u:[j,n,l].all (·.oneCell')=Y)(aa:ln rows<=1000000):
  XY Xz 139 #[V S (ln rows) y,G F i,YE #[j,n,l]] w λe w'=>∃v,rX v/\e=YC (YF #[v,G F (cM (ln rows) i)])/\(cM (ln rows) i=0->w'.ownsRow w.heap.size 41 3 v (bm rows i [j,n,l]).length (bm rows i [j,n,l]).flatten)/\Ext w w':=by
 obtain⟨r,c,b,B⟩:=Bo w [j,n,l] 41;have HR:=A hr;clear hr;go_enter func139,ntmps139;by_cases hi:0<=i/\i<=(ln rows:Int)
 case neg=>exact zM
 have z:YG (i<0)=O:=XU D;have N:YG (i>(ln rows:Int))=O:=XU D;rw[show cM (ln rows) i=0 from XT hi];have x:=A (λ(W:U) (h:Ext w W)=>IJ W S y rows ((HR.o.below h).more h.size) f h1 aa);by_cases a:i=(ln rows:Int)
 case neg=>exact Bu
 have C:(i==(ln rows:Int))=Y:=Yg.2 a;rw[rP _ a];obtain⟨P,hI,s,X,o⟩:=info_parts qS;have T:=A hI;have J:=A s;have L:=A X;have Q:=A o;have E:=underlying27;clear hI s X o hi a;go_wp2_with fail
 rw[c.o];refine wp_region_any R (cH 4 (Ul S (ln rows) y i (YE #[j,n,l]) w.heap.size) (λw'=>Ext r w') (Ru S (ln rows) y w.heap.size 3 41 rows [j,n,l]) (λ_=>O) R (λ_ _ h k=>h.tr k) (λi v _ _ h k=>uS h k) (λ_ _ _ _ h=>YM) ?_ ?_ (λ_=>M) _ (Ext.dr r))
 ·exact uV
 ·exact ux
def Ph(w:U)(S:Option Ym)(y:Nat)(rows:List (List Z))(j s l n r o:Z)(i:Int)(hr:bR 6 w w.heap.size S y rows)(f:dv 6 rows)(h1:jA rows)(u:[j,s,l,n,r,o].all (·.oneCell')=Y)(ac:ln rows<=1000000):
  XY Xz 72 #[V S (ln rows) y,G F i,YE #[j,s,l,n,r,o]] w λe w'=>∃v,rX v/\e=YC (YF #[v,G F (cM (ln rows) i)])/\(cM (ln rows) i=0->w'.ownsRow w.heap.size 44 6 v (bm rows i [j,s,l,n,r,o]).length (bm rows i [j,s,l,n,r,o]).flatten)/\Ext w w':=by
 obtain⟨W0,c,b,B⟩:=Bo w [j,s,l,n,r,o] 44;have HR:=A hr;clear hr;go_enter func72,ntmps72;by_cases hi:0<=i/\i<=(ln rows:Int)
 case neg=>exact zM
 have z:YG (i<0)=O:=XU D;have N:YG (i>(ln rows:Int))=O:=XU D;rw[show cM (ln rows) i=0 from XT hi];have x:=A (λ(W:U) (h:Ext w W)=>ID W S y rows ((HR.o.below h).more h.size) f h1 ac);by_cases a:i=(ln rows:Int)
 case neg=>exact Bu
 have C:(i==(ln rows:Int))=Y:=Yg.2 a;rw[rP _ a];obtain⟨P,hI,aa,ab,X⟩:=info_parts qU;have T:=A hI;have J:=A aa;have L:=A ab;have Q:=A X;have E:=underlying28;clear hI aa ab X hi a;go_wp2_with fail
 rw[c.o];refine wp_region_any R (cH 4 (Ul S (ln rows) y i (YE #[j,s,l,n,r,o]) w.heap.size) (λw'=>Ext W0 w') (Ru S (ln rows) y w.heap.size 6 44 rows [j,s,l,n,r,o]) (λ_=>O) R (λ_ _ h k=>h.tr k) (λi v _ _ h k=>uS h k) (λ_ _ _ _ h=>YM) ?_ ?_ (λ_=>M) _ (Ext.dr W0))
 ·exact uV
 ·exact ux
def Pm(w:U)(S:Option Ym)(y:Nat)(rows:List (List Z))(j n l:Z)(i:Int)(hr:bR 3 w w.heap.size S y rows)(f:dv 3 rows)(h1:jA rows)(u:[j,n,l].all (·.oneCell')=Y)(aa:ln rows<=1000000):
  XY Xz 76 #[V S (ln rows) y,G F i,YE #[j,n,l]] w λe w'=>∃v,rX v/\e=YC (YF #[v,G F (cM (ln rows) i)])/\(cM (ln rows) i=0->w'.ownsRow w.heap.size 46 3 v (bm rows i [j,n,l]).length (bm rows i [j,n,l]).flatten)/\Ext w w':=by
 obtain⟨r,c,b,B⟩:=Bo w [j,n,l] 46;have HR:=A hr;clear hr;go_enter func76,ntmps76;by_cases hi:0<=i/\i<=(ln rows:Int)
 case neg=>exact zM
 have z:YG (i<0)=O:=XU D;have N:YG (i>(ln rows:Int))=O:=XU D;rw[show cM (ln rows) i=0 from XT hi];have x:=A (λ(W:U) (h:Ext w W)=>II W S y rows ((HR.o.below h).more h.size) f h1 aa);by_cases a:i=(ln rows:Int)
 case neg=>exact Bu
 have C:(i==(ln rows:Int))=Y:=Yg.2 a;rw[rP _ a];obtain⟨P,hI,s,X,o⟩:=info_parts rh;have T:=A hI;have J:=A s;have L:=A X;have Q:=A o;have E:=underlying31;clear hI s X o hi a;go_wp2_with fail
 rw[c.o];refine wp_region_any R (cH 4 (Ul S (ln rows) y i (YE #[j,n,l]) w.heap.size) (λw'=>Ext r w') (Ru S (ln rows) y w.heap.size 3 46 rows [j,n,l]) (λ_=>O) R (λ_ _ h k=>h.tr k) (λi v _ _ h k=>uS h k) (λ_ _ _ _ h=>YM) ?_ ?_ (λ_=>M) _ (Ext.dr r))
 ·exact uV
 ·exact ux
end
section
open Kp
theorem AM(a:w.heap[g]?=L (.cells cur t (0,0)))(h:o+ln d<=cur.size)(h1:∀v∈d,v.oneCell'=Y):
  w.setCells g o d=w.setRow g (putAt cur o d.toArray):=by
 have c:=run_storeCells_cells (P:=Xz) g o d 0 w (λj e=>by simp[World.cell?,a];omega) (λj e=>by simp[World.frozen?,a]) h1;have b:=run_storeCells_at (P:=Xz) g o t d 0 cur w a D h1;rw[c] at b;have:=(Result.ok.inj b).2;simpa[putAt] using this
theorem xG(w:U)(t e ty:Yj)(z:Z)(d:TypeInfo)(h:Xz.underlying t=L (.slice e))(hi:Xz.info? e=L d)(f:d.zero=L z)(h1:z.cells.all (·.oneCell')=Y)(g o c:Nat)(cur:Array Z)
  (k:w.heap[g]?=L (.cells cur e (0,0)))(l:o+z.cells.size≤cur.size):
  (Builtin.clear_ #[t] ty #[.slice (L ⟨g,o,I⟩) 1 c]).run Xz w= .ok (.tuple #[]) (w.setRow g (putAt cur o z.cells)):=by
 have j:Builtin.zeroCells z.cells 1=z.cells:=by
  apply Array.ext
  ·simp[Builtin.zeroCells]
  ·intro i h1 h2
   simp[Builtin.zeroCells,Nat.mod_eq_of_lt h2]
   exact getElem!_pos z.cells i h2
 have b:=run_storeCells_at (P:=Xz) g o e z.cells.toList 0 cur w k (by simpa using l) (fun v a=>(Array.all_eq_true_iff_forall_mem.1 h1) v (by simpa using a))
 have a:(zeroValue e).run Xz w= .ok z w:=by simp[zeroValue,typeInfo,hi,f]
 unfold putAt
 simp[Builtin.clear_,run_underlying h,a,j] at b⊢
 simp[b]
theorem Gw{rows:List (List Z)}(a:dv k rows)(m:Nat):dv k (rows.eraseIdx m):=λr b=>a r (List.mem_of_mem_eraseIdx b)
theorem Lu{rows:List (List Z)}(h1:n<=y)(g:cur.size=y*k)(v:cur.toList.take (n*k)=rows.flatten)(u:ln rows=n)(a:dv k rows)(B:m<n)(i:z.size=k):
  (putAt (putAt cur (m*k) (rows.drop (m+1)).flatten.toArray) ((n-1)*k) z).size=y*k/\(putAt (putAt cur (m*k) (rows.drop (m+1)).flatten.toArray) ((n-1)*k) z).toList.take ((n-1)*k)=(rows.eraseIdx m).flatten:=by
 subst u;have b:(rows.drop (m+1)).flatten.length=(ln rows-(m+1))*k:=by rw[bI (λr j=>a r (List.mem_of_mem_drop j)),List.length_drop]
 have C:ln rows.flatten=ln rows*k:=bI a;have c:ln cur.toList=y*k:=by simp[g]
 have x:ln rows*k<=y*k:=Nat.mul_le_mul_right k h1;obtain⟨p,e⟩:∃p,ln rows=m+1+p:=⟨ln rows-(m+1),D⟩;have l:ln rows-(m+1)=p:=D;have q:ln rows-1=m+p:=D;have A:ln rows*k=m*k+k+p*k:=by rw[e,Nat.add_mul,Nat.add_mul,Nat.one_mul]
 have f:(m+p)*k=m*k+p*k:=Nat.add_mul _ _ _;rw[l] at b;rw[q,f];have s1:(putAt cur (m*k) (rows.drop (m+1)).flatten.toArray).toList.length=y*k:=by
  unfold putAt;simp only[Yc,List.length_take,List.length_drop,c,b];omega
 refine⟨?_,?_⟩
 ·unfold putAt at s1⊢;simp only[List.size_toArray,Yc,List.length_take,List.length_drop,s1] at s1⊢;simp only[Array.length_toList,i];omega
 ·have w:(rows.eraseIdx m).flatten=rows.flatten.take (m*k)++(rows.drop (m+1)).flatten:=by
   rw[List.eraseIdx_eq_take_drop_succ,List.flatten_append,sW a D]
  have s:rows.flatten.take (m*k)=cur.toList.take (m*k):=by rw[<-v,List.take_take,Nat.min_eq_left D]
  rw[w,s];generalize o:putAt cur (m*k) (rows.drop (m+1)).flatten.toArray=d at s1⊢;have t:(putAt d (m*k+p*k) z).toList.take (m*k+p*k)=d.toList.take (m*k+p*k):=by
   unfold putAt;simp only[Nat.add_zero,List.append_assoc];rw[List.take_append_of_le_length (by rw[List.length_take,s1];omega),List.take_take,Nat.min_self]
  rw[t,<-o];unfold putAt;simp only[Nat.add_zero];rw[List.take_left'];simp only[Yc,List.length_take,c,b];omega
end
section
open Kp
theorem oJ(f:T->β)(l:List T)(i:Int)(x:T):bm (l.map f) i (f x)=(bm l i x).map f:=by
 unfold bm;rw[XP];split
 ·simp
 ·simp[List.map_set]
theorem gG(f:T->β)(l:List T)(m:Nat):(l.map f).eraseIdx m=(l.eraseIdx m).map f:=by
 induction l generalizing m with
 |nil=>rfl
 |cons a l b=>cases m with
  |zero=>rfl
  |succ m=>simp[b]
def Bl(l:List nc):jA (aV l):=λr a u hu=>by
 exact a1T
def wG(l:List Int):jA (aU l):=λr a u hu=>by
 obtain⟨s,_,rfl⟩:=List.mem_map.1 a;simp at hu;subst hu;rfl
def Fz(l:List Sz):jA (bf l):=λr a u hu=>by
 exact a1U
def AV(l:List Ld):jA (bG l):=λr a u hu=>by
 exact a1U
def zQ(l:List Aw):jA (aO l):=λr a u hu=>by
 exact a1T
def Ft(l:List Sd):jA (aE l):=λr a u hu=>by
 obtain⟨s,_,rfl⟩:=List.mem_map.1 a;simp at hu;rcases hu with rfl|rfl|rfl|rfl|rfl|rfl|rfl<;>rfl
theorem EC.ext(h:EC w b C)(hx:Ext w w'):EC w' b C:=(hx.block b (XV.1 h).1).trans h
def sE(w:U)(B:Nat)(rows:List (List Z))(l:List Br):Prop:=
 ln rows=ln l/\∀i,i<ln l->∃b a,rows.getD i []=yj (l.getD i pV) b a/\bR 2 w B b a (eN (l.getD i pV).gaps)
theorem sE.below{B:Nat}{rows:List (List Z)}{l:List Br}(h:sE w B rows l)(b:Yl B w w'):sE w' B rows l:=by
 refine⟨h.1,λi hi=> ?_⟩;obtain⟨c,a,e,s⟩:=h.2 i hi;exact⟨c,a,e,s.below b⟩
theorem sE.more{B B':Nat}{rows:List (List Z)}{l:List Br}(h:sE w B rows l)(b:B<=B'):sE w B' rows l:=by
 refine⟨h.1,λi hi=> ?_⟩;obtain⟨c,a,e,s⟩:=h.2 i hi;exact⟨c,a,e,s.more b⟩
theorem sE.wide{B:Nat}{rows:List (List Z)}{l:List Br}(h:sE w B rows l):dv 6 rows:=by
 intro r a;obtain⟨i,hi,rfl⟩:=List.mem_iff_getElem.1 a;obtain⟨c,b,e,_⟩:=h.2 i (by rw[<-h.1];exact hi);rw[XJ,XO hi] at e;simp only[Option.getD_some] at e;rw[e];rfl
theorem sE.one{B:Nat}{rows:List (List Z)}{l:List Br}(h:sE w B rows l):jA rows:=by
 intro r a;obtain⟨i,hi,rfl⟩:=List.mem_iff_getElem.1 a;obtain⟨b,c,e,_⟩:=h.2 i (by rw[<-h.1];exact hi);rw[XJ,XO hi] at e;simp only[Option.getD_some] at e;rw[e];intro u hu;simp at hu;rcases hu with rfl|rfl|rfl|rfl|rfl|rfl<;>rfl
theorem Nt{B:Nat}{l:List Br}(h:iT w B S y l):∃rows,sE w B rows l/\bR 6 w B S y rows:=by
 obtain⟨h1,h2,q⟩:=h;by_cases u:0<ln l
 ·obtain⟨b,off,e,s,v⟩:=q u;have hx:∀i,∃r:List Z,i<ln l->∃a c,r=yj (l.getD i pV) a c/\(∀j,j<6->w.cell? ⟨b,off+6*i+j,I⟩=r[j]?)/\bR 2 w B a c (eN (l.getD i pV).gaps):=by
   intro i;by_cases hi:i<ln l
   ·obtain⟨a,c,d,g⟩:=v i hi;exact⟨_,λ_=>⟨a,c,rfl,d,g⟩⟩
   ·exact⟨[],λh=>absurd h hi⟩
  obtain⟨f,n⟩:=Classical.axiomOfChoice hx;have k:((List.range (ln l)).map f).length=ln l:=YL;have m:∀i,i<ln l->((List.range (ln l)).map f).getD i []=f i:=by
   intro i hi;simp[XJ,hi]
  refine⟨(List.range (ln l)).map f,⟨k,λi hi=> ?_⟩,?_,h2,λ_=>⟨b,off,e,s,λi hi j t=> ?_⟩⟩
  ·obtain⟨a,c,d,g,o⟩:=n i hi;exact⟨a,c,(m i hi).trans d,o⟩
  ·rw[k];exact h1
  ·rw[k] at hi;obtain⟨a,c,d,g,o⟩:=n i hi;rw[m i hi];exact g j t
 ·have:l=[]:=List.eq_nil_of_length_eq_zero D;subst this;exact⟨[],⟨H,λi hi=>absurd hi YL⟩,h1,h2,λh=>absurd h YL⟩
theorem L9(h:W.heap[b]?=w.heap[b]?):W.cell? ⟨b,o,I⟩=w.cell? ⟨b,o,I⟩:=by simp only[World.cell?,h]
theorem lX{X:Nat->Prop}{j:bO}{a:cO}(m:fP X w c j a)(T:c<=w.heap.size):∃rows,sE w c rows j.bars/\bR 6 w c a.ba a.bc rows/\∀W,zI X c w W->sE W W.heap.size rows j.bars:=by
 obtain⟨rows,f,y⟩:=Nt m.b;refine⟨rows,f,y,λW u=>⟨f.1,λi hi=> ?_⟩⟩;obtain⟨b,off,e,J,K⟩:=y.2.2 (by rw[f.1];omega);have L:¬X b:=by
  intro hx;have C:b<w.heap.size:=D;obtain⟨g,n⟩:∃g:U,g.heap=w.heap.setIfInBounds b (.cells #[] 0 (0,0)):=⟨{w with heap:=w.heap.setIfInBounds b (.cells #[] 0 (0,0))},H⟩;have A:=(m.av g ⟨by rw[n];simp,λq _ Q=>by
   have F:b≠q:=λh=>Q (h▸hx)
   rw[n];simp[F]⟩).b
  have N:∀o,g.cell? ⟨b,o,I⟩=I:=λo=>by unfold World.cell?;rw[n];simp[C]
  obtain⟨O,M,d,_,r⟩:=A.2.2 D;rw[e] at d;injection d with d
  injection d with l v
  subst l;obtain⟨x,z,q,_⟩:=r 0 D;have t:=q 0 YK;rw[N] at t;cases t
 obtain⟨x,z,s,V⟩:=f.2 i hi;refine⟨x,z,s,?_⟩;obtain⟨O,M,d,_,r⟩:=(m.av W u).b.2.2 D;rw[e] at d;injection d with d
 injection d with l v
 subst l v;obtain⟨S,R,P,B⟩:=r i hi;have k:=P 5 YK;rw[L9 (u.2 b J L),K i (by rw[f.1];exact hi) 5 YK,s] at k;simp only[List.getElem?_cons_succ,List.getElem?_cons_zero,Option.some.injEq,Value.slice.injEq] at k;obtain⟨E,_,G⟩:=k;subst E G;exact B
theorem TL{B:Nat}{rows:List (List Z)}{l:List Br}(h:sE w B rows l)(k:bR 6 w B S y rows):iT w B S y l:=by
 obtain⟨h1,h2,c⟩:=k;rw[h.1] at h1;refine⟨h1,h2,λp=> ?_⟩;obtain⟨b,off,e,n,a⟩:=c (by rw[h.1];exact p);refine⟨b,off,e,n,λi hi=> ?_⟩;obtain⟨g,m,f,d⟩:=h.2 i hi;refine⟨g,m,λj o=> ?_,d⟩;rw[<-f];exact a i (by rw[h.1];exact hi) j o
theorem sE.snoc{B:Nat}{rows:List (List Z)}{l:List Br}(h:sE w B rows l)(x:Br)(a:Option Ym)(b:Nat)(hx:bR 2 w B a b (eN x.gaps)):sE w B (rows++[yj x a b]) (l++[x]):=by
 refine⟨by simp[h.1],λi hi=> ?_⟩;have c:=h.1;rw[Yc,List.length_singleton] at hi;by_cases q:i<ln l
 ·obtain⟨d,f,e,s⟩:=h.2 i q;refine⟨d,f,?_,?_⟩
  ·rw[XJ,List.getElem?_append_left D,XJ,List.getElem?_append_left q,<-XJ,<-XJ];exact e
  ·rw[XJ,List.getElem?_append_left q,<-XJ];exact s
 ·have:i=ln l:=D;subst this;refine⟨a,b,?_,?_⟩
  ·rw[XJ,List.getElem?_append_right D,c];simp
  ·simp;exact hx
theorem sE.set{B:Nat}{rows:List (List Z)}{l:List Br}(h:sE w B rows l)(m:Nat)(x:Br)(a:Option Ym)(b:Nat)(hx:bR 2 w B a b (eN x.gaps)):sE w B (rows.set m (yj x a b)) (l.set m x):=by
 refine⟨by simp[h.1],λi hi=> ?_⟩;have f:=h.1;rw[List.length_set] at hi;by_cases q:m=i
 ·subst q;refine⟨a,b,?_,?_⟩
  ·rw[XJ,List.getElem?_set_self D,XJ,List.getElem?_set_self hi];rfl
  ·rw[XJ,List.getElem?_set_self hi];exact hx
 ·obtain⟨c,d,e,s⟩:=h.2 i hi;refine⟨c,d,?_,?_⟩
  ·rw[XJ,List.getElem?_set_ne q,XJ,List.getElem?_set_ne q,<-XJ,<-XJ];exact e
  ·rw[XJ,List.getElem?_set_ne q,<-XJ];exact s
theorem sE.put{B:Nat}{rows:List (List Z)}{l:List Br}(h:sE w B rows l)(i:Int)(x:Br)(b:Option Ym)(a:Nat)(hx:bR 2 w B b a (eN x.gaps)):sE w B (bm rows i (yj x b a)) (bm l i x):=by
 unfold bm;rw[h.1];split
 ·exact h.snoc x b a hx
 ·exact h.set _ x b a hx
theorem sE.erase{B:Nat}{rows:List (List Z)}{l:List Br}(h:sE w B rows l)(m:Nat):sE w B (rows.eraseIdx m) (l.eraseIdx m):=by
 have a:=h.1;refine⟨by rw[List.length_eraseIdx,List.length_eraseIdx,a],λi hi=> ?_⟩;have b:(if i<m then i else i+1)<ln l:=by
  rw[List.length_eraseIdx] at hi;split at hi<;>split <;>omega
 obtain⟨c,d,e,s⟩:=h.2 _ b;refine⟨c,d,?_,?_⟩
 ·rw[XJ,XJ,List.getElem?_eraseIdx,List.getElem?_eraseIdx];rw[XJ,XJ] at e;split <;>rename_i q<;>simp only[q,Yr,Yu] at e<;>exact e
 ·rw[XJ,List.getElem?_eraseIdx];rw[XJ] at s;split <;>rename_i q<;>simp only[q,Yr,Yu] at s<;>exact s
theorem mW{v:Z}(a:W1.ownsRow w.heap.size t k v n Q)(b:c<w.heap.size)(x:Z):(W1.setCell ⟨c,i,I⟩ x).ownsRow w.heap.size t k v n Q:=
 dF a (λe=>by have:=(aH a c e).1;omega) x
theorem j6{X:Nat->Prop}{v:Z}(h:w'.ownsRow m t k v n Q)(f:yw X c m w' W):W.ownsRow m t k v n Q:=by
 obtain⟨a,b|⟨g,y,cur,rfl,d,e,h1⟩⟩:=h
 ·exact a06
 ·exact⟨a,.inr ⟨g,y,cur,H,d,(f.2 g (XV.1 e).1 (.inr d)).trans e,h1⟩⟩
theorem mT{rows:List (List Z)}(h:w.ownsRow base e k (V S n y) n rows.flatten)(f:ln rows=n)(a:dv k rows):bR k w w.heap.size S y rows:=by
 obtain⟨i,g,c,d⟩:=bK h f a;injection c with h1 h2 b
 subst h1;subst b;exact d
theorem mr{j:bO}{a:cO}{X:Nat->Prop}(d:fP X w c j a)(hx:Ext w W1)(b:c<w.heap.size)(v:Z):ew c w (W1.setCell ⟨c,i,I⟩ v)/\∀W,yw X c w.heap.size (W1.setCell ⟨c,i,I⟩ v) W->fW W W.heap.size j a:=by
 have h1:ew c w (W1.setCell ⟨c,i,I⟩ v):=(ew.ext hx b).put i v;exact⟨h1,λW e=>d.to b h1.below e⟩
theorem IK{j:bO}{a:cO}{v:Z}{l:List nc}(e:JC w c j a){X:Nat->Prop}(k:fP X w c j a)(hx:Ext w W1)(m:W1.ownsRow w.heap.size 39 5 v (aV l).length (aV l).flatten):
  ∃a',kW X c w (W1.setCell ⟨c,5,I⟩ v) {j with openings:=l} a':=by
 obtain⟨h1,h2⟩:=mr (i:=5) k hx e.lt v;have f:=mW (i:=5) m e.lt v;obtain⟨S,y,rfl,_⟩:=bK f H (lU l);have h:=λW (d:yw X c w.heap.size _ W)=>mT (j6 f d) rfl (lU l)
 rw[XP] at *;exact⟨{a with oa:=S,oc:=y},h1,(e.ext hx).put _ H,λW d=>(by
  have b:=h2 W d;have g:=h W d;exact⟨b.p,b.u,g,b.z,b.b,b.l,b.s⟩)⟩
theorem I7{j:bO}{a:cO}{v:Z}(e:JC w c j a){X:Nat->Prop}(m:fP X w c j a)(hx:Ext w W1)(o:W1.ownsRow w.heap.size 3 1 v (aU l).length (aU l).flatten):
  ∃a',kW X c w (W1.setCell ⟨c,4,I⟩ v) {j with purlins:=l} a':=by
 obtain⟨h1,h2⟩:=mr (i:=4) m hx e.lt v;have g:=mW (i:=4) o e.lt v;obtain⟨S,y,rfl,_⟩:=bK g H (bQ (f:=λn=>[G F n]) (λ_=>rfl) l);have k:=λW (d:yw X c w.heap.size _ W)=>mT (j6 g d) rfl (bQ (f:=λn=>[G F n]) (λ_=>rfl) l)
 rw[XP] at *;exact⟨{a with ua:=S,uc:=y},h1,(e.ext hx).put _ H,λW d=>(by
  have b:=h2 W d;have h:=k W d;exact⟨b.p,h,b.o,b.z,b.b,b.l,b.s⟩)⟩
theorem Hz{j:bO}{a:cO}{v:Z}{l:List Sz}(e:JC w c j a){X:Nat->Prop}(m:fP X w c j a)(hx:Ext w W1)(n:W1.ownsRow w.heap.size 41 3 v (bf l).length (bf l).flatten):
  ∃a',kW X c w (W1.setCell ⟨c,6,I⟩ v) {j with sizes:=l} a':=by
 obtain⟨h1,h2⟩:=mr (i:=6) m hx e.lt v;have g:=mW (i:=6) n e.lt v;obtain⟨S,y,rfl,_⟩:=bK g H (bQ (f:=yV) (λ_=>rfl) l);have k:=λW (d:yw X c w.heap.size _ W)=>mT (j6 g d) rfl (bQ (f:=yV) (λ_=>rfl) l)
 rw[XP] at *;exact⟨{a with za:=S,zc:=y},h1,(e.ext hx).put _ H,λW d=>(by
  have b:=h2 W d;have h:=k W d;exact⟨b.p,b.u,b.o,h,b.b,b.l,b.s⟩)⟩
theorem IG{j:bO}{a:cO}{v:Z}{l:List Ld}(e:JC w c j a){X:Nat->Prop}(k:fP X w c j a)(hx:Ext w W1)(m:W1.ownsRow w.heap.size 46 3 v (bG l).length (bG l).flatten):
  ∃a',kW X c w (W1.setCell ⟨c,13,I⟩ v) {j with aq:=l} a':=by
 obtain⟨h1,h2⟩:=mr (i:=13) k hx e.lt v;have f:=mW (i:=13) m e.lt v;obtain⟨S,y,rfl,_⟩:=bK f H (nN l);have h:=λW (d:yw X c w.heap.size _ W)=>mT (j6 f d) rfl (nN l)
 rw[XP] at *;exact⟨{a with la:=S,lc:=y},h1,(e.ext hx).put _ H,λW d=>(by
  have b:=h2 W d;have g:=h W d;exact⟨b.p,b.u,b.o,b.z,b.b,g,b.s⟩)⟩
theorem BU{j:bO}{a:cO}{v:Z}{l:List Aw}(e:JC w c j a){X:Nat->Prop}(m:fP X w c j a)(hx:Ext w W1)(n:W1.ownsRow w.heap.size 48 5 v (aO l).length (aO l).flatten):
  ∃a',kW X c w (W1.setCell ⟨c,14,I⟩ v) {j with spans:=l} a':=by
 obtain⟨h1,h2⟩:=mr (i:=14) m hx e.lt v;have g:=mW (i:=14) n e.lt v;obtain⟨S,y,rfl,_⟩:=bK g H (bQ (f:=iI) (λ_=>rfl) l);have k:=λW (d:yw X c w.heap.size _ W)=>mT (j6 g d) rfl (bQ (f:=iI) (λ_=>rfl) l)
 rw[XP] at *;exact⟨{a with sa:=S,sc:=y},h1,(e.ext hx).put _ H,λW d=>(by
  have b:=h2 W d;have h:=k W d;exact⟨b.p,b.u,b.o,b.z,b.b,b.l,h⟩)⟩
theorem IT{j:bO}{a:cO}{v:Z}{l:List Br}{rows:List (List Z)}(g:JC w c j a){X:Nat->Prop}(f:fP X w c j a)(hx:Ext w W1)(h:sE w c rows l)(n:∀W,zI X c w W->sE W W.heap.size rows l)(p:W1.ownsRow w.heap.size 44 6 v (ln rows) rows.flatten):
  ∃a',kW X c w (W1.setCell ⟨c,7,I⟩ v) {j with bars:=l} a':=by
 obtain⟨h1,h2⟩:=mr (i:=7) f hx g.lt v;have k:=mW (i:=7) p g.lt v;obtain⟨S,y,rfl,_⟩:=bK k H h.wide;have o:=λW (d:yw X c w.heap.size _ W)=>mT (j6 k d) rfl h.wide
 have q:=λW (d:yw X c w.heap.size (W1.setCell ⟨c,7,I⟩ (V S (ln rows) y)) W)=>n W ⟨by have:=h1.below.size;have:=d.1;omega,λb f hx=>(d.2 b (by have:=h1.below.size;have:=g.lt;omega) (.inl ⟨f,hx⟩)).trans (h1.below.block b f)⟩
 have m:=h.1;refine⟨{a with ba:=S,bc:=y},h1,(g.ext hx).put _ (by rw[m];rfl),λW d=> ?_⟩;have e:=h2 W d;exact⟨e.p,e.u,e.o,e.z,TL (q W d) (o W d),e.l,e.s⟩
end
section
open Kp
attribute [local go_sem] bJ gE fX gA gC fN fG fU fI gD gy dQ dO dR dn dq
attribute [local go_sem] aF eV gJ il gL gK gM gN gW
def yP:(Xz.info? 102).map (λi=>(i.zero,i.size,i.bytes))=L (L (V I 0 0),1,24):=R
abbrev lJ(e:Ed):Sd:=⟨e.sx,e.sy,e.srise,e.srun,e.gable,e.splate,e.sover⟩
def qP(rs:List (List Sd))(n:Int):Nat->Int×Bool
 |0=>(n,O)
 |k+1=>(F.wrap ((qP rs n k).1-((rs.getD k []).length:Int)),(qP rs n k).2||(!(qP rs n k).2&&YG ((qP rs n k).1<((rs.getD k []).length:Int))))
def hH(rs:List (List Sd))(n:Int)(s:Sd)(k:Nat):List Sd:=
 if !(qP rs n k).2&&YG ((qP rs n k).1<((rs.getD k []).length:Int)) then(rs.getD k []).set (qP rs n k).1.toNat s else rs.getD k []
def df(rs:List (List Sd))(n:Int)(s:Sd):List (List Sd):=(List.range (ln rs)).map (hH rs n s)
def kb(rs:List (List Sd))(n:Int):Int:=if n<0 then 6 else if(qP rs n (ln rs)).2 then 0 else 6
def FC(rs:List (List Sd))(n:Int)(s:Sd)(k:Nat):(hH rs n s k).length=(rs.getD k []).length:=by
 unfold hH;split <;>simp
theorem wX(rs:List (List Sd))(n:Int)(s:Sd)(hk:k<ln rs):(df rs n s).getD k []=hH rs n s k:=by
 unfold df;simp[XJ,hk]
def iS(rs:List (List Sd))(n:Int)(s:Sd):(df rs n s).length=ln rs:=by unfold df;simp
def RJ{rs:List (List Sd)}{n:Int}(d:0<=n)(g:n<=9223372036854775807)(f:∀k,(rs.getD k []).length<=1000):∀k,(qP rs n k).2=O->0<=(qP rs n k).1/\(qP rs n k).1<=n:=by
 intro k
 induction k with
 |zero=>intro _;exact⟨d,Int.le_refl _⟩
 |succ k e=>
  intro h;simp only[qP,Bool.or_eq_false_iff] at h;obtain⟨h1,h2⟩:=h;obtain⟨a,b⟩:=e h1;rw[h1] at h2;simp only[Bool.not_false,Bool.true_and,XL] at h2;have c:F.wrap ((qP rs n k).1-((rs.getD k []).length:Int))=(qP rs n k).1-((rs.getD k []).length:Int):=Yh _ D;simp only[qP];rw[c];omega
theorem BZ{B n k q:Nat}(h:w.ownsRow B t k ab n Q)(c:w.heap.size<=q\/ab.ownBlock≠L q)(cs:Array Z):(w.setRow q cs).ownsRow B t k ab n Q:=by
 obtain⟨a,b|⟨g,y,cur,rfl,f,d,h1⟩⟩:=h
 ·exact a06
 ·refine⟨a,.inr ⟨g,y,cur,H,f,?_,h1⟩⟩;have i:q≠g:=by
   intro e;subst e;rcases c with c|c
   ·have:=(XV.1 d).1;omega
   ·exact c H
  have:(w.setRow q cs).heap[g]?=w.heap[g]?:=by simp only[World.setRow,Array.getElem?_modify];rw[XQ i]
  exact this.trans d
theorem yn{B n k q:Nat}{t t':Yj}{Q cs:_}(h:w.ownsRow B t k ab n Q)(a:w.heap[q]?=L (.cells cs t' (0,0)))(f:t≠t'):ab.ownBlock≠L q:=by
 intro e;obtain⟨i,⟨rfl,_⟩|⟨g,y,cur,rfl,j,d,h1⟩⟩:=h
 ·cases e
 ·have c:g=q:=by simpa[Value.ownBlock] using e
  subst c;rw[d] at a;injection a with a
  injection a with _ b
  exact f b
structure Xg(a:U)(pb:Nat)(rs:List (List Sd))(n:Int)(s:Sd)(k:Nat)(wr:U):Prop where
 ext:Ext a wr
 mem:∃v vals,Bx wr pb 24 v/\wr.ownsRow a.heap.size 102 1 v k vals/\ln vals=k/\∀i,i<k->wr.ownsRow a.heap.size 36 7 (vals.getD i M) (hH rs n s i).length (aE (hH rs n s i)).flatten
theorem Mj{r:List Sd}{b B:Nat}(h:w.ownsRow b 36 7 ab (ln r) (aE r).flatten)(a:w.heap.size<=B):∃S c,ab=V S (ln r) c/\bR 7 w B S c (aE r):=by
 obtain⟨S,c,e,d⟩:=bK h (XP _) (dB r);exact⟨S,c,e,d.more a⟩
theorem rg_of{v:Z}{a:List (List Sd)}(m:w.ownsRow B0 102 1 v (ln a) vals)(q:ln vals=ln a)
  (k:∀i,i<ln a->w.ownsRow B0 36 7 (vals.getD i M) (a.getD i []).length (aE (a.getD i [])).flatten):∃S y,v=V S (ln a) y/\gw w w.heap.size S y a:=by
 obtain⟨s,⟨rfl,d⟩|⟨g,y,cur,rfl,r,f,h1,h2,o,n⟩⟩:=m
 ·exact a08
 ·refine⟨_,y,H,h1,h2,λb=>⟨g,0,rfl,(XV.1 f).1,λi hi=> ?_⟩⟩;obtain⟨S,c,e,l⟩:=Mj (k i hi) (XE _);refine⟨S,c,?_,l⟩;have j:cur[i]?=vals[i]?:=by
   rw[<-n,List.getElem?_take,XT D];simp
  rw[Nat.zero_add];simp only[World.cell?,f];rw[XJ,XO D] at e;simp only[Option.getD_some] at e;simp only[j];rw[XO D,e]
  rfl
theorem zX{a wr W1 w2:U}{rs:List (List Sd)}{n:Int}{s:Sd}{v v' V1:Z}(hx:Ext a wr)(e:Bx wr pb 24 v)(u:wr.ownsRow a.heap.size 102 1 v k vals)(f:ln vals=k)
  (t:∀i,i<k->wr.ownsRow a.heap.size 36 7 (vals.getD i M) (hH rs n s i).length (aE (hH rs n s i)).flatten)(h1:Ext wr W1)
  (l:W1.ownsRow a.heap.size 36 7 V1 (hH rs n s k).length (aE (hH rs n s k)).flatten)(g:w2.ownsRow a.heap.size 102 1 v' (k+1) (vals++[V1]))(c:W1.grownBy w2 v.ownBlock)(j:a.heap.size<=pb):
  Xg a pb rs n s (k+1) (w2.setCell ⟨pb,0,I⟩ v'):=by
 have d:=bD u h1;have r:=e.below h1 e.lt;have b:=r.grown d c YK;have key:∀ab m Q,W1.ownsRow a.heap.size 36 7 ab m Q->(w2.setCell ⟨pb,0,I⟩ v').ownsRow a.heap.size 36 7 ab m Q:=by
  intro ab m Q h;have h2:=nF h d c YK;exact dF h2 (yn (q:=pb) (t':=24) (cs:=#[v]) h2 b YK) _
 refine⟨(fQ (hx.tr h1) c (λq w=>(aH d q w).1)).setCell j _,v',vals++[V1],b.put _,dF g (yn (q:=pb) (t':=24) (cs:=#[v]) g b YK) _,by simp[f],λi hi=> ?_⟩;by_cases o:i<k
 ·rw[XJ,List.getElem?_append_left D,<-XJ];exact key _ _ _ (bD (t i o) h1)
 ·obtain rfl:i=k:=D;rw[XJ,List.getElem?_append_right D,f];simpa using key _ _ _ l
def JF(w:U)(c:Nat)(j:bO)(a:cO)(e:Ed)(g:Z)(hc:JC w c j a){X:Nat->Prop}(hb:fP X w c j a)(bg:ln j.rings<=1000)(aF:∀k,(j.rings.getD k []).length<=1000)(hn:e.index<=9223372036854775807):
  XY Xz 65 #[YA (L ⟨c,0,I⟩),YE (P e g)] w λx w'=>x=YC (G F (kb j.rings e.index))/\ew c w w'/\(kb j.rings e.index=0->∃a',kW X c w w' {j with rings:=df j.rings e.index (lJ e)} a'):=by
 have ai:=hc.lt;obtain⟨l,o⟩:=aa (w.alloc (.cells (P e g) 50));have HZ:EC l w.heap.size (P e g):=Zv;have B:Ext w l:=Ze;have hJ:=hc.ext B;have z1:=HZ.cell 1;have HJ:=A hJ;have aA:=A B;have aK:=A HZ;by_cases h0:e.index<0
 ·have hE:kb j.rings e.index=6:=by unfold kb;rw[XT h0]
  have t0:YG (e.index<0)=Y:=Yb h0;rw[hE];have HB:=A (ew.ext B ai:ew c w l);clear hc hb hJ HZ B h0 hE;subst o;go_enter func65,ntmps65;go_wp2;go_ret;exact⟨H,HB.o,λh=>absurd h YK⟩
 have hE:kb j.rings e.index=if(qP j.rings e.index (ln j.rings)).2 then 0 else 6:=by unfold kb;rw[XQ h0]
 have t0:YG (e.index<0)=O:=XU h0;have a9:=A (RJ (rs:=j.rings) (n:=e.index) D hn aF);have HR:=A (λ(W:U) (h:Ext l W)=>(((hb.p.below ((B.tr h).mono (Nat.le_of_lt ai))).more (Ye (Nat.le_of_lt ai) (B.tr h).size)):gw W W.heap.size a.pa a.pc j.rings));have a4:=A aF;have bc:=A hE;have HF:=A (λ(W1:U) (v:Z) (S:Option Ym) (y:Nat) (hv:v=V S (df j.rings e.index (lJ e)).length y) (hx:Ext l W1) (be:∀W,yw X c w.heap.size (W1.setRow c (putAt (aM j a) 1 #[v])) W->gw W W.heap.size S y (df j.rings e.index (lJ e)))=>(show∃a',kW X c w (W1.setRow c (putAt (aM j a) 1 #[v])) {j with rings:=df j.rings e.index (lJ e)} a' from by
  have h1:ew c w (W1.setRow c (putAt (aM j a) 1 #[v])):=(ew.ext (B.tr hx) ai).row _;have h2:=λW (hA:yw X c w.heap.size (W1.setRow c (putAt (aM j a) 1 #[v])) W)=>hb.to ai h1.below hA
  subst hv;refine⟨{a with pa:=S,pc:=y},h1,setRow_heap ((hc.ext (B.tr hx))) _,λW hA=> ?_⟩;have E:=h2 W hA;exact⟨be W hA,E.u,E.o,E.z,E.b,E.l,E.s⟩))
 obtain⟨i0,aS,aP,aQ,aO⟩:=info_parts yP;have I0:=A aS;have I1:=A aP;have I2:=A aQ;have I3:=A aO;have aI:=A (λ(W1:U) (h:Ext l W1)=>(ew.ext (B.tr h) ai:ew c w W1));have bf:=hb.p.1;have ap:=hb.p.2.1;unfold Yk at ap;have aX:=λW (h:Ext l W)=>(HZ.ext h).cell 1
 have k1:=hJ.cell 1;have HN:=A o;have q1:(((w.alloc (.cells (P e g) 50)).alloc (.cells #[V I 0 0] 24)).setCell ⟨(w.alloc (.cells (P e g) 50)).heap.size,0,I⟩ (V I 0 0)).cell? ⟨c,1,I⟩=(aM j a)[1]?:=by rw[o];exact(HJ.o.ext (((XI _ _).alloc (XE _) _).setCell (XE _) _)).cell 1
 clear hc hb hJ HZ B h0 hE aS aP aQ aO hn aF;subst o;go_enter func65,ntmps65;go_wp2_with fail
 have aD:=A (show(w.alloc (.cells (P e g) 50)).heap.size=w.heap.size+1 by simp);obtain⟨l,o⟩:=aa (w.alloc (.cells (P e g) 50));rw[o] at HJ aA aK aD;simp only[o] at HR HF aI aX⊢;clear o HN q1 k1 z1;obtain⟨pa,aU⟩:=aa a.pa;simp only[aU] at HR⊢;clear aU;have aN:=A (show l.heap.size<=w.heap.size+1 by rw[aD.o];exact XE _);go_loopw [5,7,22] (λat_ f_ i wr=>∃(k:Nat) (z:Int) (f:Bool),k<=ln j.rings/\i=G F (k:Int)/\at_=G F z/\f_=Yz f/\qP j.rings e.index k=(z,f)/\Xg l (w.heap.size+1) j.rings e.index (lJ e) k wr) (λ_ _ i _=>((ln j.rings:Int)-Yf i).toNat)
 case atStart=>exact⟨0,_,_,D,rfl,rfl,rfl,rfl,(XI _ _).alloc (XE _) _,_,[],Bx.at_ aD.o,⟨rfl,.inl ⟨rfl,rfl⟩⟩,rfl,λi hi=>absurd hi D⟩
 case round=>
  obtain⟨k,z,f,hk,rfl,rfl,rfl,ac,hx,v,vals,N,ho,aj,ak⟩:=hrel;by_cases a7:k<ln j.rings
  ·obtain⟨b,off,rfl,hB,aV⟩:=(HR.o wr hx).2.2 D;obtain⟨Ai,ci,c1,aC⟩:=aV k a7;have hd:=a4.o k;have av:=a9.o k;obtain⟨ring,ao⟩:=aa (j.rings.getD k []);have K:qP j.rings e.index (k+1)=(F.wrap (z-(ln ring:Int)),f||(!f&&YG (z<(ln ring:Int)))):=by simp only[qP];rw[ac,ao]
   have af:hH j.rings e.index (lJ e) k=if !f&&YG (z<(ln ring:Int)) then ring.set z.toNat (lJ e) else ring:=by unfold hH;rw[ac,ao]
   rw[ao] at c1 aC hd;rw[ac] at av;have KC:=RW wr Ai ci (aE ring) aC (dB _) (Ft _) (by rw[XP];omega);rw[XP] at KC;have KC:=A KC;have s:=A hx;have d:=A N;have HO:=A ho;have am:=A aj;have aq:=A ak;have bd:=N.cell;clear hx N ho aj ak aV aC ao ac;cases f with
   |true=>
    have au:=A K;have aw:=A (af.trans (by rw[Bool.not_true,Bool.false_and];rfl):hH j.rings e.index (lJ e) k=ring);exact a1V
   |false=>
    by_cases hz:z<(ln ring:Int)
    ·obtain⟨p1,p2⟩:=av H;have t1:YG (z<(ln ring:Int))=Y:=Yb hz;rw[t1] at K af;dsimp only at p1;obtain⟨m,rfl⟩:∃m:Nat,z=(m:Int):=⟨z.toNat,D⟩;have a2:=A (show m<ln ring by omega);rw[show F.wrap ((m:Int)-(ln ring:Int))=(m:Int)-(ln ring:Int) from Yh _ D] at K;have au:=A K;have aw:=A (af.trans Zb:hH j.rings e.index (lJ e) k=ring.set m (lJ e));clear K af av p2;go_wp2_with(first
      |(refine wpList_append_own _ rfl _ _ 22 rfl l.heap.size 102 i0 (V I 0 0) 1 24 underlying22 I0.o I1.o I2.o I3.o rfl YK _ _ _ rfl ag.o ⟨W1.heap.size,0,I⟩ 1 1 [V (L ⟨gg,0,I⟩) (ln ring) cp] rfl rfl (World.news_of_block (cs:=#[V (L ⟨gg,0,I⟩) (ln ring) cp]) (t:=102) (fr:=(0,0)) NB.o) ZW YR D (Ye s.o.size r.o.size) ?_;intro v' w2 T C _;have aG:=A T;have ax:=A C;obtain⟨A3,n3,c3,ah⟩:=rX.of T;subst ah;have b3:=((d.o.below r.o d.o.lt).grown ag.o C YK).cell;have f3:=((d.o.below r.o d.o.lt).grown ag.o C YK).frozen;clear T C)
      |(refine bZ rfl 36 _ _ rfl _ _ _ rfl rfl 36 _ aW.o R HS.o R ?_;have hW:=al (n:=gg) bb.o aJ.o (putAt cur (m*7) #[G F e.sx,G F e.sy,G F e.srise,G F e.srun,Yz e.gable,G F e.splate,G F e.sover]);have b1:=(d.o.below hW d.o.lt).cell;have r:=A (Ext.tr hW ((XI _ _).alloc (XE _) (.cells #[(V (L ⟨gg,0,I⟩) (ln ring) cp)] 102)));have b2:=(d.o.below r.o d.o.lt).cell;have ag:=A (bD HO.o r.o);have NB:=A (Bx.at_ (W:=(W1.setRow gg (putAt cur (m*7) #[G F e.sx,G F e.sy,G F e.srise,G F e.srun,Yz e.gable,G F e.splate,G F e.sover]))) (t:=102) (v:= V (L ⟨gg,0,I⟩) (ln ring) cp) (n:=W1.heap.size) YL);have ay:=A (bD (jn (k:=7) (x:=nQ (lJ e)) (Ye s.o.size aJ.o) aW.o a5.o a1.o a0.o a6.o (XP _) (dB ring) H a2.o) ((XI _ _).alloc (XE _) (.cells #[(V (L ⟨gg,0,I⟩) (ln ring) cp)] 102)));clear hW)
      |(go_at_call 132;refine KC.o.mono ?_;rintro e W1 ⟨v1,rfl,ae,ad⟩;obtain⟨gg,cp,cur,rfl,aR,hh,q1,q2,q3,q4⟩:=j1 ae D;have aW:=A hh;have a5:=A q1;have a1:=A q2;have a0:=A q3;have a6:=A q4;have aJ:=A aR;have bb:=A ad;have HS:=A (show m*7+7<=cur.size by rw[q3];omega);have zz:=λi=>(aK.o.ext (s.o.tr ad)).cell i;clear ae ad hh q1 q2 q3 q4 aR))
     go_round
     case rel=>exact⟨k+1,_,_,D,by go_num,rfl,rfl,au.o.trans (by first|rfl|simp[IntWalk.i64_left]),zX s.o d.o HO.o am.o aq.o r.o (by rw[aw.o,List.length_set,show aE (ring.set m (lJ e))=(aE ring).set m (nQ (lJ e)) from List.map_set ..];exact ay.o) aG.o ax.o aN.o⟩
     case measure=>simp[Yf];omega
    ·have t1:YG (z<(ln ring:Int))=O:=XU hz;rw[t1] at K af;have au:=A K;have aw:=A (af.trans Zb:hH j.rings e.index (lJ e) k=ring);exact a1V
  ·obtain rfl:k=ln j.rings:=D;have an:=bc.o;rw[ac] at an;have s:=A hx;have bd:=N.cell;cases f with
   |false=>
    have ar:=A (an.trans Zb:kb j.rings e.index=6);clear N ho aj ak hx ac an;go_wp2;go_ret;exact⟨by rw[ar.o];rfl,aI.o _ s.o,λh=>absurd (ar.o.symm.trans h) YK⟩
   |true=>
    have ar:=A (an.trans Zb:kb j.rings e.index=0);have d:=A N;have HO:=A ho;have am:=A aj;have aq:=A ak;have a3:=A (HJ.o.ext hx);obtain⟨J,n1,c1,hv⟩:=rX.of ho;subst hv;clear N ho aj ak hx ac an;go_wp2_with(refine bZ rfl 24 _ _ rfl _ _ _ rfl rfl 34 _ a3.o R (Nat.le_of_ble_eq_true R) R ?_)
    go_ret;have az:=HO.o;have ap:∀i,i<(df j.rings e.index (lJ e)).length->wr.ownsRow l.heap.size 36 7 (vals.getD i M) ((df j.rings e.index (lJ e)).getD i []).length (aE ((df j.rings e.index (lJ e)).getD i [])).flatten:=by
     intro i hi;rw[iS] at hi;rw[wX _ _ _ hi];exact aq.o i hi
    rw[<-iS j.rings e.index (lJ e)] at az;obtain⟨A2,aB,aT,_⟩:=rg_of az (by rw[am.o,iS]) ap;have aY:∀W,yw X c w.heap.size (wr.setRow c (putAt (aM j a) 1 #[V J n1 c1])) W->gw W W.heap.size A2 aB (df j.rings e.index (lJ e)):=by
     intro W hA;have aZ:yw X c l.heap.size (wr.setRow c (putAt (aM j a) 1 #[V J n1 c1])) W:=⟨hA.1,λb h1 h2=>hA.2 b h1 (h2.imp id (Ye aA.o.size))⟩;have aL:∀{ab:Z} {t:Yj} {q m:Nat} {Q:List Z},wr.ownsRow l.heap.size t q ab m Q->W.ownsRow l.heap.size t q ab m Q:=λh=>j6 (BZ h (.inr (λe=>by have:=(aH h c e).1;have:=aA.o.size;omega)) _) aZ
     obtain⟨A3,a8,ah,ba⟩:=rg_of (aL az) (by rw[am.o,iS]) (λi hi=>aL (ap i hi));obtain⟨rfl,rfl⟩:A2=A3/\aB=a8:=by rw[aT] at ah;injection ah with h1 h2 E;exact⟨h1,E⟩
     exact ba
    exact⟨by rw[ar.o];rfl,(aI.o _ s.o).row _,λ_=>HF.o wr _ A2 aB aT s.o aY⟩
end
section
open Kp
def cj(n:Nat)(i:Int):Int:=if 0<=i/\i<(n:Int) then 0 else 6
theorem pQ {t s : TypeId} {z : Value} {k : Nat} {q : TypeInfo} (R : Tryz.prog.underlying s = some (.slice t)) (hi : Tryz.prog.info? t = some q) (Q : q.zero = some z) (hk : z.cells.size = k) (N : z.cells.all (·.oneCell') = true) {w : World} {g n y m j : Nat} {cur : Array Value} {rows : List (List Value)}
    (d : w.heap[g]? = some (.cells cur t (0, 0))) (h1 : n ≤ y) (f : cur.size = y * k) (J : cur.toList.take (n * k) = rows.flatten) (H : rows.length = n) (e : dv k rows) (ho : jA rows) (P : m < n) (T : j = m + 1) :
    ∃ a S W1 l, (if y = j then (some ⟨g, 0, none⟩ : Option Addr) else some ⟨g, j * k, none⟩) = some S ∧ Hid (a.length = (n - j) * k) ∧ Hid (∀ t u, a[t]? = some u → w.drew.cell? (S.add t) = some u) ∧ Hid (∀ u ∈ a, u.oneCell' = true) ∧
      Hid (∀ t, t < a.length → (w.drew.cell? ⟨g, 0 + m * k + t, none⟩).isSome = true ∧ w.drew.frozen? ⟨g, 0 + m * k + t, none⟩ = false) ∧ Hid (w.drew.setCells g (0 + m * k) a = W1) ∧
      (∀ ty, (Builtin.clear_ #[s] ty #[.slice (some ⟨g, (m + (n - j)) * k, none⟩) (n - (m + (n - j))) (y - (m + (n - j)))]).run Tryz.prog W1 = .ok (.tuple #[]) (W1.setRow g l)) ∧
      Hid (Below g w W1) ∧ (∃ C, Hid (W1.heap[g]? = some (.cells C t (0, 0)))) ∧ Hid (l.size = y * k ∧ l.toList.take ((n - 1) * k) = (rows.eraseIdx m).flatten) := by
  subst T
  obtain ⟨p, rfl⟩ : ∃ p, n = m + 1 + p := ⟨n - (m + 1), by omega⟩
  have F : m + 1 + p - (m + 1) = p := by omega
  have X : m + 1 + p - (m + p) = 1 := by omega
  have E : m + 1 + p - 1 = m + p := by omega
  have a1 : (m + 1 + p) * k = m * k + k + p * k := by rw [Nat.add_mul, Nat.add_mul, Nat.one_mul]
  have a2 : (m + 1) * k = m * k + k := by rw [Nat.add_mul, Nat.one_mul]
  have B : (m + p) * k = m * k + p * k := Nat.add_mul _ _ _
  have ab : (m + 1 + p) * k ≤ y * k := Nat.mul_le_mul_right _ h1
  obtain ⟨a, c⟩ : ∃ a, (rows.drop (m + 1)).flatten = a := ⟨_, rfl⟩
  have b : a.length = p * k := by rw [← c, bI (fun r x => e r (List.mem_of_mem_drop x)), List.length_drop, H, F]
  have G : ∀ i, w.cell? ⟨g, i, none⟩ = cur[i]? := fun i => by simp [World.cell?, d]
  have s2 : ∀ u ∈ a, u.oneCell' = true := by
    intro u hu
    rw [← c] at hu
    obtain ⟨r, x, M⟩ := List.mem_flatten.1 hu
    exact ho r (List.mem_of_mem_drop x) u M
  have o := Lu (z := z.cells) h1 f J H e P hk
  rw [c, E] at o
  have c1 : (putAt cur (m * k) a.toArray).size = y * k := by
    unfold putAt
    simp only [List.size_toArray, List.length_append, List.length_take, List.length_drop, Array.length_toList, f, b]
    omega
  have U : w.drew.setCells g (0 + m * k) a = w.drew.setRow g (putAt cur (m * k) a.toArray) := by
    rw [Nat.zero_add]
    exact AM (t := t) (w := w.drew) d (by rw [b, f]; omega) s2
  have K : (w.drew.setRow g (putAt cur (m * k) a.toArray)).heap[g]? = some (.cells (putAt cur (m * k) a.toArray) t (0, 0)) := setRow_heap (w := w.drew) d _
  rw [F, X, E]
  refine ⟨a, if y = m + 1 then ⟨g, 0, none⟩ else ⟨g, (m + 1) * k, none⟩, _, _, by split <;> rfl, Lib.hid b, Lib.hid fun t u hu => ?_, Lib.hid s2, Lib.hid fun t v => ?_, Lib.hid U, fun ty => xG _ s t ty z q R hi Q N g _ _ _ K (by rw [c1, hk, B]; omega), Lib.hid (al (Below.drew (Below.refl _ _)) (Nat.le_refl _) _), ⟨_, Lib.hid K⟩, Lib.hid (by rw [B] at o ⊢; exact o)⟩
  · by_cases h : y = m + 1
    · have W : a.length = 0 := by rw [b, show p = 0 by omega, Nat.zero_mul]
      rw [List.length_eq_zero_iff.1 W] at hu
      simp at hu
    · have v : t < a.length := (List.getElem?_eq_some_iff.1 hu).1
      rw [← c, ← kL e (by omega), List.getElem?_drop, ← J, List.getElem?_take, if_pos (by rw [b] at v; omega)] at hu
      rw [if_neg h, Addr.add_lit]
      show w.cell? _ = _
      rw [G]
      simpa using hu
  · rw [b] at v
    refine ⟨?_, ?_⟩
    · show (w.cell? ⟨g, 0 + m * k + t, none⟩).isSome = true
      rw [G]
      simp
      omega
    · show w.frozen? ⟨g, 0 + m * k + t, none⟩ = false
      simp [World.frozen?, d]
def Jk(f:FuncId)(t:Yj)(k:Nat):Prop:=∀(w:U) (g n y m j:Nat) (cur:Array Z) (rows:List (List Z)),w.heap[g]?=L (.cells cur t (0,0))->n<=y->y<=Yk->cur.size=y*k->cur.toList.take (n*k)=rows.flatten->
  ln rows=n->dv k rows->jA rows->m<n->j=m+1->n<=1000000->
  XY Xz f #[V (L ⟨g,0,I⟩) n y,G F (m:Int),G F (j:Int)] w λe w'=>e=YC (V (L ⟨g,0,I⟩) (n-1) y)/\Yl g w w'/\
   ∃a,w'.heap[g]?=L (.cells a t (0,0))/\a.size=y*k/\a.toList.take ((n-1)*k)=(rows.eraseIdx m).flatten
theorem mQ(h:p:=by
  try simp only[Nat.mul_one] at t B
  unfold Yk at h2;have hjc:j<=y:=D;have hmc:m<=y:=D;have hlt:m<j:=D;have hjn:j<=n:=D;have heq:((m:Int)==(j:Int))=O:=XN.2 D;have HF:=A (show m+(n-j)=n-1 by omega);have mixed:Xz.follows .mixedOrders=Y:=R;clear q b hi i l x f c d s e r;go_wp2_with fail
  go_region_law_o(refine F.o _ _ _ _ _ _ _ rfl rfl g 0 m y Zt S (n-j) (y-j) v Zt s1.o I.o s2.o D s3.o ?_;rw[u.o])
  go_wp2;go_ret;exact⟨ZG,al z.o (XE _) _,_,setRow_heap G.o _,J.o⟩):p:=h
def JN(f:FuncId)(t:Yj)(k:Nat):Prop:=∀(w:U) (S:Option Ym) (y:Nat) (rows:List (List Z)) (i:Int),bR k w w.heap.size S y rows->dv k rows->jA rows->ln rows<=1000000->
  XY Xz f #[V S (ln rows) y,G F i] w λe w'=>∃v,rX v/\e=YC (YF #[v,G F (cj (ln rows) i)])/\(cj (ln rows) i=0->w'.ownsRow w.heap.size t k v (ln rows-1) (rows.eraseIdx i.toNat).flatten)/\Ext w w'
theorem mM(h:p:=by
  by_cases hi:0<=i/\i<(ln rows:Int)
  ·have t1:YG (i<0)=O:=XU D;have t2:YG (i>=(ln rows:Int))=O:=XU D;rw[show cj (ln rows) i=0 from XT hi];obtain⟨m,rfl⟩:∃m:Nat,i=(m:Int):=⟨i.toNat,D⟩;have hm:m<ln rows:=D;have HW:=A a;have H1:=A h1;clear hi b a h1;go_wp2_with(first
    |(refine(f.o W1 g (ln rows) cp m (m+1) cur rows HH.o q1 q2 HQ.o HF.o rfl HW.o H1.o hm rfl c).mono ?_;rintro e W2 ⟨rfl,hb2,cur2,hh2,hs2,ht2⟩;have HX2:=A (HX.o.trans (hb2.mono HB.o));have HH2:=A hh2;have HS2:=A hs2;have HT2:=A ht2;clear hb2 hh2 hs2 ht2)
    |(refine d.o.mono ?_;rintro e W1 ⟨v,rfl,ho,hX⟩;obtain⟨g,cp,cur,rfl,hb,hh,q1,q2,q3,q4⟩:=j1 ho D;have HH:=A hh;have HQ:=A q3;have HF:=A q4;have HX:=A hX;have HB:=A hb;clear ho hh q3 q4 hX hb))
   go_ret2;refine⟨_,⟨_,_,_,H⟩,H,⟨?_,.inr ⟨g,cp,cur2,H,HB.o,HH2.o,D,q2,HS2.o,HT2.o⟩⟩,HX2.o⟩;show(rows.eraseIdx m).flatten.length=_;rw[bI (Gw HW.o m),List.length_eraseIdx,XT hm]
  ·rw[show cj (ln rows) i=6 from XQ hi];clear b;by_cases hi0:i<0
   ·have t1:YG (i<0)=Y:=Yb hi0;clear hi hi0;go_wp2;go_ret2;exact⟨_,⟨_,_,_,H⟩,H,λh=>YM,Ext.ah _⟩
   ·have t1:YG (i<0)=O:=XU hi0;have t2:YG (i>=(ln rows:Int))=Y:=Yb D;clear hi hi0;go_wp2;go_ret2;exact⟨_,⟨_,_,_,H⟩,H,λh=>YM,Ext.ah _⟩):p:=h
theorem NZ : Jk 212 41 3 := by
  intro w g n y m j cur rows d h1 h2 f c r e s M q U
  obtain ⟨P, hi, i, l, x⟩ := info_parts qS
  have b := Tryz.underlying27
  obtain ⟨v, S, W1, T, t, s1, I, s2, s3, u, B, z, ⟨C, G⟩, J⟩ := pQ (k := 3) b hi i rfl (by kernel_rfl) d h1 f c r e s M q
  have F := Lib.hid (fun ops o a w N Q E L K => @step_append_room Tryz.prog ops o a w N Q E L (.tmp 22) (.tmp 25) 27 K 41 P 3 b hi l)
  go_enter Tryz.func212, Tryz.ntmps212
  exact mQ
def OH:JN 148 41 3:=by
 intro w S y rows i b a h1 c;have d:=A (IJ w S y rows b a h1 c);have f:=A NZ;go_enter func148,ntmps148;exact mM
theorem MP : Jk 211 39 5 := by
  intro w g n y m j cur rows d h1 h2 f c r e s M q U
  obtain ⟨P, hi, i, l, x⟩ := info_parts sA
  have b := Tryz.underlying26
  obtain ⟨v, S, W1, T, t, s1, I, s2, s3, u, B, z, ⟨C, G⟩, J⟩ := pQ (k := 5) b hi i rfl (by kernel_rfl) d h1 f c r e s M q
  have F := Lib.hid (fun ops o a w N Q E L K => @step_append_room Tryz.prog ops o a w N Q E L (.tmp 22) (.tmp 25) 26 K 39 P 5 b hi l)
  go_enter Tryz.func211, Tryz.ntmps211
  exact mQ
def MZ:JN 147 39 5:=by
 intro w S y rows i b a h1 c;have d:=A (Jf w S y rows b a h1 c);have f:=A MP;go_enter func147,ntmps147;exact mM
theorem N3 : Jk 210 3 1 := by
  intro w g n y m j cur rows d h1 h2 f c r e s M q U
  obtain ⟨P, hi, i, l, x⟩ := info_parts mn
  have b := Tryz.underlying25
  obtain ⟨v, S, W1, T, t, s1, I, s2, s3, u, B, z, ⟨C, G⟩, J⟩ := pQ (k := 1) b hi i rfl (by kernel_rfl) d h1 f c r e s M q
  have F := Lib.hid (fun ops o a w N Q E L K => @step_append_room Tryz.prog ops o a w N Q E L (.tmp 22) (.tmp 25) 25 K 3 P 1 b hi l)
  go_enter Tryz.func210, Tryz.ntmps210
  exact mQ
def Mb:JN 146 3 1:=by
 intro w S y rows i b a h1 c;have d:=A (Hk w S y rows b a h1 c);have f:=A N3;go_enter func146,ntmps146;exact mM
theorem On : Jk 213 44 6 := by
  intro w g n y m j cur rows d h1 h2 f c r e s M q U
  obtain ⟨P, hi, i, l, x⟩ := info_parts qU
  have b := Tryz.underlying28
  obtain ⟨v, S, W1, T, t, s1, I, s2, s3, u, B, z, ⟨C, G⟩, J⟩ := pQ (k := 6) b hi i rfl (by kernel_rfl) d h1 f c r e s M q
  have F := Lib.hid (fun ops o a w N Q E L K => @step_append_room Tryz.prog ops o a w N Q E L (.tmp 22) (.tmp 25) 28 K 44 P 6 b hi l)
  go_enter Tryz.func213, Tryz.ntmps213
  exact mQ
def ME:JN 149 44 6:=by
 intro w S y rows i b a h1 c;have d:=A (ID w S y rows b a h1 c);have f:=A On;go_enter func149,ntmps149;exact mM
theorem MW : Jk 214 46 3 := by
  intro w g n y m j cur rows d h1 h2 f c r e s M q U
  obtain ⟨P, hi, i, l, x⟩ := info_parts rh
  have b := Tryz.underlying31
  obtain ⟨v, S, W1, T, t, s1, I, s2, s3, u, B, z, ⟨C, G⟩, J⟩ := pQ (k := 3) b hi i rfl (by kernel_rfl) d h1 f c r e s M q
  have F := Lib.hid (fun ops o a w N Q E L K => @step_append_room Tryz.prog ops o a w N Q E L (.tmp 22) (.tmp 25) 31 K 46 P 3 b hi l)
  go_enter Tryz.func214, Tryz.ntmps214
  exact mQ
def OJ:JN 150 46 3:=by
 intro w S y rows i b a h1 c;have d:=A (II w S y rows b a h1 c);have f:=A MW;go_enter func150,ntmps150;exact mM
theorem Pb : Jk 215 48 5 := by
  intro w g n y m j cur rows d h1 h2 f c r e s M q U
  obtain ⟨P, hi, i, l, x⟩ := info_parts mA
  have b := Tryz.underlying32
  obtain ⟨v, S, W1, T, t, s1, I, s2, s3, u, B, z, ⟨C, G⟩, J⟩ := pQ (k := 5) b hi i rfl (by kernel_rfl) d h1 f c r e s M q
  have F := Lib.hid (fun ops o a w N Q E L K => @step_append_room Tryz.prog ops o a w N Q E L (.tmp 22) (.tmp 25) 32 K 48 P 5 b hi l)
  go_enter Tryz.func215, Tryz.ntmps215
  exact mQ
def Ml:JN 151 48 5:=by
 intro w S y rows i b a h1 c;have d:=A (Hs w S y rows b a h1 c);have f:=A Pb;go_enter func151,ntmps151;exact mM
end
section
open Kp
theorem gU(w:U)(d A ty b:Yj)(g o e z:Nat)(a:Ym)(h n:Nat)(cur:Array Z)(t:Yj)(cs:List Z)(k p:Nat)
  (hu:Xz.underlying d=L (.slice b))(l:(Xz.info? b).map (·.size)=L k)
  (m:w.heap[g]?=L (.cells cur t (0,0)))(x:Nat.min h e=p)(s:cs.length=p*k)
  (y:∀j v,cs[j]?=L v→w.cell? (a.add j)=L v)(q:o+cs.length≤cur.size)(h1:∀v∈cs,v.oneCell'=Y):
  (Builtin.copy_ #[d,A] ty #[.slice (L ⟨g,o,I⟩) e z,.slice (L a) h n]).run Xz w=
   .ok (goInt p) (w.setRow g (putAt cur o cs.toArray)):=by
 have r:=run_loadCells_list (P:=Xz) w a cs y
 have f:=run_storeCells_at (P:=Xz) g o t cs 0 cur w m (by simpa using q) h1
 cases c:Xz.info? b with
 |none=>simp[c] at l
 |some i=>
  have hi:i.size=k:=by simpa[c] using l
  have u:(loadCells a (p*k)).run Xz w= .ok cs.toArray w:=by rw[←s];exact r
  unfold putAt
  simp[Builtin.copy_,run_underlying hu,Builtin.lenOf,Builtin.firstCells,sizeOf,typeInfo,c,hi,x,u] at f⊢
  simp[f]
def de{T:Type}(l:List T)(i:Nat)(x:T):List T:=l.take i++x::l.drop i
theorem q8{rows:List (List Z)}(a:dv k rows)(hx:ln x=k)(i:Nat):dv k (de rows i x):=by
 intro r b;unfold de at b;rcases List.mem_append.1 b with h|h
 ·exact a r (List.mem_of_mem_take h)
 ·rcases List.mem_cons.1 h with rfl|h
  ·exact hx
  ·exact a r (List.mem_of_mem_drop h)
theorem mP(l:List T)(i:Nat)(x:T)(hi:i<=ln l):(de l i x).length=ln l+1:=by
 unfold de;simp only[Yc,List.length_take,List.length_cons,List.length_drop];omega
theorem ig(h:a+X.size<=cur.size):(putAt cur a X).size=cur.size:=by
 unfold putAt;simp only[List.size_toArray,Yc,List.length_take,List.length_drop,Array.length_toList];omega
theorem tK{cur X B:Array Z}(c:a+X.size=b)(d:b+B.size<=cur.size):
  (putAt (putAt cur b B) a X).toList=cur.toList.take a++X.toList++(B.toList++cur.toList.drop (b+B.size)):=by
 have e:ln cur.toList=cur.size:=Array.length_toList;unfold putAt;simp only[Nat.add_zero,List.append_assoc,Array.length_toList];rw[c,List.take_append_of_le_length (by rw[List.length_take];omega),List.take_take,Nat.min_eq_left D,List.drop_left' (by rw[List.length_take];omega)]
theorem vT{cur X B:Array Z}(d:a+X.size=b)(e:b+B.size<=cur.size):
  (putAt (putAt cur a X) b B).toList=cur.toList.take a++X.toList++(B.toList++cur.toList.drop (b+B.size)):=by
 have f:ln cur.toList=cur.size:=Array.length_toList;have c:(cur.toList.take a++X.toList).length=b:=by simp only[Yc,List.length_take,Array.length_toList];omega
 unfold putAt;simp only[Nat.add_zero,Array.length_toList];rw[List.take_left' c,<-List.drop_drop,List.drop_left' c,d,List.drop_drop,List.append_assoc,List.append_assoc]
theorem OK{rows:List (List Z)}(a:dv k rows)(hi:i<=ln rows):
  (de rows i x).flatten=rows.flatten.take (i*k)++x++(rows.drop i).flatten:=by
 unfold de;rw[List.flatten_append,List.flatten_cons,sW a hi,List.append_assoc]
theorem px{k n i N:Nat}{rows:List (List Z)}(a:dv k rows)(j:ln rows=n)(hx:ln x=k)(hi:i<n)(l:cur.toList.take (i*k)=rows.flatten.take (i*k))(q:(n+1)*k<=cur.size)
  (g:B=cur.toList.take (i*k)++x.toArray.toList++((rows.drop i).flatten.toArray.toList++cur.toList.drop N)):B.take ((n+1)*k)=(de rows i x).flatten:=by
 subst j;have c:(rows.drop i).flatten.length=(ln rows-i)*k:=by rw[bI (λr d=>a r (List.mem_of_mem_drop d)),List.length_drop]
 obtain⟨p,b⟩:∃p,ln rows=i+p:=⟨ln rows-i,D⟩;have e:ln rows-i=p:=D;have o:(ln rows+1)*k=i*k+k+p*k:=by rw[b,Nat.add_mul,Nat.add_mul,Nat.one_mul];omega
 rw[e] at c;rw[g,OK a (Nat.le_of_lt hi),l,<-List.append_assoc,List.take_left'];have f:ln rows.flatten=ln rows*k:=bI a;have m:ln rows*k=i*k+p*k:=by rw[b,Nat.add_mul]
 simp only[Yc,List.length_take,hx,c,f];omega
end
section
open Kp
theorem Om(w:U)(base n m c i:Nat)(v:Z)(rows:List (List Z))(x:List Z)(d:w.ownsRow base 48 5 v n rows.flatten)(hx:x.length=5)(Q:∀u∈x,u.oneCell'=Y)(R:ai w c 48 x)
  (f:m=1)(aa:n≤1000000)(a:base≤w.heap.size):
  XY Xz 145 #[v,.int .i64 (n:Int),.slice (L ⟨c,0,I⟩) m i] w fun e w'=>∃v',e= .returned v'∧w'.ownsRow base 48 5 v' (n+1) (rows++[x]).flatten∧Yl base w w':=by
 obtain⟨E,hi,r,z,o⟩:=info_parts mA
 have z1:((m:Int)==0)=O:=XN.2 (by omega)
 have s:=A f
 have b:=A d
 have l:=A (show x.length=m*5 by rw[hx,f])
 have K:=A (World.news_of_block (cs:=x.toArray) (t:=48) (fr:=(0,0)) R)
 have k:=A Q
 have N:=A hi
 have B:=A r
 have J:=A z
 have P:=A o
 have X:m≤1:=by omega
 have C:∀v' (w1:U),w1.ownsRow base 48 5 v' (n+m) (rows.flatten++x)→w.grownBy w1 v.ownBlock→∃M,Ending.returned v'= .returned M∧w1.ownsRow base 48 5 M (n+1) (rows++[x]).flatten∧Yl base w w1:=by
  intro v' w1 hown hgrow
  rw[s.out] at hown
  refine⟨v',rfl,by simpa using hown,(XI base w).grown hgrow a (fun q hq=>(aH b.out q hq).1)⟩
 have j:=A C
 clear C f hx Q R hi r z o
 obtain⟨_,⟨rfl,rfl⟩|⟨g,y,cur,rfl,hb,W,h1,h2,S,T⟩⟩:=id d
 ·clear d
  go_enter func145,ntmps145
  go_wp2_with(at_builtin;refine wpList_append_own _ rfl _ _ 32 rfl base 48 E (.agg #[.int .i64 0,.int .i64 0,.int .i64 0,.int .i64 0,.int .i64 0]) 5 40 underlying32 N.out B.out J.out P.out rfl (by decide) _ 0 _ rfl b.out ⟨c,0,I⟩ m i x rfl l.out K.out k.out (by unfold Yk;omega) (by omega) a ?_)
  intro v' w1 hown hgrow hnil
  go_wp2
  go_ret
  exact j.out v' w1 (by rw[Nat.zero_add];exact hown) hgrow
 ·clear d W S T
  unfold Yk at h2
  go_enter func145,ntmps145
  go_wp2_with(at_builtin;refine wpList_append_own _ rfl _ _ 32 rfl base 48 E (.agg #[.int .i64 0,.int .i64 0,.int .i64 0,.int .i64 0,.int .i64 0]) 5 40 underlying32 N.out B.out J.out P.out rfl (by decide) _ n _ rfl b.out ⟨c,0,I⟩ m i x rfl l.out K.out k.out (by unfold Yk;omega) (by omega) a ?_)
  all_goals
   intro v' w1 hown hgrow hnil
   go_wp2
   go_ret
   exact j.out v' w1 hown hgrow
theorem Fl(w:U)(base g n y i m j C:Nat)(cur:Array Z)(rows:List (List Z))(x:List Z)(hb:base≤g)(q:w.heap[g]?=L (.cells cur 48 (0,0)))(h2:y≤Yk)(f:cur.size=y*5)(J:cur.toList.take (n*5)=rows.flatten)
  (c:rows.length=n)(b:dv 5 rows)(s:jA rows)(hx:x.length=5)(am:∀u∈x,u.oneCell'=Y)(z:ai w j 48 x)(aj:j≠g)(d:m=1)(ar:i<n)(au:n+m≤y)(aw:n≤1000000):
  XY Xz 145 #[.slice (L ⟨g,0,I⟩) n y,.int .i64 (i:Int),.slice (L ⟨j,0,I⟩) m C] w fun e w'=>∃v',e= .returned v'∧w'.ownsRow base 48 5 v' (n+1) (de rows i x).flatten∧Yl g w w':=by
 obtain⟨i0,hi,aq,ab,ap⟩:=info_parts mA
 unfold Yk at h2
 have z1:((m:Int)==0)=O:=XN.2 (by omega)
 have z2:((i:Int)==(n:Int))=O:=XN.2 (by omega)
 have ac:(Xz.info? 48).map (·.size)=L 5:=by rw[hi];simp[ab]
 have ag:∀w,(Go.sizeOf 48).run Xz w= .ok 5 w:=fun w=>by simp[sizeOf,typeInfo,hi,ab]
 have ao:rows.flatten.length=n*5:=by rw[bI b,c]
 obtain⟨B,k⟩:=aa ((rows.drop i).flatten)
 have a:B.length=(n-i)*5:=by rw[←k,bI (fun r hr=>b r (List.mem_of_mem_drop hr)),List.length_drop,c]
 have ae:∀u∈B,u.oneCell'=Y:=by
  intro u hu
  rw[←k] at hu
  obtain⟨r,hr,hur⟩:=List.mem_flatten.1 hu
  exact s r (List.mem_of_mem_drop hr) u hur
 have ak:∀t u,B[t]?=L u→w.cell? ⟨g,i*5+t,I⟩=L u:=by
  intro t u hu
  have ht:t<B.length:=(List.getElem?_eq_some_iff.1 hu).1
  rw[←k,←kL b (by omega),List.getElem?_drop,←J,List.getElem?_take] at hu
  rw[XT (by rw[a] at ht;omega)] at hu
  rw[show w.cell? ⟨g,i*5+t,I⟩=cur[i*5+t]? by simp[World.cell?,q]]
  simpa using hu
 have an:∀lb X,(callFunc 208 #[.slice (L ⟨j,0,I⟩) m C,.slice (L ⟨g,(i+m)*5,I⟩) lb X]).run Xz w= .ok (.value (.bool O)) w:=fun lb X=>by
  rw[run_callFunc_extern func208 (by kernel_rfl) (by kernel_rfl) (by kernel_rfl) (e:=Extern.SlicesOverlaps.overlaps #[32,32] #[4]) (by kernel_rfl),
   Lib.run_overlaps_apart w 32 4 48 underlying32 5 ag ⟨j,0,I⟩ ⟨g,(i+m)*5,I⟩ m C lb X aj 48 48 x.length cur.size (by unfold ai at z;simp[World.shape?,z]) (by simp[World.shape?,q]) (by omega) (z.frozen _) (z.frozen _)]
  rfl
 have T:∀ty l sc,(Builtin.copy_ #[32,32] ty #[.slice (L ⟨g,(i+m)*5,I⟩) (n+m-(i+m)) l,.slice (L ⟨g,i*5,I⟩) (n+m-i) sc]).run Xz w.drew= .ok (goInt ((n-i:Nat):Int)) (w.drew.setRow g (putAt cur ((i+m)*5) B.toArray)):=fun ty l sc=>
  gU w.drew _ _ ty 48 g ((i+m)*5) (n+m-(i+m)) l ⟨g,i*5,I⟩ (n+m-i) sc cur 48 B 5 (n-i) underlying32 ac q (by simp only[Nat.min_def];split <;>omega) a
   (fun t u hu=>by rw[Addr.add_lit];exact ak t u hu) (by rw[a,f];omega) ae
 have c1:(putAt cur ((i+m)*5) B.toArray).size=y*5:=by rw[ig (by simp[a,f];omega),f]
 obtain⟨W1,E⟩:=aa (w.drew.setRow g (putAt cur ((i+m)*5) B.toArray))
 rw[E] at T
 have v:W1.heap[g]?=L (.cells (putAt cur ((i+m)*5) B.toArray) 48 (0,0)):=by rw[←E];exact setRow_heap (w:=w.drew) q _
 have P:Yl g w W1:=by rw[←E];exact al (Below.drew (XI _ _)) (XE _) _
 have ah:ai W1 j 48 x:=by
  have:(w.drew.setRow g (putAt cur ((i+m)*5) B.toArray)).heap[j]?=w.heap[j]?:=by simp only[World.setRow,Array.getElem?_modify];rw[XQ (Ne.symm aj)];rfl
  unfold ai
  rw[←E,this]
  exact z
 have ad:∀(W:U),W.heap=W1.heap→∀ty l,(Builtin.copy_ #[32,32] ty #[.slice (L ⟨g,i*5,I⟩) (n+m-i) l,.slice (L ⟨j,0,I⟩) m C]).run Xz W= .ok (goInt m) (W.setRow g (putAt (putAt cur ((i+m)*5) B.toArray) (i*5) x.toArray)):=fun W o ty l=>
  gU W _ _ ty 48 g (i*5) (n+m-i) l ⟨j,0,I⟩ m C _ 48 x 5 m underlying32 ac (by rw[o];exact v) (by simp only[Nat.min_def];split <;>omega) (by rw[hx,d])
   (fun t u hu=>by rw[Addr.add_lit,Nat.zero_add];exact(World.cell?_of_block (by rw[o])).trans ((ah.cell t).trans hu)) (by rw[hx,c1];omega) am
 have M:(putAt (putAt cur ((i+m)*5) B.toArray) (i*5) x.toArray).size=y*5:=by rw[ig (by rw[c1];simp[hx];omega),c1]
 have K:(putAt (putAt cur ((i+m)*5) B.toArray) (i*5) x.toArray).toList.take ((n+1)*5)=(de rows i x).flatten:=by
  refine px (cur:=cur) b c hx ar ?_ (by rw[f];omega) (N:=(i+m)*5+B.length) ?_
  ·rw[←J,List.take_take,Nat.min_eq_left (by omega)]
  ·rw[tK (by simp only[List.size_toArray,hx,d];omega) (by simp only[List.size_toArray,a,f];omega),k,List.size_toArray]
 have Q:(de rows i x).flatten.length=(n+1)*5:=by rw[bI (q8 b hx i),mP rows i x (by omega),c]
 have S:n+1≤y:=by omega
 have af:∀W:U,W.heap=W1.heap→(Yl g w W1→Yl g w W)→∃v',Ending.returned (.slice (L ⟨g,0,I⟩) (n+m) y)= .returned v'∧(W.setRow g (putAt (putAt cur ((i+m)*5) B.toArray) (i*5) x.toArray)).ownsRow base 48 5 v' (n+1) (de rows i x).flatten∧Yl g w (W.setRow g (putAt (putAt cur ((i+m)*5) B.toArray) (i*5) x.toArray)):=by
  intro W o hbW
  refine⟨_,rfl,⟨Q,.inr ⟨g,y,_,by rw[d],hb,setRow_heap (by rw[o];exact v) _,S,by unfold Yk;omega,M,K⟩⟩,al (hbW P) (XE _) _⟩
 have HF:=A af
 have H1:=A T
 have H2:=A ad
 have av:Xz.follows .mixedOrders=Y:=by kernel_rfl
 have q1:i≤n:=by omega
 have w1:F.wrap ((i:Int)+(m:Int))=(i:Int)+(m:Int):=by rw[IntKind.wrap_i64];omega
 have w2:(0:Int)≤(i:Int)+(m:Int):=by omega
 have w3:((i:Int)+(m:Int)).toNat=i+m:=by omega
 have w4:(i:Int)≤(n:Int)+(m:Int):=by omega
 have q2:¬(y=i+m):=by omega
 have q3:¬(y=i):=by omega
 have q4:m≤1:=by omega
 have q5:1≤m:=by omega
 clear af T ad E v P ah c1 M K Q S d ak ae a k ao ac ag f J q z hx am b s c hi aq ab ap
 go_enter func145,ntmps145
 go_wp2_with(simp only[an])
 go_region_law_o(refine step_copy_runI rfl _ _ 32 32 rfl _ _ (by simp[Act.eval,Act.put]) (by simp[Act.eval,Act.put]) (H1.out 3 (y-(i+m)) (y-i)) ?_)
 have ax:=H2.out W1 rfl
 go_wp2
 go_ret
 exact HF.out _ rfl (fun h=>h)
theorem Ls(w:U)(base g n y i m K vc:Nat)(cur:Array Z)(rows:List (List Z))(x:List Z)(ad:base≤w.heap.size)(q:w.heap[g]?=L (.cells cur 48 (0,0)))(h3:cur.size=y*5)(J:cur.toList.take (n*5)=rows.flatten)
  (c:rows.length=n)(b:dv 5 rows)(s:jA rows)(hx:x.length=5)(aB:∀u∈x,u.oneCell'=Y)(ar:ai w K 48 x)(d:m=1)(aF:i<n)(aH:n≤y)(aC:y<n+m)(aI:n≤1000000):
  XY Xz 145 #[.slice (L ⟨g,0,I⟩) n y,.int .i64 (i:Int),.slice (L ⟨K,0,I⟩) m vc] w fun e w'=>∃v',e= .returned v'∧w'.ownsRow base 48 5 v' (n+1) (de rows i x).flatten∧Yl base w w':=by
 obtain⟨i0,hi,au,ae,E⟩:=info_parts mA
 have z1:((m:Int)==0)=O:=XN.2 (by omega)
 have z2:((i:Int)==(n:Int))=O:=XN.2 (by omega)
 have af:(Xz.info? 48).map (·.size)=L 5:=by rw[hi];simp[ae]
 have W:g<w.heap.size:=(XV.1 q).1
 have aq:rows.flatten.length=n*5:=by rw[bI b,c]
 obtain⟨B,k⟩:=aa ((rows.drop i).flatten)
 have a:B.length=(n-i)*5:=by rw[←k,bI (fun r hr=>b r (List.mem_of_mem_drop hr)),List.length_drop,c]
 have ak:∀u∈B,u.oneCell'=Y:=by
  intro u hu
  rw[←k] at hu
  obtain⟨r,hr,hur⟩:=List.mem_flatten.1 hu
  exact s r (List.mem_of_mem_drop hr) u hur
 have ax:∀t u,B[t]?=L u→w.cell? ⟨g,i*5+t,I⟩=L u:=by
  intro t u hu
  have ht:t<B.length:=(List.getElem?_eq_some_iff.1 hu).1
  rw[←k,←kL b (by omega),List.getElem?_drop,←J,List.getElem?_take] at hu
  rw[XT (by rw[a] at ht;omega)] at hu
  rw[show w.cell? ⟨g,i*5+t,I⟩=cur[i*5+t]? by simp[World.cell?,q]]
  simpa using hu
 have o:(rows.flatten.take (i*5)).length=i*5:=by rw[List.length_take,aq];omega
 have aw:(Builtin.firstCells i0.size i (.slice (L ⟨g,0,I⟩) i y)).run Xz w.drew= .ok (rows.flatten.take (i*5)).toArray w.drew:=by
  rw[ae]
  exact run_firstCells_some w.drew 5 i ⟨g,0,I⟩ i y (rows.flatten.take (i*5)) o (fun t u hu=>by
   rw[Addr.add_lit,Nat.zero_add]
   have ht:t<i*5:=by rw[←o];exact(List.getElem?_eq_some_iff.1 hu).1
   rw[List.getElem?_take,XT ht,←J,List.getElem?_take,XT (by omega)] at hu
   show w.cell? ⟨g,t,I⟩=L u
   rw[show w.cell? ⟨g,t,I⟩=cur[t]? by simp[World.cell?,q]]
   simpa using hu)
 have X:i+(n+m-i)=n+m:=by omega
 have aj:(n:Int)+(m:Int)-(i:Int)=((n+m-i:Nat):Int):=by omega
 obtain⟨f,S⟩:=aa (grownCap w (n+m) y 48)
 have aJ:n+m≤f:=by rw[←S];exact grownCap_ge w _ _ _
 have ao:f≤Yk:=by rw[←S];exact grownCap_le_maxLen w (n+m) y 48 (by unfold Yk;omega)
 obtain⟨j,v⟩:=aa ((rows.flatten.take (i*5)).toArray++Builtin.zeroCells (Value.cells (.agg #[.int .i64 0,.int .i64 0,.int .i64 0,.int .i64 0,.int .i64 0])) (n+m-i)++Builtin.zeroCells (Value.cells (.agg #[.int .i64 0,.int .i64 0,.int .i64 0,.int .i64 0,.int .i64 0])) (f-(n+m)):Array Z)
 have l:j.size=f*5:=by
  rw[←v]
  simp only[Array.size_append,List.size_toArray,o,Builtin.zeroCells,Array.size_map,Array.size_range]
  show i*5+(n+m-i)*5+(f-(n+m))*5=_
  omega
 have ay:j.toList.take (i*5)=rows.flatten.take (i*5):=by
  rw[←v,Array.toList_append,Array.toList_append,List.append_assoc,List.take_left' o]
 have ap:∀ty,(Builtin.append_ #[32,3] ty #[.slice (L ⟨g,0,I⟩) i y,.int .i64 ((n:Int)+(m:Int)-(i:Int))]).run Xz w=
   .ok (.slice (L ⟨w.heap.size,0,I⟩) (n+m) f) (w.drew.alloc (.cells j 48)):=fun ty=>by
  have h:=Lib.run_append_grow_zeros w 32 3 ty 48 i0 _ .i64 .i64 underlying32 underlying3 hi au (L ⟨g,0,I⟩) i y _ aw (n+m-i) (by omega) (by omega) (by omega) (by omega) (by rw[E];omega) (by rw[E,X];exact growslice_fits aC (by omega))
  rw[X,S] at h
  rw[aj,←v]
  exact h
 obtain⟨W1,Q⟩:=aa (w.drew.alloc (.cells j 48))
 rw[Q] at ap
 have ab:W1.heap[w.heap.size]?=L (.cells j 48 (0,0)):=by rw[←Q];exact XZ w.drew _
 have M:Yl w.heap.size w W1:=by rw[←Q];exact(Below.drew (XI _ _)).alloc (XE _) _
 have an:ai W1 K 48 x:=ar.ext M
 have aD:∀t u,w.cell? ⟨g,t,I⟩=L u→W1.cell? ⟨g,t,I⟩=L u:=fun t u h=>(M.cell W).trans h
 have aE:∀ty C,(Builtin.copy_ #[32,32] ty #[.slice (L ⟨w.heap.size,i*5,I⟩) (n+m-i) C,.slice (L ⟨K,0,I⟩) m vc]).run Xz W1= .ok (goInt m) (W1.setRow w.heap.size (putAt j (i*5) x.toArray)):=fun ty C=>
  gU W1 _ _ ty 48 w.heap.size (i*5) (n+m-i) C ⟨K,0,I⟩ m vc _ 48 x 5 m underlying32 af ab (by simp only[Nat.min_def];split <;>omega) (by rw[hx,d])
   (fun t u hu=>by rw[Addr.add_lit,Nat.zero_add];exact(an.cell t).trans hu) (by rw[hx,l];omega) aB
 obtain⟨z,P⟩:=aa (W1.setRow w.heap.size (putAt j (i*5) x.toArray))
 rw[P] at aE
 have c1:(putAt j (i*5) x.toArray).size=f*5:=by rw[ig (by simp only[List.size_toArray,hx,l];omega),l]
 have ac:z.heap[w.heap.size]?=L (.cells (putAt j (i*5) x.toArray) 48 (0,0)):=by rw[←P];exact setRow_heap ab _
 have T:Yl w.heap.size w z:=by rw[←P];exact al M (XE _) _
 have az:∀ty C sc,(Builtin.copy_ #[32,32] ty #[.slice (L ⟨w.heap.size,(i+m)*5,I⟩) (n+m-(i+m)) C,.slice (L ⟨g,i*5,I⟩) (n-i) sc]).run Xz z.drew= .ok (goInt ((n-i:Nat):Int)) (z.drew.setRow w.heap.size (putAt (putAt j (i*5) x.toArray) ((i+m)*5) B.toArray)):=fun ty C sc=>
  gU z.drew _ _ ty 48 w.heap.size ((i+m)*5) (n+m-(i+m)) C ⟨g,i*5,I⟩ (n-i) sc _ 48 B 5 (n-i) underlying32 af ac (by simp only[Nat.min_def];split <;>omega) a
   (fun t u hu=>by rw[Addr.add_lit];exact(T.cell W).trans (ax t u hu)) (by rw[a,c1];omega) ak
 have ah:(putAt (putAt j (i*5) x.toArray) ((i+m)*5) B.toArray).size=f*5:=by rw[ig (by simp only[List.size_toArray,a,c1];omega),c1]
 have ag:(putAt (putAt j (i*5) x.toArray) ((i+m)*5) B.toArray).toList.take ((n+1)*5)=(de rows i x).flatten:=by
  refine px (cur:=j) b c hx aF ay (by rw[l];omega) (N:=(i+m)*5+B.length) ?_
  rw[vT (by simp only[List.size_toArray,hx,d];omega) (by simp only[List.size_toArray,a,l];omega),k,List.size_toArray]
 have av:(de rows i x).flatten.length=(n+1)*5:=by rw[bI (q8 b hx i),mP rows i x (by omega),c]
 have aA:n+1≤f:=by omega
 have am:∃v',Ending.returned (.slice (L ⟨w.heap.size,0,I⟩) (n+m) f)= .returned v'∧(z.drew.setRow w.heap.size (putAt (putAt j (i*5) x.toArray) ((i+m)*5) B.toArray)).ownsRow base 48 5 v' (n+1) (de rows i x).flatten∧Yl base w (z.drew.setRow w.heap.size (putAt (putAt j (i*5) x.toArray) ((i+m)*5) B.toArray)):=
  ⟨_,rfl,⟨av,.inr ⟨w.heap.size,f,_,by rw[d],ad,setRow_heap (w:=z.drew) ac _,aA,ao,ah,ag⟩⟩,al ((Below.drew T).mono ad) ad _⟩
 have HF:=A am
 have HB:=A az
 have aG:Xz.follows .mixedOrders=Y:=by kernel_rfl
 unfold Yk at ao
 have q1:i≤n:=by omega
 have w1:F.wrap ((i:Int)+(m:Int))=(i:Int)+(m:Int):=by rw[IntKind.wrap_i64];omega
 have w2:(0:Int)≤(i:Int)+(m:Int):=by omega
 have w3:((i:Int)+(m:Int)).toNat=i+m:=by omega
 have w4:(i:Int)≤(n:Int)+(m:Int):=by omega
 have w5:(y:Int)<(n:Int)+(m:Int):=by omega
 have q2:¬(f=i+m):=by omega
 have q3:¬(f=i):=by omega
 have q4:m≤1:=by omega
 have q5:1≤m:=by omega
 have q6:¬(y=i):=by omega
 clear am az Q P ab ac M T an aD c1 ah ag av aA d ax ak a k aq af h3 J q ar hx aB b s c hi au ae E aw o X aj l ay v S W
 go_enter func145,ntmps145
 go_wp2_with(at_builtin;refine Lib.wpList_append_run _ rfl _ _ _ _ rfl _ _ rfl rfl _ _ (ap _) ?_)
 go_region_law_o(refine step_copy_runI rfl _ _ 32 32 rfl (.slice (L ⟨w.heap.size,(i+m)*5,I⟩) (n+m-(i+m)) (f-(i+m))) (.slice (L ⟨g,i*5,I⟩) (n-i) (y-i)) (by simp[Act.eval,Act.put]) (by simp[Act.eval,Act.put]) (HB.out 3 (f-(i+m)) (y-i)) ?_)
 go_wp2
 go_ret
 exact HF.out
def NN(w:U)(base n i a b:Nat)(v:Z)(rows:List (List Z))(x:List Z)(t:w.ownsRow base 48 5 v n rows.flatten)(d:ln rows=n)(k:dv 5 rows)(o:jA rows)
  (hx:ln x=5)(f:∀u∈x,u.oneCell'=Y)(j:ai w a 48 x)(C:v.ownBlock≠L a)(hi:i<=n)(c:n<=1000000)(m:base<=w.heap.size):
  XY Xz 145 #[v,G F (i:Int),V (L ⟨a,0,I⟩) 1 b] w λe w'=>∃v',e=YC v'/\w'.ownsRow base 48 5 v' (n+1) (de rows i x).flatten/\Yl base w w':=by
 by_cases z:i=n
 ·subst z;have e:de rows i x=rows++[x]:=by unfold de;rw[<-d,List.take_length,List.drop_length]
  rw[e];exact Om w base i 1 a b v rows x t hx f j H c m
 ·obtain⟨g,y,cur,rfl,q,s,h1,h2,l,r⟩:=j1 t D;by_cases A:n+1<=y
  ·refine(Fl w base g n y i 1 a b cur rows x q s h2 l r d k o hx f j (λe=>C Z4) H D A c).mono ?_;rintro e w' ⟨v',rfl,B,E⟩;exact⟨v',H,B,E.mono q⟩
  ·exact Ls w base g n y i 1 a b cur rows x m s l r d k o hx f j H D h1 D c
theorem Nn(w:U)(base n m c i:Nat)(v:Z)(rows:List (List Z))(x:List Z)(d:w.ownsRow base 3 1 v n rows.flatten)(hx:x.length=1)(Q:∀u∈x,u.oneCell'=Y)(R:ai w c 3 x)
  (f:m=1)(aa:n≤1000000)(a:base≤w.heap.size):
  XY Xz 134 #[v,.int .i64 (n:Int),.slice (L ⟨c,0,I⟩) m i] w fun e w'=>∃v',e= .returned v'∧w'.ownsRow base 3 1 v' (n+1) (rows++[x]).flatten∧Yl base w w':=by
 obtain⟨E,hi,r,z,o⟩:=info_parts mn
 have z1:((m:Int)==0)=O:=XN.2 (by omega)
 have s:=A f
 have b:=A d
 have l:=A (show x.length=m*1 by rw[hx,f])
 have K:=A (World.news_of_block (cs:=x.toArray) (t:=3) (fr:=(0,0)) R)
 have k:=A Q
 have N:=A hi
 have B:=A r
 have J:=A z
 have P:=A o
 have X:m≤1:=by omega
 have C:∀v' (w1:U),w1.ownsRow base 3 1 v' (n+m) (rows.flatten++x)→w.grownBy w1 v.ownBlock→∃M,Ending.returned v'= .returned M∧w1.ownsRow base 3 1 M (n+1) (rows++[x]).flatten∧Yl base w w1:=by
  intro v' w1 hown hgrow
  rw[s.out] at hown
  refine⟨v',rfl,by simpa using hown,(XI base w).grown hgrow a (fun q hq=>(aH b.out q hq).1)⟩
 have j:=A C
 clear C f hx Q R hi r z o
 obtain⟨_,⟨rfl,rfl⟩|⟨g,y,cur,rfl,hb,W,h1,h2,S,T⟩⟩:=id d
 ·clear d
  go_enter func134,ntmps134
  go_wp2_with(at_builtin;refine wpList_append_own _ rfl _ _ 25 rfl base 3 E (.int .i64 0) 1 8 underlying25 N.out B.out J.out P.out rfl (by decide) _ 0 _ rfl b.out ⟨c,0,I⟩ m i x rfl l.out K.out k.out (by unfold Yk;omega) (by omega) a ?_)
  intro v' w1 hown hgrow hnil
  go_wp2
  go_ret
  exact j.out v' w1 (by rw[Nat.zero_add];exact hown) hgrow
 ·clear d W S T
  unfold Yk at h2
  go_enter func134,ntmps134
  go_wp2_with(at_builtin;refine wpList_append_own _ rfl _ _ 25 rfl base 3 E (.int .i64 0) 1 8 underlying25 N.out B.out J.out P.out rfl (by decide) _ n _ rfl b.out ⟨c,0,I⟩ m i x rfl l.out K.out k.out (by unfold Yk;omega) (by omega) a ?_)
  all_goals
   intro v' w1 hown hgrow hnil
   go_wp2
   go_ret
   exact j.out v' w1 hown hgrow
theorem GG(w:U)(base g n y i m j C:Nat)(cur:Array Z)(rows:List (List Z))(x:List Z)(hb:base≤g)(q:w.heap[g]?=L (.cells cur 3 (0,0)))(h2:y≤Yk)(f:cur.size=y*1)(J:cur.toList.take (n*1)=rows.flatten)
  (c:rows.length=n)(b:dv 1 rows)(s:jA rows)(hx:x.length=1)(an:∀u∈x,u.oneCell'=Y)(z:ai w j 3 x)(aj:j≠g)(d:m=1)(au:i<n)(av:n+m≤y)(ax:n≤1000000):
  XY Xz 134 #[.slice (L ⟨g,0,I⟩) n y,.int .i64 (i:Int),.slice (L ⟨j,0,I⟩) m C] w fun e w'=>∃v',e= .returned v'∧w'.ownsRow base 3 1 v' (n+1) (de rows i x).flatten∧Yl g w w':=by
 obtain⟨i0,hi,aq,ab,ap⟩:=info_parts mn
 unfold Yk at h2
 have z1:((m:Int)==0)=O:=XN.2 (by omega)
 have z2:((i:Int)==(n:Int))=O:=XN.2 (by omega)
 have ac:(Xz.info? 3).map (·.size)=L 1:=by rw[hi];simp[ab]
 have ag:∀w,(Go.sizeOf 3).run Xz w= .ok 1 w:=fun w=>by simp[sizeOf,typeInfo,hi,ab]
 have ao:rows.flatten.length=n*1:=by rw[bI b,c]
 obtain⟨B,k⟩:=aa ((rows.drop i).flatten)
 have a:B.length=(n-i)*1:=by rw[←k,bI (fun r hr=>b r (List.mem_of_mem_drop hr)),List.length_drop,c]
 have ae:∀u∈B,u.oneCell'=Y:=by
  intro u hu
  rw[←k] at hu
  obtain⟨r,hr,hur⟩:=List.mem_flatten.1 hu
  exact s r (List.mem_of_mem_drop hr) u hur
 have am:∀t u,B[t]?=L u→w.cell? ⟨g,i*1+t,I⟩=L u:=by
  intro t u hu
  have ht:t<B.length:=(List.getElem?_eq_some_iff.1 hu).1
  rw[←k,←kL b (by omega),List.getElem?_drop,←J,List.getElem?_take] at hu
  rw[XT (by rw[a] at ht;omega)] at hu
  rw[show w.cell? ⟨g,i*1+t,I⟩=cur[i*1+t]? by simp[World.cell?,q]]
  simpa using hu
 have ak:∀lb X,(callFunc 204 #[.slice (L ⟨j,0,I⟩) m C,.slice (L ⟨g,(i+m)*1,I⟩) lb X]).run Xz w= .ok (.value (.bool O)) w:=fun lb X=>by
  rw[run_callFunc_extern func204 (by kernel_rfl) (by kernel_rfl) (by kernel_rfl) (e:=Extern.SlicesOverlaps.overlaps #[25,25] #[4]) (by kernel_rfl),
   Lib.run_overlaps_apart w 25 4 3 underlying25 1 ag ⟨j,0,I⟩ ⟨g,(i+m)*1,I⟩ m C lb X aj 3 3 x.length cur.size (by unfold ai at z;simp[World.shape?,z]) (by simp[World.shape?,q]) (by omega) (z.frozen _) (z.frozen _)]
  rfl
 have T:∀ty l sc,(Builtin.copy_ #[25,25] ty #[.slice (L ⟨g,(i+m)*1,I⟩) (n+m-(i+m)) l,.slice (L ⟨g,i*1,I⟩) (n+m-i) sc]).run Xz w.drew= .ok (goInt ((n-i:Nat):Int)) (w.drew.setRow g (putAt cur ((i+m)*1) B.toArray)):=fun ty l sc=>
  gU w.drew _ _ ty 3 g ((i+m)*1) (n+m-(i+m)) l ⟨g,i*1,I⟩ (n+m-i) sc cur 3 B 1 (n-i) underlying25 ac q (by simp only[Nat.min_def];split <;>omega) a
   (fun t u hu=>by rw[Addr.add_lit];exact am t u hu) (by rw[a,f];omega) ae
 have c1:(putAt cur ((i+m)*1) B.toArray).size=y*1:=by rw[ig (by simp[a,f];omega),f]
 obtain⟨W1,E⟩:=aa (w.drew.setRow g (putAt cur ((i+m)*1) B.toArray))
 rw[E] at T
 have v:W1.heap[g]?=L (.cells (putAt cur ((i+m)*1) B.toArray) 3 (0,0)):=by rw[←E];exact setRow_heap (w:=w.drew) q _
 have P:Yl g w W1:=by rw[←E];exact al (Below.drew (XI _ _)) (XE _) _
 have ah:ai W1 j 3 x:=by
  have:(w.drew.setRow g (putAt cur ((i+m)*1) B.toArray)).heap[j]?=w.heap[j]?:=by simp only[World.setRow,Array.getElem?_modify];rw[XQ (Ne.symm aj)];rfl
  unfold ai
  rw[←E,this]
  exact z
 have ad:∀(W:U),W.heap=W1.heap→∀ty l,(Builtin.copy_ #[25,25] ty #[.slice (L ⟨g,i*1,I⟩) (n+m-i) l,.slice (L ⟨j,0,I⟩) m C]).run Xz W= .ok (goInt m) (W.setRow g (putAt (putAt cur ((i+m)*1) B.toArray) (i*1) x.toArray)):=fun W o ty l=>
  gU W _ _ ty 3 g (i*1) (n+m-i) l ⟨j,0,I⟩ m C _ 3 x 1 m underlying25 ac (by rw[o];exact v) (by simp only[Nat.min_def];split <;>omega) (by rw[hx,d])
   (fun t u hu=>by rw[Addr.add_lit,Nat.zero_add];exact(World.cell?_of_block (by rw[o])).trans ((ah.cell t).trans hu)) (by rw[hx,c1];omega) an
 have M:(putAt (putAt cur ((i+m)*1) B.toArray) (i*1) x.toArray).size=y*1:=by rw[ig (by rw[c1];simp[hx];omega),c1]
 have K:(putAt (putAt cur ((i+m)*1) B.toArray) (i*1) x.toArray).toList.take ((n+1)*1)=(de rows i x).flatten:=by
  refine px (cur:=cur) b c hx au ?_ (by rw[f];omega) (N:=(i+m)*1+B.length) ?_
  ·rw[←J,List.take_take,Nat.min_eq_left (by omega)]
  ·rw[tK (by simp only[List.size_toArray,hx,d];omega) (by simp only[List.size_toArray,a,f];omega),k,List.size_toArray]
 have Q:(de rows i x).flatten.length=(n+1)*1:=by rw[bI (q8 b hx i),mP rows i x (by omega),c]
 have S:n+1≤y:=by omega
 have af:∀W:U,W.heap=W1.heap→(Yl g w W1→Yl g w W)→∃v',Ending.returned (.slice (L ⟨g,0,I⟩) (n+m) y)= .returned v'∧(W.setRow g (putAt (putAt cur ((i+m)*1) B.toArray) (i*1) x.toArray)).ownsRow base 3 1 v' (n+1) (de rows i x).flatten∧Yl g w (W.setRow g (putAt (putAt cur ((i+m)*1) B.toArray) (i*1) x.toArray)):=by
  intro W o hbW
  refine⟨_,rfl,⟨Q,.inr ⟨g,y,_,by rw[d],hb,setRow_heap (by rw[o];exact v) _,S,by unfold Yk;omega,M,K⟩⟩,al (hbW P) (XE _) _⟩
 have HF:=A af
 have H1:=A T
 have H2:=A ad
 have aw:Xz.follows .mixedOrders=Y:=by kernel_rfl
 have q1:i≤n:=by omega
 have w1:F.wrap ((i:Int)+(m:Int))=(i:Int)+(m:Int):=by rw[IntKind.wrap_i64];omega
 have w2:(0:Int)≤(i:Int)+(m:Int):=by omega
 have w3:((i:Int)+(m:Int)).toNat=i+m:=by omega
 have w4:(i:Int)≤(n:Int)+(m:Int):=by omega
 have q2:¬(y=i+m):=by omega
 have q3:¬(y=i):=by omega
 have q4:m≤1:=by omega
 have q5:1≤m:=by omega
 clear af T ad E v P ah c1 M K Q S d am ae a k ao ac ag f J q z hx an b s c hi aq ab ap
 simp only[Nat.mul_one] at ak
 go_enter func134,ntmps134
 go_wp2_with(simp only[ak])
 go_region_law_o(refine step_copy_runI rfl _ _ 25 25 rfl _ _ (by simp[Act.eval,Act.put]) (by simp[Act.eval,Act.put]) (H1.out 3 (y-(i+m)) (y-i)) ?_)
 have ar:=H2.out W1 rfl
 simp only[Nat.mul_one] at ar
 go_wp2
 go_ret
 have hf:=HF.out _ rfl (fun h=>h)
 simp only[Nat.mul_one] at hf⊢
 exact hf
theorem LM(w:U)(base g n y i m K vc:Nat)(cur:Array Z)(rows:List (List Z))(x:List Z)(ad:base≤w.heap.size)(q:w.heap[g]?=L (.cells cur 3 (0,0)))(h3:cur.size=y*1)(J:cur.toList.take (n*1)=rows.flatten)
  (c:rows.length=n)(b:dv 1 rows)(s:jA rows)(hx:x.length=1)(aC:∀u∈x,u.oneCell'=Y)(ar:ai w K 3 x)(d:m=1)(aF:i<n)(aH:n≤y)(aD:y<n+m)(aI:n≤1000000):
  XY Xz 134 #[.slice (L ⟨g,0,I⟩) n y,.int .i64 (i:Int),.slice (L ⟨K,0,I⟩) m vc] w fun e w'=>∃v',e= .returned v'∧w'.ownsRow base 3 1 v' (n+1) (de rows i x).flatten∧Yl base w w':=by
 obtain⟨i0,hi,av,ae,E⟩:=info_parts mn
 have z1:((m:Int)==0)=O:=XN.2 (by omega)
 have z2:((i:Int)==(n:Int))=O:=XN.2 (by omega)
 have af:(Xz.info? 3).map (·.size)=L 1:=by rw[hi];simp[ae]
 have W:g<w.heap.size:=(XV.1 q).1
 have aq:rows.flatten.length=n*1:=by rw[bI b,c]
 obtain⟨B,k⟩:=aa ((rows.drop i).flatten)
 have a:B.length=(n-i)*1:=by rw[←k,bI (fun r hr=>b r (List.mem_of_mem_drop hr)),List.length_drop,c]
 have ak:∀u∈B,u.oneCell'=Y:=by
  intro u hu
  rw[←k] at hu
  obtain⟨r,hr,hur⟩:=List.mem_flatten.1 hu
  exact s r (List.mem_of_mem_drop hr) u hur
 have ay:∀t u,B[t]?=L u→w.cell? ⟨g,i*1+t,I⟩=L u:=by
  intro t u hu
  have ht:t<B.length:=(List.getElem?_eq_some_iff.1 hu).1
  rw[←k,←kL b (by omega),List.getElem?_drop,←J,List.getElem?_take] at hu
  rw[XT (by rw[a] at ht;omega)] at hu
  rw[show w.cell? ⟨g,i*1+t,I⟩=cur[i*1+t]? by simp[World.cell?,q]]
  simpa using hu
 have o:(rows.flatten.take (i*1)).length=i*1:=by rw[List.length_take,aq];omega
 have ax:(Builtin.firstCells i0.size i (.slice (L ⟨g,0,I⟩) i y)).run Xz w.drew= .ok (rows.flatten.take (i*1)).toArray w.drew:=by
  rw[ae]
  exact run_firstCells_some w.drew 1 i ⟨g,0,I⟩ i y (rows.flatten.take (i*1)) o (fun t u hu=>by
   rw[Addr.add_lit,Nat.zero_add]
   have ht:t<i*1:=by rw[←o];exact(List.getElem?_eq_some_iff.1 hu).1
   rw[List.getElem?_take,XT ht,←J,List.getElem?_take,XT (by omega)] at hu
   show w.cell? ⟨g,t,I⟩=L u
   rw[show w.cell? ⟨g,t,I⟩=cur[t]? by simp[World.cell?,q]]
   simpa using hu)
 have X:i+(n+m-i)=n+m:=by omega
 have aj:(n:Int)+(m:Int)-(i:Int)=((n+m-i:Nat):Int):=by omega
 obtain⟨f,S⟩:=aa (grownCap w (n+m) y 3)
 have aJ:n+m≤f:=by rw[←S];exact grownCap_ge w _ _ _
 have ao:f≤Yk:=by rw[←S];exact grownCap_le_maxLen w (n+m) y 3 (by unfold Yk;omega)
 obtain⟨j,v⟩:=aa ((rows.flatten.take (i*1)).toArray++Builtin.zeroCells (Value.cells (.int .i64 0)) (n+m-i)++Builtin.zeroCells (Value.cells (.int .i64 0)) (f-(n+m)):Array Z)
 have l:j.size=f*1:=by
  rw[←v]
  simp only[Array.size_append,List.size_toArray,o,Builtin.zeroCells,Array.size_map,Array.size_range]
  show i*1+(n+m-i)*1+(f-(n+m))*1=_
  omega
 have az:j.toList.take (i*1)=rows.flatten.take (i*1):=by
  rw[←v,Array.toList_append,Array.toList_append,List.append_assoc,List.take_left' o]
 have ap:∀ty,(Builtin.append_ #[25,3] ty #[.slice (L ⟨g,0,I⟩) i y,.int .i64 ((n:Int)+(m:Int)-(i:Int))]).run Xz w=
   .ok (.slice (L ⟨w.heap.size,0,I⟩) (n+m) f) (w.drew.alloc (.cells j 3)):=fun ty=>by
  have h:=Lib.run_append_grow_zeros w 25 3 ty 3 i0 _ .i64 .i64 underlying25 underlying3 hi av (L ⟨g,0,I⟩) i y _ ax (n+m-i) (by omega) (by omega) (by omega) (by omega) (by rw[E];omega) (by rw[E,X];exact growslice_fits aD (by omega))
  rw[X,S] at h
  rw[aj,←v]
  exact h
 obtain⟨W1,Q⟩:=aa (w.drew.alloc (.cells j 3))
 rw[Q] at ap
 have ab:W1.heap[w.heap.size]?=L (.cells j 3 (0,0)):=by rw[←Q];exact XZ w.drew _
 have M:Yl w.heap.size w W1:=by rw[←Q];exact(Below.drew (XI _ _)).alloc (XE _) _
 have an:ai W1 K 3 x:=ar.ext M
 have aE:∀t u,w.cell? ⟨g,t,I⟩=L u→W1.cell? ⟨g,t,I⟩=L u:=fun t u h=>(M.cell W).trans h
 have au:∀ty C,(Builtin.copy_ #[25,25] ty #[.slice (L ⟨w.heap.size,i*1,I⟩) (n+m-i) C,.slice (L ⟨K,0,I⟩) m vc]).run Xz W1= .ok (goInt m) (W1.setRow w.heap.size (putAt j (i*1) x.toArray)):=fun ty C=>
  gU W1 _ _ ty 3 w.heap.size (i*1) (n+m-i) C ⟨K,0,I⟩ m vc _ 3 x 1 m underlying25 af ab (by simp only[Nat.min_def];split <;>omega) (by rw[hx,d])
   (fun t u hu=>by rw[Addr.add_lit,Nat.zero_add];exact(an.cell t).trans hu) (by rw[hx,l];omega) aC
 obtain⟨z,P⟩:=aa (W1.setRow w.heap.size (putAt j (i*1) x.toArray))
 rw[P] at au
 have c1:(putAt j (i*1) x.toArray).size=f*1:=by rw[ig (by simp only[List.size_toArray,hx,l];omega),l]
 have ac:z.heap[w.heap.size]?=L (.cells (putAt j (i*1) x.toArray) 3 (0,0)):=by rw[←P];exact setRow_heap ab _
 have T:Yl w.heap.size w z:=by rw[←P];exact al M (XE _) _
 have aA:∀ty C sc,(Builtin.copy_ #[25,25] ty #[.slice (L ⟨w.heap.size,(i+m)*1,I⟩) (n+m-(i+m)) C,.slice (L ⟨g,i*1,I⟩) (n-i) sc]).run Xz z.drew= .ok (goInt ((n-i:Nat):Int)) (z.drew.setRow w.heap.size (putAt (putAt j (i*1) x.toArray) ((i+m)*1) B.toArray)):=fun ty C sc=>
  gU z.drew _ _ ty 3 w.heap.size ((i+m)*1) (n+m-(i+m)) C ⟨g,i*1,I⟩ (n-i) sc _ 3 B 1 (n-i) underlying25 af ac (by simp only[Nat.min_def];split <;>omega) a
   (fun t u hu=>by rw[Addr.add_lit];exact(T.cell W).trans (ay t u hu)) (by rw[a,c1];omega) ak
 have ah:(putAt (putAt j (i*1) x.toArray) ((i+m)*1) B.toArray).size=f*1:=by rw[ig (by simp only[List.size_toArray,a,c1];omega),c1]
 have ag:(putAt (putAt j (i*1) x.toArray) ((i+m)*1) B.toArray).toList.take ((n+1)*1)=(de rows i x).flatten:=by
  refine px (cur:=j) b c hx aF az (by rw[l];omega) (N:=(i+m)*1+B.length) ?_
  rw[vT (by simp only[List.size_toArray,hx,d];omega) (by simp only[List.size_toArray,a,l];omega),k,List.size_toArray]
 have aw:(de rows i x).flatten.length=(n+1)*1:=by rw[bI (q8 b hx i),mP rows i x (by omega),c]
 have aB:n+1≤f:=by omega
 have am:∃v',Ending.returned (.slice (L ⟨w.heap.size,0,I⟩) (n+m) f)= .returned v'∧(z.drew.setRow w.heap.size (putAt (putAt j (i*1) x.toArray) ((i+m)*1) B.toArray)).ownsRow base 3 1 v' (n+1) (de rows i x).flatten∧Yl base w (z.drew.setRow w.heap.size (putAt (putAt j (i*1) x.toArray) ((i+m)*1) B.toArray)):=
  ⟨_,rfl,⟨aw,.inr ⟨w.heap.size,f,_,by rw[d],ad,setRow_heap (w:=z.drew) ac _,aB,ao,ah,ag⟩⟩,al ((Below.drew T).mono ad) ad _⟩
 have HF:=A am
 have HB:=A aA
 have aG:Xz.follows .mixedOrders=Y:=by kernel_rfl
 unfold Yk at ao
 have q1:i≤n:=by omega
 have w1:F.wrap ((i:Int)+(m:Int))=(i:Int)+(m:Int):=by rw[IntKind.wrap_i64];omega
 have w2:(0:Int)≤(i:Int)+(m:Int):=by omega
 have w3:((i:Int)+(m:Int)).toNat=i+m:=by omega
 have w4:(i:Int)≤(n:Int)+(m:Int):=by omega
 have w5:(y:Int)<(n:Int)+(m:Int):=by omega
 have q2:¬(f=i+m):=by omega
 have q3:¬(f=i):=by omega
 have q4:m≤1:=by omega
 have q5:1≤m:=by omega
 have q6:¬(y=i):=by omega
 clear am aA Q P ab ac M T an aE c1 ah ag aw aB d ay ak a k aq af h3 J q ar hx aC b s c hi av ae E ax o X aj l az v S W
 simp only[Nat.mul_one] at au
 go_enter func134,ntmps134
 go_wp2_with(at_builtin;refine Lib.wpList_append_run _ rfl _ _ _ _ rfl _ _ rfl rfl _ _ (ap _) ?_)
 go_region_law_o(refine step_copy_runI rfl _ _ 25 25 rfl (.slice (L ⟨w.heap.size,(i+m)*1,I⟩) (n+m-(i+m)) (f-(i+m))) (.slice (L ⟨g,i*1,I⟩) (n-i) (y-i)) (by simp[Act.eval,Act.put]) (by simp[Act.eval,Act.put]) (HB.out 3 (f-(i+m)) (y-i)) ?_)
 go_wp2
 go_ret
 have hf:=HF.out
 simp only[Nat.mul_one] at hf⊢
 exact hf
def OX(w:U)(base n i a b:Nat)(v:Z)(rows:List (List Z))(x:List Z)(t:w.ownsRow base 3 1 v n rows.flatten)(d:ln rows=n)(k:dv 1 rows)(o:jA rows)
  (hx:ln x=1)(f:∀u∈x,u.oneCell'=Y)(j:ai w a 3 x)(C:v.ownBlock≠L a)(hi:i<=n)(c:n<=1000000)(m:base<=w.heap.size):
  XY Xz 134 #[v,G F (i:Int),V (L ⟨a,0,I⟩) 1 b] w λe w'=>∃v',e=YC v'/\w'.ownsRow base 3 1 v' (n+1) (de rows i x).flatten/\Yl base w w':=by
 by_cases z:i=n
 ·subst z;have e:de rows i x=rows++[x]:=by unfold de;rw[<-d,List.take_length,List.drop_length]
  rw[e];exact Nn w base i 1 a b v rows x t hx f j H c m
 ·obtain⟨g,y,cur,rfl,q,s,h1,h2,l,r⟩:=j1 t D;by_cases A:n+1<=y
  ·refine(GG w base g n y i 1 a b cur rows x q s h2 l r d k o hx f j (λe=>C Z4) H D A c).mono ?_;rintro e w' ⟨v',rfl,B,E⟩;exact⟨v',H,B,E.mono q⟩
  ·exact LM w base g n y i 1 a b cur rows x m s l r d k o hx f j H D h1 D c
end
section
open Kp
def dM(w:U)(q:Nat):Ext w (w.drewN q):=below_drewN (XI _ _) q
def RO(w:U)(S:Option Ym)(y:Nat)(l:List Int)(x:Int)(g:bR 1 w w.heap.size S y (aU l))(i:l.Pairwise (· <= ·))(m:ln l<=1000000):
  XY Xz 133 #[V S (ln l) y,G F x] w λe w'=>e=YC (YF #[G F (l.countP (· <x):Nat),Yz (l.contains x)])/\Ext w w':=by
 obtain⟨h1,h2,a⟩:=g;rw[XP] at h1 a;by_cases f:ln l=0
 ·obtain rfl:=List.length_eq_zero_iff.1 f;refine(slices_BinarySearch_int_empty S y x w).mono ?_;rintro e w' ⟨rfl,rfl⟩;exact⟨H,Ext.ah _⟩
 ·obtain⟨b,off,rfl,k,d⟩:=a D;refine(slices_BinarySearch_int b off (ln l) y l x w (XE _) D (λj c=> ?_) (by rw[List.take_length];exact i)).mono ?_
  ·have:=d j c 0 YK;rwa[je c,Nat.one_mul,Nat.add_zero] at this
  ·rintro e w' ⟨rfl,q,rfl⟩;rw[List.take_length];exact⟨H,dM _ _⟩
theorem tH(h:iv l=0):l.Pairwise (· <= ·)/\ln l<=16:=by
 unfold iv at h;split at h
 ·omega
 ·rename_i g;refine⟨?_,D⟩;have b:=ij h;have f:∀i,i+1<ln l->l.getD i 0<l.getD (i+1) 0:=by
   intro i hi;have:=b (i+1) hi;simp only[Nat.add_sub_cancel] at this;split at this
   ·omega
   ·split at this
    ·omega
    ·rename_i h2;rcases Int.lt_or_le (l.getD i 0) (l.getD (i+1) 0) with a|a
     ·exact a
     ·exact absurd ⟨Nat.succ_pos i,a⟩ h2
  have c:∀d i,i+d<ln l->l.getD i 0<=l.getD (i+d) 0:=by
   intro d
   induction d with
   |zero=>intro i _;exact Int.le_refl _
   |succ d e=>
    intro i hi;have h1:=e i D;have h2:=f (i+d) D;rw[show i+(d+1)=i+d+1 by omega];omega
  rw[List.pairwise_iff_getElem];intro i k hi hk j;have:=c (k-i) i D;rw[show i+(k-i)=k by omega] at this;simpa[List.getD,XO hi,XO hk] using this
end
section
open Kp
attribute [local go_sem] bJ gE fX gA gC fN fG fU fI gD gy dQ dO dR dn dq
attribute [local go_sem] aF dG eV gJ il gL gK gM gN gW gZ en ef eh dZ dk eL eP dW dX dU dV eo dt eH eI dY eO eR eK eB eM ff eY fe eZ dd dP
theorem QA{i:Int}(h:cj n i=0):i.toNat<n:=by
 unfold cj at h;split at h
 ·omega
 ·cases h
theorem kK{l:List T}{i:Int}(h:cj (ln l) i=0):ln l-1=(l.eraseIdx i.toNat).length:=by
 rw[List.length_eraseIdx,XT (QA h)]
def jX(c b cell:Nat)(e:Ed)(S:Option Ym)(n y:Nat):Nat->Z
 |0=> YA (L ⟨c,0,I⟩)
 |1=> YA (L ⟨c,0,I⟩)
 |2=> YA (L ⟨c,0,I⟩)
 |3=> YA (L ⟨c,cell,I⟩)
 |4=> V S n y
 |5=> YA (L ⟨b,1,I⟩)
 |6=> G F e.index
 |10=> G F (cj n e.index)
 |11=> YA (L ⟨c,0,I⟩)
 |12=> YA (L ⟨c,cell,I⟩)
 |_=>M
theorem kO(h:p:=by
  intro i B d W hi hL hI hd;have HI:=A hI;rcases(show i=0\/i=1\/i=2\/i=3\/i=4\/i=5\/i=6\/i=7\/i=8\/i=9\/i=10\/i=11\/i=12\/i=13 by omega) with rfl|rfl|rfl|rfl|rfl|rfl|rfl|rfl|rfl|rfl|rfl|rfl|rfl|rfl<;>clear hi hI<;>refine XR rfl (λK hK=> ?_)
  ·exact a2j
  ·exact a2j
  ·have d1:=HI.o.vals 1 (hd 1 R) YK;simp only[jX] at d1;go_simp;exact hK _ _ ⟨_,by simp[bN,jX,d1],HI.o.pure YK rfl⟩
  ·have d2:=HI.o.vals 2 (hd 2 R) YK;simp only[jX] at d2;go_simp;exact hK _ _ ⟨_,by simp[bN,jX,d2],HI.o.pure YK rfl⟩
  ·have d3:=HI.o.vals 3 (hd 3 R) YK;simp only[jX] at d3;have hx:=HI.o.load (k:=4) YK hL;have mm:=(s.o.ext hx).cell;clear hx;go_simp;exact hK _ _ ⟨_,by simp[bN,jX,d3],HI.o.pure YK rfl⟩
  ·exact a2j
  ·have d5:=HI.o.vals 5 (hd 5 R) YK;simp only[jX] at d5;have hx:=HI.o.load (k:=6) YK hL;have mm:=(u.o.ext hx).cell 1;clear hx;go_simp;exact hK _ _ ⟨_,by simp[bN,jX,d5],HI.o.pure YK rfl⟩
  ·have d4:=HI.o.vals 4 (hd 4 R) YK;simp only[jX] at d4;have d6:=HI.o.vals 6 (hd 6 R) YK;simp only[jX] at d6;have hx:=A (HI.o.ext hL);go_simp;rw[<-t.o];refine(y.o _ hx.o).mono ?_;rintro x W1 ⟨v,hsl,rfl,b,hX⟩;exact hK _ _ ⟨_,by simp[bN,d4,d6,t.o],HI.o.call hL (by intro k hk;simp at hk;rcases hk with rfl|rfl<;>exact hd _ R) hX ⟨hsl,λh=>ft (b (t.o.symm▸h)) (Ye m.o.size hx.o.size)⟩⟩
  ·go_simp;exact hK _ _ ⟨d 7,by simp[bN],HI.o.move hL (hd 7 R)⟩
  ·obtain⟨v,ht,hn⟩:=HI.o.first hL (hd 8 R);exact a2i
  ·obtain⟨v,ht⟩:=HI.o.Wx (hd 8 R);go_simp;exact hK _ _ ⟨_,by simp[bN,jX,ht],HI.o.pure YK rfl⟩
  ·have d0:=HI.o.vals 0 (hd 0 R) YK;simp only[jX] at d0;go_simp;exact hK _ _ ⟨_,by simp[bN,jX,d0],HI.o.pure YK rfl⟩
  ·have d11:=HI.o.vals 11 (hd 11 R) YK;simp only[jX] at d11;go_simp;exact hK _ _ ⟨_,by simp[bN,jX,d11],HI.o.pure YK rfl⟩
  ·have d12:=HI.o.vals 12 (hd 12 R) YK;simp only[jX] at d12;obtain⟨hx,⟨⟨A1,n1,c1,hv⟩,_⟩,hn⟩:=HI.o.store hL (hd 9 R) H;rw[hv] at hn;have hw:d 9=V A1 n1 c1:=hv;clear hv;have mm:=(s.o.ext hx).cell;have nn:=(s.o.ext hx).frozen;clear hx;go_simp;exact hK _ _ ⟨M,by simp[bN,d12,hw],hn⟩):p:=h
theorem mo(h:p:=by
  intro B d W hL hI;obtain⟨he,v,W1,hx,⟨_,b⟩,rfl⟩:=hI.done hL;have h10:=he;simp only[Nat.reduceAdd,jX] at h10;have HX:=A hx;have HO:=A b;clear hx b he hI;simp only[h10,List.drop_succ_cons,List.drop_zero];go_wp2;go_ret;exact⟨H,C.o W1 v HX.o,λh=>z.o W1 v HX.o h (HO.o h)⟩):p:=h
theorem pA{j:bO}{a:cO}(e:Ed)(g:Z)(d:JC w c j a):∃b,Hid (w.alloc (.cells (P e g) 50)=b)/\Hid (EC b w.heap.size (P e g))/\Hid (Ext w b)/\Hid (JC b c j a)/\(w.alloc (.cells (P e g) 50)).cell? ⟨w.heap.size,35,I⟩=(P e g)[35]?:=
 ⟨_,A rfl,A (EC.new w _),A ((XI _ _).alloc (XE _) _),A (d.ext ((XI _ _).alloc (XE _) _)),(EC.new w (P e g)).cell 35⟩
def Mp(w:U)(c:Nat)(j:bO)(a:cO)(e:Ed)(g:Z)(E:JC w c j a){X:Nat->Prop}(O:fP X w c j a)(q:ln j.purlins<=1000000)(o:e.number=4):
  XY Xz 78 #[YA (L ⟨c,0,I⟩),YE (P e g)] w λx w'=>x=YC (G F (cj (ln j.purlins) e.index))/\ew c w w'/\(cj (ln j.purlins) e.index=0->∃a',kW X c w w' {j with purlins:=j.purlins.eraseIdx e.index.toNat} a'):=by
 have N:=E.lt;obtain⟨J,S,u,m,s,T⟩:=pA e g E;have D:=m.o;have y:=A (λ(W:U) (h:Ext J W)=>Mb W a.ua a.uc (aU j.purlins) e.index ((O.u.below ((D.tr h).mono (Nat.le_of_lt N))).more (Ye (Nat.le_of_lt N) (D.tr h).size)) (bQ (f:=λn=>[G F n]) (λ_=>rfl) _) (wG _) ZP);have Q:(aU j.purlins).eraseIdx e.index.toNat=aU (j.purlins.eraseIdx e.index.toNat):=gG (λn:Int=>([G F n]:List Z)) j.purlins e.index.toNat;have z:=A (λ(W1:U) (v:Z) (hx:Ext J W1) (r:cj (ln j.purlins) e.index=0) (b:W1.ownsRow w.heap.size 3 1 v ((aU j.purlins).length-1) ((aU j.purlins).eraseIdx e.index.toNat).flatten)=>I7 (l:=j.purlins.eraseIdx e.index.toNat) E O (D.tr hx) (by rw[kK (l:=(aU j.purlins)) a0b,Q] at b;exact b));have C:=A (λ(W1:U) (v:Z) (hx:Ext J W1)=>((ew.ext (D.tr hx) N).put 4 v:ew c w (W1.setCell ⟨c,4,I⟩ v)));have t:=A (show(aU j.purlins).length=ln j.purlins by exact XP _);have t0:(e.number==4)=Y:=Zl;clear E O D o Q;go_enter func78,ntmps78;go_wp2_with fail
 rw[S.o];refine wp_region_any R (cP 14 (λd=>⟨#[YA (L ⟨c,0,I⟩),YE (P e g),M,YA (L ⟨w.heap.size,0,I⟩),G F 0,YA (L ⟨w.heap.size,35,I⟩),G F e.number,Yz Y,Yz Y,d 8,d 0,d 1,d 2,d 3,d 4,d 5,d 6,d 7,d 9,d 10,d 11,d 12,M,M,M,M,M,M,M,M,M,M,M,M,M,M,M,M,M,M,M,M,M,M,M,M,M,M,M,M,M,M,M,M,M,M,M,M,M,M,M,M,M,M,M,M,M,M,M,M,M,M,M,M,M,M,M,M,M,M,M,M,M,M,M,M,M,M,M,M,M,M,M,M,M,M,M,M],[]⟩)
  (λB d W=>eJ J (jX c w.heap.size 4 e a.ua (ln j.purlins) a.uc) (λv W1=>rX v/\(cj (ln j.purlins) e.index=0->W1.ownsRow w.heap.size 3 1 v ((aU j.purlins).length-1) ((aU j.purlins).eraseIdx e.index.toNat).flatten)) (G F (cj (ln j.purlins) e.index)) ⟨c,4,I⟩ 7 [4,6] B d W) R ?step ?tail (λ_=>M) _ (eJ.start (Ext.dr _)))
 case step=>exact kO
 case tail=>exact mo
def Oh(w:U)(c:Nat)(j:bO)(a:cO)(e:Ed)(g:Z)(n:JC w c j a){X:Nat->Prop}(J:fP X w c j a)(q:ln j.openings<=1000000)(o:e.number=5):
  XY Xz 78 #[YA (L ⟨c,0,I⟩),YE (P e g)] w λx w'=>x=YC (G F (cj (ln j.openings) e.index))/\ew c w w'/\(cj (ln j.openings) e.index=0->∃a',kW X c w w' {j with openings:=j.openings.eraseIdx e.index.toNat} a'):=by
 have E:=n.lt;obtain⟨D,Q,u,m,s,S⟩:=pA e g n;have f:=m.o;have y:=A (λ(W:U) (h:Ext D W)=>MZ W a.oa a.oc (aV j.openings) e.index ((J.o.below ((f.tr h).mono (Nat.le_of_lt E))).more (Ye (Nat.le_of_lt E) (f.tr h).size)) (lU _) (Bl _) ZP);have N:(aV j.openings).eraseIdx e.index.toNat=aV (j.openings.eraseIdx e.index.toNat):=gG uk j.openings e.index.toNat;have z:=A (λ(W1:U) (v:Z) (hx:Ext D W1) (r:cj (ln j.openings) e.index=0) (b:W1.ownsRow w.heap.size 39 5 v ((aV j.openings).length-1) ((aV j.openings).eraseIdx e.index.toNat).flatten)=>IK (l:=j.openings.eraseIdx e.index.toNat) n J (f.tr hx) (by rw[kK (l:=(aV j.openings)) a0b,N] at b;exact b));have C:=A (λ(W1:U) (v:Z) (hx:Ext D W1)=>((ew.ext (f.tr hx) E).put 5 v:ew c w (W1.setCell ⟨c,5,I⟩ v)));have t:=A (show(aV j.openings).length=ln j.openings by exact XP _);have t0:(e.number==4)=O:=Zl;have T:(e.number==5)=Y:=Zl;clear n J f o N;go_enter func78,ntmps78;go_wp2_with fail
 rw[Q.o];refine wp_region_any R (cP 14 (λd=>⟨#[YA (L ⟨c,0,I⟩),YE (P e g),M,YA (L ⟨w.heap.size,0,I⟩),G F 0,YA (L ⟨w.heap.size,35,I⟩),G F e.number,Yz O,Yz O,M,M,M,M,M,M,M,M,M,M,M,M,M,Yz Y,Yz Y,d 8,d 0,d 1,d 2,d 3,d 4,d 5,d 6,d 7,d 9,d 10,d 11,d 12,M,M,M,M,M,M,M,M,M,M,M,M,M,M,M,M,M,M,M,M,M,M,M,M,M,M,M,M,M,M,M,M,M,M,M,M,M,M,M,M,M,M,M,M,M,M,M,M,M,M,M,M,M,M,M,M,M,M,M,M,M],[]⟩)
  (λB d W=>eJ D (jX c w.heap.size 5 e a.oa (ln j.openings) a.oc) (λv W1=>rX v/\(cj (ln j.openings) e.index=0->W1.ownsRow w.heap.size 39 5 v ((aV j.openings).length-1) ((aV j.openings).eraseIdx e.index.toNat).flatten)) (G F (cj (ln j.openings) e.index)) ⟨c,5,I⟩ 7 [4,6] B d W) R ?step ?tail (λ_=>M) _ (eJ.start (Ext.dr _)))
 case step=>exact kO
 case tail=>exact mo
def Ny(w:U)(c:Nat)(j:bO)(a:cO)(e:Ed)(g:Z)(n:JC w c j a){X:Nat->Prop}(J:fP X w c j a)(q:ln j.sizes<=1000000)(o:e.number=6):
  XY Xz 78 #[YA (L ⟨c,0,I⟩),YE (P e g)] w λx w'=>x=YC (G F (cj (ln j.sizes) e.index))/\ew c w w'/\(cj (ln j.sizes) e.index=0->∃a',kW X c w w' {j with sizes:=j.sizes.eraseIdx e.index.toNat} a'):=by
 have E:=n.lt;obtain⟨D,Q,u,m,s,S⟩:=pA e g n;have f:=m.o;have y:=A (λ(W:U) (h:Ext D W)=>OH W a.za a.zc (bf j.sizes) e.index ((J.z.below ((f.tr h).mono (Nat.le_of_lt E))).more (Ye (Nat.le_of_lt E) (f.tr h).size)) (Bk _) (Fz _) ZP);have N:(bf j.sizes).eraseIdx e.index.toNat=bf (j.sizes.eraseIdx e.index.toNat):=gG yV j.sizes e.index.toNat;have z:=A (λ(W1:U) (v:Z) (hx:Ext D W1) (r:cj (ln j.sizes) e.index=0) (b:W1.ownsRow w.heap.size 41 3 v ((bf j.sizes).length-1) ((bf j.sizes).eraseIdx e.index.toNat).flatten)=>Hz (l:=j.sizes.eraseIdx e.index.toNat) n J (f.tr hx) (by rw[kK (l:=(bf j.sizes)) a0b,N] at b;exact b));have C:=A (λ(W1:U) (v:Z) (hx:Ext D W1)=>((ew.ext (f.tr hx) E).put 6 v:ew c w (W1.setCell ⟨c,6,I⟩ v)));have t:=A (show(bf j.sizes).length=ln j.sizes by exact XP _);have t0:(e.number==4)=O:=Zl;have T:(e.number==5)=O:=Zl;have t2:(e.number==6)=Y:=Zl;clear n J f o N;go_enter func78,ntmps78;go_wp2_with fail
 rw[Q.o];refine wp_region_any R (cP 14 (λd=>⟨#[YA (L ⟨c,0,I⟩),YE (P e g),M,YA (L ⟨w.heap.size,0,I⟩),G F 0,YA (L ⟨w.heap.size,35,I⟩),G F e.number,Yz O,Yz O,M,M,M,M,M,M,M,M,M,M,M,M,M,Yz O,Yz O,M,M,M,M,M,M,M,M,M,M,M,M,M,Yz Y,Yz Y,d 8,d 0,d 1,d 2,d 3,d 4,d 5,d 6,d 7,d 9,d 10,d 11,d 12,M,M,M,M,M,M,M,M,M,M,M,M,M,M,M,M,M,M,M,M,M,M,M,M,M,M,M,M,M,M,M,M,M,M,M,M,M,M,M,M,M,M,M,M,M,M],[]⟩)
  (λB d W=>eJ D (jX c w.heap.size 6 e a.za (ln j.sizes) a.zc) (λv W1=>rX v/\(cj (ln j.sizes) e.index=0->W1.ownsRow w.heap.size 41 3 v ((bf j.sizes).length-1) ((bf j.sizes).eraseIdx e.index.toNat).flatten)) (G F (cj (ln j.sizes) e.index)) ⟨c,6,I⟩ 7 [4,6] B d W) R ?step ?tail (λ_=>M) _ (eJ.start (Ext.dr _)))
 case step=>exact kO
 case tail=>exact mo
def PC(w:U)(c:Nat)(j:bO)(a:cO)(e:Ed)(g:Z)(n:JC w c j a){X:Nat->Prop}(E:fP X w c j a)(S:ln j.bars<=1000000)(o:e.number=7):
  XY Xz 78 #[YA (L ⟨c,0,I⟩),YE (P e g)] w λx w'=>x=YC (G F (cj (ln j.bars) e.index))/\ew c w w'/\(cj (ln j.bars) e.index=0->∃a',kW X c w w' {j with bars:=j.bars.eraseIdx e.index.toNat} a'):=by
 have D:=n.lt;obtain⟨rows,f,N,J⟩:=lX E (Nat.le_of_lt n.lt);obtain⟨r,Q,u,m,s,aa⟩:=pA e g n;have q:=m.o;have y:=A (λ(W:U) (h:Ext r W)=>ME W a.ba a.bc rows e.index ((N.below ((q.tr h).mono (Nat.le_of_lt D))).more (Ye (Nat.le_of_lt D) (q.tr h).size)) f.wide f.one (by rw[f.1];exact S));have z:=A (λ(W1:U) (v:Z) (hx:Ext r W1) (h0:cj (ln j.bars) e.index=0) (b:W1.ownsRow w.heap.size 44 6 v (ln rows-1) (rows.eraseIdx e.index.toNat).flatten)=>IT n E (q.tr hx) (f.erase e.index.toNat) (λW T=>(J W T).erase e.index.toNat) (by rw[kK (l:=rows) (by rw[f.1];exact h0)] at b;exact b));have C:=A (λ(W1:U) (v:Z) (hx:Ext r W1)=>((ew.ext (q.tr hx) D).put 7 v:ew c w (W1.setCell ⟨c,7,I⟩ v)));have t:=A (show ln rows=ln j.bars by exact f.1);have t0:(e.number==4)=O:=Zl;have t1:(e.number==5)=O:=Zl;have t2:(e.number==6)=O:=Zl;have t3:(e.number==7)=Y:=Zl;clear n E q o f N J;go_enter func78,ntmps78;go_wp2_with fail
 rw[Q.o];refine wp_region_any R (cP 14 (λd=>⟨#[YA (L ⟨c,0,I⟩),YE (P e g),M,YA (L ⟨w.heap.size,0,I⟩),G F 0,YA (L ⟨w.heap.size,35,I⟩),G F e.number,Yz O,Yz O,M,M,M,M,M,M,M,M,M,M,M,M,M,Yz O,Yz O,M,M,M,M,M,M,M,M,M,M,M,M,M,Yz O,Yz O,M,M,M,M,M,M,M,M,M,M,M,M,M,Yz Y,Yz Y,d 8,d 0,d 1,d 2,d 3,d 4,d 5,d 6,d 7,d 9,d 10,d 11,d 12,M,M,M,M,M,M,M,M,M,M,M,M,M,M,M,M,M,M,M,M,M,M,M,M,M,M,M,M,M,M,M],[]⟩)
  (λB d W=>eJ r (jX c w.heap.size 7 e a.ba (ln j.bars) a.bc) (λv W1=>rX v/\(cj (ln j.bars) e.index=0->W1.ownsRow w.heap.size 44 6 v (ln rows-1) (rows.eraseIdx e.index.toNat).flatten)) (G F (cj (ln j.bars) e.index)) ⟨c,7,I⟩ 7 [4,6] B d W) R ?step ?tail (λ_=>M) _ (eJ.start (Ext.dr _)))
 case step=>exact kO
 case tail=>exact mo
def NF(w:U)(c:Nat)(j:bO)(a:cO)(e:Ed)(g:Z)(n:JC w c j a){X:Nat->Prop}(J:fP X w c j a)(q:ln j.aq<=1000000)(o:e.number=10):
  XY Xz 78 #[YA (L ⟨c,0,I⟩),YE (P e g)] w λx w'=>x=YC (G F (cj (ln j.aq) e.index))/\ew c w w'/\(cj (ln j.aq) e.index=0->∃a',kW X c w w' {j with aq:=j.aq.eraseIdx e.index.toNat} a'):=by
 have E:=n.lt;obtain⟨D,Q,u,m,s,T⟩:=pA e g n;have f:=m.o;have y:=A (λ(W:U) (h:Ext D W)=>OJ W a.la a.lc (bG j.aq) e.index ((J.l.below ((f.tr h).mono (Nat.le_of_lt E))).more (Ye (Nat.le_of_lt E) (f.tr h).size)) (nN _) (AV _) ZP);have N:(bG j.aq).eraseIdx e.index.toNat=bG (j.aq.eraseIdx e.index.toNat):=gG MK j.aq e.index.toNat;have z:=A (λ(W1:U) (v:Z) (hx:Ext D W1) (r:cj (ln j.aq) e.index=0) (b:W1.ownsRow w.heap.size 46 3 v ((bG j.aq).length-1) ((bG j.aq).eraseIdx e.index.toNat).flatten)=>IG (l:=j.aq.eraseIdx e.index.toNat) n J (f.tr hx) (by rw[kK (l:=(bG j.aq)) a0b,N] at b;exact b));have C:=A (λ(W1:U) (v:Z) (hx:Ext D W1)=>((ew.ext (f.tr hx) E).put 13 v:ew c w (W1.setCell ⟨c,13,I⟩ v)));have t:=A (show(bG j.aq).length=ln j.aq by exact XP _);have t0:(e.number==4)=O:=Zl;have t1:(e.number==5)=O:=Zl;have t2:(e.number==6)=O:=Zl;have S:(e.number==7)=O:=Zl;have t4:(e.number==10)=Y:=Zl;clear n J f o N;go_enter func78,ntmps78;go_wp2_with fail
 rw[Q.o];refine wp_region_any R (cP 14 (λd=>⟨#[YA (L ⟨c,0,I⟩),YE (P e g),M,YA (L ⟨w.heap.size,0,I⟩),G F 0,YA (L ⟨w.heap.size,35,I⟩),G F e.number,Yz O,Yz O,M,M,M,M,M,M,M,M,M,M,M,M,M,Yz O,Yz O,M,M,M,M,M,M,M,M,M,M,M,M,M,Yz O,Yz O,M,M,M,M,M,M,M,M,M,M,M,M,M,Yz O,Yz O,M,M,M,M,M,M,M,M,M,M,M,M,M,Yz Y,Yz Y,d 8,d 0,d 1,d 2,d 3,d 4,d 5,d 6,d 7,d 9,d 10,d 11,d 12,M,M,M,M,M,M,M,M,M,M,M,M,M,M,M,M],[]⟩)
  (λB d W=>eJ D (jX c w.heap.size 13 e a.la (ln j.aq) a.lc) (λv W1=>rX v/\(cj (ln j.aq) e.index=0->W1.ownsRow w.heap.size 46 3 v ((bG j.aq).length-1) ((bG j.aq).eraseIdx e.index.toNat).flatten)) (G F (cj (ln j.aq) e.index)) ⟨c,13,I⟩ 7 [4,6] B d W) R ?step ?tail (λ_=>M) _ (eJ.start (Ext.dr _)))
 case step=>exact kO
 case tail=>exact mo
def Mr(w:U)(c:Nat)(j:bO)(a:cO)(e:Ed)(g:Z)(D:JC w c j a){X:Nat->Prop}(N:fP X w c j a)(q:ln j.spans<=1000000)(o:e.number=11):
  XY Xz 78 #[YA (L ⟨c,0,I⟩),YE (P e g)] w λx w'=>x=YC (G F (cj (ln j.spans) e.index))/\ew c w w'/\(cj (ln j.spans) e.index=0->∃a',kW X c w w' {j with spans:=j.spans.eraseIdx e.index.toNat} a'):=by
 have J:=D.lt;obtain⟨E,S,u,m,s,aa⟩:=pA e g D;have n:=m.o;have y:=A (λ(W:U) (h:Ext E W)=>Ml W a.sa a.sc (aO j.spans) e.index ((N.s.below ((n.tr h).mono (Nat.le_of_lt J))).more (Ye (Nat.le_of_lt J) (n.tr h).size)) (bQ (f:=iI) (λ_=>rfl) _) (zQ _) ZP);have Q:(aO j.spans).eraseIdx e.index.toNat=aO (j.spans.eraseIdx e.index.toNat):=gG iI j.spans e.index.toNat;have z:=A (λ(W1:U) (v:Z) (hx:Ext E W1) (r:cj (ln j.spans) e.index=0) (b:W1.ownsRow w.heap.size 48 5 v ((aO j.spans).length-1) ((aO j.spans).eraseIdx e.index.toNat).flatten)=>BU (l:=j.spans.eraseIdx e.index.toNat) D N (n.tr hx) (by rw[kK (l:=(aO j.spans)) a0b,Q] at b;exact b));have C:=A (λ(W1:U) (v:Z) (hx:Ext E W1)=>((ew.ext (n.tr hx) J).put 14 v:ew c w (W1.setCell ⟨c,14,I⟩ v)));have t:=A (show(aO j.spans).length=ln j.spans by exact XP _);have t0:(e.number==4)=O:=Zl;have t1:(e.number==5)=O:=Zl;have t2:(e.number==6)=O:=Zl;have T:(e.number==7)=O:=Zl;have t4:(e.number==10)=O:=Zl;have t5:(e.number==11)=Y:=Zl;clear D N n o Q;go_enter func78,ntmps78;go_wp2_with fail
 rw[S.o];refine wp_region_any R (cP 14 (λd=>⟨#[YA (L ⟨c,0,I⟩),YE (P e g),M,YA (L ⟨w.heap.size,0,I⟩),G F 0,YA (L ⟨w.heap.size,35,I⟩),G F e.number,Yz O,Yz O,M,M,M,M,M,M,M,M,M,M,M,M,M,Yz O,Yz O,M,M,M,M,M,M,M,M,M,M,M,M,M,Yz O,Yz O,M,M,M,M,M,M,M,M,M,M,M,M,M,Yz O,Yz O,M,M,M,M,M,M,M,M,M,M,M,M,M,Yz O,Yz O,M,M,M,M,M,M,M,M,M,M,M,M,M,Yz Y,Yz Y,d 8,d 0,d 1,d 2,d 3,d 4,d 5,d 6,d 7,d 9,d 10,d 11,d 12,M],[]⟩)
  (λB d W=>eJ E (jX c w.heap.size 14 e a.sa (ln j.spans) a.sc) (λv W1=>rX v/\(cj (ln j.spans) e.index=0->W1.ownsRow w.heap.size 48 5 v ((aO j.spans).length-1) ((aO j.spans).eraseIdx e.index.toNat).flatten)) (G F (cj (ln j.spans) e.index)) ⟨c,14,I⟩ 7 [4,6] B d W) R ?step ?tail (λ_=>M) _ (eJ.start (Ext.dr _)))
 case step=>exact kO
 case tail=>exact mo
def Mc(w:U)(c:Nat)(e:Ed)(g:Z)(j:c<w.heap.size)(n0:e.number≠4)(a:e.number≠5)(d:e.number≠6)(h:e.number≠7)(f:e.number≠10)(b:e.number≠11):
  XY Xz 78 #[YA (L ⟨c,0,I⟩),YE (P e g)] w λx w'=>x=YC (G F 8)/\ew c w w':=by
 have i:=A (show ew c w (w.alloc (.cells (P e g) 50)) from ew.ext ((XI _ _).alloc (XE _) _) j);have k:=(EC.new w (P e g)).cell 35;have p:(e.number==4)=O:=XN.2 n0;have o:(e.number==5)=O:=XN.2 a;have q:(e.number==6)=O:=XN.2 d;have l:(e.number==7)=O:=XN.2 h;have n:(e.number==10)=O:=XN.2 f;have m:(e.number==11)=O:=XN.2 b;clear n0 a d h f b;go_enter func78,ntmps78;go_wp2;go_ret;exact⟨H,i.o⟩
end
section
open Kp
attribute [local go_sem] aF dG eV dd
def qO(c b:Nat)(x y:Int):Nat->Z
 |2=> YA (L ⟨b,1,I⟩)
 |3=> G F x
 |4=> YA (L ⟨b,35,I⟩)
 |5=> G F y
 |7=> YA (L ⟨c,2,I⟩)
 |8=>M
 |10=> YA (L ⟨c,3,I⟩)
 |_=> YA (L ⟨c,0,I⟩)
def Rr(w:U)(c:Nat)(j:bO)(a:cO)(e:Ed)(g:Z)(v:JC w c j a){X:Nat->Prop}(T:fP X w c j a):
  XY Xz 66 #[YA (L ⟨c,0,I⟩),YE (P e g)] w λx w'=>x=YC (G F 0)/\kW X c w w' {j with origin:=e.index,spacing:=e.number} a:=by
 have E:=v.lt;obtain⟨f,o⟩:=aa (w.alloc (.cells (P e g) 50));have u:EC f w.heap.size (P e g):=Zv;have S:Ext w f:=Ze;have s:=v.ext S;have HF:=A (λ(q:Nat)=>(show kW X c w ((((f.drewN q).setCell ⟨c,2,I⟩ (G F e.index)).setCell ⟨c,3,I⟩ (G F e.number))) {j with origin:=e.index,spacing:=e.number} a from by
  have h0:ew c w (f.drewN q):=ew.ext (below_drewN S q) E;have h1:=(h0.put 2 (G F e.index)).put 3 (G F e.number);have ab:JC (f.drewN q) c j a:=s.ext (below_drewN (XI _ _) q);have hp:JC ((f.drewN q).setCell ⟨c,2,I⟩ (G F e.index)) c {j with origin:=e.index} a:=ab.put _ H;refine⟨h1,hp.put _ H,λW hA=> ?_⟩;have h2:=T.to E h1.below hA;exact⟨h2.p,h2.u,h2.o,h2.z,h2.b,h2.l,h2.s⟩))
 have k2:=s.cell 2;have k3:=s.cell 3;have f2:=s.frozen 2;have f3:=s.frozen 3;have z1:=u.cell 1;have z2:=u.cell 35;have HW:=A o;clear o v T s;go_enter func66,ntmps66;go_wp2_with fail
 rw[HW.o];refine wp_region_any R (cP 11 (λd=>⟨#[YA (L ⟨c,0,I⟩),YE (P e g),M,YA (L ⟨w.heap.size,0,I⟩),G F 0,d 0,d 1,d 2,d 3,d 4,d 5,d 6,d 7,d 9,d 10],[]⟩)
  (λB d W=>(∀k,B k=Y->d k=qO c w.heap.size e.index e.number k)/\W=if B 8=Y then f.drew.setCell ⟨c,2,I⟩ (G F e.index) else f.drew) R ?step ?tail (λ_=>M) _ ⟨λk h=>by simp at h,YL⟩)
 case step=>
  intro i B d W hi t z r;obtain⟨b,n⟩:=z;have y:EC W w.heap.size (P e g):=by
   rw[n];split
   ·exact EC.eC (w:=f.drew) u (by show w.heap.size≠c;omega) _
   ·exact u
  have y1:=y.cell 1;have y2:=y.cell 35;have D:∀i,i≠8->(W=if kn B i 8=Y then f.drew.setCell ⟨c,2,I⟩ (G F e.index) else f.drew):=by
   intro i h;have:kn B i 8=B 8:=by unfold kn;rw[XQ (Ne.symm h)]
   rw[this];exact n
  have K:=A n;have l:=A D;clear y n D;rcases(show i=0\/i=1\/i=2\/i=3\/i=4\/i=5\/i=6\/i=7\/i=8\/i=9\/i=10 by omega) with rfl|rfl|rfl|rfl|rfl|rfl|rfl|rfl|rfl|rfl|rfl<;>clear hi<;>refine XR rfl (λac m=> ?_)
  ·go_simp;exact m _ _ ⟨qO c w.heap.size e.index e.number 0,by simp[bN,qO],ji b rfl,l.o 0 YK⟩
  ·go_simp;exact m _ _ ⟨qO c w.heap.size e.index e.number 1,by simp[bN,qO],ji b rfl,l.o 1 YK⟩
  ·go_simp;exact m _ _ ⟨qO c w.heap.size e.index e.number 2,by simp[bN,qO],ji b rfl,l.o 2 YK⟩
  ·have d2:=b 2 (r 2 R);simp only[qO] at d2;go_simp;exact m _ _ ⟨qO c w.heap.size e.index e.number 3,by simp[bN,qO,d2],ji b rfl,l.o 3 YK⟩
  ·go_simp;exact m _ _ ⟨qO c w.heap.size e.index e.number 4,by simp[bN,qO],ji b rfl,l.o 4 YK⟩
  ·have J:=b 4 (r 4 R);simp only[qO] at J;go_simp;exact m _ _ ⟨qO c w.heap.size e.index e.number 5,by simp[bN,qO,J],ji b rfl,l.o 5 YK⟩
  ·have Q:=b 0 (r 0 R);simp only[qO] at Q;go_simp;exact m _ _ ⟨qO c w.heap.size e.index e.number 6,by simp[bN,qO,Q],ji b rfl,l.o 6 YK⟩
  ·have C:=b 6 (r 6 R);simp only[qO] at C;go_simp;exact m _ _ ⟨qO c w.heap.size e.index e.number 7,by simp[bN,qO,C],ji b rfl,l.o 7 YK⟩
  ·have d3:=b 3 (r 3 R);simp only[qO] at d3;have N:=b 7 (r 7 R);simp only[qO] at N;have n:=K.o;rw[XQ (by rw[t];decide)] at n;subst n;clear K l;have m2:f.drew.cell? ⟨c,2,I⟩=_:=k2;have n2:f.drew.frozen? ⟨c,2,I⟩=O:=f2;go_simp;exact m _ _ ⟨M,by simp[bN,d3,N];rfl,ji b rfl,by rw[XT (show kn B 8 8=Y by simp[kn])];rfl⟩
  ·have d1:=b 1 (r 1 R);simp only[qO] at d1;go_simp;exact m _ _ ⟨qO c w.heap.size e.index e.number 9,by simp[bN,qO,d1],ji b rfl,l.o 9 YK⟩
  ·have d9:=b 9 (r 9 R);simp only[qO] at d9;go_simp;exact m _ _ ⟨qO c w.heap.size e.index e.number 10,by simp[bN,qO,d9],ji b rfl,l.o 10 YK⟩
 case tail=>
  intro B d W t z;obtain⟨b,n⟩:=z;rw[XT (t 8 YK)] at n;subst n;have d5:=b 5 (t 5 YK);have V:=b 10 (t 10 YK);simp only[qO] at d5 V;have m3:f.drew.cell? ⟨c,3,I⟩=_:=k3;have n3:f.drew.frozen? ⟨c,3,I⟩=O:=f3;simp only[d5,V,List.drop_succ_cons,List.drop_zero];go_wp2;go_ret;exact⟨H,HF.o 1⟩
end
end Go.Proofs.YtnepbjnlmkppmaaGreatDoor

