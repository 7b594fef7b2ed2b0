/- ChangeLogs of kingpostlaw58: part 7 of its proof (merged and shortened by program). -/
import Derived.Shelf.Spec.SlicesInsertGrow
import Derived.Test.YtalhfkdhdggdaaaGreatDoorL04
import Derived.Test.YtalhfkdhdggdaaaGreatDoorL06
set_option linter.unusedVariables false
set_option linter.unusedSimpArgs false
set_option linter.defProp false
set_option maxHeartbeats 8000000
set_option maxRecDepth 100000
open Go.RowKit Go.Shelf Go.Proofs.Tryz
open And renaming intro→Ci
open Array renaming replicate→E7
open Bool renaming false→AM,true→AL
open ByteArray renaming size→OY
open Decidable renaming decide→AQ
open Go renaming World→V,Value→AN,Calls→AZ,TypeId→Bb,Addr→An,maxLen→BM,undef→Ba,Ending→CI,wpList→CQ,MemPlace→Dw,KeepsOthers→GF,MapEntry→FG,DataW→D6,Operand→F0,Act→BV
open Go.Act renaming put→G7
open Go.Builtin renaming zeroCells→Is,append_→JN
open Go.DataW renaming trod→ET
open Go.Ending renaming returned→Ac
open Go.Fence renaming wide→Ha
open Go.IntKind renaming i64→G
open Go.Lib renaming hasPrefix→DH,cut→Bj,compareInt→Dv,itoa→CY,decDigits→ES,split→Da,byteCells→IV
open Go.MapKept renaming IsKey→MV
open Go.Proofs.Tryz renaming prog→AO,underlying54→Cc,underlying34→DV,underlying25→FD,underlying3→GQ
open Go.Region renaming wanted→Ir
open Go.RowKit renaming intOf→B8,Below→At
open Go.Value renaming agg→Ea,oneCell'→Ks,slice→FO,ownBlock→Hv,int→Gr,slice→AK,string→AT,bool→AU,pointer→Ap,int→M,agg→AW,tuple→BO
open Go.World renaming setCell→Di,cell?→Dx,setRow→F8,frozen?→Hb
open List renaming replicate→F7,range→G8,getD→Gs,length→ln
open Nat renaming gcd→DO,reduceAdd→Hw
open Option renaming none→O,some→Q,getD→FF
open Or renaming inl→Cf
open UInt8 renaming ofNat→GR
open Go.Proofs.YtalhfkdhdggdaaaGreatDoor
variable{cur C X:Array AN}{z:ByteArray}{x Y B L:List AN}{i b c n k m base g y s o B0 pb J vc f:Nat}{R:Option An}{p:Prop}{S β:Type}{aa:AN}{w W W' w' W1:V}{e E t T:Bb}
namespace Go.Proofs.YtalhfkdhdggdaaaGreatDoor
section
open Kp
noncomputable def IK(a b:List UInt8):List UInt8×Int:=if Fu a b=0 then QR a b else([],Fu a b)
noncomputable def PC(a b:List UInt8):Int×Int:=if Fu a b=0 then(Je (num a) (num b),0) else(0,Fu a b)
def pV(s:List UInt8):ln s<=(Ag s).length+1:=by
 rcases kI s with⟨r,rfl,h⟩|⟨h,_⟩
 .rw[h];simp
 rw[h];omega
def pd(a b:List UInt8):(IK a b).1.length<=1000:=by
 unfold IK;split
 .rename_i h;have⟨c,d⟩:=U8 h;unfold QR;split
  .rename_i h18;have f:=ak (NZ c).1 (NZ d).1 h18;have:=jo (n:=num a*num b) (by unfold Bh;omega);show(CY _).length<=_;omega
  unfold Nh;split
  .simp
  rename_i e;have:=pV (L7 (DH a [45] !=DH b [45]) (Io (BY (Ag a)*BY (Ag b))));show(L7 _ _).length<=_;omega
 simp
def nk(a b:List UInt8)(w:V)(f:ln a<=100000)(g:ln b<=100000)(e:CA w):
  AZ AO 353 #[AT (tx a),AT (tx b)] w (Qn w (IK a b)):=by
 by_cases h:Fu a b=0
 .rw[show IK a b=QR a b by unfold IK;rw[Aj h]];exact a9e a b w f g h e
 have c:=A (show IK a b=([],Fu a b) by unfold IK;rw[Af h]);have i:(Fu a b !=0)=AL:=Oa;have d:=A (Rm a b w D D);clear h e;go_enter func353,ntmps353;exact zn
def tQ(a b:List UInt8)(w:V)(f:ln a<=100000)(g:ln b<=100000):
  AZ AO 326 #[AT (tx a),AT (tx b)] w λe w'=>e=Ac (BO #[M G (PC a b).1,M G (PC a b).2])/\Ext w w':=by
 by_cases h:Fu a b=0
 .rw[show PC a b=(Je (num a) (num b),0) by unfold PC;rw[Aj h]];exact a0d a b w f g h
 have c:=A (show PC a b=(0,Fu a b) by unfold PC;rw[Af h]);have i:(Fu a b !=0)=AL:=Oa;have d:=A (Rm a b w D D);clear h;go_enter func326,ntmps326;exact zn
structure b5G where
 u:List UInt8
 v:List UInt8
 e:Int
noncomputable def Ii(a d1 b d2:List UInt8):b5G:=
 if(IK a d2).2≠0 then⟨[],[],(IK a d2).2⟩ else⟨(IK a d2).1,(IK b d1).1,(IK b d1).2⟩
def b1Q(a d1 b d2:List UInt8):(Ii a d1 b d2).u.length<=1000/\(Ii a d1 b d2).v.length<=1000:=by
 unfold Ii;split
 .simp
 exact⟨pd _ _,pd _ _⟩
def a1P(a d1 b d2:List UInt8)(w:V)(h1:ln a<=100000)(h2:ln d1<=100000)(y:ln b<=100000)(z:ln d2<=100000)(r:CA w):
  AZ AO 325 #[AW #[AT (tx a),AT (tx d1)],AW #[AT (tx b),AT (tx d2)]] w λe w'=>
   e=Ac (BO #[AT (tx (Ii a d1 b d2).u),AT (tx (Ii a d1 b d2).v),M G (Ii a d1 b d2).e])/\Ext w w':=by
 have j:=A (GB w (.cells #[AT (tx a),AT (tx d1)] 268) (.cells #[AT (tx b),AT (tx d2)] 268));have s:=A ((Az.new w 268 [AT (tx a),AT (tx d1)]).ext ((Ad _ _).alloc (AS _) (.cells #[AT (tx b),AT (tx d2)] 268)));have r2:=Az.new (w.alloc (.cells #[AT (tx a),AT (tx d1)] 268)) 268 [AT (tx b),AT (tx d2)];rw[D5] at r2;have x:=A r2;clear r2;have q:=A r;have m:=A (λ(W:V) (h:Ext w W)=>nk a d2 W h1 z (q.below h (AS _)));have o:=A (λ(W:V) (h:Ext w W)=>nk b d1 W y h2 (q.below h (AS _)));have k:=A (show Ii a d1 b d2=if(IK a d2).2≠0 then⟨[],[],(IK a d2).2⟩ else⟨(IK a d2).1,(IK b d1).1,(IK b d1).2⟩ from rfl);clear r;have⟨⟨u,c⟩,hu⟩:=AP (IK a d2);have⟨⟨v,d⟩,p⟩:=AP (IK b d1);rw[hu,p] at k;unfold Qn at m o;simp only[hu] at m;simp only[p] at o;dsimp only at k;clear hu p;by_cases g:c=0
 .have n:=A (show Ii a d1 b d2=⟨u,v,d⟩ by rw[k.o,Af (λh=>h g)]);subst g;go_enter func325,ntmps325;go_wp2_with(first
   |(go_at_call 353;((with_reducible refine(m.o _ j.o).q λW1 f=>?_);have D:=λi=>(s.ext f).cell i;have E:=λi=>(x.ext f).cell i;have l:=A (Ext.tr j f)))
   |(go_at_call 353;((with_reducible refine(o.o _ l.o).q λC B=>?_))))
  rw[n.o];refine Bp (v:= BO #[AT (tx u),AT (tx v),M G d]) ?_ F ⟨F,Ext.tr l B⟩;simp[results,results325,go_sem]
 have n:=A (show Ii a d1 b d2=⟨[],[],c⟩ by rw[k.o,Aj g]);have t:(c !=0)=AL:=by rw[Cd];exact g
 clear g;go_enter func325,ntmps325;go_wp2_with(go_at_call 353;((with_reducible refine(m.o _ j.o).q λW1 f=>?_);have l:=A (Ext.tr j f)))
 rw[n.o];refine Bp (v:= BO #[AT (tx []),AT (tx []),M G c]) ?_ F ⟨F,l⟩;simp[results,results325,go_sem,tx]
def wU{a:List UInt8}{x y:Int}(h:Dp a=(x,y)): -1000000000<=x/\x<=1000000000/\ -1000000000<=y/\y<=1000000000:=by
 unfold Dp at h;split at h
 .unfold UP at h;cases hn:DT (Ag a) with
  |none=>rw[hn] at h;injection h with h1 h2;omega
  |some p=>
   obtain⟨n,r⟩:=p;rw[hn] at h;dsimp only at h;have e:=Ps hn;injection h with h1 h2
   have hx: -1000000000<=x/\x<=1000000000:=by
    rw[<-h1];split <;>omega
   have hy: -1000000000<=y/\y<=1000000000:=by
    rw[<-h2];cases r with
    |nil=>simp
    |cons c b=>
     dsimp only;cases hm:DT b with
     |none=>simp
     |some q=>
      obtain⟨d,f⟩:=q;have:=Ps hm;dsimp only;omega
   exact⟨hx.1,hx.2,hy.1,hy.2⟩
 injection h with h1 h2;omega
def F3(a:List UInt8):List UInt8×List UInt8:=(Dq a).getD ([],[])
noncomputable def Ga(a b:List UInt8):Int×Int:=
 if Fb a&&Fb b then(Je ((Dp a).1*(Dp b).2) ((Dp b).1*(Dp a).2),0)
 else if(Ii (F3 a).1 (F3 a).2 (F3 b).1 (F3 b).2).e≠0 then(0,(Ii (F3 a).1 (F3 a).2 (F3 b).1 (F3 b).2).e)
 else PC (Ii (F3 a).1 (F3 a).2 (F3 b).1 (F3 b).2).u (Ii (F3 a).1 (F3 a).2 (F3 b).1 (F3 b).2).v
theorem Zj(h:Hid (Ext w W))(o:Obj)(hx:Ext (W.alloc o) W'):Hid (Ext w W'):=A (Ext.tr (h.alloc (R9 h) _) hx)
theorem a3P(h:p:=by
  go_wp2_with(first
   |(go_at_call 326;refine(KI _).q λW6 hX6=>?_;have HX:=A (Ext.tr HX hX6);clear hX6)
   |(go_at_call 325;((with_reducible refine(KC.o _ (HX.o.alloc (R9 HX.o) _)).q λW5 hX5=>?_);have HX:=Zj HX _ hX5;clear hX5))
   |(go_at_call 247;((with_reducible refine(R.o _ (HX.o.alloc (R9 HX.o) _)).mono ?_);rintro e W4 ⟨x4,y4,rfl,hp4,hX4⟩;obtain⟨n',d',g,rfl,rfl⟩:=hp4 trivial;rw[ae.o] at g;obtain⟨rfl,rfl⟩:j=n'/\d2=d':=by{injection g with g;injection g with r e3;exact⟨r,e3⟩};have s0:=(R3.ext hX4).cell 0;have s1:=(R3.ext hX4).cell 1;have sz:=(R3.ext hX4).lt;have HX:=Zj HX _ hX4;clear hX4 hp4))
   |(go_at_call 247;((with_reducible refine(P.o _ (HX.o.alloc (R9 HX.o) _)).mono ?_);rintro e W3 ⟨x3,y3,rfl,hp3,hX3⟩;obtain⟨n',d',g,rfl,rfl⟩:=hp3 trivial;rw[ad.o] at g;obtain⟨rfl,rfl⟩:i=n'/\d1=d':=by{injection g with g;injection g with r e3;exact⟨r,e3⟩};have R3:=A (Az.new W3 268 [AT (tx i),AT (tx d1)]);have HX:=Zj HX _ hX3;clear hX3 hp3))
   |(go_at_call 295;((with_reducible refine(H.o _).mono ?_);rintro e W2 ⟨x2,y2,rfl,_,k⟩;have HX:=Zj HX _ k;clear k))
   |(go_at_call 295;((with_reducible refine(E.o _).mono ?_);rintro e W1 ⟨x1,y1,rfl,_,s⟩;have HX:Hid (Ext w W1):=A s;clear s)))
  go_ret2;rw[N.o];exact⟨F,HX⟩):p:=h
def uU(w:V)(r:Int×Int)(e:CI)(w':V):Prop:=e=Ac (BO #[M G r.1,M G r.2])/\Ext w w'
def a1n(a b:List UInt8)(w:V)(ha:ln a<=99999)(hb:ln b<=99999)(o:BF a=0)(q:BF b=0)(hm:En w)(ht:CA w):
  AZ AO 298 #[AT (tx a),AT (tx b)] w (uU w (Ga a b)):=by
 have HM:=A hm;have L:=A ht;have E:=A (λW=>jE a W D);have H:=A (λW=>jE b W D);have P:=A (λ(W:V) (h:Ext w W)=>bw a W D (HM.below h (AS _)) (L.below h (AS _)));have R:=A (λ(W:V) (h:Ext w W)=>bw b W D (HM.below h (AS _)) (L.below h (AS _)));unfold JV at E H;unfold Ze at P R;simp only[o] at P;simp only[q] at R;have K:=A (show Ga a b=if Fb a&&Fb b then(Je ((Dp a).1*(Dp b).2) ((Dp b).1*(Dp a).2),0)
  else if(Ii (F3 a).1 (F3 a).2 (F3 b).1 (F3 b).2).e≠0 then(0,(Ii (F3 a).1 (F3 a).2 (F3 b).1 (F3 b).2).e)
  else PC (Ii (F3 a).1 (F3 a).2 (F3 b).1 (F3 b).2).u (Ii (F3 a).1 (F3 a).2 (F3 b).1 (F3 b).2).v from rfl)
 have⟨oa,U⟩:=AP (Fb a);have⟨ob,X⟩:=AP (Fb b);rw[U,X] at K;simp only[U] at E;simp only[X] at H;have KZ:=A (λ(x y:Int) (W:V)=>wL x y W);clear hm ht U X;by_cases B:(oa&&ob)=AL
 .obtain⟨rfl,rfl⟩:oa=AL/\ob=AL:=by simpa using B
  have l:=A (show Ga a b=(Je ((Dp a).1*(Dp b).2) ((Dp b).1*(Dp a).2),0) by rw[K.o];rfl);clear B o q;go_enter func298,ntmps298;go_wp2_with(first
   |(go_at_call 295;((with_reducible refine(E.o _).mono ?_);rintro e W1 ⟨x1,y1,rfl,Z,s⟩;have⟨b1,b2,b3,b4⟩:=wU Z;have af:=A Z;clear Z;have S:=A (Az.new W1 308 [M G x1,M G y1]);have ab:=A s;clear s))
   |(go_at_call 295;((with_reducible refine(H.o _).mono ?_);rintro e W2 ⟨x2,y2,rfl,aa,k⟩;have⟨b5,b6,b7,b8⟩:=wU aa;have ag:=A aa;clear aa;have q0:=(S.ext k).cell 0;have q1:=(S.ext k).cell 1;have qz:=(S.ext k).lt;have ac:=A (Ext.tr (ab.alloc (R9 ab) _) k);clear k;have EZ:=RL (a:=x1) (b:=y2) (m:=1000000000) (n:=1000000000) D D;have Ge:=RL (a:=x2) (b:=y1) (m:=1000000000) (n:=1000000000) D D;obtain⟨p1,p2⟩:=EZ;obtain⟨p3,p4⟩:=Ge))
   |(go_at_call 260;refine(KZ _ _ _).mono ?_;rintro e W3 ⟨rfl,rfl⟩))
  go_ret2;refine⟨?_,ac.alloc (R9 ac) _⟩;rw[l.o,af.o,ag.o]
  rfl
 obtain⟨i,d1,I⟩:∃n d,Dq a=Q (n,d):=by
  cases h:Dq a with
  |none=>unfold BF at o;rw[h] at o;cases o
  |some p=>exact⟨p.1,p.2,F⟩
 obtain⟨j,d2,J⟩:∃n d,Dq b=Q (n,d):=by
  cases h:Dq b with
  |none=>unfold BF at q;rw[h] at q;cases q
  |some p=>exact⟨p.1,p.2,F⟩
 have ah:=cO I;have ai:=cO J;have KC:=A (λ(W:V) (h:Ext w W)=>a1P i d1 j d2 W D D D D (L.below h (AS _)));have T:=b1Q i d1 j d2;have l:=A (show Ga a b=if(Ii i d1 j d2).e≠0 then(0,(Ii i d1 j d2).e) else PC (Ii i d1 j d2).u (Ii i d1 j d2).v by
  have g:F3 a=(i,d1):=by unfold F3;rw[I];rfl
  have r:F3 b=(j,d2):=by unfold F3;rw[J];rfl
  rw[K.o,Af B,g,r])
 have⟨⟨u,v,c⟩,hu⟩:=AP (Ii i d1 j d2);rw[hu] at l T;simp only[hu] at KC;dsimp only at l T;have KI:=A (λW=>tQ u v W D D);have ad:=A I;have ae:=A J;have hO:oa=AM\/oa=AL/\ob=AM:=by revert B;cases oa<;>simp
 clear hu T I J ah ai o q B;by_cases C:c=0
 .have N:=A (show Ga a b=PC u v by rw[l.o,Af (λh=>h C)]);subst C;have⟨⟨z,f⟩,Y⟩:=AP (PC u v);rw[Y] at N;simp only[Y] at KI;clear Y;exact zo
 have N:=A (show Ga a b=(0,c) by rw[l.o,Aj C]);have t:(c !=0)=AL:=by rw[Cd];exact C
 clear C;exact zo
def VP(a b:List UInt8)(w:V)(j:ln a<=99999)(k:ln b<=99999)(c:BF a=0)(d:BF b=0)(hm:En w)(g:CA w):
  AZ AO 251 #[AT (tx a),AT (tx b)] w λe w'=>e=Ac (M G (Ga a b).1)/\Ext w w':=by
 have K:=A (a1n a b w j k c d hm g);have⟨⟨z,f⟩,h⟩:=AP (Ga a b);unfold uU at K;rw[h] at K⊢;clear h c d hm g;go_enter func251,ntmps251;go_wp2_with(go_at_call 298;refine K.q λW1 i=>?_)
 go_ret;exact⟨F,i⟩
abbrev WC(l:List (List UInt8)):List (List AN):=l.map λs=>[AT (tx s)]
theorem oe{l:List (List UInt8)}(hi:i<ln l):(WC l).getD i []=[AT (tx (l.getD i []))]:=by
 simp[Gs,Bv hi]
noncomputable def GZ(l:List (List UInt8)):Int:=
 if EI (λi=>BF (l.getD i [])) (ln l)≠0 then EI (λi=>BF (l.getD i [])) (ln l) else EI (λi=>Fh (l.getD i [])) (ln l)
def lG(w:V)(n:Nat)(f:Nat->Int)(i:AN)(wr:V):Prop:=∃k:Nat,k<=n/\i=M G (k:Int)/\Ext w wr/\∀j,j<k->f j=0
def a1Q(w:V)(R:Option An)(y:Nat)(l:List (List UInt8))(U:BB 1 w w.1.size R y (WC l))(f:∀x∈l,ln x<=99999)(hm:En w)(T:CA w):
  AZ AO 250 #[AK R (ln l) y] w λe w'=>e=Ac (M G (GZ l))/\Ext w w':=by
 obtain⟨h1,h2,H⟩:=U;rw[BL] at h1 H;unfold BM at h2;have J:=A H;have P:=A f;have K:=A hm;have S:=A T;have L:=A (show GZ l=if EI (λi=>BF (l.getD i [])) (ln l)≠0 then EI (λi=>BF (l.getD i [])) (ln l) else EI (λi=>Fh (l.getD i [])) (ln l) from rfl);clear H f hm T;go_enter func250,ntmps250;go_wp2;go_loopw [11] (λi wr=>lG w (ln l) (λi=>BF (l.getD i [])) i wr) (λi _=>((ln l:Int)-B8 i).toNat)
 case atStart=>exact⟨0,D,rfl,Ad _ _,λj v=>D⟩
 obtain⟨k,hk,rfl,o,r⟩:=hrel;have a:=A o;have E:=A r;clear o r;by_cases B:k<ln l
 .obtain⟨b,off,rfl,hB,hcell0⟩:=J D;have c0:=(a.cell (p:=⟨b,off+1*k+0,O⟩) hB).trans (hcell0 k B 0 Z);rw[oe B,H7,Dh] at c0;have C:=P (l.getD k []) (by rw[CM,Bv B];exact Ey B);have⟨s,f⟩:=AP (l.getD k []);rw[f] at c0 C;have m:=A (jf s wr D (K.below a (AS _)) (S.below a (AS _)));have g:=A (show BF (l.getD k [])=BF s by rw[f]);have⟨c,t⟩:=AP (BF s);rw[t] at m g;clear hcell0 C f t;by_cases d:c=0
  .have HZ:=A (show∀j,j<k+1->BF (l.getD j [])=0 fromλj v=>by
    by_cases I:j=k
    .rw[I,g.o];exact d
    exact E j D)
   subst d;go_wp2_with(go_at_call 180;refine m.q λW1 n=>?_)
   exact⟨⟨k+1,D,AV,Ext.tr a n,HZ⟩,Bm⟩
  have u:=A (show GZ l=c by
   have h1:EI (λi=>BF (l.getD i [])) (ln l)=c:=by rw[Im B E.o (by show BF (l.getD k [])≠0;rw[g.o];exact d)];exact g
   rw[L.o,h1,Aj d])
  have W:(c !=0)=AL:=by rw[Cd];exact d
  go_wp2_with(go_at_call 180;refine m.q λW1 n=>?_)
  go_ret;exact⟨Kv,Ext.tr a n⟩
 have Y:AQ ((k:Int)<(ln l:Int))=AM:=Et;have N:=A (show GZ l=EI (λi=>Fh (l.getD i [])) (ln l) by
  have h1:EI (λi=>BF (l.getD i [])) (ln l)=0:=KH (λj v=>E j D);rw[L.o,h1,Af (λh=>h rfl)])
 clear hk;go_wp2;go_loopw [23] (λi wr=>lG w (ln l) (λi=>Fh (l.getD i [])) i wr) (λi _=>((ln l:Int)-B8 i).toNat)
 case atStart=>exact⟨0,D,rfl,a,λj v=>D⟩
 clear a;obtain⟨q,hq,rfl,o,r⟩:=hrel;have a:=A o;have F:=A r;clear o r;by_cases z:q<ln l
 .obtain⟨b,off,rfl,hB,hcell0⟩:=J D;have c0:=(a.cell (p:=⟨b,off+1*q+0,O⟩) hB).trans (hcell0 q z 0 Z);rw[oe z,H7,Dh] at c0;have C:=P (l.getD q []) (by rw[CM,Bv z];exact Ey z);have⟨s,f⟩:=AP (l.getD q []);rw[f] at c0 C;have m:=A (a2P s wr D (K.below a (AS _)) (S.below a (AS _)));have g:=A (show Fh (l.getD q [])=Fh s by rw[f]);have⟨c,t⟩:=AP (Fh s);rw[t] at m g;clear hcell0 C f t;by_cases d:c=0
  .have HZ:=A (show∀j,j<q+1->Fh (l.getD j [])=0 fromλj v=>by
    by_cases I:j=q
    .rw[I,g.o];exact d
    exact F j D)
   subst d;go_wp2_with(go_at_call 297;refine m.q λW1 n=>?_)
   exact⟨⟨q+1,D,AV,Ext.tr a n,HZ⟩,Bm⟩
  have u:=A (show GZ l=c by
   rw[N.o,Im z F.o (by show Fh (l.getD q [])≠0;rw[g.o];exact d)];exact g)
  have W:(c !=0)=AL:=by rw[Cd];exact d
  go_wp2_with(go_at_call 297;refine m.q λW1 n=>?_)
  go_ret;exact⟨Kv,Ext.tr a n⟩
 have X:AQ ((q:Int)<(ln l:Int))=AM:=Et;have u:=A (show GZ l=0 by rw[N.o,KH (λj v=>F.o j D)]);go_wp2;go_ret;exact⟨Kv,a⟩
abbrev Hs(o:Er):List AN:=[M G o.Ei,AT (tx o.left),AT (tx o.right),AT (tx o.low),AT (tx o.Eo)]
abbrev Fa(l:List Er):List (List AN):=l.map Hs
theorem bS{l:List Er}(hi:i<ln l):(Fa l).getD i []=Hs (l.getD i Bu):=by
 simp[Gs,Bv hi]
def T0(l:List Er):DG 5 (Fa l):=G9 (f:=Hs) (λ_=>rfl) l
noncomputable def Ep(o:Er):Int:=if GZ [o.left,o.right,o.low,o.Eo]≠0 then GZ [o.left,o.right,o.low,o.Eo] else if 0<=(Ga o.left o.right).1\/0<=(Ga o.low o.Eo).1 then 10 else 0
noncomputable def JU(a b:Er):Bool:=a.Ei==b.Ei&&AQ ((Ga a.left b.right).1<0)&&AQ ((Ga b.left a.right).1<0)&&AQ ((Ga a.low b.Eo).1<0)&&AQ ((Ga b.low a.Eo).1<0)
structure aN(o:Er):Prop where
 l1:ln o.left<=99999
 r1:ln o.right<=99999
 w1:ln o.low<=99999
 h1:ln o.Eo<=99999
 l2:BF o.left=0
 r2:BF o.right=0
 w2:BF o.low=0
 h2:BF o.Eo=0
structure RN(o:Er):Prop where
 l1:ln o.left<=99999
 r1:ln o.right<=99999
 w1:ln o.low<=99999
 h1:ln o.Eo<=99999
def sS{a b c d:List UInt8}(h:GZ [a,b,c,d]=0):BF a=0/\BF b=0/\BF c=0/\BF d=0:=by
 unfold GZ at h;split at h
 .rename_i h1;exact absurd h h1
 rename_i h1;have e:=U1 (Decidable.not_not.1 h1);exact⟨e 0 AV,e 1 AV,e 2 AV,e 3 AV⟩
def b1M{o:Er}(e:RN o)(h:Ep o=0):aN o:=by
 have f:GZ [o.left,o.right,o.low,o.Eo]=0:=by
  by_cases hn:GZ [o.left,o.right,o.low,o.Eo]=0
  .exact hn
  unfold Ep at h;rw[Aj hn] at h;exact absurd h hn
 have⟨a,b,c,d⟩:=sS f;exact⟨e.l1,e.r1,e.w1,e.h1,a,b,c,d⟩
def a2b(o:Er)(w:V)(L:RN o)(hm:En w)(J:CA w):AZ AO 194 #[AW (Hs o).toArray] w λe w'=>e=Ac (M G (Ep o))/\Ext w w':=by
 obtain⟨sd,a,b,c,d⟩:=o;obtain⟨l1,r1,w1,h1⟩:=L;dsimp only at l1 r1 w1 h1;have t:=A hm;have v:=A J;have k:=A (GB w (.cells #[M G sd,AT (tx a),AT (tx b),AT (tx c),AT (tx d)] 43) (.cells #[AT (tx a),AT (tx b),AT (tx c),AT (tx d)] 41));have B:=A ((Az.new w 43 [M G sd,AT (tx a),AT (tx b),AT (tx c),AT (tx d)]).ext ((Ad _ _).alloc (AS _) (.cells #[AT (tx a),AT (tx b),AT (tx c),AT (tx d)] 41)));have r2:=Az.new (w.alloc (.cells #[M G sd,AT (tx a),AT (tx b),AT (tx c),AT (tx d)] 43)) 41 [AT (tx a),AT (tx b),AT (tx c),AT (tx d)];rw[D5] at r2;have I:BB 1 _ _ (Q ⟨w.1.size+1,0,O⟩) 4 (WC [a,b,c,d]):=⟨AV,Fp,λ_=>⟨w.1.size+1,0,rfl,r2.lt,λi hi j S=>by
  obtain rfl:j=0:=D;simp at hi;rw[r2.cell,H7,IU,Dh];rcases(show i=0\/i=1\/i=2\/i=3 by omega) with rfl|rfl|rfl|rfl<;>rfl⟩⟩
 have r:=A (a1Q _ _ 4 [a,b,c,d] I (by simp;exact⟨l1,r1,w1,h1⟩) (t.below k (AS _)) (v.below k (AS _)));have s:=A (show Ep ⟨sd,a,b,c,d⟩=if GZ [a,b,c,d]≠0 then GZ [a,b,c,d] else if 0<=(Ga a b).1\/0<=(Ga c d).1 then 10 else 0 from rfl);have H:=A (λh=>sS (a:=a) (b:=b) (c:=c) (d:=d) h);clear hm J r2 I;have⟨n,hn⟩:=AP (GZ [a,b,c,d]);rw[hn] at r s H;clear hn;by_cases g:n=0
 .have⟨ca,cb,cc,cd⟩:=H g;have z:=A (λ(W:V) (h:Ext w W)=>VP a b W l1 r1 ca cb (t.below h (AS _)) (v.below h (AS _)));have F:=A (λ(W:V) (h:Ext w W)=>VP c d W w1 h1 cc cd (t.below h (AS _)) (v.below h (AS _)));have q:=A (show Ep ⟨sd,a,b,c,d⟩=if 0<=(Ga a b).1\/0<=(Ga c d).1 then 10 else 0 by rw[s.o,Af (λh=>h g)]);subst g;have⟨x,hx⟩:=AP ((Ga a b).1);have⟨y,hy⟩:=AP ((Ga c d).1);rw[hx,hy] at q;simp only[hx] at z;simp only[hy] at F;clear hx hy ca cb cc cd;by_cases C:0<=x
  .have P:AQ (0<=x)=AL:=by rw[Cx];exact C
   have u:=A (show Ep ⟨sd,a,b,c,d⟩=10 by rw[q.o,Aj (.inl C)]);go_enter func194,ntmps194;go_wp2_with(first
    |(go_at_call 250;refine r.q λW1 f=>?_;have N:=λi=>(B.ext f).cell i;have l:=A (Ext.tr k f);clear f)
    |(go_at_call 251;((with_reducible refine(z.o _ l.o).q λK m=>?_))))
   go_ret;exact⟨Kv,Ext.tr l m⟩
  have P:AQ (0<=x)=AM:=by rw[CX];exact C
  by_cases E:0<=y
  .have R:AQ (0<=y)=AL:=by rw[Cx];exact E
   have u:=A (show Ep ⟨sd,a,b,c,d⟩=10 by rw[q.o,Aj (.inr E)]);exact zp
  have R:AQ (0<=y)=AM:=by rw[CX];exact E
  have u:=A (show Ep ⟨sd,a,b,c,d⟩=0 by rw[q.o,Af D]);exact zp
 have u:=A (show Ep ⟨sd,a,b,c,d⟩=n by rw[s.o,Aj g]);have T:(n !=0)=AL:=by rw[Cd];exact g
 clear g;go_enter func194,ntmps194;go_wp2_with(go_at_call 250;refine r.q λW1 f=>?_)
 go_ret;exact⟨Kv,Ext.tr k f⟩
noncomputable def Sa(l:List Er):Bool:= !Cm (λi=>Cm (λk=>JU (l.getD i Bu) (l.getD k Bu)) i) (ln l)
noncomputable def F4(l:List Er):Bool×Int:=
 if 32<ln l then(AM,4) else if EI (λi=>Ep (l.getD i Bu)) (ln l)≠0 then(AM,EI (λi=>Ep (l.getD i Bu)) (ln l)) else(Sa l,0)
def b3f(a b:Er)(s p q r t:Bool)(h1:(a.Ei==b.Ei)=s)(h2:AQ ((Ga a.left b.right).1<0)=p)(c:AQ ((Ga b.left a.right).1<0)=q)(d:AQ ((Ga a.low b.Eo).1<0)=r)(e:AQ ((Ga b.low a.Eo).1<0)=t):JU a b=(s&&p&&q&&r&&t):=by
 unfold JU;rw[h1,h2,c,d,e]
def a1o(a b:Er)(w:V)(ha:aN a)(hb:aN b)(hm:En w)(I:CA w):AZ AO 195 #[AW (Hs a).toArray,AW (Hs b).toArray] w λe w'=>e=Ac (AU (JU a b))/\Ext w w':=by
 obtain⟨l1,r1,w1,h1,l2,r2,w2,h2⟩:=ha;obtain⟨L,s1,x1,J,N,s2,Z,K⟩:=hb;have o:=A hm;have q:=A I;have l:=A (λ(W:V) (h:Ext w W)=>VP a.left b.right W l1 s1 l2 s2 (o.below h (AS _)) (q.below h (AS _)));have r:=A (λ(W:V) (h:Ext w W)=>VP b.left a.right W L r1 N r2 (o.below h (AS _)) (q.below h (AS _)));have v:=A (λ(W:V) (h:Ext w W)=>VP a.low b.Eo W w1 J w2 K (o.below h (AS _)) (q.below h (AS _)));have F:=A (λ(W:V) (h:Ext w W)=>VP b.low a.Eo W x1 h1 Z h2 (o.below h (AS _)) (q.below h (AS _)));have f:=A (GB w (.cells (Hs a).toArray 43) (.cells (Hs b).toArray 43));have m:=A ((Az.new w 43 (Hs a)).ext ((Ad _ _).alloc (AS _) (.cells (Hs b).toArray 43)));have C:=Az.new (w.alloc (.cells (Hs a).toArray 43)) 43 (Hs b);rw[D5] at C;have n:=A C;have D:=A (b3f a b);clear hm I C l1 r1 w1 h1 l2 r2 w2 h2 L s1 x1 J N s2 Z K;have⟨c1,x⟩:=AP ((Ga a.left b.right).1);have⟨c2,y⟩:=AP ((Ga b.left a.right).1);have⟨c3,z⟩:=AP ((Ga a.low b.Eo).1);have⟨c4,B⟩:=AP ((Ga b.low a.Eo).1);rw[x,y,z,B] at D;simp only[x] at l;simp only[y] at r;simp only[z] at v;simp only[B] at F;clear x y z B;have⟨Y,t0⟩:=AP (a.Ei==b.Ei);have⟨P,t1⟩:=AP (AQ (c1<0));have⟨R,t2⟩:=AP (AQ (c2<0));have⟨S,t3⟩:=AP (AQ (c3<0));have⟨T,t4⟩:=AP (AQ (c4<0));have u:=A (D Y P R S T t0 t1 t2 t3 t4);cases Y
 .have HW:=A (show JU a b=AM by rw[u.o];rfl);go_enter func195,ntmps195;go_wp2;go_ret;exact⟨by rw[HW.o];rfl,f⟩
 cases P
 .have HW:=A (show JU a b=AM by rw[u.o];rfl);go_enter func195,ntmps195;go_wp2_with(go_at_call 251;((with_reducible refine(l.o _ f.o).q λW1 c=>?_)))
  go_ret;exact⟨by rw[HW.o];rfl,Ext.tr f c⟩
 cases R
 .have HW:=A (show JU a b=AM by rw[u.o];rfl);go_enter func195,ntmps195;go_wp2_with(first
   |(go_at_call 251;((with_reducible refine(l.o _ f.o).q λW1 c=>?_);have U:=λi=>(m.ext c).cell i;have X:=λi=>(n.ext c).cell i;have g:=A (Ext.tr f c);clear c))
   |(go_at_call 251;((with_reducible refine(r.o _ g.o).q λH d=>?_))))
  go_ret;exact⟨by rw[HW.o];rfl,Ext.tr g d⟩
 cases S
 .have HW:=A (show JU a b=AM by rw[u.o];rfl);go_enter func195,ntmps195;go_wp2_with(first
   |(go_at_call 251;((with_reducible refine(l.o _ f.o).q λW1 c=>?_);have U:=λi=>(m.ext c).cell i;have X:=λi=>(n.ext c).cell i;have s:=A (m.ext c);have t:=A (n.ext c);have g:=A (Ext.tr f c);clear c))
   |(go_at_call 251;((with_reducible refine(r.o _ g.o).q λH d=>?_);have q3:=λi=>(s.ext d).cell i;have q4:=λi=>(t.ext d).cell i;have k:=A (Ext.tr g d);clear d))
   |(go_at_call 251;((with_reducible refine(v.o _ k.o).q λW3 j=>?_))))
  go_ret;exact⟨by rw[HW.o];rfl,Ext.tr k j⟩
 cases T;all_goals
  go_enter func195,ntmps195;go_wp2_with(first
   |(go_at_call 251;((with_reducible refine(l.o _ f.o).q λW1 c=>?_);have U:=λi=>(m.ext c).cell i;have X:=λi=>(n.ext c).cell i;have s:=A (m.ext c);have t:=A (n.ext c);have g:=A (Ext.tr f c);clear c))
   |(go_at_call 251;((with_reducible refine(r.o _ g.o).q λH d=>?_);have q3:=λi=>(s.ext d).cell i;have q4:=λi=>(t.ext d).cell i;have S3:=A (s.ext d);have S4:=A (t.ext d);have k:=A (Ext.tr g d);clear d))
   |(go_at_call 251;((with_reducible refine(v.o _ k.o).q λW3 j=>?_);have q5:=λi=>(S3.ext j).cell i;have q6:=λi=>(S4.ext j).cell i;have E:=A (Ext.tr k j);clear j))
   |(go_at_call 251;((with_reducible refine(F.o _ E.o).q λW4 aa=>?_))))
  go_ret;exact⟨Kv,Ext.tr E aa⟩
def a0X(w:V)(R:Option An)(y:Nat)(l:List Er)(hl:BB 5 w w.1.size R y (Fa l))(X:ln l<=32->∀o∈l,RN o)(hm:En w)(ht:CA w):
  AZ AO 120 #[AK R (ln l) y] w λe w'=>e=Ac (BO #[AU (F4 l).1,M G (F4 l).2])/\Ext w w':=by
 obtain⟨h1,h2,L⟩:=hl;rw[BL] at h1 L;unfold BM at h2;by_cases ae:32<ln l
 .have J:=A (show F4 l=(AM,4) by unfold F4;rw[Aj ae]);clear L X hm ht;go_enter func120,ntmps120;go_wp2;go_ret2;rw[J.o];exact⟨F,Ext.B9 _⟩
 have J:=A (show F4 l=if EI (λi=>Ep (l.getD i Bu)) (ln l)≠0 then(AM,EI (λi=>Ep (l.getD i Bu)) (ln l)) else(Sa l,0) by unfold F4;rw[Af ae]);have H3:=A L;have HS:=A (show∀i,i<ln l->RN (l.getD i Bu) fromλi hi=>X D _ (by rw[CM,Bv hi];exact Ey hi));have HM:=A hm;have HT:=A ht;clear L X hm ht;go_enter func120,ntmps120;go_wp2;go_loopw [16] (λi wr=>lG w (ln l) (λi=>Ep (l.getD i Bu)) i wr) (λi _=>((ln l:Int)-B8 i).toNat)
 case atStart=>exact⟨0,D,rfl,Ad _ _,λj d=>D⟩
 obtain⟨k,hk,rfl,f,t⟩:=hrel;have g:=A f;have r:=A t;clear f t;by_cases z:k<ln l
 .obtain⟨b,off,rfl,hB,hcell0⟩:=H3 D;have a:=A (λi hi j d=>(g.cell (p:=⟨b,off+5*i+j,O⟩) hB).trans (hcell0 i hi j d));have c0:=a k z 0 Z;have c1:=a k z 1 Z;have c2:=a k z 2 Z;have c3:=a k z 3 Z;have c4:=a k z 4 Z;rw[bS z,DL] at c0 c1 c2 c3 c4;rw[Dh] at c0;have Y:=HS k z;have⟨o,C⟩:=AP (l.getD k Bu);rw[C] at c0 c1 c2 c3 c4 Y;have n:=A (λ(p:Obj)=>(g.alloc g.size p:Ext w (wr.alloc p)));have P:=A (λ(p:Obj)=>a2b o (wr.alloc p) Y (HM.below (n p) (AS _)) (HT.below (n p) (AS _)));have s:=A (show Ep (l.getD k Bu)=Ep o by rw[C]);have⟨c,T⟩:=AP (Ep o);rw[T] at s;simp only[T] at P;clear hcell0 a Y C T;by_cases H:c=0
  .have HZ:=A (show∀j,j<k+1->Ep (l.getD j Bu)=0 fromλj d=>by
    by_cases I:j=k
    .rw[I,s.o];exact H
    exact r j D)
   subst H;go_wp2_with(go_at_call 194;refine(P _).q λW1 B=>?_)
   exact⟨⟨k+1,D,AV,Ext.tr (n _) B,HZ⟩,Bm⟩
  have E:=A (show F4 l=(AM,c) by
   have h1:EI (λi=>Ep (l.getD i Bu)) (ln l)=c:=by rw[Im z r.o (by show Ep (l.getD k Bu)≠0;rw[s.o];exact H)];exact s
   rw[J.o,h1,Aj H])
  have tc:(c !=0)=AL:=by rw[Cd];exact H
  go_wp2_with(go_at_call 194;refine(P _).q λW1 B=>?_)
  go_ret2;rw[E.o];exact⟨F,Ext.tr (n _) B⟩
 have ak:AQ ((k:Int)<(ln l:Int))=AM:=Et;have HD:=A (show F4 l=(Sa l,0) by
  have h1:EI (λi=>Ep (l.getD i Bu)) (ln l)=0:=KH (λj d=>r j D);rw[J.o,h1,Af (λh=>h rfl)])
 have ac:=A (show∀i,i<ln l->aN (l.getD i Bu) fromλi hi=>b1M (HS i hi) (r i D));clear hk;go_wp2;go_loopw [28] (λi wr=>∃m:Nat,m<=ln l/\i=M G (m:Int)/\Ext w wr/\∀j,j<m->Cm (λk=>JU (l.getD j Bu) (l.getD k Bu)) j=AM) (λi _=>((ln l:Int)-B8 i).toNat)
 case atStart=>exact⟨0,D,rfl,g,λj d=>D⟩
 clear g r;obtain⟨m,hm,rfl,f,t⟩:=hrel;have g:=A f;have r:=A t;clear f t;by_cases v:m<ln l
 .obtain⟨b,off,rfl,hB,hcell0⟩:=H3 D;have af:=A hcell0;have a:=A (λi hi j d=>(g.cell (p:=⟨b,off+5*i+j,O⟩) hB).trans (hcell0 i hi j d));have c0:=a m v 0 Z;have c1:=a m v 1 Z;have c2:=a m v 2 Z;have c3:=a m v 3 Z;have c4:=a m v 4 Z;rw[bS v,DL] at c0 c1 c2 c3 c4;rw[Dh] at c0;have U:=ac m v;have⟨o,C⟩:=AP (l.getD m Bu);rw[C] at c0 c1 c2 c3 c4 U;have HO:=A C;have ag:=A U;have RM:=A (Az.new wr 43 (Hs o));have EM:=A (show Ext wr (wr.alloc (.cells (Hs o).toArray 43)) from(Ad _ _).alloc (AS _) _);have am:m<=y:=D;clear hcell0 a C U;go_wp2;have⟨w1,aa⟩:=AP (wr.alloc (.cells (Hs o).toArray 43));rw[aa] at RM EM;simp only[aa];clear aa c0 c1 c2 c3 c4;go_loopw [37] (λq wq=>∃k:Nat,k<=m/\q=M G (k:Int)/\Ext w1 wq/\∀j,j<k->JU (l.getD m Bu) (l.getD j Bu)=AM) (λq _=>((m:Int)-B8 q).toNat)
  case atStart=>exact⟨0,D,rfl,Ad _ _,λj d=>D⟩
  obtain⟨q,hq,rfl,f,t⟩:=hrel;have K:=A (Ext.tr (Ext.tr g EM) f);have r1:=RM.ext f;have ab:=A t;have ad:=A f;clear f t;by_cases ai:q<m
  .have hqL:q<ln l:=D;have a:=A (λi hi j d=>(K.cell (p:=⟨b,off+5*i+j,O⟩) hB).trans (af i hi j d));have S:=a q hqL 0 Z;have d1:=a q hqL 1 Z;have d2:=a q hqL 2 Z;have d3:=a q hqL 3 Z;have d4:=a q hqL 4 Z;rw[bS hqL,DL] at S d1 d2 d3 d4;rw[Dh] at S;have W:=ac q hqL;have⟨u,hu⟩:=AP (l.getD q Bu);rw[hu] at S d1 d2 d3 d4 W;have n:=A (λ(p:Obj)=>(K.alloc K.size p:Ext w (wr.alloc p)));have N:=A (λ(p:Obj)=>a1o o u (wr.alloc p) ag W (HM.below (n p) (AS _)) (HT.below (n p) (AS _)));have s:=A (show JU (l.getD m Bu) (l.getD q Bu)=JU o u by rw[hu,HO.o]);have⟨x,hx⟩:=AP (JU o u);rw[hx] at s;simp only[hx] at N;have e0:=r1.cell 0;have e1:=r1.cell 1;have e2:=r1.cell 2;have e3:=r1.cell 3;have e4:=r1.cell 4;have ez:=r1.lt;have ah:=A (λ(p:Obj)=>(ad.alloc ad.size p:Ext w1 (wr.alloc p)));clear a W hu hx r1;cases x
   .have HZ:=A (show∀j,j<q+1->JU (l.getD m Bu) (l.getD j Bu)=AM fromλj d=>by
     by_cases I:j=q
     .rw[I];exact s
     exact ab j D)
    go_wp2_with(go_at_call 195;refine(N _).q λW1 B=>?_)
    exact⟨⟨q+1,D,AV,Ext.tr (ah _) B,HZ⟩,Bm⟩
   have E:=A (show F4 l=(AM,0) by
    rw[HD.o];unfold Sa;rw[J5 (p:=λi=>Cm (λk=>JU (l.getD i Bu) (l.getD k Bu)) i) v (J5 (p:=λk=>JU (l.getD m Bu) (l.getD k Bu)) ai s.o)];rfl)
   go_wp2_with(go_at_call 195;refine(N _).q λW1 B=>?_)
   go_ret2;rw[E.o];exact⟨F,Ext.tr (n _) B⟩
  obtain rfl:q=m:=D;have al:AQ ((q:Int)<(q:Int))=AM:=Et;clear r1;go_wp2;refine⟨⟨q+1,D,AV,K,λj d=> ?_⟩,Bm⟩;by_cases I:j=q
  .rw[I];exact Hy ab
  exact r j D
 have aj:AQ ((m:Int)<(ln l:Int))=AM:=Et;have E:=A (show F4 l=(AL,0) by
  rw[HD.o];unfold Sa;rw[Hy (λj d=>r.o j D)];rfl)
 go_wp2;go_ret2;rw[E.o];exact⟨F,g⟩
noncomputable def Ib(rs:List (List Sd))(l:List Er):Int:=
 if(F4 l).2≠0 then(F4 l).2 else if Fe rs≠0 then 1 else if l.any (λo=> !N o.Ei 0 ((ln rs.flatten:Int)-1)) then 2 else if(F4 l).1 then 0 else 28
def a3l(o:Er)(w:V)(B:Nat)(R:Option An)(n y:Nat)(hn:n<=4000000000)(a:Bx w B 117 (AK R n y)):
  AZ AO 123 #[AW (Hs o).toArray,Ap (Q ⟨B,0,O⟩)] w λe w'=>e=Ac (AU (!N o.Ei 0 ((n:Int)-1)))/\Ext w w':=by
 have c:=a.cell;have f:=a.lt;have d:=A (show Ext w (w.alloc (.cells (Hs o).toArray 43)) from(Ad _ _).alloc (AS _) _);have w1:G.wrap ((n:Int)-1)=(n:Int)-1:=DF _ D;have K:=A (λW=>aY o.Ei 0 ((n:Int)-1) W);have⟨r,b⟩:=AP (N o.Ei 0 ((n:Int)-1));simp only[b] at K⊢;clear a b;go_enter func123,ntmps123;go_wp2_with(go_at_call 65;refine(K _).mono ?_;rintro e W1 ⟨rfl,rfl⟩)
 go_ret;exact⟨F,d⟩
def b0i(l:List Er)(w:V)(B:Nat)(R:Option An)(n y:Nat)(hn:n<=4000000000)(a:Bx w B 117 (AK R n y)):
  Ux 123 #[Ap (Q ⟨B,0,O⟩)] 5 (Fa l) (λi=> !N (l.getD i Bu).Ei 0 ((n:Int)-1)) w:=by
 intro W i hi hx;rw[BL] at hi;rw[bS hi];exact a3l _ W B R n y hn (a.stays (hx.stays (n0:=0) (D8 _)))
def a0i(w:V)(R:Option An)(y:Nat)(rs:List (List Sd))(s:Option An)(v:Nat)(l:List Er)(Z:Ew w w.1.size R y rs)(S:ln rs.flatten<=4000000000)
  (H:BB 5 w w.1.size s v (Fa l))(hs:ln l<=32->∀o∈l,RN o)(hm:En w)(ht:CA w):
  AZ AO 69 #[AW #[AK R (ln rs) y],AK s (ln l) v] w λe w'=>e=Ac (M G (Ib rs l))/\Ext w w':=by
 have k:=A (show Ext w (w.alloc (.cells #[AK R (ln rs) y] 24)) from(Ad _ _).alloc (AS _) _);have K:=A (Bx.new w 24 (AK R (ln rs) y));have HR:=A (λ(W:V) (h:Ext w W)=>((Z.below h).more h.size:Ew W W.1.size R y rs));have Y:=A (λ(W:V) (h:Ext w W)=>((H.below h).more h.size:BB 5 W W.1.size s v (Fa l)));have HM:=A hm;have HT:=A ht;have h1:=H.1;have h2:=H.2.1;rw[BL] at h1;unfold BM at h2;have HS:=A hs;have t:=A (λ(W:V) (h:Ext w W)=>a0X W s v l (Y W h) HS (HM.below h (AS _)) (HT.below h (AS _)));have u:=A (λ(W:V) (h:Ext w W)=>a4k W R y rs (HR W h) S);have q:=A (show Ib rs l=if(F4 l).2≠0 then(F4 l).2 else if Fe rs≠0 then 1 else if l.any (λo=> !N o.Ei 0 ((ln rs.flatten:Int)-1)) then 2 else if(F4 l).1 then 0 else 28 from rfl);have⟨⟨d,c⟩,T⟩:=AP (F4 l);have⟨p,X⟩:=AP (Fe rs);rw[T,X] at q;simp only[T] at t;simp only[X] at u;dsimp only at q;have⟨n,hn⟩:=AP (ln rs.flatten);rw[hn] at q S;simp only[hn] at u;have J:=A (λ(W:V) (h:Ext w W) (B:Nat) (g:Option An) (j:Nat) (hb:Bx W B 117 (AK g n j))=>
  a1V W s v (ln l) (Fa l) (by rw[BL]) (Y W h) (T0 l) (λi=> !N (l.getD i Bu).Ei 0 ((n:Int)-1)) 123 #[Ap (Q ⟨B,0,O⟩)] (FZ func123 U rfl) (b0i l W B g n j S hb))
 have P:Cm (λi=> !N (l.getD i Bu).Ei 0 ((n:Int)-1)) (ln l)=l.any (λo=> !N o.Ei 0 ((n:Int)-1)):=fk l Bu (λo=> !N o.Ei 0 ((n:Int)-1));have⟨x,hx⟩:=AP (l.any (λo=> !N o.Ei 0 ((n:Int)-1)));rw[hx] at q P;simp only[P] at J;clear Z H hm ht hs T X hn P hx;by_cases z:c=0
 .have D:=A (show Ib rs l=if p≠0 then 1 else if x then 2 else if d then 0 else 28 by rw[q.o,Af (λh=>h z)]);subst z;by_cases C:p=0
  .have E:=A (show Ib rs l=if x then 2 else if d then 0 else 28 by rw[D.o,Af (λh=>h C)]);subst C;cases x
   .cases d;all_goals
     go_enter func69,ntmps69;go_wp2_with(first
      |(go_at_call 120;refine(t _ k).q λW1 a=>?_;have q1:=(K.stays (a.stays (n0:=0) (D8 _))).cell;have b:=A (Ext.tr k a);clear a)
      |(go_at_call 121;refine(u _ b).mono ?_;rintro e F ⟨g,r,j,x',rfl,EZ,Ge,f⟩;obtain⟨rfl,rfl,_⟩:=EZ trivial;have m:=A ((Ext.tr b f).alloc (Ext.tr b f).size (.cells #[AK g r j] 117));have I:=A (Bx.new F 117 (AK g r j));clear f EZ Ge)
      |(go_at_call 122;refine(J _ m _ _ _ I).q λW3 L=>?_))
     go_ret;exact⟨by rw[E.o];rfl,Ext.tr m L⟩
   go_enter func69,ntmps69;go_wp2_with(first
    |(go_at_call 120;refine(t _ k).q λW1 a=>?_;have q1:=(K.stays (a.stays (n0:=0) (D8 _))).cell;have b:=A (Ext.tr k a);clear a)
    |(go_at_call 121;refine(u _ b).mono ?_;rintro e F ⟨g,r,j,x',rfl,EZ,Ge,f⟩;obtain⟨rfl,rfl,_⟩:=EZ trivial;have m:=A ((Ext.tr b f).alloc (Ext.tr b f).size (.cells #[AK g r j] 117));have I:=A (Bx.new F 117 (AK g r j));clear f EZ Ge)
    |(go_at_call 122;refine(J _ m _ _ _ I).q λW3 L=>?_))
   go_ret;exact⟨by rw[E.o];rfl,Ext.tr m L⟩
  have E:=A (show Ib rs l=1 by rw[D.o,Aj C]);have aa:=A C;clear C;go_enter func69,ntmps69;go_wp2_with(first
   |(go_at_call 120;refine(t _ k).q λW1 a=>?_;have q1:=(K.stays (a.stays (n0:=0) (D8 _))).cell;have b:=A (Ext.tr k a);clear a)
   |(go_at_call 121;refine(u _ b).mono ?_;rintro e F ⟨g,r,j,x',rfl,EZ,Ge,f⟩;obtain rfl:=Ge aa;have m:=A (Ext.tr b f);clear f EZ Ge))
  go_ret;exact⟨by rw[E.o];rfl,m.alloc m.size _⟩
 have D:=A (show Ib rs l=c by rw[q.o,Aj z]);have tc:(c !=0)=AL:=by rw[Cd];exact z
 clear z;go_enter func69,ntmps69;go_wp2_with(go_at_call 120;refine(t _ k).q λW1 a=>?_)
 go_ret;exact⟨by rw[D.o];rfl,Ext.tr k a⟩
abbrev Oh(x:Ld):List AN:=[M G x.Ab,M G x.Ei,AT (tx x.La)]
abbrev I6(l:List Ld):List (List AN):=l.map Oh
theorem a58{l:List Ld}(hi:i<ln l):(I6 l).getD i []=Oh (l.getD i Fl):=by
 simp[Gs,Bv hi]
def UJ(l:List Ld):DG 3 (I6 l):=G9 (f:=Oh) (λ_=>rfl) l
def Ua(a:List UInt8):Nat:=match Dq a with|none=>0|some (n,d)=>max (Ag n).length (ln d)
noncomputable def Kz(a:List UInt8):Int:=if BF a≠0 then BF a else if 20<Ua a then 4 else if DH a [45] then 2 else 0
noncomputable def Nc(l:List Ld)(i:Nat):Int:=
 if(l.getD i Fl).Ab<1\/3<(l.getD i Fl).Ab then 8 else if(l.getD i Fl).Ei< -1\/24<=(l.getD i Fl).Ei then 2 else Kz (l.getD i Fl).La
noncomputable def J7(l:List Ld):Int:=if 64<ln l then 4 else EI (Nc l) (ln l)
def a0S(s:List UInt8)(w:V):AZ AO 199 #[AT (tx s),AT ⟨#[45]⟩] w λe w'=>e=Ac (AU (DH s [45]))/\w'=w:=by
 have:=strings_HasPrefix (tx s) (tx [45]) w;rw[ME,ME] at this;exact this
def a2G(a:List UInt8)(w:V)(B:ln a<=300000)(hm:En w)(k:CA w)(b:BF a=0):AZ AO 198 #[AT (tx a)] w λe w'=>e=Ac (M G (Ua a:Int))/\Ext w w':=by
 have j:=A (nH a w B hm k);rw[b] at j;obtain⟨n,d,f⟩:∃n d,Dq a=Q (n,d):=by
  unfold BF at b;cases u:Dq a with
  |none=>rw[u] at b;cases b
  |some p=>exact⟨p.1,p.2,F⟩
 have i:=A (show Ua a=max (Ag n).length (ln d) by unfold Ua;rw[f]);have l:=A f;have H:=cO f;have v:=UG n;clear hm k b f;have⟨o,g⟩:=AP (Ag n);rw[g] at i v;have m:=A g;clear g;go_enter func198,ntmps198;go_wp2_with(first
  |(go_at_call 252;refine j.mono ?_;rintro e W1 ⟨x,y,rfl,z,t⟩;obtain⟨C,q,c,rfl,rfl⟩:=z F;rw[l.o] at c;obtain⟨rfl,rfl⟩:n=C/\d=q:=by{injection c with c;injection c with r s;exact⟨r,s⟩})
  |(go_at_call 253;refine(aX _ _).mono ?_;rintro e E ⟨rfl,rfl⟩;rw[m.o]))
 go_ret;exact⟨by rw[i.o];exact gQ D,t⟩
def a2j(a:List UInt8)(w:V)(r:ln a<=300000)(hm:En w)(j:CA w):AZ AO 126 #[AT (tx a)] w λe w'=>e=Ac (M G (Kz a))/\Ext w w':=by
 have i:=A (jf a w r hm j);have o:=A (λW=>a0S a W);by_cases d:BF a=0
 .have K2:=A (λ(W:V) (h:Ext w W)=>a2G a W r (hm.below h (AS _)) (j.below h (AS _)) d);have g:=A (show Kz a=if 20<Ua a then 4 else if DH a [45] then 2 else 0 by unfold Kz;rw[Af (λh=>h d)]);rw[d] at i;clear hm j d;have⟨n,hn⟩:=AP (Ua a);rw[hn] at g;simp only[hn] at K2;have⟨b,m⟩:=AP (DH a [45]);rw[m] at g;simp only[m] at o;clear hn m;by_cases k:20<n
  .have u:=A (show Kz a=4 by rw[g.o,Aj k]);have t:AQ (20<(n:Int))=AL:=NF;go_enter func126,ntmps126;go_wp2_with(first
    |(go_at_call 180;refine i.q λW1 f=>?_)
    |(go_at_call 198;refine(K2 _ f).q λs l=>?_))
   go_ret;exact⟨Kv,Ext.tr f l⟩
  have t:AQ (20<(n:Int))=AM:=Et;cases b
  .have u:=A (show Kz a=0 by rw[g.o,Af k];rfl);exact a00
  have u:=A (show Kz a=2 by rw[g.o,Af k];rfl);exact a00
 have u:=A (show Kz a=BF a by unfold Kz;rw[Aj d]);have⟨c,q⟩:=AP (BF a);rw[q] at i u d;have t:(c !=0)=AL:=by rw[Cd];exact d
 clear hm j d q;go_enter func126,ntmps126;go_wp2_with(go_at_call 180;refine i.q λW1 f=>?_)
 go_ret;exact⟨Kv,f⟩
def b5c(w:V)(l:List Ld)(i:AN)(wr:V):Prop:=∃k:Nat,k<=ln l/\i=M G (k:Int)/\Ext w wr/\∀j,j<k->Nc l j=0
def rD(w:V)(R:Option An)(y:Nat)(l:List Ld)(hl:BB 3 w w.1.size R y (I6 l))(L:∀x∈l,ln x.La<=300000)(hm:En w)(N:CA w):
  AZ AO 75 #[AK R (ln l) y] w λe w'=>e=Ac (M G (J7 l))/\Ext w w':=by
 obtain⟨h1,h2,s⟩:=hl;rw[BL] at h1 s;unfold BM at h2;by_cases S:64<ln l
 .have HR:=A (show J7 l=4 by unfold J7;rw[Aj S]);clear s L hm N;go_enter func75,ntmps75;exact mg
 have HR:=A (show J7 l=EI (Nc l) (ln l) by unfold J7;rw[Af S]);have W:=A s;have HS:=A L;have Y:=A hm;have HT:=A N;clear s L hm N;go_enter func75,ntmps75;go_wp2;go_loopw [11] (λi wr=>b5c w l i wr) (λi _=>((ln l:Int)-B8 i).toNat)
 case atStart=>exact⟨0,D,rfl,Ad _ _,λj C=>D⟩
 obtain⟨k,hk,rfl,T,U⟩:=hrel;have a:=A T;have F:=A U;clear T U;by_cases d:k<ln l
 .obtain⟨b,off,rfl,hB,hcell0⟩:=W D;have ab:b<wr.1.size:=Dj hB a.size;have m:=A (λi hi j C=>(a.cell (p:=⟨b,off+3*i+j,O⟩) hB).trans (hcell0 i hi j C));have c0:=m k d 0 Z;have c1:=m k d 1 Z;have c2:=m k d 2 Z;rw[a58 d,DL] at c0 c1 c2;rw[Dh] at c0;have n:=A (show Nc l k=if(l.getD k Fl).Ab<1\/3<(l.getD k Fl).Ab then 8 else if(l.getD k Fl).Ei< -1\/24<=(l.getD k Fl).Ei then 2 else Kz (l.getD k Fl).La from rfl);have E:=HS (l.getD k Fl) (by rw[CM,Bv d];exact Ey d);have⟨⟨g,sd,P⟩,hx⟩:=AP (l.getD k Fl);rw[hx] at c0 c1 c2 n E;dsimp only at n E;clear hx hcell0 m;have q:=A (λo=>(a.alloc a.size o:Ext w (wr.alloc o)));have X:=A (λ(h:Nc l k=0)=>(show∀j,j<k+1->Nc l j=0 fromλj C=>by
   by_cases aa:j=k
   .rw[aa];exact h
   exact F j D))
  have r:=A (λ(c:Int) (h:Nc l k=c) (h0:c≠0)=>(show J7 l=c by rw[HR.o,Im d F.o (by rw[h];exact h0),h]));by_cases z:g<1
  .exact zy
  have d1:AQ (g<1)=AM:=by rw[CX];exact z
  by_cases t:3<g
  .have d2:AQ (3<g)=AL:=by rw[Cx];exact t
   exact zx
  have d2:AQ (3<g)=AM:=by rw[CX];exact t
  by_cases u:sd< -1
  .have d3:AQ (sd< -1)=AL:=by rw[Cx];exact u
   exact zw
  have d3:AQ (sd< -1)=AM:=by rw[CX];exact u
  by_cases v:24<=sd
  .have d4:AQ (24<=sd)=AL:=by rw[Cx];exact v
   exact zv
  have d4:AQ (24<=sd)=AM:=by rw[CX];exact v
  have H:=A (show Nc l k=Kz P by rw[n.o,Af D,Af D]);have I:=A (λ(o:Obj)=>a2j P (wr.alloc o) E (Y.below (q o) (AS _)) (HT.below (q o) (AS _)));have⟨c,K⟩:=AP (Kz P);rw[K] at H;simp only[K] at I;clear K E;by_cases B:c=0
  .have HZ:=A (X (by rw[H.o,B]));subst B;go_wp2_with(go_at_call 126;refine(I _).q λW2 J=>?_)
   exact⟨⟨k+1,D,AV,Ext.tr (q _) J,HZ⟩,Bm⟩
  have f:=A (r c H B);have tc:(c !=0)=AL:=by rw[Cd];exact B
  go_wp2_with(go_at_call 126;refine(I _).q λW2 J=>?_)
  go_ret;exact⟨Kw,Ext.tr (q _) J⟩
 have ac:AQ ((k:Int)<(ln l:Int))=AM:=Et;have f:=A (show J7 l=0 by rw[HR.o,KH (λj C=>F.o j D)]);exact fT
section
structure BG where
 name:List UInt8
 BK:List (List Sd)
 Ki:Int
 CF:Int
 BR:List Int
 Bi:List Er
 BT:List Sz
 CV:List Br
 Nj:Int
 Fv:Tl
 Bt:List Ld
 BW:List Aw
structure BU where
 pa:Option An
 pc:Nat
 ua:Option An
 uc:Nat
 oa:Option An
 oc:Nat
 za:Option An
 zc:Nat
 ba:Option An
 bc:Nat
 la:Option An
 lc:Nat
 sa:Option An
 sc:Nat
def P(j:BG)(a:BU):Array AN:=#[AT (tx j.name),AK a.pa (ln j.BK) a.pc,M G j.Ki,M G j.CF,AK a.ua (ln j.BR) a.uc,AK a.oa (ln j.Bi) a.oc,AK a.za (ln j.BT) a.zc,AK a.ba (ln j.CV) a.bc,M G j.Nj,M G j.Fv.BX,M G j.Fv.length,M G j.Fv.It,M G j.Fv.tail,AK a.la (ln j.Bt) a.lc,AK a.sa (ln j.BW) a.sc]
def Hj(j:BG)(a:BU):(P j a).size=15:=rfl
def Ke(j:BG)(a:BU):(P j a)[0]?=Q (AT (tx j.name)):=rfl
def Jp(j:BG)(a:BU):(P j a)[1]?=Q (AK a.pa (ln j.BK) a.pc):=rfl
def Kg(j:BG)(a:BU):(P j a)[2]?=Q (M G j.Ki):=rfl
def Kf(j:BG)(a:BU):(P j a)[3]?=Q (M G j.CF):=rfl
def J8(j:BG)(a:BU):(P j a)[4]?=Q (AK a.ua (ln j.BR) a.uc):=rfl
def JD(j:BG)(a:BU):(P j a)[5]?=Q (AK a.oa (ln j.Bi) a.oc):=rfl
def JF(j:BG)(a:BU):(P j a)[6]?=Q (AK a.za (ln j.BT) a.zc):=rfl
def JE(j:BG)(a:BU):(P j a)[7]?=Q (AK a.ba (ln j.CV) a.bc):=rfl
def Kh(j:BG)(a:BU):(P j a)[8]?=Q (M G j.Nj):=rfl
def Kd(j:BG)(a:BU):(P j a)[9]?=Q (M G j.Fv.BX):=rfl
def Ka(j:BG)(a:BU):(P j a)[10]?=Q (M G j.Fv.length):=rfl
def Kc(j:BG)(a:BU):(P j a)[11]?=Q (M G j.Fv.It):=rfl
def Kb(j:BG)(a:BU):(P j a)[12]?=Q (M G j.Fv.tail):=rfl
def Iz(j:BG)(a:BU):(P j a)[13]?=Q (AK a.la (ln j.Bt) a.lc):=rfl
def J3(j:BG)(a:BU):(P j a)[14]?=Q (AK a.sa (ln j.BW) a.sc):=rfl
attribute [local go_sem] Hj Ke Jp Kg Kf J8 JD JF JE Kh Kd Ka Kc Kb Iz J3
def JC(w:V)(c:Nat)(j:BG)(a:BU):Prop:=w.1[c]?=Q (.cells (P j a) 34 (0,0))
theorem JC.ext{j:BG}{a:BU}(h:JC w c j a)(hx:Ext w w'):JC w' c j a:=(hx.block c (Ee.1 h).1).trans h
theorem JC.lt{j:BG}{a:BU}(h:JC w c j a):c<w.1.size:=(Ee.1 h).1
theorem JC.cell{j:BG}{a:BU}(h:JC w c j a)(i:Nat):w.cell? ⟨c,i,O⟩=(P j a)[i]?:=by unfold JC at h;simp[Dx,h]
theorem JC.frozen{j:BG}{a:BU}(h:JC w c j a)(i:Nat):w.frozen? ⟨c,i,O⟩=AM:=by unfold JC at h;simp[Hb,h]
structure EP(w:V)(B:Nat)(j:BG)(a:BU):Prop where
 p:Ew w B a.pa a.pc j.BK
 u:BB 1 w B a.ua a.uc (Cy j.BR)
 o:BB 5 w B a.oa a.oc (Fa j.Bi)
 z:BB 3 w B a.za a.zc (Fq j.BT)
 b:Jr w B a.ba a.bc j.CV
 l:BB 3 w B a.la a.lc (I6 j.Bt)
 s:BB 5 w B a.sa a.sc (Em j.BW)
theorem EP.below{B:Nat}{j:BG}{a:BU}(h:EP w B j a)(b:At B w w'):EP w' B j a:=
 ⟨h.p.below b,h.u.below b,h.o.below b,h.z.below b,h.b.below b,h.l.below b,h.s.below b⟩
theorem EP.more{B B':Nat}{j:BG}{a:BU}(h:EP w B j a)(b:B<=B'):EP w B' j a:=
 ⟨h.p.more b,h.u.more b,h.o.more b,h.z.more b,h.b.more b,h.l.more b,h.s.more b⟩
theorem EP.grow{j:BG}{a:BU}(h:EP w w.1.size j a)(hx:Ext w w'):EP w' w'.1.size j a:=(h.below hx).more hx.size
structure Ll(j:BG):Prop where
 name:ln j.name<=1000000
 BK:ln j.BK.flatten<=4000000000
 ops:ln j.Bi<=32->∀o∈j.Bi,RN o
 Bt:∀x∈j.Bt,ln x.La<=300000
noncomputable def Eh(j:BG):Int:=
 if IY j.name=AM then 13 else if Fe j.BK≠0 then Fe j.BK else if N j.Ki 0 65536=AM then 2 else if N j.CF 1 65536=AM then 2
 else if Fi j.BR≠0 then Fi j.BR else if Ib j.BK j.Bi≠0 then Ib j.BK j.Bi else if JZ j.BT≠0 then JZ j.BT else if Kk j.CV≠0 then Kk j.CV
 else if N j.Nj 0 100=AM then 2 else if GI j.Fv≠0 then GI j.Fv else if J7 j.Bt≠0 then J7 j.Bt else Ip j.BW
def a3J(W0 W:V)(c:Nat)(j:BG)(a:BU)(b:JC W c j a)(d:EP W0 W0.1.size j a)(g:Ll j)(hm:En W0)(h:CA W0)(hx:Ext W0 W):
  AZ AO 66 #[Ap (Q ⟨c,0,O⟩)] W λe w'=>e=Ac (M G (Fi j.BR))/\Ext W w':=by
 have K:=A (a0y W a.ua a.uc j.BR (d.grow hx).u);have q:=λi=>b.cell i
 have l:=b.lt;have⟨x,f⟩:=AP (Fi j.BR);rw[f] at K⊢;clear b d g hm h hx f;go_enter func66,ntmps66;go_wp2_with(go_at_call 67;refine K.q λW1 k=>?_)
 go_ret;exact⟨F,Ext.B9 _⟩
def a2f(W0 W:V)(c:Nat)(j:BG)(a:BU)(d:JC W c j a)(b:EP W0 W0.1.size j a)(f:Ll j)(hm:En W0)(g:CA W0)(hx:Ext W0 W):
  AZ AO 68 #[Ap (Q ⟨c,0,O⟩)] W λe w'=>e=Ac (M G (Ib j.BK j.Bi))/\Ext W w':=by
 have K:=A (a0i W a.pa a.pc j.BK a.oa a.oc j.Bi (b.grow hx).p f.BK (b.grow hx).o f.ops (hm.below hx (AS _)) (g.below hx (AS _)));have q:=λi=>d.cell i
 have l:=d.lt;have⟨x,h⟩:=AP (Ib j.BK j.Bi);rw[h] at K⊢;clear d b f hm g hx h;go_enter func68,ntmps68;go_wp2_with(go_at_call 69;refine K.q λW1 k=>?_)
 go_ret;exact⟨F,k⟩
def a3I(W0 W:V)(c:Nat)(j:BG)(a:BU)(b:JC W c j a)(d:EP W0 W0.1.size j a)(h:Ll j)(hm:En W0)(k:CA W0)(hx:Ext W0 W):
  AZ AO 70 #[Ap (Q ⟨c,0,O⟩)] W λe w'=>e=Ac (M G (JZ j.BT))/\Ext W w':=by
 have K:=A (a4h W a.za a.zc j.BT (d.grow hx).z);have q:=λi=>b.cell i
 have l:=b.lt;have⟨x,f⟩:=AP (JZ j.BT);rw[f] at K⊢;clear b d h hm k hx f;go_enter func70,ntmps70;go_wp2_with(go_at_call 71;refine K.q λW1 g=>?_)
 go_ret;exact⟨F,g⟩
def a2I(W0 W:V)(c:Nat)(j:BG)(a:BU)(b:JC W c j a)(d:EP W0 W0.1.size j a)(h:Ll j)(hm:En W0)(k:CA W0)(hx:Ext W0 W):
  AZ AO 72 #[Ap (Q ⟨c,0,O⟩)] W λe w'=>e=Ac (M G (Kk j.CV))/\Ext W w':=by
 have K:=A (a2n W a.ba a.bc j.CV (d.grow hx).b);have q:=λi=>b.cell i
 have l:=b.lt;have⟨x,f⟩:=AP (Kk j.CV);rw[f] at K⊢;clear b d h hm k hx f;go_enter func72,ntmps72;go_wp2_with(go_at_call 73;refine K.q λW1 g=>?_)
 go_ret;exact⟨F,g⟩
def VR (w : V) (j : BG) (a : BU) (hb : EP w w.1.size j a) (l : Ll j) (hm : En w) (ht : CA w) :
    AZ AO 41 #[AW (P j a)] w λe w' => e =Ac (M G (Eh j)) /\ Ext w w' := by
  have m := A (show Ext w (w.alloc (.cells (P j a) 34)) from (Ad _ _).alloc (AS _) _);have L := A (show JC (w.alloc (.cells (P j a) 34)) w.1.size j a from Bq w _);obtain ⟨W0, I⟩ : ∃ W0, w.alloc (.cells (P j a) 34) = W0 := ⟨_, F⟩;rw [I] at m L;have K := A I;clear I;have k := hb.grow m.o;have n := hm.below m.o (AS _);have o := ht.below m.o (AS _);have Z := A (λW => jm j.name W l.name);have KP := A (nG W0 a.pa a.pc j.BK k.p l.BK);have f := A (λ(W : V) (h : Ext W0 W) => L.o.ext h);have R := A (λ(W : V) (h : Ext W0 W) => a3J W0 W w.1.size j a (f.o W h) k l n o h);have S := A (λ(W : V) (h : Ext W0 W) => a2f W0 W w.1.size j a (f.o W h) k l n o h);have T := A (λ(W : V) (h : Ext W0 W) => a3I W0 W w.1.size j a (f.o W h) k l n o h);have X := A (λ(W : V) (h : Ext W0 W) => a2I W0 W w.1.size j a (f.o W h) k l n o h);have KT := A (λW => a3j j.Fv W);have Y := A (λ(W : V) (h : Ext W0 W) => rD W a.la a.lc j.Bt (k.grow h).l l.Bt (n.below h (AS _)) (o.below h (AS _)));have KS := A (λ(W : V) (h : Ext W0 W) => a2T W a.sa a.sc j.BW (k.grow h).s);have g1 := FZ func66 U F;have g2 := FZ func68 U F;have g3 := FZ func70 U F;have g4 := FZ func72 U F;have u := A (show Eh j = if IY j.name = AM then 13 else if Fe j.BK ≠ 0 then Fe j.BK else if N j.Ki 0 65536 = AM then 2 else if N j.CF 1 65536 = AM then 2
    else if Fi j.BR ≠ 0 then Fi j.BR else if Ib j.BK j.Bi ≠ 0 then Ib j.BK j.Bi else if JZ j.BT ≠ 0 then JZ j.BT else if Kk j.CV ≠ 0 then Kk j.CV
    else if N j.Nj 0 100 = AM then 2 else if GI j.Fv ≠ 0 then GI j.Fv else if J7 j.Bt ≠ 0 then J7 j.Bt else Ip j.BW from rfl)
  clear hb l hm ht k n o;obtain ⟨nm, h1⟩ : ∃ x, IY j.name = x := ⟨_, F⟩;obtain ⟨pe, h2⟩ : ∃ x, Fe j.BK = x := ⟨_, F⟩;obtain ⟨b2, t2⟩ : ∃ x, N j.Ki 0 65536 = x := ⟨_, F⟩;obtain ⟨b3, t3⟩ : ∃ x, N j.CF 1 65536 = x := ⟨_, F⟩;obtain ⟨e1, B⟩ : ∃ x, Fi j.BR = x := ⟨_, F⟩;obtain ⟨e2, C⟩ : ∃ x, Ib j.BK j.Bi = x := ⟨_, F⟩;obtain ⟨e3, D⟩ : ∃ x, JZ j.BT = x := ⟨_, F⟩;obtain ⟨e4, E⟩ : ∃ x, Kk j.CV = x := ⟨_, F⟩;obtain ⟨b8, t8⟩ : ∃ x, N j.Nj 0 100 = x := ⟨_, F⟩;obtain ⟨te, H⟩ : ∃ x, GI j.Fv = x := ⟨_, F⟩;obtain ⟨le, v⟩ : ∃ x, J7 j.Bt = x := ⟨_, F⟩;obtain ⟨se, y⟩ : ∃ x, Ip j.BW = x := ⟨_, F⟩;rw [h1, h2, t2, t3, B, C, D, E, t8, H, v, y] at u;simp only [h1] at Z;rw [h2] at KP;simp only [B] at R;simp only [C] at S;simp only [D] at T;simp only [E] at X;simp only [H] at KT;simp only [v] at Y;simp only [y] at KS;clear h1 h2 B C D E H v y;have t := u.o;clear u;cases nm
  case' true => by_cases d : pe = 0
  case' pos => subst d; cases b2
  case' true => cases b3
  case' true => by_cases d : e1 = 0
  case' pos => subst d; by_cases d : e2 = 0
  case' pos => subst d; by_cases d : e3 = 0
  case' pos => subst d; by_cases d : e4 = 0
  case' pos => subst d; cases b8
  case' true => by_cases d : te = 0
  case' pos => subst d; by_cases d : le = 0
  case' pos => subst d
  all_goals
    first | have tp := Cd.2 d | skip
    first | simp only [d, ne_eq, not_true_eq_false, not_false_eq_true, SO, Wx, Bool.true_eq_false] at t | simp only [ne_eq, not_true_eq_false, SO, Wx, Bool.true_eq_false] at t
    have HE := A t;clear t;go_enter func41, ntmps41
  iterate 9 all_goals (first
      | (go_ret; exact ⟨by rw [HE.o] <;> rfl, by first | exact Ext.tr m.o b.o | (rw [K.o]; exact m.o)⟩)
      | (first | rw [LP] | (refine QK 6 ?_; rw [LP]) | skip
         go_wp2_with (first
          | ((first | (go_at_call 68; refine (S.o _ b.o).mono ?_) | (go_at_call 70; refine (T.o _ b.o).mono ?_) | (go_at_call 72; refine (X.o _ b.o).mono ?_)); rintro e s ⟨rfl, c⟩; have r := λi => (g.o.ext c).cell i; have q := λi => (f.o s (Ext.tr b.o c)).cell i; have z := (g.o.ext c).lt; have g := A (g.o.ext c); have b := A (Ext.tr b.o c); clear c)
          | ((first | (go_at_call 75; refine (Y.o _ b.o).mono ?_) | (go_at_call 76; refine (KS.o _ b.o).mono ?_) | (go_at_call 74; refine (KT.o _).mono ?_)); rintro e s ⟨rfl, c⟩; have q := λi => (f.o s (Ext.tr b.o c)).cell i; have b := A (Ext.tr b.o c); clear c)
          | (go_at_call 66; refine (R.o _ (b.o.alloc b.o.size _)).mono ?_; rintro e s ⟨rfl, c⟩; have r := λi => (g.o.ext c).cell i; have q := λi => (f.o s (Ext.tr (b.o.alloc b.o.size _) c)).cell i; have z := (g.o.ext c).lt; have g := A (g.o.ext c); have b := A (Ext.tr (b.o.alloc b.o.size _) c); clear c)
          | (go_at_call 65; refine (aY _ _ _ _).mono ?_; rintro e W9 ⟨rfl, rfl⟩; first | rw [t2] | rw [t3] | rw [t8] | skip)
          | (go_at_call 64; rw [K.o]; refine KP.o.mono ?_; rintro e W1 ⟨rfl, J⟩; have q1 := λi => (f.o W1 J).cell i; have b := A (Ext.tr (Ext.B9 W0) J); have g := A (Az.new W1 122 [.func (.func 66) #[] #[Ap (Q ⟨w.1.size, 0, O⟩)], .func (.func 68) #[] #[Ap (Q ⟨w.1.size, 0, O⟩)], .func (.func 70) #[] #[Ap (Q ⟨w.1.size, 0, O⟩)], .func (.func 72) #[] #[Ap (Q ⟨w.1.size, 0, O⟩)]]); clear J)
          | (go_at_call 58; refine (Z.o _).mono ?_; rintro e W9 ⟨rfl, rfl⟩))))
end
def DU(n:Nat)(i:Int):Int:=if 0<=i/\i<=(n:Int) then 0 else 6
def CC{S:Type}(l:List S)(i:Int)(x:S):List S:=if i=(ln l:Int) then l++[x] else l.set i.toNat x
theorem a9C{rows:List (List AN)}(hw:DG k rows)(hx:ln x=k)(m:Nat):DG k (rows.set m x):=by
 intro r a;rcases yA a with h|h
 .exact hw r h
 grind
theorem kH{rows:List (List AN)}(hw:DG k rows)(hm:m<=ln rows):rows.flatten.take (m*k)=(rows.take m).flatten:=by
 exact zP
theorem kD{rows:List (List AN)}(hw:DG k rows)(hm:m<=ln rows):rows.flatten.drop (m*k)=(rows.drop m).flatten:=by
 exact zP
theorem a9J{rows:List (List AN)}(hw:DG k rows)(hm:m<ln rows)(x:List AN):
  (rows.set m x).flatten=rows.flatten.take (m*k)++x++rows.flatten.drop (m*k+k):=by
 rw[List.set_eq_take_append_cons_drop,Aj hm,QB,Wi,kH hw (FM hm),<-eX,kD hw hm,No]
theorem Xy{rows:List (List AN)}(j:base<=g)(l:w.1[g]?=Q (.cells cur e (0,0)))(h1:n<=y)(h2:y<=BM)
  (f:cur.size=y*k)(i:cur.toList.take (n*k)=rows.flatten)(hn:ln rows=n)(hw:DG k rows)(hx:ln x=k)(hm:m<n):
  (w.setRow g (putAt cur (m*k) x.toArray)).ownsRow base e k (AK (Q ⟨g,0,O⟩) n y) n (rows.set m x).flatten:=by
 subst hn;have r:m*k+k<=ln rows*k:=by rw[<-eX];exact Gz k hm
 have q:ln rows*k<=y*k:=Gz k h1;have b:cur.toList=rows.flatten++cur.toList.drop (ln rows*k):=by rw[<-i,WY]
 have o:ln rows.flatten=ln rows*k:=LF hw;have s:ln cur.toList=y*k:=by simp[f]
 refine⟨by rw[LF (a9C hw hx m),Nl],.inr ⟨g,y,_,rfl,j,setRow_heap l _,h1,h2,?_,?_⟩⟩
 .grind [putAt,List.size_toArray,List.length_append,List.length_take,List.length_drop]
 unfold putAt;rw[a9J hw hm];simp only[Dh];rw[hx];generalize cur.toList.drop (ln rows*k)=a at b;have c:(rows.flatten++a).take (m*k)=rows.flatten.take (m*k):=List.take_append_of_le_length D;have d:(rows.flatten++a).drop (m*k+k)=rows.flatten.drop (m*k+k)++a:=List.drop_append_of_le_length D;rw[b,c,d,<-No,lg]
 grind
def RY(R:Option An)(n y B k:Nat)(E:Bb)(rows:List (List AN))(x:List AN)(i:Nat)(v:AN)(W:V):Prop:=
 match i with
 |0=>v=AK R n y
 |1=>W.ownsRow B E k v n rows.flatten
 |2=>v=AW x.toArray
 |_=>∃g,v=AK (Q ⟨g,0,O⟩) 1 1/\Az W g E x
theorem Pr{v:AN}(h:w.ownsRow base e s v n Y)(hn:0<n):
  ∃g y cur,v=AK (Q ⟨g,0,O⟩) n y/\base<=g/\w.1[g]?=Q (.cells cur e (0,0))/\n<=y/\y<=BM/\cur.size=y*s/\cur.toList.take (n*s)=Y:=by
 obtain⟨_,⟨_,a⟩|⟨g,y,cur,h⟩⟩:=h
 .omega
 exact⟨g,y,cur,h⟩
theorem Lv{base c n s:Nat}{v:AN}(h:w.ownsRow base e s v n Y)(d:c<=base):w.ownsRow c e s v n Y:=by
 obtain⟨a,b|⟨g,y,cur,e,h1,h2⟩⟩:=h
 .exact TZ
 exact⟨a,.inr ⟨g,y,cur,e,BJ d h1,h2⟩⟩
theorem dB{n y B k:Nat}{rows:List (List AN)}{v:AN}(h:RY R n y B k E rows x i v W)(hx:Ext W W'):RY R n y B k E rows x i v W':=by
 rcases(show i=0\/i=1\/i=2\/3<=i by omega) with rfl|rfl|rfl|hi
 .exact h
 .exact EV h hx
 .exact h
 obtain⟨j,rfl⟩:∃j,i=j+3:=⟨i-3,D⟩;obtain⟨g,e,a⟩:=h;exact⟨g,e,a.ext hx⟩
def WQ(R:Option An)(n y:Nat)(i:Int)(X:AN)(g:Nat)(B:Nat->AN):BV:=⟨#[AK R n y,M G i,X,Ba,Ba,Ap (Q ⟨g,0,O⟩),AK O 0 0,M G 0,Ba,
 AU AM,M G i,AU AM,AU AM,M G i,AK R n y,M G (n:Int),AU AM,AU AM,AU AL,M G i,AK R n y,M G (n:Int),
 AU AL,B 0,B 1,B 2,B 3,Ba,Ba,Ba,Ba,Ba,Ba,Ba,Ba],[]⟩
def Zc(w:V)(x:List AN)(t:Bb):∃W0,Hid (w.alloc (.cells x.toArray t)=W0)/\Hid (Ext w W0)/\Hid (Az W0 w.1.size t x):=⟨_,A rfl,A ((Ad _ _).alloc (AS _) _),A (Az.new w _ _)⟩
def cU{rows:List (List AN)}{i:Int}(x:List AN)(h:i=(ln rows:Int)):CC rows i x=rows++[x]:=Aj h
theorem a8f{rows:List (List AN)}(x:List AN)(h:¬(m:Int)=(ln rows:Int)):CC rows (m:Int) x=rows.set m x:=Af h
theorem Zs(h:p:=by
  obtain rfl:=c.o;rw[show DU (ln rows) i=6 from Af hi];by_cases hi0:i<0
  .have l:AQ (i<0)=AL:=CP hi0;clear hi hi0;go_wp2;go_ret2;exact⟨_,⟨_,_,_,F⟩,F,b⟩
  have l:AQ (i<0)=AM:=Bw hi0;have J:AQ (i>(ln rows:Int))=AL:=CP D;clear hi hi0;go_wp2;go_ret2;exact⟨_,⟨_,_,_,F⟩,F,b⟩):p:=h
theorem a9D(hm:m<n)(h1:n<=y)(a:s=y*k):m*k+k<=s:=by
 rw[a,<-eX];exact Gz k D
theorem Za(h:p:=by
  obtain rfl:=c.o;have L:(i==(ln rows:Int))=AM:=CK.2 a;obtain⟨m,rfl⟩:∃m:Nat,i=(m:Int):=⟨i.toNat,D⟩;have hm:m<ln rows:=D;rw[a8f _ a];have HW:=A hw;clear hi a hw;have H1:=A d;go_wp2_with(first
   |(refine OD rfl _ _ _ rfl _ _ _ rfl rfl _ _ HH U HS (by simpa using H1.o) ?_)
   |(refine(f _ b).mono ?_;rintro e W1 ⟨v,rfl,ho,hX⟩;obtain⟨g,cp,cur,rfl,hb,hh,q1,q2,q3,q4⟩:=Pr ho D;have HH:=A hh;have HQ:=A q3;have HF:=A q4;have cR:=λi=>(j.ext hX).cell i;have HX:=A (b.tr hX);have HB:=A hb;have HS:=A (a9D hm q1 q3);clear ho hh q3 q4 hX hb))
  go_ret2;refine⟨_,⟨_,_,_,F⟩,F,?_,?_⟩
  .exact Xy (BJ b.size HB) HH q1 q2 HQ HF F HW F hm
  exact CL HX (BJ b.size HB) _):p:=h
theorem dE(h:p:=by
  intro i B w' hi hD hd;unfold WQ;have cA:=λi=>(j.ext hD).cell i
  rcases(show i=0\/i=1\/i=2\/i=3 by omega) with rfl|rfl|rfl|rfl<;>clear hi<;>refine DC rfl (λK hK=> ?_)
  .exact Ek
  .have d0:=hd 0 U;simp only[RY] at d0;have hE:=A (b.tr hD);go_simp;refine(f _ hE).mono ?_;rintro e W1 ⟨v,rfl,ho,hX⟩;exact hK _ _ ⟨v,by simp[d0],hX,Lv ho hE.size,λh=>Aq⟩
  .exact Ek
  have d2:=hd 2 U;simp only[RY] at d2;go_simp;exact hK _ _ ⟨_,by simp[d2],(Ad _ _).alloc (AS _) _,⟨_,rfl,Az.new _ _ _⟩,λh=>Aq⟩):p:=h
theorem dI(h:p:=by
  intro B w' hD hV _;have v1:=hV 1 D;have⟨g,v3,r3⟩:=hV 3 D;simp only[RY] at v1;have HO:=A v1;have RG:=A r3;have HX:=A (b.tr hD);have hone:=A (PN.1 d);clear hV v1 r3 hD d;unfold WQ;simp only[v3,FV,FY];refine Ln _ F _ _ _ F w.1.size _ I _ _ _ H x z C E F Z _ _ _ F HO ⟨g,0,O⟩ 1 1 _ F F (V.news_of_block (t:=_) (fr:=(0,0)) RG) hone Fp D HX.size ?_;intro v' w1 hown hgrow hnil;go_wp2;go_ret2;exact⟨v',Fx.of hown,F,by simpa using hown,KY HX hgrow (λq hq=>(DS HO q hq).1)⟩):p:=h
def a8d(w:V)(R:Option An)(y:Nat)(rows:List (List AN))(n x1 o r s:AN)(i:Int)(Y:BB 5 w w.1.size R y rows)(hw:DG 5 rows)(h1:GL rows)(d:[n,x1,o,r,s].all (·.oneCell')=AL)(X:ln rows<=1000000):
  AZ AO 135 #[AK R (ln rows) y,M G i,AW #[n,x1,o,r,s]] w λe w'=>∃v,Fx v/\e=Ac (BO #[v,M G (DU (ln rows) i)])/\(DU (ln rows) i=0->w'.ownsRow w.1.size 43 5 v (CC rows i [n,x1,o,r,s]).length (CC rows i [n,x1,o,r,s]).flatten)/\Ext w w':=by
 obtain⟨W0,c,b,j⟩:=Zc w _ 43;have T:=A Y;go_enter func135,ntmps135;by_cases hi:0<=i/\i<=(ln rows)
 case neg=>exact Zs
 have l:AQ (i<0)=AM:=Bw D;have J:AQ (i>(ln rows))=AM:=Bw D;rw[show DU _ i=0 from Aj hi];have f:=A (λ(W) (h)=>sI W R y rows ((T.o.below h).more h.size) hw h1 X);by_cases a:i=(ln rows)
 case neg=>exact Za
 have L:=C9.2 a;rw[cU _ a];obtain⟨I,u,N,P,S⟩:=DM cn;have x:=A u;have z:=A N;have C:=A P;have E:=A S;have H:=underlying26;clear u N P S hi a;go_wp2_with fail
 rw[c.o];refine Fz U (VV 4 (WQ R _ y i _ _) _ (RY R (ln rows) y w.1.size 5 43 rows [n,x1,o,r,s]) (λ_=>AM) U (λ_ _ h k=>h.tr k) (λi v _ _ h k=>dB h k) (λ_ _ _ _ h=>Aq) ?_ ?_ (λ_=>Ba) _ (Ext.dr W0))
 .exact dE
 exact dI
def a9E(w:V)(R:Option An)(y:Nat)(rows:List (List AN))(n x1 o:AN)(i:Int)(T:BB 3 w w.1.size R y rows)(hw:DG 3 rows)(h1:GL rows)(d:[n,x1,o].all (·.oneCell')=AL)(S:ln rows<=1000000):
  AZ AO 209 #[AK R (ln rows) y,M G i,AW #[n,x1,o]] w λe w'=>∃v,Fx v/\e=Ac (BO #[v,M G (DU (ln rows) i)])/\(DU (ln rows) i=0->w'.ownsRow w.1.size 45 3 v (CC rows i [n,x1,o]).length (CC rows i [n,x1,o]).flatten)/\Ext w w':=by
 obtain⟨W0,c,b,j⟩:=Zc w _ 45;have P:=A T;go_enter func209,ntmps209;by_cases hi:0<=i/\i<=(ln rows)
 case neg=>exact Zs
 have l:AQ (i<0)=AM:=Bw D;have J:AQ (i>(ln rows))=AM:=Bw D;rw[show DU _ i=0 from Aj hi];have f:=A (λ(W) (h)=>rT W R y rows ((P.o.below h).more h.size) hw h1 S);by_cases a:i=(ln rows)
 case neg=>exact Za
 have L:=C9.2 a;rw[cU _ a];obtain⟨I,r,s,u,N⟩:=DM cI;have x:=A r;have z:=A s;have C:=A u;have E:=A N;have H:=underlying27;clear r s u N hi a;go_wp2_with fail
 rw[c.o];refine Fz U (VV 4 (WQ R _ y i _ _) _ (RY R (ln rows) y w.1.size 3 45 rows [n,x1,o]) (λ_=>AM) U (λ_ _ h k=>h.tr k) (λi v _ _ h k=>dB h k) (λ_ _ _ _ h=>Aq) ?_ ?_ (λ_=>Ba) _ (Ext.dr W0))
 .exact dE
 exact dI
def a8E(w:V)(R:Option An)(y:Nat)(rows:List (List AN))(n x1 o r s u:AN)(i:Int)(hr:BB 6 w w.1.size R y rows)(hw:DG 6 rows)(h1:GL rows)(d:[n,x1,o,r,s,u].all (·.oneCell')=AL)(Y:ln rows<=1000000):
  AZ AO 138 #[AK R (ln rows) y,M G i,AW #[n,x1,o,r,s,u]] w λe w'=>∃v,Fx v/\e=Ac (BO #[v,M G (DU (ln rows) i)])/\(DU (ln rows) i=0->w'.ownsRow w.1.size 48 6 v (CC rows i [n,x1,o,r,s,u]).length (CC rows i [n,x1,o,r,s,u]).flatten)/\Ext w w':=by
 obtain⟨W0,c,b,j⟩:=Zc w _ 48;have X:=A hr;go_enter func138,ntmps138;by_cases hi:0<=i/\i<=(ln rows)
 case neg=>exact Zs
 have l:AQ (i<0)=AM:=Bw D;have J:AQ (i>(ln rows))=AM:=Bw D;rw[show DU _ i=0 from Aj hi];have f:=A (λ(W) (h)=>sX W R y rows ((X.o.below h).more h.size) hw h1 Y);by_cases a:i=(ln rows)
 case neg=>exact Za
 have L:=C9.2 a;rw[cU _ a];obtain⟨I,N,P,S,T⟩:=DM cF;have x:=A N;have z:=A P;have C:=A S;have E:=A T;have H:=underlying28;clear N P S T hi a;go_wp2_with fail
 rw[c.o];refine Fz U (VV 4 (WQ R _ y i _ _) _ (RY R (ln rows) y w.1.size 6 48 rows [n,x1,o,r,s,u]) (λ_=>AM) U (λ_ _ h k=>h.tr k) (λi v _ _ h k=>dB h k) (λ_ _ _ _ h=>Aq) ?_ ?_ (λ_=>Ba) _ (Ext.dr W0))
 .exact dE
 exact dI
def a9X(w:V)(R:Option An)(y:Nat)(rows:List (List AN))(n x1 o:AN)(i:Int)(T:BB 3 w w.1.size R y rows)(hw:DG 3 rows)(h1:GL rows)(d:[n,x1,o].all (·.oneCell')=AL)(S:ln rows<=1000000):
  AZ AO 142 #[AK R (ln rows) y,M G i,AW #[n,x1,o]] w λe w'=>∃v,Fx v/\e=Ac (BO #[v,M G (DU (ln rows) i)])/\(DU (ln rows) i=0->w'.ownsRow w.1.size 50 3 v (CC rows i [n,x1,o]).length (CC rows i [n,x1,o]).flatten)/\Ext w w':=by
 obtain⟨W0,c,b,j⟩:=Zc w _ 50;have P:=A T;go_enter func142,ntmps142;by_cases hi:0<=i/\i<=(ln rows)
 case neg=>exact Zs
 have l:AQ (i<0)=AM:=Bw D;have J:AQ (i>(ln rows))=AM:=Bw D;rw[show DU _ i=0 from Aj hi];have f:=A (λ(W) (h)=>ry W R y rows ((P.o.below h).more h.size) hw h1 S);by_cases a:i=(ln rows)
 case neg=>exact Za
 have L:=C9.2 a;rw[cU _ a];obtain⟨I,r,s,u,N⟩:=DM cP;have x:=A r;have z:=A s;have C:=A u;have E:=A N;have H:=underlying31;clear r s u N hi a;go_wp2_with fail
 rw[c.o];refine Fz U (VV 4 (WQ R _ y i _ _) _ (RY R (ln rows) y w.1.size 3 50 rows [n,x1,o]) (λ_=>AM) U (λ_ _ h k=>h.tr k) (λi v _ _ h k=>dB h k) (λ_ _ _ _ h=>Aq) ?_ ?_ (λ_=>Ba) _ (Ext.dr W0))
 .exact dE
 exact dI
theorem a1m(a:w.1[g]?=Q (.cells cur t (0,0)))(h:o+ln B<=cur.size)(h1:∀v∈B,v.oneCell'=AL):
  w.setCells g o B=w.setRow g (putAt cur o B.toArray):=by
 have c:=run_storeCells_cells (P:=AO) g o B 0 w (λj b=>by simp[Dx,a];omega) (λj b=>by simp[Hb,a]) h1
 grind [run_storeCells_at,putAt]
theorem a0Z(w:V)(t e ty:Bb)(z:AN)(d:TypeInfo)(i:AO.underlying t=Q (.slice e))(hi:AO.info? e=Q d)(j:d.zero=Q z)(h1:z.cells.all (·.oneCell')=AL)(g o c:Nat)(cur:Array AN)
  (f:w.heap[g]?=Q (.cells cur e (0,0)))(l:o+z.cells.size≤cur.size):
  (Builtin.clear_ #[t] ty #[.slice (Q ⟨g,o,O⟩) 1 c]).run AO w= .ok (.tuple #[]) (w.setRow g (putAt cur o z.cells)):=by
 have k:Is z.cells 1=z.cells:=by
  grind [Is,Nat.mod_eq_of_lt]
 have a:=mH (P:=AO) g o e z.cells.toList 0 cur w f (by grind) (fun v b=>(dw.1 h1) v (by grind))
 have b:(zeroValue e).run AO w= .ok z w:=by simp[zeroValue,typeInfo,hi,j]
 unfold putAt
 simp[Builtin.clear_,QE i,b,k] at a⊢
 simp[a]
theorem a4w{rows:List (List AN)}(hw:DG k rows)(m:Nat):DG k (rows.eraseIdx m):=λr a=>hw r (ZC a)
theorem tN{rows:List (List AN)}{z:Array AN}(h1:n<=y)(g:cur.size=y*k)(q:cur.toList.take (n*k)=rows.flatten)(hn:ln rows=n)(hw:DG k rows)(hm:m<n)(w:z.size=k):
  (putAt (putAt cur (m*k) (rows.drop (m+1)).flatten.toArray) ((n-1)*k) z).size=y*k/\(putAt (putAt cur (m*k) (rows.drop (m+1)).flatten.toArray) ((n-1)*k) z).toList.take ((n-1)*k)=(rows.eraseIdx m).flatten:=by
 subst hn;have j:(rows.drop (m+1)).flatten.length=(ln rows-(m+1))*k:=by rw[LF (λr l=>hw r (SI l)),SF]
 have s:ln rows.flatten=ln rows*k:=LF hw;have v:ln cur.toList=y*k:=by simp[g]
 have t:ln rows*k<=y*k:=Gz k h1;obtain⟨p,u⟩:∃p,ln rows=m+1+p:=⟨ln rows-(m+1),D⟩;have a:ln rows-(m+1)=p:=D;have b:ln rows-1=m+p:=D;have o:ln rows*k=m*k+k+p*k:=Al;have c:(m+p)*k=m*k+p*k:=Kq _ _ _;rw[a] at j;rw[b,c];have s1:(putAt cur (m*k) (rows.drop (m+1)).flatten.toArray).toList.length=y*k:=by
  grind [putAt,List.length_append,List.length_take,List.length_drop]
 refine⟨?_,?_⟩
 .unfold putAt at s1⊢
  grind [List.size_toArray,List.length_append,List.length_take,List.length_drop,Array.length_toList]
 have d:(rows.eraseIdx m).flatten=rows.flatten.take (m*k)++(rows.drop (m+1)).flatten:=by
  rw[yK,QB,kH hw D]
 have e:rows.flatten.take (m*k)=cur.toList.take (m*k):=Al;rw[d,e];generalize i:putAt cur (m*k) (rows.drop (m+1)).flatten.toArray=Y at s1⊢;have f:(putAt Y (m*k+p*k) z).toList.take (m*k+p*k)=Y.toList.take (m*k+p*k):=by
  unfold putAt;simp only[Dh,No]
  grind
 rw[f,<-i];unfold putAt
 grind [List.take_left',List.length_append,List.length_take]
def Ec(n:Nat)(i:Int):Int:=if 0<=i/\i<(n:Int) then 0 else 6
theorem Vw{t s:Bb}{z:AN}{k:Nat}{v:TypeInfo}(J:AO.underlying s=Q (.slice t))(hi:AO.info? t=Q v)(U:v.zero=Q z)(hk:z.cells.size=k)(T:z.cells.all (·.oneCell')=AL){w:V}{g n y m j:Nat}{cur:Array AN}{rows:List (List AN)}
  (c:w.heap[g]?=Q (.cells cur t (0,0)))(h1:n≤y)(f:cur.size=y*k)(F:cur.toList.take (n*k)=rows.flatten)(hn:rows.length=n)(hw:DG k rows)(N:GL rows)(hm:m<n)(L:j=m+1):
  ∃a R W1 e,(if y=j then(Q ⟨g,0,O⟩:Option An) else Q ⟨g,j*k,O⟩)=Q R∧Hid (a.length=(n-j)*k)∧Hid (∀t u,a[t]?=Q u→w.drew.cell? (R.add t)=Q u)∧Hid (∀u∈a,u.oneCell'=AL)∧
   Hid (∀t,t<a.length→(w.drew.cell? ⟨g,0+m*k+t,O⟩).isSome=AL∧w.drew.frozen? ⟨g,0+m*k+t,O⟩=AM)∧Hid (w.drew.setCells g (0+m*k) a=W1)∧
   (∀ty,(Builtin.clear_ #[s] ty #[.slice (Q ⟨g,(m+(n-j))*k,O⟩) (n-(m+(n-j))) (y-(m+(n-j)))]).run AO W1= .ok (.tuple #[]) (W1.setRow g e))∧
   Hid (At g w W1)∧(∃C,Hid (W1.heap[g]?=Q (.cells C t (0,0))))∧Hid (e.size=y*k∧e.toList.take ((n-1)*k)=(rows.eraseIdx m).flatten):=by
 subst L
 obtain⟨p,rfl⟩:∃p,n=m+1+p:=⟨n-(m+1),by omega⟩
 have B:m+1+p-(m+1)=p:=by omega
 have K:m+1+p-(m+p)=1:=by omega
 have E:m+1+p-1=m+p:=by omega
 have V:(m+1+p)*k=m*k+k+p*k:=by rw[Kq,Kq,H7]
 have W:(m+1)*k=m*k+k:=by rw[Kq,H7]
 have x:(m+p)*k=m*k+p*k:=Kq _ _ _
 have X:(m+1+p)*k≤y*k:=Gz _ h1
 obtain⟨a,d⟩:=AP ((rows.drop (m+1)).flatten)
 have b:a.length=p*k:=by rw[←d,LF (fun r o=>hw r (SI o)),SF,hn,B]
 have H:∀i,w.cell? ⟨g,i,O⟩=cur[i]?:=fun i=>by simp[Dx,c]
 have s2:∀u∈a,u.oneCell'=AL:=by
  intro u hu
  rw[←d] at hu
  obtain⟨r,o,S⟩:=S8.1 hu
  exact N r (SI o) u S
 have l:=tN (z:=z.cells) h1 f F hn hw hm hk
 rw[d,E] at l
 have c1:(putAt cur (m*k) a.toArray).size=y*k:=by
  unfold putAt
  simp only[Nn,FN,QA,SF,ZD,f,b]
  omega
 have P:w.drew.setCells g (0+m*k) a=w.drew.setRow g (putAt cur (m*k) a.toArray):=by
  rw[IU]
  exact a1m (t:=t) (w:=w.drew) c (by rw[b,f];omega) s2
 have I:(w.drew.setRow g (putAt cur (m*k) a.toArray)).heap[g]?=Q (.cells (putAt cur (m*k) a.toArray) t (0,0)):=setRow_heap (w:=w.drew) c _
 rw[B,K,E]
 refine⟨a,if y=m+1 then⟨g,0,O⟩ else⟨g,(m+1)*k,O⟩,_,_,by split <;>rfl,A b,A fun t u hu=> ?_,A s2,A fun t q=> ?_,A P,fun ty=>a0Z _ s t ty z v J hi U T g _ _ _ I (by rw[c1,hk,x];omega),A (CL (Lo (Ad _ _)) (AS _) _),⟨_,A I⟩,A (by rw[x] at l⊢;exact l)⟩
 ·by_cases h:y=m+1
  ·have h0:a.length=0:=by rw[b,show p=0 by omega,TN]
   rw[Jf.1 h0] at hu
   simp at hu
  ·have q:t<a.length:=(Wb.1 hu).1
   rw[←d,←kD hw (by omega),Z8,←F,Uk,Aj (by rw[b] at q;omega)] at hu
   rw[Af h,OV]
   show w.cell? _=_
   rw[H]
   simpa using hu
 ·rw[b] at q
  refine⟨?_,?_⟩
  ·show(w.cell? ⟨g,0+m*k+t,O⟩).isSome=AL
   rw[H]
   simp
   omega
  ·show w.frozen? ⟨g,0+m*k+t,O⟩=AM
   simp[Hb,c]
def VA(f:FuncId)(t:Bb)(k:Nat):Prop:=∀(w:V) (g n y m j:Nat) (cur:Array AN) (rows:List (List AN)),w.1[g]?=Q (.cells cur t (0,0))->n<=y->y<=BM->cur.size=y*k->cur.toList.take (n*k)=rows.flatten->
  ln rows=n->DG k rows->GL rows->m<n->j=m+1->n<=1000000->
  AZ AO f #[AK (Q ⟨g,0,O⟩) n y,M G (m:Int),M G (j:Int)] w λe w'=>e=Ac (AK (Q ⟨g,0,O⟩) (n-1) y)/\At g w w'/\
   ∃a,w'.1[g]?=Q (.cells a t (0,0))/\a.size=y*k/\a.toList.take ((n-1)*k)=(rows.eraseIdx m).flatten
def Va{p:Prop}(h:p:=by
  try simp only[SJ] at x z
  unfold BM at h2;have hjc:j<=y:=D;have hmc:m<=y:=D;have hlt:m<j:=D;have hjn:j<=n:=D;have heq:((m:Int)==(j:Int))=AM:=CK.2 D;have HF:=A (show m+(n-j)=n-1 by omega);have mixed:AO.follows .mixedOrders=AL:=U;clear f b hi l q B c d e i hw hn;go_wp2_with fail
  go_region_law_o(refine r.o _ _ _ _ _ _ _ rfl rfl g 0 m y XA R (n-j) (y-j) H XA s1.o I.o s2.o D s3.o ?_;rw[v.o])
  go_wp2;go_ret;exact⟨TX,CL s.o (AS _) _,_,setRow_heap u.o _,t.o⟩):p:=h
def Tu(f:FuncId)(t:Bb)(k:Nat):Prop:=∀(w:V) (R:Option An) (y:Nat) (rows:List (List AN)) (i:Int),BB k w w.1.size R y rows->DG k rows->GL rows->ln rows<=1000000->
  AZ AO f #[AK R (ln rows) y,M G i] w λe w'=>∃v,Fx v/\e=Ac (BO #[v,M G (Ec (ln rows) i)])/\(Ec (ln rows) i=0->w'.ownsRow w.1.size t k v (ln rows-1) (rows.eraseIdx i.toNat).flatten)/\Ext w w'
theorem Vm(h:p:=by
  by_cases hi:0<=i/\i<(ln rows:Int)
  .have t1:AQ (i<0)=AM:=Bw D;have t2:AQ (i>=(ln rows:Int))=AM:=Bw D;rw[show Ec (ln rows) i=0 from Aj hi];obtain⟨m,rfl⟩:∃m:Nat,i=(m:Int):=⟨i.toNat,D⟩;have hm:m<ln rows:=D;have HW:=A hw;have H1:=A h1;clear hi a hw h1;go_wp2_with(first
    |(refine(d W1 g (ln rows) cp m (m+1) cur rows HH q1 q2 HQ HF rfl HW H1 hm rfl b).q ?_;rintro W2 ⟨hb2,cur2,hh2,hs2,ht2⟩;have HX2:=A (HX.trans (hb2.mono HB));have HH2:=A hh2;have HS2:=A hs2;have HT2:=A ht2;clear hb2 hh2 hs2 ht2)
    |(refine c.mono ?_;rintro e W1 ⟨v,rfl,ho,hX⟩;obtain⟨g,cp,cur,rfl,hb,hh,q1,q2,q3,q4⟩:=Pr ho D;have HH:=A hh;have HQ:=A q3;have HF:=A q4;have HX:=A hX;have HB:=A hb;clear ho hh q3 q4 hX hb))
   go_ret2;refine⟨_,⟨_,_,_,F⟩,F,⟨?_,.inr ⟨g,cp,cur2,F,HB,HH2,D,q2,HS2,HT2⟩⟩,HX2⟩;show(rows.eraseIdx m).flatten.length=_;rw[LF (a4w HW.o m),List.length_eraseIdx,Aj hm]
  rw[show Ec (ln rows) i=6 from Af hi];clear a;by_cases hi0:i<0
  .have t1:AQ (i<0)=AL:=CP hi0;clear hi hi0;go_wp2;go_ret2;exact⟨_,⟨_,_,_,F⟩,F,λh=>Aq,Ext.B9 _⟩
  have t1:AQ (i<0)=AM:=Bw hi0;have t2:AQ (i>=(ln rows:Int))=AL:=CP D;clear hi hi0;go_wp2;go_ret2;exact⟨_,⟨_,_,_,F⟩,F,λh=>Aq,Ext.B9 _⟩):p:=h
theorem a9V : VA 265 45 3 := by
  intro w g n y m j cur rows e h1 h2 c d hn hw i hm f T
  obtain ⟨P, hi, l, q, B⟩ := info_parts cI
  have b := Tryz.underlying27
  obtain ⟨H, R, W1, S, x, s1, I, s2, s3, v, z, s, ⟨C, u⟩, t⟩ := Vw (k := 3) b hi l rfl (by kernel_rfl) e h1 c d hn hw i hm f
  have r := Lib.hid (fun ops o a w K J E L N => @step_append_room Tryz.prog ops o a w K J E L (.tmp 22) (.tmp 25) 27 N 45 P 3 b hi q)
  go_enter Tryz.func265, Tryz.ntmps265
  exact Va
def a9W:Tu 218 45 3:=by
 intro w R y rows i a hw h1 b;have c:=A (rT w R y rows a hw h1 b);have d:=A a9V;go_enter func218,ntmps218;exact Vm
theorem a8L : VA 264 43 5 := by
  intro w g n y m j cur rows e h1 h2 c d hn hw i hm f T
  obtain ⟨P, hi, l, q, B⟩ := info_parts cn
  have b := Tryz.underlying26
  obtain ⟨H, R, W1, S, x, s1, I, s2, s3, v, z, s, ⟨C, u⟩, t⟩ := Vw (k := 5) b hi l rfl (by kernel_rfl) e h1 c d hn hw i hm f
  have r := Lib.hid (fun ops o a w K J E L N => @step_append_room Tryz.prog ops o a w K J E L (.tmp 22) (.tmp 25) 26 N 43 P 5 b hi q)
  go_enter Tryz.func264, Tryz.ntmps264
  exact Va
def a7B:Tu 217 43 5:=by
 intro w R y rows i a hw h1 b;have c:=A (sI w R y rows a hw h1 b);have d:=A a8L;go_enter func217,ntmps217;exact Vm
theorem a8e : VA 263 3 1 := by
  intro w g n y m j cur rows e h1 h2 c d hn hw i hm f T
  obtain ⟨P, hi, l, q, B⟩ := info_parts Vd
  have b := Tryz.underlying25
  obtain ⟨H, R, W1, S, x, s1, I, s2, s3, v, z, s, ⟨C, u⟩, t⟩ := Vw (k := 1) b hi l rfl (by kernel_rfl) e h1 c d hn hw i hm f
  have r := Lib.hid (fun ops o a w K J E L N => @step_append_room Tryz.prog ops o a w K J E L (.tmp 22) (.tmp 25) 25 N 3 P 1 b hi q)
  go_enter Tryz.func263, Tryz.ntmps263
  exact Va
def a73:Tu 216 3 1:=by
 intro w R y rows i a hw h1 b;have c:=A (rh w R y rows a hw h1 b);have d:=A a8e;go_enter func216,ntmps216;exact Vm
theorem a8O : VA 266 48 6 := by
  intro w g n y m j cur rows e h1 h2 c d hn hw i hm f T
  obtain ⟨P, hi, l, q, B⟩ := info_parts cF
  have b := Tryz.underlying28
  obtain ⟨H, R, W1, S, x, s1, I, s2, s3, v, z, s, ⟨C, u⟩, t⟩ := Vw (k := 6) b hi l rfl (by kernel_rfl) e h1 c d hn hw i hm f
  have r := Lib.hid (fun ops o a w K J E L N => @step_append_room Tryz.prog ops o a w K J E L (.tmp 22) (.tmp 25) 28 N 48 P 6 b hi q)
  go_enter Tryz.func266, Tryz.ntmps266
  exact Va
def a8G:Tu 219 48 6:=by
 intro w R y rows i a hw h1 b;have c:=A (sX w R y rows a hw h1 b);have d:=A a8O;go_enter func219,ntmps219;exact Vm
theorem a9Y : VA 267 50 3 := by
  intro w g n y m j cur rows e h1 h2 c d hn hw i hm f T
  obtain ⟨P, hi, l, q, B⟩ := info_parts cP
  have b := Tryz.underlying31
  obtain ⟨H, R, W1, S, x, s1, I, s2, s3, v, z, s, ⟨C, u⟩, t⟩ := Vw (k := 3) b hi l rfl (by kernel_rfl) e h1 c d hn hw i hm f
  have r := Lib.hid (fun ops o a w K J E L N => @step_append_room Tryz.prog ops o a w K J E L (.tmp 22) (.tmp 25) 31 N 50 P 3 b hi q)
  go_enter Tryz.func267, Tryz.ntmps267
  exact Va
def a8c:Tu 220 50 3:=by
 intro w R y rows i a hw h1 b;have c:=A (ry w R y rows a hw h1 b);have d:=A a9Y;go_enter func220,ntmps220;exact Vm
theorem a8C : VA 268 52 5 := by
  intro w g n y m j cur rows e h1 h2 c d hn hw i hm f T
  obtain ⟨P, hi, l, q, B⟩ := info_parts Vi
  have b := Tryz.underlying32
  obtain ⟨H, R, W1, S, x, s1, I, s2, s3, v, z, s, ⟨C, u⟩, t⟩ := Vw (k := 5) b hi l rfl (by kernel_rfl) e h1 c d hn hw i hm f
  have r := Lib.hid (fun ops o a w K J E L N => @step_append_room Tryz.prog ops o a w K J E L (.tmp 22) (.tmp 25) 32 N 52 P 5 b hi q)
  go_enter Tryz.func268, Tryz.ntmps268
  exact Va
def a9f:Tu 221 52 5:=by
 intro w R y rows i a hw h1 b;have c:=A (tE w R y rows a hw h1 b);have d:=A a8C;go_enter func221,ntmps221;exact Vm
theorem bQ(w:V)(d u ty b:Bb)(g o c f:Nat)(a:An)(Xa s:Nat)(cur:Array AN)(t:Bb)(cs:List AN)(k p:Nat)
  (hu:AO.underlying d=Q (.slice b))(z:(AO.info? b).map (·.size)=Q k)
  (l:w.heap[g]?=Q (.cells cur t (0,0)))(n:Nat.min Xa c=p)(hn:cs.length=p*k)
  (r:∀j v,cs[j]?=Q v→w.cell? (a.add j)=Q v)(x:o+cs.length≤cur.size)(h1:∀v∈cs,v.oneCell'=AL):
  (Builtin.copy_ #[d,u] ty #[.slice (Q ⟨g,o,O⟩) c f,.slice (Q a) Xa s]).run AO w=
   .ok (goInt p) (w.setRow g (putAt cur o cs.toArray)):=by
 have y:=run_loadCells_list (P:=AO) w a cs r
 have e:=mH (P:=AO) g o t cs 0 cur w l (by grind) h1
 cases q:AO.info? b with
 |none=>grind
 |some i=>
  have hi:i.size=k:=by grind
  have m:(loadCells a (p*k)).run AO w= .ok cs.toArray w:=by grind
  unfold putAt
  simp[Builtin.copy_,QE hu,Builtin.lenOf,Builtin.firstCells,sizeOf,typeInfo,q,hi,n,m] at e⊢
  simp[e]
def DZ{S:Type}(l:List S)(i:Nat)(x:S):List S:=l.take i++x::l.drop i
theorem a8Q{rows:List (List AN)}(hw:DG k rows)(hx:ln x=k)(i:Nat):DG k (DZ rows i x):=by
 intro r a;rcases QF.1 a with h|h
 .exact hw r (SE h)
 rcases Kt.1 h with rfl|h
 .exact hx
 exact hw r (SI h)
theorem fu(l:List S)(i:Nat)(x:S)(hi:i<=ln l):(DZ l i x).length=ln l+1:=by
 grind [DZ]
theorem bM{a:Nat}(h:a+X.size<=cur.size):(putAt cur a X).size=cur.size:=by
 grind [putAt]
theorem a2g{cur X B:Array AN}{a b:Nat}(c:a+X.size=b)(d:b+B.size<=cur.size):
  (putAt (putAt cur b B) a X).toList=cur.toList.take a++X.toList++(B.toList++cur.toList.drop (b+B.size)):=by
 unfold putAt
 grind
theorem a3v{cur X B:Array AN}{a b:Nat}(d:a+X.size=b)(e:b+B.size<=cur.size):
  (putAt (putAt cur a X) b B).toList=cur.toList.take a++X.toList++(B.toList++cur.toList.drop (b+B.size)):=by
 have c:(cur.toList.take a++X.toList).length=b:=Al;unfold putAt;simp only[Dh,ZD];rw[lg c,<-lv,List.drop_left' c,d,lv,No]
theorem a7A{rows:List (List AN)}(hw:DG k rows)(hi:i<=ln rows):
  (DZ rows i x).flatten=rows.flatten.take (i*k)++x++(rows.drop i).flatten:=by
 grind [DZ,kH]
theorem oz{k n i N:Nat}{rows:List (List AN)}(hw:DG k rows)(hn:ln rows=n)(hx:ln x=k)(hi:i<n)(a:cur.toList.take (i*k)=rows.flatten.take (i*k))(e:(n+1)*k<=cur.size)
  (b:L=cur.toList.take (i*k)++x.toArray.toList++((rows.drop i).flatten.toArray.toList++cur.toList.drop N)):L.take ((n+1)*k)=(DZ rows i x).flatten:=by
 subst hn;have f:(rows.drop i).flatten.length=(ln rows-i)*k:=by rw[LF (λr c=>hw r (SI c)),SF]
 obtain⟨p,g⟩:∃p,ln rows=i+p:=⟨ln rows-i,D⟩;have d:(ln rows+1)*k=i*k+k+p*k:=Al;rw[b,a7A hw (FM hi),a,<-No,lg]
 grind
structure NO(E:Bb)(k:Nat)(w:V)(g n y i m J:Nat)(cur:Array AN)(rows:List (List AN))(x:List AN):Prop where
 hk:k=1\/k=5
 h:w.1[g]?=Q (.cells cur E (0,0))
 c:n<=y
 c2:y<=BM
 s:cur.size=y*k
 t:cur.toList.take (n*k)=rows.flatten
 hn:ln rows=n
 hw:DG k rows
 o:GL rows
 hx:ln x=k
 x1:∀u∈x,u.oneCell'=AL
 xb:Az w J E x
 hm:m=1
 hi:i<n
 l:n<=1000000
theorem NO.src{rows:List (List AN)}(H:NO E k w g n y i m J cur rows x):
  ((rows.drop i).flatten).length=(n-i)*k/\(∀u∈(rows.drop i).flatten,u.oneCell'=AL)/\(∀t u,(rows.drop i).flatten[t]?=Q u->w.cell? ⟨g,i*k+t,O⟩=Q u)/\(DZ rows i x).flatten.length=(n+1)*k/\ln rows.flatten=n*k:=by
 have b:((rows.drop i).flatten).length=(n-i)*k:=by rw[LF (λr a=>H.hw r (SI a)),SF,H.hn]
 have hi:=H.hi;refine⟨b,λu hu=> ?_,λt u hu=> ?_,by rw[LF (a8Q H.hw H.hx i),fu rows i x (by rw[H.hn];omega),H.hn],by rw[LF H.hw,H.hn]⟩
 .have⟨r,a,hur⟩:=S8.1 hu;exact H.o r (SI a) u hur
 rw[<-kD H.hw (by rw[H.hn];omega),Z8,<-H.t,Uk,Aj Al] at hu;simpa[Dx,H.h] using hu
theorem NO.over{E T:Bb}{k:Nat}{w:V}{g n y i m J vc:Nat}{cur:Array AN}{rows:List (List AN)}{x:List AN}(H:NO E k w g n y i m J cur rows x)(d:AO.underlying T=Q (.slice E)){c:TypeInfo}(hi:AO.info? E=Q c)(f:c.size=k)(e:J≠g)(h:n+m≤y)(lb b:Nat):
  (Extern.SlicesOverlaps.overlaps #[T,T] #[4] #[.slice (Q ⟨J,0,O⟩) m vc,.slice (Q ⟨g,(i+m)*k,O⟩) lb b]).run AO w= .ok (.bool AM) w:=
 have a:=H.xb
 have hm:=H.hm
 Lib.run_overlaps_apart w T 4 E d k (fun w=>by simp[sizeOf,typeInfo,hi,f]) _ _ m vc lb b e E E x.length cur.size (by unfold Az at a;simp[World.shape?,a]) (by simp[World.shape?,H.h]) (by rw[H.s];rcases H.hk with rfl|rfl<;>omega) (a.frozen _) (a.frozen _)
theorem NO.shift{E T:Bb}{k:Nat}{w:V}{base g n y i m J vc:Nat}{cur:Array AN}{rows:List (List AN)}{x:List AN}(H:NO E k w g n y i m J cur rows x)
  (j:AO.underlying T=Q (.slice E))(q:(AO.info? E).map (·.size)=Q k)(A:base≤g)(P:J≠g)(ac:n+m≤y):∃(W1:V) (X:Array AN),
  (∀ty a sc,(Builtin.copy_ #[T,T] ty #[.slice (Q ⟨g,(i+m)*k,O⟩) (n+m-(i+m)) a,.slice (Q ⟨g,i*k,O⟩) (n+m-i) sc]).run AO w.drew= .ok (goInt ((n-i:Nat):Int)) W1)
  ∧(∀W:V,W.heap=W1.heap→∀ty a,(Builtin.copy_ #[T,T] ty #[.slice (Q ⟨g,i*k,O⟩) (n+m-i) a,.slice (Q ⟨J,0,O⟩) m vc]).run AO W= .ok (goInt m) (W.setRow g X))
  ∧∀W:V,W.heap=W1.heap→(At g w W1→At g w W)→∃v',Ending.returned (.slice (Q ⟨g,0,O⟩) (n+m) y)= .returned v'∧(W.setRow g X).ownsRow base E k v' (n+1) (DZ rows i x).flatten∧At g w (W.setRow g X):=by
 obtain⟨f,e,r,L,Z⟩:=H.src
 obtain⟨hk,o,Y,h2,v,U,hn,hw,ab,hx,s,S,hm,K,aa⟩:=H
 obtain⟨B,z⟩:=AP ((rows.drop i).flatten)
 rw[z] at f e r
 have c:(i+m)*k+B.length≤cur.size:=by grind
 have c1:(putAt cur ((i+m)*k) B.toArray).size=y*k:=by rw[bM c,v]
 have I:=setRow_heap (w:=w.drew) o (putAt cur ((i+m)*k) B.toArray)
 have C:At g w (w.drew.setRow g (putAt cur ((i+m)*k) B.toArray)):=CL (Lo (Ad _ _)) (AS _) _
 have R:Az (w.drew.setRow g (putAt cur ((i+m)*k) B.toArray)) J E x:=(Hc _ _ P).trans S
 have d:i*k+x.length≤(putAt cur ((i+m)*k) B.toArray).size:=by grind
 have l:=bM d
 rw[c1] at l
 refine⟨_,_,fun ty a sc=>bQ _ _ _ ty E g _ _ a _ _ sc cur E B k _ j q o (by grind) f (fun t u hu=>by rw[OV];exact r t u hu) c e,
  fun W b ty a=>bQ W _ _ ty E g _ _ a _ m vc _ E x k m j q (by grind) (by grind) (by grind) (fun t u hu=>by rw[OV,IU];exact(SG (by rw[b])).trans ((R.cell t).trans hu)) d s,
  fun W b F=>⟨_,rfl,⟨L,.inr ⟨g,y,_,by rw[hm],A,setRow_heap (by rw[b];exact I) _,by omega,by omega,l,?_⟩⟩,CL (F C) (AS _) _⟩⟩
 refine oz (cur:=cur) hw hn hx K ?_ (by grind) (N:=(i+m)*k+B.length) ?_
 all_goals grind [a2g]
def oN{p:Prop}(h:p:=by
  have z1:((m:Int)==0)=AM:=CK.2 D;have z2:((i:Int)==(n:Int))=AM:=CK.2 D;have H1:=A b;have H2:=A c;have HF:=A d;have mixed:AO.follows .mixedOrders=AL:=U;have q1:i<=n:=D;have w1:G.wrap ((i:Int)+(m:Int))=(i:Int)+(m:Int):=by rw[IntKind.wrap_i64];omega
  have w2:(0:Int)<=(i:Int)+(m:Int):=D;have w3:((i:Int)+(m:Int)).toNat=i+m:=D;have w4:(i:Int)<=(n:Int)+(m:Int):=D;have q2:¬(y=i+m):=D;have q3:¬(y=i):=D;have q4:m<=1:=D;have q5:1<=m:=D;clear b c d hm j H;go_wp2_with(simp only[f])
  go_region_law_o(refine step_copy_runI rfl _ _ _ _ rfl _ _ XA XA (H1.o 3 (y-(i+m)) (y-i)) ?_)
  have hk2:=H2.o W1 F;have hf:=HF.o _ F (λh=>h)
  try simp only[SJ] at hk2 hf
  go_wp2;go_ret;exact hf):p:=h
theorem NO.grow{E T:Bb}{k f:Nat}{z:AN}{w:V}{base g n y i m J vc:Nat}{cur:Array AN}{rows:List (List AN)}{x:List AN}(H:NO E k w g n y i m J cur rows x){d:TypeInfo}
  (l:AO.underlying T=Q (.slice E))(hi:AO.info? E=Q d)(ap:d.zero=Q z)(aq:d.size=k)(ab:d.bytes=f)(aw:z.cells.size=k)(af:f≤40)(o:base≤w.heap.size)(am:y<n+m):∃(b:Nat) (W1 r e:V),
  n+m≤b∧b≤BM∧(∀ty,(JN #[T,3] ty #[.slice (Q ⟨g,0,O⟩) i y,.int .i64 ((n:Int)+(m:Int)-(i:Int))]).run AO w= .ok (.slice (Q ⟨w.heap.size,0,O⟩) (n+m) b) W1)
  ∧(∀ty c,(Builtin.copy_ #[T,T] ty #[.slice (Q ⟨w.heap.size,i*k,O⟩) (n+m-i) c,.slice (Q ⟨J,0,O⟩) m vc]).run AO W1= .ok (goInt m) r)
  ∧(∀ty c sc,(Builtin.copy_ #[T,T] ty #[.slice (Q ⟨w.heap.size,(i+m)*k,O⟩) (n+m-(i+m)) c,.slice (Q ⟨g,i*k,O⟩) (n-i) sc]).run AO r.drew= .ok (goInt ((n-i:Nat):Int)) e)
  ∧∃v',Ending.returned (.slice (Q ⟨w.heap.size,0,O⟩) (n+m) b)= .returned v'∧e.ownsRow base E k v' (n+1) (DZ rows i x).flatten∧At base w e:=by
 obtain⟨A,v,aa,aj,ar⟩:=H.src
 obtain⟨hk,hh,hc,h2,h3,h4,hn,hw,av,hx,ac,ao,hm,ah,au⟩:=H
 obtain⟨B,hB⟩:=AP ((rows.drop i).flatten)
 rw[hB] at A v aa
 have ag:g<w.heap.size:=by grind
 have ak:(rows.flatten.take (i*k)).length=i*k:=by grind
 have al:(Builtin.firstCells d.size i (.slice (Q ⟨g,0,O⟩) i y)).run AO w.drew= .ok (rows.flatten.take (i*k)).toArray w.drew:=by
  rw[aq]
  exact run_firstCells_some w.drew k i ⟨g,0,O⟩ i y (rows.flatten.take (i*k)) ak (fun t u hu=>by
   rw[OV,IU]
   have ht:t<i*k:=by grind
   rw[Uk,Aj ht,←h4,Uk,Aj (Dj ht (Gz k (by omega)))] at hu
   show w.cell? _=Q u
   simpa[Dx,hh] using hu)
 have W:i+(n+m-i)=n+m:=by omega
 have ai:(n:Int)+(m)-(i)=((n+m-i:Nat)):=by omega
 have F:=grownCap_ge w (n+m) y E
 have j:=grownCap_le_maxLen w (n+m) y E (by grind [BM])
 obtain⟨b,C⟩:=AP (grownCap w (n+m) y E)
 rw[C] at F j
 obtain⟨R,hR⟩:=AP ((rows.flatten.take (i*k)).toArray++Is (Value.cells z) (n+m-i)++Is (Value.cells z) (b-(n+m)):Array AN)
 have ad:R.size=b*k:=by
  grind [Array.size_append,List.size_toArray,Is]
 have ae:R.toList.take (i*k)=rows.flatten.take (i*k):=by
  grind
 have L:∀q,q≤1000001→q*f≤1000001*40:=fun q hq=>OZ hq af
 have Y:=fun ty=>Lib.run_append_grow_zeros w T 3 ty E d _ .i64 .i64 l GQ hi ap _ i y _ al (n+m-i) (by omega) (by omega) (by omega) (by omega) (by rw[ab];exact BJ (L _ (by omega)) (by decide)) (by rw[ab,W];exact mO am (BJ (L _ (by omega)) (by decide)))
 rw[W,C,←ai,hR] at Y
 have S:=Bq w.drew (.cells R E)
 have I:At _ w (w.drew.alloc (.cells R E)):=(Lo (Ad _ _)).alloc (AS _) _
 have an:=ao.ext I
 have s:i*k+x.length≤R.size:=by grind
 have c1:=bM (X:=x.toArray) s
 have P:=bM (cur:=putAt R (i*k) x.toArray) (X:=B.toArray) (a:=(i+m)*k) (by grind)
 rw[c1,ad] at P
 have U:=setRow_heap S (putAt R (i*k) x.toArray)
 have K:At _ w ((w.drew.alloc _).setRow _ (putAt R (i*k) x.toArray)):=CL I (AS _) _
 refine⟨b,_,_,_,F,j,Y,fun ty c=>bQ _ _ _ ty E _ _ _ c _ m vc _ E x k m l (by grind) S (by grind) (by grind) (fun t u hu=>by rw[OV,IU];exact(an.cell t).trans hu) s ac,
  fun ty c sc=>bQ _ _ _ ty E _ _ _ c _ _ sc _ E B k _ l (by grind) U (by grind) A (fun t u hu=>by rw[OV];exact(K.cell ag).trans (aa t u hu)) (by grind) v,
  _,rfl,⟨aj,.inr ⟨w.heap.size,b,_,by rw[hm],o,setRow_heap (w:=World.drew _) U _,by omega,j,P,?_⟩⟩,CL ((Lo K).mono o) o _⟩
 refine oz (cur:=R) hw hn hx ah ae (by grind) (N:=(i+m)*k+B.length) ?_
 grind [a3v,List.size_toArray]
def qp{p:Prop}(h:p:=by
  have z1:((m:Int)==0)=AM:=CK.2 D;have z2:((i:Int)==(n:Int))=AM:=CK.2 D;have HB:=A b;have HF:=A c;have mixed:AO.follows .mixedOrders=AL:=U;unfold BM at d;have q1:i<=n:=D;have w1:G.wrap ((i:Int)+(m:Int))=(i:Int)+(m:Int):=by rw[IntKind.wrap_i64];omega
  have w2:(0:Int)<=(i:Int)+(m:Int):=D;have w3:((i:Int)+(m:Int)).toNat=i+m:=D;have w4:(i:Int)<=(n:Int)+(m:Int):=D;have w5:(y:Int)<(n:Int)+(m:Int):=D;have q2:¬(a=i+m):=D;have q3:¬(a=i):=D;have q4:m<=1:=D;have q5:1<=m:=D;have q6:¬(y=i):=D;clear c b hm j H
  try simp only[SJ] at f
  go_wp2_with(at_builtin;refine Lib.wpList_append_run _ F _ _ _ _ F _ _ F F _ _ (k _) ?_)
  go_region_law_o(refine step_copy_runI rfl _ _ _ _ rfl _ _ XA XA (HB.o 3 (a-(i+m)) (y-i)) ?_)
  go_wp2;go_ret;have hf:=HF.o
  try simp only[SJ] at hf⊢
  exact hf):p:=h
theorem b1G{v:AN}{rows:List (List AN)}(d:w.ownsRow base E k v n rows.flatten)(hm:m=1)(b:base<=w.1.size):
  ∀v' (w1:V),w1.ownsRow base E k v' (n+m) (rows.flatten++x)->w.grownBy w1 v.ownBlock->∃a,Ending.returned v'=Ac a/\w1.ownsRow base E k a (n+1) (rows++[x]).flatten/\At base w w1:=by
 intro v' w1 f c;exact⟨v',F,Al,(Ad base w).grown c b (λq e=>(DS d q e).1)⟩
theorem rL(h:p:=by
  have hm1:m<=1:=D;have z1:((m:Int)==0)=AM:=CK.2 D;have HO:=A a;have HL:=A d;have HN:=A (V.news_of_block (cs:=x.toArray) (fr:=(0,0)) f);have H1:=A b;have HI:=A hi;have I1:=A i;have I2:=A j;have I3:=A k;have HF:=A (b1G (x:=x) a hm c);clear hm hx d b f hi i j k;obtain⟨_,⟨rfl,rfl⟩|⟨g,y,cur,rfl,_,_,_,h2,_,_⟩⟩:=id a;all_goals
   clear a
   try unfold BM at h2
   go_wp2_with(at_builtin;refine Ln _ F _ _ _ F base _ o _ _ _ l HI I1 I2 I3 F Z _ _ _ F HO ⟨J,0,O⟩ m vc x F HL HN H1 Fp D c ?_)
   all_goals
    intro v' w1 hown hgrow _;go_wp2;go_ret;exact HF v' w1 (by simpa using hown) hgrow):p:=h
def a8j(w:V)(base n m J vc:Nat)(v:AN)(rows:List (List AN))(x:List AN)(a:w.ownsRow base 52 5 v n rows.flatten)(hx:ln x=5)(b:∀u∈x,u.oneCell'=AL)(f:Az w J 52 x)
  (hm:m=1)(q:n<=1000000)(c:base<=w.1.size):
  AZ AO 215 #[v,M G (n:Int),AK (Q ⟨J,0,O⟩) m vc] w λe w'=>∃v',e=Ac v'/\w'.ownsRow base 52 5 v' (n+1) (rows++[x]).flatten/\At base w w':=by
 have⟨o,hi,i,j,k⟩:=DM Vi;have l:=A underlying32;have d:ln x=m*5:=by rw[hx,hm]
 go_enter func215,ntmps215;exact rL
def a8B(w:V)(base n m J vc:Nat)(v:AN)(rows:List (List AN))(x:List AN)(a:w.ownsRow base 3 1 v n rows.flatten)(hx:ln x=1)(b:∀u∈x,u.oneCell'=AL)(f:Az w J 3 x)
  (hm:m=1)(q:n<=1000000)(c:base<=w.1.size):
  AZ AO 204 #[v,M G (n:Int),AK (Q ⟨J,0,O⟩) m vc] w λe w'=>∃v',e=Ac v'/\w'.ownsRow base 3 1 v' (n+1) (rows++[x]).flatten/\At base w w':=by
 have⟨o,hi,i,j,k⟩:=DM Vd;have l:=A FD;have d:ln x=m*1:=by rw[hx,hm]
 go_enter func204,ntmps204;exact rL
theorem a4O (w : World) (base g n y i m J vc : Nat) (cur : Array Value) (rows : List (List Value)) (x : List Value) (H : NO 52 5 w g n y i m J cur rows x) (q : base ≤ g) (l : J ≠ g) (k : n + m ≤ y) :
    Calls Tryz.prog 215 #[.slice (some ⟨g, 0, none⟩) n y, .int .i64 (i : Int), .slice (some ⟨J, 0, none⟩) m vc] w fun e w' => ∃ v', e = .returned v' ∧ w'.ownsRow base 52 5 v' (n + 1) (DZ rows i x).flatten ∧ Below g w w' := by
  obtain ⟨s, hi, _, o, _⟩ := info_parts Vi
  have f : ∀ lb a, (callFunc 261 #[.slice (some ⟨J, 0, none⟩) m vc, .slice (some ⟨g, (i + m) * 5, none⟩) lb a]).run Tryz.prog w = .ok (.value (.bool false)) w := fun lb a => by
    rw [run_callFunc_extern Tryz.func261 (by kernel_rfl) (by kernel_rfl) (by kernel_rfl) (e := Extern.SlicesOverlaps.overlaps _ _) (by kernel_rfl), H.over Tryz.underlying32 hi o l k lb a]
    rfl
  obtain ⟨W1, X, b, c, d⟩ := H.shift (vc := vc) (base := base) Tryz.underlying32 (by rw [hi]; simp [o]) q l k
  have hm := H.hm
  have j := H.hi
  have r := H.l
  go_enter Tryz.func215, Tryz.ntmps215
  exact oN
theorem a4d (w : World) (base g n y i m J vc : Nat) (cur : Array Value) (rows : List (List Value)) (x : List Value) (H : NO 3 1 w g n y i m J cur rows x) (q : base ≤ g) (l : J ≠ g) (k : n + m ≤ y) :
    Calls Tryz.prog 204 #[.slice (some ⟨g, 0, none⟩) n y, .int .i64 (i : Int), .slice (some ⟨J, 0, none⟩) m vc] w fun e w' => ∃ v', e = .returned v' ∧ w'.ownsRow base 3 1 v' (n + 1) (DZ rows i x).flatten ∧ Below g w w' := by
  obtain ⟨s, hi, _, o, _⟩ := info_parts Vd
  have f : ∀ lb a, (callFunc 257 #[.slice (some ⟨J, 0, none⟩) m vc, .slice (some ⟨g, (i + m) * 1, none⟩) lb a]).run Tryz.prog w = .ok (.value (.bool false)) w := fun lb a => by
    rw [run_callFunc_extern Tryz.func257 (by kernel_rfl) (by kernel_rfl) (by kernel_rfl) (e := Extern.SlicesOverlaps.overlaps _ _) (by kernel_rfl), H.over Tryz.underlying25 hi o l k lb a]
    rfl
  obtain ⟨W1, X, b, c, d⟩ := H.shift (vc := vc) (base := base) Tryz.underlying25 (by rw [hi]; simp [o]) q l k
  have hm := H.hm
  have j := H.hi
  have r := H.l
  try simp only [Nat.mul_one] at f
  go_enter Tryz.func204, Tryz.ntmps204
  exact oN
theorem a5O(w:V)(base g n y i m J vc:Nat)(cur:Array AN)(rows:List (List AN))(x:List AN)(H:NO 52 5 w g n y i m J cur rows x)(l:base≤w.heap.size)(o:y<n+m):
  AZ AO 215 #[.slice (Q ⟨g,0,O⟩) n y,.int .i64 (i:Int),.slice (Q ⟨J,0,O⟩) m vc] w fun e w'=>∃v',e= .returned v'∧w'.ownsRow base 52 5 v' (n+1) (DZ rows i x).flatten∧At base w w':=by
 obtain⟨B,hi,q,r,s⟩:=DM Vi
 obtain⟨a,W1,t,u,v,d,k,f,b,c⟩:=H.grow (vc:=vc) underlying32 hi q r s rfl (by decide) l o
 have hm:=H.hm
 have j:=H.hi
 have z:=H.c
 go_enter func215,ntmps215
 exact qp
def a8J(w:V)(base n i J vc:Nat)(v:AN)(rows:List (List AN))(x:List AN)(f:w.ownsRow base 52 5 v n rows.flatten)(hn:ln rows=n)(hw:DG 5 rows)(s:GL rows)
  (hx:ln x=5)(a:∀u∈x,u.oneCell'=AL)(j:Az w J 52 x)(z:v.ownBlock≠Q J)(hi:i<=n)(d:n<=1000000)(c:base<=w.1.size):
  AZ AO 215 #[v,M G (i:Int),AK (Q ⟨J,0,O⟩) 1 vc] w λe w'=>∃v',e=Ac v'/\w'.ownsRow base 52 5 v' (n+1) (DZ rows i x).flatten/\At base w w':=by
 by_cases r:i=n
 .subst r;have e:DZ rows i x=rows++[x]:=by grind [DZ]
  rw[e];exact a8j w base i 1 J vc v rows x f hx a j F d c
 obtain⟨g,y,cur,rfl,b,q,h1,h2,k,l⟩:=Pr f D;have H:NO 52 5 w g n y i 1 J cur rows x:=⟨Z,q,h1,h2,k,l,hn,hw,s,hx,a,j,rfl,D,d⟩;by_cases t:n+1<=y
 .refine(a4O w base g n y i 1 J vc cur rows x H b (λe=>z (by rw[e];rfl)) t).mono ?_;rintro e w' ⟨v',rfl,m,o⟩;exact⟨v',F,m,o.mono b⟩
 exact a5O w base g n y i 1 J vc cur rows x H c D
theorem a63(w:V)(base g n y i m J vc:Nat)(cur:Array AN)(rows:List (List AN))(x:List AN)(H:NO 3 1 w g n y i m J cur rows x)(l:base≤w.heap.size)(o:y<n+m):
  AZ AO 204 #[.slice (Q ⟨g,0,O⟩) n y,.int .i64 (i:Int),.slice (Q ⟨J,0,O⟩) m vc] w fun e w'=>∃v',e= .returned v'∧w'.ownsRow base 3 1 v' (n+1) (DZ rows i x).flatten∧At base w w':=by
 obtain⟨B,hi,q,r,s⟩:=DM Vd
 obtain⟨a,W1,t,u,v,d,k,f,b,c⟩:=H.grow (vc:=vc) FD hi q r s rfl (by decide) l o
 have hm:=H.hm
 have j:=H.hi
 have z:=H.c
 go_enter func204,ntmps204
 exact qp
def a99(w:V)(base n i J vc:Nat)(v:AN)(rows:List (List AN))(x:List AN)(f:w.ownsRow base 3 1 v n rows.flatten)(hn:ln rows=n)(hw:DG 1 rows)(s:GL rows)
  (hx:ln x=1)(a:∀u∈x,u.oneCell'=AL)(j:Az w J 3 x)(z:v.ownBlock≠Q J)(hi:i<=n)(d:n<=1000000)(c:base<=w.1.size):
  AZ AO 204 #[v,M G (i:Int),AK (Q ⟨J,0,O⟩) 1 vc] w λe w'=>∃v',e=Ac v'/\w'.ownsRow base 3 1 v' (n+1) (DZ rows i x).flatten/\At base w w':=by
 by_cases r:i=n
 .subst r;have e:DZ rows i x=rows++[x]:=by grind [DZ]
  rw[e];exact a8B w base i 1 J vc v rows x f hx a j F d c
 obtain⟨g,y,cur,rfl,b,q,h1,h2,k,l⟩:=Pr f D;have H:NO 3 1 w g n y i 1 J cur rows x:=⟨Z,q,h1,h2,k,l,hn,hw,s,hx,a,j,rfl,D,d⟩;by_cases t:n+1<=y
 .refine(a4d w base g n y i 1 J vc cur rows x H b (λe=>z (by rw[e];rfl)) t).mono ?_;rintro e w' ⟨v',rfl,m,o⟩;exact⟨v',F,m,o.mono b⟩
 exact a63 w base g n y i 1 J vc cur rows x H c D
theorem Xq(w:V)(q:Nat):Ext w (w.drewN q):=below_drewN (Ad _ _) q
def b1f(w:V)(R:Option An)(y:Nat)(l:List Int)(x:Int)(d:BB 1 w w.1.size R y (Cy l))(m:l.Pairwise (· <= ·))(k:ln l<=1000000):
  AZ AO 203 #[AK R (ln l) y,M G x] w λe w'=>e=Ac (BO #[M G (l.countP (· <x):Nat),AU (l.contains x)])/\Ext w w':=by
 obtain⟨h1,h2,a⟩:=d;rw[BL] at h1 a;by_cases c:ln l=0
 .obtain rfl:=Jf.1 c;refine(slices_BinarySearch_int_empty R y x w).mono ?_
  grind [Ext.B9]
 obtain⟨b,off,rfl,f,g⟩:=a D;refine(slices_BinarySearch_int b off _ y l x w (AS _) D (λj i=> ?_) Al).mono ?_
 .grind
 grind [Xq]
def vX{l:List Int}(h:Fi l=0):l.Pairwise (· <= ·)/\ln l<=16:=by
 unfold Fi at h;split at h
 .omega
 refine⟨?_,D⟩;have c:=U1 h;have a:∀d i,i+d<ln l->l.getD i 0<=l.getD (i+d) 0:=by
  intro d
  induction d<;>grind
 rw[mB];intro i k hi hk b;have:=a (k-i) i D
 grind
def a1N(b:UInt8)(l:By):Lib.index (b::l) [47]=if b=47 then 0 else if Lib.index l [47]== -1 then -1 else Lib.index l [47]+1:=by
 rw[Lib.index]
 grind
def b05(l:By):Lib.index l [47]=if l.findIdx (· ==47)<ln l then(l.findIdx (· ==47):Int) else -1:=by
 induction l with
 |nil=>rfl
 |cons b l a=>
  rw[a1N]
  grind
def Tc(l:By):Bj l [47]=if l.findIdx (· ==47)<ln l then(l.take (l.findIdx (· ==47)),l.drop (l.findIdx (· ==47)+1),AL) else(l,[],AM):=by
 unfold Bj;rw[b05]
 grind
theorem Pu(a:By):Ag a=if a.head?==Q 45 then a.drop 1 else a:=by
 unfold Ag Lib.trimPrefix DH;cases a<;>grind
theorem UH(a:By):DH a [45]=(a.head?==Q 45):=by
 unfold DH;cases a<;>grind
def dW(a:By):(Ag (Bj a [47]).1=(Bj (Ag a) [47]).1)/\(Bj a [47]).2=(Bj (Ag a) [47]).2/\DH (Bj a [47]).1 [45]=(a.head?==Q 45):=by
 cases a with
 |nil=>exact⟨F,F,F⟩
 |cons b l=>
  by_cases h:b=45
  .have hc:Bj (45::l) [47]=(45::(Bj l [47]).1,(Bj l [47]).2):=by
    rw[Tc,Tc]
    grind
   grind [Pu,UH]
  have c:((Bj (b::l) [47]).1.head?==Q 45)=AM:=by
   rw[Tc]
   grind
  grind [Pu,UH]
def b0I(s:By)(k:Nat):(tx s).extract 0 k=tx (s.take k):=by
 apply eW
 grind [ByteArray.data_extract]
def VY(a:By):Cq (tx a)=(a.head?==Q 45,tx (Bj (Ag a) [47]).1,tx (Bj (Ag a) [47]).2.1,(Bj (Ag a) [47]).2.2):=by
 have hy:(if((tx a).data.toList.head?==Q 45)=AL then(tx a).extract 1 (tx a).size else tx a)=tx (Ag a):=by
  rw[Pu];cases h:(a.head?==Q 45) with
  |true=>rw[DJ];grind [UD]
  |false=>rfl
 have hm:((tx a).data.toList.head?==Q 45)=(a.head?==Q 45):=by rw[ME]
 unfold Cq;dsimp;rw[hy];unfold Q2;rw[DJ,Tc];by_cases hk:(Ag a).findIdx (· ==47)<(Ag a).length
 .rw[Aj hk,Aj hk,b0I _ _,UD]
 grind
theorem VS(l:By):(tx l).toList=l:=by rw[Z7]
theorem Pz(l:By)(m:Nat)(h:m<(tx l).size):(tx l)[m]'h=l[m]'(by rw[DJ] at h;exact h):=by
 simp[Ry]
def o6{l:By}(h:l.all CJ=AL):DY l=l:=by
 unfold DY
 induction l with
 |nil=>rfl
 |cons b l a=>
  simp only[SL,Ez] at h;rw[List.takeWhile_cons,Aj h.1,a h.2]
theorem Vn{l:By}(h:Dg (tx l)):IL l=AL/\l.all CJ=AL:=by
 have a:l.all CJ=AL:=by
  rw[PN];intro b c;obtain⟨m,hm,rfl⟩:=JJ.1 c;have:=h.all m QO
  grind [Pz,dR]
 have d:=o6 a;have e:=h.pos;rw[DJ] at e;have f:Hn l=ln l:=by
  unfold Hn;rw[d];split
  .rename_i hc;have:=h.DY QO QO;rw[Pz] at this;cases l with
   |nil=>grind
   |cons b l=>simp at hc;simp[hc.2] at this
  rfl
 grind [iz]
def b02(l:By):∀k,k<=ln l->CZ (tx l) k=BY (l.take k):=by
 intro k hk
 induction k with
 |zero=>simp[CZ,BY]
 |succ k a=>
  rw[CZ,bP (show k<ln l by omega)]
  grind [Cv]
def Qm(l:By):CZ (tx l) (tx l).size=BY l:=by
 rw[DJ,b02 l _ (AS _),Nk]
def dG{n:By}(h1:IL (Ag n)=AL)(h2:(Ag n).all CJ=AL)(d:¬(DH n [45]=AL/\Ag n=[48])):Eu n=AL:=by
 unfold Eu;unfold IL at h1;simp[Ez,Cx] at h1;cases a:Ag n with
 |nil=>rw[a] at h1;exact absurd F h1.1
 |cons b l=>
  by_cases c:b=48
  .subst c;have e:l=[]:=by
    rw[a] at h1 h2;have f:=o6 h2;have:=h1.1;unfold Hn at this
    grind
   grind [Pu,UH]
  grind
theorem rC:Tm (Io 1)=([49],0):=by
 have a:Io 1=[1]:=bJ ⟨λd b=>Al,by grind [N5]⟩ Z;rw[a];decide+kernel
def uD{a:By}(h:IP (tx a)):BF a=0:=by
 unfold IP at h;rw[VY] at h;obtain⟨h1,h2,d⟩:=h;have⟨co,c2,q⟩:=dW a;rw[Qm,Qm,DJ,DJ,VS,VS] at d;have⟨gn,o⟩:=Vn h1;have hcut:Dq a=(if(Bj a [47]).2.2=AM then Q ((Bj a [47]).1,[49]) else Q ((Bj a [47]).1,(Bj a [47]).2.1))/\((Bj a [47]).2.2=AL->IL (Bj a [47]).2.1=AL/\(Bj a [47]).2.1.all CJ=AL/\(Bj a [47]).2.1≠[48]/\(Bj a [47]).2.1≠[49]/\DO (BY (Ag (Bj a [47]).1)) (BY (Bj a [47]).2.1)=1)/\(Ag (Bj a [47]).1).length<=300/\(Bj a [47]).2.1.length<=300/\¬(DH (Bj a [47]).1 [45]=AL/\Ag (Bj a [47]).1=[48]):=by
  unfold WL at d;have f:(Bj (Ag a) [47]).2.2=AL->IL (Bj (Ag a) [47]).2.1=AL/\(Bj (Ag a) [47]).2.1.all CJ=AL/\(Bj (Ag a) [47]).2.1≠[48]/\(Bj (Ag a) [47]).2.1≠[49]/\DO (BY (Bj (Ag a) [47]).1) (BY (Bj (Ag a) [47]).2.1)=1:=by
   grind [Vn]
  unfold Dq
  grind
 obtain⟨g,f,l1,l2,k⟩:=hcut;unfold BF;rw[g];cases n:(Bj a _).2.2 with
 |false=>
  grind
 |true=>
  have⟨s,c,v,w,j⟩:=f n;rw[Af AV];dsimp;split
  .rfl
  have f1:=dG Al Al k;have m:Ag (Bj a [47]).2.1=(Bj a [47]).2.1:=by
   rw[Pu];cases i:(Bj a _).2.1 with
   |nil=>rfl
   |cons b l=>
    rw[i] at c;simp[SL,Ez] at c;have t:=Py c.1;have:((b::l).head?==Q 45)=AM:=by
     rw[CK];intro e;injection e with e
     subst e
     grind
    grind
  have r:Eu (Bj a [47]).2.1=AL:=dG Al Al Al;have k1:IN (Bj a [47]).1=0:=by unfold IN;grind
  have k2:IN (Bj a [47]).2.1=0:=by unfold IN;grind
  have u:LM (Bj a [47]).1 (Bj a [47]).2.1=([49],0):=by
   unfold LM Fu;rw[k1,k2,m,j,Aj rfl,Aj rfl,rC];split
   .decide+kernel
   rfl
  grind
def OU(b g sl a c d e f h i:Bool):Int:=
 if !b||(sl&&(!a||c||d))||(g&&e) then 11 else if f||h then 4 else if sl&& !i then 11 else 0
open Classical in
noncomputable def VE(z:ByteArray):Int:=
 let v:=Cq z
 OU (AQ (Dg v.2.1)) v.1 v.2.2.2 (AQ (Dg v.2.2.1)) (v.2.2.1.toList==[48]) (v.2.2.1.toList==[49]) (v.2.1.toList==[48]) (AQ (300<v.2.1.size)) (AQ (300<v.2.2.1.size)) (DO (CZ v.2.1 v.2.1.size) (CZ v.2.2.1 v.2.2.1.size)==1)
open Classical in
theorem uj{b:Bool}(h:b=AL↔Dg z){c:Bool}(e:AQ (Dg z)=c):b=c:=by
 rw[<-e,JM,Cx];exact h
open Classical in
def ji(z:ByteArray)(w:V)(hs:z.size<=1000000)(f:CA w):AZ AO 103 #[AT z] w λe w'=>e=Ac (M G (VE z))/\Ext w w':=by
 have HT:=A f;have B:=A (aw z w hs);have hn:=Y4 z;have L:=jK z;unfold VE;have⟨⟨g,n,d,sl⟩,N⟩:=AP (Cq z);rw[N] at B hn L⊢;dsimp only at hn L⊢;clear N f;have af:n.size<=1000000:=D;have ae:d.size<=1000000:=D;have Y:=A (λW=>bL n W af);have X:=A (λW=>bL d W ae);have⟨q1,j⟩:=AP (AQ (Dg n));have⟨q3,l⟩:=AP (AQ (Dg d));have⟨p1,h1⟩:=AP (d.toList==[48]);have⟨p2,h2⟩:=AP (d.toList==[49]);have⟨p3,h3⟩:=AP (n.toList==[48]);have⟨P,s⟩:=AP (AQ (300<n.size));have⟨R,u⟩:=AP (AQ (300<d.size));have⟨q,o⟩:=AP (DO (CZ n n.size) (CZ d d.size));have⟨S,m⟩:=AP (q==1);rw[j,l,h1,h2,h3,s,u,o,m];have ac:AQ (300<(n.size:Int))=P:=by rw[<-s];simp;omega
 have ad:AQ (300<(d.size:Int))=R:=by rw[<-u];simp;omega
 have ah:((q:Int) !=1)= !S:=by
  rw[<-m];cases a:(q==1)
  .rw[CK] at a;rw[eN,Cd];omega
  rw[C9] at a;subst a;rfl
 have aa:=A (show∀t:ByteArray,(t.toList=[49]↔DO (CZ n n.size) (CZ d d.size)=1)->(t.toList==[49])=S fromλt h=>by
  rw[o] at h;rw[<-m,JM,C9,C9];exact h)
 have Z:=A o;have y:=A (show q1=AL->Dg n fromλe=>Jh (j.trans e));have x:=A (show q3=AL->Dg d fromλe=>Jh (l.trans e));have U:=A (λ(b:Bool) (h:b=AL↔Dg n)=>uj h j);have T:=A (λ(b:Bool) (h:b=AL↔Dg d)=>uj h l);have ag:q.gcd 0=q:=Uj q;clear o s u m ag j l;cases g<;>cases sl
 all_goals
  go_enter func103,ntmps103;go_wp2_with(go_at_call 170;refine B.mono ?_;unfold UK;rintro e W1 ⟨rfl,E⟩;have ab:=A E;clear E)
  refine(Y W1).mono ?_;rintro e W2 ⟨⟨b,rfl,a⟩,F⟩;obtain rfl:=U b a;have C:=A (ab.tr F);clear F a;cases b
 all_goals(cases P<;>cases R)
 all_goals go_wp2_with(first
   |(go_at_call 174;(refine(nP n d _ ((y AV).Cv (by have:=Ij ac;omega)) ((x (by first|simp|assumption)).Cv (by have:=Ij ad;omega)) (HT.below i (AS _))).mono ?_);rintro e W4 ⟨⟨t,k,rfl,_,f⟩,c⟩;have r:=A (i.tr c);have ai:=aa t f;clear c f)
   |(go_at_call 172;(refine(oq (CZ n n.size) (CZ d d.size) _ (by have:=Dj (Vz v (AS _)) (XI D);omega)).mono ?_);rw[Z.o];rintro e W6 ⟨rfl,J⟩;have X6:=A (X5.tr J);clear J)
   |(go_at_call 173;have v:=A ((x (by first|simp|assumption)).Cv D);(with_reducible refine(VL d _ v.o D).q λW5 I=>?_);have X5:=A (r.tr I);clear I)
   |(go_at_call 173;refine(VL n _ ((y AV).Cv D) D).q λW4 c=>?_;have r:=A (i.tr c);clear c)
   |(go_at_call 171;refine(X _).mono ?_;rintro e W3 ⟨⟨b3,rfl,K⟩,H⟩;obtain rfl:=T b3 K;have i:=A (C.tr H);clear H K))
 all_goals go_ret
 all_goals refine⟨?_,by first|exact C|exact i|exact r|exact X6⟩
 all_goals first
  |rfl
  |(simp_all[OU];done)
  |trace_state
structure Jj(a:By):Prop where
 all:a.all CJ=AL
 ne:a≠[]
 DY:a.head?≠Q 48\/a=[48]
theorem uJ{b:UInt8}(h:CJ b=AL):(Q b==Q (45:UInt8))=AM:=by
 rw[CK];intro e;injection e with e
 subst e;exact absurd (Py h).2.1 AV
def Jj.head{a:By}(h:Jj a):(a.head?==Q 45)=AM:=by
 cases a with
 |nil=>rfl
 |cons b r=>
  have:=h.all
  grind [uJ]
def Jj.Ag{a:By}(h:Jj a):Ag a=a:=by rw[Pu,h.head];rfl
def Jj.pre{a:By}(h:Jj a):DH a [45]=AM:=by rw[UH,h.head]
def Jj.form{a:By}(h:Jj a):Eu a=AL:=by
 unfold Eu;rw[h.Ag,h.all];have c:a.isEmpty=AM:=by cases a with|nil=>exact absurd F h.ne|cons b r=>rfl
 rcases h.DY with h1|h1
 all_goals grind
theorem Rq(a:By):Ag (45::a)=a:=BE
theorem dK(a:By):DH (45::a) [45]=AL:=BE
def Jj.neg{a:By}(h:Jj a)(c:a≠[48]):Eu (45::a)=AL:=by
 unfold Eu;rw[Rq,h.all];have d:a.isEmpty=AM:=by cases a with|nil=>exact absurd F h.ne|cons b r=>rfl
 have h1:=h.DY.resolve_right c
 grind
def YF{a:By}(h:Eu a=AL):Jj a\/∃r,a=45::r/\Jj r/\r≠[48]:=by
 unfold Eu at h;simp only[Ez,S9,QJ,C9,CK] at h;obtain⟨⟨h1,h2⟩,d⟩:=h;have c:Ag a≠[]:=Al;by_cases g:(a.head?==Q 45)=AL
 .cases a with
  |nil=>cases g
  |cons b r=>
   have i:b=45:=Al;subst i;rw[Rq] at h1 c d;have f:r.head?≠Q 48:=by
    grind
   exact .inr ⟨r,F,⟨h1,c,.inl f⟩,λe=>f Al⟩
 have j:Ag a=a:=by rw[Pu,Af g]
 rw[j] at h1 c d;exact .inl ⟨h1,c,d⟩
def Fm(t:ByteArray)(v:Int):Prop:=∃a:By,t=tx a/\Eu a=AL/\(Ag a).length<=300/\num a=v
theorem WE{a:By}(h:Jj a)(b:ln a<=300):Fm (tx a) (BY a):=
 ⟨a,rfl,h.form,by rw[h.Ag];exact b,by unfold num;rw[h.pre,h.Ag];rfl⟩
theorem iP{a:By}(h:Jj a)(c:ln a<=300)(b:BY a≠0):Fm (tx (45::a)) (-(BY a:Int)):=
 ⟨_,rfl,h.neg (by rintro rfl;exact b Z),by grind [Rq],by grind [num,dK,Rq]⟩
def b4B{a:By}(h:Jj a)(b:ln a<=300)(s:Bool)(c:s=AL->BY a≠0):Fm (if s then⟨#[45]⟩++tx a else tx a) (if s then -(BY a:Int) else BY a):=by
 cases s with
 |false=>grind [WE]
 |true=>exact iP h b (c F)
def b1F:Fm ⟨#[48]⟩ 0:=WE ⟨Z,AV,.inr rfl⟩ AV
theorem Fm.size{t:ByteArray}{v:Int}(h:Fm t v):0<t.size/\t.size<=301:=by
 obtain⟨a,rfl,h1,h2,_⟩:=h;rw[DJ];have:=pV a;refine⟨?_,D⟩;rcases YF h1 with h|⟨r,rfl,_⟩
 .exact MW.2 h.ne
 simp
theorem VZ{a:By}(h:Eu a=AL)(b:(Ag a).length<=300):IN a=0:=by unfold IN;grind
theorem ot(x y:By):BY (x++y)=BY x*10^ln y+BY y:=by
 induction x with
 |nil=>simp[BY]
 |cons b x a=>grind [VQ]
theorem oF(u:Nat)(h:u≠0):(ES u).head?≠Q 48:=by
 induction u using Nat.strongRecOn with
 |_ u b=>
  rw[ES];split
  .rename_i h10;intro e;have:=(VW h10).2;simp only[QG,We] at e;rw[e] at this
   grind [Cv]
  have⟨_,_,c⟩:=Qe (u/10);cases a:ES _<;>grind
theorem a7R(u:Nat):Jj (ES u):=by
 have⟨a,b,c⟩:=Qe u;refine⟨a,c,?_⟩;by_cases h:u=0
 .subst h;exact .inr GG
 grind [oF]
def sK{z:Int}(a: -9223372036854775808<=z)(h1:z<=9223372036854775807):Fm (tx (CY z)) z:=by
 have b:∀u,u<10^20->(ES u).length<=300:=λu hu=>by
  rw[TK];exact BJ (Yj u 20 D hu) D
 grind [Qe,CY,iP,a7R,WE]
def rA{l:List Nat}(h:E4 l):∀q,JH l q=BC l/10^q%10:=by
 induction l with
 |nil=>simp[JH,I,BC,S6]
 |cons x l a=>
  intro q;have hx:=h x AV;have a:=a (λd f=>h d Al);rw[bT];by_cases b:q<6
  .unfold JH;rw[ZF b,Ud b];show x/10^q%10=_;have e:(1000000)=10^q*(10*10^(5-q)):=by
    rw[<-Nat.pow_succ',<-eh,show q+(5-q+1)=6 by omega]
   grind [Nat.mul_assoc,Nat.add_mul_div_left]
  obtain⟨r,rfl⟩:∃r,q=r+6:=⟨q-6,D⟩;have e:JH (x::l) (r+6)=JH l r:=by
   unfold JH;rw[show(r+6)/6=r/6+1 by omega,show(r+6)%6=r%6 by omega];rfl
  have c:(10)^6=1000000:=D;rw[e,a,eh,DL (10^r),<-lV,Nat.add_mul_div_left _ _ D,ZF hx,IU]
def a2d{v z:Nat}:∀n,z<=n->v<10^n->(∀q,z<=q->q<n->v/10^q%10=0)->v<10^z:=by
 intro n
 induction n with
 |zero=>
  grind
 |succ m c=>
  intro h1 h2 a;by_cases e:z=m+1
  .grind
  have b:v/10^m<10:=by
   rw[ZG D,<-Nat.pow_succ'];exact h2
  grind [Nat.div_eq_zero_iff]
def a9P{l Y:List Nat}{o z:Nat}{S:ByteArray}(b:EJ l)(x:6*ln l-o=z)(u:∀q,q<6*ln l->I Y (6*ln l-1-q)=48+JH l q)(t:∀j,j<o->I Y j=48)(w:o<6*ln l)(v:I Y o≠48)
  (d:strOfNums ((G8 z).map λj=>((I Y (o+j):Nat):Int))=S):∃a:By,S=tx a/\Jj a/\BY a=BC l/\ln a=z:=by
 have s:∀k,k<z->I Y (o+k)=48+JH l (z-1-k):=Al;have c:∀q,JH l q<10:=λq=>Hh _ Z
 have⟨a,r⟩:=AP ((G8 z).map (λj=>GR (48+JH l (z-1-j))):By);have i:ln a=z:=Al;have g:∀k (h:k<ln a),a[k]=GR (48+JH l (z-1-k)):=Al;have e:S=tx a:=by
  rw[<-d];apply eW;apply Array.toList_inj.1;rw[strOfNums_data,ef]
  grind [List.map_congr_left]
 refine⟨a,e,⟨?_,?_,?_⟩,?_,i⟩
 .grind [VW]
 .grind
 .rw[Wq];have h2:=(VW (c (z-1-0))).2;have n:Cv 48=0:=Z
  grind
 have f:BC l<10^z:=by
  refine a2d (6*ln l) D ?_ (λq h1 h2=> ?_)
  .have:=dV b.Bf
   grind [Nat.pow_mul]
  rw[<-rA b.Bf]
  grind
 have key:∀k,k<=z->BY (a.take k)=BC l/10^(z-k):=by
  intro k
  induction k with
  |zero=>intro _;rw[Nat.sub_zero,ZF f];rfl
  |succ k m=>
   intro hk;rw[bP (show k<ln a by omega),m D,g k D,(VW (c _)).2,rA b.Bf,show z-k=(z-1-k)+1 by omega,NC,<-lV,show z-(k+1)=z-1-k by omega];omega
 have:=key z (AS _)
 grind
structure QQ(z:ByteArray)(f:Nat):Prop where
 f1:f<=1
 pos:f<z.size
 len:z.size-f<=300
 all:Yu z f z.size
 minus:f=1↔∃h:0<z.size,((z[0]'h).toNat:Int)=45
 DY:∀h:f<z.size,1<z.size->((z[f]'h).toNat:Int)≠48
theorem QQ.V9(h:QQ z f):Xm z:=⟨⟨f,h.f1,h.pos,h.all,h.len,h.minus⟩⟩
def Zg{a:By}(h:a.all CJ=AL)(m:Nat)(hm:m<ln a):48<=((a[m]).toNat:Int)/\((a[m]).toNat:Int)<=57:=by
 rw[PN] at h;have:=Py (h _ (Ey hm));omega
def gP{a:By}(h:Eu a=AL)(c:(Ag a).length<=300):QQ (tx a) (if DH a [45] then 1 else 0):=by
 rcases YF h with h|⟨r,rfl,h,d⟩
 .rw[h.Ag] at c;rw[h.pre];have b:=MW.2 h.ne;refine⟨Z,QO,QO,λm _ _ hm=> ?_,⟨λe=>absurd e Z,λ⟨b,e⟩=> ?_⟩,λb h1=> ?_⟩
  .exact Zg h.all m _
  .rw[Pz] at e;have:=Zg h.all 0 Al;omega
  rw[DJ] at h1;rw[Pz];rcases h.DY with h2|h2
  .intro e;apply h2;rw[Wq,Bv D]
   congr 1
   apply QH.1
   grind
  grind
 rw[Rq] at c;rw[dK];have b:=MW.2 h.ne;refine⟨Z,QO,QO,λm h1 _ hm=> ?_,⟨λ_=>⟨by rw[DJ];simp,BE⟩,λ_=>rfl⟩,λGe h1=> ?_⟩
 .simp[SO] at h1;obtain⟨k,rfl⟩:∃k,m=k+1:=⟨m-1,D⟩;rw[DJ] at hm;simp[FX] at hm;exact Zg h.all k D
 show((tx _)[1].toNat:Int)≠48;rw[Pz];have h2:=h.DY.resolve_right d;intro e;apply h2;rw[Wq,Bv D]
 congr 1
 apply QH.1
 grind
def b4Q{a:By}(h:Eu a=AL):SW (tx a)=DH a [45]/\V6 (tx a)=BY (Ag a):=by
 have h1:SW (tx a)=DH a [45]:=by unfold SW;rw[UH]
 refine⟨h1,?_⟩;unfold V6;rw[h1];rcases YF h with h|⟨r,rfl,h,b⟩
 .rw[h.pre,h.Ag];exact Qm a
 rw[DJ,UD];exact Qm r
def sD(z:ByteArray):Nat->Nat
 |0=>0
 |k+1=>if z.data.toList.getD k 0=45 then sD z k else 10*sD z k+((z.data.toList.getD k 0).toNat-48)
theorem tG(h:k<z.size)(a:((z[k]'h).toNat:Int)=45):sD z (k+1)=sD z k:=by
 have e:z.data.toList.getD k 0=z[k]'h:=by
  rw[CM,Bv (by exact h)];simp[Ry]
 show(if z.data.toList.getD k 0=45 then _ else _)=_;rw[Aj (by apply QH.1;grind)]
theorem gw(h:k<z.size)(b:((z[k]'h).toNat:Int)=((48+g:Nat):Int)):sD z (k+1)=10*sD z k+g:=by
 have e:z.data.toList.getD k 0=z[k]'h:=by
  rw[CM,Bv (by exact h)];simp[Ry]
 show(if z.data.toList.getD k 0=45 then _ else 10*sD z k+((z.data.toList.getD k 0).toNat-48))=_;rw[e,Af (by intro a;rw[a] at b;grind)];omega
def tX{a:By}(h:a.all CJ=AL):∀k,k<=ln a->sD (tx a) k=BY (a.take k)/\sD (tx (45::a)) (k+1)=BY (a.take k):=by
 intro k
 induction k with
 |zero=>intro _;exact⟨F,F⟩
 |succ k c=>
  intro hk;have b:=Zg h k D
  grind [Cv,bP,gw,DJ,Pz]
def b2t{a:By}(h:Eu a=AL):sD (tx a) (tx a).size=BY (Ag a):=by
 rw[DJ];rcases YF h with h|⟨r,rfl,h,_⟩
 .rw[(tX h.all _ (AS _)).1,Nk,h.Ag]
 rw[FX,(tX h.all _ (AS _)).2,Nk,Rq]
def b4W(v:Int)(w:V)(e:CI)(w':V):Prop:=∃t:ByteArray,e=Ac (AT t)/\Fm t v/\Ext w w'
def a3S(w:V)(s:Bool)(v:AN)(l:List Nat)(hs:BH w w.1.size v l)(t:EJ l)(hl:ln l<=50):
  AZ AO 244 #[AW #[AU s,v]] w (b4W (EF s l) w):=by
 obtain⟨R,C,rfl,ay,az,r⟩:=id hs;unfold BM at az;by_cases Z:ln l=0
 .obtain rfl:l=[]:=Jf.1 Z;clear r;go_enter func244,ntmps244;go_wp2_with fail
  go_ret;exact⟨_,F,by rw[show EF s []=0 by cases s<;>rfl];exact b1F,(Ad _ _).alloc (AS _) _⟩
 obtain⟨b,off,rfl,aE,_⟩:=r D;have⟨i0,hi,au,ad,ae⟩:=DM sW;have⟨p,hp,ao⟩:=rP t D;have ax:=A (show BC l≠0 from Nat.ne_of_gt (YX t.trim (by rintro rfl;exact Z F)));have⟨n,hn⟩:=AP (ln l);have B:=A hn;have av:=A ao;have HP:=A hp;rw[hn] at ay hl Z⊢;have HS:=A hs;clear hs hn ao hp r;go_enter func244,ntmps244;go_wp2_with(at_make;refine Wj _ F _ _ 110 F (w.1.size+1) 5 i0 (M .u8 0) 1 underlying110 hi au ad .i64 .i64 _ _ (6*n) F F D D (by rw[ae];omega) Fp AV ?_;intro w1 ac am)
 have ap:=Az.new w 262 [AU s,AK (Q ⟨b,off,O⟩) n C];have aa:At (w.1.size+1) (w.alloc (Obj.cells #[AU s,AK (Q ⟨b,off,O⟩) n C] 262)) w1:=(Ad _ _).grown am AV (λ_ h=>Aq);simp only[D5] at ac⊢;have ag:=A (show Az (w.alloc (Obj.cells #[AU s,AK (Q ⟨b,off,O⟩) n C] 262)) w.1.size 262 [AU s,AK (Q ⟨b,off,O⟩) n C] from ap);have H:=A (show At w.1.size w (w.alloc (Obj.cells #[AU s,AK (Q ⟨b,off,O⟩) n C] 262)) from(Ad _ _).alloc (AS _) _);have⟨J,aq⟩:=AP (w.alloc (Obj.cells #[AU s,AK (Q ⟨b,off,O⟩) n C] 262));rw[aq] at aa ag H;have ST:=A (show SR J (w.1.size+1) l (6*0) (F7 (6*n) 0) w1 from⟨ni ac,by rw[List.length_replicate,B.o],λq hq=>D,aa⟩);clear ac am ap aa aq hi au ad ae;go_loopw [4] (λi wr=>∃(k:Nat) (Y:List Nat),k<=n/\i=M G (k:Int)/\SR J (w.1.size+1) l (6*k) Y wr) (λi _=>n-(B8 i).toNat)
 case atStart=>exact⟨0,_,D,rfl,ST⟩
 obtain⟨i,Y,hi,rfl,f⟩:=hrel;have u:=ag.below f.ext (Wk _);have aG:=u.cell 1;have g:=A f;by_cases aH:i<n
 .exact ze
 obtain rfl:i=n:=D;have aF:=u.cell 0;have ar:Ext w wr:=H.trans (f.ext.mono D);have aj:=A ar;have⟨P,hP⟩:=AP (6*i-1-p);have aD:P<6*i:=by have:=HP.o;rw[B.o] at this;omega
 have ai:=A (show I Y P≠48 by
  have:=f.Cv p (by have:=HP.o;rwa[B.o] at this);rw[B.o,hP] at this;rw[this];have:=av.o;omega)
 clear f u ar hP;go_wp2_with fail
 go_loopw [3] (λv N=>∃o:Nat,o<=P/\v=AK (Q ⟨w.1.size+1,o,O⟩) (6*i-o) (6*i-o)/\(∀j,j<o->I Y j=48)/\N=wr) (λv _=>VC v)
 case atStart=>exact⟨0,D,rfl,λj K=>D,rfl⟩
 obtain⟨o,W,rfl,al,rfl⟩:=hrel;have af:=A al;clear al;have an:o<ln Y:=by rw[g.len,B.o];omega
 have aA:=g.row.cell an;have⟨y,hy⟩:=AP (I Y o);rw[hy] at aA;have E:=A hy;have⟨z,L⟩:=AP (6*i-o);have HZ:=A L;rw[L];have ad:1<=z:=D;clear an hy;by_cases ak:y=48
 .subst ak;have aC:o+1<=P:=by
   exact zb
  have ae:¬z=1:=D;clear L;go_wp2;exact⟨⟨o+1,aC,by rw[show 6*i-(o+1)=z-1 by have:=HZ.o;omega],λj K=>(Ht j o).elim (λe=>af j e) (λe=>(show j=o by omega)▸E.o),trivial⟩,by simp[VC];omega⟩
 have⟨ns,U⟩:=AP ((G8 z).map (λj=>((I Y (o+j):Nat):Int)));have ab:ln ns=z:=by rw[<-U];simp
 have aB:=run_convert_bytes_arg (P:=AO) wr 110 5 underlying110 underlying5 (w.1.size+1) o z z ns ab (λj K=>by
  rw[g.row.cell (by rw[g.len,B.o];omega),<-U];simp[Gs,K]) 9 underlying9
 have⟨S,T⟩:=AP (strOfNums ns);have aw:=A (show S.size=z by rw[<-T,strOfNums_size,ab]);rw[T] at aB;have X:=A (show z<=6*i by omega);have ah:=A (show∃a:By,S=tx a/\Jj a/\BY a=BC l/\ln a=z from a9P (o:=o) t (by rw[B.o];exact L) (λq hq=>g.Cv q (by rwa[B.o] at hq)) af (by rw[B.o];omega) (by rw[E.o];exact ak) (by rw[U];exact T));clear L U ab T;cases s with
 |false=>
  go_wp2;refine Bp (v:= AT S) (by simp[results,results244,go_sem]) F ?_;have⟨a,e1,e2,e3,e4⟩:=ah.o;exact⟨S,F,by rw[e1,show EF AM l=(BY a:Int) by rw[e3];rfl];exact WE e2 (by have:=X.o;omega),aj⟩
 |true=>
  have aI:=aw.o;have aJ:z<=600000:=by have:=X.o;omega
  go_wp2;refine Bp (v:= AT (⟨#[45]⟩++S)) (by simp[results,results244,go_sem]) F ?_;have⟨a,e1,e2,e3,e4⟩:=ah.o;exact⟨_,F,by rw[e1,show EF AL l= -(BY a:Int) by rw[e3];rfl];exact iP (a:=a) e2 (by have:=X.o;omega) (by rw[e3];exact ax),aj⟩
theorem QQ.Cv(h:QQ z f)(hk:k<z.size):(((z[k]'hk).toNat:Int)=45/\f=1/\k=0)\/∃g:Nat,g<=9/\((z[k]'hk).toNat:Int)=((48+g:Nat):Int):=by
 by_cases c:f<=k
 .have:=h.all k c hk hk;exact .inr ⟨(z[k]'hk).toNat-48,D,D⟩
 have h1:=h.f1;have a:f=1:=D;have b:k=0:=D;subst b;have⟨_,e⟩:=h.minus.1 a;exact .inl ⟨e,a,F⟩
theorem QQ.b3v(h:QQ z 0):Lq z:=⟨h.pos,by have:=h.len;omega,h.all,h.DY⟩
theorem b4D(h:QQ z f)(hk:k<=z.size):sD z k<10^k:=by
 induction k with
 |zero=>exact Nat.one_pos
 |succ k a=>
  have:=a D;rcases h.Cv (show k<z.size by omega) with⟨e,_,_⟩|⟨g,b,e⟩
  .rw[tG D e,NC];omega
  rw[gw D e,NC];omega
def a3i(z:ByteArray)(f:Nat)(w:V)(h:QQ z f):AZ AO 284 #[AT z] w λx w'=>x=Ac (M G 0)/\Ext w w':=by
 have g:=h.f1;by_cases b:f=0
 .subst b;exact jT z w h.b3v
 obtain rfl:f=1:=D;have⟨n,hn⟩:=AP z.size;have l:0<z.size:=by have:=h.pos;omega
 have EZ:1<z.size:=h.pos;have s:n<=301:=by have:=h.len;omega
 have r:1<n:=D;have v:(((z[0]'l).toNat:Int)==45)=AL:=by
  have⟨_,e⟩:=h.minus.1 F;exact C9.2 e
 have y:(((z[1]'EZ).toNat:Int)==48)=AM:=CK.2 (h.DY EZ EZ);have o:((1:Int)==(n:Int))=AM:=CK.2 D;have B:AQ ((n:Int)>1)=AL:=CP D;have H:=A h.all;have m:=A hn;clear h g b;go_enter func284,ntmps284;go_wp2;go_loopw [4] (λi wr=>∃k:Nat,1<=k/\i=M G (k:Int)/\k<=n/\Ext w wr) (λi _=>((n:Int)-B8 i).toNat)
 case atStart=>exact⟨1,AS _,F,D,Ad _ _⟩
 obtain⟨k,j,rfl,hk,c⟩:=hrel;have a:=A c;clear c;by_cases q:k<n
 .have hb:k<z.size:=D;have d:=H k j hb hb;have t:AQ (((z[k]'hb).toNat:Int)<48)=AM:=Bw D;have u:AQ (((z[k]'hb).toNat:Int)>57)=AM:=Bw D;clear d;go_wp2;exact⟨⟨k+1,D,by go_num,D,a⟩,Bm⟩
 obtain rfl:k=n:=D;have C:¬300<(k:Int)-1:=D;exact Ta
def Yr(z:ByteArray)(f:Nat):Int:=if f=1 then -(sD z z.size:Int) else sD z z.size
def uK(v:Int)(x:CI):Prop:=∃(u:Int) (ok:Bool),x=Ac (BO #[M G u,AU ok])/\(ok=AL->u=v)/\u.natAbs<3000000000000000000
def a4N(z:ByteArray)(f:Nat)(w:V)(h:QQ z f):AZ AO 285 #[AT z] w λx w'=>uK (Yr z f) x/\Ext w w':=by
 have C:=h.f1;have o:0<z.size:=by have:=h.pos;omega
 have I:z.size<=1000000:=by have:=h.len;omega
 by_cases y:17<z.size
 .exact zK
 have H:=A h;have⟨l,r⟩:=AP (((z[0]'o).toNat:Int)==45);have s:=A (show Yr z f=if l then -(sD z z.size:Int) else sD z z.size by
  unfold Yr;cases l with
  |true=>rw[Aj (h.minus.2 ⟨o,C9.1 r⟩)];rfl
  |false=>rw[Af (λe=>by have⟨_,t⟩:=h.minus.1 e;exact CK.1 r t)];rfl)
 clear h;cases l;all_goals
  go_enter func285,ntmps285;go_wp2;go_loopw [4,5] (λn i wr=>∃(k:Nat),n=M G (sD z k:Nat)/\i=M G (k:Int)/\k<=z.size/\Ext w wr) (λ_ i _=>((z.size:Int)-B8 i).toNat)
  case atStart=>exact⟨0,F,F,D,Ad _ _⟩
  obtain⟨k,rfl,rfl,hk,m⟩:=hrel;have d:=A m;have u:=Dj (b4D H hk) (tD D);have⟨v,j⟩:=AP (sD z k);rw[j] at u⊢;have c:=A j;clear m j;by_cases a:k<z.size
  .by_cases h45:((z[k]'a).toNat:Int)=45
   .have b:=A (tG a h45);have q:(((z[k]'a).toNat:Int) !=45)=AM:=by rw[bne_eq_false_iff_eq];exact h45
    clear h45;go_wp2;exact⟨⟨k+1,by rw[b.o,c.o],by go_num,D,d⟩,Bm⟩
   have⟨g,E,e⟩:=(H.Cv a).resolve_left (λh=>h45 h.1);have b:=A (gw a e);have B:(((z[k]'a).toNat:Int)-48)%256=(g:Int):=by rw[e];omega
   have q:(((z[k]'a).toNat:Int) !=45)=AL:=by rw[Cd];omega
   have hu:G.wrap (g:Int)=g:=DF _ D;clear e h45;go_wp2;exact⟨⟨k+1,by rw[b.o,c.o];simp,by go_num,D,d.o⟩,Bm⟩
  obtain rfl:k=z.size:=D;have J:G.wrap (-(v:Int))= -(v:Int):=DF _ D;go_wp2;go_ret2;exact⟨⟨_,_,F,λ_=>by rw[s.o,c.o];rfl,D⟩,d⟩
theorem js{v:Int}(w:V)(h:Fm z v):AZ AO 284 #[AT z] w λx w'=>x=Ac (M G 0)/\Ext w w':=by
 obtain⟨a,rfl,h1,h2,_⟩:=h;exact a3i _ _ w (gP h1 h2)
theorem wP{v:Int}(w:V)(h:Fm z v):AZ AO 285 #[AT z] w λx w'=>uK v x/\Ext w w':=by
 obtain⟨a,rfl,h1,h2,rfl⟩:=h;have e:Yr (tx a) (if DH a [45] then 1 else 0)=num a:=by
  unfold Yr num;rw[b2t h1];cases DH a [45]<;>rfl
 rw[<-e];exact a4N _ _ w (gP h1 h2)
theorem Fm.V9{v:Int}(h:Fm z v):Xm z:=by
 obtain⟨a,rfl,h1,h2,_⟩:=h;exact(gP h1 h2).V9
theorem bW{v:Int}(w:V)(h:Fm z v):AZ AO 242 #[AT z] w (N6 v 51 w):=by
 refine(p8 w z h.V9).mono ?_;rintro e w' ⟨u,l,rfl,h1,h2,b,c,d⟩;obtain⟨a,rfl,k1,k2,rfl⟩:=h;have⟨s1,s2⟩:=b4Q k1;refine⟨_,_,_,F,h1,h2,b,?_,c⟩;unfold EF num;rw[d,s1,s2]
def oJ{a b:ByteArray}{u v:Int}(w:V)(e:Fm a u)(f:Fm b v):AZ AO 240 #[AT a,AT b] w λx w'=>x=Ac (M G 0)/\Ext w w':=by
 have c:=A (js w e);have d:=A (λW=>js W f);clear e f;exact zj
def b5i(u v:Int)(x:CI):Prop:=∃(p q:Int) (ok:Bool),x=Ac (BO #[M G p,M G q,AU ok])/\p.natAbs<3000000000000000000/\q.natAbs<3000000000000000000/\(ok=AL->p=u/\q=v)
def pj {a b : ByteArray} {u v : Int} (w : V) (f : Fm a u) (g : Fm b v) : AZ AO 241 #[AT a, AT b] w λx w' => b5i u v x /\ Ext w w' := by
  have c := A (wP w f);have d := A (λW => wP W g);clear f g;exact zL
def a3Y(w:V)(s:Bool)(v:AN)(l:List Nat)(a:BH w w.1.size v l)(j:EJ l)(k:ln l<=50):
  AZ AO 368 #[AW #[AU s,v]] w λe w'=>(∃t:ByteArray,e=Ac (BO #[AT t,M G 0])/\Fm t (EF s l))/\Ext w w':=by
 obtain⟨R,n,rfl,p,q,i⟩:=id a;have f:=A (λo=>a3S (w.alloc o) s _ l (a.new o) j k);clear i a;go_enter func368,ntmps368;go_wp2_with(first
  |(go_at_call 284;refine(js W1 b).q λm d=>?_;have h:=A (g.tr d);clear d)
  |(go_at_call 244;refine(f _).mono ?_;rintro e W1 ⟨t,rfl,hi,c⟩;have b:=A hi;have g:=A (Ext.tr ((Ad _ _).alloc (AS _) _) c);clear c hi))
 go_ret2;exact⟨⟨_,F,b⟩,h⟩
def b0h{s:Bool}{l:List Nat}{z:Int}(a:EJ l)(h:EF s l=z)(e:z.natAbs<10^60):ln l<=50:=by
 rcases Ht 50 (ln l) with h1|h1
 .have hne:l≠[]:=by rintro rfl;simp at h1
  have h2:=dd a.trim hne;have b:BC l=z.natAbs:=by rw[<-h];unfold EF;split <;>simp
  have c:B6^10<=B6^(ln l-1):=JK Z D;have d:B6^10=10^60:=GG;omega
 exact h1
def a0r{a b:ByteArray}{u v:Int}(d:Fm a u)(e:Fm b v)(h:a.size+b.size<=18): -1000000000000000000<=u*v/\u*v<=1000000000000000000:=by
 obtain⟨a,rfl,f1,_,rfl⟩:=d;obtain⟨b,rfl,c,_,rfl⟩:=e;rw[DJ,DJ] at h;exact ak f1 c h
def nz{a b:ByteArray}{u v:Int}(w:V)(c:Fm a u)(d:Fm b v)(f:(u*v).natAbs<10^60)(s:CA w):AZ AO 355 #[AT a,AT b] w λe w'=>(∃t:ByteArray,e=Ac (BO #[AT t,M G 0])/\Fm t (u*v))/\Ext w w':=by
 have X:=A (oJ w c d);have Y:=A (λW=>pj W c d);have P:=A s;have K:=A c;have L:=A d;have T:=A f;have N:=A (a0r c d);have an:=c.size;have ao:=d.size;clear s c d f;have⟨I,aa⟩:=AP (AQ ((a.size:Int)+(b.size:Int)<=18));have J:=A aa;go_enter func355,ntmps355;go_wp2_with(first
  |(go_at_call 241;fail)
  |(go_at_call 240;refine X.q λW1 n=>?_;have X1:=A n;clear n))
 refine(Y W1).mono ?_;rintro e l ⟨⟨x,y,ok,rfl,hx,hy,C⟩,o⟩;have g:=A (X1.tr o);have R:=A C;clear o C;have⟨z,f⟩:=AP (G.wrap (x*y));have H:=a9Q (x*y);rw[f] at H;obtain⟨E,F⟩:=H;have U:=A (show ok=AL->I=AL->z=u*v fromλh1 h2=>by
  obtain⟨rfl,rfl⟩:=R h1;have:=N (by have:=J.o;rw[h2,Cx] at this;omega);rw[<-f];exact DF _ D)
 cases ok<;>cases I
 all_goals go_wp2_with(first
 |(go_at_call 368;refine(a3Y W5 s5 v5 l5 aj r (b0h r k T)).mono ?_;rintro e W6 ⟨⟨t,rfl,B⟩,ac⟩;have S:=A (((X4.tr ab)).tr ac))
 |(go_at_call 369;refine(a88 W4 s3 s4 l3 l4 v3 v4 51 (ah.grow q) ai ad ae af ag Z).mono ?_;rintro e W5 ⟨s5,v5,l5,rfl,aj,r,am,k,ab⟩;rw[ak,al] at k)
 |(go_at_call 242;refine(bW m L).mono ?_;rintro e W4 ⟨s4,v4,l4,rfl,ai,ae,ag,al,q⟩;have X4:=A (i.tr q))
 |(go_at_call 242;refine(bW l K).mono ?_;rintro e m ⟨s3,v3,l3,rfl,ah,ad,af,ak,j⟩;have i:=A (g.tr j))
 |(go_at_call 179;refine(U6 z l E F (P.below g (AS _))).q λm j=>?_;have i:=A (g.tr j)))
 all_goals go_ret2
 all_goals first
  |exact⟨⟨_,rfl,by rw[k] at B;exact B⟩,S⟩
  |exact⟨⟨_,rfl,by rw[<-U.o TR TR];exact sK E F⟩,i⟩
def a7F{s:Bool}{l:List Nat}{u v:Int}(c:EJ l)(h:EF s l=u+ -v):Je u v=if ln l=0 then 0 else if s then -1 else 1:=by
 unfold Je;by_cases a:ln l=0
 .obtain rfl:l=[]:=Jf.1 a;have:EF s []=0:=by cases s<;>rfl
  have b:([]:List Nat).length=0:=rfl;rw[Af D,Af D,Aj b]
 have d:=YX c.trim (by rintro rfl;exact a F);rw[Af a];cases s with
 |true=>
  have:EF AL l= -(BC l:Int):=rfl;rw[Aj D];rfl
 |false=>
  have:EF AM l=(BC l:Int):=rfl;rw[Af D,Aj D];rfl
def a1I{a b:ByteArray}{u v:Int}(w:V)(f:Fm a u)(g:Fm b v):AZ AO 332 #[AT a,AT b] w λe w'=>e=Ac (BO #[M G (Je u v),M G 0])/\Ext w w':=by
 have D:=A (oJ w f g);have E:=A (λW=>pj W f g);have t:=A f;have z:=A g;clear f g;have⟨c,j⟩:=AP (Je u v);rw[j];have l:=A j;clear j;go_enter func332,ntmps332;go_wp2_with(first
  |(go_at_call 241;fail)
  |(go_at_call 240;refine D.q λW1 o=>?_;have L:=A o;clear o))
 refine(E W1).mono ?_;rintro e H ⟨⟨x,y,ok,rfl,hx,hy,s⟩,q⟩;have m:=A (L.tr q);have C:=A s;clear q s;cases ok
 .go_wp2_with(first
   |(go_at_call 356;refine(a7x K s3 s5 l3 l5 v3 v5 51 (ae.grow (i.trans (r.mono i.size))) ag U Y ab ad Z).mono ?_;rintro e W6 ⟨s6,v6,l6,rfl,ah,aa,al,k,T⟩;rw[ai,ak,aj] at k;have B:=A (a7F aa k);clear k;have⟨A6,c6,R,_,_,_⟩:=id ah;subst R;have n:=A ((P.tr r).tr T))
   |(go_at_call 357;refine(a0W J s4 v4 l4 51 af X ac).mono ?_;rintro e K ⟨s5,v5,l5,rfl,ag,Y,ad,ak,r⟩)
   |(go_at_call 242;refine(bW I z).mono ?_;rintro e J ⟨s4,v4,l4,rfl,af,X,ac,aj,i⟩;have P:=A (N.tr i))
   |(go_at_call 242;refine(bW H t).mono ?_;rintro e I ⟨s3,v3,l3,rfl,ae,U,ab,ai,S⟩;have N:=A (m.tr S)))
  all_goals go_ret2
  all_goals refine⟨?_,n.alloc n.size _⟩
  all_goals rw[<-l.o,B.o]
  all_goals first
   |rfl
   |(simp_all;done)
   |trace_state
 obtain⟨rfl,rfl⟩:=C F;have d:=l.o;unfold Je at d;by_cases h1:x<y
 .rw[Aj h1] at d;exact mw
 rw[Af h1] at d;by_cases h2:y<x
 .rw[Aj h2] at d;exact mw
 rw[Af h2] at d;exact mw
def uk{l:By}(h:Dg (tx l)):Jj l:=by
 have⟨_,h2⟩:=Vn h;have a:=h.pos;rw[DJ] at a;refine⟨h2,MW.1 a,?_⟩;by_cases h1:1<ln l
 .left
  have:=h.DY (by rw[DJ];exact a) (by rw[DJ];exact h1);rw[Pz] at this;rw[Wq,Bv a];intro e;injection e with e
  rw[e] at this;exact this F
 obtain⟨b,rfl⟩:∃b,l=[b]:=List.length_eq_one_iff.1 D;by_cases e:b=48
 .right;rw[e]
 left;simpa using e
def LS(z:ByteArray):Int:=if(Cq z).1 then -(CZ (Cq z).2.1 (Cq z).2.1.size:Int) else CZ (Cq z).2.1 (Cq z).2.1.size
def LU(z:ByteArray):Nat:=if(Cq z).2.2.2 then CZ (Cq z).2.2.1 (Cq z).2.2.1.size else 1
theorem Yd(h:IP z):Fm (pN (Cq z)) (LS z)/\Fm (pD (Cq z)) (LU z:Nat):=by
 unfold IP at h;unfold pN pD LS LU;have⟨⟨g,n,d,sl⟩,v⟩:=AP (Cq z);rw[v] at h⊢;dsimp only at h⊢;obtain⟨h1,h2,f⟩:=h;unfold WL at f;simp only[Ez,S9,CX,QJ,Wc,CK,C9] at f;obtain⟨⟨⟨⟨x,i⟩,j⟩,k⟩,y⟩:=f;rw[<-Sy n] at h1 i j⊢;rw[<-Sy d] at h2 k⊢;have⟨a,o⟩:=AP (n.data.toList:By);have⟨b,s⟩:=AP (d.data.toList:By);rw[o] at h1 i j⊢;rw[s] at h2 k⊢;rw[DJ] at j k;have e:=uk h1;refine⟨?_,?_⟩
 .rw[Qm];refine b4B e D g (λt l=> ?_);rcases i with q|q
  .rw[t] at q;cases q
  apply q;rw[VS];rcases e.DY with h|h
  .exfalso;have:=e.all;have u:=e.ne
   match a,u with
   |c::r,_=>
    simp only[SL,Ez] at this;rw[VQ] at l;have w:=Py this.1;have m:Cv c=0:=by
     rcases TI (Cv c) with h|h
     .exact h
     have:=Nat.mul_pos h (ZH (a:=10) (n:=ln r) Z);omega
    apply h;rw[QG]
    congr 1
    apply QH.1;unfold Cv at m;show _=48;omega
  exact h
 cases sl with
 |false=>exact WE (a:=[49]) ⟨Z,Z,.inl Z⟩ Z
 |true=>
  rw[Aj rfl,Aj rfl,Qm];exact WE (uk (h2 F)) D
def wy(u v:Int)(x:CI):Prop:=∃(a b:Int) (ok:Bool),x=Ac (BO #[M G a,M G b,AU ok])/\(ok=AL->a=u/\b=v/\a.natAbs<1000000000/\b.natAbs<1000000000)
def wu(z:ByteArray)(x:CI):Prop:=wy (LS z) ((LU z:Nat):Int) x
def gI(z:ByteArray)(w:V)(i:z.size<=1000000)(h:IP z):AZ AO 330 #[AT z] w λx w'=>wu z x/\Ext w w':=by
 have k:=A (aw z w i);unfold IP at h;show AZ AO _ _ _ (λx w'=>wy (LS z) ((LU z:Nat):Int) x/\Ext w w');unfold LS LU;have⟨⟨g,n,d,sl⟩,y⟩:=AP (Cq z);rw[y] at h k⊢;dsimp only at h⊢;obtain⟨h1,h2,K⟩:=h;clear K y;have r:=A h1;have s:=A h2;clear h1 h2;have⟨p,l⟩:=AP (CZ n n.size);have⟨q,m⟩:=AP (CZ d d.size);have C:=A (show n.size<=9->p<1000000000 fromλb=>by rw[<-l];exact Dj (Vz (r.Cv D) (AS _)) (XI b));have E:=A (show sl=AL->d.size<=9->q<1000000000 fromλi b=>by rw[<-m];exact Dj (Vz ((s i).Cv D) (AS _)) (XI b));have t:=A (λW (b:n.size<=9)=>show AZ AO 173 #[AT n] W (λx w'=>x=Ac (M G (p:Nat))/\Ext W w') by rw[<-l];exact VL n W (r.Cv D) b);have I:=A (λW (i:sl=AL) (b:d.size<=9)=>show AZ AO 173 #[AT d] W (λx w'=>x=Ac (M G (q:Nat))/\Ext W w') by rw[<-m];exact VL d W ((s i).Cv D) b);rw[l,m];clear l m;by_cases o:n.size<=9
 case neg=>
  have B:(n.size:Int)>9:=D;exact a0I
 by_cases u:d.size<=9
 case neg=>
  have B:(d.size:Int)>9:=D;have N:¬(n.size:Int)>9:=D;exact a0I
 have B:¬(d.size:Int)>9:=D;have N:¬(n.size:Int)>9:=D;have R:=C o;have w1:G.wrap (-(p:Int))= -(p:Int):=DF _ D;cases sl with
 |false=>
  cases g;all_goals
   go_enter func330,ntmps330;go_wp2_with(first
    |(go_at_call 173;refine(t _ o).q λJ f=>?_;have j:=A (c.tr f);clear f)
    |(go_at_call 170;refine k.mono ?_;unfold UK;rintro e W1 ⟨rfl,a⟩;have c:=A a;clear a))
   go_ret3
   exact⟨⟨_,_,_,F,λ_=>⟨rfl,rfl,D,Z⟩⟩,j⟩
 |true=>
  have S:=E F u;cases g;all_goals
   go_enter func330,ntmps330;go_wp2_with(first
    |(go_at_call 173;have L:=j;clear j;refine(I _ TR u).q λP v=>?_;have H:=A (L.tr v);clear v)
    |(go_at_call 173;refine(t _ o).q λJ f=>?_;have j:=A (c.tr f);clear f)
    |(go_at_call 170;refine k.mono ?_;unfold UK;rintro e W1 ⟨rfl,a⟩;have c:=A a;clear a))
   go_ret3
   exact⟨⟨_,_,_,F,λ_=>⟨rfl,rfl,D,D⟩⟩,H⟩
def a6y(a b:ByteArray)(w:V)(q:a.size<=1000000)(r:b.size<=1000000)(oa:IP a)(i:IP b)(h:CA w):AZ AO 329 #[AT a,AT b] w λe w'=>e=Ac (M G 0)/\Ext w w':=by
 have l:=A (jN a w q h);have j:=A h;have m:=A oa;have n:=A i;clear oa i;go_enter func329,ntmps329;go_wp2_with(first
  |(go_at_call 103;have d:=c;clear c;refine(jN b _ r (j.below d (AS _))).mono ?_;rintro e s ⟨⟨k2,rfl,g⟩,p⟩;obtain rfl:=g.2 n;clear g;have o:=A (d.tr p))
  |(go_at_call 103;refine l.mono ?_;rintro e W1 ⟨⟨k,rfl,hk⟩,f⟩;obtain rfl:=hk.2 m;clear hk;have c:=A f;clear f))
 go_ret;exact⟨F,o⟩
def a0m{a b c d:ByteArray}{u v x y:Int}(w:V)(j:Fm a u)(k:Fm b v)(l:Fm c x)(m:Fm d y)(h1:(u*v).natAbs<10^60)(h2:(x*y).natAbs<10^60)(n:CA w):AZ AO 331 #[AT a,AT b,AT c,AT d] w λe w'=>(∃s t:ByteArray,e=Ac (BO #[AT s,AT t,M G 0])/\Fm s (u*v)/\Fm t (x*y))/\Ext w w':=by
 have B:=A (nz w j k h1 n);have q:=A n;have C:=A (λW (h:Ext w W)=>nz W l m h2 (q.below h (AS _)));clear j k l m h1 h2;go_enter func331,ntmps331;go_wp2_with(first
  |(go_at_call 355;have g:=f;clear f;refine(C _ g).mono ?_;rintro e H ⟨⟨J,rfl,p⟩,E⟩;have z:=A p;clear p;have D:=A (g.tr E))
  |(go_at_call 355;refine B.mono ?_;rintro e W1 ⟨⟨I,rfl,o⟩,i⟩;have r:=A o;clear o;have f:=A i;clear i))
 go_ret3
 exact⟨⟨_,_,F,r,z⟩,D⟩
def JI(a b:ByteArray):Int:=Je (LS a*(LU b:Nat)) (LS b*(LU a:Nat))
def nU{x y:Int}(hx:x.natAbs<1000000000)(hy:y.natAbs<1000000000): -1000000000000000000<=x*y/\x*y<=1000000000000000000:=by
 have h:(x*y).natAbs<=1000000000*1000000000:=by rw[mN];exact OZ D D
 omega
def a1L(a b:ByteArray)(w:V)(ha:a.size<=100000)(hb:b.size<=100000)(oa:IP a)(o:IP b)(h1:(LS a*(LU b:Nat)).natAbs<10^60)(h2:(LS b*(LU a:Nat)).natAbs<10^60)(g:CA w):AZ AO 304 #[AT a,AT b] w λe w'=>e=Ac (BO #[M G (JI a b),M G 0])/\Ext w w':=by
 have KC:=A (a6y a b w D D oa o g);have i:=A (λW=>gI a W D oa);have j:=A (λW=>gI b W D o);have z:=A (λW=>jX a W D);have B:=A (λW=>jX b W D);obtain⟨k,l⟩:=Yd oa;obtain⟨m,n⟩:=Yd o;obtain⟨c,d⟩:=AP (JI a b);rw[d];unfold JI at d;unfold wu at i j;obtain⟨na,ad⟩:=AP (pN (Cq a));obtain⟨da,ab⟩:=AP (pD (Cq a));obtain⟨nb,ae⟩:=AP (pN (Cq b));obtain⟨db,ac⟩:=AP (pD (Cq b));rw[ad] at z k;rw[ab] at z l;rw[ae] at B m;rw[ac] at B n;obtain⟨n1,L⟩:=AP (LS a);obtain⟨n2,N⟩:=AP (LS b);obtain⟨d1,P⟩:∃x:Int,((LU a:Nat):Int)=x:=⟨_,F⟩;obtain⟨d2,R⟩:∃x:Int,((LU b:Nat):Int)=x:=⟨_,F⟩;rw[L] at k h1 d i;rw[N] at m h2 d j;rw[P] at l h2 d i;rw[R] at n h1 d j;have PP:=A (λW (h:Ext w W)=>a0m W k n m l h1 h2 (g.below h (AS _)));have I:=A d;clear ad ab ae ac g k l m n L N P R h1 h2 d oa o;go_enter func304,ntmps304;go_wp2_with(go_at_call 329;refine KC.o.mono ?_;rintro e W1 ⟨rfl,U⟩;have X1:=A U;clear U)
 refine(i.o W1).mono ?_;rintro e W2 ⟨⟨x1,r,af,rfl,Z⟩,X⟩;have X2:=A (X1.o.tr X);have ah:=A Z;clear X Z;go_wp2_with(fail)
 refine(j.o W2).mono ?_;rintro e W3 ⟨⟨q,y,ag,rfl,aa⟩,Y⟩;have J:=A (X2.o.tr Y);have ai:=A aa;clear Y aa;by_cases C:af=AL/\ag=AL
 .obtain⟨rfl,rfl⟩:=C;obtain⟨rfl,rfl,b1,b2⟩:=ah.o F;obtain⟨rfl,rfl,b3,b4⟩:=ai.o F;have m1:=nU b1 b4;have m2:=nU b3 b2;have w1:G.wrap (x1*y)=x1*y:=DF _ D;have w2:G.wrap (q*r)=q*r:=DF _ D;have f:=I.o;unfold Je at f;obtain⟨u,hu⟩:=AP (x1*y);obtain⟨v,H⟩:=AP (q*r);rw[hu,H] at f;rw[hu] at w1;rw[H] at w2;by_cases S:u<v
  .rw[Aj S] at f;exact mz
  rw[Af S] at f;by_cases T:v<u
  .rw[Aj T] at f;exact mz
  rw[Af T] at f;exact mz
 have HK:=A C;obtain⟨u,hu⟩:=AP (G.wrap (x1*y));obtain⟨v,H⟩:=AP (G.wrap (q*r));clear C;cases af<;>cases ag
 case true.true=>exact absurd ⟨F,F⟩ HK.o
 all_goals go_wp2_with(first
  |(go_at_call 332;refine(a1I _ E.o g.o).mono ?_;rw[I.o];rintro e W7 ⟨rfl,am⟩;have X7:=A (X6.o.tr am))
  |(go_at_call 331;refine(PP.o _ K.o).mono ?_;rintro e W6 ⟨⟨s,t,rfl,E,g⟩,al⟩;have E:=A E;have g:=A g;have X6:=A (K.o.tr al))
  |(go_at_call 305;with_reducible refine(B.o _).mono ?_;rintro e W5 ⟨rfl,ak⟩;have K:=A (X4.o.tr ak))
  |(go_at_call 305;refine(z.o _).mono ?_;rintro e W4 ⟨rfl,aj⟩;have X4:=A (J.o.tr aj)))
 all_goals go_ret2
 all_goals exact⟨rfl,X7.o⟩
def a7P(w:V)(R d:Option An)(y c:Nat)(l:List Int)(s:BB 1 w w.1.size R y (Cy l))(t:BB 1 w w.1.size d c (Cy l)):
  AZ AO 21 #[AK R (ln l) y,AK d (ln l) c] w λe w'=>e=Ac (AU AL)/\Ext w w':=by
 obtain⟨h1,h2,f⟩:=s;obtain⟨m,n,g⟩:=t;rw[BL] at h1 f m g;unfold BM at h2 n;by_cases k:ln l=0
 .rw[k];refine(slices_Equal_int_empty R d y 0 c w D).mono ?_;rintro e w' ⟨rfl,rfl⟩;exact⟨F,Ext.B9 _⟩
 obtain⟨b,off,rfl,v,o⟩:=f D;obtain⟨i,u,rfl,x,r⟩:=g D;refine(slices_Equal_int b off (ln l) y i u (ln l) c l l w (AS _) (AS _) D D (λj a=> ?_) (λj a=> ?_)).mono ?_
 .have:=o j a 0 Z;rwa[Rh a,H7,Dh] at this
 .have:=r j a 0 Z;rwa[Rh a,H7,Dh] at this
 rintro e w' ⟨rfl,q,rfl⟩;exact⟨by rw[Rz],Xq _ _⟩
end
section
open Kp
attribute [local go_sem] Eb Hj Iy Jm I4 Iz LW J3 Hk Lw Lx Ly M0 M3 M4 M5 M6 M7 M8 Mf Ka NU NV NW NY Kb Kc Mg Mh Mi Mj Ml Mm Mn Mo J8 J9 M9 MA MB Mr Jp Ms Mt Kd Ke JD JE JF MG MH Kf Kg Kh
structure CE(c:Nat)(w w':V):Prop where
 below:At c w w'
 Gi:∀b,b<w.1.size->b≠c->w'.1[b]?=w.1[b]?
theorem CE.ext(h:Ext w W)(d:c<w.1.size):CE c w W:=⟨h.mono (FM d),λb a _=>h.block b a⟩
theorem CE.put(h:CE c w W)(i:Nat)(v:AN):CE c w (W.setCell ⟨c,i,O⟩ v):=
 ⟨h.below.setCell (AS _) v,λb d a=>(Gp _ _ _ _ a).trans (h.Gi b d a)⟩
theorem CE.row(h:CE c w W)(cs:Array AN):CE c w (W.setRow c cs):=
 ⟨CL h.below (AS _) cs,λb d a=>(Hc _ _ a).trans (h.Gi b d a)⟩
theorem CE.alloc(h:CE c w W)(d:c<=W.1.size)(o:Obj):CE c w (W.alloc o):=
 ⟨h.below.alloc d o,λb a e=>(Ue _ _ _ (Dj a h.below.size)).trans (h.Gi b a e)⟩
def Jl(X:Nat->Prop)(c n:Nat)(w W:V):Prop:=w.1.size<=W.1.size/\∀b,b<w.1.size->(b<c/\¬X b)\/n<=b->W.1[b]?=w.1[b]?
def Jl.self(X:Nat->Prop)(c n:Nat)(w:V):Jl X c n w w:=⟨AS _,λ_ _ _=>rfl⟩
def Cu(X:Nat->Prop)(B:Nat)(w W:V):Prop:=w.1.size<=W.1.size/\∀b,b<B->¬X b->W.1[b]?=w.1[b]?
structure Bc(X:Nat->Prop)(w:V)(B:Nat)(j:BG)(a:BU):Prop extends EP w B j a where
 av:∀W,Cu X B w W->EP W W.1.size j a
theorem Cu.below{X:Nat->Prop}{B:Nat}(h:Cu X B w' W)(a:At B w w'):Cu X B w W:=⟨BJ a.size h.1,λb h1 h2=>(h.2 b h1 h2).trans (a.block b h1)⟩
theorem Cu.less{X:Nat->Prop}{B B':Nat}(h:Cu X B' w W)(a:B<=B'):Cu X B w W:=⟨h.1,λb h1 h2=>h.2 b (Dj h1 a) h2⟩
theorem Bc.below{X:Nat->Prop}{B:Nat}{j:BG}{a:BU}(h:Bc X w B j a)(b:At B w w'):Bc X w' B j a:=⟨h.toEP.below b,λW c=>h.av W (c.below b)⟩
theorem Bc.more{X:Nat->Prop}{B B':Nat}{j:BG}{a:BU}(h:Bc X w B j a)(b:B<=B'):Bc X w B' j a:=⟨h.toEP.more b,λW c=>h.av W (c.less b)⟩
theorem Bc.grow{X:Nat->Prop}{j:BG}{a:BU}(h:Bc X w w.1.size j a)(hx:Ext w w'):Bc X w' w'.1.size j a:=(h.below hx).more hx.size
theorem Bc.mono{X Y:Nat->Prop}{B:Nat}{j:BG}{a:BU}(h:Bc X w B j a)(hy:∀b,b<B->Y b->X b):Bc Y w B j a:=⟨h.toEP,λW c=>h.av W ⟨c.1,λb h1 h2=>c.2 b h1 (λq=>h2 (hy b h1 q))⟩⟩
theorem EP.off{B:Nat}{j:BG}{a:BU}(h:EP w B j a)(d:w.1.size<=W.1.size)(c:∀b,b<B->W.1[b]?=w.1[b]?):EP W B j a:=by
 have q:EP {w with heap:=W.1} B j a:=h.below ⟨F,F,F,d,c⟩;exact⟨q.p,q.u,q.o,q.z,q.b,q.l,q.s⟩
theorem EP.v{B:Nat}{j:BG}{a:BU}(h:EP w B j a)(e:B<=w.1.size){X:Nat->Prop}(f:∀b,b<B->¬X b):Bc X w B j a:=
 ⟨h,λ_ c=>(h.off c.1 λb d=>c.2 b d (f b d)).more (BJ e c.1)⟩
theorem Bc.to{X:Nat->Prop}{j:BG}{a:BU}(d:Bc X w c j a)(g:c<w.1.size)(h1:At c w w')(e:Jl X c n w' W):EP W W.1.size j a:=by
 have h2:=h1.size;have f:=e.1;exact d.av W ⟨D,λb d hx=>(e.2 b D (.inl ⟨d,hx⟩)).trans (h1.block b d)⟩
def Dl(X:Nat->Prop)(c:Nat)(w w':V)(j':BG)(a':BU):Prop:=CE c w w'/\JC w' c j' a'/\∀W,Jl X c w.1.size w' W->EP W W.1.size j' a'
theorem Dl.at_{X:Nat->Prop}{j':BG}{a':BU}(h:Dl X c w w' j' a'):EP w' w'.1.size j' a':=h.2.2 w' (Jl.self _ _ _ _)
theorem JC.put{j j':BG}{a a':BU}(h:JC w c j a)(x:AN)(e:(P j a).setIfInBounds i x=P j' a'):JC (w.setCell ⟨c,i,O⟩ x) c j' a':=by
 unfold JC at *;rw[<-e];simp[Di,IT,h]
def b0O(w:V)(c:Nat)(j:BG)(a:BU)(e:Ed)(g:AN)(b:JC w c j a){X:Nat->Prop}(l:Bc X w c j a):
  AZ AO 130 #[Ap (Q ⟨c,0,O⟩),AW (Ah e g)] w λx w'=>x=Ac (M G 0)/\Dl X c w w' {j with name:=e.Ct} a:=by
 have f:=b.lt;have d:=b.ext ((Ad _ _).alloc (AS _) (.cells (Ah e g) 54));have o:=d.cell 0;have n:=d.frozen 0;have i:=A (show Dl X c w _ _ a from by
  have h1:CE c w ((w.setCell _ (AT (tx e.Ct))).alloc (.cells (Ah e g) 54)):=((CE.ext (Ad _ w) f).put 0 _).alloc Bk _;have m:JC (w.setCell ⟨c,0,O⟩ _) c {j with name:=e.Ct} a:=b.put _ F;refine⟨h1,m.ext ((Ad _ _).alloc (AS _) _),λW k=> ?_⟩;have h2:=l.to f h1.below k;exact⟨h2.p,h2.u,h2.o,h2.z,h2.b,h2.l,h2.s⟩)
 go_wp2;go_ret;exact⟨F,i.o⟩
def b2B(w:V)(c:Nat)(j:BG)(a:BU)(e:Ed)(g:AN)(b:JC w c j a){X:Nat->Prop}(l:Bc X w c j a):
  AZ AO 139 #[Ap (Q ⟨c,0,O⟩),AW (Ah e g)] w λx w'=>x=Ac (M G 0)/\Dl X c w w' {j with Nj:=e.Av} a:=by
 have f:=b.lt;have d:=b.ext ((Ad _ _).alloc (AS _) (.cells (Ah e g) 54));have o:=d.cell 8;have n:=d.frozen 8;have i:=A (show Dl X c w _ _ a from by
  have h1:CE c w ((w.setCell _ (M G e.Av)).alloc (.cells (Ah e g) 54)):=((CE.ext (Ad _ w) f).put 8 _).alloc Bk _;have m:JC (w.setCell ⟨c,8,O⟩ _) c {j with Nj:=e.Av} a:=b.put _ F;refine⟨h1,m.ext ((Ad _ _).alloc (AS _) _),λW k=> ?_⟩;have h2:=l.to f h1.below k;exact⟨h2.p,h2.u,h2.o,h2.z,h2.b,h2.l,h2.s⟩)
 go_wp2;go_ret;exact⟨F,i.o⟩
def b1e(w:V)(c:Nat)(j:BG)(a:BU)(e:Ed)(g:AN)(d:JC w c j a){X:Nat->Prop}(m:Bc X w c j a):
  AZ AO 140 #[Ap (Q ⟨c,0,O⟩),AW (Ah e g)] w λx w'=>x=Ac (M G 0)/\Dl X c w w' {j with Fv:=⟨e.GW,e.GU,e.Gb,e.GY⟩} a:=by
 have f:=d.lt;have l:=d.ext ((Ad _ _).alloc (AS _) (.cells (Ah e g) 54));have b:=A (show(w.alloc _).1[c]?=Q _ from l);have i:=A (show Dl X c w _ {j with Fv:=⟨e.GW,e.GU,e.Gb,e.GY⟩} a from by
  have h1:CE c w ((w.alloc (.cells (Ah e g) 54)).setRow c (putAt (P j a) 9 #[M G e.GW,M G e.GU,M G e.Gb,M G e.GY])):=((CE.ext (Ad _ w) f).alloc D _).row _;refine⟨h1,setRow_heap b.o _,λW k=> ?_⟩;have h2:=m.to f h1.below k;exact⟨h2.p,h2.u,h2.o,h2.z,h2.b,h2.l,h2.s⟩)
 go_enter func140,ntmps140;go_wp2_with(first
  |(refine OD rfl 30 _ _ rfl c 9 _ rfl rfl 34 _ b.o U (PO U) U ?_))
 go_ret;exact⟨F,i.o⟩
end
section
open Kp
theorem YR(f:S->β)(l:List S)(i:Int)(x:S):CC (l.map f) i (f x)=(CC l i x).map f:=by
 grind [CC,List.map_set]
theorem Qh(f:S->β)(l:List S)(m:Nat):(l.map f).eraseIdx m=(l.eraseIdx m).map f:=by
 induction l generalizing m with
 |nil=>rfl
 |cons a l b=>cases m<;>grind
def Zm(l:List Er):GL (Fa l):=λr a u hu=>by
 exact zQ
def XM(l:List Int):GL (Cy l):=λr a u hu=>by
 obtain⟨s,_,rfl⟩:=Jg.1 a;simp at hu;subst hu;rfl
def iQ(l:List Sz):GL (Fq l):=λr a u hu=>by
 exact zR
def Zp(l:List Ld):GL (I6 l):=λr a u hu=>by
 exact zR
def Zi(l:List Aw):GL (Em l):=λr a u hu=>by
 exact zQ
def iC(l:List Sd):GL (Cg l):=λr a u hu=>by
 obtain⟨s,_,rfl⟩:=Jg.1 a;simp at hu;rcases hu with rfl|rfl|rfl|rfl|rfl|rfl|rfl<;>rfl
theorem EC.ext(h:EC w b C)(hx:Ext w w'):EC w' b C:=(hx.block b (Ee.1 h).1).trans h
def Gx(w:V)(B:Nat)(rows:List (List AN))(l:List Br):Prop:=
 ln rows=ln l/\∀i,i<ln l->∃a b,rows.getD i []=JP (l.getD i Fy) a b/\BB 2 w B a b (J6 (l.getD i Fy).Aa)
theorem Gx.below{B:Nat}{rows:List (List AN)}{l:List Br}(h:Gx w B rows l)(c:At B w w'):Gx w' B rows l:=by
 refine⟨h.1,λi hi=> ?_⟩;have⟨a,b,e,s⟩:=h.2 i hi;exact⟨a,b,e,s.below c⟩
theorem Gx.more{B B':Nat}{rows:List (List AN)}{l:List Br}(h:Gx w B rows l)(c:B<=B'):Gx w B' rows l:=by
 refine⟨h.1,λi hi=> ?_⟩;have⟨a,b,e,s⟩:=h.2 i hi;exact⟨a,b,e,s.more c⟩
theorem Gx.wide{B:Nat}{rows:List (List AN)}{l:List Br}(h:Gx w B rows l):DG 6 rows:=by
 intro r a;exact zS
theorem Gx.one{B:Nat}{rows:List (List AN)}{l:List Br}(h:Gx w B rows l):GL rows:=by
 intro r a;obtain⟨i,hi,rfl⟩:=JJ.1 a;have⟨b,c,e,_⟩:=h.2 i (by rw[<-h.1];exact hi);rw[CM,Bv hi] at e;simp[Um] at e;rw[e];intro u hu;simp at hu;rcases hu with rfl|rfl|rfl|rfl|rfl|rfl<;>rfl
theorem a92{B:Nat}{l:List Br}(h:Jr w B R y l):∃rows,Gx w B rows l/\BB 6 w B R y rows:=by
 obtain⟨h1,h2,q⟩:=h;by_cases hn:0<ln l
 .have⟨b,off,e,hb,hc⟩:=q hn;have hx:∀i,∃r:List AN,i<ln l->∃a c,r=JP (l.getD i Fy) a c/\(∀j,j<6->w.cell? ⟨b,off+6*i+j,O⟩=r[j]?)/\BB 2 w B a c (J6 (l.getD i Fy).Aa):=by
   intro i;by_cases hi:i<ln l
   .have⟨a,c,d,g⟩:=hc i hi;exact⟨_,λ_=>⟨a,c,rfl,d,g⟩⟩
   exact⟨[],λh=>absurd h hi⟩
  have⟨f,n⟩:=eB hx;have k:((G8 (ln l)).map f).length=ln l:=AV;have m:∀i,i<ln l->((G8 (ln l)).map f).getD i []=f i:=by
   intro i hi;simp[CM,hi]
  refine⟨(G8 (ln l)).map f,⟨k,λi hi=> ?_⟩,?_,h2,λ_=>⟨b,off,e,hb,λi hi j s=> ?_⟩⟩
  .have⟨a,c,d,g,o⟩:=n i hi;exact⟨a,c,(m i hi).trans d,o⟩
  .rw[k];exact h1
  rw[k] at hi;have⟨a,c,d,g,o⟩:=n i hi;rw[m i hi];exact g j s
 have:l=[]:=List.eq_nil_of_length_eq_zero D;subst this;exact⟨[],⟨F,λi hi=>absurd hi AV⟩,h1,h2,λh=>absurd h AV⟩
theorem a8R(h:W.1[b]?=w.1[b]?):W.cell? ⟨b,o,O⟩=w.cell? ⟨b,o,O⟩:=by simp only[Dx,h]
theorem au{X:Nat->Prop}{j:BG}{a:BU}(m:Bc X w c j a)(U:c<=w.1.size):∃rows,Gx w c rows j.CV/\BB 6 w c a.ba a.bc rows/\∀W,Cu X c w W->Gx W W.1.size rows j.CV:=by
 have⟨rows,f,v⟩:=a92 m.b;refine⟨rows,f,v,λW u=>⟨f.1,λi hi=> ?_⟩⟩;have⟨b,off,e,H,E⟩:=v.2.2 (by rw[f.1];omega);have B:¬X b:=by
  intro hx;have C:b<w.1.size:=D;obtain⟨W',l⟩:∃W':V,W'.1=w.1.setIfInBounds b (.cells #[] 0 (0,0)):=⟨{w with heap:=w.1.setIfInBounds b (.cells #[] 0 (0,0))},F⟩;have A:=(m.av W' ⟨by rw[l];simp,λq _ K=>by
   have I:b≠q:=λh=>K (h▸hx)
   rw[l];simp[I]⟩).b
  have J:∀o,W'.cell? ⟨b,o,O⟩=O:=λo=>by unfold Dx;rw[l];simp[C]
  have⟨z,N,d,_,n⟩:=A.2.2 D;rw[e] at d;injection d with d
  injection d with g r
  subst g;have⟨s,t,q,_⟩:=n 0 D;have x:=q 0 Z;rw[J] at x;cases x
 have⟨s,t,y,Y⟩:=f.2 i hi;refine⟨s,t,y,?_⟩;have⟨z,N,d,_,n⟩:=(m.av W u).b.2.2 D;rw[e] at d;injection d with d
 injection d with g r
 subst g r;have⟨S,T,P,R⟩:=n i hi;have k:=P 5 Z;rw[a8R (u.2 b H B),E i (by rw[f.1];exact hi) 5 Z,y] at k;simp only[List.getElem?_cons_succ,List.getElem?_cons_zero,We,Value.slice.injEq] at k;obtain⟨k1,_,L⟩:=k;subst k1 L;exact R
theorem b39{B:Nat}{rows:List (List AN)}{l:List Br}(h:Gx w B rows l)(d:BB 6 w B R y rows):Jr w B R y l:=by
 obtain⟨h1,h2,a⟩:=d;rw[h.1] at h1;refine⟨h1,h2,λhn=> ?_⟩;have⟨b,off,e,c,j⟩:=a (by rw[h.1];exact hn);refine⟨b,off,e,c,λi hi=> ?_⟩;have⟨f,g,k,m⟩:=h.2 i hi
 grind
theorem Gx.snoc{B:Nat}{rows:List (List AN)}{l:List Br}(h:Gx w B rows l)(x:Br)(a:Option An)(b:Nat)(hx:BB 2 w B a b (J6 x.Aa)):Gx w B (rows++[JP x a b]) (l++[x]):=by
 refine⟨by simp[h.1],λi hi=> ?_⟩;have c:=h.1;by_cases q:i<ln l
 .have⟨g1,g2,e,s⟩:=h.2 i q
  grind
 grind
theorem Gx.set{B:Nat}{rows:List (List AN)}{l:List Br}(h:Gx w B rows l)(m:Nat)(x:Br)(a:Option An)(b:Nat)(hx:BB 2 w B a b (J6 x.Aa)):Gx w B (rows.set m (JP x a b)) (l.set m x):=by
 refine⟨by simp[h.1],λi hi=> ?_⟩;have f:=h.1;rw[Nl] at hi;by_cases q:m=i
 .grind [List.getElem?_set_self]
 have⟨c,d,e,s⟩:=h.2 i hi
 grind
theorem Gx.put{B:Nat}{rows:List (List AN)}{l:List Br}(h:Gx w B rows l)(i:Int)(x:Br)(a:Option An)(b:Nat)(hx:BB 2 w B a b (J6 x.Aa)):Gx w B (CC rows i (JP x a b)) (CC l i x):=by
 unfold CC;rw[h.1];split
 .exact h.snoc x a b hx
 exact h.set _ x a b hx
theorem Gx.erase{B:Nat}{rows:List (List AN)}{l:List Br}(h:Gx w B rows l)(m:Nat):Gx w B (rows.eraseIdx m) (l.eraseIdx m):=by
 have d:=h.1;refine⟨Al,λi hi=> ?_⟩;have a:(if i<m then i else i+1)<ln l:=by
  grind
 have⟨b,c,e,s⟩:=h.2 _ a
 grind
theorem Vc{v:AN}(a:W1.ownsRow w.1.size t k v n Y)(b:c<w.1.size)(x:AN):(W1.setCell ⟨c,i,O⟩ x).ownsRow w.1.size t k v n Y:=
 Jo a (λe=>by have:=(DS a c e).1;omega) x
theorem Sr{X:Nat->Prop}{v:AN}(h:w'.ownsRow m t k v n Y)(f:Jl X c m w' W):W.ownsRow m t k v n Y:=by
 obtain⟨a,b|⟨g,y,cur,rfl,d,e,h1⟩⟩:=h
 .exact TZ
 exact⟨a,.inr ⟨g,y,cur,F,d,(f.2 g (Ee.1 e).1 (.inr d)).trans e,h1⟩⟩
theorem Ve{rows:List (List AN)}(h:w.ownsRow base e k (AK R n y) n rows.flatten)(hn:ln rows=n)(hw:DG k rows):BB k w w.1.size R y rows:=by
 have⟨a,b,d,c⟩:=F1 h hn hw
 grind
theorem Vj{j:BG}{a:BU}{X:Nat->Prop}(e:Bc X w c j a)(hx:Ext w W1)(b:c<w.1.size)(v:AN):CE c w (W1.setCell ⟨c,i,O⟩ v)/\∀W,Jl X c w.1.size (W1.setCell ⟨c,i,O⟩ v) W->EP W W.1.size j a:=by
 have h1:=(CE.ext hx b).put i v;exact⟨h1,λW d=>e.to b h1.below d⟩
theorem Zz{j:BG}{a:BU}{v:AN}{l:List Er}(e:JC w c j a){X:Nat->Prop}(h:Bc X w c j a)(hx:Ext w W1)(k:W1.ownsRow w.1.size 43 5 v (Fa l).length (Fa l).flatten):
  ∃a',Dl X c w (W1.setCell ⟨c,5,O⟩ v) {j with Bi:=l} a':=by
 have⟨h1,h2⟩:=Vj (i:=5) h hx e.lt v;have f:=Vc (i:=5) k e.lt v;obtain⟨R,y,rfl,_⟩:=F1 f F (T0 l);have m:=λW (d:Jl X c _ _ W)=>Ve (Sr f d) rfl (T0 l)
 rw[BL] at *;exact⟨{a with oa:=R,oc:=y},h1,(e.ext hx).put _ F,λW d=>(by
  have b:=h2 W d;have g:=m W d;exact⟨b.p,b.u,g,b.z,b.b,b.l,b.s⟩)⟩
theorem aH{j:BG}{a:BU}{v:AN}{l:List Int}(e:JC w c j a){X:Nat->Prop}(k:Bc X w c j a)(hx:Ext w W1)(m:W1.ownsRow w.1.size 3 1 v (Cy l).length (Cy l).flatten):
  ∃a',Dl X c w (W1.setCell ⟨c,4,O⟩ v) {j with BR:=l} a':=by
 have⟨h1,h2⟩:=Vj (i:=4) k hx e.lt v;have g:=Vc (i:=4) m e.lt v;obtain⟨R,y,rfl,_⟩:=F1 g F (G9 (f:=λn=>[M G n]) (λ_=>rfl) l);have o:=λW (d:Jl X c _ _ W)=>Ve (Sr g d) rfl (G9 (f:=λn=>[M G n]) (λ_=>rfl) l)
 rw[BL] at *;exact⟨{a with ua:=R,uc:=y},h1,(e.ext hx).put _ F,λW d=>(by
  have b:=h2 W d;have h:=o W d;exact⟨b.p,h,b.o,b.z,b.b,b.l,b.s⟩)⟩
theorem aE{j:BG}{a:BU}{v:AN}{l:List Sz}(e:JC w c j a){X:Nat->Prop}(k:Bc X w c j a)(hx:Ext w W1)(m:W1.ownsRow w.1.size 45 3 v (Fq l).length (Fq l).flatten):
  ∃a',Dl X c w (W1.setCell ⟨c,6,O⟩ v) {j with BT:=l} a':=by
 have⟨h1,h2⟩:=Vj (i:=6) k hx e.lt v;have g:=Vc (i:=6) m e.lt v;obtain⟨R,y,rfl,_⟩:=F1 g F (G9 (f:=JT) (λ_=>rfl) l);have n:=λW (d:Jl X c _ _ W)=>Ve (Sr g d) rfl (G9 (f:=JT) (λ_=>rfl) l)
 rw[BL] at *;exact⟨{a with za:=R,zc:=y},h1,(e.ext hx).put _ F,λW d=>(by
  have b:=h2 W d;have h:=n W d;exact⟨b.p,b.u,b.o,h,b.b,b.l,b.s⟩)⟩
theorem aD{j:BG}{a:BU}{v:AN}{l:List Ld}(e:JC w c j a){X:Nat->Prop}(h:Bc X w c j a)(hx:Ext w W1)(k:W1.ownsRow w.1.size 50 3 v (I6 l).length (I6 l).flatten):
  ∃a',Dl X c w (W1.setCell ⟨c,13,O⟩ v) {j with Bt:=l} a':=by
 have⟨h1,h2⟩:=Vj (i:=13) h hx e.lt v;have f:=Vc (i:=13) k e.lt v;obtain⟨R,y,rfl,_⟩:=F1 f F (UJ l);have m:=λW (d:Jl X c w.1.size _ W)=>Ve (Sr f d) rfl (UJ l)
 rw[BL] at *;exact⟨{a with la:=R,lc:=y},h1,(e.ext hx).put _ F,λW d=>(by
  have b:=h2 W d;have g:=m W d;exact⟨b.p,b.u,b.o,b.z,b.b,g,b.s⟩)⟩
theorem XQ{j:BG}{a:BU}{v:AN}{l:List Aw}(e:JC w c j a){X:Nat->Prop}(k:Bc X w c j a)(hx:Ext w W1)(m:W1.ownsRow w.1.size 52 5 v (Em l).length (Em l).flatten):
  ∃a',Dl X c w (W1.setCell ⟨c,14,O⟩ v) {j with BW:=l} a':=by
 have⟨h1,h2⟩:=Vj (i:=14) k hx e.lt v;have g:=Vc (i:=14) m e.lt v;obtain⟨R,y,rfl,_⟩:=F1 g F (G9 (f:=D4) (λ_=>rfl) l);have n:=λW (d:Jl X c _ _ W)=>Ve (Sr g d) rfl (G9 (f:=D4) (λ_=>rfl) l)
 rw[BL] at *;exact⟨{a with sa:=R,sc:=y},h1,(e.ext hx).put _ F,λW d=>(by
  have b:=h2 W d;have h:=n W d;exact⟨b.p,b.u,b.o,b.z,b.b,b.l,h⟩)⟩
theorem Zu{j:BG}{a:BU}{v:AN}{l:List Br}{rows:List (List AN)}(g:JC w c j a){X:Nat->Prop}(f:Bc X w c j a)(hx:Ext w W1)(h:Gx w c rows l)(p:∀W,Cu X c w W->Gx W W.1.size rows l)(n:W1.ownsRow w.1.size 48 6 v (ln rows) rows.flatten):
  ∃a',Dl X c w (W1.setCell ⟨c,7,O⟩ v) {j with CV:=l} a':=by
 obtain⟨h1,h2⟩:=Vj f hx g.lt v;have k:=Vc (i:=7) n g.lt v;obtain⟨R,y,rfl,_⟩:=F1 k F h.wide;have q:=λW (d:Jl X c _ _ W)=>Ve (Sr k d) rfl h.wide
 have o:=λW (d:Jl X c w.1.size _ W)=>p W ⟨by have:=h1.below.size;have:=d.1;omega,λb f hx=>(d.2 b (by have:=h1.below.size;have:=g.lt;omega) (.inl ⟨f,hx⟩)).trans (h1.below.block b f)⟩
 have m:=h.1;refine⟨{a with ba:=R,bc:=y},h1,(g.ext hx).put _ (by rw[m];rfl),λW d=> ?_⟩;have e:=h2 W d;exact⟨e.p,e.u,e.o,e.z,b39 (o W d) (q W d),e.l,e.s⟩
theorem a7E{B:Nat}{l:List (Int×Int)}(h:BB 2 w B R y (J6 l))(f:0<ln l):
  ∃b off,R=Q ⟨b,off,O⟩/\b<B/\∀i,i<ln l->w.cell? ⟨b,off+i*2,O⟩=Q (M G (l.getD i (0,0)).1)/\w.cell? ⟨b,off+i*2+1,O⟩=Q (M G (l.getD i (0,0)).2):=by
 obtain⟨h1,h2,a⟩:=h;have⟨b,off,e,c,d⟩:=a (by rw[BL];exact f);refine⟨b,off,e,c,λi hi=> ?_⟩;have q:∀m,m<2->w.cell? ⟨b,off+i*2+m,O⟩=(dq (l.getD i (0,0)))[m]?:=by
  intro m hm;have:=d i ZM m hm;rw[jw hi,DL] at this;exact this
 exact⟨q 0 Z,q 1 Z⟩
theorem Vs{B:Nat}{l:List Br}(h:Jr w B R y l)(g:0<ln l):
  ∃b off,∃f:Nat->Option An×Nat,R=Q ⟨b,off,O⟩/\b<B/\∀i,i<ln l->(∀m,m<6->w.cell? ⟨b,off+i*6+m,O⟩=(JP (l.getD i Fy) (f i).1 (f i).2)[m]?)/\BB 2 w B (f i).1 (f i).2 (J6 (l.getD i Fy).Aa):=by
 have⟨b,off,e,a,c⟩:=h.2.2 g;have hx:∀i,∃p:Option An×Nat,i<ln l->(∀m,m<6->w.cell? ⟨b,off+i*6+m,O⟩=(JP (l.getD i Fy) p.1 p.2)[m]?)/\BB 2 w B p.1 p.2 (J6 (l.getD i Fy).Aa):=by
  intro i;by_cases hi:i<ln l
  .have⟨ga,gc,h1,h2⟩:=c i hi;exact⟨(ga,gc),λ_=>⟨λm hm=>by have:=h1 m hm;rw[DL] at this;exact this,h2⟩⟩
  exact⟨(O,0),λh=>absurd h hi⟩
 have⟨f,d⟩:=eB hx;exact⟨b,off,f,e,a,d⟩
structure aC(l:List Br):Prop where
 n:ln l<=66
def a2r (w : V) (R : Option An) (y : Nat) (l : List Br) (a : Jr w w.1.size R y l) :
    AZ AO 53 #[AK R (ln l) y] w λx w' => Lg (aC l) x /\ Ext w w' := by
  have h1 := a.1;have h2 := a.2.1;unfold BM at h2;have s := A (λ(W : V) (hx : Ext w W) => ((a.below hx).more hx.size : Jr W W.1.size R y l));clear a;obtain ⟨j, C⟩ : ∃ p, AQ ((ln l : Int) > 6) = p := ⟨_, F⟩;obtain ⟨m, E⟩ : ∃ p, AQ ((ln l : Int) <= 64) = p := ⟨_, F⟩;obtain ⟨v, z⟩ : ∃ p, AQ ((ln l : Int) > 66) = p := ⟨_, F⟩;have q := A z;cases v with
  | true =>
    have r := A (show ∀ (b : Bool), b = AL -> Lg (aC l) (Ac (AU b)) fromλ_ h => ⟨_, rfl, λh2 => by rw [h] at h2; cases h2⟩);cases j <;> cases m
    all_goals
      go_enter func53, ntmps53;go_wp2;go_ret;exact ⟨r _ F, Ad _ _⟩
  | false =>
    have c := A (show ∀ (b : Bool), Lg (aC l) (Ac (AU b)) fromλ_ => ⟨_, rfl, λ_ => ⟨by have := Ij q; omega⟩⟩);cases j <;> cases m
    all_goals
      go_enter func53, ntmps53
      first
        | (go_wp2
           go_ret;exact ⟨c _, Ad _ _⟩)
        | (go_wp2
           go_loopw [3] (λi wr => ∃ k : Nat, i =M G (k : Int) /\ k <= ln l /\ Ext w wr) (λi _ => ((ln l : Int) - B8 i).toNat)
           case atStart => exact ⟨0, F, D, Ad _ _⟩
           case round =>
             obtain ⟨k, rfl, hk, e⟩ := hrel;have d := A e;by_cases u : k < ln l
             . obtain ⟨b, off, f, rfl, t, g⟩ := Vs (s _ e) D
               have o := (g k u).1 5 Z;have B : _ = Q (FO (f k).1 (l.getD k Fy).Aa.length (f k).2) := o;obtain ⟨n, hn⟩ : ∃ n, (l.getD k Fy).Aa.length = n := ⟨_, F⟩;rw [hn] at B;clear o e g hn t;go_wp2
               . go_ret
                 exact ⟨c _, d⟩
               exact ⟨⟨k + 1, by go_num, D, d⟩, MX⟩
             obtain rfl : k = ln l := by omega
             go_wp2;go_ret;exact ⟨c _, d⟩)
structure aA(n:Nat):Prop where
 n:n<=4098
def a2D(w:V)(R:Option An)(y n:Nat):
  AZ AO 54 #[AK R n y] w λx w'=>Lg (aA n) x/\w'=w:=by
 have⟨a,j⟩:=AP (AQ ((n:Int)>12));have⟨c,k⟩:=AP (AQ ((n:Int)<=4096));have⟨g,i⟩:=AP (AQ ((n:Int)>4098));have d:=A i;cases g with
 |true=>
  have e:=A (show∀(b:Bool),b=AL->Lg (aA n) (Ac (AU b)) fromλ_ h=>⟨_,rfl,λh2=>by rw[h] at h2;cases h2⟩);cases a<;>cases c
  all_goals
   go_enter func54,ntmps54;go_wp2;go_ret;exact⟨e _ F,F⟩
 |false=>
  have f:=A (show∀(b:Bool),Lg (aA n) (Ac (AU b)) fromλ_=>⟨_,rfl,λ_=>⟨by have:=Ij d;omega⟩⟩);cases a<;>cases c
  all_goals
   go_enter func54,ntmps54;go_wp2;go_ret;exact⟨f _,F⟩
structure aJ(l:List Ld):Prop where
 n:ln l<=66
 w:∀i,i<ln l->(l.getD i Fl).La.length<=50
theorem qd{B:Nat}{l:List Ld}(h:BB 3 w B R y (I6 l))(g:0<ln l):
  ∃b off,R=Q ⟨b,off,O⟩/\b<B/\∀i,i<ln l->w.cell? ⟨b,off+i*3,O⟩=Q (M G (l.getD i Fl).Ab)/\w.cell? ⟨b,off+i*3+1,O⟩=Q (M G (l.getD i Fl).Ei)/\w.cell? ⟨b,off+i*3+2,O⟩=Q (AT (tx (l.getD i Fl).La)):=by
 obtain⟨h1,h2,d⟩:=h;have⟨b,off,e,f,a⟩:=d (by rw[BL];exact g);refine⟨b,off,e,f,λi hi=> ?_⟩;have c:(I6 l).getD i []=Oh (l.getD i Fl):=by simp[Gs,Bv hi]
 have q:∀m,m<3->w.cell? ⟨b,off+i*3+m,O⟩=(Oh (l.getD i Fl))[m]?:=by
  exact mZ
 exact⟨q 0 Z,q 1 Z,q 2 Z⟩
def a1D (w : V) (R : Option An) (y : Nat) (l : List Ld) (d : BB 3 w w.1.size R y (I6 l)) :
    AZ AO 25 #[AK R (ln l) y] w λx w' => Lg (aJ l) x /\ Ext w w' := by
  have h1 := d.1;have h2 := d.2.1;rw [BL] at h1;unfold BM at h2;have B := A (λ(W : V) (hx : Ext w W) => ((d.below hx).more hx.size : BB 3 W W.1.size R y (I6 l)));clear d;have g := A (show Lg (aJ l) (Ac (AU AL)) from ⟨_, F, λh => Aq⟩);obtain ⟨t, O⟩ : ∃ p, AQ ((ln l : Int) > 8) = p := ⟨_, F⟩;obtain ⟨u, P⟩ : ∃ p, AQ ((ln l : Int) <= 64) = p := ⟨_, F⟩;obtain ⟨H, I⟩ : ∃ p, AQ ((ln l : Int) > 66) = p := ⟨_, F⟩;have v := A I;cases H with
  | true =>
    cases t <;> cases u
    all_goals
      go_enter func25, ntmps25;go_wp2;go_ret;exact ⟨g, Ad _ _⟩
  | false =>
    have z := A (show (∀ i, i < ln l -> (l.getD i Fl).La.length <= 50) -> Lg (aJ l) (Ac (AU AM)) fromλh => ⟨_, rfl, λ_ => ⟨by have := Ij v; omega, h⟩⟩);cases t <;> cases u
    all_goals
      go_enter func25, ntmps25
      first
        | (go_wp2
           go_ret;exact ⟨g, Ad _ _⟩)
        | (go_wp2
           go_loopw [3] (λi wr => ∃ k : Nat, i =M G (k : Int) /\ k <= ln l /\ Ext w wr /\ ∀ m, m < k -> (l.getD m Fl).La.length <= 50) (λi _ => ((ln l : Int) - B8 i).toNat)
           case atStart => exact ⟨0, F, D, Ad _ _, λm hm => D⟩
           case round =>
             obtain ⟨k, rfl, hk, a, c⟩ := hrel;have j := A a;have q := A c;by_cases E : k < ln l
             . obtain ⟨b, off, rfl, r, o⟩ := qd (B _ a) D
               have J := (o k E).2.2;obtain ⟨s, f⟩ : ∃ n, (l.getD k Fl).La = n := ⟨_, F⟩;rw [f] at J;have N := DJ s;by_cases K : 50 < ln s
               . clear a o f r c
                 go_wp2;go_ret;exact ⟨g, j⟩
               have C := A (show ∀ m, m < k + 1 -> (l.getD m Fl).La.length <= 50 fromλm hm => by
                 by_cases e : m = k
                 . rw [e, f]; omega
                 exact q m D)
               have L : ¬ 50 < (ln s : Int) := D;clear a o f r c;go_wp2;exact ⟨⟨k + 1, by go_num, D, j, C⟩, MX⟩
             obtain rfl : k = ln l := by omega
             clear c;go_wp2;go_ret;exact ⟨z q, j⟩)
structure UI(o:Er):Prop where
 a:Hm (ln o.left)=AM
 b:Hm (ln o.right)=AM
 c:Hm (ln o.low)=AM
 d:Hm (ln o.Eo)=AM
structure Uw(l:List Er):Prop where
 n:ln l<=34
 w:∀i,i<ln l->i<7->UI (l.getD i Bu)
 b5H:ln l<=6\/32<ln l
theorem cL{B:Nat}{l:List Er}(h:BB 5 w B R y (Fa l))(g:0<ln l):
  ∃b off,R=Q ⟨b,off,O⟩/\b<B/\∀i,i<ln l->w.cell? ⟨b,off+i*5,O⟩=Q (M G (l.getD i Bu).Ei)/\w.cell? ⟨b,off+i*5+1,O⟩=Q (AT (tx (l.getD i Bu).left))/\w.cell? ⟨b,off+i*5+2,O⟩=Q (AT (tx (l.getD i Bu).right))/\w.cell? ⟨b,off+i*5+3,O⟩=Q (AT (tx (l.getD i Bu).low))/\w.cell? ⟨b,off+i*5+4,O⟩=Q (AT (tx (l.getD i Bu).Eo)):=by
 obtain⟨h1,h2,d⟩:=h;have⟨b,off,e,f,a⟩:=d (by rw[BL];exact g);refine⟨b,off,e,f,λi hi=> ?_⟩;have c:(Fa l).getD i []=Hs (l.getD i Bu):=by simp[Gs,Bv hi]
 have q:∀m,m<5->w.cell? ⟨b,off+i*5+m,O⟩=(Hs (l.getD i Bu))[m]?:=by
  exact mZ
 exact⟨q 0 Z,q 1 Z,q 2 Z,q 3 Z,q 4 Z⟩
def a1K (w : V) (R : Option An) (y : Nat) (l : List Er) (q : BB 5 w w.1.size R y (Fa l)) :
    AZ AO 24 #[AK R (ln l) y] w λx w' => Lg (Uw l) x /\ Ext w w' := by
  have h1 := q.1;have h2 := q.2.1;rw [BL] at h1;unfold BM at h2;have HL := A (λ(W : V) (hx : Ext w W) => ((q.below hx).more hx.size : BB 5 W W.1.size R y (Fa l)));clear q;have HT := A (show Lg (Uw l) (Ac (AU AL)) from ⟨_, F, λh => Aq⟩);have HF := A (show ∀ b : Bool, (b = AM -> Uw l) -> Lg (Uw l) (Ac (AU b)) fromλb h => ⟨_, rfl, h⟩);go_enter func24, ntmps24;go_wp2;go_loopw [3] (λi wr => ∃ k : Nat, i =M G (k : Int) /\ k <= ln l /\ k <= 7 /\ Ext w wr /\ ∀ m, m < k -> UI (l.getD m Bu)) (λi _ => ((ln l : Int) - B8 i).toNat)
  case atStart => exact ⟨0, F, D, D, Ad _ _, λm hm => D⟩
  case round =>
    obtain ⟨k, rfl, hk, O, j, t⟩ := hrel;have g := A j;have s := A t;by_cases r : k < ln l /\ k < 7
    . obtain ⟨r, h7⟩ := r
      obtain ⟨b, off, rfl, u, N⟩ := cL (HL _ j) D;obtain ⟨_, P, Q, S, T⟩ := N k r;obtain ⟨o, v⟩ : ∃ n, l.getD k Bu = n := ⟨_, F⟩;rw [v] at P Q S T;have HO := A v;obtain ⟨sd, s1, s2, s3, s4⟩ := o;dsimp only at P Q S T;obtain ⟨I, t1⟩ : ∃ b, Hm (ln s1) = b := ⟨_, F⟩;obtain ⟨J, t2⟩ : ∃ b, Hm (ln s2) = b := ⟨_, F⟩;obtain ⟨K, t3⟩ : ∃ b, Hm (ln s3) = b := ⟨_, F⟩;obtain ⟨L, t4⟩ : ∃ b, Hm (ln s4) = b := ⟨_, F⟩;have U := A t1;have X := A t2;have Y := A t3;have Z := A t4;have e1 : (k : Int) < (ln l : Int) := D;have e2 : AQ ((k : Int) < 7) = AL := CP D;clear j N v u t;by_cases z : I = AM /\ J = AM /\ K = AM /\ L = AM
      . obtain ⟨rfl, rfl, rfl, rfl⟩ := z
        have d := A (show ∀ m, m < k + 1 -> UI (l.getD m Bu) fromλm hm => by
          by_cases e : m = k
          . rw [e, HO.o]; exact ⟨U, X, Y, Z⟩
          exact s m D)
        go_wp2_with (go_at_call 55; refine (bN _ _).mono ?_; rintro e W1 ⟨rfl, rfl⟩)
        exact ⟨⟨k + 1, by go_num, D, D, g, d⟩, MX⟩
      cases I <;> cases J <;> cases K <;> cases L
      all_goals first
        | exact absurd ⟨rfl, rfl, rfl, rfl⟩ z
        | (clear z
           go_wp2_with (go_at_call 55; refine (bN _ _).mono ?_; rintro e W1 ⟨rfl, rfl⟩)
           go_ret;exact ⟨HT, g⟩)
    have d := A (show (ln l <= k \/ k = 7) from D)
    obtain ⟨B, q1⟩ : ∃ p, AQ ((ln l : Int) > 6) = p := ⟨_, F⟩;obtain ⟨C, q2⟩ : ∃ p, AQ ((ln l : Int) <= 32) = p := ⟨_, F⟩;obtain ⟨E, q3⟩ : ∃ p, AQ ((ln l : Int) > 34) = p := ⟨_, F⟩;have H := A (show ∀ b : Bool, (b = AM -> E = AM /\ (B = AM \/ C = AM)) -> Lg (Uw l) (Ac (AU b)) fromλb h => HF b (λu => by
      obtain ⟨a, c⟩ := h u;have a3 := Ij (q3.trans a);refine ⟨D, λi hi aa => s i (by rcases d with h | h <;> omega), ?_⟩;rcases c with c | c
      . have := Ij (q1.trans c); omega
      have := Ij (q2.trans c); omega))
    have f := d.o;clear r j t d s;rcases f with f | f
    . obtain rfl : k = ln l := by omega
      clear f hk O;cases B <;> cases C <;> cases E
      all_goals
        go_wp2;go_ret;refine ⟨H _ ?_, g⟩;simp
    subst f
    clear O;cases q0 : AQ ((7 : Int) < (ln l : Int)) <;> cases B <;> cases C <;> cases E
    all_goals
      go_wp2;go_ret;refine ⟨H _ ?_, g⟩;simp
structure Rv(o:Er):Prop where
 a:(tx o.left).size<=604
 b:(tx o.right).size<=604
 c:(tx o.low).size<=604
 d:(tx o.Eo).size<=604
theorem Lu(h:Hm n=AM):n<=604:=by
 unfold Hm at h;simp at h;omega
def UI.sm{o:Er}(h:UI o):Rv o:=⟨by rw[DJ];exact Lu h.a,by rw[DJ];exact Lu h.b,by rw[DJ];exact Lu h.c,by rw[DJ];exact Lu h.d⟩
end
section
open Kp
attribute [local go_sem] Eb Hj Iy Jm I4 Iz LW J3 Hk Lw Lx Ly M0 M3 M4 M5 M6 M7 M8 Mf Ka NU NV NW NY Kb Kc Mg Mh Mi Mj Ml Mm Mn Mo J8 J9 M9 MA MB Mr Jp Ms Mt Kd Ke JD JE JF MG MH Kf Kg Kh
theorem b0Q{i:Int}(h:Ec n i=0):i.toNat<n:=by
 grind [Ec]
theorem a6k{l:List S}{i:Int}(h:Ec (ln l) i=0):ln l-1=(l.eraseIdx i.toNat).length:=by
 rw[List.length_eraseIdx,Aj (b0Q h)]
def Kl(c b cell:Nat)(e:Ed)(R:Option An)(n y:Nat):Nat->AN
 |0=> Ap (Q ⟨c,0,O⟩)
 |1=> Ap (Q ⟨c,0,O⟩)
 |2=> Ap (Q ⟨c,0,O⟩)
 |3=> Ap (Q ⟨c,cell,O⟩)
 |4=> AK R n y
 |5=> Ap (Q ⟨b,1,O⟩)
 |6=> M G e.Ae
 |10=> M G (Ec n e.Ae)
 |11=> Ap (Q ⟨c,0,O⟩)
 |12=> Ap (Q ⟨c,cell,O⟩)
 |_=>Ba
theorem a6P(h:p:=by
  intro i L B W hi hL hI hd;have HI:=A hI;rcases(show i=0\/i=1\/i=2\/i=3\/i=4\/i=5\/i=6\/i=7\/i=8\/i=9\/i=10\/i=11\/i=12\/i=13 by omega) with rfl|rfl|rfl|rfl|rfl|rfl|rfl|rfl|rfl|rfl|rfl|rfl|rfl|rfl<;>clear hi hI<;>refine DC rfl (λK hK=> ?_)
  .exact mc
  .exact mc
  .have d1:=HI.Bg 1 (hd 1 U) Z;simp only[Kl] at d1;go_simp;exact hK _ _ ⟨_,by simp[B7,Kl,d1],HI.pure Z rfl⟩
  .have d2:=HI.Bg 2 (hd 2 U) Z;simp only[Kl] at d2;go_simp;exact hK _ _ ⟨_,by simp[B7,Kl,d2],HI.pure Z rfl⟩
  .have d3:=HI.Bg 3 (hd 3 U) Z;simp only[Kl] at d3;have hx:=HI.load (k:=4) Z hL;have mm:=((HJ.ext hx).cell _).trans HA;clear hx;go_simp;exact hK _ _ ⟨_,by simp[B7,Kl,d3],HI.pure Z rfl⟩
  .exact mc
  .have d5:=HI.Bg 5 (hd 5 U) Z;simp only[Kl] at d5;have hx:=HI.load (k:=6) Z hL;have mm:=(HZ'.ext hx).cell 1;clear hx;go_simp;exact hK _ _ ⟨_,by simp[B7,Kl,d5],HI.pure Z rfl⟩
  .have d4:=HI.Bg 4 (hd 4 U) Z;simp only[Kl] at d4;have d6:=HI.Bg 6 (hd 6 U) Z;simp only[Kl] at d6;have hx:=A (HI.ext hL);go_simp;refine(KP _ hx).mono ?_;rintro x W1 ⟨v,hsl,rfl,l,hX⟩;exact hK _ _ ⟨_,by simp[B7,d4,d6],HI.call hL (by intro k hk;simp at hk;rcases hk with rfl|rfl<;>exact hd _ U) hX ⟨hsl,λh=>Lv (l h) (BJ HE0.size hx.size)⟩⟩
  .go_simp;exact hK _ _ ⟨B 7,by simp[B7],HI.move hL (hd 7 U)⟩
  .have⟨v,ht,hn⟩:=HI.first hL (hd 8 U);exact mb
  .have⟨v,ht⟩:=HI.lK (hd 8 U);go_simp;exact hK _ _ ⟨_,by simp[B7,Kl,ht],HI.pure Z rfl⟩
  .have d0:=HI.Bg 0 (hd 0 U) Z;simp only[Kl] at d0;go_simp;exact hK _ _ ⟨_,by simp[B7,Kl,d0],HI.pure Z rfl⟩
  .have d11:=HI.Bg 11 (hd 11 U) Z;simp only[Kl] at d11;go_simp;exact hK _ _ ⟨_,by simp[B7,Kl,d11],HI.pure Z rfl⟩
  have d12:=HI.Bg 12 (hd 12 U) Z;simp only[Kl] at d12;have⟨hx,⟨⟨A1,n1,c1,hv⟩,_⟩,hn⟩:=HI.store hL (hd 9 U) F;rw[hv] at hn;have hw:B 9=AK A1 n1 c1:=hv;clear hv;have mm:=(HJ.ext hx).cell;have nn:=(HJ.ext hx).frozen;clear hx;go_simp;exact hK _ _ ⟨Ba,by simp[B7,d12,hw],hn⟩):p:=h
theorem a7f(h:p:=by
  intro L B W hL hI;obtain⟨he,v,W1,hx,⟨_,l⟩,rfl⟩:=hI.done hL;have h10:=he;simp only[Hw,Kl] at h10;have HX:=A hx;have HO:=A l;clear hx l he hI;simp only[h10,FV,FY];go_wp2;go_ret;exact⟨F,HBl W1 v HX,λh=>HF W1 v HX h (HO h)⟩):p:=h
theorem Vv{j:BG}{a:BU}{e:Ed}{g:AN}{X:Nat->Prop}{J:BG}{k b n y:Nat}{rows:List (List AN)}{f:FuncId}(q:Int)(hn:ln rows=n)(hk:e.Av=q)(l:JC w c j a)
  (s:(P j a)[b]?=Q (AK R n y))(z:BB k w c R y rows)(p:Tu f E k)(hw:DG k rows)(h1:GL rows)(t:n<=1000000)
  (r:∀{W1 v},Ext w W1->W1.ownsRow w.1.size E k v (rows.eraseIdx e.Ae.toNat).length (rows.eraseIdx e.Ae.toNat).flatten->∃a',Dl X c w (W1.setCell ⟨c,b,O⟩ v) J a'):
  ∃W0,Hid (w.alloc (.cells (Ah e g) 54)=W0)/\Hid (EC W0 w.1.size (Ah e g))/\Hid (Ext w W0)/\Hid (JC W0 c j a)/\(w.alloc (.cells (Ah e g) 54)).cell? ⟨w.1.size,35,O⟩=(Ah e g)[35]?/\(∀m:Int,(e.Av==m)=(q==m))/\Hid ((P j a)[b]?=Q (AK R n y))
  /\Hid (∀W,Ext W0 W->AZ AO f #[AK R n y,M G e.Ae] W λx w'=>∃v,Fx v/\x=Ac (BO #[v,M G (Ec n e.Ae)])/\(Ec n e.Ae=0->w'.ownsRow W.1.size E k v (n-1) (rows.eraseIdx e.Ae.toNat).flatten)/\Ext W w')
  /\Hid (∀W1 v,Ext W0 W1->Ec n e.Ae=0->W1.ownsRow w.1.size E k v (n-1) (rows.eraseIdx e.Ae.toNat).flatten->∃a',Dl X c w (W1.setCell ⟨c,b,O⟩ v) J a')/\Hid (∀W1 v,Ext W0 W1->CE c w (W1.setCell ⟨c,b,O⟩ v)):=by
 subst hk hn;have i:=l.lt;have d:Ext w (w.alloc (.cells (Ah e g) 54)):=(Ad _ _).alloc (AS _) _;exact⟨_,A F,A (EC.new w _),A d,A (l.ext d),(EC.new w _).cell 35,λ_=>rfl,A s,
  A (λW h=>p W R y rows _ ((z.below ((d.tr h).mono (FM i))).more (BJ (FM i) (d.tr h).size)) hw h1 t),
  A (λW1 v hx o u=>r (d.tr hx) (by rwa[a6k o] at u)),A (λW1 v hx=>(CE.ext (d.tr hx) i).put b v)⟩
abbrev b4U{w W0:V}{X:Nat->Prop}{c b k n y m:Nat}{R:Option An}{e:Ed}{Y:List AN}{E:Bb}{j J:BG}{a:BU}(_:Hid ((P j a)[b]?=Q (AK R n y)))(_:Hid (∀W1 v,Ext W0 W1->Ec n e.Ae=0->W1.ownsRow w.1.size E k v m Y->∃a',Dl X c w (W1.setCell ⟨c,b,O⟩ v) J a')):(Nat->Bool)->(Nat->AN)->V->Prop:=
 FR W0 (Kl c w.1.size b e R n y) (λv W1=>Fx v/\(Ec n e.Ae=0->W1.ownsRow w.1.size E k v m Y)) (M G (Ec n e.Ae)) ⟨c,b,O⟩ 7 [4,6]
theorem Vy(h:p:=by
  obtain⟨W0,HW,HZ',HE0,HJ,z35,hN,HA,KP,HF,HBl⟩:=o;clear b d m;go_enter func144,ntmps144;go_wp2_with fail
  rw[HW.o];refine Fz U (Qf 14 (λL B W=>b4U HA HF L B W) U ?step ?tail _ (λ_=>FR.BI (Ext.dr _)))
  case step=>exact a6P
  case tail=>exact a7f):p:=h
def a7O(w:V)(c:Nat)(j:BG)(a:BU)(e:Ed)(g:AN)(b:JC w c j a){X:Nat->Prop}(d:Bc X w c j a)(q:ln j.BR<=1000000)(m:e.Av=4):
  AZ AO 144 #[Ap (Q ⟨c,0,O⟩),AW (Ah e g)] w λx w'=>x=Ac (M G (Ec (ln j.BR) e.Ae))/\CE c w w'/\(Ec (ln j.BR) e.Ae=0->∃a',Dl X c w w' {j with BR:=j.BR.eraseIdx e.Ae.toNat} a'):=by
 have o:=Vv (g:=g) 4 (BL _) m b (J8 j a) d.u a73 (G9 (f:=λn=>[M G n]) (λ_=>rfl) _) (XM _) q (λh l=>aH b d h (by rw[Cy,<-Qh _];exact l));exact Vy
def a7q(w:V)(c:Nat)(j:BG)(a:BU)(e:Ed)(g:AN)(b:JC w c j a){X:Nat->Prop}(d:Bc X w c j a)(f:ln j.Bi<=1000000)(m:e.Av=5):
  AZ AO 144 #[Ap (Q ⟨c,0,O⟩),AW (Ah e g)] w λx w'=>x=Ac (M G (Ec (ln j.Bi) e.Ae))/\CE c w w'/\(Ec (ln j.Bi) e.Ae=0->∃a',Dl X c w w' {j with Bi:=j.Bi.eraseIdx e.Ae.toNat} a'):=by
 have o:=Vv (g:=g) 5 (BL _) m b (JD j a) d.o a7B (T0 _) (Zm _) f (λh l=>Zz b d h (by rw[Fa,<-Qh Hs];exact l));exact Vy
def a8T(w:V)(c:Nat)(j:BG)(a:BU)(e:Ed)(g:AN)(b:JC w c j a){X:Nat->Prop}(d:Bc X w c j a)(n:ln j.BT<=1000000)(m:e.Av=6):
  AZ AO 144 #[Ap (Q ⟨c,0,O⟩),AW (Ah e g)] w λx w'=>x=Ac (M G (Ec (ln j.BT) e.Ae))/\CE c w w'/\(Ec (ln j.BT) e.Ae=0->∃a',Dl X c w w' {j with BT:=j.BT.eraseIdx e.Ae.toNat} a'):=by
 have o:=Vv (g:=g) 6 (BL _) m b (JF j a) d.z a9W (G9 (f:=JT) (λ_=>rfl) _) (iQ _) n (λh l=>aE b d h (by rw[Fq,<-Qh JT];exact l));exact Vy
def a8N(w:V)(c:Nat)(j:BG)(a:BU)(e:Ed)(g:AN)(b:JC w c j a){X:Nat->Prop}(d:Bc X w c j a)(q:ln j.CV<=1000000)(m:e.Av=7):
  AZ AO 144 #[Ap (Q ⟨c,0,O⟩),AW (Ah e g)] w λx w'=>x=Ac (M G (Ec (ln j.CV) e.Ae))/\CE c w w'/\(Ec (ln j.CV) e.Ae=0->∃a',Dl X c w w' {j with CV:=j.CV.eraseIdx e.Ae.toNat} a'):=by
 have⟨rows,f,r,s⟩:=au d (FM b.lt);have o:=Vv (g:=g) 7 (f.1) m b (JE j a) r a8G (f.wide) (f.one) q (λh l=>Zu b d h (f.erase _) (λW n=>(s W n).erase _) l);exact Vy
def a7X(w:V)(c:Nat)(j:BG)(a:BU)(e:Ed)(g:AN)(b:JC w c j a){X:Nat->Prop}(d:Bc X w c j a)(f:ln j.Bt<=1000000)(m:e.Av=10):
  AZ AO 144 #[Ap (Q ⟨c,0,O⟩),AW (Ah e g)] w λx w'=>x=Ac (M G (Ec (ln j.Bt) e.Ae))/\CE c w w'/\(Ec (ln j.Bt) e.Ae=0->∃a',Dl X c w w' {j with Bt:=j.Bt.eraseIdx e.Ae.toNat} a'):=by
 have o:=Vv (g:=g) 10 (BL _) m b (Iz j a) d.l a8c (UJ _) (Zp _) f (λh l=>aD b d h (by rw[I6,<-Qh Oh];exact l));exact Vy
def a7Z(w:V)(c:Nat)(j:BG)(a:BU)(e:Ed)(g:AN)(b:JC w c j a){X:Nat->Prop}(d:Bc X w c j a)(n:ln j.BW<=1000000)(m:e.Av=11):
  AZ AO 144 #[Ap (Q ⟨c,0,O⟩),AW (Ah e g)] w λx w'=>x=Ac (M G (Ec (ln j.BW) e.Ae))/\CE c w w'/\(Ec (ln j.BW) e.Ae=0->∃a',Dl X c w w' {j with BW:=j.BW.eraseIdx e.Ae.toNat} a'):=by
 have o:=Vv (g:=g) 11 (BL _) m b (J3 j a) d.s a9f (G9 (f:=D4) (λ_=>rfl) _) (Zi _) n (λh l=>XQ b d h (by rw[Em,<-Qh D4];exact l));exact Vy
def a86(w:V)(c:Nat)(e:Ed)(g:AN)(b:c<w.1.size)(n0:e.Av≠4)(d:e.Av≠5)(f:e.Av≠6)(h:e.Av≠7)(i:e.Av≠10)(j:e.Av≠11):
  AZ AO 144 #[Ap (Q ⟨c,0,O⟩),AW (Ah e g)] w λx w'=>x=Ac (M G 8)/\CE c w w':=by
 have a:=A (show CE c w (w.alloc (.cells (Ah e g) 54)) from CE.ext ((Ad _ _).alloc (AS _) _) b);go_wp2;go_ret;exact⟨F,a⟩
def rr(p:Nat->Bool)(n:Nat): -1<=Ho p n/\Ho p n<(n:Int):=by
 induction n with
 |zero=>unfold Ho;omega
 |succ n a=>
  unfold Ho;split
  .split <;>omega
  omega
def NG(l:List Sz)(k:Int):Int:=if Ho (λi=>(l.getD i Ca).Ab==k) (ln l)<0 then(ln l:Int) else Ho (λi=>(l.getD i Ca).Ab==k) (ln l)
def b3J(l:List Sz)(k:Int):DU (ln l) (NG l k)=0:=by
 have:=rr (λi=>(l.getD i Ca).Ab==k) (ln l);unfold NG DU;split <;>rw[Aj D]
def a4C(s:Sz)(w:V)(B:Nat)(e:Ed)(g:AN)(a:EC w B (Ah e g)):
  AZ AO 208 #[AW (JT s).toArray,Ap (Q ⟨B,0,O⟩)] w λx w'=>x=Ac (AU (s.Ab==e.Be))/\Ext w w':=by
 have b:=A (show Ext w (w.alloc (.cells (JT s).toArray 45)) from(Ad _ _).alloc (AS _) _);have c:=(a.ext b).cell 14;have f:=a.lt;have⟨r,d⟩:=AP (s.Ab==e.Be);rw[d];clear a;go_enter func208,ntmps208;go_wp2;go_ret;exact⟨F,b⟩
def a8q(l:List Sz)(w:V)(B:Nat)(e:Ed)(g:AN)(a:EC w B (Ah e g)):Ux 208 #[Ap (Q ⟨B,0,O⟩)] 3 (Fq l) (λi=>(l.getD i Ca).Ab==e.Be) w:=by
 intro W i hi hx;rw[BL] at hi;have:(Fq l).getD i []=JT (l.getD i Ca):=by simp[CM,hi]
 rw[this];exact a4C _ W B e g (a.ext hx)
def Jz(c b:Nat)(e:Ed)(R:Option An)(n y:Nat)(m:Int):Nat->AN
 |0=> Ap (Q ⟨c,0,O⟩)
 |1=> Ap (Q ⟨c,0,O⟩)
 |2=> Ap (Q ⟨c,0,O⟩)
 |3=> Ap (Q ⟨c,6,O⟩)
 |4=> AK R n y
 |5=> M G m
 |6=> Ap (Q ⟨b,14,O⟩)
 |7=> AW #[M G e.Be,M G e.Eg,M G e.Ef]
 |11=> M G (DU n m)
 |12=> Ap (Q ⟨c,0,O⟩)
 |13=> Ap (Q ⟨c,6,O⟩)
 |_=>Ba
theorem a4x(h:p:=by
   intro i L B W hi hL hI hd;have HI:=A hI;rcases(show i=0\/i=1\/i=2\/i=3\/i=4\/i=5\/i=6\/i=7\/i=8\/i=9\/i=10\/i=11\/i=12\/i=13\/i=14 by omega) with rfl|rfl|rfl|rfl|rfl|rfl|rfl|rfl|rfl|rfl|rfl|rfl|rfl|rfl|rfl<;>clear hi hI<;>refine DC rfl (λK hK=> ?_)
   .exact fP
   .exact fP
   .have d1:=HI.Bg 1 (hd 1 U) Z;simp only[Jz] at d1;go_simp;exact hK _ _ ⟨_,by simp[B7,Jz,d1],HI.pure Z rfl⟩
   .have d2:=HI.Bg 2 (hd 2 U) Z;simp only[Jz] at d2;go_simp;exact hK _ _ ⟨_,by simp[B7,Jz,d2],HI.pure Z rfl⟩
   .have d3:=HI.Bg 3 (hd 3 U) Z;simp only[Jz] at d3;have hx:=HI.load (k:=4) Z hL;have mm:=(q.ext hx).cell 6;clear hx;go_simp;exact hK _ _ ⟨_,by simp[B7,Jz,d3],HI.pure Z rfl⟩
   .exact fP
   .exact fP
   .have d6:=HI.Bg 6 (hd 6 U) Z;simp only[Jz] at d6;have hx:=HI.load (k:=7) Z hL;have m14:=(s.ext hx).cell 14;have m15:=(s.ext hx).cell 15;have m16:=(s.ext hx).cell 16;clear hx;go_simp;exact hK _ _ ⟨_,by simp[B7,Jz,d6],HI.pure Z rfl⟩
   .have d4:=HI.Bg 4 (hd 4 U) Z;simp only[Jz] at d4;have d5:=HI.Bg 5 (hd 5 U) Z;simp only[Jz] at d5;have d7:=HI.Bg 7 (hd 7 U) Z;simp only[Jz] at d7;have hx:=A (HI.ext hL);go_simp;rw[<-C.o];refine(R _ hx).mono ?_;rintro x W1 ⟨v,hsl,rfl,d,hX⟩;exact hK _ _ ⟨_,by simp[B7,d4,d5,d7,C.o],HI.call hL (by intro k hk;simp at hk;rcases hk with rfl|rfl|rfl<;>exact hd _ U) hX ⟨hsl,λh=>Lv (d (C.symm▸h)) (BJ J.size hx.size)⟩⟩
   .go_simp;exact hK _ _ ⟨B 8,by simp[B7],HI.move hL (hd 8 U)⟩
   .have⟨v,ht,hn⟩:=HI.first hL (hd 9 U);exact mb
   .have⟨v,ht⟩:=HI.lK (hd 9 U);go_simp;exact hK _ _ ⟨_,by simp[B7,Jz,ht],HI.pure Z rfl⟩
   .have d0:=HI.Bg 0 (hd 0 U) Z;simp only[Jz] at d0;go_simp;exact hK _ _ ⟨_,by simp[B7,Jz,d0],HI.pure Z rfl⟩
   .have d12:=HI.Bg 12 (hd 12 U) Z;simp only[Jz] at d12;go_simp;exact hK _ _ ⟨_,by simp[B7,Jz,d12],HI.pure Z rfl⟩
   have d13:=HI.Bg 13 (hd 13 U) Z;simp only[Jz] at d13;have⟨hx,⟨⟨A1,n1,c1,hv⟩,_⟩,hn⟩:=HI.store hL (hd 10 U) F;rw[hv] at hn;have hw:B 10=AK A1 n1 c1:=hv;clear hv;have mm:=(q.ext hx).cell 6;have nn:=(q.ext hx).frozen 6;clear hx;go_simp;exact hK _ _ ⟨Ba,by simp[B7,d13,hw],hn⟩):p:=h
theorem a4y(h:p:=by
   intro L B W hL hI;obtain⟨he,v,W2,hx,⟨_,d⟩,rfl⟩:=hI.done hL;have h11:B 11=M G (DU (ln j.BT) m):=he;rw[P.o] at h11;have HX:=A hx;have HO:=A (d P);clear hx d he hI;simp only[h11,FV,FY];go_wp2;go_ret;exact⟨F,N W2 v HX HO⟩):p:=h
def a5z(w:V)(c:Nat)(j:BG)(a:BU)(e:Ed)(g:AN)(y:JC w c j a){X:Nat->Prop}(u:Bc X w c j a)(S:ln j.BT<=1000000):
  AZ AO 136 #[Ap (Q ⟨c,0,O⟩),AW (Ah e g)] w λx w'=>x=Ac (M G 0)/\∃a',Dl X c w w' {j with BT:=CC j.BT (NG j.BT e.Be) ⟨e.Be,e.Eg,e.Ef⟩} a':=by
 have z:=y.lt;have⟨W0,o⟩:=AP (w.alloc (.cells (Ah e g) 54));have D:EC W0 w.1.size (Ah e g):=TW;have b:Ext w W0:=TP;have H:=y.ext b;have E:=A (a1O W0 a.za a.zc (ln j.BT) (Fq j.BT) (BL _) ((u.z.below (b.mono (FM z))).more (BJ (FM z) b.size)) (G9 (f:=JT) (λ_=>rfl) _) (λi=>(j.BT.getD i Ca).Ab==e.Be) 208 #[Ap (Q ⟨w.1.size,0,O⟩)] (FZ func208 U F) (a8q j.BT W0 w.1.size e g D));have n:NG j.BT e.Be=(if Ho (λi=>(j.BT.getD i Ca).Ab==e.Be) (ln j.BT)<0 then(ln j.BT:Int) else Ho (λi=>(j.BT.getD i Ca).Ab==e.Be) (ln j.BT)):=rfl;have I:=b3J j.BT e.Be;have⟨x,hx⟩:=AP (Ho (λi=>(j.BT.getD i Ca).Ab==e.Be) (ln j.BT));rw[hx] at E n;have⟨m,hm⟩:=AP (NG j.BT e.Be);rw[hm] at n I⊢;have R:=A (λ(W:V) (h:Ext W0 W)=>a9E W a.za a.zc (Fq j.BT) (M G e.Be) (M G e.Eg) (M G e.Ef) m ((u.z.below ((b.tr h).mono (FM z))).more (BJ (FM z) (b.tr h).size)) (G9 (f:=JT) (λ_=>rfl) _) (iQ _) rfl (by rw[BL];exact S));have T:CC (Fq j.BT) m [M G e.Be,M G e.Eg,M G e.Ef]=Fq (CC j.BT m ⟨e.Be,e.Eg,e.Ef⟩):=YR JT j.BT m ⟨e.Be,e.Eg,e.Ef⟩;have N:=A (λ(W1:V) (v:AN) (hx:Ext W0 W1) (d:W1.ownsRow w.1.size 45 3 v (CC (Fq j.BT) m [M G e.Be,M G e.Eg,M G e.Ef]).length (CC (Fq j.BT) m [M G e.Be,M G e.Eg,M G e.Ef]).flatten)=>aE (l:=CC j.BT m ⟨e.Be,e.Eg,e.Ef⟩) y u (b.tr hx) (by rw[T] at d;exact d));have C:=A (show(Fq j.BT).length=ln j.BT by exact BL _);have P:=A I;have q:=A H;have J:=A b;have s:=A D;have HW:=A o;have Y:=H.cell 6;clear y u H D b T hx hm I S;by_cases r:x<0
 .have t:AQ (x<0)=AL:=CP r;rw[Aj r] at n;exact zU
 have t:AQ (x<0)=AM:=Bw r;rw[Af r] at n;exact zU
def If(a d:Nat)(X:AN)(m:Int)(c b:Nat)(R:Option An)(n y:Nat):Nat->AN
 |0=> Ap (Q ⟨c,0,O⟩)
 |1=> Ap (Q ⟨c,0,O⟩)
 |2=> Ap (Q ⟨c,0,O⟩)
 |3=> Ap (Q ⟨c,a,O⟩)
 |4=> AK R n y
 |5=> Ap (Q ⟨b,1,O⟩)
 |6=> M G m
 |7=> Ap (Q ⟨b,d,O⟩)
 |8=>X
 |12=> M G (DU n m)
 |13=> Ap (Q ⟨c,0,O⟩)
 |14=> Ap (Q ⟨c,a,O⟩)
 |_=>Ba
theorem gW(h:p:=by
  intro i L B W hi hL hI hd;have HI:=A hI;rcases(show i=0\/i=1\/i=2\/i=3\/i=4\/i=5\/i=6\/i=7\/i=8\/i=9\/i=10\/i=11\/i=12\/i=13\/i=14\/i=15 by omega) with rfl|rfl|rfl|rfl|rfl|rfl|rfl|rfl|rfl|rfl|rfl|rfl|rfl|rfl|rfl|rfl<;>clear hi hI<;>refine DC rfl (λK hK=> ?_)
  .exact fQ
  .exact fQ
  .have d1:=HI.Bg 1 (hd 1 U) Z;simp only[If] at d1;go_simp;exact hK _ _ ⟨_,by simp[B7,If,d1],HI.pure Z rfl⟩
  .have d2:=HI.Bg 2 (hd 2 U) Z;simp only[If] at d2;go_simp;exact hK _ _ ⟨_,by simp[B7,If,d2],HI.pure Z rfl⟩
  .have d3:=HI.Bg 3 (hd 3 U) Z;simp only[If] at d3;have hx:=HI.load (k:=4) Z hL;have mm:=λi=>(m.ext hx).cell i
   clear hx;go_simp;exact hK _ _ ⟨_,by simp[B7,If,d3],HI.pure Z rfl⟩
  .exact fQ
  .have d5:=HI.Bg 5 (hd 5 U) Z;simp only[If] at d5;have hx:=HI.load (k:=6) Z hL;have mm:=(r.ext hx).cell 1;clear hx;go_simp;exact hK _ _ ⟨_,by simp[B7,If,d5],HI.pure Z rfl⟩
  .exact fQ
  .have d7:=HI.Bg 7 (hd 7 U) Z;simp only[If] at d7;have hx:=HI.load (k:=8) Z hL;have m1:=λi=>(r.ext hx).cell i
   clear hx;go_simp;exact hK _ _ ⟨_,by simp[B7,If,d7],HI.pure Z rfl⟩
  .have d4:=HI.Bg 4 (hd 4 U) Z;simp only[If] at d4;have d6:=HI.Bg 6 (hd 6 U) Z;simp only[If] at d6;have d8:=HI.Bg 8 (hd 8 U) Z;simp only[If] at d8;have hx:=A (HI.ext hL);go_simp;rw[<-n.o];refine(y _ hx).mono ?_;rintro x W1 ⟨v,hsl,rfl,f,hX⟩;exact hK _ _ ⟨_,by simp[B7,d4,d6,d8,n.o],HI.call hL (by intro k hk;simp at hk;rcases hk with rfl|rfl|rfl<;>exact hd _ U) hX ⟨hsl,λh=>Lv (f (n.symm▸h)) (BJ t.size hx.size)⟩⟩
  .go_simp;exact hK _ _ ⟨B 9,by simp[B7],HI.move hL (hd 9 U)⟩
  .have⟨v,ht,hn⟩:=HI.first hL (hd 10 U);exact mb
  .have⟨v,ht⟩:=HI.lK (hd 10 U);go_simp;exact hK _ _ ⟨_,by simp[B7,If,ht],HI.pure Z rfl⟩
  .have d0:=HI.Bg 0 (hd 0 U) Z;simp only[If] at d0;go_simp;exact hK _ _ ⟨_,by simp[B7,If,d0],HI.pure Z rfl⟩
  .have d13:=HI.Bg 13 (hd 13 U) Z;simp only[If] at d13;go_simp;exact hK _ _ ⟨_,by simp[B7,If,d13],HI.pure Z rfl⟩
  have d14:=HI.Bg 14 (hd 14 U) Z;simp only[If] at d14;have⟨hx,⟨⟨A1,n1,c1,hv⟩,_⟩,hn⟩:=HI.store hL (hd 11 U) F;rw[hv] at hn;have hw:B 11=AK A1 n1 c1:=hv;clear hv;have mm:=λi=>(m.ext hx).cell i
  have nn:=λi=>(m.ext hx).frozen i
  clear hx;go_simp;exact hK _ _ ⟨Ba,by simp[B7,d14,hw],hn⟩):p:=h
theorem gU(h:p:=by
  intro L B W hL hI;obtain⟨he,v,W1,hx,⟨_,f⟩,rfl⟩:=hI.done hL;have h12:=he;simp only[Hw,If] at h12;have HX:=A hx;have HO:=A f;clear hx f he hI;simp only[h12,FV,FY];go_wp2;go_ret;exact⟨F,s W1 v HX,λh=>u W1 v HX (HO h)⟩):p:=h
def b0J(w:V)(c:Nat)(j:BG)(a:BU)(e:Ed)(g:AN)(d:JC w c j a){X:Nat->Prop}(q:Bc X w c j a)(I:ln j.Bi<=1000000):
  AZ AO 134 #[Ap (Q ⟨c,0,O⟩),AW (Ah e g)] w λx w'=>x=Ac (M G (DU (ln j.Bi) e.Ae))/\CE c w w'/\(DU (ln j.Bi) e.Ae=0->∃a',Dl X c w w' {j with Bi:=CC j.Bi e.Ae ⟨e.EL,e.E9,e.E8,e.EE,e.EK⟩} a'):=by
 have z:=d.lt;obtain⟨W0,o⟩:=AP (w.alloc (.cells (Ah e g) 54));have C:EC W0 w.1.size (Ah e g):=TW;have b:Ext w W0:=TP;have D:=d.ext b;have y:=A (λ(W:V) (h:Ext W0 W)=>a8d W a.oa a.oc (Fa j.Bi) (M G e.EL) (AT (tx e.E9)) (AT (tx e.E8)) (AT (tx e.EE)) (AT (tx e.EK)) e.Ae ((q.o.below ((b.tr h).mono (FM z))).more (BJ (FM z) (b.tr h).size)) (T0 _) (Zm _) rfl (by rw[BL];exact I));have E:CC (Fa j.Bi) e.Ae [M G e.EL,AT (tx e.E9),AT (tx e.E8),AT (tx e.EE),AT (tx e.EK)]=Fa (CC j.Bi e.Ae ⟨e.EL,e.E9,e.E8,e.EE,e.EK⟩):=YR Hs j.Bi e.Ae ⟨e.EL,e.E9,e.E8,e.EE,e.EK⟩;have u:=A (λ(W1:V) (v:AN) (hx:Ext W0 W1) (f:W1.ownsRow w.1.size 43 5 v (CC (Fa j.Bi) e.Ae [M G e.EL,AT (tx e.E9),AT (tx e.E8),AT (tx e.EE),AT (tx e.EK)]).length (CC (Fa j.Bi) e.Ae [M G e.EL,AT (tx e.E9),AT (tx e.E8),AT (tx e.EE),AT (tx e.EK)]).flatten)=>Zz (l:=CC j.Bi e.Ae ⟨e.EL,e.E9,e.E8,e.EE,e.EK⟩) d q (b.tr hx) (by rw[E] at f;exact f));have s:=A (λ(W1:V) (v:AN) (hx:Ext W0 W1)=>((CE.ext (b.tr hx) z).put 5 v:CE c w (W1.setCell ⟨c,5,O⟩ v)));have n:=A (show(Fa j.Bi).length=ln j.Bi by exact BL _);have m:=A D;have t:=A b;have r:=A C;have H:=A o;clear o d q D C b E;go_enter func134,ntmps134;go_wp2_with fail
 rw[H.o];refine Fz U (Qf 16
  (λL B W=>FR W0 (If 5 9 (AW #[M G e.EL,AT (tx e.E9),AT (tx e.E8),AT (tx e.EE),AT (tx e.EK)]) e.Ae c w.1.size a.oa (ln j.Bi) a.oc) (λv W1=>Fx v/\(DU (ln j.Bi) e.Ae=0->W1.ownsRow w.1.size 43 5 v (CC (Fa j.Bi) e.Ae [M G e.EL,AT (tx e.E9),AT (tx e.E8),AT (tx e.EE),AT (tx e.EK)]).length (CC (Fa j.Bi) e.Ae [M G e.EL,AT (tx e.E9),AT (tx e.E8),AT (tx e.EE),AT (tx e.EK)]).flatten)) (M G (DU (ln j.Bi) e.Ae)) ⟨c,5,O⟩ 9 [4,6,8] L B W) U ?_ ?_ _ (λ_=>FR.BI (Ext.dr W0)))
 .exact gW
 exact gU
def b1I(w:V)(c:Nat)(j:BG)(a:BU)(e:Ed)(b:Option An)(d:Nat)(q:JC w c j a){X:Nat->Prop}(z:Bc X w c j a)(S:ln j.CV<=1000000)(I:BB 2 w c b d (J6 e.Aa))(J:∀W,Cu X c w W->BB 2 W W.1.size b d (J6 e.Aa)):
  AZ AO 137 #[Ap (Q ⟨c,0,O⟩),AW (Ah e (AK b (ln e.Aa) d))] w λx w'=>x=Ac (M G (DU (ln j.CV) e.Ae))/\CE c w w'/\(DU (ln j.CV) e.Ae=0->∃a',Dl X c w w' {j with CV:=CC j.CV e.Ae ⟨e.Ch,e.Ck,e.Co,e.Cp,e.Cr,e.Aa⟩} a'):=by
 have C:=q.lt;have⟨rows,l,N,P⟩:=au z (FM q.lt);have⟨W0,o⟩:=AP (w.alloc (.cells (Ah e (AK b (ln e.Aa) d)) 54));have D:EC W0 w.1.size (Ah e (AK b (ln e.Aa) d)):=TW;have g:Ext w W0:=TP;have E:=q.ext g;have y:=A (λ(W) (h)=>a8E W a.ba a.bc rows (M G e.Ch) (M G e.Ck) (M G e.Co) (M G e.Cp) (M G e.Cr) (AK b (ln e.Aa) d) e.Ae ((N.below ((g.tr h).mono (FM C))).more (BJ (FM C) (g.tr h).size)) l.wide l.one rfl (by rw[l.1];exact S));have u:=A (λ(W1:V) (v) (hx) (f:W1.ownsRow w.1.size 48 6 v (CC rows e.Ae [M G e.Ch,M G _,M G _,M G _,M G _,AK b _ d]).length _)=>Zu q z (g.tr hx) (l.put _ ⟨e.Ch,e.Ck,e.Co,e.Cp,e.Cr,e.Aa⟩ b d I) (λW H=>(P W H).put _ _ b d (J W H)) f);have s:=A (λ(W1) (v) (hx:Ext W0 W1)=>((CE.ext (g.tr hx) C).put 7 v));have n:=A (show ln rows=ln j.CV by exact l.1);have m:=A E;have t:=A g;have r:=A D;have R:=A o;clear o q z E D g l N I P J;go_enter func137,ntmps137;go_wp2_with fail
 rw[R.o];refine Fz U (Qf 16
  (λL B W=>FR W0 (If 7 17 (AW #[M G e.Ch,M G e.Ck,M G e.Co,M G e.Cp,M G e.Cr,AK b (ln e.Aa) d]) e.Ae c w.1.size a.ba (ln j.CV) a.bc) (λv W1=>Fx v/\(DU (ln j.CV) e.Ae=0->W1.ownsRow w.1.size 48 6 v (CC rows e.Ae [M G e.Ch,M G e.Ck,M G e.Co,M G e.Cp,M G e.Cr,AK b (ln e.Aa) d]).length (CC rows e.Ae [M G e.Ch,M G e.Ck,M G e.Co,M G e.Cp,M G e.Cr,AK b (ln e.Aa) d]).flatten)) (M G (DU (ln j.CV) e.Ae)) ⟨c,7,O⟩ 9 [4,6,8] L B W) U ?_ ?_ _ (λ_=>FR.BI (Ext.dr W0)))
 .exact gW
 exact gU
def b0g(w:V)(c:Nat)(j:BG)(a:BU)(e:Ed)(g:AN)(d:JC w c j a){X:Nat->Prop}(q:Bc X w c j a)(I:ln j.Bt<=1000000):
  AZ AO 141 #[Ap (Q ⟨c,0,O⟩),AW (Ah e g)] w λx w'=>x=Ac (M G (DU (ln j.Bt) e.Ae))/\CE c w w'/\(DU (ln j.Bt) e.Ae=0->∃a',Dl X c w w' {j with Bt:=CC j.Bt e.Ae ⟨e.FJ,e.FI,e.FH⟩} a'):=by
 have z:=d.lt;have⟨W0,o⟩:=AP (w.alloc (.cells (Ah e g) 54));have C:EC W0 w.1.size (Ah e g):=TW;have b:Ext w W0:=TP;have D:=d.ext b;have y:=A (λ(W) (h)=>a9X W a.la a.lc (I6 j.Bt) (M G e.FJ) (M G e.FI) (AT (tx e.FH)) e.Ae ((q.l.below ((b.tr h).mono (FM z))).more (BJ (FM z) (b.tr h).size)) (UJ _) (Zp _) rfl (by rw[BL];exact I));have E:=YR Oh j.Bt e.Ae ⟨e.FJ,e.FI,e.FH⟩;have u:=A (λ(W1:V) (v) (hx) (f:W1.ownsRow w.1.size 50 3 v (CC (I6 j.Bt) e.Ae [M G _,M G _,AT _]).length (CC _ _ _).flatten)=>aD (l:=CC _ _ _) d q (b.tr hx) (by rw[E] at f;exact f));have s:=A (λ(W1) (v) (hx:Ext W0 W1)=>((CE.ext (b.tr hx) z).put 13 v));have n:=A (show(I6 _).length=ln j.Bt by exact BL _);have m:=A D;have t:=A b;have r:=A C;have H:=A o;clear o d q D C b E;go_enter func141,ntmps141;go_wp2_with fail
 rw[H.o];refine Fz U (Qf 16
  (λL B W=>FR W0 (If 13 23 (AW #[M G e.FJ,M G e.FI,AT (tx e.FH)]) e.Ae c w.1.size a.la (ln j.Bt) a.lc) (λv W1=>Fx v/\(DU (ln j.Bt) e.Ae=0->W1.ownsRow w.1.size 50 3 v (CC (I6 j.Bt) e.Ae [M G e.FJ,M G e.FI,AT (tx e.FH)]).length (CC (I6 j.Bt) e.Ae [M G e.FJ,M G e.FI,AT (tx e.FH)]).flatten)) (M G (DU (ln j.Bt) e.Ae)) ⟨c,13,O⟩ 9 [4,6,8] L B W) U ?_ ?_ _ (λ_=>FR.BI (Ext.dr W0)))
 .exact gW
 exact gU
end
section
open Kp
attribute [local go_sem] Eb Hj Iz J3 Ka Kb Kc J8 J9 M9 MA MB Jp Ms Mt Kd Ke JD JE JF MG MH Kf Kg Kh
def nY:(AO.info? 117).map (λi=>(i.zero,i.size,i.bytes))=Q (Q (AK O 0 0),1,24):=U
abbrev EH(e:Ed):Sd:=⟨e.sx,e.sy,e.ID,e.II,e.DX,e.I9,e.IF⟩
def Gy(rs:List (List Sd))(n:Int):Nat->Int×Bool
 |0=>(n,AM)
 |k+1=>(G.wrap ((Gy rs n k).1-((rs.getD k []).length:Int)),(Gy rs n k).2||(!(Gy rs n k).2&&AQ ((Gy rs n k).1<((rs.getD k []).length:Int))))
def LZ(rs:List (List Sd))(n:Int)(s:Sd)(k:Nat):List Sd:=
 if !(Gy rs n k).2&&AQ ((Gy rs n k).1<((rs.getD k []).length:Int)) then(rs.getD k []).set (Gy rs n k).1.toNat s else rs.getD k []
def Ft(rs:List (List Sd))(n:Int)(s:Sd):List (List Sd):=(G8 (ln rs)).map (LZ rs n s)
def Le(rs:List (List Sd))(n:Int):Int:=if n<0 then 6 else if(Gy rs n (ln rs)).2 then 0 else 6
theorem wN(rs:List (List Sd))(n:Int)(s:Sd)(k:Nat):(LZ rs n s k).length=(rs.getD k []).length:=by
 grind [LZ]
theorem ff(rs:List (List Sd))(n:Int)(s:Sd)(hk:k<ln rs):(Ft rs n s).getD k []=LZ rs n s k:=by
 grind [Ft]
theorem Rg(rs:List (List Sd))(n:Int)(s:Sd):(Ft rs n s).length=ln rs:=by grind [Ft]
def b1q{rs:List (List Sd)}{n:Int}(c:0<=n)(hn:n<=9223372036854775807)(e:∀k,(rs.getD k []).length<=1000):∀k,(Gy rs n k).2=AM->0<=(Gy rs n k).1/\(Gy rs n k).1<=n:=by
 intro k
 induction k with
 |zero=>intro _;exact⟨c,Int.le_refl _⟩
 |succ k d=>
  intro h;simp only[Gy,QC] at h;obtain⟨h1,h2⟩:=h;have⟨a,b⟩:=d h1;rw[h1] at h2;simp only[eN,Hu,CX] at h2;have hw:G.wrap _=(Gy rs n k).1-((rs.getD k []).length):=DF _ D
  grind [Gy]
theorem ka{B n k q:Nat}(h:w.ownsRow B t k aa n Y)(c:w.1.size<=q\/aa.ownBlock≠Q q)(cs:Array AN):(w.setRow q cs).ownsRow B t k aa n Y:=by
 obtain⟨a,b|⟨g,y,cur,rfl,d,f,h1⟩⟩:=h
 .exact TZ
 refine⟨a,.inr ⟨g,y,cur,F,d,?_,h1⟩⟩;have i:q≠g:=by
  intro e;subst e;rcases c with c|c
  .grind
  exact c F
 exact(Hc _ _ (Ej i)).trans f
theorem YG{B n k q:Nat}{t a:Bb}{Y cs:_}(h:w.ownsRow B t k aa n Y)(j:w.1[q]?=Q (.cells cs a (0,0)))(i:t≠a):aa.ownBlock≠Q q:=by
 intro e;obtain⟨f,⟨rfl,_⟩|⟨g,y,cur,rfl,c,d,h1⟩⟩:=h
 .cases e
 have b:g=q:=by grind [Hv]
 grind
structure xt(W0:V)(pb:Nat)(rs:List (List Sd))(n:Int)(s:Sd)(k:Nat)(wr:V):Prop where
 ext:Ext W0 wr
 mem:∃v Bg,Bx wr pb 24 v/\wr.ownsRow W0.1.size 117 1 v k Bg/\ln Bg=k/\∀i,i<k->wr.ownsRow W0.1.size 40 7 (Bg.getD i Ba) (LZ rs n s i).length (Cg (LZ rs n s i)).flatten
theorem a7c{r:List Sd}{b B:Nat}(h:w.ownsRow b 40 7 aa (ln r) (Cg r).flatten)(a:w.1.size<=B):∃R c,aa=AK R (ln r) c/\BB 7 w B R c (Cg r):=by
 have⟨R,c,e,d⟩:=F1 h (BL _) (JW r);exact⟨R,c,e,d.more a⟩
theorem rg_of{v:AN}{Bg:List AN}{a:List (List Sd)}(j:w.ownsRow B0 117 1 v (ln a) Bg)(o:ln Bg=ln a)
  (k:∀i,i<ln a->w.ownsRow B0 40 7 (Bg.getD i Ba) (a.getD i []).length (Cg (a.getD i [])).flatten):∃R y,v=AK R (ln a) y/\Ew w w.1.size R y a:=by
 obtain⟨q,⟨rfl,b⟩|⟨g,y,cur,rfl,n,f,h1,h2,l,m⟩⟩:=j
 .exact mT
 refine⟨_,y,F,h1,h2,λd=>⟨g,0,rfl,(Ee.1 f).1,λi hi=> ?_⟩⟩;have⟨R,c,e,r⟩:=a7c (k i hi) (AS _);simp[Dx,f]
 grind
theorem gD{W0 wr W1 w2:V}{rs:List (List Sd)}{n:Int}{s:Sd}{v v' V1:AN}{Bg:List AN}(hx:Ext W0 wr)(d:Bx wr pb 24 v)(j:wr.ownsRow W0.1.size 117 1 v k Bg)(g:ln Bg=k)
  (t:∀i,i<k->wr.ownsRow W0.1.size 40 7 (Bg.getD i Ba) (LZ rs n s i).length (Cg (LZ rs n s i)).flatten)(h1:Ext wr W1)
  (r:W1.ownsRow W0.1.size 40 7 V1 (LZ rs n s k).length (Cg (LZ rs n s k)).flatten)(e:w2.ownsRow W0.1.size 117 1 v' (k+1) (Bg++[V1]))(b:W1.grownBy w2 v.ownBlock)(l:W0.1.size<=pb):
  xt W0 pb rs n s (k+1) (w2.setCell ⟨pb,0,O⟩ v'):=by
 have c:=EV j h1;have f:=d.below h1 d.lt;have a:=f.grown c b Z;have key:∀aa m Y,W1.ownsRow W0.1.size 40 7 aa m Y->(w2.setCell ⟨pb,0,O⟩ v').ownsRow W0.1.size 40 7 aa m Y:=by
  intro aa m Y h;have h2:=VO h c b Z;exact Jo h2 (YG (q:=pb) h2 a Z) _
 refine⟨(KY (hx.tr h1) b (λq o=>(DS c q o).1)).setCell l _,v',Bg++[V1],a.put _,Jo e (YG (q:=pb) e a Z) _,by simp[g],λi hi=> ?_⟩
 grind [EV]
def a5j(w:V)(c:Nat)(j:BG)(a:BU)(e:Ed)(g:AN)(hc:JC w c j a){X:Nat->Prop}(hb:Bc X w c j a)(a7:ln j.BK<=1000)(az:∀k,(j.BK.getD k []).length<=1000)(hn:e.Ae<=9223372036854775807):
  AZ AO 131 #[Ap (Q ⟨c,0,O⟩),AW (Ah e g)] w λx w'=>x=Ac (M G (Le j.BK e.Ae))/\CE c w w'/\(Le j.BK e.Ae=0->∃a',Dl X c w w' {j with BK:=Ft j.BK e.Ae (EH e)} a'):=by
 have ae:=hc.lt;have⟨W0,o⟩:=AP (w.alloc (.cells (Ah e g) 54));have HZ:EC W0 w.1.size (Ah e g):=TW;have J:Ext w W0:=TP;have hJ:=hc.ext J;have z1:=HZ.cell 1;have HJ:=A hJ;have aw:=A J;have aF:=A HZ;by_cases h0:e.Ae<0
 .have hE:Le j.BK e.Ae=6:=by unfold Le;rw[Aj h0]
  have t0:AQ (e.Ae<0)=AL:=CP h0;rw[hE];have HB:=A (CE.ext J ae:CE c w W0);clear hc hb hJ HZ J h0 hE;subst o;go_enter func131,ntmps131;go_wp2;go_ret;exact⟨F,HB.o,λh=>absurd h Z⟩
 have hE:Le j.BK e.Ae=if(Gy j.BK e.Ae (ln j.BK)).2 then 0 else 6:=by unfold Le;rw[Af h0]
 have t0:AQ (e.Ae<0)=AM:=Bw h0;have aS:=A (b1q (rs:=j.BK) (n:=e.Ae) D hn az);have HR:=A (λ(W:V) (h:Ext W0 W)=>(((hb.p.below ((J.tr h).mono (FM ae))).more (BJ (FM ae) (J.tr h).size)):Ew W W.1.size a.pa a.pc j.BK));have aQ:=A az;have aO:=A hE;have HF:=A (λ(W1:V) (v:AN) (R:Option An) (y:Nat) (hv:v=AK R (Ft j.BK e.Ae (EH e)).length y) (hx:Ext W0 W1) (a2:∀W,Jl X c w.1.size (W1.setRow c (putAt (P j a) 1 #[v])) W->Ew W W.1.size R y (Ft j.BK e.Ae (EH e)))=>(show∃a',Dl X c w (W1.setRow c (putAt (P j a) 1 #[v])) {j with BK:=Ft j.BK e.Ae (EH e)} a' from by
  have h1:CE c w (W1.setRow c (putAt (P j a) 1 #[v])):=(CE.ext (J.tr hx) ae).row _;have h2:=λW (T:Jl X c w.1.size (W1.setRow c (putAt (P j a) 1 #[v])) W)=>hb.to ae h1.below T
  subst hv;refine⟨{a with pa:=R,pc:=y},h1,setRow_heap ((hc.ext (J.tr hx))) _,λW T=> ?_⟩;have h3:=h2 W T;exact⟨a2 W T,h3.u,h3.o,h3.z,h3.b,h3.l,h3.s⟩))
 have⟨i0,aJ,aL,aM,aN⟩:=DM nY;have I0:=A aJ;have I1:=A aL;have I2:=A aM;have I3:=A aN;have av:=A (λ(W1:V) (h:Ext W0 W1)=>(CE.ext (J.tr h) ae:CE c w W1));have a8:=hb.p.1;have ar:=hb.p.2.1;unfold BM at ar;have a4:=λW (h:Ext W0 W)=>(HZ.ext h).cell 1
 have k1:=hJ.cell 1;have HN:=A o;have q1:(((w.alloc (.cells (Ah e g) 54)).alloc (.cells #[AK O 0 0] 24)).setCell ⟨(w.alloc (.cells (Ah e g) 54)).1.size,0,O⟩ (AK O 0 0)).cell? ⟨c,1,O⟩=(P j a)[1]?:=by rw[o];exact(HJ.ext (((Ad _ _).alloc (AS _) _).setCell (AS _) _)).cell 1
 clear hc hb hJ HZ J h0 hE aJ aL aM aN hn az;subst o;go_enter func131,ntmps131;go_wp2_with fail
 have ay:=A (show(w.alloc (.cells (Ah e g) 54)).1.size=w.1.size+1 by simp);have⟨W0,o⟩:=AP (w.alloc (.cells (Ah e g) 54));rw[o] at HJ aw aF ay;simp only[o] at HR HF av a4⊢;clear o HN q1 k1 z1;have⟨pa,aK⟩:=AP a.pa;simp only[aK] at HR⊢;clear aK;have ax:=A (show W0.1.size<=w.1.size+1 by rw[ay.o];exact AS _);go_loopw [5,7,22] (λat_ f_ i wr=>∃(k:Nat) (z:Int) (f:Bool),k<=ln j.BK/\i=M G (k:Int)/\at_=M G z/\f_=AU f/\Gy j.BK e.Ae k=(z,f)/\xt W0 (w.1.size+1) j.BK e.Ae (EH e) k wr) (λ_ _ i _=>((ln j.BK:Int)-B8 i).toNat)
 case atStart=>exact⟨0,_,_,D,rfl,rfl,rfl,rfl,(Ad _ _).alloc (AS _) _,_,[],Bx.at_ ay.o,⟨rfl,.inl ⟨rfl,rfl⟩⟩,rfl,λi hi=>absurd hi D⟩
 obtain⟨k,z,f,hk,rfl,rfl,rfl,ab,hx,v,Bg,ad,ho,ao,ap⟩:=hrel;by_cases a0:k<ln j.BK
 .obtain⟨b,off,rfl,hB,hcell⟩:=(HR.o wr hx).2.2 D;have⟨Ai,ci,c1,aB⟩:=hcell k a0;have hd:=aQ.o k;have an:=aS.o k;have⟨ring,au⟩:=AP (j.BK.getD k []);have K:Gy j.BK e.Ae (k+1)=(G.wrap (z-(ln ring:Int)),f||(!f&&AQ (z<(ln ring:Int)))):=by simp only[Gy];rw[ab,au]
  have N:LZ j.BK e.Ae (EH e) k=if !f&&AQ (z<(ln ring:Int)) then ring.set z.toNat (EH e) else ring:=by unfold LZ;rw[ab,au]
  rw[au] at c1 aB hd;rw[ab] at an;have KC:=b1W wr Ai ci (Cg ring) aB (JW _) (iC _) QM;rw[BL] at KC;have KC:=A KC;have s:=A hx;have d:=A ad;have L:=A ho;have ac:=A ao;have al:=A ap;have aZ:=ad.cell;clear hx ad ho ao ap hcell aB au ab;cases f with
  |true=>
   have ag:=A K;have aj:=A (N.trans (by rw[Bool.not_true,Ji];rfl):LZ j.BK e.Ae (EH e) k=ring);clear K N an;go_wp2_with(first
    |(refine Ln _ rfl _ _ 22 rfl W0.1.size 117 i0 (AK O 0 0) 1 24 underlying22 I0.o I1.o I2.o I3.o rfl Z _ _ _ rfl C.o ⟨W1.1.size,0,O⟩ 1 1 [AK r (ln ring) c1] rfl rfl (V.news_of_block (cs:=#[AK r (ln ring) c1]) (t:=117) (fr:=(0,0)) NB.o) ew Fp D (BJ s.size l.size) ?_;intro v' w2 I B _;have ai:=A I;have ah:=A B;have⟨A3,n3,c3,af⟩:=Fx.of I;subst af;have b3:=((d.below l.o d.lt).grown C.o B Z).cell;have f3:=((d.below l.o d.lt).grown C.o B Z).frozen;clear I B)
    |(go_at_call 202;refine KC.mono ?_;rintro e W1 ⟨v1,rfl,H,E⟩;have⟨r,c1,aC,_⟩:=F1 H (BL _) (JW ring);subst aC;have b1:=(d.below E d.lt).cell;have a5:=A H;have l:=A (E.tr ((Ad _ _).alloc (AS _) (.cells #[AK r (ln ring) c1] 117)));have b2:=(d.below l.o d.lt).cell;have C:=A (EV L.o l.o);have NB:=A (Bx.new W1 117 (AK r (ln ring) c1));have ak:=A (Lv (EV H ((Ad _ _).alloc (AS _) (.cells #[AK r (ln ring) c1] 117))) s.size);clear H E))
   go_round
   case rel=>exact⟨k+1,_,_,D,by go_num,rfl,rfl,ag.trans (by first|rfl|simp[lZ]),gD s.o d.o L.o ac.o al.o l.o (by rw[aj.o];exact ak.o) ai.o ah.o ax.o⟩
   simp[B8];omega
  |false=>
   by_cases hz:z<(ln ring:Int)
   .have⟨p1,p2⟩:=an F;have t1:AQ (z<(ln ring:Int))=AL:=CP hz;rw[t1] at K N;dsimp only at p1;obtain⟨m,rfl⟩:∃m:Nat,z=(m:Int):=⟨z.toNat,D⟩;have aR:=A (show m<ln ring by omega);rw[show G.wrap ((m:Int)-(ln ring:Int))=(m:Int)-(ln ring:Int) from DF _ D] at K;have ag:=A K;have aj:=A (N.trans BE:LZ j.BK e.Ae (EH e) k=ring.set m (EH e));clear K N an p2;go_wp2_with(first
     |(refine Ln _ rfl _ _ 22 rfl W0.1.size 117 i0 (AK O 0 0) 1 24 underlying22 I0.o I1.o I2.o I3.o rfl Z _ _ _ rfl C.o ⟨W1.1.size,0,O⟩ 1 1 [AK (Q ⟨S,0,O⟩) (ln ring) cp] rfl rfl (V.news_of_block (cs:=#[AK (Q ⟨S,0,O⟩) (ln ring) cp]) (t:=117) (fr:=(0,0)) NB.o) ew Fp D (BJ s.size l.size) ?_;intro v' w2 I B _;have ai:=A I;have ah:=A B;have⟨A3,n3,c3,af⟩:=Fx.of I;subst af;have b3:=((d.below l.o d.lt).grown C.o B Z).cell;have f3:=((d.below l.o d.lt).grown C.o B Z).frozen;clear I B)
     |(refine OD rfl 40 _ _ rfl _ _ _ rfl rfl 40 _ aE.o U HS.o U ?_;have hW:=CL (n:=S) aX.o aD.o (putAt cur (m*7) #[M G e.sx,M G e.sy,M G e.ID,M G e.II,AU e.DX,M G e.I9,M G e.IF]);have b1:=(d.below hW d.lt).cell;have l:=A (Ext.tr hW ((Ad _ _).alloc (AS _) (.cells #[(AK (Q ⟨S,0,O⟩) (ln ring) cp)] 117)));have b2:=(d.below l.o d.lt).cell;have C:=A (EV L.o l.o);have NB:=A (Bx.at_ (W:=(W1.setRow S (putAt cur (m*7) #[M G e.sx,M G e.sy,M G e.ID,M G e.II,AU e.DX,M G e.I9,M G e.IF]))) (t:=117) (v:= AK (Q ⟨S,0,O⟩) (ln ring) cp) (n:=W1.1.size) AV);have ak:=A (EV (Xy (k:=7) (x:=FA (EH e)) (BJ s.size aD.o) aE.o aT.o aU.o aV.o aW.o (BL _) (JW ring) F aR.o) ((Ad _ _).alloc (AS _) (.cells #[(AK (Q ⟨S,0,O⟩) (ln ring) cp)] 117)));clear hW)
     |(go_at_call 202;refine KC.mono ?_;rintro e W1 ⟨v1,rfl,H,E⟩;obtain⟨S,cp,cur,rfl,aI,hh,q1,q2,q3,q4⟩:=Pr H D;have aE:=A hh;have aT:=A q1;have aU:=A q2;have aV:=A q3;have aW:=A q4;have aD:=A aI;have aX:=A E;have HS:=A (show m*7+7<=cur.size by rw[q3];omega);have zz:=λi=>(aF.ext (s.tr E)).cell i;clear H E hh q1 q2 q3 q4 aI))
    go_round
    case rel=>exact⟨k+1,_,_,D,by go_num,rfl,rfl,ag.trans (by first|rfl|simp[lZ]),gD s.o d.o L.o ac.o al.o l.o (by rw[aj.o,Nl,show Cg (ring.set m (EH e))=(Cg ring).set m (FA (EH e)) from eK ..];exact ak.o) ai.o ah.o ax.o⟩
    simp[B8];omega
   have t1:AQ (z<(ln ring:Int))=AM:=Bw hz;rw[t1] at K N;have ag:=A K;have aj:=A (N.trans BE:LZ j.BK e.Ae (EH e) k=ring);clear K N an;go_wp2_with(first
    |(refine Ln _ rfl _ _ 22 rfl W0.1.size 117 i0 (AK O 0 0) 1 24 underlying22 I0.o I1.o I2.o I3.o rfl Z _ _ _ rfl C.o ⟨W1.1.size,0,O⟩ 1 1 [AK r (ln ring) c1] rfl rfl (V.news_of_block (cs:=#[AK r (ln ring) c1]) (t:=117) (fr:=(0,0)) NB.o) ew Fp D (BJ s.size l.size) ?_;intro v' w2 I B _;have ai:=A I;have ah:=A B;have⟨A3,n3,c3,af⟩:=Fx.of I;subst af;have b3:=((d.below l.o d.lt).grown C.o B Z).cell;have f3:=((d.below l.o d.lt).grown C.o B Z).frozen;clear I B)
    |(go_at_call 202;refine KC.mono ?_;rintro e W1 ⟨v1,rfl,H,E⟩;have⟨r,c1,aC,_⟩:=F1 H (BL _) (JW ring);subst aC;have b1:=(d.below E d.lt).cell;have l:=A (E.tr ((Ad _ _).alloc (AS _) (.cells #[AK r (ln ring) c1] 117)));have C:=A (EV L.o l.o);have NB:=A (Bx.new W1 117 (AK r (ln ring) c1));have ak:=A (Lv (EV H ((Ad _ _).alloc (AS _) (.cells #[AK r (ln ring) c1] 117))) s.size);clear H E))
   go_round
   case rel=>exact⟨k+1,_,_,D,by go_num,rfl,rfl,ag.trans (by grind [IntWalk.i64_left]),gD s.o d.o L.o ac.o al.o l.o (by rw[aj.o];exact ak.o) ai.o ah.o ax.o⟩
   grind [B8]
 obtain rfl:k=ln j.BK:=D;have am:=aO.o;rw[ab] at am;have s:=A hx;have aZ:=ad.cell;cases f with
 |false=>
  have aq:=A (am.trans BE:Le j.BK e.Ae=6);clear ad ho ao ap hx ab am;go_wp2;go_ret;exact⟨by rw[aq.o];rfl,av.o _ s.o,λh=>absurd (aq.symm.trans h) Z⟩
 |true=>
  have aq:=A (am.trans BE:Le j.BK e.Ae=0);have L:=A ho;have ac:=A ao;have al:=A ap;have aP:=A (HJ.ext hx);have⟨r,n1,c1,hv⟩:=Fx.of ho;subst hv;clear ad ho ao ap hx ab am;go_wp2_with(refine OD rfl 24 _ _ rfl _ _ _ rfl rfl 34 _ aP.o U (PO U) U ?_)
  go_ret;have aA:=L.o;have ar:∀i,i<(Ft j.BK e.Ae (EH e)).length->wr.ownsRow W0.1.size 40 7 (Bg.getD i Ba) ((Ft j.BK e.Ae (EH e)).getD i []).length (Cg ((Ft j.BK e.Ae (EH e)).getD i [])).flatten:=by
   intro i hi;rw[Rg] at hi;rw[ff _ _ _ hi];exact al.o i hi
  rw[<-Rg j.BK e.Ae (EH e)] at aA;have⟨A2,aG,a3,_⟩:=rg_of aA (by rw[ac.o,Rg]) ar;have a1:∀W,Jl X c w.1.size (wr.setRow c (putAt (P j a) 1 #[AK r n1 c1])) W->Ew W W.1.size A2 aG (Ft j.BK e.Ae (EH e)):=by
   intro W T;have aY:Jl X c W0.1.size (wr.setRow c (putAt (P j a) 1 #[AK r n1 c1])) W:=⟨T.1,λb h1 h2=>T.2 b h1 (h2.imp id (BJ aw.size))⟩;have aH:∀{aa:AN} {t:Bb} {q m:Nat} {Y:List AN},wr.ownsRow W0.1.size t q aa m Y->W.ownsRow W0.1.size t q aa m Y:=λh=>Sr (ka h (.inr (λe=>by have:=(DS h c e).1;have:=aw.size;omega)) _) aY
   have⟨A3,a6,af,a9⟩:=rg_of (aH aA) (by rw[ac.o,Rg]) (λi hi=>aH (ar i hi))
   grind
  exact⟨by rw[aq.o];rfl,(av.o _ s.o).row _,λ_=>HF.o wr _ A2 aG a3 s.o a1⟩
end
section
open Kp
attribute [local go_sem] Eb Hj Iy Iz J3 Hk Ka Kb Kc J8 J9 Jp Kd Ke JD JE JF Kf Kg Kh
section
theorem a9U(f:S->β)(l:List S)(i:Nat)(x:S):DZ (l.map f) i (f x)=(DZ l i x).map f:=by
 unfold DZ;simp[List.map_take,List.map_drop]
structure MR(W0:V)(t:Bb)(k n i:Nat)(rows:List (List AN))(x:List AN)(val:Nat->AN)(L:Nat->Bool)(B:Nat->AN)(W:V):Prop where
 Bg:∀q,L q=AL->q≠5->q≠9->q≠10->B q=val q
 ext:Ext W0 W
 Ag:L 10=AM->L 5=AL->W.ownsRow W0.1.size t k (B 5) n rows.flatten
 Nw:L 10=AM->L 9=AL->∃J,B 9=AK (Q ⟨J,0,O⟩) 1 1/\Az W J t x/\(L 5=AL->(B 5).ownBlock≠Q J)
 ord:L 10=AL->L 5=AL/\L 9=AL
 ins:L 10=AL->W.ownsRow W0.1.size t k (B 10) (n+1) (DZ rows i x).flatten
variable {W0 W : V} {t : Bb} {k n i : Nat} {rows : List (List AN)} {x : List AN} {val : Nat → AN} {L : Nat → Bool} {B : Nat → AN}
def MR.BI(h:Ext W0 W):MR W0 t k n i rows x val (λ_=>AM) B W:=
 ⟨λ_ h=>Aq,h,λ_ h=>Aq,λ_ h=>Aq,λh=>Aq,λh=>Aq⟩
def MR.pure(h:MR W0 t k n i rows x val L B W){q:Nat}(f:q≠5)(g:q≠9)(d:q≠10){v:AN}(j:v=val q):MR W0 t k n i rows x val (Cn L q) (B7 B q v) W:=by
 refine⟨λm hm a b c=> ?_,h.ext,?_,?_,?_,?_⟩
 .by_cases e:m=q
  .subst e;rw[Iw];exact j
  rw[DP e];rw[Bz e] at hm;exact h.Bg m hm a b c
 .rw[Bz (Ej d),Bz (Ej f),DP (Ej f)];exact h.Ag
 .rw[Bz (Ej d),Bz (Ej g),Bz (Ej f),DP (Ej g),DP (Ej f)];exact h.Nw
 .rw[Bz (Ej d),Bz (Ej f),Bz (Ej g)];exact h.ord
 rw[Bz (Ej d),DP (Ej d)];exact h.ins
theorem MR.clone(h:MR W0 t k n i rows x val L B W)(d:L 10=AM){v:AN}(hx:Ext W W')(f:W'.ownsRow W.1.size t k v n rows.flatten):MR W0 t k n i rows x val (Cn L 5) (B7 B 5 v) W':=by
 refine⟨λm hm a b c=> ?_,h.ext.tr hx,?_,?_,?_,?_⟩
 .rw[DP a];rw[Bz a] at hm;exact h.Bg m hm a b c
 .intro _ _;rw[Iw];exact Lv f h.ext.size
 .rw[Bz Z,Bz Z,DP Z];intro a b;have⟨J,e,g,_⟩:=h.Nw a b;refine⟨J,e,g.ext hx,λ_=> ?_⟩;rw[Iw];intro j;have:=(DS f J j).1;have:=g.lt;omega
 .exact fO
 exact fO
theorem MR.build(h:MR W0 t k n i rows x val L B W)(d:L 10=AM)(hx:Ext W W')(g:Az W' J t x)(j:W.1.size<=J):MR W0 t k n i rows x val (Cn L 9) (B7 B 9 (AK (Q ⟨J,0,O⟩) 1 1)) W':=by
 refine⟨λm hm a b c=> ?_,h.ext.tr hx,?_,?_,?_,?_⟩
 .rw[DP b];rw[Bz b] at hm;exact h.Bg m hm a b c
 .rw[Bz Z,Bz Z,DP Z];intro a b;exact EV (h.Ag a b) hx
 .rw[Bz (k:=10) Z,Vb,Bz (k:=5) Z,Iw,DP (k:=5) Z];intro a _;refine⟨J,F,g,λf e=> ?_⟩;have:=(DS (h.Ag a f) J e).2;omega
 .exact fO
 exact fO
theorem MR.insert(h:MR W0 t k n i rows x val L B W)(e:L 5=AL)(f:L 9=AL){v:AN}(hx:At W0.1.size W W')(d:W'.ownsRow W0.1.size t k v (n+1) (DZ rows i x).flatten):MR W0 t k n i rows x val (Cn L 10) (B7 B 10 v) W':=by
 refine⟨λm hm a b c=> ?_,h.ext.trans hx,?_,?_,?_,?_⟩
 .rw[DP c];rw[Bz c] at hm;exact h.Bg m hm a b c
 .rw[Vb];intro h;cases h
 .rw[Vb];intro h;cases h
 .intro _;rw[Bz (k:=5) Z,Bz (k:=9) Z];exact⟨e,f⟩
 intro _;rw[Iw];exact d
def GM(c b:Nat)(e:Ed)(R:Option An)(n y m:Nat):Nat->AN
 |0=> Ap (Q ⟨c,0,O⟩)
 |1=> Ap (Q ⟨c,0,O⟩)
 |2=> Ap (Q ⟨c,0,O⟩)
 |3=> Ap (Q ⟨c,4,O⟩)
 |4=> AK R n y
 |6=> M G (m:Int)
 |7=> Ap (Q ⟨b,35,O⟩)
 |8=> M G e.Av
 |11=> Ap (Q ⟨c,0,O⟩)
 |12=> Ap (Q ⟨c,4,O⟩)
 |_=>Ba
def a2O(w:V)(c:Nat)(j:BG)(a:BU)(e:Ed)(g:AN)(E:JC w c j a){X:Nat->Prop}(S:Bc X w c j a)(hp:Fi j.BR=0):
  AZ AO 133 #[Ap (Q ⟨c,0,O⟩),AW (Ah e g)] w λx w'=>x=Ac (M G (if j.BR.contains e.Av then 7 else 0))/\CE c w w'/\(j.BR.contains e.Av=AM->∃a',Dl X c w w' {j with BR:=DZ j.BR (j.BR.countP (· <e.Av)) e.Av} a'):=by
 have ab:=E.lt;have⟨hs,ag⟩:=vX hp;have⟨W0,o⟩:=AP (w.alloc (.cells (Ah e g) 54));have Y:EC W0 w.1.size (Ah e g):=TW;have t:Ext w W0:=TP;have hJ:=E.ext t;have HU:=A (λ(W:V) (h:Ext W0 W)=>(((S.u.below ((t.tr h).mono (FM ab))).more (BJ (FM ab) (t.tr h).size)):BB 1 W W.1.size a.ua a.uc (Cy j.BR)));have KB:=A (λ(W:V) (h:Ext W0 W)=>b1f W a.ua a.uc j.BR e.Av (HU W h) hs D);have H:j.BR.countP (· <e.Av)<=ln j.BR:=List.countP_le_length;have⟨m,hm⟩:=AP (j.BR.countP (· <e.Av));have⟨d,k⟩:=AP (j.BR.contains e.Av);rw[hm] at H;simp only[hm,k] at KB;rw[hm,k];have N:=A hJ;have am:=A t;have ad:=A Y;have HW:=A o;have b4:=λw' (h:Ext W0 w')=>(N.ext h).cell 4
 have an:=λw' (h:Ext W0 w')=>(ad.ext h).cell 35
 have ac:=A (λ(W1:V) (hx:Ext W0 W1)=>(CE.ext (t.tr hx) ab:CE c w W1));cases d with
 |true=>
  clear E S hJ Y t hm k hs hp H o;go_enter func133,ntmps133;go_wp2_with fail
  rw[HW.o]
  go_region_held3(λw'=>Ext W0 w') (first|exact C|exact Ext.dr W0) (first|(go_at_call 203;refine(KB _ (Ext.dr W0)).q λW1 R=>?_;have C:Ext W0 W1:=(Ext.dr W0).tr R))
  go_wp2;go_ret;exact⟨F,ac _ C⟩
 |false=>
  have ai:DZ (Cy j.BR) m [M G e.Av]=Cy (DZ j.BR m e.Av):=a9U (λn:Int=>([M G n]:List AN)) j.BR m e.Av;have HF:=A (λ(W1:V) (v:AN) (hx:Ext W0 W1) (r:W1.ownsRow W0.1.size 3 1 v (ln j.BR+1) (DZ (Cy j.BR) m [M G e.Av]).flatten)=>aH (l:=DZ j.BR m e.Av) E S (t.tr hx) (by rw[ai] at r;rw[BL,fu _ _ _ H];exact Lv r t.size));have KC:=A (λ(W:V) (h:Ext W0 W)=>rh W a.ua a.uc (Cy j.BR) (HU W h) (G9 (f:=λn=>[M G n]) (λ_=>rfl) _) (XM _) QM);have P:=A (show(Cy j.BR).length=ln j.BR by exact BL _);have aj:=A H;have ak:=A ag;clear E S hJ Y t hm k hs hp H ai ag o;go_enter func133,ntmps133;go_wp2_with fail
  rw[HW.o]
  go_region_held3(λw'=>Ext W0 w') (first|exact C|exact Ext.dr W0) (first|(go_at_call 203;refine(KB _ (Ext.dr W0)).q λW1 R=>?_;have C:Ext W0 W1:=(Ext.dr W0).tr R))
  go_wp2_with fail
  have al:=A C;clear R C;refine Fz U (Qf 13
   (λL B W=>MR W0 3 1 (ln j.BR) m (Cy j.BR) [M G e.Av] (GM c w.1.size e a.ua (ln j.BR) a.uc m) L B W) U ?step ?tail _ (λ_=>MR.BI (al.tr (Ext.dr _))))
  case step=>
   intro i L B W hi z y k;have b:=A y;rcases(show i=0\/i=1\/i=2\/i=3\/i=4\/i=5\/i=6\/i=7\/i=8\/i=9\/i=10\/i=11\/i=12 by omega) with rfl|rfl|rfl|rfl|rfl|rfl|rfl|rfl|rfl|rfl|rfl|rfl|rfl<;>clear hi y<;>refine DC rfl (λK s=> ?_)
   .go_simp;exact s _ _ ⟨GM c w.1.size e a.ua (ln j.BR) a.uc m 0,by simp[B7,GM],b.pure Z Z Z rfl⟩
   .go_simp;exact s _ _ ⟨GM c w.1.size e a.ua (ln j.BR) a.uc m 1,by simp[B7,GM],b.pure Z Z Z rfl⟩
   .have d1:=b.Bg 1 (k 1 U) Z Z Z;simp only[GM] at d1;go_simp;exact s _ _ ⟨GM c w.1.size e a.ua (ln j.BR) a.uc m 2,by simp[B7,GM,d1],b.pure Z Z Z rfl⟩
   .have d2:=b.Bg 2 (k 2 U) Z Z Z;simp only[GM] at d2;go_simp;exact s _ _ ⟨GM c w.1.size e a.ua (ln j.BR) a.uc m 3,by simp[B7,GM,d2],b.pure Z Z Z rfl⟩
   .have d3:=b.Bg 3 (k 3 U) Z Z Z;simp only[GM] at d3;have mm:=(N.ext b.ext).cell 4;go_simp;exact s _ _ ⟨GM c w.1.size e a.ua (ln j.BR) a.uc m 4,by simp[B7,GM,d3],b.pure Z Z Z rfl⟩
   .have d4:=b.Bg 4 (k 4 U) Z Z Z;simp only[GM] at d4;have hx:=A b.ext;have aa:L 10=AM:=by
      cases q:L 10 with
      |false=>rfl
      |true=>exact absurd (b.ord q).1 (by rw[z];decide)
    go_simp;rw[<-P.o];refine(KC _ hx).mono ?_;rintro x W2 ⟨v,rfl,r,hX⟩;rw[P.o] at r;exact s _ _ ⟨v,by simp[B7,d4,P.o],b.clone aa hX r⟩
   .go_simp;exact s _ _ ⟨GM c w.1.size e a.ua (ln j.BR) a.uc m 6,by simp[B7,GM],b.pure Z Z Z rfl⟩
   .go_simp;exact s _ _ ⟨GM c w.1.size e a.ua (ln j.BR) a.uc m 7,by simp[B7,GM],b.pure Z Z Z rfl⟩
   .have d7:=b.Bg 7 (k 7 U) Z Z Z;simp only[GM] at d7;have mm:=(ad.ext b.ext).cell 35;go_simp;exact s _ _ ⟨GM c w.1.size e a.ua (ln j.BR) a.uc m 8,by simp[B7,GM,d7],b.pure Z Z Z rfl⟩
   .have d8:=b.Bg 8 (k 8 U) Z Z Z;simp only[GM] at d8;have aa:L 10=AM:=by
      cases q:L 10 with
      |false=>rfl
      |true=>exact absurd (b.ord q).2 (by rw[z];decide)
    go_simp;exact s _ _ ⟨_,by simp[B7,d8],b.build aa ((Ad _ _).alloc (AS _) _) (Az.new _ _ _) (AS _)⟩
   .have d6:=b.Bg 6 (k 6 U) Z Z Z;simp only[GM] at d6;have h5:=k 5 U;have h9:=k 9 U;have r:=b.Ag z h5;have⟨J,T,hr,ah⟩:=b.Nw z h9;have KI:=A (a99 W W0.1.size (ln j.BR) m J 1 (B 5) (Cy j.BR) [M G e.Av] r P (G9 (f:=λn=>[M G n]) (λ_=>rfl) _) (XM _) F ew hr (ah h5) aj (by have:=ak.o;omega) b.ext.size);clear r hr ah;go_simp;refine KI.mono ?_;rintro x W2 ⟨v,rfl,r,hX⟩;exact s _ _ ⟨v,by simp[B7,d6,T],b.insert h5 h9 hX r⟩
   .have d0:=b.Bg 0 (k 0 U) Z Z Z;simp only[GM] at d0;go_simp;exact s _ _ ⟨GM c w.1.size e a.ua (ln j.BR) a.uc m 11,by simp[B7,GM,d0],b.pure Z Z Z rfl⟩
   have ae:=b.Bg 11 (k 11 U) Z Z Z;simp only[GM] at ae;go_simp;exact s _ _ ⟨GM c w.1.size e a.ua (ln j.BR) a.uc m 12,by simp[B7,GM,ae],b.pure Z Z Z rfl⟩
  case tail=>
   intro L B W z y;have af:=y.Bg 12 (z 12 Z) Z Z Z;simp only[GM] at af;have r:=y.ins (z 10 Z);have⟨A1,n1,c1,T⟩:=Fx.of r;rw[T] at r;have HO:=A r;have I:=A y.ext;have mm:=(N.ext I).cell 4;have nn:=(N.ext I).frozen 4;clear r y;simp only[af,T,FV,FY];go_wp2;go_ret;exact⟨F,((ac W I).put 4 _),HF W _ I HO⟩
end
end
section
open Kp
attribute [local go_sem] Eb Iy Hk J9
def Gf(c b:Nat)(x y:Int):Nat->AN
 |2=> Ap (Q ⟨b,1,O⟩)
 |3=> M G x
 |4=> Ap (Q ⟨b,35,O⟩)
 |5=> M G y
 |7=> Ap (Q ⟨c,2,O⟩)
 |8=>Ba
 |10=> Ap (Q ⟨c,3,O⟩)
 |_=> Ap (Q ⟨c,0,O⟩)
def b0w(w:V)(c:Nat)(j:BG)(a:BU)(e:Ed)(g:AN)(v:JC w c j a){X:Nat->Prop}(I:Bc X w c j a):
  AZ AO 132 #[Ap (Q ⟨c,0,O⟩),AW (Ah e g)] w λx w'=>x=Ac (M G 0)/\Dl X c w w' {j with Ki:=e.Ae,CF:=e.Av} a:=by
 have J:=v.lt;have⟨W0,o⟩:=AP (w.alloc (.cells (Ah e g) 54));have s:EC W0 w.1.size (Ah e g):=TW;have H:Ext w W0:=TP;have n:=v.ext H;have P:=A (λ(q:Nat)=>(show Dl X c w ((((W0.drewN q).setCell ⟨c,2,O⟩ (M G e.Ae)).setCell ⟨c,3,O⟩ (M G e.Av))) {j with Ki:=e.Ae,CF:=e.Av} a from by
  have Y:CE c w (W0.drewN q):=CE.ext (below_drewN H q) J;have h1:=(Y.put 2 (M G e.Ae)).put 3 (M G e.Av);have aa:JC (W0.drewN q) c j a:=n.ext (below_drewN (Ad _ _) q);have hp:JC ((W0.drewN q).setCell ⟨c,2,O⟩ (M G e.Ae)) c {j with Ki:=e.Ae} a:=aa.put _ F;refine⟨h1,hp.put _ F,λW hA=> ?_⟩;have h2:=I.to J h1.below hA;exact⟨h2.p,h2.u,h2.o,h2.z,h2.b,h2.l,h2.s⟩))
 have k2:=n.cell 2;have k3:=n.cell 3;have S:=n.frozen 2;have T:=n.frozen 3;have z1:=s.cell 1;have z2:=s.cell 35;have R:=A o;clear o v I n;go_enter func132,ntmps132;go_wp2_with fail
 rw[R.o];refine Fz U (Qf 11
  (λL B W=>(∀k,L k=AL->B k=Gf c w.1.size e.Ae e.Av k)/\W=if L 8=AL then W0.drew.setCell ⟨c,2,O⟩ (M G e.Ae) else W0.drew) U ?step ?tail _ (λ_=>⟨λk h=>by simp at h,AV⟩))
 case step=>
  intro i L B W hi r u m;obtain⟨b,l⟩:=u;have t:EC W w.1.size (Ah e g):=by
   rw[l];split
   .exact EC.Bo (w:=W0.drew) s (by show w.1.size≠c;omega) _
   exact s
  have y1:=t.cell 1;have y2:=t.cell 35;have N:∀i,i≠8->(W=if Cn L i 8=AL then W0.drew.setCell ⟨c,2,O⟩ (M G e.Ae) else W0.drew):=by
   intro i h;have:Cn L i 8=L 8:=by unfold Cn;rw[Af (Ej h)]
   rw[this];exact l
  have y:=A l;have d:=A N;clear t l N;rcases(show i=0\/i=1\/i=2\/i=3\/i=4\/i=5\/i=6\/i=7\/i=8\/i=9\/i=10 by omega) with rfl|rfl|rfl|rfl|rfl|rfl|rfl|rfl|rfl|rfl|rfl<;>clear hi<;>refine DC rfl (λK f=> ?_)
  .go_simp;exact f _ _ ⟨Gf c w.1.size e.Ae e.Av 0,by simp[B7,Gf],Pw b rfl,d.o 0 Z⟩
  .go_simp;exact f _ _ ⟨Gf c w.1.size e.Ae e.Av 1,by simp[B7,Gf],Pw b rfl,d.o 1 Z⟩
  .go_simp;exact f _ _ ⟨Gf c w.1.size e.Ae e.Av 2,by simp[B7,Gf],Pw b rfl,d.o 2 Z⟩
  .have d2:=b 2 (m 2 U);simp only[Gf] at d2;go_simp;exact f _ _ ⟨Gf c w.1.size e.Ae e.Av 3,by simp[B7,Gf,d2],Pw b rfl,d.o 3 Z⟩
  .go_simp;exact f _ _ ⟨Gf c w.1.size e.Ae e.Av 4,by simp[B7,Gf],Pw b rfl,d.o 4 Z⟩
  .have d4:=b 4 (m 4 U);simp only[Gf] at d4;go_simp;exact f _ _ ⟨Gf c w.1.size e.Ae e.Av 5,by simp[B7,Gf,d4],Pw b rfl,d.o 5 Z⟩
  .have d0:=b 0 (m 0 U);simp only[Gf] at d0;go_simp;exact f _ _ ⟨Gf c w.1.size e.Ae e.Av 6,by simp[B7,Gf,d0],Pw b rfl,d.o 6 Z⟩
  .have d6:=b 6 (m 6 U);simp only[Gf] at d6;go_simp;exact f _ _ ⟨Gf c w.1.size e.Ae e.Av 7,by simp[B7,Gf,d6],Pw b rfl,d.o 7 Z⟩
  .have d3:=b 3 (m 3 U);simp only[Gf] at d3;have D:=b 7 (m 7 U);simp only[Gf] at D;have l:=y.o;rw[Af (by rw[r];decide)] at l;subst l;clear y d;have m2:W0.drew.cell? ⟨c,2,O⟩=_:=k2;have n2:W0.drew.frozen? ⟨c,2,O⟩=AM:=S;go_simp;exact f _ _ ⟨Ba,by simp[B7,d3,D];rfl,Pw b rfl,by rw[Aj (show Cn L 8 8=AL by simp[Cn])];rfl⟩
  .have d1:=b 1 (m 1 U);simp only[Gf] at d1;go_simp;exact f _ _ ⟨Gf c w.1.size e.Ae e.Av 9,by simp[B7,Gf,d1],Pw b rfl,d.o 9 Z⟩
  have E:=b 9 (m 9 U);simp only[Gf] at E;go_simp;exact f _ _ ⟨Gf c w.1.size e.Ae e.Av 10,by simp[B7,Gf,E],Pw b rfl,d.o 10 Z⟩
 case tail=>
  intro L B W r u;obtain⟨b,l⟩:=u;rw[Aj (r 8 Z)] at l;subst l;have C:=b 5 (r 5 Z);have z:=b 10 (r 10 Z);simp only[Gf] at C z;have m3:W0.drew.cell? ⟨c,3,O⟩=_:=k3;have n3:W0.drew.frozen? ⟨c,3,O⟩=AM:=T;simp only[C,z,FV,FY];go_wp2;go_ret;exact⟨F,P.o 1⟩
end
section
open Kp
attribute [local go_sem] Hj Iz J3 Ka Kb Kc J8 Jp Kd Ke JD JE JF Kf Kg Kh
structure PJ(j:BG):Prop where
 name:ln j.name<=40
 r:iq j.BK
 u:ln j.BR<=17
 o:Uw j.Bi
 z:ln j.BT<=16
 b:aC j.CV
 l:aJ j.Bt
 s:aA (ln j.BW)
def a1q(w:V)(j:BG)(a:BU)(H:EP w w.1.size j a)(I:ln j.BK.flatten<=4000000000):
  AZ AO 23 #[AW (P j a)] w λx w'=>Lg (PJ j) x/\Ext w w':=by
 have b:=A (show Ext w (w.alloc (.cells (P j a) 34)) from(Ad _ _).alloc (AS _) _);have o:JC (w.alloc (.cells (P j a) 34)) w.1.size j a:=Bq w _;have⟨c,s⟩:=AP (w.alloc (.cells (P j a) 34));rw[s] at b o;have t:=A s;have m:=A (λW (h:Ext c W) i=>(JC.ext o h).cell i);have f:=A (λW (h:Ext c W)=>H.grow (b.tr h));have q:=A (Ext.B9 c);have U:=A (λW (h:Ext c W)=>a2S W a.pa a.pc j.BK (f W h).p 8 rfl I);have T:=A (λW (h:Ext c W)=>a1K W a.oa a.oc j.Bi (f W h).o);have R:=A (λW (h:Ext c W)=>a2r W a.ba a.bc j.CV (f W h).b);have S:=A (λW (h:Ext c W)=>a1D W a.la a.lc j.Bt (f W h).l);have X:=A (λW=>a2D W a.sa a.sc (ln j.BW));have d:=A (show Lg (PJ j) (Ac (AU AL)) from⟨_,F,λh=>Aq⟩);have l:=(f c q);have aa:=l.u.1;have ab:=l.u.2.1;have ac:=l.z.1;have ad:=l.z.2.1;rw[BL] at aa ac;unfold BM at ab ad;clear H I s o l;by_cases g0:40<ln j.name
 case pos=>
  go_enter func23,ntmps23;go_wp2_with fail
  go_ret;exact⟨d,by rw[t.o];exact b⟩
 go_enter func23,ntmps23;go_wp2_with(go_at_call 52;fail)
 rw[t.o];refine(U _ q).mono ?_;rintro e W2 ⟨⟨Y,rfl,h1⟩,z⟩;have g:=A (q.tr z);have c2:=m _ g;have J:=A h1;clear z h1;cases Y
 case true=>
  go_wp2_with fail
  go_ret;exact⟨d,b.tr g⟩
 by_cases g2:17<ln j.BR
 case pos=>
  go_wp2_with fail
  go_ret;exact⟨d,b.tr g⟩
 go_wp2_with(go_at_call 24;fail)
 refine(T _ g).mono ?_;rintro e W3 ⟨⟨Z,rfl,u⟩,B⟩;have k:=A (g.tr B);have c3:=m _ k;have K:=A u;clear B u c2;cases Z
 case true=>
  go_wp2_with fail
  go_ret;exact⟨d,b.tr k⟩
 by_cases g4:16<ln j.BT
 case pos=>
  go_wp2_with fail
  go_ret;exact⟨d,b.tr k⟩
 go_wp2_with(go_at_call 53;fail)
 refine(R _ k).mono ?_;rintro e W4 ⟨⟨b5,rfl,v⟩,C⟩;have n:=A (k.tr C);have c4:=m _ n;have L:=A v;clear C v c3;cases b5
 case true=>
  go_wp2_with fail
  go_ret;exact⟨d,b.tr n⟩
 go_wp2_with(go_at_call 25;fail)
 refine(S _ n).mono ?_;rintro e W5 ⟨⟨b6,rfl,y⟩,E⟩;have r:=A (n.tr E);have c5:=m _ r;have N:=A y;clear E y c4;cases b6
 case true=>
  go_wp2_with fail
  go_ret;exact⟨d,b.tr r⟩
 go_wp2_with(go_at_call 54;refine(X _).mono ?_;rintro e W6 ⟨⟨b7,rfl,h7⟩,rfl⟩)
 go_ret;exact⟨⟨_,F,λh=>⟨D,J TR,D,K TR,D,L TR,N TR,h7 (QC.1 h).2⟩⟩,b.tr r⟩
end
end Go.Proofs.YtalhfkdhdggdaaaGreatDoor
