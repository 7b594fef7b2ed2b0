/- ChangeLogs of kingpostlaw58: part 10 of its proof (merged and shortened by program). -/
import Derived.Test.YtalhfkdhdggdaaaGreatDoorL07
import Derived.Test.YtalhfkdhdggdaaaGreatDoorL08
set_option linter.unusedVariables false
set_option linter.unusedSimpArgs false
set_option linter.defProp false
set_option maxHeartbeats 8000000
set_option maxRecDepth 100000
open Go.RowKit Go.Shelf Go.Proofs.Tryz
open And renaming intro→Ci
open Array renaming replicate→E7
open Bool renaming false→AM,true→AL
open ByteArray renaming size→OY
open Decidable renaming decide→AQ
open Go renaming World→V,Value→AN,Calls→AZ,TypeId→Bb,Addr→An,maxLen→BM,undef→Ba,Ending→CI,wpList→CQ,MemPlace→Dw,KeepsOthers→GF,MapEntry→FG,DataW→D6,Operand→F0,Act→BV
open Go.Act renaming put→G7
open Go.Builtin renaming zeroCells→Is,append_→JN
open Go.DataW renaming trod→ET
open Go.Ending renaming returned→Ac
open Go.Fence renaming wide→Ha
open Go.IntKind renaming i64→G
open Go.Lib renaming hasPrefix→DH,cut→Bj,compareInt→Dv,itoa→CY,decDigits→ES,split→Da,byteCells→IV
open Go.MapKept renaming IsKey→MV
open Go.Proofs.Tryz renaming prog→AO,underlying54→Cc,underlying34→DV,underlying25→FD,underlying3→GQ
open Go.Region renaming wanted→Ir
open Go.RowKit renaming intOf→B8,Below→At
open Go.Value renaming agg→Ea,oneCell'→Ks,slice→FO,ownBlock→Hv,int→Gr,slice→AK,string→AT,bool→AU,pointer→Ap,int→M,agg→AW,tuple→BO
open Go.World renaming setCell→Di,cell?→Dx,setRow→F8,frozen?→Hb
open List renaming replicate→F7,range→G8,getD→Gs,length→ln
open Nat renaming gcd→DO,reduceAdd→Hw
open Option renaming none→O,some→Q,getD→FF
open Or renaming inl→Cf
open UInt8 renaming ofNat→GR
open Go.Proofs.YtalhfkdhdggdaaaGreatDoor
variable{p:Prop}{w:V}{a:BV}
namespace Go.Proofs.YtalhfkdhdggdaaaGreatDoor
section
open Kp
def b0X(b:Br)(k:Nat):Q8 b k=(if AQ ((b.Aa.getD k (0,0)).1<0)||AQ ((b.Aa.getD k (0,0)).1>=(b.Aa.getD k (0,0)).2)||AQ ((b.Aa.getD k (0,0)).2>b.length) then 2 else if AQ (0<k)&&AQ ((b.Aa.getD k (0,0)).1<=(b.Aa.getD (k-1) (0,0)).2) then 10 else 0):=by
 unfold Q8;dsimp only;have a:((b.Aa.getD k (0,0)).1<0\/b.length<(b.Aa.getD k (0,0)).2\/(b.Aa.getD k (0,0)).2<=(b.Aa.getD k (0,0)).1)↔(AQ ((b.Aa.getD k (0,0)).1<0)||AQ ((b.Aa.getD k (0,0)).1>=(b.Aa.getD k (0,0)).2)||AQ ((b.Aa.getD k (0,0)).2>b.length))=AL:=by
  simp only[QJ,Cx];omega
 have c:(0<k/\(b.Aa.getD k (0,0)).1<=(b.Aa.getD (k-1) (0,0)).2)↔(AQ (0<k)&&AQ ((b.Aa.getD k (0,0)).1<=(b.Aa.getD (k-1) (0,0)).2))=AL:=by
  simp only[Ez,Cx]
 simp only[a,c]
def Yf{p:Prop}(h:p:=by
  have a:=H.o;simp at a;subst a;go_enter func153,ntmps153;go_wp2_with(go_at_call 230;refine(kB _ _ _ _).mono ?_;rintro e W1 ⟨rfl,rfl⟩)
  go_ret;exact⟨F,C.o⟩):p:=h
theorem gX(h:p:=by
  have d:=S.o;simp at d;have a:=U.o _ d Z;subst a;clear d;go_wp2;go_ret;exact⟨F,s.o.tr f.o⟩):p:=h
def a8r(b:Br)(m:Option An)(n:Nat)(w:V)(u:BB 2 w w.heap.size m n (J6 b.Aa)):
  AZ AO 153 #[AW (JP b m n).toArray] w λx w'=>x=Ac (M G (Gn b))/\Ext w w':=by
 have h1:=u.1;have h2:=u.2.1;rw[BL] at h1;unfold BM at h2;have I:=A (Az.new w 48 (JP b m n));have C:=A (show Ext w (w.alloc (.cells (JP b m n).toArray 48)) from(Ad _ _).alloc (AS _) _);have Y:=A (λ(W:V) (hx:Ext w W)=>((u.below hx).more hx.size:BB 2 W W.heap.size m n (J6 b.Aa)));have c:=λi=>I.o.cell i
 clear u;obtain⟨v,a⟩:=AP (Gn b);rw[a];have q:v=(if !(N b.BX 1 1000&&N b.C4 1 1000&&N b.length 1 65536&&N b.count 0 4096&&N b.cost 0 1073741824) then 2 else if 16<b.Aa.length then 4 else EI (Q8 b) b.Aa.length):=a.symm;clear a;obtain⟨l,J⟩:∃ai:Nat->Int,Q8 b=ai:=⟨_,F⟩;rw[J] at q;have X:=A (λk=>J▸b0X b k);clear J;obtain⟨wd,dp,ln,ct,co,Aa⟩:=b;dsimp only at h1 Y q X;obtain⟨b0,t0⟩:=AP (N wd 1 1000);obtain⟨b1,t1⟩:=AP (N dp 1 1000);obtain⟨b2,t2⟩:=AP (N ln 1 65536);obtain⟨b3,t3⟩:=AP (N ct 0 4096);obtain⟨b4,t4⟩:=AP (N co 0 1073741824);rw[t0,t1,t2,t3,t4] at q;have H:=A q;clear q;cases b0
 ·exact Yf
 cases b1
 ·exact Yf
 cases b2
 ·exact Yf
 cases b3
 ·exact Yf
 cases b4
 ·exact Yf
 have r:v=(if 16<Aa.length then 4 else EI l Aa.length):=H.o;clear H;by_cases t:16<Aa.length
 case pos=>
  have t5:AQ ((Aa.length:Int)>16)=AL:=CP D;rw[Aj t] at r;subst r;clear t;go_enter func153,ntmps153;go_wp2_with(go_at_call 230;refine(kB _ _ _ _).mono ?_;rintro e W1 ⟨rfl,rfl⟩)
  go_ret;exact⟨F,C.o⟩
 have t5:AQ ((Aa.length:Int)>16)=AM:=Bw D;rw[Af t] at r;have ab:=A r;clear t r;go_enter func153,ntmps153;go_wp2_with(go_at_call 230;refine(kB _ _ _ _).mono ?_;rintro e W1 ⟨rfl,rfl⟩)
 clear c;go_loopw [3] (λi wr=>∃k:Nat,i=M G (k:Int)/\k<=Aa.length/\Ext (w.alloc (.cells (JP ⟨wd,dp,ln,ct,co,Aa⟩ m n).toArray 48)) wr/\∀j,j<k->l j=0) (λi _=>((Aa.length:Int)-B8 i).toNat)
 case atStart=>exact⟨0,F,D,Ad _ _,λj h=>D⟩
 case round=>
  obtain⟨k,rfl,hk,o,ac⟩:=hrel;have HX:=A o;have s:=A (C.o.tr o);have B:=A ac;have c:=λi=>(I.o.ext o).cell i
  clear ac;by_cases af:k<Aa.length
  ·obtain⟨bk,ok,rfl,hb,hc⟩:=a7E (Y.o _ s.o) D;obtain⟨y0,y1⟩:=hc k af;have U:=A (λ(z:Int) (h:l k=z) (hz:z≠0)=>show v=z by rw[ab.o,<-h];exact Im af B.o (by rw[h];exact hz));have aa:=A (λh:l k=0=>Jt (P:=λj=>l j=0) B.o h);have d:=X.o k;obtain⟨fr,K⟩:=AP ((Aa.getD k (0,0)).1);obtain⟨y,L⟩:=AP ((Aa.getD k (0,0)).2);rw[K,L] at d;rw[K] at y0;rw[L] at y1;have HC:=A hc;have R:=A hb;obtain⟨p1,q1⟩:=AP (AQ (fr<0));obtain⟨p2,q2⟩:=AP (AQ (fr>=y));obtain⟨p3,q3⟩:=AP (AQ (y>ln));rw[q1,q2,q3] at d;have S:=A d;have RG:=Az.new wr 142 [M G fr,M G y];have f:=A (show Ext wr (wr.alloc (.cells #[M G fr,M G y] 142)) from(Ad _ _).alloc (AS _) _);have cg:=λi=>RG.cell i
   have cb:=λi=>(I.o.ext (o.tr f.o)).cell i
   clear o hc hb K L RG d;cases p1
   case true=>exact gX
   cases p2
   case true=>exact gX
   cases p3
   case true=>exact gX
   have g:l k=(if AQ (0<k)&&AQ (fr<=(Aa.getD (k-1) (0,0)).2) then 10 else 0):=S.o;by_cases aj:k=0
   ·subst aj;have E:=A (aa.o g);rw[TN,Dh] at y0 y1;clear g;go_wp2_with fail
    go_quiet (fail)
    go_wp2;exact⟨⟨1,by go_num,D,below_drewN (HX.o.tr f.o) _,E.o⟩,Bm⟩
   ·have t5:AQ ((k:Int)>0)=AL:=CP D;have t6:0<k:=D;rw[CP t6,Hu] at g;have w1:G.wrap ((k:Int)-1)=((k-1:Nat):Int):=by rw[DF _ D];omega
    have ae:k-1<Aa.length:=D;obtain⟨z0,z1⟩:=HC.o (k-1) ae;have ah:=(f.o.cell (p:=⟨bk,ok+(k-1)*2+1,O⟩) R.o).trans z1;have ak:=(f.o.cell (p:=⟨bk,ok+(k-1)*2,O⟩) R.o).trans z0;obtain⟨pt,ag⟩:=AP ((Aa.getD (k-1) (0,0)).2);rw[ag] at ah g;obtain⟨k1,ad⟩:=AP (k-1);rw[ad] at w1 ae ak ah;clear z0 z1 ag ad;obtain⟨p5,q5⟩:=AP (AQ (fr<=pt));rw[q5] at g;have T:=A g;clear g;cases p5
    ·have E:=A (aa.o T.o);go_wp2_with fail
     go_quiet (fail)
     go_wp2;exact⟨⟨k+1,by go_num,D,below_drewN (HX.o.tr f.o) _,E.o⟩,Bm⟩
    ·have a:=U.o 10 T.o Z;subst a;go_wp2_with fail
     go_quiet (fail)
     go_wp2;go_ret;exact⟨F,below_drewN (s.o.tr f.o) _⟩
  ·obtain rfl:k=Aa.length:=D;have a:v=0:=by rw[ab.o];exact KH B.o
   subst a;go_wp2;go_ret;exact⟨F,s.o⟩
def a4q(w:V)(r:Option An)(B:Nat)(l:List Br)(q:Jr w w.1.size r B l):
  AZ AO 84 #[AK r (ln l) B] w λx w'=>x=Ac (M G (Kk l))/\Ext w w':=by
 have h1:=q.1;have h2:=q.2.1;unfold BM at h2;have L:=A (λ(W:V) (hx:Ext w W)=>((q.below hx).more hx.size:Jr W W.1.size r B l));clear q;have⟨v,a⟩:=AP (Kk l);rw[a];have m:v=(if 64<ln l then 4 else EI (λi=>Gn (l.getD i Fy)) (ln l)):=a.symm;clear a;by_cases o:64<ln l
 case pos=>
  have S:AQ ((ln l:Int)>64)=AL:=CP D;rw[Aj o] at m;subst m;clear o;go_enter func84,ntmps84;go_wp2;go_ret;exact⟨F,Ad _ _⟩
 have S:AQ ((ln l:Int)>64)=AM:=Bw D;rw[Af o] at m;have R:=A m;clear o m;go_enter func84,ntmps84;go_wp2;go_loopw [3] (λi wr=>∃k:Nat,i=M G (k:Int)/\k<=ln l/\Ext w wr/\∀j,j<k->Gn (l.getD j Fy)=0) (λi _=>((ln l:Int)-B8 i).toNat)
 case atStart=>exact⟨0,F,D,Ad _ _,λj h=>D⟩
 obtain⟨k,rfl,hk,C,E⟩:=hrel;have d:=A C;have s:=A E;clear E;by_cases J:k<ln l
 .obtain⟨b,off,f,rfl,hb,hc⟩:=Vs (L _ C) D;have⟨e,K⟩:=hc k J;have n:=A (a8r (l.getD k Fy) (f k).1 (f k).2 wr K);have t:=A (λ(z:Int) (h:Gn (l.getD k Fy)=z) (c:z≠0)=>show v=z by rw[R.o,<-h];exact Im (f:=λi=>Gn (l.getD i Fy)) J s (by rw[h];exact c));have u:=A (λh:Gn (l.getD k Fy)=0=>Jt (P:=λj=>Gn (l.getD j Fy)=0) s h);have⟨x,hx⟩:=AP (l.getD k Fy);have⟨Y,H⟩:=AP ((f k).1);have⟨gc,I⟩:=AP ((f k).2);rw[hx,H,I] at e n;rw[hx] at t u;have⟨z,c⟩:=AP (Gn x);rw[c] at n t u;clear c;obtain⟨wd,X,ln,U,co,Aa⟩:=x;have T:=e 0 Z;have y1:=e 1 Z;have y2:=e 2 Z;have y3:=e 3 Z;have y4:=e 4 Z;have y5:=e 5 Z;rw[Dh] at T;clear e K C hc hx H I;by_cases c:z=0
  .subst c;have N:=A (u F);go_wp2_with(go_at_call 153;refine n.q λW1 g=>?_;have y:=A (Ext.tr d g);clear g)
   exact⟨⟨k+1,by go_num,D,y,N⟩,Bm⟩
  have tz:(z !=0)=AL:=Cd.2 c;have a:=t z F c;subst a;clear c;go_wp2_with(go_at_call 153;refine n.q λW1 g=>?_;have y:=A (Ext.tr d g);clear g)
  go_ret;exact⟨F,y⟩
 exact a0J
def a5c(w:V)(n o:Option An)(t u:Nat)(l:List Br)(g:Jr w w.1.size n t l)(k:Jr w w.1.size o u l):
  AZ AO 32 #[AK n (ln l) t,AK o (ln l) u] w λe w'=>e=Ac (AU AL)/\Ext w w':=by
 have h1:=g.1;have h2:=g.2.1;have ad:=k.1;have ab:=k.2.1;unfold BM at h2 ab;have B:=A (λ(W:V) (hx:Ext w W)=>((g.below hx).more hx.size:Jr W W.1.size n t l));have C:=A (λ(W:V) (hx:Ext w W)=>((k.below hx).more hx.size:Jr W W.1.size o u l));clear g k;go_enter func32,ntmps32;go_wp2;go_loopw [5] (λi wr=>UU w (ln l) i wr) (λi _=>((ln l:Int)-B8 i).toNat)
 case atStart=>exact⟨0,D,rfl,Ext.B9 _⟩
 obtain⟨m,hm,rfl,I⟩:=hrel;have HX:=A I;clear I;by_cases N:m<ln l
 .have tlt:AQ ((m:Int)<(ln l:Int))=AL:=CP D;have e3:(m:Int)<(ln l:Int):=D;obtain⟨b,off,f,rfl,-,-⟩:=Vs (B _ HX) D;obtain⟨b',ae,v,rfl,-,-⟩:=Vs (C _ HX) D;go_wp2_with fail
  simp only[List.append_eq,LO,Lm];refine On 74 U U (λW3 H=> ?_);have q:=A (HX.tr H);obtain⟨_,_,f,e,-,J⟩:=Vs (B _ q) D;obtain⟨_,_,v,e',-,L⟩:=Vs (C _ q) D;cases e;cases e';have⟨c,y⟩:=J m N;have⟨a,z⟩:=L m N;have⟨x,hx⟩:=AP (l.getD m Fy);rw[hx] at c a y z;have c0:=c 0 Z;have c1:=c 1 Z;have c2:=c 2 Z;have c3:=c 3 Z;have c4:=c 4 Z;have c5:=c 5 Z;have d0:=a 0 Z;have d1:=a 1 Z;have d2:=a 2 Z;have d3:=a 3 Z;have d4:=a 4 Z;have d5:=a 5 Z;rw[Dh] at c0 d0;have K:=a2v W3 (f m).1 (v m).1 (f m).2 (v m).2 (J6 x.Aa) y z (b1b _) (λr g aa=>by obtain⟨s,_,rfl⟩:=Jg.1 g;exact a6A _ _ aa);rw[show(J6 x.Aa).length=ln x.Aa from BL _] at K;have Y:=A K;have t0:(x.BX==x.BX)=AL:=Rz _;have t1:(x.C4==x.C4)=AL:=Rz _;have t2:(x.length==x.length)=AL:=Rz _;have t3:(x.count==x.count)=AL:=Rz _;have t4:(x.cost==x.cost)=AL:=Rz _;clear H J L c a y z K hx;refine vT (λj d=> ?_);have P:(j[11]?).bind (·.dst)=Q 28:=by rw[d];rfl
  have R:(j[24]?).bind (·.dst)=Q 41:=by rw[d];rfl
  have S:(j[37]?).bind (·.dst)=Q 54:=by rw[d];rfl
  have T:(j[50]?).bind (·.dst)=Q 67:=by rw[d];rfl
  have X:(j[63]?).bind (·.dst)=Q 80:=by rw[d];rfl
  clear d;simp only[S7,RC,FV,FY];iterate 74 first
   |(refine Wv (λK E=> ?_);(first|rw[Aj (Sj rfl P rfl rfl)]|rw[Aj (Sj rfl R rfl rfl)]|rw[Aj (Sj rfl S rfl rfl)]|rw[Aj (Sj rfl T rfl rfl)]|rw[Aj (Sj rfl X rfl rfl)]);go_simp;refine E _ ?_;clear E K)
   |still_step
  refine TM ?_;go_wp2_with(go_at_call 62;refine Y.q λW4 ac=>?_)
  exact⟨⟨m+1,D,AV,q.tr ac⟩,Bm⟩
 exact a0B
end
section
open Kp
attribute [local go_sem] Hj Iz J3 Ka Kb Kc J8 Jp Kd Ke JD JE JF Kf Kg Kh
structure kq(j:BG):Prop where
 name:ln j.name<=1000000
 BK:ln j.BK.flatten<=1000000
 ops:ln j.Bi<=32->∀i,i<ln j.Bi->Rv (j.Bi.getD i Bu)
 Bt:∀i,i<ln j.Bt->(j.Bt.getD i Fl).La.length<=50
def kC(w:V)(j:BG)(a a':BU)(I:EP w w.1.size j a)(J:EP w w.1.size j a'):
  AZ AO 9 #[AW (P j a),AW (P j a')] w λe w'=>e=Ac (AU AL)/\Ext w w':=by
 have⟨W0,d⟩:=AP ((w.alloc (.cells (P j a) 34)).alloc (.cells (P j a') 34));have u:Ext w W0:=mR;have K:=A u;have v:=A (show JC W0 w.1.size j a by rw[<-d];exact JC.ext (Bq w _) ((Ad _ _).alloc (AS _) _));have y:=A (show JC W0 (w.1.size+1) j a' by
  have h:=(Bq (w.alloc (.cells (P j a) 34)) (.cells (P j a') 34));rw[D5] at h;rw[<-d];exact h)
 have c:=A (I.grow u);have f:=A (J.grow u);have L:=A d;have R:=A (a6L W0 a.pa a'.pa a.pc a'.pc j.BK c.p f.p);have S:=A (λ(W:V) (h:Ext W0 W)=>a3A W a.ua a'.ua a.uc a'.uc j.BR (c.grow h).u (f.grow h).u);have T:=A (λ(W:V) (h:Ext W0 W)=>(show AZ AO 30 #[AK a.oa (ln j.Bi) a.oc,AK a'.oa (ln j.Bi) a'.oc] W λe w'=>e=Ac (AU AL)/\Ext W w' from by
  have:=a4X W a.oa a'.oa a.oc a'.oc (Fa j.Bi) (c.grow h).o (f.grow h).o (T0 _) (λx hx l=>by obtain⟨s,_,rfl⟩:=Jg.1 hx;exact a5e _ _ _ _ _ l);rwa[BL] at this))
 have U:=A (λ(W:V) (h:Ext W0 W)=>(show AZ AO 31 #[AK a.za (ln j.BT) a.zc,AK a'.za (ln j.BT) a'.zc] W λe w'=>e=Ac (AU AL)/\Ext W w' from by
  have:=a6d W a.za a'.za a.zc a'.zc (Fq j.BT) (c.grow h).z (f.grow h).z (rz _) (λx hx l=>by obtain⟨s,_,rfl⟩:=Jg.1 hx;exact a64 _ _ _ l);rwa[BL] at this))
 have X:=A (λ(W:V) (h:Ext W0 W)=>a5c W a.ba a'.ba a.bc a'.bc j.CV (c.grow h).b (f.grow h).b);have Y:=A (λ(W:V) (h:Ext W0 W)=>(show AZ AO 33 #[AK a.la (ln j.Bt) a.lc,AK a'.la (ln j.Bt) a'.lc] W λe w'=>e=Ac (AU AL)/\Ext W w' from by
  have:=a5m W a.la a'.la a.lc a'.lc (I6 j.Bt) (c.grow h).l (f.grow h).l (UJ _) (λx hx l=>by obtain⟨s,_,rfl⟩:=Jg.1 hx;exact a60 _ _ _ l);rwa[BL] at this))
 have Z:=A (λ(W:V) (h:Ext W0 W)=>(show AZ AO 34 #[AK a.sa (ln j.BW) a.sc,AK a'.sa (ln j.BW) a'.sc] W λe w'=>e=Ac (AU AL)/\Ext W w' from by
  have:=a65 W a.sa a'.sa a.sc a'.sc (Em j.BW) (c.grow h).s (f.grow h).s (rj _) (λx hx l=>by obtain⟨s,_,rfl⟩:=Jg.1 hx;exact a6K _ _ _ _ _ l);rwa[BL] at this))
 have g:=A (λ(W:V) (h:Ext W0 W)=>v.ext h);have k:=A (λ(W:V) (h:Ext W0 W)=>y.ext h);have p0:=v.cell;have q0:=y.cell;have Fv:=a5X j.Fv.BX j.Fv.length j.Fv.It j.Fv.tail;clear d u I J;go_enter func9,ntmps9;go_wp2_with(first
  |(go_at_call 34;refine(Z _ t).q λH b=>?_;have p7:=λi=>(g H (Ext.tr t b)).cell i;have q7:=λi=>(k H (Ext.tr t b)).cell i;have N:=A (Ext.tr t b);clear b)
  |(go_at_call 33;refine(Y _ r).q λE b=>?_;have p6:=λi=>(g E (Ext.tr r b)).cell i;have q6:=λi=>(k E (Ext.tr r b)).cell i;have t:=A (Ext.tr r b);clear b)
  |(go_at_call 32;refine(X _ q).q λD b=>?_;have p5:=λi=>(g D (Ext.tr q b)).cell i;have q5:=λi=>(k D (Ext.tr q b)).cell i;have r:=A (Ext.tr q b);clear b)
  |(go_at_call 31;refine(U _ o).q λC b=>?_;have p4:=λi=>(g C (Ext.tr o b)).cell i;have q4:=λi=>(k C (Ext.tr o b)).cell i;have q:=A (Ext.tr o b);clear b)
  |(go_at_call 30;refine(T _ n).q λB b=>?_;have p3:=λi=>(g B (Ext.tr n b)).cell i;have q3:=λi=>(k B (Ext.tr n b)).cell i;have o:=A (Ext.tr n b);clear b)
  |(go_at_call 29;refine(S _ m).q λz b=>?_;have p2:=λi=>(g z (Ext.tr m b)).cell i;have q2:=λi=>(k z (Ext.tr m b)).cell i;have n:=A (Ext.tr m b);clear b)
  |(go_at_call 28;rw[L.o];refine R.q λW1 b=>?_;have p1:=λi=>(g W1 b).cell i;have q1:=λi=>(k W1 b).cell i;have m:=A b;clear b))
 go_ret;exact⟨F,K.tr N⟩
end
section
open Kp
theorem VI{ops:Array Oper}{rest:List Oper}{o:Oper}{b:Exit->BV->V->Prop}(hw:Ir o (yielded ops a.tmps)=AL)(x:F0)(e:o.op= .load 34 x)
  (g:Nat)(hx:a.eval x=Ap (Q ⟨g,0,O⟩))(cs:Array AN)(d:w.1[g]?=Q (.cells cs 34 (0,0)))(hi:(AO.info? 34).map (·.size)=Q cs.size)
  (h:CQ AO ops b rest (a.put o.dst (AW cs)) w):CQ AO ops b (o::rest) a w:=
 Wt λ_ c=>by
  grind [wp_load_row,DV]
def PJ.Om{j:BG}(h:PJ j)(b:ln j.Bi<=32):∀i,i<ln j.Bi->UI (j.Bi.getD i Bu):=by
 intro i hi;rcases h.o.b5H with a|a
 .exact h.o.w i hi D
 omega
def PJ.fw{j:BG}(h:PJ j):kq j:=
 ⟨by have:=h.name;omega,by have:=h.r.f;omega,λa i hi=>(h.Om a i hi).sm,h.l.w⟩
structure Nf(j:BG):Prop where
 gr:PJ j
 o:ln j.Bi<=32
end
end Go.Proofs.YtalhfkdhdggdaaaGreatDoor
