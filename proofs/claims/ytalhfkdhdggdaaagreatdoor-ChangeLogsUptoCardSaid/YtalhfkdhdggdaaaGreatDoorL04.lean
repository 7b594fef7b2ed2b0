/- ChangeLogs of kingpostlaw58: part 4 of its proof (merged and shortened by program). -/
import Derived.Lib.AppendZeros
import Derived.Test.YtalhfkdhdggdaaaGreatDoorL02
import Derived.Test.YtalhfkdhdggdaaaGreatDoorL03
set_option linter.unusedVariables false
set_option linter.unusedSimpArgs false
set_option linter.defProp false
set_option maxHeartbeats 8000000
set_option maxRecDepth 100000
open Go.RowKit Go.Shelf Go.Proofs.Tryz
open And renaming intro→Ci
open Array renaming replicate→E7
open Bool renaming false→AM,true→AL
open ByteArray renaming size→OY
open Decidable renaming decide→AQ
open Go renaming World→V,Value→AN,Calls→AZ,TypeId→Bb,Addr→An,maxLen→BM,undef→Ba,Ending→CI,wpList→CQ,MemPlace→Dw,KeepsOthers→GF,MapEntry→FG,DataW→D6,Operand→F0,Act→BV
open Go.Act renaming put→G7
open Go.Builtin renaming zeroCells→Is,append_→JN
open Go.DataW renaming trod→ET
open Go.Ending renaming returned→Ac
open Go.Fence renaming wide→Ha
open Go.IntKind renaming i64→G
open Go.Lib renaming hasPrefix→DH,cut→Bj,compareInt→Dv,itoa→CY,decDigits→ES,split→Da,byteCells→IV
open Go.MapKept renaming IsKey→MV
open Go.Proofs.Tryz renaming prog→AO,underlying54→Cc,underlying34→DV,underlying25→FD,underlying3→GQ
open Go.Region renaming wanted→Ir
open Go.RowKit renaming intOf→B8,Below→At
open Go.Value renaming agg→Ea,oneCell'→Ks,slice→FO,ownBlock→Hv,int→Gr,slice→AK,string→AT,bool→AU,pointer→Ap,int→M,agg→AW,tuple→BO
open Go.World renaming setCell→Di,cell?→Dx,setRow→F8,frozen?→Hb
open List renaming replicate→F7,range→G8,getD→Gs,length→ln
open Nat renaming gcd→DO,reduceAdd→Hw
open Option renaming none→O,some→Q,getD→FF
open Or renaming inl→Cf
open UInt8 renaming ofNat→GR
open Go.Proofs.YtalhfkdhdggdaaaGreatDoor
variable{tmps:Array AN}{m pv g:Bool}{y z:ByteArray}{L:List Nat}{r:List UInt8×Int}{xs ad ar o:List AN}{k n0 T b i d j n base aa s it rb E ab B0:Nat}{R H:Option An}{p:Prop}{α:Type}{v1 v2 u v' X Y:AN}{w w' W W' W2 w1 W0 J:V}{t e e':Bb}{a ac:BV}
namespace Go.Proofs.YtalhfkdhdggdaaaGreatDoor
section
open Kp
attribute [local go_sem] Oper.semAt_some
def DG(k:Nat)(rows:List (List AN)):Prop:=∀r∈rows,ln r=k
theorem G9{f:α->List AN}(h:∀x,(f x).length=k)(l:List α):DG k (l.map f):=λr a=>by
 grind
theorem BB.stays{B:Nat}{rows:List (List AN)}(h:BB k w B R T rows)(hw:DG k rows)(l:CN n0 w w'):BB k w' B R T rows:=by
 obtain⟨h1,h2,c⟩:=h;refine⟨h1,h2,λhn=> ?_⟩;have⟨b,off,e,d,f⟩:=c hn;refine⟨b,off,e,d,λi hi j g=> ?_⟩;have a:=f i hi j g;have m:(rows.getD i []).length=k:=by
  rw[CM,Bv hi];exact hw _ (Ey hi)
 rw[Bv Al] at a⊢;exact l.cell a
def JW(r:List Sd):DG 7 (Cg r):=G9 (f:=FA) (λ_=>rfl) r
def Pm(r:List Sd):Prop:=∀s∈r,co s.x/\co s.y
def Oy{r:List Sd}(h:Pm r)(i:Nat):co (BA r i).x/\co (BA r i).y:=by
 unfold BA;by_cases hi:i<ln r
 .rw[CM,Bv hi];exact h _ (Ey hi)
 rw[CM,eE D];decide
theorem gN(r:List Sd)(i:Nat):FK r i=BA r ((i+ln r-1)%ln r):=rfl
theorem Rn(r:List Sd)(i:Nat):Bl r i=BA r ((i+1)%ln r):=rfl
theorem Yq{a B:Nat}{r:List Sd}(h:Bx W a 117 (AK R (ln r) T))(b:BB 7 W B R T (Cg r)):xx a R T r W:=⟨h.cell,B,b⟩
theorem Ext.stays(h:Ext w w')(hn:n0<=w.1.size):CN n0 w w':=CN.Iv h hn
theorem Ext.keeps(h:Ext w w'):GF w w':=⟨h.size,λb o a _=>(h.block b (Ee.1 a).1).trans a⟩
structure df(w:V)(R:Option An)(T:Nat)(r:List Sd)(k:Nat)(W:V):Prop where
 sum:Bx W w.1.size 3 (M G (Nd (λi=>(BA r i).x*(Bl r i).y-(BA r i).y*(Bl r i).x) k))
 it:Bx W (w.1.size+1) 117 (AK R (ln r) T)
 sl:BB 7 W w.1.size R T (Cg r)
 low:At w.1.size w W
theorem df.stays{r:List Sd}(h:df w R T r k W)(a:CN n0 W W')(hn:w.1.size<=n0):df w R T r k W':=
 ⟨h.sum.stays a,h.it.stays a,h.sl.stays (JW r) a,h.low.trans (a.below.mono hn)⟩
def Pj(s c:Int)(Ag a:Sd)(bl:Nat):Nat->AN
 |0=> M G s
 |1=> Ap (Q ⟨bl,7,O⟩)
 |2=> AW (FA Ag).toArray
 |3=> AW (FL Ag.x Ag.y).toArray
 |4=> Ap (Q ⟨bl,14,O⟩)
 |5=> AW (FA a).toArray
 |6=> AW (FL a.x a.y).toArray
 |7=> M G c
 |_=> M G (s+c)
def a5Q(w:V)(R:Option An)(T:Nat)(r:List Sd)(hr:BB 7 w w.1.size R T (Cg r))(y:Pm r)(hn:ln r<=1000):
  AZ AO 191 #[AK R (ln r) T] w λe w'=>e=Ac (M G (Q0 r))/\Ext w w':=by
 refine(De (n:=9)).1 (R8 func191 F trivial ?_);simp only[ntmps191,Nn,FX,Jy,Hw,Nat.reduceSub,OX,PQ,PS,PR,Lm,LO];gi_wp2_with(refine⟨trivial,?_⟩;gi_at_call 185;refine(De.2 (Y7 _ _ _ _)).mono ?_;rintro e w' ⟨rfl,rfl⟩)
 refine VJ (gf:=248) (lb:=#[Ap (Q ⟨w.1.size+1,0,O⟩)]) F (FZ func248 U F)
  (Y5 (w.1.size+1) R T r D) (λk x e=>by rw[e];rfl)
  (df w R T r) (λ_ _ _=>False) (λk W W' h j=>h.stays j Bk) (λc k W W' h j=>h) (λk W h=>Yq h.it h.sl) ?BI ?round ?done ?stop
 case stop=>intro ad c k W t hk h;exact h.elim
 case BI=>exact⟨(Bx.at_ F).alloc _,Bx.at_ AV,hr.below (GB _ _ _),GB _ _ _⟩
 case done=>
  intro ad W t hi hK;have c0:=hi.sum.cell;have HL:=A hi.low;clear hi
  gi_wp2
  refine⟨AV,.inl ⟨_,_,rfl,PV hK,?_⟩⟩;have j:=CN.putObj (n0:=w.1.size) (.deferred O) hK F RJ;exact⟨M G (Q0 r),by simp[results,results191,go_sem,Q0],rfl,HL.trans j.below⟩
 intro l k x W K hk hx hi hK;obtain rfl:=hx;have HK:=A hK;have RA:=A (Az.new W 201 (Dt (FK r k) (BA r k) (Bl r k)));have z:=A (show Ext W (W.alloc (.cells (Dt (FK r k) (BA r k) (Bl r k)).toArray 201)) from(Ad _ _).alloc (AS _) _);have B:=A hi;clear hK hi;refine VG (NR _ _) U ?_;go_wp2_with(refine C7 rfl 201 (.tmp 5) (.tmp 9) rfl W.1.size (Dt (FK r k) (BA r k) (Bl r k)).toArray rfl rfl 201 _ (Bq _ _) U U U ?_;rw[OE _ _ _ _ rfl])
 refine Tx (HK _ _ z (λW2 S ah=> ?_));have P:=(B.stays (z.stays (n0:=w.1.size) (by have:=B.low.size;omega)) (AS _)).stays S Bk;have R2:Az W2 W.1.size 201 (Dt (FK r k) (BA r k) (Bl r k)):=S.cells _ _ _ _ RA;clear HK B z RA S;have⟨aa,ab⟩:=Oy y k;have⟨L,N⟩:=Oy y ((k+1)%ln r);rw[<-Rn] at L N;have⟨Ag,u⟩:=AP (BA r k);have⟨d,q⟩:=AP (Bl r k);have E:=A (show Nd (λi=>(BA r i).x*(Bl r i).y-(BA r i).y*(Bl r i).x) (k+1)=Nd (λi=>(BA r i).x*(Bl r i).y-(BA r i).y*(Bl r i).x) k+(Ag.x*d.y-Ag.y*d.x) by rw[Nd,u,q]);have ac:=a4L (n:=k) (m:=8589934592) (f:=λi=>(BA r i).x*(Bl r i).y-(BA r i).y*(Bl r i).x) (λi _=>by
  have⟨a1,a2⟩:=Oy y i;have⟨b1,b2⟩:=Oy y ((i+1)%ln r);rw[<-Rn] at b1 b2;have X:=RL (a:=(BA r i).x) (b:=(Bl r i).y) (m:=65536) (n:=65536) D D;have Y:=RL (a:=(BA r i).y) (b:=(Bl r i).x) (m:=65536) (n:=65536) D D;simp only[Int.reduceMul] at X Y;show _<=(BA r i).x*(Bl r i).y-(BA r i).y*(Bl r i).x/\(BA r i).x*(Bl r i).y-(BA r i).y*(Bl r i).x<=_;omega)
 have ae: -8589934592<=Ag.x*d.y-Ag.y*d.x/\Ag.x*d.y-Ag.y*d.x<=8589934592:=by
  rw[u] at aa ab;rw[q] at L N;have X:=RL (a:=Ag.x) (b:=d.y) (m:=65536) (n:=65536) D D;have Y:=RL (a:=Ag.y) (b:=d.x) (m:=65536) (n:=65536) D D;simp only[Int.reduceMul] at X Y;omega
 have I:=P.sum;have⟨s,j⟩:=AP (Nd (λi=>(BA r i).x*(Bl r i).y-(BA r i).y*(Bl r i).x) k);rw[j] at E ac I;have ag:G.wrap (s+(Ag.x*d.y-Ag.y*d.x))=s+(Ag.x*d.y-Ag.y*d.x):=DF _ D;rw[u] at aa ab;rw[q] at L N;rw[u,q] at R2;have⟨c,af⟩:=AP (Ag.x*d.y-Ag.y*d.x);rw[af] at E ag;rw[u,q];have I2:=A P;clear ac ae j P hn
 gi_wp2
 refine Ui U (jD (NR _ _) U 9
  (λw'=>Ext W2 w') (λi v _=>v=Pj s c Ag d W.1.size i) (λ_=>AM) U (λ_ _ h k=>h.tr k) (λ_ _ _ _ h _=>h) (λ_ _ _ _ h=>Aq) ?step ?tail _ (Ext.dr W2))
 case step=>
  intro i C w' hi t g;have cA:=λi=>(R2.ext t).cell i
  have cS:=(I.stays (t.stays (n0:=0) (D8 _))).cell;rcases(show i=0\/i=1\/i=2\/i=3\/i=4\/i=5\/i=6\/i=7\/i=8 by omega) with rfl|rfl|rfl|rfl|rfl|rfl|rfl|rfl|rfl<;>clear hi<;>refine DC rfl (λK hK=> ?_)
  .exact Ek
  .exact hK _ _ ⟨_,F,Ext.B9 _,F,λh=>Aq⟩
  .have d1:=g 1 U;simp only[Pj] at d1;go_simp;exact hK _ _ ⟨_,by simp[d1,Pj],Ext.B9 _,rfl,λh=>Aq⟩
  .have d2:=g 2 U;go_simp;refine(Me Ag _).q λW1 o=>?_;exact hK _ _ ⟨_,by simp[d2,Pj],o,rfl,λh=>Aq⟩
  .exact hK _ _ ⟨_,F,Ext.B9 _,F,λh=>Aq⟩
  .have d4:=g 4 U;simp only[Pj] at d4;go_simp;exact hK _ _ ⟨_,by simp[d4,Pj],Ext.B9 _,rfl,λh=>Aq⟩
  .have d5:=g 5 U;go_simp;refine(Me d _).q λW1 o=>?_;exact hK _ _ ⟨_,by simp[d5,Pj],o,rfl,λh=>Aq⟩
  .have d3:=g 3 U;have d6:=g 6 U;go_simp;refine(vk Ag.x Ag.y d.x d.y _ D D D D).q λW1 o=>?_;exact hK _ _ ⟨_,by grind [Pj],o,rfl,λh=>Aq⟩
  have d0:=g 0 U;have d7:=g 7 U;simp only[Pj] at d0 d7;go_simp;exact hK _ _ ⟨_,by grind [Pj],Ext.B9 _,rfl,λh=>Aq⟩
 case tail=>
  intro C w' t hv _;have v8:=hv 8 Z;simp only[Pj] at v8;clear hv;have J:=I.stays (t.stays (n0:=0) (D8 _));have cS:=J.cell;have fS:=J.frozen;have HD:=A t
  gi_wp2
  have H:=I2.stays (HD.stays (n0:=w.1.size) (by have:=I2.low.size;omega)) (AS _);refine⟨HD.keeps.trans (Gq _ _ _),?_,?_,?_,?_⟩
  .rw[E.o];exact J.put _
  .exact H.it.Bo AV _
  .exact H.sl.below ((Ad _ _).setCell (p:=⟨w.1.size,0,O⟩) (AS _) _)
  exact H.low.setCell (p:=⟨w.1.size,0,O⟩) (AS _) _
structure WT(w:V)(R:Option An)(T:Nat)(r:List Sd)(x y:Int)(k:Nat)(W:V):Prop where
 p:Az W w.1.size 203 (FL x y)
 odd:Bx W (w.1.size+1) 4 (AU (MO (Oz r x y) k))
 it:Bx W (w.1.size+2) 117 (AK R (ln r) T)
 sl:BB 7 W w.1.size R T (Cg r)
 low:At w.1.size w W
theorem Az.stays{l:List AN}(h:Az W b t l)(a:CN n0 W W'):Az W' b t l:=a.cells _ _ _ _ h
theorem WT.stays{r:List Sd}{x y:Int}(h:WT w R T r x y k W)(a:CN n0 W W')(hn:w.1.size<=n0):WT w R T r x y k W':=
 ⟨h.p.stays a,h.odd.stays a,h.it.stays a,h.sl.stays (JW r) a,h.low.trans (a.below.mono hn)⟩
theorem vy{r:List Sd}{x y:Int}(h:WT w R T r x y k W)(b:Oz r x y k=AM)(hx:Ext W W'):WT w R T r x y (k+1) W':=by
 have a:=h.stays (hx.stays (n0:=w.1.size) (by have:=h.low.size;omega)) (AS _);refine⟨a.p,?_,a.it,a.sl,a.low⟩;rw[MO,b,Af Z];exact a.odd
def a6U(a b:Int)(W:V):Sem.run AO (Instr.field 203 (AW (FL a b).toArray) 0) W= .ok (M G a) W:=U
def vW(w:V)(R:Option An)(T:Nat)(r:List Sd)(x y:Int)(hr:BB 7 w w.1.size R T (Cg r))(hc:Pm r)(hn:ln r<=1000):
  AZ AO 192 #[AK R (ln r) T,AW (FL x y).toArray] w λe w'=>e=Ac (AU (Rr r x y))/\Ext w w':=by
 refine(De (n:=9)).1 (R8 func192 F trivial ?_);simp only[ntmps192,Nn,FX,Jy,Hw,Nat.reduceSub,OX,PQ,PS,PR,Lm,LO];gi_wp2_with(refine⟨trivial,?_⟩;gi_at_call 185;refine(De.2 (Y7 _ _ _ _)).mono ?_;rintro e w' ⟨rfl,rfl⟩)
 refine VJ (gf:=248) (lb:=#[Ap (Q ⟨w.1.size+2,0,O⟩)]) F (FZ func248 U F)
  (Y5 (w.1.size+2) R T r D) (λk x e=>by rw[e];rfl)
  (WT w R T r x y) (λ_ _ _=>False) (λk W W' h H=>h.stays H Bk) (λc k W W' h H=>h) (λk W h=>Yq h.it h.sl) ?BI ?round ?done ?stop
 case stop=>intro aa c k W t hk h;exact h.elim
 case BI=>exact⟨((Az.new _ _ _).ext (GB _ _ _)),((Bx.at_ AV).alloc _),Bx.at_ AV,hr.below (VD _ _ _ _),VD _ _ _ _⟩
 case done=>
  intro aa W t hi d;have c0:=hi.odd.cell;have HL:=A hi.low;clear hi
  gi_wp2
  refine⟨AV,.inl ⟨_,_,rfl,PV d,?_⟩⟩;have H:=CN.putObj (n0:=w.1.size) (.deferred O) d F RJ;exact⟨AU (Rr r x y),by simp[results,results192,go_sem,Rr],rfl,HL.trans H.below⟩
 intro l k z W K hk hx hi d;obtain rfl:=hx;have Y:=A d;have Z:=A (Az.new W 201 (Dt (FK r k) (BA r k) (Bl r k)));have L:=A (show Ext W (W.alloc (.cells (Dt (FK r k) (BA r k) (Bl r k)).toArray 201)) from(Ad _ _).alloc (AS _) _);have j:=A hi;clear d hi;refine VG (NR _ _) U ?_;go_wp2_with(refine C7 rfl 201 (.tmp 7) (.tmp 12) rfl W.1.size (Dt (FK r k) (BA r k) (Bl r k)).toArray rfl rfl 201 _ (Bq _ _) U U U ?_;rw[OE _ _ _ _ rfl])
 refine Tx (Y _ _ L (λW2 S ad=> ?_));have v:=(j.stays (L.stays (n0:=w.1.size) (by have:=j.low.size;omega)) (AS _)).stays S Bk;have b:Az W2 W.1.size 201 (Dt (FK r k) (BA r k) (Bl r k)):=S.cells _ _ _ _ Z;have ac:=j.it.lt;clear Y j L Z S;have⟨C,E⟩:=Oy hc k;have⟨f,g⟩:=Oy hc ((k+1)%ln r);rw[<-Rn] at f g;have⟨Ag,B⟩:=AP (BA r k);have⟨a,u⟩:=AP (Bl r k);have m:=A (show Oz r x y k=(((a.x-Ag.x)==0)&&AQ (x<Ag.x)&&(AQ (y<Ag.y) !=AQ (y<a.y))) by unfold Oz Ko;rw[B,u]);rw[B] at C E;rw[u] at f g;rw[B,u] at b;rw[B,u];have q:=A v;have⟨o,P⟩:=AP (MO (Oz r x y) k);have ab:=A P;have s:=v.odd;rw[P] at s;have N:=v.p;clear v P hn;have cA:=λi=>b.cell i
 have hf:=λW=>a6U (a.x-Ag.x) (a.y-Ag.y) W
 cases I:((a.x-Ag.x)==0)
 .have HP:=A (show Oz r x y k=AM by rw[m.o,I];rfl);exact yW
 cases X:AQ (x<Ag.x)
 .have HP:=A (show Oz r x y k=AM by rw[m.o,I,X];rfl);exact yW
 cases t3:AQ (y<Ag.y)<;>cases t4:AQ (y<a.y)
 .exact yq
 .exact yr
 .exact yr
 exact yq
structure TD(w:V)(R:Option An)(T:Nat)(r:List Sd)(k:Nat)(W:V):Prop where
 res:Bx W w.1.size 4 (AU AM)
 it:Bx W (w.1.size+1) 117 (AK R (ln r) T)
 sl:BB 7 W w.1.size R T (Cg r)
 low:At w.1.size w W
 ok:∀j,j<k->P8 r j=AM
theorem TD.stays{r:List Sd}(h:TD w R T r k W)(a:CN n0 W W')(hn:w.1.size<=n0):TD w R T r k W':=
 ⟨h.res.stays a,h.it.stays a,h.sl.stays (JW r) a,h.low.trans (a.below.mono hn),h.ok⟩
structure WN(w:V)(r:List Sd)(c:Code)(k:Nat)(W:V):Prop where
 ret:c= .ret
 res:Bx W w.1.size 4 (AU AM)
 low:At w.1.size w W
 bad:P8 r k=AL
theorem WN.stays{r:List Sd}{c:Code}(h:WN w r c k W)(a:CN n0 W W')(hn:w.1.size<=n0):WN w r c k W':=
 ⟨h.ret,h.res.stays a,h.low.trans (a.below.mono hn),h.bad⟩
def LR(a Ag b:Sd)(bl lo:Nat):Nat->AN->V->Prop
 |0,v,_=>v=Ap (Q ⟨bl,0,O⟩)
 |1,v,_=>v=AW (FA a).toArray
 |2,v,_=>v=AW (FL a.x a.y).toArray
 |3,v,_=>v=Ap (Q ⟨bl,7,O⟩)
 |4,v,_=>v=AW (FA Ag).toArray
 |5,v,_=>v=AW (FL Ag.x Ag.y).toArray
 |6,v,_=>v=AW (FL (Ag.x-a.x) (Ag.y-a.y)).toArray
 |7,v,_=>v=AW (Dt a Ag b).toArray
 |8,v,_=>v=AW (FL (b.x-Ag.x) (b.y-Ag.y)).toArray
 |_,v,w=>Px lo v w
theorem b00{a Ag b:Sd}{bl lo i:Nat}{v:AN}(h:LR a Ag b bl lo i v w)(hx:Ext w w'):LR a Ag b bl lo i v w':=by
 unfold LR at *;split at h<;>first|exact h|exact Px.ext h hx
abbrev four(W:V)(p q:Nat)(a b c d:AN):V:=(((W.setCell ⟨p,0,O⟩ a).setCell ⟨p,1,O⟩ b).setCell ⟨q,0,O⟩ c).setCell ⟨q,1,O⟩ d
def wR(W:V)(p q:Nat)(a b c d:AN):GF W (four W p q a b c d):=((((Gq _ _ _).trans (Gq _ _ _)).trans (Gq _ _ _)).trans (Gq _ _ _))
theorem jh{B:Nat}{p q:Nat}(e:B<=p)(f:B<=q)(a b c d:AN):At B W (four W p q a b c d):=
 ((((Ad _ _).setCell (p:=⟨p,0,O⟩) e _).setCell (p:=⟨p,1,O⟩) e _).setCell (p:=⟨q,0,O⟩) f _).setCell (p:=⟨q,1,O⟩) f _
theorem gx{v:AN}(h:Bx W b t v){p q:Nat}(a:b<p)(c:b<q)(x y z u:AN):Bx (four W p q x y z u) b t v:=
 (((h.Bo (p:=⟨p,0,O⟩) Bk _).Bo (p:=⟨p,1,O⟩) Bk _).Bo (p:=⟨q,0,O⟩) Bk _).Bo (p:=⟨q,1,O⟩) Bk _
theorem b0v{r:List Sd}{p q:Nat}{a b c d:AN}(h:TD w R T r k W)(hx:Ext W2 W)(f:P8 r k=AM)(i:W2.1.size<=p)(l:W2.1.size<=q)(m:w.1.size+1<W2.1.size):
  Vk (TD w R T r) (WN w r) k W2 .normal ac (four W p q a b c d):=by
 refine⟨hx.keeps.trans (wR _ _ _ _ _ _ _),gx h.res D D _ _ _ _,gx h.it D D _ _ _ _,h.sl.below (jh D D _ _ _ _),h.low.trans (jh D D _ _ _ _),λj g=> ?_⟩;by_cases e:j=k
 .rw[e];exact f
 exact h.ok j D
theorem b1d{r:List Sd}{p q:Nat}{a b c d:AN}(h:TD w R T r k W)(hx:Ext W2 W)(e:P8 r k=AL)(f:W2.1.size<=p)(g:W2.1.size<=q)(i:w.1.size+1<W2.1.size):
  Vk (TD w R T r) (WN w r) k W2 .ret ac ((four W p q a b c d).setCell ⟨w.1.size,0,O⟩ (AU AM)):=by
 refine⟨(hx.keeps.trans (wR _ _ _ _ _ _ _)).trans (Gq _ _ _),F,(gx h.res D D _ _ _ _).put _,(h.low.trans (jh D D _ _ _ _)).setCell (p:=⟨w.1.size,0,O⟩) (AS _) _,e⟩
def a0e(w:V)(R:Option An)(T:Nat)(r:List Sd)(hn:ln r<4):
  AZ AO 116 #[AK R (ln r) T] w λe w'=>e=Ac (AU (Gt r))/\Ext w w':=by
 have a:=A (show Gt r=AM by unfold Gt;rw[show AQ (4<=ln r)=AM by rw[CX];omega];rfl);go_enter func116,ntmps116;go_wp2;exact Bp (v:= AU AM) (by simp[results,results116,go_sem]) F ⟨by rw[a.o],(Ad _ _).alloc (AS _) _⟩
def a1M (w : V) (R : Option An) (T : Nat) (r : List Sd) (hr : BB 7 w w.1.size R T (Cg r)) (X : Pm r) (hn : ln r <= 1000) (h4 : 4 <= ln r) :
    AZ AO 116 #[AK R (ln r) T] w λe w' => e =Ac (AU (Gt r)) /\ Ext w w' := by
  have HR := A (show Gt r = !Cm (P8 r) (ln r) by unfold Gt; rw [show AQ (4 <= ln r) = AL by rw [Cx]; omega]; rfl);refine (De (n := 9)).1 (R8 func116 F trivial ?_);simp only [ntmps116, Nn, FX, Jy, Hw, Nat.reduceSub, OX, PQ, PS, PR, Lm, LO];gi_wp2_with (refine ⟨trivial, ?_⟩; gi_at_call 185; refine (De.2 (Y7 _ _ _ _)).mono ?_; rintro e w' ⟨rfl, rfl⟩)
  refine VJ (gf := 248) (lb := #[Ap (Q ⟨w.1.size + 1, 0, O⟩)]) F (FZ func248 U F)
    (Y5 (w.1.size + 1) R T r D) (λk x e => by rw [e]; rfl)
    (TD w R T r) (WN w r) (λk W W' h d => h.stays d Gh) (λc k W W' h d => h.stays d Gh) (λk W h => Yq h.it h.sl) ?BI ?round ?done ?stop
  case BI => exact ⟨(Bx.at_ F).alloc _, Bx.at_ AV, hr.below (GB _ _ _), GB _ _ _, λj hj => D⟩
  case done =>
    intro ag W b hi a;have c0 := hi.res.cell;have f0 := hi.res.frozen;have t := A hi;have H := A (show Gt r = AL by rw [HR.o, Hy hi.ok]; rfl);clear hi
    gi_wp2
    have ah := (Gq W ⟨w.1.size, 0, O⟩ (AU AL)).same ag _ a F;refine ⟨AV, .inl ⟨_, _, rfl, PV ah, ?_⟩⟩;have d := CN.putObj (n0 := w.1.size) (.deferred O) ah F (by simp at b; omega);have N := ((t.o.res.put (AU AL)).stays d).cell;exact ⟨AU AL, by simp [results, results116, go_sem, N], by rw [H.o], (t.o.low.setCell (p := ⟨w.1.size, 0, O⟩) (AS _) _).trans d.below⟩
  case stop =>
    rintro ag c k W b hk ⟨rfl, ao, am, al⟩ a;have H := A (show Gt r = AM by rw [HR.o, J5 hk al]; rfl)
    gi_wp2
    refine ⟨AV, .inl ⟨_, _, rfl, PV a, ?_⟩⟩;have d := CN.putObj (n0 := w.1.size) (.deferred O) a F (by simp at b; omega);have N := (ao.stays d).cell;exact ⟨AU AM, by simp [results, results116, go_sem, N], by rw [H.o], am.trans d.below⟩
  case round =>
    intro l k x W K hk hx hi a;obtain rfl := hx;have HK := A a;have RA := A (Az.new W 201 (Dt (FK r k) (BA r k) (Bl r k)));have G := A (show Ext W (W.alloc (.cells (Dt (FK r k) (BA r k) (Bl r k)).toArray 201)) from (Ad _ _).alloc (AS _) _);have t := A hi;clear a hi;refine VG (NR _ _) U ?_;go_wp2_with (refine C7 rfl 201 (.tmp 4) (.tmp 13) rfl W.1.size (Dt (FK r k) (BA r k) (Bl r k)).toArray rfl rfl 201 _ (Bq _ _) U U U ?_; rw [OE _ _ _ _ rfl])
    refine Tx (HK.o _ _ G.o (λW2 af ap => ?_));have Y := (t.o.stays (G.o.stays (n0 := w.1.size) (by have := t.o.low.size; omega)) (AS _)).stays af Gh;have J : Az W2 W.1.size 201 (Dt (FK r k) (BA r k) (Bl r k)) := af.cells _ _ _ _ RA.o;clear HK t G RA af;obtain ⟨ad, ae⟩ := Oy X ((k + ln r - 1) % ln r);obtain ⟨aa, ab⟩ := Oy X k;obtain ⟨P, S⟩ := Oy X ((k + 1) % ln r);rw [<- Rn] at P S;rw [<- gN] at ad ae;obtain ⟨Ag, E⟩ : ∃ o, BA r k = o := ⟨_, F⟩;obtain ⟨f, B⟩ : ∃ o, Bl r k = o := ⟨_, F⟩;obtain ⟨u, z⟩ : ∃ o, FK r k = o := ⟨_, F⟩;have HO := A (show P8 r k = ((((f.x - Ag.x) == 0) == ((f.y - Ag.y) == 0)) || (((Ag.x - u.x) == 0) == ((f.x - Ag.x) == 0))) by unfold P8 Ko N7 Pg; rw [E, B, z]);rw [E] at aa ab;rw [B] at P S;rw [z] at ad ae;rw [E, B, z] at J;rw [E, B, z];have I2 := A Y;have hz := Y.it.lt;clear Y hn
    gi_wp2
    refine Ui U (jD (NR _ _) U 11
      (λw' => Ext W2 w') (LR u Ag f W.1.size W2.1.size) (λi => i == 9 || i == 10) U (λ_ _ h k => h.tr k) (λ_ _ _ _ h k => b00 h k) ?fr ?step ?tail _ (Ext.dr W2))
    case fr =>
      intro i v w' hi hf s;simp only [QJ, C9] at hf;rcases hf with rfl | rfl <;> exact Px.lt s
    case step =>
      intro i C w' hi b m;have cA := λi => (J.ext b).cell i
      rcases (show i = 0 \/ i = 1 \/ i = 2 \/ i = 3 \/ i = 4 \/ i = 5 \/ i = 6 \/ i = 7 \/ i = 8 \/ i = 9 \/ i = 10 by omega) with rfl | rfl | rfl | rfl | rfl | rfl | rfl | rfl | rfl | rfl | rfl <;> clear hi
      .exact yY
      . refine DC F (λK a => ?_)
        have d0 := m 0 U;simp only [LR] at d0;go_simp;exact a _ _ ⟨_, by simp [d0, LR], Ext.B9 _, rfl, λh => Aq⟩
      . refine DC F (λK a => ?_)
        have d1 := m 1 U;simp only [LR] at d1;go_simp;refine (Me u _).mono ?_;rintro e W1 ⟨rfl, g⟩;exact a _ _ ⟨_, by simp [d1, LR], g, rfl, λh => Aq⟩
      .exact yY
      . refine DC F (λK a => ?_)
        have d3 := m 3 U;simp only [LR] at d3;go_simp;exact a _ _ ⟨_, by simp [d3, LR], Ext.B9 _, rfl, λh => Aq⟩
      . refine DC F (λK a => ?_)
        have d4 := m 4 U;simp only [LR] at d4;go_simp;refine (Me Ag _).mono ?_;rintro e W1 ⟨rfl, g⟩;exact a _ _ ⟨_, by simp [d4, LR], g, rfl, λh => Aq⟩
      . refine DC F (λK a => ?_)
        have d2 := m 2 U;have d5 := m 5 U;simp only [LR] at d2 d5;go_simp;refine (kR _ _ _ _ _ ad ae aa ab).mono ?_;rintro e W1 ⟨rfl, g⟩;exact a _ _ ⟨_, by simp [d2, d5, LR], g, rfl, λh => Aq⟩
      . refine YB F F ?_
        exact NA 201 (.tmp 4) F W.1.size F 201 (Dt u Ag f).toArray (0, 0) _ (J.ext b) underlying201 F U ⟨_, F, Ext.B9 _, F, λh => Aq⟩
      . refine DC F (λK a => ?_)
        have d7 := m 7 U;simp only [LR] at d7;go_simp;refine (Y6 u Ag f _ aa ab P S).mono ?_;rintro e W1 ⟨rfl, g⟩;exact a _ _ ⟨_, by simp [d7, LR], g, rfl, λh => Aq⟩
      .exact yX
      exact yX
    case tail =>
      intro C w' b s ai;have v6 := s 6 Z;have v8 := s 8 Z;obtain ⟨p, M, l9, r9⟩ := s 9 Z;obtain ⟨q, L, aj, ak⟩ := s 10 Z;have ac := ai 9 10 Z Z Z F F;simp only [LR] at v6 v8;clear s ai;rw [M, L] at ac;have an : p ≠ q := λh => ac (by rw [h])
      have n1 : ¬ q = p := λh => an h.symm
      clear ac;have y := A (I2.o.stays (b.stays (n0 := w.1.size) (by have := I2.o.low.size; omega)) (AS _));have hE := A b;have cp := λi => r9.cell i
      have cq := λi => ak.cell i
      have fp := λi => r9.frozen i
      have fq := λi => ak.frozen i
      have cr := y.o.res.cell;have fr := y.o.res.frozen;have n2 : ¬ w.1.size = p := D;have n3 : ¬ w.1.size = q := D;have n4 : ¬ p = w.1.size := D;have n5 : ¬ q = w.1.size := D;have n6 : ¬ w.1.size + 1 = p := D;have n7 : ¬ w.1.size + 1 = q := D;simp only [FV, FY, M, L, v6, v8];clear M L v6 v8 b;cases t1 : ((f.x - Ag.x) == 0) <;> cases t2 : ((f.y - Ag.y) == 0) <;> cases t3 : ((Ag.x - u.x) == 0)
      all_goals first
        | (have I := A (show P8 r k = AM by rw [HO.o, t1, t2, t3]; rfl)
           gi_wp2
           exact b0v y.o hE.o I.o l9 aj hz)
        | (have I := A (show P8 r k = AL by rw [HO.o, t1, t2, t3]; rfl)
           gi_wp2
           exact b1d y.o hE.o I.o l9 aj hz)
end
section
open Kp
def a2q(w:V)(R:Option An)(T:Nat)(r:List Sd)(c:BB 7 w w.1.size R T (Cg r))(b:Pm r)(hn:ln r<=1000):
  AZ AO 116 #[AK R (ln r) T] w λe w'=>e=Ac (AU (Gt r))/\Ext w w':=by
 by_cases a:4<=ln r
 .exact a1M w R T r c b hn a
 exact a0e w R T r D
def Ew(w:V)(B:Nat)(R:Option An)(T:Nat)(rs:List (List Sd)):Prop:=
 ln rs<=T/\T<=BM/\(0<ln rs->∃b off,R=Q ⟨b,off,O⟩/\b<B/\∀i,i<ln rs->∃H E,w.cell? ⟨b,off+i,O⟩=Q (AK H (rs.getD i []).length E)/\BB 7 w B H E (Cg (rs.getD i [])))
theorem Ew.below{B:Nat}{rs:List (List Sd)}(h:Ew w B R T rs)(c:At B w w'):Ew w' B R T rs:=by
 obtain⟨h1,h2,d⟩:=h;refine⟨h1,h2,λhn=> ?_⟩;have⟨b,off,e,a,j⟩:=d hn;refine⟨b,off,e,a,λi hi=> ?_⟩;have⟨H,E,f,g⟩:=j i hi;exact⟨H,E,(c.cell a).trans f,g.below c⟩
theorem Ew.more{B B':Nat}{rs:List (List Sd)}(h:Ew w B R T rs)(a:B<=B'):Ew w B' R T rs:=by
 exact yZ
structure SV(rs:List (List Sd)):Prop where
 ne:∀r∈rs,r≠[]
 co:∀r∈rs,Pm r
 len:ln rs.flatten<=24
theorem SV.ring{rs:List (List Sd)}(h:SV rs)(hi:i<ln rs):rs.getD i []≠[]/\Pm (rs.getD i [])/\(rs.getD i []).length<=24:=by
 have e:rs.getD i []=rs[i]:=by rw[CM,Bv hi];rfl
 rw[e];refine⟨h.ne _ (Ey hi),h.co _ (Ey hi),BJ ?_ h.len⟩;exact(WZ (Ey hi)).length_le
def SV.count{rs:List (List Sd)}(h:SV rs):ln rs<=24:=by
 have key:∀l:List (List Sd),(∀r∈l,r≠[])->ln l<=ln l.flatten:=by
  intro l
  induction l with
  |nil=>intro _;simp
  |cons a l d=>
   intro b;have h1:=d λr c=>b r (TJ _ c)
   have h2:0<ln a:=MW.2 (b a AV);rw[Wi,FN,FX];omega
 exact BJ (key rs h.ne) h.len
def SQ(rs:List (List Sd))(i k:Nat):Bool:= !(k==i||i==0)&&(Rr (rs.getD k []) (BA (rs.getD i []) 0).x (BA (rs.getD i []) 0).y !=(k==0))
def b1K(rs:List (List Sd))(i:Nat):Ts rs i=((AQ (0<Q0 (rs.getD i [])) !=(i==0))||Cm (SQ rs i) (ln rs)):=rfl
structure b5p(w:V)(rs:List (List Sd))(i:AN)(wr:V):Prop where
 ex:∃k:Nat,k<=ln rs/\i=M G (k:Int)/\∀j,j<k->Ts rs j=AM
 low:Ext w wr
structure xa(w:V)(rs:List (List Sd))(i:Nat)(k:AN)(wr:V):Prop where
 ex:∃m:Nat,m<=ln rs/\k=M G (m:Int)/\∀j,j<m->SQ rs i j=AM
 low:Ext w wr
def a2W(w:V)(R:Option An)(T:Nat)(rs:List (List Sd))(y:Ew w w.1.size R T rs)(ab:SV rs):
  AZ AO 118 #[AK R (ln rs) T] w λe w'=>e=Ac (AU (Na rs))/\Ext w w':=by
 have h1:=y.1;have h2:=y.2.1;unfold BM at h2;have aB:=ab.count;have HR:=A y;clear y;go_enter func118,ntmps118;go_wp2;go_loopw [9] (λi wr=>b5p w rs i wr) (λi _=>((ln rs:Int)-B8 i).toNat)
 case atStart=>exact⟨⟨0,D,rfl,λj l=>D⟩,Ad _ _⟩
 obtain⟨⟨i,hi,rfl,ak⟩,ao⟩:=hrel;have n:=A ao;have ah:=A ak;clear ao ak;by_cases x:i<ln rs
 .obtain⟨b,off,rfl,hB,hcell⟩:=(HR.below n).2.2 D;have⟨H,E,au,ae⟩:=hcell i x;have⟨aq,an,ay⟩:=ab.ring x;have B:=n.size;have⟨ring,z⟩:=AP (rs.getD i []);rw[z] at au ae aq an ay;have ar:=A z;have J:=A (show Ts rs i=((AQ (0<Q0 ring) !=(i==0))||Cm (SQ rs i) (ln rs)) by rw[b1K,z]);clear z;have ca:=A (a5Q wr H E ring (ae.more B) an D);clear hcell;have⟨d,hd⟩:=AP (AQ (0<Q0 ring));have⟨e,U⟩:=AP (i==0);have tz:((i:Int)==0)=e:=by rw[<-U,JM];simp only[C9];omega
  have F:=A U;clear U;by_cases v:d=e
  .have HF:=A (show(AQ (0<Q0 ring) !=(i==0))=AM by rw[hd,F.o,v];simp);subst v;go_wp2_with(go_at_call 191;refine ca.q λW1 N=>?_)
   go_loopw [22] (λk wq=>xa wr rs i k wq) (λk _=>((ln rs:Int)-B8 k).toNat)
   case atStart=>exact⟨⟨0,D,rfl,λj l=>D⟩,N⟩
   obtain⟨⟨k,hk,rfl,al⟩,ap⟩:=hrel;have ag:=A al;have I:=A ap;clear al ap;have u:=A (n.tr I);by_cases aa:k<ln rs
   .have⟨b',off',e',hB',hcell⟩:=(HR.below u).2.2 D;obtain⟨rfl,rfl⟩:b'=b/\off'=off:=by injection e' with e';injection e' with e3 e4;exact⟨e3.symm,e4.symm⟩
    have⟨Ak,ck,av,af⟩:=hcell k aa;have⟨aA,P,az⟩:=ab.ring aa;have C:=u.size;have⟨t,ac⟩:=AP (rs.getD k []);rw[ac] at av af aA P az;have a:=A (show SQ rs i k=(!(k==i||i==0)&&(Rr t (BA ring 0).x (BA ring 0).y !=(k==0))) by unfold SQ;rw[ac,ar.o]);have ad:0<ln ring:=MW.2 aq;obtain⟨ba,oa,rfl,_,am⟩:=(ae.below (I.mono B)).2.2 (by rw[BL];exact ad);have c0:=λj (l:j<7)=>(am 0 (by rw[BL];exact ad) j l).trans (by rw[VX ad])
    clear ac hcell e' am;simp only[Nat.mul_zero,Dh] at c0;have aj:=c0 0 Z;rw[Dh] at aj;have⟨f,X⟩:=AP (k==i);have tf:((k:Int)==(i:Int))=f:=by rw[<-X,JM];simp only[C9];omega
    have⟨g,Y⟩:=AP (k==0);have tg:((k:Int)==0)=g:=by rw[<-Y,JM];simp only[C9];omega
    rw[X,F.o,Y] at a;clear X Y;have ai:=A (λ(B:SQ rs i k=AM) (W:V) (hW:Ext wr W)=>show xa _ rs i (M G ((k:Int)+1)) W from⟨⟨k+1,D,AV,λj l=>by
     by_cases ax:j=k
     .rw[ax];exact B
     exact ag j D⟩,I.tr hW⟩)
    cases f with
    |true=>
     exact zl
    |false=>
     cases d with
     |true=>
      exact zl
     |false=>
      have⟨o,ho⟩:=AP (BA ring 0);rw[ho] at c0 aj a;clear ho;by_cases m:Rr t o.x o.y=g
      .have r:=A (show SQ rs i k=AM by rw[a.o,m];simp);clear a;go_wp2_with(first
        |(go_at_call 186;refine(Me o _).q λV1 c=>?_;have s:=A (vW V1 Ak ck t o.x o.y ((af.below (c.mono C)).more (BJ C c.size)) P D);rw[m] at s)
        |(go_at_call 192;refine s.q λV2 L=>?_))
       refine⟨ai r _ (c.tr L),Bm⟩
      have K:=A (show Na rs=AM by unfold Na;rw[J5 x (by rw[J.o,HF.o,J5 aa (by rw[a.o];simpa using m)];rfl)];rfl);have⟨q,hq⟩:=AP (Rr t o.x o.y);rw[hq] at m;cases q<;>cases g<;>first|exact absurd rfl m|skip
      all_goals
       clear m a;go_wp2_with(first
        |(go_at_call 186;refine(Me o _).q λV1 c=>?_;have s:=A (vW V1 Ak ck t o.x o.y ((af.below (c.mono C)).more (BJ C c.size)) P D);rw[hq] at s)
        |(go_at_call 192;refine s.q λV2 L=>?_))
       go_ret;exact⟨by rw[K.o];rfl,u.tr (c.tr L)⟩
   have r:=A (show Ts rs i=AM by rw[J.o,HF.o,Hy (λj l=>ag.o j D)];rfl);have aC:AQ ((k:Int)<(ln rs:Int))=AM:=Et;go_wp2;refine⟨⟨⟨i+1,D,AV,λj l=> ?_⟩,u⟩,Bm⟩;by_cases aw:j=i
   .rw[aw];exact r
   exact ah j D
  have S:(d !=e)=AL:=by simpa using v
  have K:=A (show Na rs=AM by unfold Na;rw[J5 x (by rw[J.o,hd,F.o,S];rfl)];rfl);clear v;cases d with
  |false=>
   cases e with
   |false=>cases S
   |true=>
    exact zk
  |true=>
   cases e with
   |true=>cases S
   |false=>
    exact zk
 have HA:=A (show Na rs=AL by unfold Na;rw[Hy (λj l=>ah.o j D)];rfl);have aD:AQ ((i:Int)<(ln rs:Int))=AM:=Et;go_wp2;go_ret;exact⟨by rw[HA.o];rfl,n⟩
theorem LF{rows:List (List AN)}(hw:DG k rows):ln rows.flatten=ln rows*k:=by
 induction rows with
 |nil=>simp
 |cons r rows a=>
  rw[Wi,FN,a (λx hx=>hw x (TJ _ hx)),hw r AV,FX,Kq,H7,Np]
theorem sA{rows:List (List AN)}(hw:DG k rows)(hi:i<ln rows)(b:j<k):rows.flatten[k*i+j]?=(rows.getD i [])[j]?:=by
 induction rows generalizing i with
 |nil=>grind
 |cons r rows a=>
  have c:=hw r AV;rw[Wi];cases i with
  |zero=>
   grind
  |succ i=>
   have e:k*(i+1)+j=ln r+(k*i+j):=Al;rw[e,List.getElem?_append_right D,Nat.add_sub_cancel_left,a (λx hx=>hw x (TJ _ hx)) Al]
   rfl
theorem a4s(hk:0<k)(a:j<n*k):∃i m,i<n/\m<k/\j=k*i+m:=
 ⟨j/k,j%k,(ZG hk).2 a,Hh _ hk,(eC j k).symm⟩
theorem BB.cells{B:Nat}{b off T:Nat}{rows:List (List AN)}(h:BB k w B (Q ⟨b,off,O⟩) T rows)(hw:DG k rows)(hk:0<k):
  ∀j u,rows.flatten[j]?=Q u->w.cell? ((⟨b,off,O⟩:An).add j)=Q u:=by
 intro j u f;have a:j<ln rows.flatten:=Al;rw[LF hw] at a;obtain⟨i,m,hi,hm,rfl⟩:=a4s hk a;have⟨c,g,e,_,d⟩:=h.2.2 D
 grind [sA,Addr.add_lit]
theorem F1{v:AN}{rows:List (List AN)}(h:w.ownsRow base e k v n rows.flatten)(hn:ln rows=n)(hw:DG k rows):
  ∃R T,v=AK R n T/\BB k w w.1.size R T rows:=by
 subst hn;obtain⟨q,⟨rfl,b⟩|⟨g,T,cur,rfl,o,a,h1,h2,m,c⟩⟩:=h
 .exact mT
 refine⟨_,T,F,h1,h2,λd=>⟨g,0,rfl,(Ee.1 a).1,λi hi j f=> ?_⟩⟩;rw[<-sA hw hi f,<-c];have l:k*i+j<ln rows*k:=by
  have:k*(i+1)<=k*ln rows:=Ws _ hi
  grind
 rw[Uk,Aj l];simp[Dx,a]
def ij(g:Nat)(a b:List Nat)(f:Nat->Nat×Nat):Prop:=
 ∀(W:V) (k:Nat),AZ AO g #[M G (I a k:Int),M G (I b k:Int),M G ((f k).2:Int)] W λe w'=>e=Ac (BO #[M G ((f (k+1)).1:Int),M G ((f (k+1)).2:Int)])/\W=w'
def a68{a b:List Nat}(c:Small a)(d:Small b):ij 366 a b (Hg a b):=λW k=>
 (a6S _ _ _ W (Du c k) (Du d k) (uS c d k).1).mono λ_ _ ⟨h1,h2⟩=>⟨h1,h2.symm⟩
def wI{a b:List Nat}(c:Small a)(d:Small b):ij 367 a b (He a b):=λW k=>
 (a4W _ _ _ W (Du c k) (Du d k) (iN c d k).1).mono λ_ _ ⟨h1,h2⟩=>⟨h1,h2.symm⟩
def b3E(w:V)(f:Nat->Nat×Nat)(n:Nat)(e:CI)(w':V):Prop:=
 ∃v,e=Ac v/\BH w' w'.1.size v (Bn (Cs f n))/\Ext w w'
def jI(w:V)(a b:List Nat)(va vb:AN)(g:Nat)(f:Nat->Nat×Nat)(t:BH w w.1.size va a)(z:BH w w.1.size vb b)(au:ln a<=1000000)(av:ln b<=1000000)
  (eg:∀args w,(callFunc g args).run AO w= .ok (.enter g args) w)(m:ij g a b f)(aa:(f 0).2=0):
  AZ AO 365 #[va,vb,.func (.func g) #[] #[]] w (b3E w f (max (ln a) (ln b)+1)):=by
 have⟨i0,ab,af,ag,ah⟩:=DM OG;have I0:=A ab;have I1:=A af;have I2:=A ag;have I3:=A ah;have HA:=A t;have HB:=A z;have HP:=A m;have HF:=A aa;obtain⟨R,ca,rfl,ap,ak,_⟩:=id t;obtain⟨A',cb,rfl,aq,al,_⟩:=id z;unfold BM at ak al;have⟨n,hn⟩:=AP (max (ln a) (ln b)+1);have az:n<=1000001:=D;have aB:ln a<n:=D;have aC:ln b<n:=D;have aA:(max (ln a:Int) (ln b:Int))+1=(n:Int):=D;have HN:=A hn;rw[hn];clear t z m aa ab af ag ah hn;go_enter func365,ntmps365;go_wp2;go_loopw [7,8,18] (λv c i wr=>lN w f n v c i wr) (λ_ _ i _=>((n:Int)-B8 i).toNat)
 case atStart=>exact⟨0,D,rfl,TX,Qz _ _ _ _,Ad _ _⟩
 obtain⟨k,hk,rfl,rfl,ad,l⟩:=hrel;have o:=A ad;have r:=A l;have H:=(HA.below l);have I:=(HB.below l);have ar:=l.size;clear ad l;by_cases ax:k<n
 .have C1:=A (kO wr _ _ a k H D);have C2:=A (kO wr _ _ b k I D);have U:=A (HP wr k);have Y:=A (Sh f k);have⟨x,hx⟩:=AP ((f (k+1)).1);have⟨y,hy⟩:=AP ((f (k+1)).2);rw[hx,hy] at U;rw[hx] at Y;have HY:=A hy;clear H I hx hy;have am:w.1.size<=(wr.alloc (.cells #[M G (x:Int)] 3)).1.size:=Bk;have X:=A (EV o ((Ad _ _).alloc (AS _) (.cells #[M G (x:Int)] 3)));have⟨C,L⟩:=AP (Ls (Cs f k));rw[L] at o X;have aj:=A L;clear L;go_wp2_with(first
   |(at_builtin;(refine Ln _ F _ _ _ F w.1.size 3 i0 _ 1 8 FD I0 I1 I2 I3 F D _ _ _ F X ⟨wr.1.size,0,O⟩ 1 1 [M G (x:Int)] F BE (λj u E=>ZL) QP Fp D am ?_);intro v' w' ao an aD)
   |(go_at_fn g;refine U.mono ?_;rintro e J ⟨rfl,rfl⟩)
   |(go_at_call 362;first|((with_reducible refine C1.o.mono ?_);rintro e W1 ⟨rfl,rfl⟩)|((with_reducible refine C2.o.mono ?_);rintro e W1 ⟨rfl,rfl⟩)))
  refine⟨⟨k+1,D,AV,by rw[HY.o],?_,KY (r.alloc r.size _) an (λq hq=>(DS o q hq).1)⟩,Bm⟩;have e:Ls (Cs f (k+1))=C++[M G (x:Int)]:=by rw[<-aj.o,Y.o];unfold Ls;rw[PU];rfl
  rw[e];exact ao
 obtain rfl:k=n:=D;have ay:AQ ((k:Int)<(k:Int))=AM:=Et;have K:=Sk o (LX f k);obtain⟨d,c2,rfl,P,S,T⟩:=id K;have W:=A (pf wr d c2 (Cs f k) P S (λm=>by
  have⟨s,N,e,Z,B⟩:=T m;exact⟨s,N,e,B⟩))
 have HS:=A K;rw[LX] at W HS;have ai:=A (show BH wr wr.1.size (AK d (Bn (Cs f k)).length c2) (Bn (Cs f k)) by
  refine⟨d,c2,F,BJ (Lt _) P,S,λm=> ?_⟩;have aw:=Lt (Cs f k);have⟨s,N,e,Z,B⟩:=T D;exact⟨s,N,e,Z,λj E=>by rw[kX E];exact B j D⟩)
 have ac:=LX f k;have ae:(FO d (Cs f k).length c2)=AK d k c2:=by rw[ac]
 rw[ae];clear K P S T H I ac ae;go_wp2_with(go_at_call 344;refine W.mono ?_;rintro e W1 ⟨rfl,rfl⟩)
 go_ret;exact⟨_,F,ai,r⟩
def sg(m:Bool)(n:Nat):Int:=if m then -(n:Int) else n
theorem b2n{a b:List Nat}(e:Small a)(f:Small b)(hn:max (ln a) (ln b)+1=n):Canon (Bn (Cs (Hg a b) n))/\val (Bn (Cs (Hg a b) n))=val a+val b:=by
 have j:Small (Cs (Hg a b) n):=by
  intro d g;obtain⟨i,_,rfl⟩:=Jg.1 g;exact(uS e f i).2
 refine⟨Sm j,?_⟩;rw[Sn];have h1:=b1U (a:=a) (b:=b) n;have k:S _ n=val a:=YK D;have l:S _ n=val b:=YK D;have m:S (I (Cs (Hg a b) n)) n=val (Cs (Hg a b) n):=by grind [val,LX]
 have la:=Dj (WH e) (JK Z (show ln a<=n-1 by omega));have lb:=Dj (WH f) (JK Z (show ln b<=n-1 by omega));have q:B^n=B^(n-1)*B:=Al;have o:B^(n-1)*2<=B^(n-1)*B:=Al;rcases TI (Hg a b n).2 with c|c
 .grind
 have:1*B^n<=(Hg a b n).2*B^n:=Gz _ c;omega
theorem uZ{a b:List Nat}(c:Small a)(e:Small b)(hn:max (ln a) (ln b)+1=n)(h:val b<=val a):Canon (Bn (Cs (He a b) n))/\val (Bn (Cs (He a b) n))=val a-val b:=by
 have g:Small (Cs (He a b) n):=by
  intro d f;obtain⟨i,_,rfl⟩:=Jg.1 f;exact(iN c e i).2
 refine⟨Sm g,?_⟩;rw[Sn];have h1:=b0p c e n
 grind [YK,Cs,He,WH]
def Zn(w:V)(z:Int)(e:CI)(w':V):Prop:=
 ∃m v l,e=Ac (AW #[AU m,v])/\BH w' w'.1.size v l/\Canon l/\sg m (val l)=z/\Ext w w'
def Qb(a b c:Nat)(m:Bool)(v1 v2:AN)(L:List Nat):Nat->AN->V->Prop
 |0,v,_=>v=Ap (Q ⟨a,0,O⟩)
 |1,v,_=>v=AU m
 |2,v,_=>v=Ap (Q ⟨b,1,O⟩)
 |3,v,_=>v=v1
 |4,v,_=>v=Ap (Q ⟨c,1,O⟩)
 |5,v,_=>v=v2
 |6,v,w=>BH w w.1.size v L
 |_,v,w=>∃u,v=AW #[AU m,u]/\BH w w.1.size u L
theorem gF{a b c:Nat}{v:AN}(h:Qb a b c m v1 v2 L i v w)(hx:Ext w w'):Qb a b c m v1 v2 L i v w':=by
 match i,h with
 |0,h|1,h|2,h|3,h|4,h|5,h=>exact h
 |6,h=>exact BH.grow h hx
 |_+7,h=>obtain⟨u,e,hu⟩:=h;exact⟨u,e,hu.grow hx⟩
theorem b3k{l:List Nat}{v:AN}(h:BH w w.1.size v l)(k:Az w b 341 [AU AM,AK O 0 0])(x y:AN):
  BH ((w.setCell ⟨b,0,O⟩ x).setCell ⟨b,1,O⟩ y) ((w.setCell ⟨b,0,O⟩ x).setCell ⟨b,1,O⟩ y).1.size v l:=by
 obtain⟨R,T,rfl,h1,h2,f⟩:=h;refine⟨R,T,F,h1,h2,λhn=> ?_⟩;have⟨c,off,e,m,g⟩:=f hn;refine⟨c,off,e,by grind [Di],λj i=> ?_⟩;by_cases a:c=b
 .subst a;have d:=g j i;rw[k.cell] at d
  grind
 rw[SG (Gp _ _ _ _ a),SG (Gp _ _ _ _ a)]
 grind
def iO(w:V)(x1 a b:List AN)(t:Bb):∃W0,Hid (((w.alloc (.cells x1.toArray t)).alloc (.cells a.toArray t)).alloc (.cells b.toArray t)=W0)/\Hid (Ext w W0)/\Az W0 w.1.size t x1/\Az W0 (w.1.size+1) t a/\Az W0 (w.1.size+1+1) t b:=by
 have c:=(Az.new (w.alloc (.cells x1.toArray t)) t a).ext ((Ad _ _).alloc (AS _) (.cells b.toArray t));have d:=Az.new ((w.alloc (.cells x1.toArray t)).alloc (.cells a.toArray t)) t b;rw[D5] at c;rw[D5,D5] at d;exact⟨_,A F,A (VD w _ _ _),(Az.new w t x1).ext (GB _ _ _),c,d⟩
theorem gL(h:p:=by
  intro i C w' hi hD hd;have hw0:Ext W0 w':=(Ext.tr l hD);have cA:=λi=>(s.ext hw0).cell i
  have cB:=λi=>(t.ext hw0).cell i
  rcases(show i=0\/i=1\/i=2\/i=3\/i=4\/i=5\/i=6\/i=7 by omega) with rfl|rfl|rfl|rfl|rfl|rfl|rfl|rfl<;>clear hi<;>refine DC rfl (λK hK=> ?_)
  .exact Ek
  .have d0:=hd 0 U;simp only[Qb] at d0;exact zm
  .exact Ek
  .have d2:=hd 2 U;simp only[Qb] at d2;go_simp;exact hK _ _ ⟨_,by simp[d2],Ext.B9 _,rfl,λh=>Aq⟩
  .exact Ek
  .have d4:=hd 4 U;simp only[Qb] at d4;go_simp;exact hK _ _ ⟨_,by simp[d4],Ext.B9 _,rfl,λh=>Aq⟩
  .have d3:=hd 3 U;have d5:=hd 5 U;simp only[Qb] at d3 d5;clear cA cB;go_simp;refine(r _ (f.tr hw0)).mono ?_;rintro e W4 ⟨v,rfl,hs,hX⟩;exact hK _ _ ⟨v,by simp[d3,d5],hX,hs,λh=>Aq⟩
  have d1:=hd 1 U;have⟨A6,c6,e6,h61,h62,h63⟩:=id (hd 6 U:BH _ _ _ _);have d6:BH _ _ _ _:=hd 6 U;simp only[Qb] at d1;rw[e6] at d6;clear cA cB h63;go_simp;exact hK _ _ ⟨_,by simp[d1,e6],Ext.B9 _,⟨_,rfl,d6⟩,λh=>Aq⟩):p:=h
theorem gz(h:p:=by
  intro C w' hD hv _;have hw0:Ext W0 w':=(Ext.tr l hD);have⟨v,e7,hs⟩:=hv 7 Z;obtain⟨A7,c7,rfl,_,_,_⟩:=id hs;have HS:=A hs;have r3:=u.ext hw0;have c0:=r3.cell 0;have c1:=r3.cell 1;have f0:=r3.frozen 0;have f1:=r3.frozen 1;have HR3:=A r3;clear hv hs r3;simp only[FV,FY];go_wp2;have q0:=λx y=>(HR3.GJ x y).cell 0
  have q1:=λx y=>(HR3.GJ x y).cell 1
  refine Bp (v:=C 7) ?_ F ⟨_,_,_,QL _ e7,?_,o,q,?_⟩
  .rw[e7];simp[results,results354,go_sem,q0,q1]
  .have hb4:At w'.1.size w' w':=Ad _ _;exact b3k HS HR3 _ _
  exact((f.tr hw0).setCell (p:=⟨w.1.size+1+1,0,O⟩) Bk _).setCell (p:=⟨w.1.size+1+1,1,O⟩) Bk _):p:=h
theorem a4z(w:V)(m:Bool)(a b:List Nat)(H I:AN)(j:BH w w.1.size H a)(z:BH w w.1.size I b)(S:Canon a)(X:Canon b)(Y:ln a<=400000)(aa:ln b<=400000):
  AZ AO 354 #[AW #[AU m,H],AW #[AU m,I]] w (Zn w (sg m (val a)+sg m (val b))):=by
 have B:=S.Bf;have E:=X.Bf;have⟨T,ab⟩:=b2n B E (n:=max _ _+1) F;have q:=A (show sg m (val (Bn (Cs (Hg a b) (max (ln a) (ln b)+1))))=sg m (val a)+sg m (val b) by unfold sg;cases m<;>simp <;>omega);have o:=A T;have N:=A (a68 B E);have J:=A j;have L:=A z;obtain⟨R,d,rfl,_,_,_⟩:=id j;obtain⟨c,g,rfl,_,_,_⟩:=id z;have⟨W0,P,f,s,t,u⟩:=iO w [AU m,AK R (ln a) d] [AU m,AK c (ln b) g] [AU AM,AK O 0 0] 341;have r:=A (λ(W) (h)=>jI W a b _ _ 366 _ (J.grow h) (L.grow h) D D (FZ func366 U rfl) N rfl);go_wp2;simp only[P.o];have l:=Ext.B9 W0;refine Fz U (Pq 8
  _ (Qb (w.1.size) (w.1.size) (w.1.size+1) m (AK R (ln a) d) (AK c (ln b) g) (Bn (Cs (Hg a b) (max (ln a) (ln b)+1)))) (λ_=>AM) U (λ_ _ h k=>h.tr k) (λi v _ _ h k=>gF h k) (λ_ _ _ _ h=>Aq) ?_ ?_ _ (Ext.dr W0))
 .exact gL
 exact gz
theorem b1p(w:V)(d g:Bool)(a b:List Nat)(S T:AN)(H:BH w w.1.size S a)(I:BH w w.1.size T b)(J:Canon a)(L:Canon b)(ae:ln a<=400000)(af:ln b<=400000)(hm:d≠g)(ad:val b<=val a):
  AZ AO 354 #[AW #[AU d,S],AW #[AU g,T]] w (Zn w (sg d (val a)+sg g (val b))):=by
 have N:=J.Bf;have P:=L.Bf;have⟨ac,ag⟩:=uZ N P (n:=max (ln a) (ln b)+1) F ad;have q:=A (show sg d (val (Bn (Cs (He a b) (max (ln a) (ln b)+1))))=sg d (val a)+sg g (val b) by unfold sg;cases d<;>cases g<;>simp at hm⊢ <;>omega);have o:=A ac;have X:=A (wI N P);have B:=A H;have E:=A I;obtain⟨R,j,rfl,_,_,_⟩:=id H;obtain⟨m,z,rfl,_,_,_⟩:=id I;have⟨W0,Y,f,s,t,u⟩:=iO w [AU d,AK R (ln a) j] [AU g,AK m (ln b) z] [AU AM,AK O 0 0] 341;have r:=A (λ(W) (h)=>jI W a b (AK R (ln a) j) (AK m (ln b) z) 367 _ (B.grow h) (E.grow h) D D (FZ func367 U rfl) X rfl);have KD:=A (Xz W0 a b (AK R _ j) _ (B.grow f) (E.grow f) J L D);have tm:(d==g)=AM:=by rw[CK];exact hm
 go_enter func354,ntmps354;go_wp2_with(go_at_call 345;rw[Y.o];refine KD.mono ?_;rintro e X0 ⟨c,rfl,aa,ab,l⟩;have tc:AQ (0<=c)=AL:=(by rw[Cx];rcases Int.lt_or_le c 0 with h|h;(omega);exact h);clear aa ab)
 refine Fz U (Pq 8
  _ (Qb (w.1.size) (w.1.size) (w.1.size+1) d (AK R (ln a) j) (AK m (ln b) z) (Bn (Cs (He a b) (max (ln a) (ln b)+1)))) (λ_=>AM) U (λ_ _ h k=>h.tr k) (λi v _ _ h k=>gF h k) (λ_ _ _ _ h=>Aq) ?_ ?_ _ (Ext.dr X0))
 .exact gL
 exact gz
theorem b10(w:V)(g d:Bool)(a b:List Nat)(S T:AN)(H:BH w w.1.size S a)(I:BH w w.1.size T b)(J:Canon a)(L:Canon b)(ad:ln a<=400000)(ae:ln b<=400000)(hm:g≠d)(af:val a<val b):
  AZ AO 354 #[AW #[AU g,S],AW #[AU d,T]] w (Zn w (sg g (val a)+sg d (val b))):=by
 have N:=J.Bf;have P:=L.Bf;have⟨ac,ag⟩:=uZ P N (n:=max (ln b) (ln a)+1) F D;have q:=A (show sg d (val (Bn (Cs (He b a) (max (ln b) (ln a)+1))))=sg g (val a)+sg d (val b) by unfold sg;cases g<;>cases d<;>simp at hm⊢ <;>omega);have o:=A ac;have X:=A (wI P N);have B:=A H;have E:=A I;obtain⟨R,m,rfl,_,_,_⟩:=id H;obtain⟨j,z,rfl,_,_,_⟩:=id I;have⟨W0,Y,f,s,t,u⟩:=iO w [AU g,AK R (ln a) m] [AU d,AK j (ln b) z] [AU AM,AK O 0 0] 341;have r:=A (λ(W) (h)=>jI W b a (AK j (ln b) z) (AK R _ m) 367 _ (E.grow h) (B.grow h) D D (FZ func367 U rfl) X rfl);have KD:=A (Xz W0 a b _ _ (B.grow f) (E.grow f) J L D);have tm:(g==d)=AM:=by rw[CK];exact hm
 go_enter func354,ntmps354;go_wp2_with(go_at_call 345;rw[Y.o];refine KD.mono ?_;rintro e X0 ⟨c,rfl,aa,ab,l⟩;have tc:AQ (0<=c)=AM:=Et;clear aa ab)
 refine Fz U (Pq 8
  _ (Qb (w.1.size+1) (w.1.size+1) (w.1.size) d (AK j (ln b) z) (AK R (ln a) m) (Bn (Cs (He b a) (max (ln b) (ln a)+1)))) (λ_=>AM) U (λ_ _ h k=>h.tr k) (λi v _ _ h k=>gF h k) (λ_ _ _ _ h=>Aq) ?_ ?_ _ (Ext.dr X0))
 .exact gL
 exact gz
def a7m(w:V)(c d:Bool)(a b:List Nat)(e f:AN)(g:BH w w.1.size e a)(h:BH w w.1.size f b)(i:Canon a)(j:Canon b)(k:ln a<=400000)(l:ln b<=400000):
  AZ AO 354 #[AW #[AU c,e],AW #[AU d,f]] w (Zn w (sg c (val a)+sg d (val b))):=by
 by_cases hm:c=d;all_goals grind [a4z,b1p,b10]
def Je(x y:Int):Int:=if x<y then -1 else if y<x then 1 else 0
def uh(l:List UInt8):num l=sg (DH l [45]) (BY (Ag l)):=by unfold num sg;rfl
def b0B{m c b:Bool}{l la lb:List Nat}{x y:Nat}{p q:Int}(j:Canon l)(f:sg m (val l)=sg c (val la)+sg (!b) (val lb))(g:val la=x)(i:val lb=y)(n:p=sg c x)(o:q=sg b y):
  Je p q=if((ln l:Int)==0)=AL then 0 else if m then -1 else 1:=by
 have k:(if((ln l:Int)==0)=AL then(0:Int) else if m then -1 else 1)=if ln l=0 then 0 else if m then -1 else 1:=by
  by_cases h:ln l=0<;>simp[h]
 rw[k];subst n o;rw[g,i] at f;have r:sg m (val l)=sg c x-sg b y:=by
  rw[f];unfold sg;cases b<;>simp <;>omega
 have d:=val_eq_zero j.trim;by_cases a:ln l=0
 .have:l=[]:=Jf.1 a;have e:=d.2 this;rw[Aj a];unfold Je;rw[e] at r;have:sg m 0=0:=by unfold sg;cases m<;>rfl
  rw[Af D,Af D]
 have e:0<val l:=by
  rcases TI (val l) with h|h
  .exact absurd (by rw[d.1 h];rfl) a
  exact h
 rw[Af a];unfold Je;cases m
 .have:sg AM (val l)=val l:=rfl;rw[Af D,Aj D];rfl
 have:sg AL (val l)= -(val l:Int):=rfl;rw[Aj D];rfl
def a0T(a b:List UInt8)(w:V)(ha:ln a<=100000)(hb:ln b<=100000)(s:18<ln a\/18<ln b)(h:Fu a b=0):
  AZ AO 326 #[AT (tx a),AT (tx b)] w λe w'=>e=Ac (BO #[M G (Je (num a) (num b)),M G 0])/\Ext w w':=by
 have⟨j,k⟩:=U8 h;have⟨q,la⟩:=NZ j;have⟨r,lb⟩:=NZ k;have n:=Pp q;have o:=Pp r;have i:=A (Rm a b w D D);rw[h] at i;have K2:=A (λW=>nX a b W s D D);have K3:=A (λW=>YE W a n D);have K4:=A (λW=>YE W b o D);have X:=A (uh a);have Y:=A (uh b);have T:=A la;have U:=A lb;clear h j k q r n o ha hb s la lb;go_enter func326,ntmps326;go_wp2_with(first
  |(go_at_call 320;refine i.q λW1 ab=>?_)
  |(go_at_call 321;refine(K2 _).q λW2 ac=>?_)
  |(go_at_call 322;((with_reducible refine(K4.o _).mono ?_);rintro e c ⟨v4,l4,rfl,⟨g4,ag,rfl,ai,E⟩,x,I,B,t⟩;have f:=A E;have aa:=A I;have S:=A B;have N:=A x;clear E I B x))
  |(go_at_call 322;((with_reducible refine(K3.o _).mono ?_);rintro e J ⟨v3,l3,rfl,⟨g3,af,rfl,ah,C⟩,u,H,z,ad⟩;have d:=A C;have Z:=A H;have R:=A z;have L:=A u;clear C H z u))
  |(go_at_call 354;(refine(a7m _ _ _ l3 l4 _ _ (((d.sl d.lt).grow t).grow (GB c _ _)) ((f.sl f.lt).grow (GB c _ _)) L N (by have:=R.o;have:=T.o;omega) (by have:=S.o;have:=U.o;omega)).mono ?_);rintro e W5 ⟨m,v,l,rfl,F,y,K,ae⟩;obtain⟨A5,c5,rfl,q1,q2,_⟩:=id F;unfold BM at q2;have P:=A (b0B y K Z aa X Y);have g:=A ((Ext.tr (Ext.tr (Ext.tr ab ac) ad) t).tr ((GB c _ _).tr ae));clear F y K))
 all_goals
  go_ret2;refine⟨?_,g.alloc g.size _⟩;rw[P.o];simp[*]
def a8v(x y:Int):Dv x y=Je x y:=by
 unfold Dv Je;rcases Int.lt_trichotomy x y with h|h|h
 .first|simp[h]|(rw[Aj h,Aj h])
 .subst h;simp
 have:¬x<y:=D;simp[h,this]
def wL(x y:Int)(w:V):AZ AO 260 #[M G x,M G y] w λe w'=>e=Ac (M G (Je x y))/\w'=w:=by
 rw[<-a8v];exact cmp_Compare_int x y w
def a0d(a b:List UInt8)(w:V)(m:ln a<=100000)(n:ln b<=100000)(h:Fu a b=0):
  AZ AO 326 #[AT (tx a),AT (tx b)] w λe w'=>e=Ac (BO #[M G (Je (num a) (num b)),M G 0])/\Ext w w':=by
 by_cases l:18<ln a\/18<ln b
 .exact a0T a b w m n l h
 have⟨g,i⟩:=U8 h;have⟨j,la⟩:=NZ g;have⟨k,lb⟩:=NZ i;have d:=A (Rm a b w D D);rw[h] at d;have o:=A (λW=>jQ a b W D D j k);have f:=A (λW=>wL (num a) (num b) W);have⟨z,c⟩:=AP (Je (num a) (num b));rw[c];simp only[c] at f;clear h g i j k m n l la lb c;go_enter func326,ntmps326;go_wp2_with(first
  |(go_at_call 320;refine d.q λW1 q=>?_)
  |(go_at_call 321;refine(o _).q λW2 r=>?_)
  |(go_at_call 260;refine(f _).mono ?_;rintro e J ⟨rfl,rfl⟩))
 go_ret2;exact⟨F,Ext.tr q r⟩
noncomputable def QR(a b:List UInt8):List UInt8×Int:=
 if ln a+ln b<=18 then(CY (num a*num b),0) else Nh (DH a [45] !=DH b [45]) (Io (BY (Ag a)*BY (Ag b)))
def oo{a:List UInt8}(b:Eu a=AL): -((10:Int)^ln a)<=num a/\num a<=(10:Int)^ln a:=by
 have h1:=UA (Pp b);have h2:10^(Ag a).length<=10^ln a:=JK Z (UG a);have c:((10^ln a:Nat):Int)=(10:Int)^ln a:=AV;rw[<-c];unfold num;split <;>omega
def ak{a b:List UInt8}(c:Eu a=AL)(d:Eu b=AL)(h:ln a+ln b<=18): -1000000000000000000<=num a*num b/\num a*num b<=1000000000000000000:=by
 have h1:=RL (oo c) (oo d);have h2:(10:Int)^ln a*(10:Int)^ln b<=1000000000000000000:=by
  rw[<-Int.pow_add];have:((10^(ln a+ln b):Nat):Int)<=((10^18:Nat):Int):=Int.ofNat_le.2 (JK Z h);have e:((10^(ln a+ln b):Nat):Int)=(10:Int)^(ln a+ln b):=AV;rw[<-e];exact this
 omega
def O9(aa:Nat)(sa sb:Bool)(v1 v2:AN)(L:List Nat)(r:List UInt8×Int):Nat->AN->V->Prop
 |0,v,_=>v=Ap (Q ⟨aa,0,O⟩)
 |1,v,_=>v=AU sa
 |2,v,_=>v=Ap (Q ⟨aa+1,0,O⟩)
 |3,v,_=>v=AU sb
 |4,v,_=>v=AU (sa !=sb)
 |5,v,_=>v=Ap (Q ⟨aa,1,O⟩)
 |6,v,_=>v=v1
 |7,v,_=>v=Ap (Q ⟨aa+1,1,O⟩)
 |8,v,_=>v=v2
 |9,v,w=>BH w w.1.size v L/\Small L/\ln L<=1000
 |10,v,w=>∃u,v=AW #[AU (sa !=sb),u]/\BH w w.1.size u L/\Small L/\ln L<=1000
 |11,v,_=>v=BO #[AT (tx r.1),M G r.2]
 |12,v,_=>v=AT (tx r.1)
 |_,v,_=>v=M G r.2
theorem b0f{sa sb:Bool}{v:AN}(h:O9 aa sa sb v1 v2 L r i v w)(hx:Ext w w'):O9 aa sa sb v1 v2 L r i v w':=by
 match i,h with
 |0,h|1,h|2,h|3,h|4,h|5,h|6,h|7,h|8,h|11,h|12,h=>exact h
 |9,h=>exact⟨BH.grow h.1 hx,h.2⟩
 |10,h=>obtain⟨u,e,hu,h2⟩:=h;exact⟨u,e,hu.grow hx,h2⟩
 |_+13,h=>exact h
def tT(a b:List UInt8)(w:V)(ha:ln a<=100000)(hb:ln b<=100000)(az:18<ln a+ln b)(h:Fu a b=0)(ht:CA w):
  AZ AO 353 #[AT (tx a),AT (tx b)] w (Qn w (QR a b)):=by
 have⟨ca,cb⟩:=U8 h;have⟨fa,la⟩:=NZ ca;have⟨fb,lb⟩:=NZ cb;have da:=Pp fa;have db:=Pp fb;have Y:=A (Rm a b w D D);rw[h] at Y;have y:=A (λW=>YE W a da D);have z:=A (λW=>YE W b db D);have aq:=A la;have ar:=A lb;have HT:=A ht;have S:=A (show QR a b=Nh (DH a [45] !=DH b [45]) (Io (BY (Ag a)*BY (Ag b))) by unfold QR;rw[Af D]);have aH:AQ ((ln a:Int)+(ln b:Int)<=18)=AM:=Et;have⟨sa,P⟩:=AP (DH a [45]);have⟨sb,R⟩:=AP (DH b [45]);rw[P,R] at S;unfold uu at y z;simp only[P] at y;simp only[R] at z;clear h ca cb fa fb da db az la lb ht P R;go_enter func353,ntmps353;go_wp2_with(first
  |(go_at_call 320;refine Y.q λW1 aA=>?_)
  |(go_at_call 322;((with_reducible refine(z.o _).mono ?_);rintro e o ⟨v4,f,rfl,⟨n,j,rfl,aD,ah⟩,ad,aj,af,ab⟩;have X:=A ah;have av:=A aj;have ap:=A af;have an:=A ad;clear ah aj af ad))
  |(go_at_call 322;((with_reducible refine(y.o _).mono ?_);rintro e J ⟨v3,d,rfl,⟨m,g,rfl,aC,ag⟩,ac,ai,ae,aB⟩;have T:=A ag;have au:=A ai;have ao:=A ae;have am:=A ac;clear ag ai ae ac)))
 have x:=A (Ext.tr (Ext.tr (Ext.tr aA aB) ab) (GB o (.cells #[AU sa,AK (Q ⟨m,0,O⟩) (ln d) g] 341) (.cells #[AU sb,AK (Q ⟨n,0,O⟩) (ln f) j] 341)));have R1:=(Az.new o 341 [AU sa,AK (Q ⟨m,0,O⟩) (ln d) g]).ext ((Ad _ _).alloc (AS _) (.cells #[AU sb,AK (Q ⟨n,0,O⟩) (ln f) j] 341));have B:=Az.new (o.alloc (.cells #[AU sa,AK (Q ⟨m,0,O⟩) (ln d) g] 341)) 341 [AU sb,AK (Q ⟨n,0,O⟩) (ln f) j];rw[D5] at B;have S3:=((T.sl T.lt).grow ab).grow (GB o (.cells #[AU sa,AK (Q ⟨m,0,O⟩) (ln d) g] 341) (.cells #[AU sb,AK (Q ⟨n,0,O⟩) (ln f) j] 341));have S4:=(X.sl X.lt).grow (GB o (.cells #[AU sa,AK (Q ⟨m,0,O⟩) (ln d) g] 341) (.cells #[AU sb,AK (Q ⟨n,0,O⟩) (ln f) j] 341));have⟨W0,aa⟩:=AP ((o.alloc (.cells #[AU sa,AK (Q ⟨m,0,O⟩) (ln d) g] 341)).alloc (.cells #[AU sb,AK (Q ⟨n,0,O⟩) (ln f) j] 341));simp only[aa] at x R1 B S3 S4⊢;clear aa;have aF:ln d<=300:=by have:=ao.o;have:=aq.o;omega
 have aG:ln f<=300:=by have:=ap.o;have:=ar.o;omega
 have KT:=A (λ(W:V) (h:Ext W0 W)=>kE W d f _ _ (S3.grow h) (S4.grow h) am.Bf an.Bf D D);have aw:=A (λ(W:V) (u:AN) (h:Ext W0 W) (N:BH W W.1.size u (Io (BY (Ag a)*BY (Ag b)))) (h1:Small (Io (BY (Ag a)*BY (Ag b)))) (h2:(Io (BY (Ag a)*BY (Ag b))).length<=1000)=>wG W (sa !=sb) _ u N h1 D (HT.below (x.tr h) (AS _)));refine Fz U (Pq 14
  (λw'=>Ext W0 w') (O9 o.1.size sa sb (AK (Q ⟨m,0,O⟩) (ln d) g) (AK (Q ⟨n,0,O⟩) (ln f) j) (Io (BY (Ag a)*BY (Ag b))) (Nh (sa !=sb) (Io (BY (Ag a)*BY (Ag b))))) (λ_=>AM) U (λ_ _ h k=>h.tr k) (λi v _ _ h k=>b0f h k) (λ_ _ _ _ h=>Aq) ?step ?tail _ (Ext.dr W0))
 case step=>
  intro i C w' hi q c;have E:=λi=>(R1.ext q).cell i
  have H:=λi=>(B.ext q).cell i
  rcases(show i=0\/i=1\/i=2\/i=3\/i=4\/i=5\/i=6\/i=7\/i=8\/i=9\/i=10\/i=11\/i=12\/i=13 by omega) with rfl|rfl|rfl|rfl|rfl|rfl|rfl|rfl|rfl|rfl|rfl|rfl|rfl|rfl<;>clear hi<;>refine DC rfl (λK hK=> ?_)
  .exact Ek
  .have d0:=c 0 U;simp only[O9] at d0;go_simp;exact hK _ _ ⟨AU sa,by simp[d0],Ext.B9 _,rfl,λh=>Aq⟩
  .exact Ek
  .have d2:=c 2 U;simp only[O9] at d2;go_simp;exact hK _ _ ⟨AU sb,by simp[d2],Ext.B9 _,rfl,λh=>Aq⟩
  .have d1:=c 1 U;have d3:=c 3 U;simp only[O9] at d1 d3;go_simp;exact hK _ _ ⟨AU (sa !=sb),by(simp[d1,d3];try(cases sa<;>cases sb<;>rfl)),Ext.B9 _,F,λh=>Aq⟩
  .exact Ek
  .have d5:=c 5 U;simp only[O9] at d5;go_simp;exact hK _ _ ⟨(AK (Q ⟨m,0,O⟩) (ln d) g),by simp[d5],Ext.B9 _,rfl,λh=>Aq⟩
  .exact Ek
  .have d7:=c 7 U;simp only[O9] at d7;go_simp;exact hK _ _ ⟨(AK (Q ⟨n,0,O⟩) (ln f) j),by simp[d7],Ext.B9 _,rfl,λh=>Aq⟩
  .have d6:=c 6 U;have d8:=c 8 U;simp only[O9] at d6 d8;clear E H;go_simp;refine(KT _ q).mono ?_;rintro e W5 ⟨v,l,rfl,ho,hc,s,aE,L⟩;have I:Io (BY (Ag a)*BY (Ag b))=l:=bJ hc (by rw[s,au.o,av.o]);have N:BH W5 W5.1.size v (Io (BY (Ag a)*BY (Ag b))):=by rw[I];exact ho.sl
   exact hK _ _ ⟨v,by simp[d6,d8],L,⟨N,by rw[I];exact hc.Bf,by rw[I];omega⟩,λh=>Aq⟩
  .have d4:=c 4 U;have⟨t,ay,ax⟩:=c 9 U;have⟨A9,c9,e9,_,_,_⟩:=id t;simp only[O9] at d4;rw[e9] at t;have D9:=A t;clear E H t;go_simp;exact hK _ _ ⟨AW #[AU (sa !=sb),AK A9 (Io (BY (Ag a)*BY (Ag b))).length c9],by simp[d4,e9],Ext.B9 _,⟨_,rfl,D9,ay,ax⟩,λh=>Aq⟩
  .have⟨u,e10,hs10,hs10b,hs10c⟩:=c 10 U;have KR:=A (aw w' u q hs10 hs10b hs10c);clear E H hs10;go_simp;refine KR.q λW6 L=>?_;exact hK _ _ ⟨_,by simp[e10],L,rfl,λh=>Aq⟩
  .have r:=c 11 U;simp only[O9] at r;go_simp;exact hK _ _ ⟨AT (tx (Nh (sa !=sb) (Io (BY (Ag a)*BY (Ag b)))).1),by simp[r],Ext.B9 _,rfl,λh=>Aq⟩
  have r:=c 11 U;simp only[O9] at r;go_simp;exact hK _ _ ⟨M G (Nh (sa !=sb) (Io (BY (Ag a)*BY (Ag b)))).2,by simp[r],Ext.B9 _,rfl,λh=>Aq⟩
 case tail=>
  intro C w' q s _;have ak:=s 12 Z;have al:=s 13 Z;simp only[O9] at ak al;clear s;simp only[FV,FY];go_wp2;go_ret2;rw[S.o];refine⟨?_,x.tr q⟩;simp[ak,al]
def a9e(a b:List UInt8)(w:V)(m:ln a<=100000)(n:ln b<=100000)(h:Fu a b=0)(e:CA w):
  AZ AO 353 #[AT (tx a),AT (tx b)] w (Qn w (QR a b)):=by
 by_cases j:ln a+ln b<=18
 .have⟨ca,cb⟩:=U8 h;have⟨c,la⟩:=NZ ca;have⟨d,lb⟩:=NZ cb;have g:=A (Rm a b w D D);rw[h] at g;have i:=A (λW=>jQ a b W D D c d);have f:=A (show QR a b=(CY (num a*num b),0) by unfold QR;rw[Aj j]);have q:=A e;have o:=ak c d j;have⟨x,hx⟩:=AP (num a);have⟨y,hy⟩:=AP (num b);rw[hx,hy] at o f;simp only[hx,hy] at i;obtain⟨s,t⟩:=o;have w1:G.wrap (x*y)=x*y:=DF _ D;have u:AQ ((ln a:Int)+(ln b:Int)<=18)=AL:=NF;clear h ca cb c d m n la lb e hx hy;go_enter func353,ntmps353;go_wp2_with(first
   |(go_at_call 320;refine g.q λW1 k=>?_)
   |(go_at_call 321;refine(i _).q λW2 l=>?_)
   |(go_at_call 179;refine(U6 (x*y) _ D D (q.below (Ext.tr k l) (AS _))).q λJ r=>?_))
  go_ret2;rw[f.o];exact⟨F,Ext.tr (Ext.tr k l) r⟩
 exact tT a b w m n D h e
def Ho(p:Nat->Bool):Nat->Int
 |0=> -1
 |n+1=>if Ho p n= -1 then(if p n then(n:Int) else -1) else Ho p n
theorem kK{p:Nat->Bool}(h:∀i,i<n->p i=AM):Ho p n= -1:=by
 induction n with
 |zero=>rfl
 |succ n a=>rw[Ho,Aj (a λi hi=>h i D),h n D];rfl
theorem gR{p:Nat->Bool}(hk:k<n)(h:∀i,i<k->p i=AM)(b:p k=AL):Ho p n=(k:Int):=by
 induction n with
 |zero=>omega
 |succ n c=>
  rw[Ho];by_cases a:k=n
  .subst a;rw[Aj (kK h),Aj b]
  rw[c D,Af D]
def a8D(p:Nat->Bool)(n:Nat):AQ (0<=Ho p n)=Cm p n:=by
 induction n with
 |zero=>rfl
 |succ n a=>
  rw[Ho,Cm,<-a];by_cases h:Ho p n= -1
  .rw[Aj h,h];cases p n
   .rfl
   show AQ ((0:Int)<=(n:Int))=AL;rw[Cx];omega
  rw[Af h];have:∀m,Ho p m= -1\/0<=Ho p m:=by
   intro m
   induction m with
   |zero=>exact .inl F
   |succ m a=>
    rw[Ho];by_cases hm:Ho p m= -1
    .rw[Aj hm];cases p m
     .exact .inl F
     exact .inr (by show(0:Int)<=(m:Int);omega)
    rw[Af hm];exact a
  have b:0<=Ho p n:=(this n).resolve_left h;simp[b]
def xk(l:List AN):Nat->AN
 |1=>l.headD Ba
 |_=> AW l.toArray
def Ux(g:Nat)(lb:Array AN)(k:Nat)(rows:List (List AN))(p:Nat->Bool)(w:V):Prop:=
 ∀(W:V) (i:Nat),i<ln rows->Ext w W->AZ AO g (#[xk (rows.getD i []) k]++lb) W λe w'=>e=Ac (AU (p i))/\Ext W w'
def b5M(w:V)(p:Nat->Bool)(n:Nat)(i:AN)(wr:V):Prop:=∃k:Nat,k<=n/\i=M G (k:Int)/\Ext w wr/\∀j,j<k->p j=AM
def b08{w wr:V}{b o:Nat}{v:Option AN}(c:Ext w wr)(a:b<w.1.size)(h:w.cell? ⟨b,o,O⟩=v):wr.cell? ⟨b,o,O⟩=v:=(c.cell (p:=⟨b,o,O⟩) a).trans h
def aQ(f k:Nat):Prop:=∀(w:V) (R:Option An) (T n:Nat) (rows:List (List AN)),ln rows=n->BB k w w.1.size R T rows->DG k rows->∀(p:Nat->Bool) (g:Nat) (lb:Array AN),
  (∀args w,(callFunc g args).run AO w= .ok (.enter g args) w)->Ux g lb k rows p w->
  AZ AO f #[AK R n T,.func (.func g) #[] lb] w λe w'=>e=Ac (M G (Ho p n))/\Ext w w'
def kn(f k:Nat):Prop:=∀(w:V) (R:Option An) (T n:Nat) (rows:List (List AN)),ln rows=n->BB k w w.1.size R T rows->DG k rows->∀(p:Nat->Bool) (g:Nat) (lb:Array AN),
  (∀args w,(callFunc g args).run AO w= .ok (.enter g args) w)->Ux g lb k rows p w->
  AZ AO f #[AK R n T,.func (.func g) #[] lb] w λe w'=>e=Ac (AU (Cm p n))/\Ext w w'
theorem dU(h:p:=by
  obtain⟨h1,h2,h3⟩:=c;rw[hn] at h1 h3;unfold BM at h2;have H3:=A h3;have HN:=A hn;have HP:=A a;clear h3 hn a;go_wp2;go_loopw [5,8] (λ_ i wr=>b5M w p n i wr) (λ_ i _=>((n:Int)-B8 i).toNat)
  case atStart=>exact⟨0,D,rfl,Ad _ _,λj hj=>D⟩
  obtain⟨i,hi,rfl,hX,hall⟩:=hrel;have HX:=A hX;have HA:=A hall;clear hX hall;by_cases hlt:i<n
  .obtain⟨b,off,rfl,hB,hcell0⟩:=H3 D;have hcell:=λi hi j hj=>b08 HX hB (hcell0 i hi j hj)
   have hcall:=HP wr i (by rw[HN.o];exact hlt) HX;have hi':i<ln rows:=by rw[HN.o];exact hlt
   have hw1:=d _ (Ey hi');have⟨row,hrow⟩:=AP (rows.getD i []);rw[show rows[i]=row by rw[<-hrow,CM,Bv hi'];rfl] at hw1;rw[hrow] at hcall
   try(have c0:=hcell i hlt 0 Z;rw[hrow,DL] at c0)
   try(have c1:=hcell i hlt 1 Z;rw[hrow,DL] at c1)
   try(have c2:=hcell i hlt 2 Z;rw[hrow,DL] at c2)
   try(have c3:=hcell i hlt 3 Z;rw[hrow,DL] at c3)
   try(have c4:=hcell i hlt 4 Z;rw[hrow,DL] at c4)
   try(have c5:=hcell i hlt 5 Z;rw[hrow,DL] at c5)
   try(have c6:=hcell i hlt 6 Z;rw[hrow,DL] at c6)
   simp only[SJ,Dh] at c0;clear hcell hcell0 hrow hi';rcases row with _|⟨x0,_|⟨x1,_|⟨x2,_|⟨x3,_|⟨x4,_|⟨x5,_|⟨x6,_|⟨x7,r⟩⟩⟩⟩⟩⟩⟩⟩<;>first|(exfalso;simp only[FX,Jy] at hw1;omega)|skip
   simp only[xk,List.headD_cons] at hcall;have HC:=A hcall;clear hcall hw1;cases hq:p i
   .rw[hq] at HC;have HQ:=A hq;clear hq;go_wp2_with(go_at_fn g;refine HC.q λw' hb'=>?_)
    refine⟨⟨i+1,D,AV,HX.tr hb',λj hj=> ?_⟩,Bm⟩;by_cases hjk:j=i
    .rw[hjk];exact HQ
    exact HA j D
   rw[hq] at HC;have HR:=A (gR hlt HA hq);clear hq;go_wp2_with(go_at_fn g;refine HC.q λw' hb'=>?_)
   go_ret;exact⟨Fo,HX.tr hb'⟩
  have hlt':AQ ((i:Int)<(n:Int))=AM:=Et;have HR:=A (kK (p:=p) (n:=n) (λj hj=>HA j D));go_wp2;go_ret;exact⟨Fo,HX⟩):p:=h
theorem kT(h:p:=by
  have HR:=A (a8D p n);clear hn a c b;have⟨x,hx⟩:=AP (Ho p n);rw[hx] at d HR;clear hx;go_wp2_with(refine d.q λw' hb'=>?_)
  go_ret;exact⟨by rw[<-HR.o];rfl,hb'⟩):p:=h
def a0z:aQ 181 7:=by
 intro w R T n rows hn c d p g lb e a;go_enter func181,ntmps181;exact dU
def a1E:kn 110 7:=by
 intro w R T n rows hn a c p g lb e b;have d:=A (a0z w R T n rows hn a c p g lb e b);go_enter func110,ntmps110;exact kT
def a0v:aQ 184 1:=by
 intro w R T n rows hn c d p g lb e a;go_enter func184,ntmps184;exact dU
def a0u:kn 114 1:=by
 intro w R T n rows hn a c p g lb e b;have d:=A (a0v w R T n rows hn a c p g lb e b);go_enter func114,ntmps114;exact kT
def a1k:aQ 196 5:=by
 intro w R T n rows hn c d p g lb e a;go_enter func196,ntmps196;exact dU
def a1V:kn 122 5:=by
 intro w R T n rows hn a c p g lb e b;have d:=A (a1k w R T n rows hn a c p g lb e b);go_enter func122,ntmps122;exact kT
def a1O:aQ 207 3:=by
 intro w R T n rows hn c d p g lb e a;go_enter func207,ntmps207;exact dU
def jz:(AO.info? 40).map (λi=>(i.zero,i.size,i.bytes))=Q (Q (AW #[M G 0,M G 0,M G 0,M G 0,AU AM,M G 0,M G 0]),7,56):=U
def a5U(n:Nat)(w:V)(hn:n<=1000000):AZ AO 182 #[AK O 0 0,M G (n:Int)] w λe w'=>∃v,e=Ac v/\w'.ownsRow w.1.size 40 7 v 0 []/\Ext w w':=by
 have⟨o,f,g,k,i⟩:=DM jz;by_cases j:0<n
 .have hr:=λty=>Lib.run_append_nil_zeros (P:=AO) w 117 3 ty 40 o _ .i64 .i64 underlying117 GQ f g n j D D (by rw[i];omega)
  have a:=A (yG (base:=w.1.size) (e:=40) (size:=7) w.drew (Is (Ea #[M G 0,M G 0,M G 0,M G 0,AU AM,M G 0,M G 0]).cells n++Is (Ea #[M G 0,M G 0,M G 0,M G 0,AU AM,M G 0,M G 0]).cells (grownCap w n 0 40-n)) (grownCap w n 0 40) (AS _) (grownCap_le_maxLen _ _ _ _ Fp) (by
   have:=grownCap_ge w n 0 40;rw[Array.size_append,size_zeroCells,size_zeroCells,<-Kq];have e:n+(grownCap w n 0 40-n)=grownCap w n 0 40:=D;rw[e];rfl))
  have b:=A (show Ext w (w.drew.alloc (.cells (Is (Ea #[M G 0,M G 0,M G 0,M G 0,AU AM,M G 0,M G 0]).cells n++Is (Ea #[M G 0,M G 0,M G 0,M G 0,AU AM,M G 0,M G 0]).cells (grownCap w n 0 40-n)) 40)) from((Ad _ _).drew).alloc (AS _) _);have⟨W1,c⟩:=AP (w.drew.alloc (.cells (Is (Ea #[M G 0,M G 0,M G 0,M G 0,AU AM,M G 0,M G 0]).cells n++Is (Ea #[M G 0,M G 0,M G 0,M G 0,AU AM,M G 0,M G 0]).cells (grownCap w n 0 40-n)) 40));have m:=grownCap_ge w n 0 40;have⟨q,d⟩:=AP (grownCap w n 0 40);rw[d] at m;simp only[d] at a b c hr;simp only[c] at a b hr;have l:=A hr;clear hr f g k i d c;go_enter func182,ntmps182;go_wp2_with(at_builtin;refine Lib.wpList_append_run _ F _ _ _ _ F _ _ F F _ _ (l _) ?_)
  go_ret;exact⟨_,F,a,b⟩
 obtain rfl:n=0:=D;have a:=A (Qz w w.1.size 40 7);clear f g k i j hn;go_enter func182,ntmps182;go_wp2;go_ret;exact⟨_,F,a,Ext.B9 _⟩
theorem Tz{rs:List (List Sd)}(hk:k<ln rs):(rs.take (k+1)).flatten=(rs.take k).flatten++rs.getD k []:=by
 rw[Qx hk,QB];simp[Gs,Bv hk]
def U2(rs:List (List Sd))(k:Nat):(rs.take k).flatten.length<=ln rs.flatten:=by
 have:rs.flatten=(rs.take k).flatten++(rs.drop k).flatten:=by rw[<-QB,WY]
 rw[this,FN];omega
def xg(w:V)(rs:List (List Sd))(v i:AN)(wr:V):Prop:=
 ∃k:Nat,k<=ln rs/\i=M G (k:Int)/\wr.ownsRow w.1.size 40 7 v (rs.take k).flatten.length (Cg (rs.take k).flatten).flatten/\Ext w wr
def b5f(rs:List (List Sd))(s i:AN):Prop:=∃k:Nat,k<=ln rs/\i=M G (k:Int)/\s=M G ((rs.take k).flatten.length:Int)
def vU(w:V)(R:Option An)(T:Nat)(rs:List (List Sd))(x:Ew w w.1.size R T rs)(af:∀r∈rs,r≠[])(ad:ln rs.flatten<=1000):
  AZ AO 111 #[AK R (ln rs) T] w λe w'=>∃z B,e=Ac (AK z (ln rs.flatten) B)/\BB 7 w' w'.1.size z B (Cg rs.flatten)/\Ext w w':=by
 have h1:=x.1;have h2:=x.2.1;unfold BM at h2;have⟨i0,K,W,Y,aa⟩:=DM jz;have I0:=A K;have I1:=A W;have I2:=A Y;have I3:=A aa;have I:=A x;clear x K W Y aa;go_enter func111,ntmps111;go_wp2
 go_loop [3,11] (λs i=>b5f rs s i) (λ_ i=>((ln rs:Int)-B8 i).toNat)
 case atStart=>exact⟨0,D,rfl,AV⟩
 obtain⟨k,hk,rfl,rfl⟩:=hrel;by_cases c:k<ln rs
 .obtain⟨b,off,rfl,hB,hcell⟩:=I.2.2 D;have⟨H,E,c1,g⟩:=hcell k c;have f:=Tz c;have o:=U2 rs (k+1);have y:((rs.take (k+1)).flatten.length:Int)=((rs.take k).flatten.length:Int)+((rs.getD k []).length:Int):=by rw[f];simp
  have⟨m,hm⟩:=AP ((rs.take k).flatten.length);have⟨d,j⟩:=AP ((rs.getD k []).length);rw[j] at c1;have hs:m+d<=1000:=by rw[hm,j] at y;omega
  exact zr
 obtain rfl:k=ln rs:=D;have S:(rs.take (ln rs)).flatten.length=ln rs.flatten:=by rw[Nk]
 rw[S];clear S;have⟨m,hm⟩:=AP (ln rs.flatten);rw[hm] at ad⊢;have l:=A hm;clear hm;go_wp2_with(go_at_call 182;refine(a5U m _ D).mono ?_;rintro e W1 ⟨v,rfl,t,hx⟩;have HO:=A t;have HX:=A hx;clear t hx)
 go_loopw [6,27] (λv i wr=>xg w rs v i wr) (λ_ i _=>((ln rs:Int)-B8 i).toNat)
 case atStart=>exact⟨0,D,rfl,by simpa using HO.o,HX⟩
 obtain⟨k,hk,rfl,N,J⟩:=hrel;have n:=A N;have a:=A J;clear N J;by_cases c:k<ln rs
 .obtain⟨b,off,rfl,hB,hcell⟩:=(I.below a).2.2 D;have⟨H,E,c1,g⟩:=hcell k c;have C:rs.getD k []≠[]:=by
   have e:rs.getD k []=rs[k]:=by rw[CM,Bv c];rfl
   rw[e];exact af _ (Ey c)
  have f:=Tz c;have o:=U2 rs (k+1);have⟨ring,P⟩:=AP (rs.getD k []);rw[P] at c1 g C f;have ai:0<ln ring:=MW.2 C;obtain⟨ba,oa,rfl,_,_⟩:=id (g.2.2 (by rw[BL];exact ai));have ag:=A (g.cells (JW ring) Z);have ac:=A (show(Cg ring).flatten.length=ln ring*7 by rw[LF (JW ring),BL]);have aj:(rs.take k).flatten.length+ln ring<=1000:=by rw[f,FN] at o;rw[l.o] at o;omega
  have ah:=A (show∀u∈(Cg ring).flatten,u.oneCell'=AL by
   intro u hu;have⟨r,x,U⟩:=S8.1 hu;obtain⟨s,_,rfl⟩:=Jg.1 x;simp only[Kt,PW,Nq] at U;rcases U with rfl|rfl|rfl|rfl|rfl|rfl|rfl<;>rfl)
  have HQ:=A f;have ab:=a.size;clear hcell g C f o P;go_wp2_with(at_builtin;(refine Ln _ F _ _ _ F w.1.size 40 i0 _ 7 56 underlying117 I0 I1 I2 I3 F D _ _ _ F n ⟨ba,oa,O⟩ (ln ring) E (Cg ring).flatten F ac ag ah Fp D ab ?_);intro v' w' X L ak)
  exact zq
 obtain rfl:k=ln rs:=D;have t:=n.o;rw[Nk] at t;obtain⟨z,B,rfl,g⟩:=F1 t (by rw[BL]) (JW _);have HS:=A g;have ae:=l.o;clear t g;go_wp2;go_ret;exact⟨z,B,by rw[ae];rfl,HS,a⟩
theorem Bx.grown(h:Bx w b t u){v:AN}(d:w.ownsRow base e s v n xs)(c:w.grownBy w' v.ownBlock)(j:t≠e):Bx w' b t u:=by
 refine(c.block b h.lt (λa=> ?_)).trans h;obtain⟨_,⟨rfl,_⟩|⟨g,T,cur,rfl,_,i,_⟩⟩:=d
 .cases a
 have f:b=g:=by grind [Hv]
 unfold Bx at h
 grind
theorem Az.grown{l:List AN}(h:Az w b t l){v:AN}(d:w.ownsRow base e s v n xs)(c:w.grownBy w' v.ownBlock)(j:t≠e):Az w' b t l:=by
 refine(c.block b h.lt (λa=> ?_)).trans h;obtain⟨_,⟨rfl,_⟩|⟨g,T,cur,rfl,_,i,_⟩⟩:=d
 .cases a
 have f:b=g:=by grind [Hv]
 unfold Az at h
 grind
theorem VO{d i j:Nat}(h:w.ownsRow d e' j v' i ad){v:AN}(t:w.ownsRow base e s v n xs)(r:w.grownBy w' v.ownBlock)(y:e'≠e):w'.ownsRow d e' j v' i ad:=by
 obtain⟨a,b|⟨c,k,l,rfl,q,f,m⟩⟩:=h
 .exact TZ
 refine⟨a,.inr ⟨c,k,l,F,q,(r.block c (Ee.1 f).1 (λo=> ?_)).trans f,m⟩⟩;obtain⟨_,⟨rfl,_⟩|⟨g,T,cur,rfl,_,x,_⟩⟩:=t
 .cases o
 have u:c=g:=by grind [Hv]
 grind
theorem wE{v:AN}(i:w.ownsRow base e s v n xs)(d:w.grownBy w' v.ownBlock):GF w w':=by
 refine⟨d.size,λb o c h=>(d.block b (Ee.1 c).1 (λe'=> ?_)).trans c⟩;obtain⟨_,⟨rfl,_⟩|⟨g,T,cur,rfl,_,a,_⟩⟩:=i
 .cases e'
 have f:=by simpa[Hv] using e'
 subst f;rw[c] at a;injection a with a;subst a;cases h
theorem vg{B:Nat}{a w w':V}{v:AN}(h:At B a w)(d:w.ownsRow base e s v n xs)(c:w.grownBy w' v.ownBlock)(b:B<=base)(hw:B<=w.1.size):At B a w':=
 h.grown c hw (λk hk=>BJ b (DS d k hk).1)
theorem NT{v:AN}(h:w.ownsRow base e s v n xs):∃R m c,v=AK R m c:=by
 obtain⟨_,⟨rfl,_⟩|⟨g,T,cur,rfl,_⟩⟩:=h
 .grind
 grind
abbrev O8(r i:Nat):List AN:=[M G (r:Int),M G (i:Int)]
abbrev Qp(l:List (Nat×Nat×Gd)):List (List AN):=l.map λx=>Jk x.2.2
abbrev Qq(l:List (Nat×Nat×Gd)):List (List AN):=l.map λx=>O8 x.1 x.2.1
def b1y(l:List (Nat×Nat×Gd)):DG 4 (Qp l):=G9 (f:=λx=>Jk x.2.2) (λ_=>rfl) l
def b0T(l:List (Nat×Nat×Gd)):DG 2 (Qq l):=G9 (f:=λx=>O8 x.1 x.2.1) (λ_=>rfl) l
def a7w:(AO.info? 210).map (λi=>(i.zero,i.size,i.bytes))=Q (Q (AW #[M G 0,M G 0,M G 0,M G 0]),4,32):=U
def a4l:(AO.info? 213).map (λi=>(i.zero,i.size,i.bytes))=Q (Q (AW #[M G 0,M G 0]),2,16):=U
structure TA(b:Nat)(l:List (Nat×Nat×Gd))(X Y:AN)(W:V):Prop where
 ba:Bx W b 207 X
 bp:Bx W (b+1) 208 Y
 a:W.ownsRow (b+2) 210 4 X (ln l) (Qp l).flatten
 p:W.ownsRow (b+2) 213 2 Y (ln l) (Qq l).flatten
theorem TA.stays{l:List (Nat×Nat×Gd)}(h:TA b l X Y W)(a:CN n0 W W'):TA b l X Y W':=
 ⟨h.ba.stays a,h.bp.stays a,nF h.a a,nF h.p a⟩
theorem TA.ext{l:List (Nat×Nat×Gd)}(h:TA b l X Y W)(hx:Ext W W'):TA b l X Y W':=h.stays (hx.stays (D8 _))
structure b5q(w:V)(R:Option An)(T:Nat)(rs:List (List Sd))(k:Nat)(W:V):Prop where
 ex:∃X Y,TA w.1.size (IZ rs k) X Y W
 rg:Ew W w.1.size R T rs
 low:At w.1.size w W
structure dh(w:V)(it rb k:Nat)(a:List Deferred)(H:Option An)(E:Nat)(l:List (Nat×Nat×Gd))(ring:List Sd)(j:Nat)(W:V):Prop where
 ex:∃X Y,TA w.1.size (l++LH k ring j) X Y W
 r:Bx W rb 3 (M G (k:Int))
 it:Bx W it 117 (AK H (ln ring) E)
 sl:BB 7 W w.1.size H E (Cg ring)
 RV:Mk w.1.size a W
 low:At w.1.size w W
theorem dh.stays{b:List Deferred}{l:List (Nat×Nat×Gd)}{ring:List Sd}(h:dh w it rb k b H E l ring j W)(hw:∀c,QY c∈b->c<w1.1.size)(a:CN w1.1.size W W')(hn:w.1.size<=w1.1.size):dh w it rb k b H E l ring j W':=
 ⟨by obtain⟨X,Y,h⟩:=h.ex;exact⟨X,Y,h.stays a⟩,h.r.stays a,h.it.stays a,h.sl.stays (JW ring) a,h.RV.stays hw a,h.low.trans (a.below.mono hn)⟩
def xn(X Y:AN)(k j:Nat)(ar o:List AN):Nat->AN
 |0=>X
 |1=> AW ar.toArray
 |2=> AW o.toArray
 |5=>Y
 |6=> M G (k:Int)
 |7=> M G (j:Int)
 |_=> AW (O8 k j).toArray
structure OC(b it rb ab:Nat)(k j:Nat)(H:Option An)(E:Nat)(ring:List Sd)(B0:Nat)(W0 W2:V)(l:List (Nat×Nat×Gd))(ar o:List AN)(X Y:AN)(L:Nat->Bool)(C:Nat->AN)(w:V):Prop where
 ba:Bx w b 207 X
 bp:Bx w (b+1) 208 Y
 r:Bx w rb 3 (M G (k:Int))
 it:Bx w it 117 (AK H (ln ring) E)
 de:Az w ab 201 ar
 low:At B0 W0 w
 keep:GF W2 w
 v:∀i,i<11->L i=AL->i≠3->i≠4->i≠9->i≠10->C i=xn X Y k j ar o i
 s3:L 3=AL->L 4=AM->∃g,C 3=AK (Q ⟨g,0,O⟩) 1 1/\Az w g 210 o
 s9:L 9=AL->L 10=AM->∃g,C 9=AK (Q ⟨g,0,O⟩) 1 1/\Az w g 213 (O8 k j)
 a:w.ownsRow (b+2) 210 4 (if L 4 then C 4 else X) (if L 4 then ln l+1 else ln l) (if L 4 then(Qp l).flatten++o else(Qp l).flatten)
 p:w.ownsRow (b+2) 213 2 (if L 10 then C 10 else Y) (if L 10 then ln l+1 else ln l) (if L 10 then(Qq l).flatten++O8 k j else(Qq l).flatten)
theorem OC.sz{ring:List Sd}{l:List (Nat×Nat×Gd)}{L:Nat->Bool}{C:Nat->AN}(h:OC b it rb ab k j H E ring B0 W0 W2 l ar o X Y L C w):b+2<=w.1.size:=h.bp.lt
theorem OC.step{ring:List Sd}{l:List (Nat×Nat×Gd)}{L:Nat->Bool}{C:Nat->AN}(h:OC b it rb ab k j H E ring B0 W0 W2 l ar o X Y L C w)
  (hx:Ext w w')(J:B0<=b){v:AN}(F:i≠4)(A:i≠10)(K:i≠3->i≠9->v=xn X Y k j ar o i)
  (B:i=3->∃g,v=AK (Q ⟨g,0,O⟩) 1 1/\Az w' g 210 o)(I:i=9->∃g,v=AK (Q ⟨g,0,O⟩) 1 1/\Az w' g 213 (O8 k j)):
  OC b it rb ab k j H E ring B0 W0 W2 l ar o X Y (Cn L i) (B7 C i v) w':=by
 have c:=hx.stays (D8 _);have N:=h.sz;have n:Cn L i 4=L 4:=Al;have f:Cn L i 10=L 10:=Al;have z:B7 C i v 4=C 4:=Al;have y:B7 C i v 10=C 10:=Al;refine⟨h.ba.stays c,h.bp.stays c,h.r.stays c,h.it.stays c,h.de.ext hx,h.low.trans (hx.mono D),h.keep.trans hx.keeps,λm hm a t u x s=> ?_,λa r=> ?_,λa q=> ?_,?_,?_⟩
 .by_cases hmi:m=i
  .grind
  simp[Af hmi] at a;simp[Af hmi];exact h.v m hm a t u x s
 .by_cases hmi:3=i
  .grind
  simp[Af hmi] at a;simp[Af hmi];rw[n] at r;have⟨g,e,d⟩:=h.s3 a r;exact⟨g,e,d.ext hx⟩
 .by_cases hmi:9=i
  .grind
  simp[Af hmi] at a;simp[Af hmi];rw[f] at q;have⟨g,e,d⟩:=h.s9 a q;exact⟨g,e,d.ext hx⟩
 .rw[n,z];exact EV h.a hx
 rw[f,y];exact EV h.p hx
theorem OC.b4R{ring:List Sd}{l:List (Nat×Nat×Gd)}{L:Nat->Bool}{C:Nat->AN}(h:OC b it rb ab k j H E ring B0 W0 W2 l ar o X Y L C w)
  (s:B0<=b)(i:L 4=AM){v:AN}(u:w'.ownsRow (b+2) 210 4 v (ln l+1) ((Qp l).flatten++o))(c:w.grownBy w' X.ownBlock):
  OC b it rb ab k j H E ring B0 W0 W2 l ar o X Y (Cn L 4) (B7 C 4 v) w':=by
 have x:=h.sz;have a:=h.a;rw[i] at a;refine⟨h.ba.grown a c Z,h.bp.grown a c Z,h.r.grown a c Z,h.it.grown a c Z,h.de.grown a c Z,vg h.low a c D D,h.keep.trans (wE a c),λm hm d q f r n=> ?_,λ_ d=> ?_,λd t=> ?_,?_,?_⟩
 .simp[Af f] at d;simp[Af f];exact h.v m hm d q f r n
 .grind
 .have⟨g,e,hr⟩:=h.s9 Al Al;exact⟨g,Al,hr.grown a c Z⟩
 .grind
 have:=VO h.p a c Z
 grind
theorem OC.b2Z{ring:List Sd}{l:List (Nat×Nat×Gd)}{L:Nat->Bool}{C:Nat->AN}(h:OC b it rb ab k j H E ring B0 W0 W2 l ar o X Y L C w)
  (s:B0<=b)(i:L 10=AM){v:AN}(u:w'.ownsRow (b+2) 213 2 v (ln l+1) ((Qq l).flatten++O8 k j))(c:w.grownBy w' Y.ownBlock):
  OC b it rb ab k j H E ring B0 W0 W2 l ar o X Y (Cn L 10) (B7 C 10 v) w':=by
 have x:=h.sz;have a:=h.p;rw[i] at a;refine⟨h.ba.grown a c Z,h.bp.grown a c Z,h.r.grown a c Z,h.it.grown a c Z,h.de.grown a c Z,vg h.low a c D D,h.keep.trans (wE a c),λm hm d n q r f=> ?_,λd t=> ?_,λ_ d=> ?_,?_,?_⟩
 .simp[Af f] at d;simp[Af f];exact h.v m hm d n q r f
 .have⟨g,e,hr⟩:=h.s3 Al Al;exact⟨g,Al,hr.grown a c Z⟩
 .grind
 .have:=VO h.a a c Z
  grind
 grind
def qq(rs:List (List Sd))(n:Nat)(hn:n<=ln rs):(IZ rs n).length=(rs.take n).flatten.length:=by
 induction n with
 |zero=>rfl
 |succ n a=>
  grind [IZ,Tz,LH]
def a6H(k:Nat)(ring:List Sd)(j:Nat):(LH k ring j).length=j:=by grind [LH]
def a3y(k:Nat)(ring:List Sd)(j:Nat):LH k ring (j+1)=LH k ring j++[(k,j,Ia ring j)]:=by
 grind [LH,List.range_succ]
theorem a8i{rs:List (List Sd)}(hn:n<=ln rs){x:Nat×Nat×Gd}(h:x∈IZ rs n):x.1<ln rs/\x.2.1<(rs.getD x.1 []).length:=by
 induction n with
 |zero=>cases h
 |succ n a=>
  rcases QF.1 h with h|h
  .grind
  grind [LH]
theorem gB{l:List (Nat×Nat×Gd)}(hi:i<ln l):(Qp l).getD i []=Jk (l.getD i IQ).2.2:=by
 grind
theorem oK{l:List (Nat×Nat×Gd)}(hi:i<ln l):(Qq l).getD i []=O8 (l.getD i IQ).1 (l.getD i IQ).2.1:=by
 grind
theorem a5i{a b:Nat}(h:Ext ((w.drewN a).drewN b) W):Ext w W:=
 (below_drewN (below_drewN (Ad _ w) a) b).trans h
theorem On{P:Program}{c:Exit->BV->V->Prop}{b:List Oper}{e:Nat}(n:Nat)(hm:P.follows .mixedOrders=AL)(d:Region.lexTailB .any b.toArray n=AL)
  (h:∀w2,Ext w w2->wpStill P b.toArray w2 (λa'=>CQ P b.toArray c (b.drop n) a' w2) (b.take n) a):(Code.region e b.toArray AL).wp P c a w:=
 wp_region_still_tail n hm d (h _ (Ext.dr w))
theorem a4b{o:Obj}(h:Ext (w.alloc o) W):Ext w W:=((Ad _ _).alloc (AS _) o).trans (h.mono AV)
theorem vT{P:Program}{ops:Array Oper}{c:BV->Prop}{l:List Oper}(h:∀b:Array Oper,b=ops->wpStill P b w c l a):wpStill P ops w c l a:=h ops rfl
theorem oO{a:Array Oper}{o:Oper}{b x:Bool}(e:o.guard=Q (j,b))(c:(a[j]?).bind (·.dst)=Q d)(f:tmps[d]?=Q (AU x)):Ir o (yielded a tmps)=(x==b):=by
 unfold Ir;rw[e];have hy:yielded a tmps j=Q x:=by unfold yielded;rw[c];simp[f]
 simp[hy]
theorem kJ{a:Array Oper}{o:Oper}{b x:Bool}(e:o.guard=Q (j,b))(c:(a[j]?).bind (·.dst)=Q d)(f:tmps[d]?=Q (AU x))(hx:(x==b)=AM):¬Ir o (yielded a tmps)=AL:=by
 grind [oO]
theorem Sj{a:Array Oper}{o:Oper}{b x:Bool}(e:o.guard=Q (j,b))(c:(a[j]?).bind (·.dst)=Q d)(f:tmps[d]?=Q (AU x))(hx:(x==b)=AL):Ir o (yielded a tmps)=AL:=by
 grind [oO]
abbrev dq(g:Int×Int):List AN:=[M G g.1,M G g.2]
abbrev J6(l:List (Int×Int)):List (List AN):=l.map dq
theorem jw{l:List (Int×Int)}(hi:i<ln l):(J6 l).getD i []=dq (l.getD i (0,0)):=by
 simp[Gs,Bv hi]
def b1b(l:List (Int×Int)):DG 2 (J6 l):=G9 (f:=dq) (λ_=>rfl) l
abbrev JP(b:Br)(a:Option An)(c:Nat):List AN:=[M G b.BX,M G b.C4,M G b.length,M G b.count,M G b.cost,AK a (ln b.Aa) c]
def Jr(w:V)(B:Nat)(R:Option An)(T:Nat)(l:List Br):Prop:=
 ln l<=T/\T<=BM/\(0<ln l->∃b off,R=Q ⟨b,off,O⟩/\b<B/\∀i,i<ln l->∃a c,(∀j,j<6->w.cell? ⟨b,off+6*i+j,O⟩=(JP (l.getD i Fy) a c)[j]?)/\BB 2 w B a c (J6 (l.getD i Fy).Aa))
theorem Jr.below{B:Nat}{l:List Br}(h:Jr w B R T l)(c:At B w w'):Jr w' B R T l:=by
 obtain⟨h1,h2,d⟩:=h;refine⟨h1,h2,λhn=> ?_⟩;have⟨b,off,e,a,k⟩:=d hn;refine⟨b,off,e,a,λi hi=> ?_⟩;have⟨H,E,f,g⟩:=k i hi;exact⟨H,E,λj m=>(c.cell a).trans (f j m),g.below c⟩
theorem Jr.more{B B':Nat}{l:List Br}(h:Jr w B R T l)(a:B<=B'):Jr w B' R T l:=by
 exact yZ
def a6x{b:Br}(t:(N b.BX 1 1000&&N b.C4 1 1000&&N b.length 1 65536&&N b.count 0 4096&&N b.cost 0 1073741824)=AL)(h:¬16<ln b.Aa):Gn b=EI (Q8 b) (ln b.Aa):=by
 unfold Gn;rw[t,Af Z,Af h]
def a3G(b:Br)(i:Option An)(j:Nat)(w:V)(t:(N b.BX 1 1000&&N b.C4 1 1000&&N b.length 1 65536&&N b.count 0 4096&&N b.cost 0 1073741824)=AM):
  AZ AO 124 #[AW (JP b i j).toArray] w λe w'=>e=Ac (M G (Gn b))/\Ext w w':=by
 have a:=A (show Ext w (w.alloc (.cells (JP b i j).toArray 48)) from(Ad _ _).alloc (AS _) _);have HR:=A (show Gn b=2 by unfold Gn;rw[t,Aj Z]);have⟨n,hn⟩:=AP (ln b.Aa);clear hn;cases c:N b.BX 1 1000
 .clear t;go_enter func124,ntmps124;go_wp2_with(go_at_call 197;refine(U3 _ _ _ _).mono ?_;rintro e W1 ⟨rfl,rfl⟩;first|rw[c]|skip)
  exact Tb
 cases d:N b.C4 1 1000
 .clear t;go_enter func124,ntmps124;go_wp2_with(go_at_call 197;refine(U3 _ _ _ _).mono ?_;rintro e W1 ⟨rfl,rfl⟩;first|rw[c]|rw[d]|skip)
  exact Tb
 cases f:N b.length 1 65536
 .clear t;go_enter func124,ntmps124;go_wp2_with(go_at_call 197;refine(U3 _ _ _ _).mono ?_;rintro e W1 ⟨rfl,rfl⟩;first|rw[c]|rw[d]|rw[f]|skip)
  exact Tb
 cases g:N b.count 0 4096
 .clear t;go_enter func124,ntmps124;go_wp2_with(go_at_call 197;refine(U3 _ _ _ _).mono ?_;rintro e W1 ⟨rfl,rfl⟩;first|rw[c]|rw[d]|rw[f]|rw[g]|skip)
  exact Tb
 rw[c,d,f,g] at t;have k:N b.cost 0 1073741824=AM:=by simpa using t
 clear t;go_enter func124,ntmps124;go_wp2_with(go_at_call 197;refine(U3 _ _ _ _).mono ?_;rintro e W1 ⟨rfl,rfl⟩;first|rw[c]|rw[d]|rw[f]|rw[g]|rw[k]|skip)
 go_ret;exact⟨Fo,a⟩
def b5o(w:V)(b:Br)(i:AN)(wr:V):Prop:=∃k:Nat,k<=ln b.Aa/\i=M G (k:Int)/\Ext w wr/\∀j,j<k->Q8 b j=0
def a3L(b:Br)(d:Option An)(g:Nat)(w:V)(hg:BB 2 w w.1.size d g (J6 b.Aa)):
  AZ AO 124 #[AW (JP b d g).toArray] w λe w'=>e=Ac (M G (Gn b))/\Ext w w':=by
 cases t:(N b.BX 1 1000&&N b.C4 1 1000&&N b.length 1 65536&&N b.count 0 4096&&N b.cost 0 1073741824)
 .exact a3G b d g w t
 have a:=A (show Ext w (w.alloc (.cells (JP b d g).toArray 48)) from(Ad _ _).alloc (AS _) _);have R:=A t;simp only[Ez] at t;obtain⟨⟨⟨⟨t1,t2⟩,t3⟩,t4⟩,t5⟩:=t;obtain⟨h1,h2,B⟩:=hg;rw[BL] at h1 B;unfold BM at h2;by_cases U:16<ln b.Aa
 .have HR:=A (show Gn b=4 by unfold Gn;rw[R.o,Af Z,Aj U]);clear B;go_enter func124,ntmps124;go_wp2_with(go_at_call 197;refine(U3 _ _ _ _).mono ?_;rintro e W1 ⟨rfl,rfl⟩;first|rw[t1]|rw[t2]|rw[t3]|rw[t4]|rw[t5]|skip)
  exact Tb
 have HR:=A (show Gn b=EI (Q8 b) (ln b.Aa) from a6x R U);have H3:=A B;have T:=A (Az.new w 48 (JP b d g));clear B;go_enter func124,ntmps124;go_wp2_with(go_at_call 197;refine(U3 _ _ _ _).mono ?_;rintro e W1 ⟨rfl,rfl⟩;first|rw[t1]|rw[t2]|rw[t3]|rw[t4]|rw[t5]|skip)
 have⟨L,F⟩:=AP (w.alloc (.cells (JP b d g).toArray 48));rw[F] at T a;have Z0:=A (show w.1.size<L.1.size by rw[<-F];simp);simp only[F];clear F;go_loopw [40] (λi wr=>b5o L b i wr) (λi _=>((ln b.Aa:Int)-B8 i).toNat)
 case atStart=>exact⟨0,D,rfl,Ad _ _,λj E=>D⟩
 obtain⟨k,hk,rfl,W,X⟩:=hrel;have l:=A W;have s:=A X;clear W X;have I:=A (T.ext l);have c2:=I.cell 2;have c5:=I.cell 5;have af:=I.lt;by_cases q:k<ln b.Aa
 .obtain⟨bb,off,rfl,hB,hcell0⟩:=H3 D;have ad:bb<wr.1.size:=D;have C:=λi hi j E=>((l.cell (p:=⟨bb,off+2*i+j,O⟩) (Nat.lt_trans hB Z0)).trans (a.cell (p:=⟨bb,off+2*i+j,O⟩) hB)).trans (hcell0 i hi j E)
  have c1:=C k q 0 Z;have J:=C k q 1 Z;rw[jw q] at c1 J;rw[Dh] at c1;rw[DL 2 k] at c1 J;have K:0<k->wr.cell? ⟨bb,off+(k-1)*2+1,O⟩=Q (M G (b.Aa.getD (k-1) (0,0)).2):=λm=>by
   have:=C (k-1) D 1 Z;rwa[jw D,DL 2 (k-1)] at this
  have c:=A (show Q8 b k=if(b.Aa.getD k (0,0)).1<0\/b.length<(b.Aa.getD k (0,0)).2\/(b.Aa.getD k (0,0)).2<=(b.Aa.getD k (0,0)).1 then 2 else if 0<k/\(b.Aa.getD k (0,0)).1<=(b.Aa.getD (k-1) (0,0)).2 then 10 else 0 from rfl);have⟨⟨x,y⟩,hx⟩:=AP (b.Aa.getD k (0,0));have⟨⟨z,u⟩,hy⟩:=AP (b.Aa.getD (k-1) (0,0));rw[hx] at c1 J c;rw[hy] at K c;have ab:=A K;clear hx hy C hcell0 K;dsimp only at c;have P:∀o,Ext L (wr.alloc o):=λo=>l.alloc l.size _
  have H:=A P;clear P;by_cases n:x<0\/b.length<y\/y<=x
  .have f:=A (show Gn b=2 by rw[HR.o,Im q s.o (by rw[c.o,Aj n];decide),c.o,Aj n]);by_cases Y:x<0
   .have d1:AQ (x<0)=AL:=by rw[Cx];exact Y
    exact mf
   have d1:AQ (x<0)=AM:=by rw[CX];exact Y
   by_cases aa:b.length<y
   .have d2:AQ (b.length<y)=AL:=by rw[Cx];exact aa
    exact mf
   have d2:AQ (b.length<y)=AM:=by rw[CX];exact aa
   have ac:y<=x:=D;have d3:AQ (y<=x)=AL:=by rw[Cx];exact ac
   exact mf
  have d1:AQ (x<0)=AM:=Et;have d2:AQ (b.length<y)=AM:=Et;have d3:AQ (y<=x)=AM:=Et;have v:=A n;clear n;by_cases m:0<k
  .have c3:=ab m;have tk:AQ (0<(k:Int))=AL:=NF;have e1:((k:Int)-1).toNat=k-1:=D;have e2:0<=(k:Int)-1:=D;have e3:(k:Int)-1<(ln b.Aa:Int):=D;have e4:(k:Int)<(ln b.Aa:Int):=D;have e5:G.wrap ((k:Int)-1)=(k:Int)-1:=DF _ D;by_cases r:x<=u
   .have f:=A (show Gn b=10 by rw[HR.o,Im q s.o (by rw[c.o,Af v.o,Aj ⟨m,r⟩];decide),c.o,Af v.o,Aj ⟨m,r⟩]);have d4:AQ (x<=u)=AL:=by rw[Cx];exact r
    go_wp2;go_quiet (fail)
    go_wp2;go_ret;exact⟨Kw,below_drewN (a.tr (H _)) _⟩
   have d4:AQ (x<=u)=AM:=by rw[CX];exact r
   have S:=A (show Q8 b k=0 by rw[c.o,Af v.o,Af (λh=>r h.2)]);exact zu
  have tk:AQ (0<(k:Int))=AM:=Et;have S:=A (show Q8 b k=0 by rw[c.o,Af v.o,Af (λh=>m h.1)]);exact zu
 have ae:AQ ((k:Int)<(ln b.Aa:Int))=AM:=Et;have f:=A (show Gn b=0 by rw[HR.o,KH (λj E=>s.o j D)]);go_wp2;go_ret;exact⟨Kw,a.tr l⟩
def b4f(w:V)(l:List Br)(i:AN)(wr:V):Prop:=∃k:Nat,k<=ln l/\i=M G (k:Int)/\Ext w wr/\∀j,j<k->Gn (l.getD j Fy)=0
def a2n(w:V)(R:Option An)(T:Nat)(l:List Br)(g:Jr w w.1.size R T l):
  AZ AO 73 #[AK R (ln l) T] w λe w'=>e=Ac (M G (Kk l))/\Ext w w':=by
 have h1:=g.1;have h2:=g.2.1;unfold BM at h2;by_cases B:64<ln l
 .have HR:=A (show Kk l=4 by unfold Kk;rw[Aj B]);clear g;go_enter func73,ntmps73;exact mg
 have HR:=A (show Kk l=EI (λi=>Gn (l.getD i Fy)) (ln l) by unfold Kk;rw[Af B]);have H:=A g;clear g;go_enter func73,ntmps73;go_wp2;go_loopw [11] (λi wr=>b4f w l i wr) (λi _=>((ln l:Int)-B8 i).toNat)
 case atStart=>exact⟨0,D,rfl,Ad _ _,λj E=>D⟩
 obtain⟨k,hk,rfl,r,C⟩:=hrel;have a:=A r;have o:=A C;have y:=H.below r;clear r C;by_cases F:k<ln l
 .obtain⟨b,off,rfl,hB,hcell⟩:=y.2.2 D;have⟨I,J,d,v⟩:=hcell k F;have N:b<wr.1.size:=Dj hB a.size;have c0:=d 0 Z;have c1:=d 1 Z;have c2:=d 2 Z;have c3:=d 3 Z;have c4:=d 4 Z;have c5:=d 5 Z;rw[DL] at c0 c1 c2 c3 c4 c5;rw[Dh] at c0;have⟨x,hx⟩:=AP (l.getD k Fy);rw[hx] at c0 c1 c2 c3 c4 c5 v;have z:=A (λ(p:Obj)=>(a.alloc a.size p:Ext w (wr.alloc p)));have L:=a.size;have q:=A (λ(p:Obj)=>a3L x I J (wr.alloc p) ((v.below (((Ad _ _).alloc (AS _) p).mono L)).more Bk));have m:=A (show Gn (l.getD k Fy)=Gn x by rw[hx]);have⟨c,t⟩:=AP (Gn x);rw[t] at m;simp only[t] at q;clear y hcell d v hx t;by_cases n:c=0
  .have HZ:=A (show∀j,j<k+1->Gn (l.getD j Fy)=0 fromλj E=>by
    by_cases K:j=k
    .rw[K,m.o];exact n
    exact o j D)
   subst n;go_wp2_with(go_at_call 124;refine(q _).q λW1 s=>?_)
   exact⟨⟨k+1,D,AV,Ext.tr (z _) s,HZ⟩,Bm⟩
  have u:=A (show Kk l=c by rw[HR.o,Im F o.o (by show Gn (l.getD k Fy)≠0;rw[m.o];exact n)];exact m);have S:(c !=0)=AL:=by rw[Cd];exact n
  go_wp2_with(go_at_call 124;refine(q _).q λW1 s=>?_)
  go_ret;exact⟨Kv,Ext.tr (z _) s⟩
 have P:AQ ((k:Int)<(ln l:Int))=AM:=Et;have f:=A (show Kk l=0 by rw[HR.o,KH (λj E=>o.o j D)]);clear y;exact fT
abbrev JT(x:Sz):List AN:=[M G x.Ab,M G x.BX,M G x.C4]
abbrev Fq(l:List Sz):List (List AN):=l.map JT
theorem oS{l:List Sz}(hi:i<ln l):(Fq l).getD i []=JT (l.getD i Ca):=by
 simp[Gs,Bv hi]
def rz(l:List Sz):DG 3 (Fq l):=G9 (f:=JT) (λ_=>rfl) l
def Qs(l:List Sz)(k:Nat)(j:Nat):Bool:=Cm (λi=>(l.getD i Ca).Ab==(j:Int)) k
def MI(w:V)(b:Nat)(l:List Sz)(k:Nat):Prop:=
 ∃cs:Array AN,w.1[b]?=Q (.cells cs 169 (0,0))/\cs.size=13/\∀j,j<13->cs[j]?=Q (AU (Qs l k j))
theorem MI.cell{l:List Sz}(h:MI w b l k)(c:j<13):w.cell? ⟨b,j,O⟩=Q (AU (Qs l k j)):=by
 obtain⟨cs,h1,h2,a⟩:=h;simp[Dx,h1,a j c]
theorem MI.frozen{l:List Sz}(h:MI w b l k)(j:Nat):w.frozen? ⟨b,j,O⟩=AM:=by
 obtain⟨cs,h1,h2,a⟩:=h;simp[Hb,h1]
theorem MI.lt{l:List Sz}(h:MI w b l k):b<w.1.size:=by
 obtain⟨cs,h1,_⟩:=h;exact(Ee.1 h1).1
theorem MI.ext{l:List Sz}(h:MI w b l k)(hx:Ext w w'):MI w' b l k:=by
 obtain⟨cs,h1,h2⟩:=h;exact⟨cs,(hx.block b (Ee.1 h1).1).trans h1,h2⟩
theorem MI.next{l:List Sz}(h:MI w b l k)(f:d<13)(hk:(l.getD k Ca).Ab=(d:Int)):MI (w.setCell ⟨b,d,O⟩ (AU AL)) b l (k+1):=by
 obtain⟨cs,h1,h2,c⟩:=h;refine⟨cs.setIfInBounds d (AU AL),?_,by simpa using h2,λj e=> ?_⟩
 .have hlt:=(Ee.1 h1).1;simp[Di,IT,h1]
 by_cases a:d=j
 .subst a;rw[Array.getElem?_setIfInBounds_self_of_lt D];have:Qs l (k+1) d=AL:=by unfold Qs;rw[Cm,hk];simp
  rw[this]
 rw[yJ a,c j e];have:Qs l (k+1) j=Qs l k j:=by
  unfold Qs;rw[Cm,hk];have:((d:Int)==(j:Int))=AM:=Hi;rw[this,Bool.or_false]
 rw[this]
def MI.BI(w:V)(l:List Sz)(cs:Array AN)(h:cs=#[AU AM,AU AM,AU AM,AU AM,AU AM,AU AM,AU AM,AU AM,AU AM,AU AM,AU AM,AU AM,AU AM]):MI (w.alloc (.cells cs 169)) w.1.size l 0:=by
 subst h;refine⟨_,Bq w _,F,λj a=> ?_⟩;rcases(show j=0\/j=1\/j=2\/j=3\/j=4\/j=5\/j=6\/j=7\/j=8\/j=9\/j=10\/j=11\/j=12 by omega) with rfl|rfl|rfl|rfl|rfl|rfl|rfl|rfl|rfl|rfl|rfl|rfl|rfl<;>rfl
structure b5D(w:V)(l:List Sz)(i:AN)(wr:V):Prop where
 ex:∃k:Nat,k<=ln l/\i=M G (k:Int)/\MI wr w.1.size l k/\∀j,j<k->Lb l j=0
 low:At w.1.size w wr
def a4h(w:V)(R:Option An)(T:Nat)(l:List Sz)(hl:BB 3 w w.1.size R T (Fq l)):
  AZ AO 71 #[AK R (ln l) T] w λe w'=>e=Ac (M G (JZ l))/\Ext w w':=by
 obtain⟨h1,h2,J⟩:=hl;rw[BL] at h1 J;unfold BM at h2;have U:=A J;clear J;go_enter func71,ntmps71;go_wp2;go_loopw [8] (λi wr=>b5D w l i wr) (λi _=>((ln l:Int)-B8 i).toNat)
 case atStart=>exact⟨⟨0,D,rfl,MI.BI _ _ _ rfl,λj F=>D⟩,(Ad _ _).alloc (AS _) _⟩
 obtain⟨⟨k,hk,rfl,S,L⟩,K⟩:=hrel;have a:=A K;have H:=A L;have E:=A S;clear K L S;by_cases B:k<ln l
 .obtain⟨b,off,rfl,hB,hcell0⟩:=U D;have ad:b<wr.1.size:=Dj hB a.size;have C:=A (λi hi j F=>(a.cell (p:=⟨b,off+3*i+j,O⟩) hB).trans (hcell0 i hi j F));have c0:=C k B 0 Z;have c1:=C k B 1 Z;have c2:=C k B 2 Z;rw[oS B,DL] at c0 c1 c2;rw[Dh] at c0;have n:=A (show Lb l k=if(l.getD k Ca).Ab<1\/13<=(l.getD k Ca).Ab then 8 else if min (l.getD k Ca).BX (l.getD k Ca).C4<1\/1000<max (l.getD k Ca).BX (l.getD k Ca).C4 then 2 else if Cm (λm=>(l.getD m Ca).Ab==(l.getD k Ca).Ab) k then 7 else 0 from rfl);have⟨⟨g,y,x⟩,hx⟩:=AP (l.getD k Ca);rw[hx] at c0 c1 c2 n;dsimp only at n;have X:=A (show(l.getD k Ca).Ab=g by rw[hx]);clear hx hcell0 C;have q:=A (λo=>(a.alloc a.size o:At w.1.size w (wr.alloc o)));have W:=A (λ(h:Lb l k=0)=>(show∀j,j<k+1->Lb l j=0 fromλj F=>by
   by_cases ab:j=k
   .rw[ab];exact h
   exact H j D))
  have r:=A (λ(c:Int) (h:Lb l k=c) (h0:c≠0)=>(show JZ l=c by unfold JZ;rw[Im B H.o (by rw[h];exact h0),h]));by_cases z:g<1
  .exact zy
  have d1:AQ (g<1)=AM:=by rw[CX];exact z
  by_cases t:13<=g
  .have d2:AQ (13<=g)=AL:=by rw[Cx];exact t
   exact zx
  have d2:AQ (13<=g)=AM:=by rw[CX];exact t
  by_cases u:min y x<1
  .have Y:AQ (min y x<1)=AL:=by rw[Cx];exact u
   exact zw
  have Y:AQ (min y x<1)=AM:=by rw[CX];exact u
  by_cases v:1000<max y x
  .have d4:AQ (1000<max y x)=AL:=by rw[Cx];exact v
   exact zv
  have d4:AQ (1000<max y x)=AM:=by rw[CX];exact v
  obtain⟨d,N,rfl⟩:∃d:Nat,d<13/\g=(d:Int):=⟨g.toNat,D,D⟩;have aa:=E.cell N;have ai:=E.frozen d;have ae:=E.lt;have af:(d:Int)<13:=D;have ag:0<=(d:Int):=D;have ah:(d:Int).toNat=d:=D;have ac:=A (show Qs l k d=Cm (λm=>(l.getD m Ca).Ab==(d:Int)) k from rfl);have I:=A (show Lb l k=if Qs l k d then 7 else 0 by rw[n.o,Af D,Af D];rfl);have⟨s,P⟩:=AP (Qs l k d);rw[P] at aa I;clear P;cases s
  .have HZ:=A (W (by rw[I.o];rfl));go_wp2;refine⟨⟨⟨k+1,D,AV,?_,HZ⟩,?_⟩,Bm⟩
   .exact(E.next N X).ext ((Ad _ _).alloc (AS _) _)
   exact(a.setCell (p:=⟨w.1.size,d,O⟩) (AS _) _).alloc (by simpa[Di] using a.size) _
  have f:=A (r 7 (by rw[I.o];rfl) Z);go_wp2;go_ret;exact⟨Kw,q _⟩
 have aj:AQ ((k:Int)<(ln l:Int))=AM:=Et;have f:=A (show JZ l=0 by unfold JZ;rw[KH (λj F=>H.o j D)]);exact fT
abbrev D4(x:Aw):List AN:=[M G x.BX,M G x.C4,M G x.CF,M G x.load,M G x.span]
abbrev Em(l:List Aw):List (List AN):=l.map D4
theorem YN{l:List Aw}(hi:i<ln l):(Em l).getD i []=D4 (l.getD i Dm):=by
 simp[Gs,Bv hi]
def rj(l:List Aw):DG 5 (Em l):=G9 (f:=D4) (λ_=>rfl) l
structure aV(x:Aw):Prop where
 w1:0<=x.BX
 w2:x.BX<=1048576
 d1:0<=x.C4
 d2:x.C4<=1048576
 s1:0<=x.CF
 s2:x.CF<=1048576
 l1:0<=x.load
 l2:x.load<=1048576
def sR{x:Aw}(h:Ro x=AL):aV x:=by
 unfold Ro at h;simp only[Ez,N,Cx] at h;obtain⟨⟨⟨⟨⟨_,_⟩,_,_⟩,_,_⟩,_,_⟩,_,_⟩:=h;constructor <;>omega
def a4r(a b:Aw)(w:V)(g:aV a)(i:aV b):AZ AO 129 #[AW (D4 a).toArray,AW (D4 b).toArray] w λe w'=>e=Ac (M G (MP a b))/\Ext w w':=by
 obtain⟨j,k,l,m,n,o,q,r⟩:=g;obtain⟨s,t,u,v,x,y,z,B⟩:=i;have d:=A (VD w (.cells (D4 a).toArray 52) (.cells (D4 b).toArray 52) (.cells [M G (a.BX-b.BX),M G (a.C4-b.C4),M G (a.CF-b.CF),M G (a.load-b.load)].toArray 3));have c:=(Az.new ((w.alloc (.cells (D4 a).toArray 52)).alloc (.cells (D4 b).toArray 52)) 3 [M G (a.BX-b.BX),M G (a.C4-b.C4),M G (a.CF-b.CF),M G (a.load-b.load)]);rw[D5,D5] at c;have f:=A c;clear c;have HR:=A (show MP a b=JR (a.BX-b.BX) (a.C4-b.C4) (a.CF-b.CF) (a.load-b.load) from rfl);go_enter func129,ntmps129;go_wp2_with(go_at_call 201;(with_reducible refine(oA _ _ _ 3 _ _ _ _ f.o).mono ?_);rintro e W1 ⟨rfl,rfl⟩)
 go_ret;exact⟨Fo,d⟩
def a6T{l:List Aw}(h:¬4096<ln l):Ip l=EI (Lf l) (ln l):=by unfold Ip;rw[Af h]
def a4J(x:Aw):Ro x=((N x.BX 1 1000&&N x.C4 1 1000&&(N x.CF 1 65536&&N x.load 0 1048576))&&N x.span 1 65536):=by unfold Ro;simp only[eM]
def b5n(w:V)(l:List Aw)(i:AN)(wr:V):Prop:=∃k:Nat,k<=ln l/\i=M G (k:Int)/\Ext w wr/\∀j,j<k->Lf l j=0
def a2T(w:V)(R:Option An)(T:Nat)(l:List Aw)(hl:BB 5 w w.1.size R T (Em l)):
  AZ AO 76 #[AK R (ln l) T] w λe w'=>e=Ac (M G (Ip l))/\Ext w w':=by
 obtain⟨h1,h2,F⟩:=hl;rw[BL] at h1 F;unfold BM at h2;by_cases ah:4096<ln l
 .have HR:=A (show Ip l=4 by unfold Ip;rw[Aj ah]);clear F;go_enter func76,ntmps76;exact mg
 have HR:=A (a6T ah);have H3:=A F;clear F;go_enter func76,ntmps76;go_wp2;go_loopw [10] (λi wr=>b5n w l i wr) (λi _=>((ln l:Int)-B8 i).toNat)
 case atStart=>exact⟨0,D,rfl,Ad _ _,λj H=>D⟩
 obtain⟨k,hk,rfl,hX,ai⟩:=hrel;have a:=A hX;have q:=A ai;clear hX ai;by_cases g:k<ln l
 .obtain⟨b,off,rfl,hB,hcell0⟩:=H3 D;have z:b<wr.1.size:=Dj hB a.size;have d:=A (λi hi j H=>(a.cell (p:=⟨b,off+5*i+j,O⟩) hB).trans (hcell0 i hi j H));have c0:=d k g 0 Z;have c1:=d k g 1 Z;have c2:=d k g 2 Z;have c3:=d k g 3 Z;have c4:=d k g 4 Z;rw[YN g,DL] at c0 c1 c2 c3 c4;rw[Dh] at c0;have r:=A (show Lf l k=if !Ro (l.getD k Dm) then 2 else if 0<k/\0<=MP (l.getD (k-1) Dm) (l.getD k Dm) then 10 else 0 from rfl);have⟨x,hx⟩:=AP (l.getD k Dm);rw[hx] at c0 c1 c2 c3 c4 r;have al:=A hx;clear hx hcell0;have RX:=A (Az.new wr 52 (D4 x));have X:=A (λo=>(a.alloc a.size o:Ext w (wr.alloc o)));have HG:=A (λ(h:Lf l k=0)=>(show∀j,j<k+1->Lf l j=0 fromλj H=>by
   by_cases aj:j=k
   .rw[aj];exact h
   exact q j D))
  have m:=A (a4J x);have⟨r1,ae⟩:=AP (N x.BX 1 1000&&N x.C4 1 1000&&(N x.CF 1 65536&&N x.load 0 1048576));have⟨r2,af⟩:=AP (N x.span 1 65536);rw[ae,af] at m;have v:=A (λW=>a2i x.BX x.C4 x.CF x.load W);have E:=A (λW=>Xt x.span 1 65536 W);simp only[ae] at v;simp only[af] at E;clear ae af;cases r1
  .have u:=A (show Ip l=2 by rw[HR.o,Im g q.o (by rw[r.o,m.o,Aj BE];decide),r.o,m.o,Aj BE]);go_wp2_with(go_at_call 127;refine(v _).mono ?_;rintro e W1 ⟨rfl,rfl⟩)
   go_ret;exact⟨Kv,X _⟩
  cases r2
  .have u:=A (show Ip l=2 by rw[HR.o,Im g q.o (by rw[r.o,m.o,Aj BE];decide),r.o,m.o,Aj BE]);go_wp2_with(first
    |(go_at_call 127;refine(v _).mono ?_;rintro e W1 ⟨rfl,rfl⟩)
    |(go_at_call 128;refine(E _).mono ?_;rintro e W1 ⟨rfl,rfl⟩))
   go_ret;exact⟨Kv,X _⟩
  have s:=A (show Lf l k=if 0<k/\0<=MP (l.getD (k-1) Dm) x then 10 else 0 by rw[r.o,m.o,Af Z]);have ad:=sR (x:=x) m;by_cases h0:0<k
  .have tk:AQ (0<(k:Int))=AL:=NF;have e1:((k:Int)-1).toNat=k-1:=D;have e2:0<=(k:Int)-1:=D;have e3:(k:Int)-1<(ln l:Int):=D;have e4:(k:Int)<(ln l:Int):=D;have e6:1<=(k:Int):=D;have e5:G.wrap ((k:Int)-1)=(k:Int)-1:=DF _ D;have I:=q (k-1) D;have ac:aV (l.getD (k-1) Dm):=by
    refine sR ?_;cases ak:Ro (l.getD (k-1) Dm)
    .unfold Lf at I;rw[ak] at I;simp at I
    rfl
   have C:=d (k-1) D 0 Z;have K:=d (k-1) D 1 Z;have L:=d (k-1) D 2 Z;have P:=d (k-1) D 3 Z;have S:=d (k-1) D 4 Z;rw[YN D,DL] at C K L P S;rw[Dh] at C;have⟨y,hy⟩:=AP (l.getD (k-1) Dm);rw[hy] at C K L P S s ac;have KO:=A (λW=>a4r y x W ac ad);have⟨c,hc⟩:=AP (MP y x);rw[hc] at s;simp only[hc] at KO;clear hy I ac ad hc;go_wp2_with(first
    |(go_at_call 127;refine(v _).mono ?_;rintro e W1 ⟨rfl,rfl⟩)
    |(go_at_call 128;refine(E _).mono ?_;rintro e W1 ⟨rfl,rfl⟩))
   refine On 9 U U (λW2 aa=> ?_);have t:Az W2 wr.1.size 52 (D4 x):=RX.ext aa;have n:Ext wr W2:=a4b aa;have q0:=(n.cell (p:=⟨b,off+(k-1)*5,O⟩) z).trans C;have q1:=(n.cell (p:=⟨b,off+(k-1)*5+1,O⟩) z).trans K;have q2:=(n.cell (p:=⟨b,off+(k-1)*5+2,O⟩) z).trans L;have q3:=(n.cell (p:=⟨b,off+(k-1)*5+3,O⟩) z).trans P;have q4:=(n.cell (p:=⟨b,off+(k-1)*5+4,O⟩) z).trans S;have y0:=t.cell 0;have y1:=t.cell 1;have y2:=t.cell 2;have y3:=t.cell 3;have y4:=t.cell 4;have ag:=A n;clear t n aa c0 c1 c2 c3 c4 C K L P S;simp only[S7,RC,FV,FY]
   repeat still_step
   refine TM ?_;by_cases B:0<=c
   .have tc:AQ (0<=c)=AL:=by rw[Cx];exact B
    have u:=A (show Ip l=10 by rw[HR.o,Im g q.o (by rw[s.o,Aj ⟨h0,B⟩];decide),s.o,Aj ⟨h0,B⟩]);go_wp2_with(go_at_call 129;refine(KO _).q λJ ab=>?_)
    go_ret;exact⟨Kv,(a.tr ag).tr ab⟩
   have tc:AQ (0<=c)=AM:=by rw[CX];exact B
   have Y:=A (HG (by rw[s.o,Af (λh=>B h.2)]));go_wp2_with(go_at_call 129;refine(KO _).q λJ ab=>?_)
   exact⟨⟨k+1,D,AV,(a.tr ag).tr ab,Y⟩,Bm⟩
  have tk:AQ (0<(k:Int))=AM:=Et;have Y:=A (HG (by rw[s.o,Af (λh=>h0 h.1)]));clear ad;go_wp2_with(first
   |(go_at_call 127;refine(v _).mono ?_;rintro e W1 ⟨rfl,rfl⟩)
   |(go_at_call 128;refine(E _).mono ?_;rintro e W1 ⟨rfl,rfl⟩))
  go_quiet (fail)
  go_wp2;exact⟨⟨k+1,D,AV,below_drewN (X _) _,Y⟩,Bm⟩
 have am:AQ ((k:Int)<(ln l:Int))=AM:=Et;have f:=A (show Ip l=0 by rw[HR.o,KH (λj H=>q.o j D)]);exact fT
def GL(rows:List (List AN)):Prop:=∀r∈rows,∀u∈r,u.oneCell'=AL
def GL.flat{rows:List (List AN)}(h:GL rows):∀u∈rows.flatten,u.oneCell'=AL:=by
 intro u hu;have⟨r,a,b⟩:=S8.1 hu;exact h r a u b
theorem BB.qR{B T:Nat}{rows:List (List AN)}(h:BB k w B O T rows):rows=[]:=by
 cases rows with
 |nil=>rfl
 |cons r l=>
  have⟨b,off,e,_⟩:=h.2.2 AV;cases e
theorem BB.ZW{B:Nat}{p:An}{rows:List (List AN)}(h:BB k w B (Q p) T rows)(hw:DG k rows)(hk:0<k):
  ∀j u,rows.flatten[j]?=Q u->w.cell? (p.add j)=Q u:=by
 intro j u a;have c:0<ln rows:=by
  cases rows with
  |nil=>simp at a
  |cons=>simp
 have⟨b,off,e,_⟩:=id (h.2.2 c);cases e;exact h.cells hw hk j u a
def RW(f:FuncId)(t:Bb)(k:Nat):Prop:=∀(w:V) (R:Option An) (T:Nat) (rows:List (List AN)),BB k w w.1.size R T rows->DG k rows->GL rows->ln rows<=1000000->
  AZ AO f #[AK R (ln rows) T] w λe w'=>∃v,e=Ac v/\w'.ownsRow w.1.size t k v (ln rows) rows.flatten/\Ext w w'
theorem Rp(h:p:=by
  have q:=λ(w:V) (a:Option An) (n c n' c':Nat)=>Lib.run_eql_slice_nil w _ _ a n c n' c' e
  cases R with
  |none=>
   have:=d.qR;subst this;clear d hw h1 f;go_wp2;go_ret;exact⟨_,F,⟨F,.inl ⟨F,F⟩⟩,Ext.B9 _⟩
  |some p=>
   have hnews:=A (d.ZW hw Z);have hfl:=A (LF hw);have hone:=A h1.flat;clear d hw h1;go_wp2_with(at_builtin;refine Ln _ F _ _ _ F w.1.size _ l _ _ _ e hi g i k F Z _ _ _ F (yG w #[] 0 (AS _) (D8 _) F) p (ln rows) T rows.flatten F hfl ?qc2 hone ?qc4 ?qc5 ?qc6 ?_)
   case qc2=>
    intro j u hj;have:=hnews j u hj;revert this;obtain⟨b,off,x⟩:=p;intro this;exact Lib.cell?_alloc_some _ this
   case qc4=>unfold BM;omega
   case qc5=>omega
   case qc6=>simp
   intro v' w1 hown hgrow hnil;go_wp2;go_ret;refine⟨v',F,by simpa using hown,?_⟩;exact((Ad _ w).alloc (AS _) _).grown hgrow AV (by intro q hq;simp[Hv] at hq;omega)):p:=h
def rB:(AO.info? 40).map (λi=>(i.zero,i.size,i.bytes))=Q (Q (AW #[M G 0,M G 0,M G 0,M G 0,AU AM,M G 0,M G 0]),7,56):=U
def b1W:RW 202 40 7:=by
 intro w R T rows d hw h1 f;have⟨l,hi,g,i,k⟩:=DM rB;have e:=underlying117;go_enter func202,ntmps202;exact Rp
def Vd:(AO.info? 3).map (λi=>(i.zero,i.size,i.bytes))=Q (Q (M G 0),1,8):=U
def rh:RW 205 3 1:=by
 intro w R T rows d hw h1 f;have⟨l,hi,g,i,k⟩:=DM Vd;have e:=FD;go_enter func205,ntmps205;exact Rp
def cn:(AO.info? 43).map (λi=>(i.zero,i.size,i.bytes))=Q (Q (AW #[M G 0,AT {data:=#[]},AT {data:=#[]},AT {data:=#[]},AT {data:=#[]}]),5,72):=U
def sI:RW 206 43 5:=by
 intro w R T rows d hw h1 f;have⟨l,hi,g,i,k⟩:=DM cn;have e:=underlying26;go_enter func206,ntmps206;exact Rp
def cI:(AO.info? 45).map (λi=>(i.zero,i.size,i.bytes))=Q (Q (AW #[M G 0,M G 0,M G 0]),3,24):=U
def rT:RW 259 45 3:=by
 intro w R T rows d hw h1 f;have⟨l,hi,g,i,k⟩:=DM cI;have e:=underlying27;go_enter func259,ntmps259;exact Rp
def cF:(AO.info? 48).map (λi=>(i.zero,i.size,i.bytes))=Q (Q (AW #[M G 0,M G 0,M G 0,M G 0,M G 0,AK O 0 0]),6,64):=U
def sX:RW 210 48 6:=by
 intro w R T rows d hw h1 f;have⟨l,hi,g,i,k⟩:=DM cF;have e:=underlying28;go_enter func210,ntmps210;exact Rp
def cP:(AO.info? 50).map (λi=>(i.zero,i.size,i.bytes))=Q (Q (AW #[M G 0,M G 0,AT {data:=#[]}]),3,32):=U
def ry:RW 211 50 3:=by
 intro w R T rows d hw h1 f;have⟨l,hi,g,i,k⟩:=DM cP;have e:=underlying31;go_enter func211,ntmps211;exact Rp
def Vi:(AO.info? 52).map (λi=>(i.zero,i.size,i.bytes))=Q (Q (AW #[M G 0,M G 0,M G 0,M G 0,M G 0]),5,40):=U
def tE:RW 212 52 5:=by
 intro w R T rows d hw h1 f;have⟨l,hi,g,i,k⟩:=DM Vi;have e:=underlying32;go_enter func212,ntmps212;exact Rp
def Gm(a b:Aw):Int:=JR (Dv a.BX b.BX) (Dv a.C4 b.C4) (Dv a.CF b.CF) (Dv a.load b.load)
def NI(n:Nat)(a b:Aw)(i:Nat)(v:AN)(_:V):Prop:=
 match i with
 |0=>v=Ap (Q ⟨n,0,O⟩)
 |1=>v=M G a.BX
 |2=>v=Ap (Q ⟨n+1,0,O⟩)
 |3=>v=M G b.BX
 |4=>v=M G (Dv a.BX b.BX)
 |5=>v=Ap (Q ⟨n,1,O⟩)
 |6=>v=M G a.C4
 |7=>v=Ap (Q ⟨n+1,1,O⟩)
 |8=>v=M G b.C4
 |9=>v=M G (Dv a.C4 b.C4)
 |10=>v=Ap (Q ⟨n,2,O⟩)
 |11=>v=M G a.CF
 |12=>v=Ap (Q ⟨n+1,2,O⟩)
 |13=>v=M G b.CF
 |14=>v=M G (Dv a.CF b.CF)
 |15=>v=Ap (Q ⟨n,3,O⟩)
 |16=>v=M G a.load
 |17=>v=Ap (Q ⟨n+1,3,O⟩)
 |18=>v=M G b.load
 |19=>v=M G (Dv a.load b.load)
 |_=>True
def wJ(a b:Aw)(w:V):AZ AO 214 #[AW (D4 a).toArray,AW (D4 b).toArray] w λe w'=>e=Ac (M G (Gm a b))/\Ext w w':=by
 have⟨W0,g⟩:=AP ((w.alloc (.cells (D4 a).toArray 52)).alloc (.cells (D4 b).toArray 52));have o:=A (show Ext w W0 by rw[<-g];exact((Ad _ _).alloc (AS _) _).alloc AV _);have t:=A (show Az W0 w.1.size 52 (D4 a) by rw[<-g];exact(Az.new w _ _).ext ((Ad _ _).alloc (AS _) _));have u:=A (show Az W0 (w.1.size+1) 52 (D4 b) by
  have h:=Az.new (w.alloc (.cells (D4 a).toArray 52)) 52 (D4 b);rw[D5] at h;rw[<-g];exact h)
 have HR:=A (show Gm a b=JR (Dv a.BX b.BX) (Dv a.C4 b.C4) (Dv a.CF b.CF) (Dv a.load b.load) from rfl);have q:=A g;clear g;go_enter func214,ntmps214;go_wp2_with fail
 rw[show(w.alloc (.cells #[M G a.BX,M G a.C4,M G a.CF,M G a.load,M G a.span] 52)).alloc (.cells #[M G b.BX,M G b.C4,M G b.CF,M G b.load,M G b.span] 52)=W0 from q.o];refine Fz U (Pq 20
  (λw'=>Ext W0 w') (NI w.1.size a b) (λ_=>AM) U (λ_ _ h k=>h.tr k) (λi v _ _ h k=>h) (λ_ _ _ _ h=>Aq) ?step ?tail _ (Ext.dr W0))
 case step=>
  intro i C w' hi d c;have x:=λi=>(t.ext d).cell i
  have y:=λi=>(u.ext d).cell i
  rcases(show i=0\/i=1\/i=2\/i=3\/i=4\/i=5\/i=6\/i=7\/i=8\/i=9\/i=10\/i=11\/i=12\/i=13\/i=14\/i=15\/i=16\/i=17\/i=18\/i=19 by omega) with rfl|rfl|rfl|rfl|rfl|rfl|rfl|rfl|rfl|rfl|rfl|rfl|rfl|rfl|rfl|rfl|rfl|rfl|rfl|rfl<;>clear hi<;>refine DC rfl (λK hK=> ?_)
  .exact Ek
  .have d0:=c 0 U;simp only[NI] at d0;go_simp;exact hK _ _ ⟨M G a.BX,by simp[d0],Ext.B9 _,rfl,λh=>Aq⟩
  .exact Ek
  .have d2:=c 2 U;simp only[NI] at d2;go_simp;exact hK _ _ ⟨M G b.BX,by simp[d2],Ext.B9 _,rfl,λh=>Aq⟩
  .have d1:=c 1 U;have d2:=c 3 U;simp only[NI] at d1 d2;go_simp;refine(cmp_Compare_int a.BX b.BX _).mono ?_;rintro e W1 ⟨rfl,rfl⟩;exact hK _ _ ⟨M G (Dv a.BX b.BX),by simp[d1,d2],Ext.B9 _,rfl,λh=>Aq⟩
  .exact Ek
  .have d5:=c 5 U;simp only[NI] at d5;go_simp;exact hK _ _ ⟨M G a.C4,by simp[d5],Ext.B9 _,rfl,λh=>Aq⟩
  .exact Ek
  .have d7:=c 7 U;simp only[NI] at d7;go_simp;exact hK _ _ ⟨M G b.C4,by simp[d7],Ext.B9 _,rfl,λh=>Aq⟩
  .have d1:=c 6 U;have d2:=c 8 U;simp only[NI] at d1 d2;go_simp;refine(cmp_Compare_int a.C4 b.C4 _).mono ?_;rintro e W1 ⟨rfl,rfl⟩;exact hK _ _ ⟨M G (Dv a.C4 b.C4),by simp[d1,d2],Ext.B9 _,rfl,λh=>Aq⟩
  .exact Ek
  .have d10:=c 10 U;simp only[NI] at d10;go_simp;exact hK _ _ ⟨M G a.CF,by simp[d10],Ext.B9 _,rfl,λh=>Aq⟩
  .exact Ek
  .have d12:=c 12 U;simp only[NI] at d12;go_simp;exact hK _ _ ⟨M G b.CF,by simp[d12],Ext.B9 _,rfl,λh=>Aq⟩
  .have d1:=c 11 U;have d2:=c 13 U;simp only[NI] at d1 d2;go_simp;refine(cmp_Compare_int a.CF b.CF _).mono ?_;rintro e W1 ⟨rfl,rfl⟩;exact hK _ _ ⟨M G (Dv a.CF b.CF),by simp[d1,d2],Ext.B9 _,rfl,λh=>Aq⟩
  .exact Ek
  .have d15:=c 15 U;simp only[NI] at d15;go_simp;exact hK _ _ ⟨M G a.load,by simp[d15],Ext.B9 _,rfl,λh=>Aq⟩
  .exact Ek
  .have d17:=c 17 U;simp only[NI] at d17;go_simp;exact hK _ _ ⟨M G b.load,by simp[d17],Ext.B9 _,rfl,λh=>Aq⟩
  have d1:=c 16 U;have d2:=c 18 U;simp only[NI] at d1 d2;go_simp;refine(cmp_Compare_int a.load b.load _).mono ?_;rintro e W1 ⟨rfl,rfl⟩;exact hK _ _ ⟨M G (Dv a.load b.load),by simp[d1,d2],Ext.B9 _,rfl,λh=>Aq⟩
 case tail=>
  intro C w' d f _;have m:=f 4 D;have n:=f 9 D;have j:=f 14 D;have l:=f 19 D;simp only[NI] at m n j l;have r:=A (o.tr (d.trans ((Ad w'.1.size w').alloc (AS _) (.cells [M G (Dv a.BX b.BX),M G (Dv a.C4 b.C4),M G (Dv a.CF b.CF),M G (Dv a.load b.load)].toArray 3) |>.mono d.size)));have s:=A (Az.new w' 3 [M G (Dv a.BX b.BX),M G (Dv a.C4 b.C4),M G (Dv a.CF b.CF),M G (Dv a.load b.load)]);clear f d;simp only[m,n,j,l,FV,FY];go_wp2_with(go_at_call 201;(with_reducible refine(oA _ _ _ 3 _ _ _ _ s.o).mono ?_);rintro e W1 ⟨rfl,rfl⟩)
  go_ret;exact⟨Fo,r⟩
theorem Oo{B:Nat}{r:List Sd}(h:BB 7 w B R T (Cg r))(f:0<ln r):
  ∃b off,R=Q ⟨b,off,O⟩/\b<B/\∀i,i<ln r->w.cell? ⟨b,off+i*7,O⟩=Q (M G (BA r i).x)/\w.cell? ⟨b,off+i*7+1,O⟩=Q (M G (BA r i).y)/\
   w.cell? ⟨b,off+i*7+2,O⟩=Q (M G (BA r i).Mz)/\w.cell? ⟨b,off+i*7+3,O⟩=Q (M G (BA r i).run)/\w.cell? ⟨b,off+i*7+4,O⟩=Q (AU (BA r i).DX)/\
   w.cell? ⟨b,off+i*7+5,O⟩=Q (M G (BA r i).JG)/\w.cell? ⟨b,off+i*7+6,O⟩=Q (M G (BA r i).over):=by
 obtain⟨h1,h2,a⟩:=h;have⟨b,off,e,c,d⟩:=a (by rw[BL];exact f);refine⟨b,off,e,c,λi hi=> ?_⟩;have q:∀m,m<7->w.cell? ⟨b,off+i*7+m,O⟩=(FA (BA r i))[m]?:=by
  intro m hm;have:=d i ZM m hm;rw[VX hi,DL] at this;exact this
 exact⟨q 0 Z,q 1 Z,q 2 Z,q 3 Z,q 4 Z,q 5 Z,q 6 Z⟩
def GO(n:Int):Int:=if n<0 then -1 else if 0<n then 1 else 0
def wO(n:Int)(w:V):AZ AO 270 #[M G n] w λx w'=>x=Ac (M G (GO n))/\w'=w:=by
 by_cases h1:n<0
 .have a:GO n= -1:=Aj h1;rw[a];go_enter func270,ntmps270;exact ZO
 by_cases h2:0<n
 .have a:GO n=1:=by unfold GO;rw[Af h1,Aj h2]
  rw[a];have b:AQ (n<0)=AM:=Bw h1;have c:AQ (n>0)=AL:=CP h2;exact zV
 have a:GO n=0:=by unfold GO;rw[Af h1,Af h2]
 rw[a];have b:AQ (n<0)=AM:=Bw h1;have c:AQ (n>0)=AM:=Bw h2;exact zV
def YJ(w:V)(R:Option An)(T:Nat)(r:List Sd)(h:BB 7 w w.1.size R T (Cg r))(i:Nat)(hi:i<ln r):
  AZ AO 269 #[AK R (ln r) T,M G (i:Int)] w λx w'=>x=Ac (BO #[M G (Bl r i).x,M G (Bl r i).y])/\Ext w w':=by
 have h1:=h.1;have h2:=h.2.1;rw[BL] at h1;unfold BM at h2;obtain⟨b,off,rfl,e,c⟩:=Oo h D;rw[Rn];have w1:G.wrap ((i:Int)+1)=(i:Int)+1:=DF _ D;have⟨p,a⟩:=AP ((i+1)%ln r);have d:p<ln r:=by rw[<-a];exact Hh _ D
 have f:((i:Int)+1).tmod (ln r:Int)=(p:Int):=by rw[ZA D,<-a];rfl
 have g:((ln r:Int)==0)=AM:=CK.2 D;have w2:G.wrap (p:Int)=(p:Int):=DF _ D;have⟨c0,c1,_⟩:=c p d;rw[a];clear a c h;go_enter func269,ntmps269;go_wp2_with fail
 go_quiet (fail)
 go_wp2;go_ret2;exact⟨F,below_drewN (Ad _ _) _⟩
def MU(r:List Sd)(i:Nat):Int:=GO (G.wrap ((Bl r i).x-(BA r i).x))
def MT(r:List Sd)(i:Nat):Int:=GO (G.wrap ((Bl r i).y-(BA r i).y))
def iy(n:Int): -1<=GO n/\GO n<=1:=by unfold GO;split <;>(try split)<;>omega
def pE(w:V)(R:Option An)(T:Nat)(r:List Sd)(h:BB 7 w w.1.size R T (Cg r))(i:Nat)(hi:i<ln r):
  AZ AO 223 #[AK R (ln r) T,M G (i:Int)] w λx w'=>x=Ac (BO #[M G (MU r i),M G (MT r i)])/\Ext w w':=by
 have h1:=h.1;have h2:=h.2.1;rw[BL] at h1;unfold BM at h2;have l:=A (YJ w R T r h i hi);obtain⟨b,off,rfl,m,j⟩:=Oo h D;have e:=A m;have⟨c0,c1,_⟩:=j i hi;have c:=A (show GO (G.wrap ((Bl r i).x-(BA r i).x))=MU r i from rfl);have d:=A (show GO (G.wrap ((Bl r i).y-(BA r i).y))=MT r i from rfl);have⟨x,hx⟩:=AP (MU r i);have⟨y,hy⟩:=AP (MT r i);rw[hx] at c;rw[hy] at d;rw[hx,hy];have f:=A (λ(W:V)=>wO (G.wrap ((Bl r i).x-(BA r i).x)) W);have g:=A (λ(W:V)=>wO (G.wrap ((Bl r i).y-(BA r i).y)) W);rw[c.o] at f;rw[d.o] at g;clear hx hy j h c d;go_enter func223,ntmps223;go_wp2_with(go_at_call 269;refine l.q λW1 a=>?_;have k:=A a;have n:=(a.cell (p:=⟨b,off+i*7,O⟩) e).trans c0;have d1:=(a.cell (p:=⟨b,off+i*7+1,O⟩) e).trans c1;clear a;clear c0 c1)
 go_quiet ((go_at_call 270;first|exact OW (f _)|exact OW (g _)))
 go_wp2;go_ret2;exact⟨F,below_drewN k _⟩
def OO(r:List Sd)(i:Nat):Int:=wrap64 (wrap64 (MU r ((i+ln r-1)%ln r)*MT r i)-wrap64 (MT r ((i+ln r-1)%ln r)*MU r i))
def nC(w:V)(R:Option An)(T:Nat)(r:List Sd)(h:BB 7 w w.1.size R T (Cg r))(hn:ln r<=1000000)(i:Nat)(hi:i<ln r):
  AZ AO 224 #[AK R (ln r) T,M G (i:Int)] w λx w'=>x=Ac (M G (OO r i))/\Ext w w':=by
 have h1:=h.1;have h2:=h.2.1;rw[BL] at h1;unfold BM at h2;have q:=A h;have w1:G.wrap ((i:Int)+ln r)=(i:Int)+ln r:=DF _ D;have w2:G.wrap ((i:Int)+ln r-1)=(i:Int)+ln r-1:=DF _ D;have⟨p,a⟩:=AP ((i+ln r-1)%ln r);have o:p<ln r:=by rw[<-a];exact Hh _ D
 have s:((i:Int)+ln r-1).tmod (ln r:Int)=(p:Int):=by rw[ZA D,show((i:Int)+ln r-1)=((i+ln r-1:Nat):Int) by omega,<-a];rfl
 have z:((ln r:Int)==0)=AM:=CK.2 D;have t:G.wrap (p:Int)=(p:Int):=DF _ D;have b:=A (λ(W:V) (hx:Ext w W) (k:Nat) (hk:k<ln r)=>pE W R T r ((h.below hx).more hx.size) k hk);have⟨x,hx⟩:=AP (MU r p);have⟨y,hy⟩:=AP (MT r p);have l:=iy (G.wrap ((Bl r p).x-(BA r p).x));have e:=A (b w (Ad _ _) p o);have d:=A (λ(W:V) (hx:Ext w W)=>b W hx i hi);rw[hx,hy] at e;have⟨u,hu⟩:=AP (MU r i);have⟨v,c⟩:=AP (MT r i);simp only[hu,c] at d;have j:=A (show OO r i=wrap64 (wrap64 (x*v)-wrap64 (y*u)) by unfold OO;rw[a,hx,hy,hu,c]);rw[j.o];clear hx hy hu c a h b l;go_enter func224,ntmps224;go_wp2_with(first
  |(go_at_call 223;have f:=g;clear g;refine(d _ f).q λW2 n=>?_;have m:=Ext.tr f n)
  |(go_at_call 223;refine e.q λW1 g=>?_))
 go_ret;exact⟨F,m⟩
def xo{x:Int}(h1: -1<=x)(h2:x<=1):0<=x*x/\x*x<=1:=by
 rcases(show x= -1\/x=0\/x=1 by omega) with rfl|rfl|rfl<;>decide
theorem Zw{rs:List (List Sd)}(j:Ew w w.1.size R T rs)(i:0<ln rs):
  ∃b off,∃f:Nat->Option An×Nat,R=Q ⟨b,off,O⟩/\b<w.1.size/\∀W,Ext w W->∀k,k<ln rs->W.cell? ⟨b,off+k,O⟩=Q (AK (f k).1 (rs.getD k []).length (f k).2)/\BB 7 W W.1.size (f k).1 (f k).2 (Cg (rs.getD k [])):=by
 have⟨b,off,e,c,d⟩:=j.2.2 i;have hx:∀k,∃p:Option An×Nat,k<ln rs->w.cell? ⟨b,off+k,O⟩=Q (AK p.1 (rs.getD k []).length p.2)/\BB 7 w w.1.size p.1 p.2 (Cg (rs.getD k [])):=by
  intro k;by_cases hk:k<ln rs
  .have⟨H,E,h1,h2⟩:=d k hk;exact⟨(H,E),λ_=>⟨h1,h2⟩⟩
  exact⟨(O,0),λh=>absurd h hk⟩
 have⟨f,g⟩:=eB hx;refine⟨b,off,f,e,c,λW a k hk=> ?_⟩;have⟨h1,h2⟩:=g k hk;exact⟨(a.cell c).trans h1,(h2.below a).more a.size⟩
theorem a78{rs:List (List Sd)}(a:∀r∈rs,r≠[])(hk:k<ln rs):0<(rs.getD k []).length:=by
 rw[CM,Bv hk];exact MW.2 (a _ (Ey hk))
def Lg(P:Prop)(x:CI):Prop:=∃b:Bool,x=Ac (AU b)/\(b=AM->P)
structure iq(rs:List (List Sd)):Prop where
 f:ln rs.flatten<=40
 n:ln rs<=40
 e:ln rs.flatten<=8\/24<ln rs.flatten
def a2S(w:V)(R:Option An)(T:Nat)(rs:List (List Sd))(q:Ew w w.1.size R T rs)(n:Int)(hn:n=8)(Y:ln rs.flatten<=4000000000):
  AZ AO 52 #[AW #[AK R (ln rs) T],M G n] w λx w'=>Lg (iq rs) x/\Ext w w':=by
 have U:=A hn;clear hn;have h1:=q.1;have h2:=q.2.1;unfold BM at h2;have e:=A (show Ext w (w.alloc (.cells #[AK R (ln rs) T] 24)) from(Ad _ _).alloc (AS _) _);have t:=A (Bx.new w 24 (AK R (ln rs) T));have W:=A (show w.1.size<(w.alloc (.cells #[AK R (ln rs) T] 24)).1.size by simp);have r:=A ((q.below e).more (B':=(w.alloc (.cells #[AK R (ln rs) T] 24)).1.size) AV);clear q;go_enter func52,ntmps52;go_wp2;have⟨w0,C⟩:=AP (w.alloc (.cells #[AK R (ln rs) T] 24));simp only[C] at e t W r⊢;clear C;have c0:=t.cell
 go_loop [5,6] (λs i=>∃k:Nat,k<=ln rs/\i=M G (k:Int)/\s=M G ((rs.take k).flatten.length:Int)) (λ_ i=>((ln rs:Int)-B8 i).toNat)
 case atStart=>exact⟨0,D,rfl,AV⟩
 obtain⟨k,hk,rfl,rfl⟩:=hrel;by_cases z:k<ln rs
 .obtain⟨b,off,rfl,hB,hcell⟩:=r.2.2 D;have⟨H,E,c1,g⟩:=hcell k z;have f:=Tz z;have o:=U2 rs (k+1);have y:((rs.take (k+1)).flatten.length:Int)=((rs.take k).flatten.length:Int)+((rs.getD k []).length:Int):=by rw[f];simp
  have⟨m,hm⟩:=AP ((rs.take k).flatten.length);have⟨d,j⟩:=AP ((rs.getD k []).length);rw[j] at c1;have hs:m+d<=4000000000:=by rw[hm,j] at y;omega
  exact zr
 obtain rfl:k=ln rs:=D;have B:(rs.take (ln rs)).flatten.length=ln rs.flatten:=by rw[Nk]
 rw[B];clear B;have⟨m,hm⟩:=AP (ln rs.flatten);rw[hm] at Y⊢;have⟨F,EZ⟩:=AP (AQ ((m:Int)>n));have⟨I,Ge⟩:=AP (AQ ((m:Int)<=24));have⟨J,Z⟩:=AP (AQ ((m:Int)>40));have⟨K,aa⟩:=AP (AQ ((ln rs:Int)>40));have l:=A hm;have P:=A Z;have S:=A aa;clear hm;have L:=A EZ;have N:=A Ge;have fin:∀{b:Bool},(b=AM->J=AM/\K=AM/\(F=AM\/I=AM))->(b=AM->iq rs):=λh X=>by
  have⟨a,c,d⟩:=h X;have u:=P.o;rw[a] at u;have v:=S.o;rw[c] at v;have:=Ij u;have:=Ij v;have hm:=l.o;have hn:=U.o;refine⟨D,D,?_⟩;rcases d with d|d
  .have h1:=L.o;rw[d] at h1;have:=Ij h1;omega
  have h2:=N.o;rw[d] at h2;have:=Ij h2;omega
 cases F<;>cases I<;>cases J<;>cases K
 all_goals
  go_wp2;go_ret
  first|exact⟨⟨_,rfl,λ_=>trivial⟩,e⟩|(refine⟨⟨_,rfl,fin ?_⟩,e⟩;simp)
section
structure Lp(W0:V)(t:Bb)(zero l:List AN)(val:Nat->AN)(L:Nat->Bool)(C:Nat->AN)(W:V):Prop where
 Bg:∀q,L q=AL->q<15->C q=val q
 ext:Ext W0 W
 a:L 15=AL->∃pa,C 15=Ap (Q ⟨pa,0,O⟩)/\W0.1.size<=pa/\Az W pa t (if L 17=AL then l else zero)/\(L 16=AL->C 16≠ Ap (Q ⟨pa,0,O⟩))
 b:L 16=AL->∃c,C 16=Ap (Q ⟨c,0,O⟩)/\W0.1.size<=c/\Az W c t zero
 st:L 17=AL->L 15=AL
variable {W0 W : V} {t : Bb} {zero l : List AN} {val : Nat → AN} {L : Nat → Bool} {C : Nat → AN}
def Lp.BI(h:Ext W0 W)(us:Nat->AN):Lp W0 t zero l val (λ_=>AM) us W:=
 ⟨λ_ h=>Aq,h,λh=>Aq,λh=>Aq,λh=>Aq⟩
def Lp.pure(h:Lp W0 t zero l val L C W){q:Nat}(g:q<15){v:AN}(f:v=val q):Lp W0 t zero l val (Cn L q) (B7 C q v) W:=by
 have c:15≠q:=D;have b:16≠q:=D;have d:17≠q:=D;refine⟨λm hm a=> ?_,h.ext,?_,?_,?_⟩
 .by_cases e:m=q
  .subst e;rw[Iw];exact f
  exact fR
 .rw[Bz c,Bz b,Bz d,DP c,DP b];exact h.a
 .rw[Bz b,DP b];exact h.b
 rw[Bz d,Bz c];exact h.st
theorem Lp.b5J(h:Lp W0 t zero l val L C W)(g:L 15=AM)(n:zero=zero)(j:W'=W.alloc (.cells zero.toArray t)):Lp W0 t zero l val (Cn L 15) (B7 C 15 (Ap (Q ⟨W.1.size,0,O⟩))) W':=by
 subst j;have f:L 17=AM:=by cases q:L 17 with|false=>rfl|true=>rw[h.st q] at g;cases g
 have hx:Ext W (W.alloc (.cells zero.toArray t)):=(Ad _ _).alloc (AS _) _;refine⟨λm hm a=> ?_,h.ext.tr hx,?_,?_,?_⟩
 .have e:m≠15:=D;exact fR
 .intro _;rw[Iw,Bz (k:=17) Z,f,Bz (k:=16) Z,DP (k:=16) Z];refine⟨_,F,h.ext.size,by rw[Af Z];exact Az.new _ _ _,λd e=> ?_⟩;have⟨i,c,_,b⟩:=h.b d;rw[c] at e;exact zW
 .rw[Bz (k:=16) Z,DP (k:=16) Z];intro d;have⟨i,c,a,b⟩:=h.b d;exact⟨i,c,a,b.ext hx⟩
 rw[Bz (k:=17) Z,f];intro h;cases h
theorem Lp.b5e(h:Lp W0 t zero l val L C W)(f:W'=W.alloc (.cells zero.toArray t)):Lp W0 t zero l val (Cn L 16) (B7 C 16 (Ap (Q ⟨W.1.size,0,O⟩))) W':=by
 subst f;have hx:Ext W (W.alloc (.cells zero.toArray t)):=(Ad _ _).alloc (AS _) _;refine⟨λm hm a=> ?_,h.ext.tr hx,?_,?_,?_⟩
 .have e:m≠16:=D;exact fR
 .rw[Bz (k:=15) Z,Bz (k:=17) Z,DP (k:=15) Z,Iw];intro d;have⟨pa,c,a,b,_⟩:=h.a d;refine⟨pa,c,a,b.ext hx,λ_ e=> ?_⟩;exact zW
 .intro _;rw[Iw];exact⟨_,F,h.ext.size,Az.new _ _ _⟩
 rw[Bz (k:=17) Z,Bz (k:=15) Z];exact h.st
def Lp.store(h:Lp W0 t zero l val L C W)(d:L 15=AL){pa:Nat}(i:C 15=Ap (Q ⟨pa,0,O⟩)):Lp W0 t zero l val (Cn L 17) (B7 C 17 Ba) (W.setRow pa l.toArray):=by
 have⟨s,b,a,q,g⟩:=h.a d;obtain rfl:pa=s:=by rw[i] at b;injection b with b;injection b with b;injection b with b
 refine⟨λm hm a=> ?_,CL h.ext a _,?_,?_,?_⟩
 .have e:m≠17:=D;exact fR
 .rw[Bz (k:=15) Z,Bz (k:=16) Z,Vb,DP (k:=15) Z,DP (k:=16) Z];intro _;exact⟨pa,i,a,by rw[Aj rfl];exact setRow_heap q _,g⟩
 .rw[Bz (k:=16) Z,DP (k:=16) Z];intro f;have⟨j,c,n,r⟩:=h.b f;have o:j≠pa:=λe=>g f (by rw[c,e])
  exact⟨j,c,n,(Hc _ _ o).trans r⟩
 intro _;rw[Bz (k:=15) Z];exact d
def Hp(a ok n c k p:Nat)(r:List Sd):Nat->AN
 |0=> AK (Q ⟨a,ok,O⟩) n c
 |1=> M G (k:Int)
 |2=> AK (Q ⟨a,ok,O⟩) n c
 |3=> M G (n:Int)
 |4=> M G ((k:Int)+n)
 |5=> M G ((k:Int)+n-1)
 |6=> AK (Q ⟨a,ok,O⟩) n c
 |7=> M G (n:Int)
 |8=> M G (p:Int)
 |9=> Ap (Q ⟨a,ok+p*7,O⟩)
 |10=> AW (FA (BA r p)).toArray
 |11=> AK (Q ⟨a,ok,O⟩) n c
 |12=> M G (k:Int)
 |13=> Ap (Q ⟨a,ok+k*7,O⟩)
 |14=> AW (FA (BA r k)).toArray
 |_=>Ba
theorem wpList_skip{P:Program}{ops:Array Oper}{rest:List Oper}{o:Oper}{b:Exit->BV->V->Prop}(d:Ir o (yielded ops a.tmps)=AM)(h:CQ P ops b rest (a.put o.dst Ba) w):CQ P ops b (o::rest) a w:=
 Wt λ_ c=>by
  rw[Af (by rw[d];decide)];exact c _ _ h
end
def YZ{rs:List (List Sd)}(h:ln rs.flatten<=1000000)(k:Nat):(rs.getD k []).length<=1000000:=by
 by_cases hk:k<ln rs
 .rw[CM,Bv hk];exact BJ (WZ (Ey hk)).length_le h
 rw[CM,eE D];exact D8 _
def a9Q(n:Int): -9223372036854775808<=G.wrap n/\G.wrap n<=9223372036854775807:=by
 rw[lZ];unfold RowKit.wrap64;omega
def j5{fn:Func}{t u v x:Tmp}(h:fn.results=#[.tmp t,.tmp u,.tmp v,.tmp x])(tmps:Array AN)(P:Program)(w:V):
  (results fn tmps).run P w= .ok (BO #[tmps.getD t Ba,tmps.getD u Ba,tmps.getD v Ba,tmps.getD x Ba]) w:=by
 simp[results,h]
def Q2(y:ByteArray):Nat:=y.data.toList.findIdx (· ==47)
def Cq(z:ByteArray):Bool×ByteArray×ByteArray×Bool:=
 let m:=z.data.toList.head?==Q 45
 let y:=if m then z.extract 1 z.size else z
 if Q2 y<y.size then(m,y.extract 0 (Q2 y),y.extract (Q2 y+1) y.size,AL) else(m,y,⟨#[]⟩,AM)
def UK(v:Bool×ByteArray×ByteArray×Bool):AN:= BO #[AU v.1,AT v.2.1,AT v.2.2.1,AU v.2.2.2]
theorem a9I(hk:k<y.size)(h:∀m (hm:m<k),((y[m]' D).toNat:Int)≠47)(h2:((y[k]'hk).toNat:Int)=47):Q2 y=k:=by
 unfold Q2;have c:k<ln y.data.toList:=by exact hk
 rw[List.findIdx_eq c];refine⟨?_,λm hm=> ?_⟩
 .have e:y[k]'hk=y.data.toList[k]:=by simp[Ry]
  rw[C9];exact QH.1 Al
 have a:=h m hm;have e:y[m]' D=y.data.toList[m]' Al:=by simp[Ry]
 rw[e] at a;rw[CK];intro b;rw[b] at a
 grind
theorem a3n(h:∀m (hm:m<y.size),((y[m]'hm).toNat:Int)≠47):Q2 y=y.size:=by
 unfold Q2;have a:ln y.data.toList=y.size:=ZD;rw[<-a,List.findIdx_eq_length];intro x hx;obtain⟨m,hm,rfl⟩:=JJ.1 hx;have c:=a▸hm;have b:=h m c;have e:y[m]'c=y.data.toList[m]:=by simp[Ry]
 rw[e] at b;rw[CK];intro d;rw[d] at b
 grind
def Tn(y:ByteArray)(k:Nat):Prop:=∀m (_:m<k) (h:m<y.size),((y[m]'h).toNat:Int)≠47
theorem kP(b:(z.data.toList.head?==Q 45)=g)(hy:(if g then z.extract 1 z.size else z)=y):
  (∀k (hk:k<y.size),Tn y k->((y[k]'hk).toNat:Int)=47->Cq z=(g,y.extract 0 k,y.extract (k+1) y.size,AL))/\(Tn y y.size->Cq z=(g,y,⟨#[]⟩,AM)):=by
 have a:Cq z=if Q2 y<y.size then(g,y.extract 0 (Q2 y),y.extract (Q2 y+1) y.size,AL) else(g,y,⟨#[]⟩,AM):=by
  unfold Cq;simp only[b,hy]
 refine⟨λk hk hn h=> ?_,λhn=> ?_⟩
 .rw[a,a9I hk (λm hm=>hn m hm D) h,Aj hk]
 rw[a,a3n (λm hm=>hn m hm hm),Af (Nat.lt_irrefl _)]
theorem b1O(a:0<z.size):(z.data.toList.head?==Q 45)=(((z[0]'a).toNat:Int)==45):=by
 have b:0<ln z.data.toList:=by rw[ZD];exact a
 have e:z[0]'a=z.data.toList[0]:=by simp[Ry]
 rw[e,Wq,Bv b,JM,C9,C9];constructor
 .intro h;injection h with h;rw[h];rfl
 intro h;congr 1;exact QH.1 (by have:(45:UInt8).toNat=45:=rfl;omega)
def aw(z:ByteArray)(w:V)(B:z.size<=1000000):AZ AO 170 #[AT z] w λx w'=>x=Ac (UK (Cq z))/\Ext w w':=by
 by_cases r:z.size=0
 .have hz:z.data.toList=[]:=Jf.1 (by rw[ZD];exact r);have j:=A (kP (z:=z) (y:=z) (g:=AM) (by rw[hz];rfl) F);clear hz;go_enter func170,ntmps170;go_wp2;go_loopw [8] (λi wr=>∃k:Nat,i=M G (k:Int)/\k<=z.size/\Ext w wr/\Tn z k) (λi _=>((z.size:Int)-B8 i).toNat)
  case atStart=>exact⟨0,F,D,Ad _ _,λm hm _=>D⟩
  obtain⟨k,rfl,hk,b,c⟩:=hrel;have d:=A b;have a:=A c;clear b c;by_cases f:k<z.size
  .exact absurd f D
  exact zh
 have q:0<z.size:=D;have⟨u,v⟩:=AP (((z[0]'q).toNat:Int)==45);have⟨y,hy⟩:=AP (z.extract 1 z.size);have t:y.size<=z.size:=by rw[<-hy];simp
 have s:y.size<=1000000:=D;have n:=(b1O q).trans v;cases u with
 |false=>
  have j:=A (kP n F);clear hy t s n;go_enter func170,ntmps170;go_wp2;go_loopw [8] (λi wr=>∃k:Nat,i=M G (k:Int)/\k<=z.size/\Ext w wr/\Tn z k) (λi _=>((z.size:Int)-B8 i).toNat)
  case atStart=>exact⟨0,F,D,Ad _ _,λm hm _=>D⟩
  obtain⟨k,rfl,hk,b,c⟩:=hrel;have d:=A b;have a:=A c;clear b c;by_cases f:k<z.size
  .have⟨p,tp⟩:=AP (((z[k]'f).toNat:Int)==47);have l:=A tp;cases p with
   |true=>
    have HR:=A (show Cq z=(AM,z.extract 0 k,z.extract (k+1) z.size,AL) from j.1 k f a (C9.1 l));exact zg
   |false=>
    have o:=A (show Tn z (k+1) fromλm hm h=>by
     by_cases e:m=k
     .subst e;exact CK.1 l
     exact a m D h)
    go_wp2;exact⟨⟨k+1,by go_num,D,d,o⟩,Bm⟩
  exact zh
 |true=>
  have j:=A (kP n hy);clear n;go_enter func170,ntmps170;go_wp2;go_loopw [8] (λi wr=>∃k:Nat,i=M G (k:Int)/\k<=y.size/\Ext w wr/\Tn y k) (λi _=>((y.size:Int)-B8 i).toNat)
  case atStart=>exact⟨0,F,D,Ad _ _,λm hm _=>D⟩
  obtain⟨k,rfl,hk,b,c⟩:=hrel;have d:=A b;have a:=A c;clear b c;by_cases f:k<y.size
  .have⟨p,tp⟩:=AP (((y[k]'f).toNat:Int)==47);have l:=A tp;cases p with
   |true=>
    have HR:=A (show Cq z=(AL,y.extract 0 k,y.extract (k+1) y.size,AL) from j.1 k f a (C9.1 l));exact zg
   |false=>
    have o:=A (show Tn y (k+1) fromλm hm h=>by
     by_cases e:m=k
     .subst e;exact CK.1 l
     exact a m D h)
    go_wp2;exact⟨⟨k+1,by go_num,D,d,o⟩,Bm⟩
  obtain rfl:k=y.size:=D;have HR:=A (show Cq z=(AL,y,⟨#[]⟩,AM) from j.2 a);go_wp2;refine Bp (j5 F _ _ _) F ?_;exact⟨Fo,d⟩
structure Dg(z:ByteArray):Prop where
 pos:0<z.size
 DY:∀h:0<z.size,1<z.size->((z[0]'h).toNat:Int)≠48
 all:∀m (h:m<z.size),48<=((z[m]'h).toNat:Int)/\((z[m]'h).toNat:Int)<=57
def lH(z:ByteArray)(x:CI):Prop:=∃b:Bool,x=Ac (AU b)/\(b=AL↔Dg z)
def lI(z:ByteArray)(k:Nat):Prop:=∀m (_:m<k) (h:m<z.size),48<=((z[m]'h).toNat:Int)/\((z[m]'h).toNat:Int)<=57
def bL (z : ByteArray) (w : V) (O : z.size <= 1000000) : AZ AO 171 #[AT z] w λx w' => lH z x /\ Ext w w' := by
  have b := A (show ¬ Dg z -> lH z (Ac (AU AM)) fromλhn => ⟨_, rfl, ⟨λh => Aq, λh => absurd h hn⟩⟩);obtain ⟨n, hn⟩ : ∃ n, z.size = n := ⟨_, F⟩;by_cases j : n = 0
  . have P : z.size = 0 := hn.trans j
    clear hn j;go_enter func171, ntmps171;go_wp2;go_ret;exact ⟨b (λh => by have := h.pos; omega), Ad _ _⟩
  have l : 0 < z.size := D;obtain ⟨o, f⟩ : ∃ p, AQ ((n : Int) > 1) = p := ⟨_, F⟩;obtain ⟨q, g⟩ : ∃ p, (((z[0]'l).toNat : Int) == 48) = p := ⟨_, F⟩;have Q : ((n : Int) == 0) = AM := CK.2 D;have N : n <= 1000000 := D;have C := A (show (o = AM \/ q = AM) -> lI z z.size -> lH z (Ac (AU AL)) fromλh d => ⟨_, rfl, ⟨λ_ => ⟨l, λ_ h1 => by
    rcases h with h | h
    . rw [h] at f; have := Ij f; omega
    rw [h] at g; exact CK.1 g, λm hm => d m hm hm⟩, λ_ => rfl⟩⟩)
  have a := A (show o = AL -> q = AL -> ¬ Dg z fromλh1 h2 h => by
    rw [h1] at f; rw [h2] at g; have := Jh f; exact h.DY l D (C9.1 g))
  have E := A hn;clear j;cases o <;> cases q
  all_goals
    go_enter func171, ntmps171;go_wp2
    first
      | (go_ret
         exact ⟨b (by first | exact a rfl rfl | exact a trivial trivial | exact a AV AV | exact a), Ad _ _⟩)
      | (go_loopw [3] (λi wr => ∃ k : Nat, i =M G (k : Int) /\ k <= n /\ Ext w wr /\ lI z k) (λi _ => ((n : Int) - B8 i).toNat)
         case atStart => exact ⟨0, F, D, Ad _ _, λm hm _ => D⟩
         case round =>
           obtain ⟨k, rfl, hk, u, d⟩ := hrel;have c := A u;have r := A d;clear u d;by_cases L : k < n
           . have v : k < z.size := by omega
             obtain ⟨H, s1⟩ : ∃ p, AQ (((z[k]'v).toNat : Int) < 48) = p := ⟨_, F⟩;obtain ⟨I, s2⟩ : ∃ p, AQ (((z[k]'v).toNat : Int) > 57) = p := ⟨_, F⟩;have s := A s1;have t := A s2;cases H with
             | true =>
               go_wp2;go_ret;exact ⟨b (λh => by have := h.all k DI; have := Jh s; omega), c⟩
             | false =>
               cases I with
               | true =>
                 go_wp2;go_ret;exact ⟨b (λh => by have := h.all k DI; have := Jh t; omega), c⟩
               | false =>
                 have y := A (show lI z (k + 1) fromλm hm h => by
                   by_cases e : m = k
                   . subst e
                     have J := Ij s;have K := Ij t;exact ⟨D, D⟩
                   exact r m D h)
                 go_wp2;exact ⟨⟨k + 1, by go_num, D, c, y⟩, MX⟩
           obtain rfl : k = n := by omega
           have B := A (C (by first | exact .inl rfl | exact .inr rfl | simp) (E.o ▸ r.o));go_wp2;go_ret;exact ⟨B, c⟩)
def pN(v:Bool×ByteArray×ByteArray×Bool):ByteArray:=if v.1 then(⟨#[45]⟩:ByteArray)++v.2.1 else v.2.1
def pD(v:Bool×ByteArray×ByteArray×Bool):ByteArray:=if v.2.2.2 then v.2.2.1 else⟨#[49]⟩
def Y4(z:ByteArray):(Cq z).2.1.size<=z.size:=by
 have key:∀(y:ByteArray) (q:Nat) (m:Bool),y.size<=z.size->(if q<y.size then(m,y.extract 0 q,y.extract (q+1) y.size,AL) else(m,y,(⟨#[]⟩:ByteArray),AM)).2.1.size<=z.size:=by
  intro y q m hy;split
  .show(y.extract 0 q).size<=z.size;rw[eF];omega
  exact hy
 exact zi
def jX(z:ByteArray)(w:V)(h:z.size<=1000000):AZ AO 305 #[AT z] w λx w'=>x=Ac (BO #[AT (pN (Cq z)),AT (pD (Cq z))])/\Ext w w':=by
 have b:=A (aw z w h);have hn:=Y4 z;have⟨⟨g,n,d,sl⟩,a⟩:=AP (Cq z);rw[a] at b hn;dsimp only at hn;rw[a];clear a;cases g<;>cases sl
 all_goals
  go_enter func305,ntmps305;go_wp2_with(go_at_call 170;refine b.mono ?_;unfold UK;rintro e W1 ⟨rfl,c⟩;have f:=A c;clear c)
  go_ret2;exact⟨F,f⟩
def b0L{n:Int}(a: -9223372036854775808<=n)(h1:n<=9223372036854775807):(tx (CY n)).size<=1000:=by
 rw[DJ];unfold CY;split
 .have:=jd n.natAbs 20 Z D;rw[FX,TK];omega
 have:=jd n.toNat 20 Z D;rw[TK];omega
def jT(z:ByteArray)(w:V)(h:Lq z):AZ AO 284 #[AT z] w λx w'=>x=Ac (M G 0)/\Ext w w':=by
 have⟨n,hn⟩:=AP z.size;have b:0<z.size:=h.pos;have y:n<=300:=by have:=h.len;omega
 have H:=A h;have⟨f,q⟩:=AP (((z[0]'b).toNat:Int)==45);have⟨j,r⟩:=AP (((z[0]'b).toNat:Int)==48);have⟨l,s⟩:=AP (AQ ((n:Int)>1));obtain rfl:f=AM:=by
  cases f
  .rfl
  have⟨g,o,e⟩:=h.at b;have:=C9.1 q;omega
 have u:((0:Int)==(n:Int))=AM:=CK.2 D;have c:¬(j=AL/\l=AL):=by
  rintro⟨rfl,rfl⟩;exact h.DY b (by have:=Jh s;omega) (C9.1 r)
 have m:=A c;have t:=A hn;clear h c;cases j<;>cases l
 case true.true=>exact absurd ⟨F,F⟩ m
 all_goals
  go_enter func284,ntmps284;go_wp2;go_loopw [4] (λi wr=>∃k:Nat,i=M G (k:Int)/\k<=n/\Ext w wr) (λi _=>((n:Int)-B8 i).toNat)
  case atStart=>exact⟨0,F,D,Ad _ _⟩
  obtain⟨k,rfl,hk,d⟩:=hrel;have a:=A d;clear d;by_cases v:k<n
  .have hb:k<z.size:=D;have⟨g,o,e⟩:=H.at hb;have B:AQ (((z[k]'hb).toNat:Int)<48)=AM:=Bw D;have C:AQ (((z[k]'hb).toNat:Int)>57)=AM:=Bw D;clear e;go_wp2;exact⟨⟨k+1,by go_num,D,a⟩,Bm⟩
  obtain rfl:k=n:=D;have E:¬300<(k:Int)-0:=D;exact Ta
def a3u(a b:ByteArray)(w:V)(e:Lq a)(f:Lq b):AZ AO 240 #[AT a,AT b] w λx w'=>x=Ac (M G 0)/\Ext w w':=by
 have c:=A (jT a w e);have d:=A (λW=>jT b W f);exact zj
theorem Vz(h:Lq z)(hk:k<=z.size):CZ z k<10^k:=by
 induction k with
 |zero=>exact Nat.one_pos
 |succ k a=>
  have⟨g,b,e⟩:=h.at (k:=k) D;rw[bB D e,NC];have:=a D;omega
theorem tD(h:k<=17):(10:Nat)^k<=100000000000000000:=JK Z h
def b38(z:ByteArray)(x:CI):Prop:=∃(v:Int) (ok:Bool),x=Ac (BO #[M G v,AU ok])/\(ok=AL->v=(CZ z z.size:Int))/\v.natAbs<3000000000000000000
def vV(y:ByteArray)(w:V)(h:Lq y):AZ AO 285 #[AT y] w λx w'=>b38 y x/\Ext w w':=by
 have j:=h.pos;have s:y.size<=1000000:=by have:=h.len;omega
 by_cases o:17<y.size
 .exact zK
 have H:=A h;have t:(((y[0]'j).toNat:Int)==45)=AM:=by
  have⟨g,l,e⟩:=h.at j;rw[CK];omega
 clear h;go_enter func285,ntmps285;go_wp2;go_loopw [4,5] (λn i wr=>∃(k:Nat),n=M G (CZ y k:Nat)/\i=M G (k:Int)/\k<=y.size/\Ext w wr) (λ_ i _=>((y.size:Int)-B8 i).toNat)
 case atStart=>exact⟨0,F,F,D,Ad _ _⟩
 obtain⟨k,rfl,rfl,hk,f⟩:=hrel;have a:=A f;have m:=Dj (Vz H hk) (tD D);have⟨v,c⟩:=AP (CZ y k);rw[c] at m⊢;have u:=A c;clear f c;by_cases b:k<y.size
 .have⟨g,l,e⟩:=H.at b;have d:=A (bB b e);have r:(((y[k]'b).toNat:Int)-48)%256=(g:Int):=by rw[e];omega
  have q:(((y[k]'b).toNat:Int) !=45)=AL:=by rw[Cd];omega
  exact zJ
 obtain rfl:k=y.size:=D;go_wp2;go_ret2;exact⟨⟨_,_,F,λ_=>by rw[u.o],D⟩,a⟩
def b5B(a b:ByteArray)(x:CI):Prop:=∃(u v:Int) (ok:Bool),x=Ac (BO #[M G u,M G v,AU ok])/\u.natAbs<3000000000000000000/\v.natAbs<3000000000000000000/\(ok=AL->u=(CZ a a.size:Int)/\v=(CZ b b.size:Int))
def a6I (a b : ByteArray) (w : V) (f : Lq a) (g : Lq b) : AZ AO 241 #[AT a, AT b] w λx w' => b5B a b x /\ Ext w w' := by
  have c := A (vV a w f);have d := A (λW => vV b W g);exact zL
theorem Lq.V9(h:Lq z):Xm z:=
 ⟨⟨0,D,h.pos,h.all,by have:=h.len;omega,⟨λe=>absurd e Z,λ⟨a,e⟩=>by have:=h.all 0 (AS _) a a;omega⟩⟩⟩
theorem pr(z:Int):(tx (CY z)).toList=[49]↔z=1:=by
 have h1:CY 1=[49]:=GG;rw[Z7,ME,<-h1];constructor
 .intro h;have:=QL Lib.atoi h;rw[kG,kG] at this;exact Kr this
 rintro rfl;rfl
def b4O(a b:ByteArray)(e:CI):Prop:=∃(t:ByteArray) (k:Int),e=Ac (BO #[AT t,M G k])/\t.size<=1000/\(t.toList=[49]↔DO (CZ a a.size) (CZ b b.size)=1)
structure xv(w:V)(g:Nat)(x y:AN)(wr:V):Prop where
 ex:∃a b,BH wr wr.1.size x a/\BH wr wr.1.size y b/\EJ a/\EJ b/\ln a<=51/\ln b<=51/\DO (BC a) (BC b)=g
 low:Ext w wr
def ou(w:V)(z:ByteArray)(g:Xm z)(a:0<z.size):AZ AO 242 #[AT z] w (b3N z w):=
 (p8 w z g).mono λ_ _ ⟨v,l,h1,h2,b,c,d,e⟩=>⟨_,v,l,h1,h2,b,c,d,λf=>by
  have h:SW z=AM:=by rw[rK a,CK];have:=f 0 (AS _) a a;omega
  rw[e];unfold V6;rw[h];rfl⟩
theorem nP(a b:ByteArray)(w:V)(n:Lq a)(o:Lq b)(ht:CA w):AZ AO 174 #[AT a,AT b] w λe w'=>b4O a b e/\Ext w w':=by
 have KB:=A (a3u a b w n o);have ha:a.size<=1000000:=by have:=n.len;omega
 have hb:b.size<=1000000:=by have:=o.len;omega
 have⟨g,I⟩:=AP (DO (CZ a a.size) (CZ b b.size));have l:=A n;have m:=A o;have C:=A I;have HZ:=A (show∀z:Int,z.natAbs=g->0<=z->((tx (CY z)).toList=[49]↔DO (CZ a a.size) (CZ b b.size)=1) fromλz h E=>by
  rw[I,pr];omega)
 clear n o I;have HT:=A ht;have HA:=A ha;have HB:=A hb;have av:∀(p:Bool) (v:AN) (W:V),(Instr.field 262 (AW #[AU p,v]) 1).run AO W= .ok v W:=λ_ _ _=>U
 clear ht;go_enter func174,ntmps174;go_wp2_with(first
  |(go_at_call 241;fail)
  |(go_at_call 240;refine KB.q λW1 Y=>?_;have X1:=A Y;clear Y))
 refine(a6I a b W1 l m).mono ?_;rintro e W2 ⟨⟨x,y,ok,rfl,hx,hy,hv⟩,Z⟩;have T:=A (X1.tr Z);have S:=A hv;clear Z hv;cases ok
 .go_wp2_with(first
   |(go_at_call 242;refine(ou J b m.V9 m.pos).mono ?_;rintro e W4 ⟨s4,v4,l4,rfl,ah,ac,af,aa,ak⟩;have V4:=A (ak m.all);clear ak;have X4:=A (X3.tr aa))
   |(go_at_call 242;refine(ou W2 a l.V9 l.pos).mono ?_;rintro e J ⟨s3,v3,l3,rfl,ag,ab,ae,H,aj⟩;have V3:=A (aj l.all);clear aj;have X3:=A (T.tr H)))
  have ST:=A (show xv w g v3 v4 W4 from⟨⟨l3,l4,ag.grow aa,ah,ab,ac,ae,af,by rw[V3.o,V4.o];exact C⟩,X4⟩);clear ag ah ab ac ae af;go_loopw [10,11] (λx y wr=>xv w g x y wr) (λ_ y wr=>iu y wr)
  case atStart=>exact ST
  obtain⟨⟨p,q,sx,sy,X,i,lx,ly,j⟩,d⟩:=hrel;have f:=A j;clear j;have L:=cH sy;obtain⟨Ay,au,rfl,aA,aq,_⟩:=id sy;obtain⟨Ax,ar,rfl,az,ap,_⟩:=id sx;unfold BM at aq ap;have al:=A sy;have am:=A L;have c:=A d;by_cases k:q=[]
  .subst k;have CW:=A (a2h wr AM _ p sx X D);clear sx sy L d;go_wp2_with(go_at_call 244;refine CW.mono ?_;rintro e W5 ⟨t,rfl,_,ay,s,ao⟩)
   go_ret2;exact⟨⟨_,_,F,D,by rw[ao AV,C.o,<-f.o];show _↔DO (BC p) 0=1;rw[Uj]⟩,c.tr s⟩
  have aw:0<ln q:=MW.2 k;have ax:AQ (0<(ln q:Int))=AL:=NF;have CD:=A (a1e wr p q _ _ sx sy X.Bf i D D k);clear sx sy L d;go_wp2_with(go_at_call 243;refine CD.mono ?_;rintro e W5 ⟨vq,vr,rl,rfl,ai,ad,K,s⟩)
  refine⟨⟨⟨q,rl,al.grow s,ai,i,ad,ly,?_,by rw[K,RD,<-ZJ,RD];exact f⟩,c.tr s⟩,?_⟩
  .have:=Y9 ad i.Bf (by rw[K];exact FM (Hh _ (YX i.trim k)));omega
  rw[cH ai,am.o,K];exact Hh _ (YX i.trim k)
 go_wp2_with fail
 go_loopw [7,8] (λu v wr=>∃p q:Int,u=M G p/\v=M G q/\p.natAbs<3000000000000000000/\q.natAbs<3000000000000000000/\DO p.natAbs q.natAbs=g/\Ext w wr) (λ_ v _=>(B8 v).natAbs)
 case atStart=>exact⟨x,y,F,F,hx,hy,by rw[(S.o AV).1,(S.o AV).2,Int.natAbs_natCast,Int.natAbs_natCast];exact C,T⟩
 obtain⟨p,q,rfl,rfl,hp,hq,j,d⟩:=hrel;have f:=A j;clear j;have c:=A d;clear d;by_cases E:q=0
 .subst E;have N:=A (show(max p (-p)).natAbs=g by have h:=f.o;simp at h;omega);have R:=A (show 0<=max p (-p) by omega);have an:(max p (-p)).natAbs<3000000000000000000:=D;have w1:G.wrap (-p)= -p:=DF _ D;have⟨z,hz⟩:=AP (max p (-p));rw[hz] at an N R;go_wp2_with(go_at_call 179;refine(U6 z wr D D (HT.below c (AS _))).q λJ H=>?_)
  go_ret2;exact⟨⟨_,_,F,b0L D D,HZ z N R⟩,c.tr H⟩
 have h1:(p.tmod q).natAbs=p.natAbs%q.natAbs:=Int.natAbs_tmod _ _;have h2:p.natAbs%q.natAbs<q.natAbs:=Hh _ D;have w1:G.wrap (p.tmod q)=p.tmod q:=DF _ D;have t0:(q !=0)=AL:=Cd.2 E;have B:=A (show(p.tmod q).natAbs<q.natAbs by omega);have⟨r,hr⟩:=AP (p.tmod q);have P:=A (show DO q.natAbs (p.tmod q).natAbs=g by rw[h1,RD,<-ZJ,RD];exact f);rw[hr] at w1 B P;clear h1 h2;go_wp2_with fail
 go_quiet (fail)
 go_wp2
 go_round
 case rel=>exact⟨q,r,F,F,hq,by have:=B.o;omega,P.o,below_drewN c.o _⟩
 simp[B8];exact B
theorem Dg.Cv(h:Dg z)(a:z.size<=300):Lq z:=⟨h.pos,a,λm _ _ hm=>h.all m hm,h.DY⟩
theorem XI(h:k<=9):(10:Nat)^k<=1000000000:=JK Z h
def VL(y:ByteArray)(w:V)(h:Lq y)(l:y.size<=9):AZ AO 173 #[AT y] w λx w'=>x=Ac (M G (CZ y y.size:Nat))/\Ext w w':=by
 have H:=A h;clear h;go_enter func173,ntmps173;go_wp2;go_loopw [3,4] (λn i wr=>∃(k:Nat),n=M G (CZ y k:Nat)/\i=M G (k:Int)/\k<=y.size/\Ext w wr) (λ_ i _=>((y.size:Int)-B8 i).toNat)
 case atStart=>exact⟨0,F,F,D,Ad _ _⟩
 obtain⟨k,rfl,rfl,hk,f⟩:=hrel;have a:=A f;have j:=Dj (Vz H hk) (XI D);have⟨v,c⟩:=AP (CZ y k);rw[c] at j⊢;have u:=A c;clear f c;by_cases b:k<y.size
 .have⟨g,hg,e⟩:=H.at b;have d:=A (bB b e);have m:(((y[k]'b).toNat:Int)-48)%256=(g:Int):=by rw[e];omega
  exact zJ
 obtain rfl:k=y.size:=D;go_wp2;go_ret;exact⟨Kv,a⟩
def oq(a b:Nat)(w:V)(m:b<1000000000000000000):AZ AO 172 #[M G (a:Int),M G (b:Int)] w λx w'=>x=Ac (M G (DO a b:Nat))/\Ext w w':=by
 have⟨g,c⟩:=AP (DO a b);rw[c];have j:=A c;clear c;go_enter func172,ntmps172;go_wp2;go_loopw [0,1] (λx y wr=>∃p q:Nat,x=M G (p:Int)/\y=M G (q:Int)/\q<1000000000000000000/\DO p q=g/\Ext w wr) (λ_ y _=>(B8 y).natAbs)
 case atStart=>exact⟨a,b,F,F,m,j,Ad _ _⟩
 obtain⟨p,q,rfl,rfl,o,c,i⟩:=hrel;have f:=A i;have e:=A c;clear i c;by_cases l:q=0
 .subst l;go_wp2;go_ret;exact⟨by rw[<-e.o,Uj];rfl,f⟩
 have⟨r,d⟩:=AP (p%q);have h1:(p:Int).tmod q=(r:Int):=by rw[mM _ _ D,<-d];simp
 have h2:r<q:=by rw[<-d];exact Hh _ D
 have k:=A (show DO q r=g by rw[<-d,RD,<-ZJ,RD];exact e);have w1:G.wrap (r:Int)=r:=DF _ D;have s:((q:Int) !=0)=AL:=Cd.2 D;have n:¬(q:Int)=0:=D;clear d;go_wp2_with fail
 go_quiet (fail)
 go_wp2
 go_round
 case rel=>exact⟨q,r,F,F,D,k,below_drewN f _⟩
 simp[B8];exact h2
def jK(z:ByteArray):(Cq z).2.2.1.size<=z.size:=by
 have key:∀(y:ByteArray) (q:Nat) (m:Bool),y.size<=z.size->(if q<y.size then(m,y.extract 0 q,y.extract (q+1) y.size,AL) else(m,y,(⟨#[]⟩:ByteArray),AM)).2.2.1.size<=z.size:=by
  intro y q m hy;split
  .show(y.extract (q+1) y.size).size<=z.size;rw[eF];omega
  exact D8 _
 exact zi
structure b3u(z:ByteArray):Prop where
 pos:0<z.size
 num:0<(pN (Cq z)).size
 den:0<(pD (Cq z)).size
def WL(g sl a b c d e f:Bool):Bool:= !(sl&&(a||b))&& !(g&&c)&& !d&& !e&&(!sl||f)
def IP(z:ByteArray):Prop:=
 let v:=Cq z
 Dg v.2.1/\(v.2.2.2=AL->Dg v.2.2.1)/\WL v.1 v.2.2.2 (v.2.2.1.toList==[48]) (v.2.2.1.toList==[49]) (v.2.1.toList==[48]) (AQ (300<v.2.1.size)) (AQ (300<v.2.2.1.size)) (DO (CZ v.2.1 v.2.1.size) (CZ v.2.2.1 v.2.2.1.size)==1)=AL
theorem IP.num(h:IP z):b3u z:=by
 obtain⟨h1,h2,_⟩:=h;have hn:=Y4 z;have:=h1.pos;refine⟨D,?_,?_⟩
 .unfold pN;split
  .rw[mJ];omega
  exact h1.pos
 unfold pD;split
 .exact(h2 DI).pos
 decide
def wb(z:ByteArray)(e:CI):Prop:=∃k:Int,e=Ac (M G k)/\(k=0↔IP z)
def jN (z : ByteArray) (w : V) (hs : z.size <= 1000000) (f : CA w) : AZ AO 103 #[AT z] w λe w' => wb z e /\ Ext w w' := by
  have HT := A f;have B := A (aw z w hs);have hn := Y4 z;have P := jK z;have y := A (show IP z ↔ IP z from Iff.rfl);unfold wb;unfold IP at y ⊢;obtain ⟨⟨g, n, d, sl⟩, S⟩ : ∃ v, Cq z = v := ⟨_, F⟩;rw [S] at B hn P ⊢;dsimp only at hn P ⊢;clear S f y;have af : n.size <= 1000000 := D;have ae : d.size <= 1000000 := D;have DN := A (λW => bL n W af);have Y := A (λW => bL d W ae);obtain ⟨p1, h1⟩ : ∃ p, (d.toList == [48]) = p := ⟨_, F⟩;obtain ⟨p2, h2⟩ : ∃ p, (d.toList == [49]) = p := ⟨_, F⟩;obtain ⟨p3, h3⟩ : ∃ p, (n.toList == [48]) = p := ⟨_, F⟩;obtain ⟨T, s⟩ : ∃ p, AQ (300 < n.size) = p := ⟨_, F⟩;obtain ⟨U, u⟩ : ∃ p, AQ (300 < d.size) = p := ⟨_, F⟩;obtain ⟨q, o⟩ : ∃ q, DO (CZ n n.size) (CZ d d.size) = q := ⟨_, F⟩;obtain ⟨X, m⟩ : ∃ p, (q == 1) = p := ⟨_, F⟩;rw [h1, h2, h3, s, u, o, m];have ac : AQ (300 < (n.size : Int)) = T := by rw [<- s]; simp; omega
  have ad : AQ (300 < (d.size : Int)) = U := by rw [<- u]; simp; omega
  have ah : ((q : Int) != 1) = !X := by
    rw [<- m]; cases a : (q == 1)
    . rw [CK] at a; rw [eN, Cd]; omega
    rw [C9] at a; subst a; rfl
  have aa := A (show ∀ t : ByteArray, (t.toList = [49] ↔ DO (CZ n n.size) (CZ d d.size) = 1) -> (t.toList == [49]) = X fromλt h => by
    rw [o] at h; rw [<- m, JM, C9, C9]; exact h)
  have HQ := A o;have ag : q.gcd 0 = q := Uj q;clear o s u m ag;cases g <;> cases sl
  all_goals
    go_enter func103, ntmps103;go_wp2_with (go_at_call 170; refine B.mono ?_; unfold UK; rintro e W1 ⟨rfl, E⟩; have ab := A E; clear E)
    refine (DN W1).mono ?_;rintro e W2 ⟨⟨b, rfl, a⟩, H⟩;have C := A (ab.tr H);have i := A a;clear H a;cases b
  all_goals (cases T <;> cases U)
  all_goals go_wp2_with (first
      | (go_at_call 174; (refine (nP n d _ ((i.1 AV).Cv (by have := Ij ac; omega)) ((j.1 (by first | simp | assumption)).Cv (by have := Ij ad; omega)) (HT.below l (AS _))).mono ?_); rintro e W4 ⟨⟨t, k, rfl, _, f⟩, c⟩; have r := A (l.tr c); have ai := aa t f; clear c f)
      | (go_at_call 172; (refine (oq (CZ n n.size) (CZ d d.size) _ (by have := Dj (Vz x (AS _)) (XI D); omega)).mono ?_); rw [HQ.o]; rintro e W6 ⟨rfl, L⟩; have X6 := A (X5.tr L); clear L)
      | (go_at_call 173; have x := A ((j.1 (by first | simp | assumption)).Cv D); (with_reducible refine (VL d _ x.o D).mono ?_); rintro e W5 ⟨rfl, K⟩; have X5 := A (r.tr K); clear K)
      | (go_at_call 173; refine (VL n _ ((i.1 AV).Cv D) D).mono ?_; rintro e W4 ⟨rfl, c⟩; have r := A (l.tr c); clear c)
      | (go_at_call 171; refine (Y _).mono ?_; rintro e J ⟨⟨b3, rfl, N⟩, I⟩; have l := A (C.tr I); have j := A N; clear I N))
  all_goals go_ret
  all_goals refine ⟨?_, by first | exact C | exact l | exact r | exact X6⟩
  all_goals first
    | (refine ⟨0, rfl, ⟨λ_ => ⟨i.1 ?_, λh => ?_, ?_⟩, λ_ => rfl⟩⟩
       . first | rfl | trivial
       . first | (cases h; done) | (apply j.1; first | rfl | trivial | assumption)
       simp_all [WL]; done)
    | (refine ⟨_, rfl, ⟨λh => absurd h Z, λ⟨h, _⟩ => ?_⟩⟩
       have R := i.2 h;cases R; done)
    | (refine ⟨_, rfl, ⟨λh => absurd h Z, λ⟨_, _, h⟩ => ?_⟩⟩
       simp_all [WL]; done)
    | (refine ⟨_, rfl, ⟨λh => absurd h Z, λ⟨_, h, _⟩ => ?_⟩⟩
       have R := j.2 (h (by first | rfl | trivial))
       simp_all; done)
    | trace_state
def b4J(z:ByteArray)(e:CI):Prop:=∃(a b:ByteArray) (k:Int),e=Ac (BO #[AT a,AT b,M G k])/\(IP z->k=0/\a=pN (Cq z)/\b=pD (Cq z))
def vM(z:ByteArray)(w:V)(c:z.size<=1000000)(l:CA w):AZ AO 273 #[AT z] w λe w'=>b4J z e/\Ext w w':=by
 have f:=A (jN z w c l);have g:=A (λW=>jX z W c);go_enter func273,ntmps273;go_wp2_with(first
  |(go_at_call 305;refine(g _).q λW2 j=>?_;have i:=A (a.tr j))
  |(go_at_call 103;refine f.mono ?_;rintro e W1 ⟨⟨k,rfl,hk⟩,b⟩;have a:=A b;have d:=A hk;clear b hk))
 .go_ret3
  exact⟨⟨_,_,_,F,λh=>absurd (d.2 h) (by simp_all)⟩,a⟩
 go_ret3
 exact⟨⟨_,_,_,F,λ_=>⟨rfl,rfl,rfl⟩⟩,i⟩
def rU(z:ByteArray):(pN (Cq z)).size<=z.size+1:=by
 have h:=Y4 z;unfold pN;split
 .rw[mJ];show 1+_<=_;omega
 omega
def sP(z:ByteArray):(pD (Cq z)).size<=z.size+1:=by
 have h:=jK z;unfold pD;split
 .omega
 show 1<=_;omega
def dn(a:List ByteArray):List AN:=a.map Value.string
def OK(r:List Sd)(k:Nat):Bool:=(MU r k*MU r k+MT r k*MT r k !=1)||(OO r k==0)
def Jb(r:List Sd):Bool:= !Cm (OK r) (ln r)&&AQ (4<=ln r)
def a2N(w:V)(R:Option An)(T:Nat)(r:List Sd)(h:BB 7 w w.1.size R T (Cg r))(hn:ln r<=1000000):
  AZ AO 146 #[AK R (ln r) T] w λx w'=>x=Ac (AU (Jb r))/\Ext w w':=by
 have h1:=h.1;have h2:=h.2.1;rw[BL] at h1;unfold BM at h2;have H:=A (λ(W:V) (hx:Ext w W)=>((h.below hx).more hx.size:BB 7 W W.1.size R T (Cg r)));clear h;have⟨v,s⟩:=AP (Jb r);rw[s];have I:=A s;clear s;go_enter func146,ntmps146;go_wp2;go_loopw [3] (λi wr=>∃k:Nat,i=M G (k:Int)/\k<=ln r/\Ext w wr/\∀j,j<k->OK r j=AM) (λi _=>((ln r:Int)-B8 i).toNat)
 case atStart=>exact⟨0,F,D,Ad _ _,λj h=>D⟩
 obtain⟨k,rfl,hk,n,J⟩:=hrel;have a:=A n;have C:=A J;clear J;by_cases q:k<ln r
 .have KD:=A (pE wr R T r (H _ n) k q);have m:=A (λ(W:V) (hx:Ext w W)=>nC W R T r (H _ hx) hn k q);have e:=A (show OK r k=((MU r k*MU r k+MT r k*MT r k !=1)||(OO r k==0)) from rfl);have E:=A (λh:OK r k=AL=>show v=AM by rw[<-I.o];unfold Jb;rw[J5 q h];rfl);have⟨x1,u⟩:=iy (G.wrap ((Bl r k).x-(BA r k).x));have⟨z,B⟩:=iy (G.wrap ((Bl r k).y-(BA r k).y));have⟨x,hx⟩:=AP (MU r k);have⟨y,hy⟩:=AP (MT r k);change -1<=MU r k at x1;change MU r k<=1 at u;change -1<=MT r k at z;change MT r k<=1 at B;rw[hx] at x1 u KD e;rw[hy] at z B KD e;clear hx hy n;have sx:=xo x1 u;have sy:=xo z B;have w1:G.wrap (x*x)=x*x:=DF _ D;have w2:G.wrap (y*y)=y*y:=DF _ D;have Y:G.wrap (x*x+y*y)=x*x+y*y:=DF _ D;have⟨b,P⟩:=AP (x*x+y*y !=1);have⟨t,L⟩:=AP (OO r k);rw[L] at m e;have⟨c,S⟩:=AP (t==0);rw[P,S] at e;clear L;cases b with
  |true=>
   have o:=E e;subst o;go_wp2_with(go_at_call 223;refine KD.q λW1 d=>?_;have f:=A (Ext.tr a d);clear d)
   go_ret;exact⟨F,f⟩
  |false=>
   cases c with
   |true=>
    have o:=E e;subst o;go_wp2_with(first
     |(go_at_call 224;refine(m _ f).q λW2 g=>?_;have l:=A (Ext.tr f g);clear g)
     |(go_at_call 223;refine KD.q λW1 d=>?_;have f:=A (Ext.tr a d);clear d))
    go_ret;exact⟨F,l⟩
   |false=>
    have N:=A e;go_wp2_with(first
     |(go_at_call 224;refine(m _ f).q λW2 g=>?_;have l:=A (Ext.tr f g);clear g)
     |(go_at_call 223;refine KD.q λW1 d=>?_;have f:=A (Ext.tr a d);clear d))
    exact⟨⟨k+1,by go_num,D,l,λj U=>by
     rcases mC.1 U with h|rfl
     .exact C j h
     exact N⟩,Bm⟩
 obtain rfl:k=ln r:=D;have K:v=AQ (4<=ln r):=by rw[<-I.o];unfold Jb;rw[Hy C.o];simp
 have X:AQ ((ln r:Int)>=4)=v:=by rw[K];congr 1;simp only[ge_iff_le,eq_iff_iff];omega
 clear K;exact Ta
theorem YO(h:p:=by
  go_enter func145,ntmps145;go_wp2_with(go_at_call 222;refine(a6c _ _ _ _).mono ?_;rintro e W1 ⟨rfl,rfl⟩)
  go_ret;exact⟨AV,a⟩):p:=h
def a2a(s:Sd)(w:V):AZ AO 145 #[AW (FA s).toArray] w λx w'=>x=Ac (AU (Dn s))/\Ext w w':=by
 have b:=Az.new w 40 (FA s);have a:=A (show Ext w (w.alloc (.cells (FA s).toArray 40)) from(Ad _ _).alloc (AS _) _);obtain⟨x,y,Mz,run,DX,JG,over⟩:=s;cases DX;all_goals
  have c:=λi=>b.cell i
  have⟨d,m⟩:=AP (N x 0 65536);have⟨f,n⟩:=AP (N y 0 65536);have⟨g,o⟩:=AP (N JG 0 65536);have⟨j,q⟩:=AP (N over 0 65536);have⟨k,r⟩:=AP (N Mz 1 48);have⟨z,t⟩:=AP (N run 1 48);have⟨l,u⟩:=AP (Mz==0);have⟨B,v⟩:=AP (run==0);unfold Dn;simp only[m,n,o,q,r,t,u,v,SO,lz,Wx];cases d
  .exact YO
  cases f
  .exact YO
  cases g
  .exact YO
  cases j
  .exact YO
  cases k<;>cases l<;>exact YO
def Qr(r:List Sd)(x y:Int)(k:Nat):Bool:=((BA r k).x==(Bl r k).x)&&AQ ((Bl r k).x>x)&&AQ (min (BA r k).y (Bl r k).y<=y)&&AQ (y<max (BA r k).y (Bl r k).y)
theorem YI(h:p:=by
  go_wp2_with(go_at_call 269;refine t.q λW1 hX1=>?_;have HX1:=A (Ext.tr a hX1);have d0:=(hX1.cell (p:=⟨b,off+k*7,O⟩) n).trans c0;have d1:=(hX1.cell (p:=⟨b,off+k*7+1,O⟩) n).trans c1;clear hX1;clear c0 c1)
  exact⟨⟨k+1,by rw[H.o];simp,by go_num,D,HX1.o⟩,Bm⟩):p:=h
def a3E(w:V)(R:Option An)(T:Nat)(r:List Sd)(h:BB 7 w w.1.size R T (Cg r))(x y:Int):
  AZ AO 227 #[AK R (ln r) T,M G x,M G y] w λe w'=>e=Ac (AU (MO (Qr r x y) (ln r)))/\Ext w w':=by
 have h1:=h.1;have h2:=h.2.1;rw[BL] at h1;unfold BM at h2;have q:=A (λ(W:V) (hx:Ext w W)=>((h.below hx).more hx.size:BB 7 W W.1.size R T (Cg r)));clear h;have⟨f,g⟩:=AP (MO (Qr r x y));have I:=A (show∀k,f (k+1)=(if Qr r x y k then !f k else f k) by rw[<-g];intro k;rfl);have E:=A (show f 0=AM by rw[<-g];rfl);rw[g];clear g;go_enter func227,ntmps227;go_wp2;go_loopw [7,8] (λs i wr=>∃k:Nat,s=AU (f k)/\i=M G (k:Int)/\k<=ln r/\Ext w wr) (λ_ i _=>((ln r:Int)-B8 i).toNat)
 case atStart=>exact⟨0,by rw[E.o],rfl,D,Ad _ _⟩
 obtain⟨k,rfl,rfl,hk,d⟩:=hrel;have a:=A d;by_cases z:k<ln r
 .obtain⟨b,off,rfl,hb,hc⟩:=Oo (q _ d) D;have⟨c0,c1,_⟩:=hc k z;have n:=A hb;have t:=A (YJ wr _ T r (q _ d) k z);have c:=I k;unfold Qr at c;have⟨u,hu⟩:=AP ((Bl r k).x);have⟨v,m⟩:=AP ((Bl r k).y);have⟨L,j⟩:=AP ((BA r k).x);have⟨C,l⟩:=AP ((BA r k).y);rw[hu,m,j,l] at c;rw[hu,m] at t;rw[j] at c0;rw[l] at c1;clear hc d hb hu m j l;have⟨N,EZ⟩:=AP (L==u);have⟨P,Ge⟩:=AP (AQ (u>x));have⟨S,J⟩:=AP (AQ (min C v<=y));have⟨U,K⟩:=AP (AQ (y<max C v));rw[EZ,Ge,J,K] at c;have⟨o,B⟩:=AP (f k);rw[B] at c⊢;have H:=A c;clear c B;cases N
  .exact YI
  cases P
  .exact YI
  cases S
  .exact YI
  cases U
  .exact YI
  exact YI
 obtain rfl:k=ln r:=D;exact Ta
def Li(r:List Sd):Nat->Int
 |0=>0
 |k+1=>wrap64 (wrap64 (Li r k+wrap64 ((BA r k).x*(Bl r k).y))-wrap64 ((Bl r k).x*(BA r k).y))
def a4n(w:V)(R:Option An)(T:Nat)(r:List Sd)(h:BB 7 w w.1.size R T (Cg r))(hn:ln r<=1000000):
  AZ AO 226 #[AK R (ln r) T] w λx w'=>x=Ac (M G (Li r (ln r)))/\Ext w w':=by
 have h1:=h.1;have h2:=h.2.1;rw[BL] at h1;unfold BM at h2;have l:=A (λ(W:V) (hx:Ext w W)=>((h.below hx).more hx.size:BB 7 W W.1.size R T (Cg r)));clear h;have⟨f,e⟩:=AP (Li r);have t:=A (show∀k,f (k+1)=wrap64 (wrap64 (f k+wrap64 ((BA r k).x*(Bl r k).y))-wrap64 ((Bl r k).x*(BA r k).y)) by rw[<-e];intro k;rfl);have o:=A (show f 0=0 by rw[<-e];rfl);rw[e];clear e;go_enter func226,ntmps226;go_wp2;go_loopw [3,4] (λs i wr=>∃k:Nat,s=M G (f k)/\i=M G (k:Int)/\k<=ln r/\Ext w wr) (λ_ i _=>((ln r:Int)-B8 i).toNat)
 case atStart=>exact⟨0,by rw[o.o],rfl,D,Ad _ _⟩
 obtain⟨k,rfl,rfl,hk,c⟩:=hrel;have a:=A c;by_cases m:k<ln r
 .obtain⟨b,off,rfl,hb,hc⟩:=Oo (l _ c) D;have⟨c0,c1,_⟩:=hc k m;have j:=A hb;have v:=A (YJ wr _ T r (l _ c) k m);have g:=t k;have⟨z,n⟩:=AP (f k);rw[n] at g⊢;have q:=A g;clear hc c hb g n;go_wp2_with(go_at_call 269;refine v.q λW1 d=>?_;have u:=A (Ext.tr a d);have y:=(d.cell (p:=⟨b,off+k*7,O⟩) j).trans c0;have d1:=(d.cell (p:=⟨b,off+k*7+1,O⟩) j).trans c1;clear d;clear c0 c1)
  go_quiet (fail)
  go_wp2;exact⟨⟨k+1,by rw[q.o],by go_num,D,below_drewN u _⟩,Bm⟩
 obtain rfl:k=ln r:=D;exact Ta
theorem dA(h:p:=by
  go_enter func225,ntmps225;go_wp2_with(first
   |(go_at_call 269;have hX0:=hX1;clear hX1;refine(B _ hX0).q λW2 hX2=>?_;have HX2:=A (Ext.tr hX0 hX2);have d0:=(HX2.cell (p:=⟨b,off+i*7,O⟩) c).trans c0;have d1:=(HX2.cell (p:=⟨b,off+i*7+1,O⟩) c).trans c1;have f0:=(HX2.cell (p:=⟨e,f+k*7,O⟩) d).trans l;have f1:=(HX2.cell (p:=⟨e,f+k*7+1,O⟩) d).trans m;clear c0 c1 l m hX2)
   |(go_at_call 269;refine z.q λW1 hX1=>?_;have hX1:=A hX1))
  simp only[List.append_eq,LO,Lm];refine On 66 U U (λJ hW3=> ?_);have g0:=(hW3.cell (p:=⟨b,off+i*7,O⟩) (Dj c HX2.size)).trans d0;have g1:=(hW3.cell (p:=⟨b,off+i*7+1,O⟩) (Dj c HX2.size)).trans d1;have g2:=(hW3.cell (p:=⟨e,f+k*7,O⟩) (Dj d HX2.size)).trans f0;have g3:=(hW3.cell (p:=⟨e,f+k*7+1,O⟩) (Dj d HX2.size)).trans f1;have HX3:=A (HX2.tr hW3);clear hW3 d0 d1 f0 f1;refine vT (λOPS hOPS=> ?_);have D15:(OPS[15]?).bind (·.dst)=Q 40:=by rw[hOPS];rfl
  have D32:(OPS[32]?).bind (·.dst)=Q 57:=by rw[hOPS];rfl
  have D49:(OPS[49]?).bind (·.dst)=Q 74:=by rw[hOPS];rfl
  clear hOPS;simp only[S7,RC,FV,FY];iterate 16 still_step
  iterate 15 (refine Wv (λK hK=> ?_);(first|rw[Af (kJ rfl D15 rfl rfl)]|rw[Aj (Sj rfl D15 rfl rfl)]);go_simp;refine hK _ ?_;clear hK K)
  iterate 2 still_step
  iterate 15 (refine Wv (λK hK=> ?_);(first|rw[Af (kJ rfl D32 rfl rfl)]|rw[Aj (Sj rfl D32 rfl rfl)]);go_simp;refine hK _ ?_;clear hK K)
  iterate 2 still_step
  iterate 15 (refine Wv (λK hK=> ?_);(first|rw[Af (kJ rfl D49 rfl rfl)]|rw[Aj (Sj rfl D49 rfl rfl)]);go_simp;refine hK _ ?_;clear hK K)
  still_step
  refine TM ?_;go_wp2;go_ret;exact⟨by rw[Y.o];simp,HX3.o⟩):p:=h
def a42(w:V)(R:Option An)(T:Nat)(r:List Sd)(h:BB 7 w w.1.size R T (Cg r))(i:Nat)(hi:i<ln r)
  (g:Option An)(j:Nat)(r2:List Sd)(h2:BB 7 w w.1.size g j (Cg r2))(k:Nat)(hk:k<ln r2):
  AZ AO 225 #[AK R (ln r) T,M G (i:Int),AK g (ln r2) j,M G (k:Int)] w λx w'=>x=Ac (AU (Jq (Ia r i) (Ia r2 k)))/\Ext w w':=by
 have Z:=h.1;have a2:=h.2.1;have b1:=h2.1;have b2:=h2.2.1;rw[BL] at Z b1;unfold BM at a2 b2;have z:=A (YJ w R T r h i hi);have B:=A (λ(W:V) (hx:Ext w W)=>YJ W g j r2 ((h2.below hx).more hx.size) k hk);obtain⟨b,off,rfl,L,P⟩:=Oo h D;obtain⟨e,f,rfl,N,S⟩:=Oo h2 D;have⟨c0,c1,_⟩:=P i hi;have⟨l,m,_⟩:=S k hk;have c:=A L;have d:=A N;obtain⟨x,hx⟩:∃x,(Bl r i).x=x:=⟨_,F⟩;obtain⟨y,hy⟩:∃y,(Bl r i).y=y:=⟨_,F⟩;have⟨u,hu⟩:=AP ((Bl r2 k).x);have⟨v,t⟩:=AP ((Bl r2 k).y);have a:Jq (Ia r i) (Ia r2 k)=(AQ (min (BA r i).x (Bl r i).x<=max (BA r2 k).x (Bl r2 k).x)&&AQ (min (BA r2 k).x (Bl r2 k).x<=max (BA r i).x (Bl r i).x)&&AQ (min (BA r i).y (Bl r i).y<=max (BA r2 k).y (Bl r2 k).y)&&AQ (min (BA r2 k).y (Bl r2 k).y<=max (BA r i).y (Bl r i).y)):=rfl;have⟨vv,X⟩:=AP (Jq (Ia r i) (Ia r2 k));rw[X] at a⊢;rw[hx,hy,hu,t] at a;rw[hx,hy] at z;simp only[hu,t] at B;obtain⟨C,n⟩:∃x,(BA r i).x=x:=⟨_,F⟩;have⟨E,o⟩:=AP ((BA r i).y);obtain⟨H,q⟩:∃x,(BA r2 k).x=x:=⟨_,F⟩;have⟨I,s⟩:=AP ((BA r2 k).y);rw[n,o,q,s] at a;rw[n] at c0;rw[o] at c1;rw[q] at l;rw[s] at m;clear X hx hy hu t P S h h2 L N n o q s;have⟨m0,aa⟩:=AP (min C x);have⟨m1,ab⟩:=AP (max H u);have⟨m2,ac⟩:=AP (min H u);have⟨m3,ad⟩:=AP (max C x);have⟨m4,ae⟩:=AP (min E y);have⟨m5,af⟩:=AP (max I v);have⟨m6,ag⟩:=AP (min I v);have⟨m7,ah⟩:=AP (max E y);rw[aa,ab,ac,ad,ae,af,ag,ah] at a;have⟨p1,EZ⟩:=AP (AQ (m0<=m1));have⟨p2,Ge⟩:=AP (AQ (m2<=m3));have⟨p3,ai⟩:=AP (AQ (m4<=m5));have⟨p4,aj⟩:=AP (AQ (m6<=m7));rw[EZ,Ge,ai,aj] at a;have Y:=A a;clear a;cases p1
 .exact dA
 cases p2
 .exact dA
 cases p3
 .exact dA
 exact dA
def OM(rs:List (List Sd))(k m q u:Nat):Bool:=
 !((k==q)&&(AQ (u<=m)||(u==m+1)||((m==0)&&((u:Int)==((rs.getD k []).length:Int)-1))))&&Jq (Ia (rs.getD k []) m) (Ia (rs.getD q []) u)
def lS(rs:List (List Sd))(k m q:Nat):Prop:=∀u,u<(rs.getD q []).length->OM rs k m q u=AM
def xh(rs:List (List Sd))(k m:Nat):Prop:=∀q,k<=q->q<ln rs->lS rs k m q
def lJ(rs:List (List Sd))(k:Nat):Prop:=∀m,m<(rs.getD k []).length->xh rs k m
def km(rs:List (List Sd))(b:Bool):Prop:=
 (b=AL->∃k m q u,k<ln rs/\m<(rs.getD k []).length/\k<=q/\q<ln rs/\u<(rs.getD q []).length/\OM rs k m q u=AL)/\(b=AM->∀k,k<ln rs->lJ rs k)
theorem Jt{P:Nat->Prop}(h:∀j,j<n->P j)(hn:P n):∀j,j<n+1->P j:=λj b=>by
 rcases mC.1 b with a|rfl
 .exact h j a
 exact hn
theorem ik(h:p:=by
  cases zz
  .have a:=HU (by rw[t.o];simp);have HF4:=A a;clear a;go_wp2_with fail
   go_region_held3(λw'=>Ext wr w') (first|exact hx1|exact Ext.dr wr) (first|(go_at_call 225;refine(g _ (c.tr (Ext.dr wr))).q λJ hX5=>?_;have hx1:Ext wr J:=(Ext.dr wr).tr hX5;clear hX5))
   go_wp2
   go_round
   case rel=>exact⟨u+1,by go_num,D,c.tr hx1,HF4⟩
   simp[B8];omega
  have ht:=HT (by rw[t.o];simp);have HT4:=A ht;clear ht;go_wp2_with fail
  go_region_held3(λw'=>Ext wr w') (first|exact hx1|exact Ext.dr wr) (first|(go_at_call 225;refine(g _ (c.tr (Ext.dr wr))).q λJ hX5=>?_;have hx1:Ext wr J:=(Ext.dr wr).tr hX5;clear hX5))
  go_wp2;go_ret;exact⟨⟨_,F,HT4⟩,c.tr hx1⟩):p:=h
theorem gC(h:p:=by
  have a:=HU (by rw[t.o];simp);have HF4:=A a;clear a;go_wp2;exact⟨⟨u+1,by go_num,D,c,HF4⟩,Bm⟩):p:=h
def a1C(w:V)(R:Option An)(T:Nat)(rs:List (List Sd))(r:Ew w w.1.size R T rs)(hp:0<ln rs)(ai:∀k,(rs.getD k []).length<=1000000):
  AZ AO 147 #[AK R (ln rs) T] w λx w'=>(∃b:Bool,x=Ac (AU b)/\Hid (km rs b))/\Ext w w':=by
 have h1:=r.1;have h2:=r.2.1;unfold BM at h2;obtain⟨b,off,f,rfl,hb,a⟩:=Zw r hp;have Y:=A a;have Z:=A ai;have KT:=A (λ(W:V) (h:Ext w W) (k:Nat) (hk:k<ln rs) (i:Nat) (hi:i<(rs.getD k []).length) (q:Nat) (o:q<ln rs) (u:Nat) (hu:u<(rs.getD q []).length)=>a42 W (f k).1 (f k).2 (rs.getD k []) (a W h k hk).2 i hi (f q).1 (f q).2 (rs.getD q []) (a W h q o).2 u hu);clear r a ai;go_enter func147,ntmps147;go_wp2;go_loopw [3] (λi wr=>∃k:Nat,i=M G (k:Int)/\k<=ln rs/\Ext w wr/\∀j,j<k->lJ rs j) (λi _=>((ln rs:Int)-B8 i).toNat)
 case atStart=>exact⟨0,F,D,Ad _ _,λj h=>D⟩
 obtain⟨k,rfl,hk,hX,ad⟩:=hrel;have HX:=A hX;have L:=A ad;clear ad;by_cases H:k<ln rs
 .have⟨n,hn⟩:=AP ((rs.getD k []).length);have⟨fa,y⟩:=AP ((f k).1);have⟨fc,z⟩:=AP ((f k).2);have s:=A (λW (h:Ext w W)=>(show W.cell? ⟨b,off+k,O⟩=Q (AK fa n fc) by rw[<-hn,<-y,<-z];exact(Y W h k H).1));have an:n<=1000000:=hn▸Z.o k;have d:=A hn;have HA:=A y;have al:=A z;clear hX hn y z;go_wp2_with fail
  go_loopw [4] (λi wr=>∃m:Nat,i=M G (m:Int)/\m<=n/\Ext w wr/\∀j,j<m->xh rs k j) (λi _=>((n:Int)-B8 i).toNat)
  case atStart=>exact⟨0,F,D,HX,λj h=>D⟩
  obtain⟨m,rfl,hm,v,ae⟩:=hrel;have ab:=A v;have N:=A ae;have c1:=s _ v;clear v ae;by_cases aj:m<n
  .go_wp2_with fail
   clear c1;go_loopw [5] (λi wr=>∃q:Nat,i=M G (q:Int)/\q<=ln rs/\Ext w wr/\k<=q/\∀j,k<=j->j<q->lS rs k m j) (λi _=>((ln rs:Int)-B8 i).toNat)
   case atStart=>exact⟨k,F,D,ab,AS _,λj h1 h2=>D⟩
   obtain⟨q,rfl,o,ah,am,af⟩:=hrel;have ac:=A ah;have S:=A af;clear ah af;by_cases I:q<ln rs
   .have⟨n',hn'⟩:=AP ((rs.getD q []).length);have⟨ga,B⟩:=AP ((f q).1);have⟨gc,C⟩:=AP ((f q).2);have X:=A (λW (h:Ext w W)=>(show W.cell? ⟨b,off+q,O⟩=Q (AK ga n' gc) by rw[<-hn',<-B,<-C];exact(Y W h q I).1));have e:=KT.o;have e:=λ(W:V) (h:Ext w W)=>KT W h k H m (by rw[d.o];exact aj) q I
    simp only[hn',B,C,d.o,HA.o,al.o] at e;have e:=A e;have aa:=A hn';have ao:n'<=1000000:=hn'▸Z.o q;clear hn' B C;go_wp2_with fail
    go_loopw [6] (λi wr=>∃u:Nat,i=M G (u:Int)/\u<=n'/\Ext w wr/\∀j,j<u->OM rs k m q j=AM) (λi _=>((n':Int)-B8 i).toNat)
    case atStart=>exact⟨0,F,D,ac,λj h=>D⟩
    obtain⟨u,rfl,hu,l,ag⟩:=hrel;have c:=A l;have U:=A ag;have c1:=s _ l;have c2:=X _ l;clear l ag;by_cases ak:u<n'
    .have g:=λW (h:Ext w W)=>e W h u ak
     have⟨zz,K⟩:=AP (Jq (Ia (rs.getD k []) m) (Ia (rs.getD q []) u));simp only[K] at g;have g:=A g;have hit:OM rs k m q u=(!((k==q)&&(AQ (u<=m)||(u==m+1)||((m==0)&&((u:Int)==(n:Int)-1))))&&zz):=by unfold OM;rw[K,d.o]
     have HT:=A (λh:OM rs k m q u=AL=>(show Hid (km rs AL) from A ⟨λ_=>⟨k,m,q,u,H,by rw[d.o];exact aj,am,I,by rw[aa.o];exact ak,h⟩,λh=>Aq⟩));have HU:=A (λh:OM rs k m q u=AM=>Jt (P:=λj=>OM rs k m q j=AM) U h);clear K;have w1:G.wrap ((m:Int)+1)=(m:Int)+1:=DF _ D;have w2:G.wrap ((n:Int)-1)=(n:Int)-1:=DF _ D;have a1:=λw' (h:Ext wr w')=>s w' (c.tr h)
     have a2:=λw' (h:Ext wr w')=>X w' (c.tr h)
     have⟨e1,t1⟩:=AP ((k:Int)==(q:Int));have⟨e2,t2⟩:=AP (AQ ((u:Int)<=(m:Int)));have⟨e3,t3⟩:=AP ((u:Int)==(m:Int)+1);have⟨e4,t4⟩:=AP ((m:Int)==0);have⟨e5,t5⟩:=AP ((u:Int)==(n:Int)-1);have s1:(k==q)=e1:=by rw[<-t1,JM,C9,C9];omega
     have s2:AQ (u<=m)=e2:=by rw[<-t2];exact R7.2 D
     have s3:(u==m+1)=e3:=by rw[<-t3,JM,C9,C9];omega
     have s4:(m==0)=e4:=by rw[<-t4,JM,C9,C9];omega
     rw[s1,s2,s3,s4,t5] at hit;have t:=A hit;clear hit;cases e1
     .exact ik
     cases e2
     case true=>exact gC
     cases e3
     case true=>exact gC
     cases e4
     .exact ik
     cases e5
     .exact ik
     exact gC
    obtain rfl:u=n':=D;have HQ:=A (show lS rs k m q fromλj E=>U j (by rw[<-aa.o];exact E));go_wp2;exact⟨⟨q+1,by go_num,D,c,D,λj h1 h2=>by
     rcases mC.1 h2 with h'|rfl
     .exact S j h1 h'
     exact HQ⟩,Bm⟩
   obtain rfl:q=ln rs:=D;go_wp2;exact⟨⟨m+1,by go_num,D,ac,Jt N (λq o hl=>S q o hl)⟩,Bm⟩
  obtain rfl:m=n:=D;have HK:=A (show lJ rs k fromλj E=>N j (by rw[<-d.o];exact E));go_wp2;exact⟨⟨k+1,by go_num,D,ab,Jt L HK⟩,Bm⟩
 obtain rfl:k=ln rs:=D;go_wp2;go_ret;exact⟨⟨_,F,A ⟨λh=>Aq,λ_=>L⟩⟩,HX⟩
def Rt(rs:List (List Sd))(k m:Nat):Bool:= !(m==k)&&(MO (Qr (rs.getD m []) (BA (rs.getD k []) 0).x (BA (rs.getD k []) 0).y) (rs.getD m []).length !=(m==0))
def PE(rs:List (List Sd))(k:Nat):Bool:=AQ (1<=k)&&(AQ (0<=Li (rs.getD k []) (rs.getD k []).length)||Cm (Rt rs k) (ln rs))
def Te(rs:List (List Sd)):Bool:=AQ (0<Li (rs.getD 0 []) (rs.getD 0 []).length)&& !Cm (PE rs) (ln rs)
theorem sM(rs:List (List Sd)):∀j,j<1->PE rs j=AM:=λj h=>by
 obtain rfl:j=0:=D;simp[PE]
theorem wm(h:p:=by
  have HU:=A (Jt (P:=λj=>Rt rs k j=AM) Y (ag.trans F));go_wp2_with fail
  go_region_held3(λw'=>Ext wr w') (first|exact hx1|exact Ext.dr wr) (first|(go_at_call 227;refine(g _ (Ext.dr wr)).q λJ hX4=>?_;have hx1:Ext wr J:=(Ext.dr wr).tr hX4;clear hX4))
  go_wp2
  go_round
  case rel=>exact⟨m+1,by go_num,D,N.tr hx1,HU⟩
  simp[B8];omega):p:=h
theorem uo(h:p:=by
  have L:=af (by rw[ah.o];exact J5 ac (ag.trans F));subst L;go_wp2_with fail
  go_region_held3(λw'=>Ext wr w') (first|exact hx1|exact Ext.dr wr) (first|(go_at_call 227;refine(g _ (Ext.dr wr)).q λJ hX4=>?_;have hx1:Ext wr J:=(Ext.dr wr).tr hX4;clear hX4))
  go_wp2;go_ret;exact⟨F,N.tr hx1⟩):p:=h
def a2X(w:V)(R:Option An)(T:Nat)(rs:List (List Sd))(S:Ew w w.1.size R T rs)(hp:0<ln rs)(an:∀r∈rs,r≠[])(am:∀k,(rs.getD k []).length<=1000000):
  AZ AO 148 #[AK R (ln rs) T] w λx w'=>x=Ac (AU (Te rs))/\Ext w w':=by
 have h1:=S.1;have h2:=S.2.1;unfold BM at h2;obtain⟨b,off,f,rfl,hb,I⟩:=Zw S hp;have B:=A I;have KT:=A (λ(W:V) (h:Ext w W) (k:Nat) (hk:k<ln rs)=>a4n W (f k).1 (f k).2 (rs.getD k []) (I W h k hk).2 (am k));have KI:=A (λ(W:V) (h:Ext w W) (k:Nat) (hk:k<ln rs)=>a3E W (f k).1 (f k).2 (rs.getD k []) (I W h k hk).2);have aq:=A an;have c0:=(I w (Ad _ _) 0 hp).1;rw[Dh] at c0;have ay:(0:Int)<(ln rs:Int):=D;clear S I an am;have⟨v,hv⟩:=AP (Te rs);rw[hv];have y:v=(AQ (0<Li (rs.getD 0 []) (rs.getD 0 []).length)&& !Cm (PE rs) (ln rs)):=hv.symm;clear hv;have l:=KT w (Ad _ _) 0 hp;have⟨z0,ap⟩:=AP (Li (rs.getD 0 []) (rs.getD 0 []).length);rw[ap] at y l;have⟨n0,s⟩:=AP ((rs.getD 0 []).length);rw[s] at c0 l;have l:=A l;clear s ap;by_cases c:0<z0
 case neg=>
  have t0:AQ (z0<=0)=AL:=CP D;have L:v=AM:=by rw[y,Bw c];rfl
  subst L;clear y c;go_enter func148,ntmps148;go_wp2_with(go_at_call 226;refine l.q λW1 E=>?_;have aa:=A E;clear E)
  go_ret;exact⟨F,aa⟩
 have t0:AQ (z0<=0)=AM:=Bw D;rw[CP c,Hu] at y;have HV:=A y;clear y c;go_enter func148,ntmps148;go_wp2_with(go_at_call 226;refine l.q λW1 E=>?_;have aa:=A E;clear E)
 clear l c0;go_loopw [3] (λi wr=>∃k:Nat,1<=k/\i=M G (k:Int)/\k<=ln rs/\Ext w wr/\∀j,j<k->PE rs j=AM) (λi _=>((ln rs:Int)-B8 i).toNat)
 case atStart=>exact⟨1,D,rfl,D,aa,sM rs⟩
 obtain⟨k,av,rfl,hk,C,ai⟩:=hrel;have a:=A C;have A1:=A ai;clear ai;by_cases o:k<ln rs
 .have c0:=(B wr C k o).1;have d:=KT wr C k o;have U:=a78 aq o;have u:PE rs k=(AQ (0<=Li (rs.getD k []) (rs.getD k []).length)||Cm (Rt rs k) (ln rs)):=by unfold PE;rw[CP av,Hu]
  have af:=A (λh:PE rs k=AL=>show v=AM by rw[HV.o,J5 o h];rfl);have ar:=A (λh:PE rs k=AM=>Jt (P:=λj=>PE rs j=AM) A1 h);have⟨z,c⟩:=AP (Li (rs.getD k []) (rs.getD k []).length);rw[c] at u d;have⟨n0,s⟩:=AP ((rs.getD k []).length);rw[s] at c0 d U;have⟨bk,ok,t,_⟩:=Oo (B _ C k o).2 (by rw[s];exact U);rw[t] at c0 d;have HA:=A t;clear t;have d:=A d;have Z:=A s;clear C s c;by_cases c:0<=z
  case pos=>
   have t1:AQ (z>=0)=AL:=CP c;have L:=af (by rw[u,CP c];rfl);subst L;clear u c;go_wp2_with(go_at_call 226;refine d.q λW2 H=>?_;have ab:=A (Ext.tr a H);clear H)
   go_ret;exact⟨F,ab⟩
  have t1:AQ (z>=0)=AM:=Bw c;rw[Bw c,Bool.false_or] at u;have ah:=A u;clear u c;go_wp2_with(go_at_call 226;refine d.q λW2 H=>?_;have ab:=A (Ext.tr a H);clear H)
  clear c0 d;go_loopw [4] (λi wr=>∃m:Nat,i=M G (m:Int)/\m<=ln rs/\Ext w wr/\∀j,j<m->Rt rs k j=AM) (λi _=>((ln rs:Int)-B8 i).toNat)
  case atStart=>exact⟨0,F,D,ab,λj h=>D⟩
  obtain⟨m,rfl,hm,n,aj⟩:=hrel;have N:=A n;have Y:=A aj;clear aj;by_cases ac:m<ln rs
  .by_cases hmk:m=k
   .have t1:((m:Int) !=(k:Int))=AM:=by rw[hmk];simp
    have HU:=A (Jt (P:=λj=>Rt rs k j=AM) Y (by unfold Rt;rw[hmk];simp));clear n;go_wp2_with fail
    go_quiet (fail)
    go_wp2;exact⟨⟨m+1,by go_num,D,below_drewN N _,HU⟩,Bm⟩
   have t1:((m:Int) !=(k:Int))=AL:=by rw[Cd];omega
   have⟨au,ax,t,ak,al⟩:=Oo (B _ n k o).2 (by rw[Z.o];exact U);obtain⟨rfl,rfl⟩:bk=au/\ok=ax:=by have:=HA.symm.trans t;injection this with this;injection this with h1 h2;exact⟨h1,h2⟩
   clear t;have⟨X,x1,_⟩:=al 0 (by rw[Z.o];exact U);rw[TN,Dh] at X x1;have cm:=λw' (h:Ext wr w')=>(B w' (n.tr h) m ac).1
   have ck:=λw' (h:Ext wr w')=>(B w' (n.tr h) k o).1
   have g:=λW (h:Ext wr W)=>KI W (n.tr h) m ac (BA (rs.getD k []) 0).x (BA (rs.getD k []) 0).y
   have K:Rt rs k m=(MO (Qr (rs.getD m []) (BA (rs.getD k []) 0).x (BA (rs.getD k []) 0).y) (rs.getD m []).length !=(m==0)):=by unfold Rt;rw[CK.2 hmk];rfl
   obtain⟨sx,ad⟩:∃x,(BA (rs.getD k []) 0).x=x:=⟨_,F⟩;have⟨sy,ae⟩:=AP ((BA (rs.getD k []) 0).y);rw[ad] at X;rw[ae] at x1;simp only[ad,ae] at g K;have⟨q,hq⟩:=AP (MO (Qr (rs.getD m []) sx sy) (rs.getD m []).length);simp only[hq] at g K;have⟨nm,ao⟩:=AP ((rs.getD m []).length);simp only[ao] at cm g;simp only[Z.o,HA.o] at ck;have g:=A g;have cx:=λw' (h:Ext wr w')=>(h.cell (p:=⟨bk,ok,O⟩) ak).trans X
   have cy:=λw' (h:Ext wr w')=>(h.cell (p:=⟨bk,ok+1,O⟩) ak).trans x1
   have az:(0:Int)<(n0:Int):=D;have⟨e,he⟩:=AP (m==0);rw[he] at K;have te:((m:Int)==0)=e:=by rw[<-he,JM,C9,C9];omega
   have ag:=A K;clear n al X x1 ao hq ad ae he K;cases q<;>cases e
   .exact wm
   .exact uo
   .exact uo
   exact wm
  obtain rfl:m=ln rs:=D;have HK:=A (ar (by rw[ah.o];exact Hy Y));go_wp2;exact⟨⟨k+1,D,by go_num,D,N,HK⟩,Bm⟩
 obtain rfl:k=ln rs:=D;have aw:v=AL:=by rw[HV.o,Hy A1.o];rfl
 subst aw;exact Ta
def wC(s:By)(w:V)(a:ln s<=1000000):
  AZ AO 78 #[AT (tx s)] w λe w'=>e=Ac (AU (IY s))/\w'=w:=by
 go_enter func78,ntmps78;go_wp2
 go_loop [3] (λi=>iV s i) (λi=>((ln s:Int)-B8 i).toNat)
 case atStart=>exact⟨0,D,rfl,rfl⟩
 exact ye
end
section
open Kp
attribute [local go_sem] Oper.semAt_some
def OP(r:List Sd)(j:Nat):Bool:=Cm (λi=> !(BA r i).DX) j
def Mu(rs:List (List Sd))(k:Nat):Bool:=Cm (λm=>OP (rs.getD m []) (rs.getD m []).length) k
structure b5N(w:V)(R:Option An)(T:Nat)(rs:List (List Sd))(k:Nat)(W:V):Prop where
 res:Bx W w.1.size 4 (AU AM)
 sm:Bx W (w.1.size+1) 4 (AU (Mu rs k))
 rg:Ew W w.1.size R T rs
 low:At w.1.size w W
 ok:∀j,j<k->Cm (PM (rs.getD j [])) (rs.getD j []).length=AM
structure Ra(w:V)(it:Nat)(a:List Deferred)(H:Option An)(E:Nat)(ring:List Sd)(pv:Bool)(j:Nat)(W:V):Prop where
 res:Bx W w.1.size 4 (AU AM)
 sm:Bx W (w.1.size+1) 4 (AU (pv||OP ring j))
 it:Bx W it 117 (AK H (ln ring) E)
 sl:BB 7 W w.1.size H E (Cg ring)
 RV:Mk w.1.size a W
 low:At w.1.size w W
 ok:∀i,i<j->PM ring i=AM
theorem Ra.stays{b:List Deferred}{ring:List Sd}(h:Ra w it b H E ring pv j W)(hw:∀c,QY c∈b->c<w1.1.size)(a:CN w1.1.size W W')(hn:w.1.size<=w1.1.size):Ra w it b H E ring pv j W':=
 ⟨h.res.stays a,h.sm.stays a,h.it.stays a,h.sl.stays (JW ring) a,h.RV.stays hw a,h.low.trans (a.below.mono hn),h.ok⟩
structure WR(w:V)(a:List Deferred)(ring:List Sd)(c:Code)(j:Nat)(W:V):Prop where
 ret:c= .ret
 res:Bx W w.1.size 4 (AU AM)
 RV:Mk w.1.size a W
 low:At w.1.size w W
 bad:PM ring j=AL
theorem WR.stays{a:List Deferred}{ring:List Sd}{c:Code}(h:WR w a ring c j W)(hw:∀d,QY d∈a->d<w1.1.size)(b:CN w1.1.size W W')(hn:w.1.size<=w1.1.size):WR w a ring c j W':=
 ⟨h.ret,h.res.stays b,h.RV.stays hw b,h.low.trans (b.below.mono hn),h.bad⟩
theorem wW{b:List Deferred}{ring:List Sd}{v:Bool}(h:Ra w it b H E ring pv j W2)(hx:Ext (W2.setCell ⟨w.1.size+1,0,O⟩ (AU v)) J)(hit:it≠w.1.size+1):
  Bx J w.1.size 4 (AU AM)/\Bx J (w.1.size+1) 4 (AU v)/\Bx J it 117 (AK H (ln ring) E)/\BB 7 J w.1.size H E (Cg ring)/\Mk w.1.size b J/\At w.1.size w J/\GF W2 J:=by
 have d:At w.1.size W2 (W2.setCell _ (AU v)):=(Ad _ _).setCell (p:=⟨w.1.size+1,0,O⟩) AV _;have e:=h.low.size;have c:=d.trans (hx.mono (by grind [Di]));have hk:=(Gq _ _ _).trans hx.keeps;have a:=hx.stays (D8 _);exact⟨(h.res.Bo AV _).stays a,(h.sm.put _).stays a,(h.it.Bo Al _).stays a,h.sl.below c,h.RV.keeps hk,h.low.trans c,hk⟩
theorem a9v{b:List Deferred}{ring:List Sd}{v:Bool}(h:Ra w it b H E ring pv j W2)(hx:Ext (W2.setCell ⟨w.1.size+1,0,O⟩ (AU v)) J)(hit:it≠w.1.size+1)(m:(pv||OP ring (j+1))=v)(k:PM ring j=AM):
  Vk (Ra w it b H E ring pv) (WR w b ring) j W2 .normal a J:=by
 have⟨h1,h2,c,d,e,f,g⟩:=wW h hx hit;refine⟨g,h1,Al,c,d,e,f,λi hi=> ?_⟩;by_cases l:i=j
 .grind
 exact h.ok i D
theorem b1m{b:List Deferred}{ring:List Sd}{v:Bool}(h:Ra w it b H E ring pv j W2)(hx:Ext (W2.setCell ⟨w.1.size+1,0,O⟩ (AU v)) J)(hit:it≠w.1.size+1)(f:PM ring j=AL):
  Vk (Ra w it b H E ring pv) (WR w b ring) j W2 .ret a (J.setCell ⟨w.1.size,0,O⟩ (AU AM)):=by
 have⟨h1,h2,g,i,c,d,e⟩:=wW h hx hit;exact⟨e.trans (Gq _ _ _),F,h1.put _,c.keeps (Gq _ _ _),d.setCell (AS _) _,f⟩
def a2z (w : V) (R : Option An) (T : Nat) (rs : List (List Sd)) (hr : Ew w w.1.size R T rs) (aq : SV rs) :
    AZ AO 119 #[AK R (ln rs) T] w λe w' => e =Ac (AU (Ot rs)) /\ Ext w w' := by
  have h1 := hr.1;have h2 := hr.2.1;unfold BM at h2;have aL := aq.count;refine (De (n := 9)).1 (R8 func119 F trivial ?_);simp only [ntmps119, Nn, FX, Jy, Hw, Nat.reduceSub, OX, PQ, PS, PR, Lm, LO]
  gi_wp2
  refine wpIn_loop (λa W => ∃ (u : Nat -> AN) (k : Nat) (y : List Deferred), k <= ln rs /\ a = ⟨#[AK R (ln rs) T, u 1, Ap (Q ⟨w.1.size, 0, O⟩), Ap (Q ⟨w.1.size + 1, 0, O⟩), u 4, u 5, u 6, u 7, AK R (ln rs) T, M G (ln rs : Int), M G (k : Int), u 11, u 12, u 13, u 14, u 15, u 16, u 17, u 18, u 19, u 20, u 21, u 22, u 23, u 24, u 25, u 26, u 27, u 28, u 29, u 30, u 31, u 32, u 33, u 34, u 35, u 36, u 37, u 38, u 39, u 40, u 41, u 42, u 43, u 44, u 45, u 46, u 47, u 48], y⟩ /\ b5N w R T rs k W /\ Mk w.1.size y W)
    (λa _ => ((ln rs : Int) - B8 (a.tmps.getD 10 Ba)).toNat) ?BI ?round
  case BI =>
    exact ⟨λ_ => Ba, 0, [], D, rfl, ⟨(Bx.at_ rfl).alloc _, Bx.at_ AV, hr.below (GB _ _ _), GB _ _ _, λj hj => D⟩, Mk.nil _ _⟩
  case round =>
    rintro a W ⟨u, k, y, hk, rfl, r, hM⟩;by_cases aj : k < ln rs
    . obtain ⟨b, off, rfl, hB, ap⟩ := r.rg.2.2 D
      obtain ⟨H, E, az, av⟩ := ap k aj;obtain ⟨aG, ac, aC⟩ := aq.ring aj;obtain ⟨ring, am⟩ : ∃ ring, rs.getD k [] = ring := ⟨_, F⟩;rw [am] at az av aG ac aC;have ae := A am;have m := A r;have S := A hM;clear am ap r hM;gi_wp2_with (refine ⟨trivial, ?_⟩; gi_at_call 185; refine (De.2 (Y7 _ _ _ _)).mono ?_; rintro e w' ⟨rfl, rfl⟩)
      have aO := m.sm.lt;have z : ∀ B, QY B ∈ y -> B < (W.alloc (.cells #[AK H (ln ring) E] 117)).1.size := λB L => by have := S.lt L; simp; omega
      have ad : w.1.size <= (W.alloc (.cells #[AK H (ln ring) E] 117)).1.size := Gh;refine VJ (gf := 248) (lb := #[Ap (Q ⟨W.1.size, 0, O⟩)]) F (FZ func248 U F)
        (Y5 W.1.size H E ring D) (λk x e => by rw [e]; rfl)
        (Ra w W.1.size y H E ring (Mu rs k)) (WR w y ring) (λj d V' h hs => h.stays z hs ad) (λc j d V' h hs => h.stays z hs ad) (λj d h => Yq h.it h.sl) ?BI ?round ?done ?stop
      case BI =>
        have hA : Ext W (W.alloc (.cells #[AK H (ln ring) E] 117)) := (Ad _ _).alloc (AS _) _;exact ⟨m.res.alloc _, by rw [show (Mu rs k || OP ring 0) = Mu rs k by unfold OP Cm; simp]; exact m.sm.alloc _, Bx.at_ F, av.below (hA.mono D), S.keeps hA.keeps, m.low.trans (hA.mono D), λi hi => D⟩
      case done =>
        intro B d L hi s;have aE := A (hi.RV.cons z L D s);have f := A hi;clear hi s
        gi_wp2
        refine ⟨⟨λi => match i with | 1 => _ | 4 => _ | 5 => _ | 6 => _ | 7 => _ | 11 => _ | 12 => _ | 13 => _ | 14 => _ | 15 => _ | 16 => _ | 17 => _ | 18 => _ | 19 => _ | 20 => _ | 21 => _ | 22 => _ | 23 => _ | 24 => _ | 25 => _ | 26 => _ | 27 => _ | 28 => _ | 29 => _ | 30 => _ | 31 => _ | 32 => _ | 33 => _ | 34 => _ | 35 => _ | 36 => _ | 37 => _ | 38 => _ | 39 => _ | 40 => _ | 41 => _ | 42 => _ | 43 => _ | 44 => _ | 45 => _ | 46 => _ | 47 => _ | _ => _, k + 1, _, D, rfl, ⟨f.res, ?_, ?_, f.low, ?_⟩, aE⟩, MX⟩
        . have e : Mu rs (k + 1) = (Mu rs k || OP ring (ln ring)) := by unfold Mu; rw [Cm, ae.o]
          rw [e]; exact f.sm
        . exact hr.below f.low
        intro j hj
        by_cases aA : j = k
        . rw [aA, ae.o]; exact Hy f.ok
        exact m.ok j D
      case stop =>
        rintro B c j d L hj ⟨rfl, aI, aF, aD, ax⟩ s;have HA := A (show Ot rs = AM by
          unfold Ot;rw [J5 aj (by rw [ae.o]; exact J5 hj ax)]; rfl)
        gi_wp2
        refine (aF.cons z L D s).leaves (λW' N => ?_);have hb := (aI.stays N).cell;exact ⟨AU AM, by simp [results, results119, go_sem, hb], by rw [HA.o], aD.trans N.below⟩
      case round =>
        intro l j x d K hj hx hi s;obtain rfl := hx;have HK := A s;have RA := A (Az.new d 201 (Dt (FK ring j) (BA ring j) (Bl ring j)));have EA := A (show Ext d (d.alloc (.cells (Dt (FK ring j) (BA ring j) (Bl ring j)).toArray 201)) from (Ad _ _).alloc (AS _) _);have aJ : (W.alloc (.cells #[AK H (ln ring) E] 117)).1.size <= d.1.size := by have := hi.it.lt; simp; omega
        have f := A hi;clear s hi;refine VG (NR _ _) U ?_;go_wp2_with (refine C7 rfl 201 (.tmp 7) (.tmp 17) rfl d.1.size (Dt (FK ring j) (BA ring j) (Bl ring j)).toArray rfl rfl 201 _ (Bq _ _) U U U ?_; rw [OE _ _ _ _ rfl])
        refine Tx (HK _ _ EA (λW2 an aN => ?_));have ah := (f.stays z (EA.stays aJ) ad).stays z an ad;have R2 : Az W2 d.1.size 201 (Dt (FK ring j) (BA ring j) (Bl ring j)) := an.cells _ _ _ _ RA;have aK := f.it.lt;clear HK f EA RA an;obtain ⟨ak, al⟩ := Oy ac ((j + ln ring - 1) % ln ring);obtain ⟨ar, au⟩ := Oy ac j;obtain ⟨af, ag⟩ := Oy ac ((j + 1) % ln ring);rw [<- Rn] at af ag;rw [<- gN] at ak al;obtain ⟨Ag, P⟩ : ∃ o, BA ring j = o := ⟨_, F⟩;obtain ⟨I, ab⟩ : ∃ o, Bl ring j = o := ⟨_, F⟩;obtain ⟨q, aa⟩ : ∃ o, FK ring j = o := ⟨_, F⟩;have X := A (show PM ring j = (!AQ (0 < (Ag.x - q.x) * (I.y - Ag.y) - (Ag.y - q.y) * (I.x - Ag.x)) && (Ag.DX || q.DX || Ag.JG != q.JG)) by unfold PM aB Pg RR Ko N7; rw [P, ab, aa]);have HS := A (show (Mu rs k || OP ring (j + 1)) = ((Mu rs k || OP ring j) || !Ag.DX) by unfold OP; rw [Cm, P, Bool.or_assoc]);rw [P] at ar au;rw [ab] at af ag;rw [aa] at ak al;rw [P, ab, aa] at R2;rw [P, ab, aa];have Y := A ah;obtain ⟨sv, ao⟩ : ∃ sv, (Mu rs k || OP ring j) = sv := ⟨_, F⟩;rw [ao] at HS;have S2 := ah.sm;rw [ao] at S2;have cS := S2.cell;have fS := S2.frozen;have cA := λi => R2.cell i
        have n1 : ¬ d.1.size = w.1.size + 1 := D;have n2 : ¬ w.1.size + 1 = d.1.size := D;have cl := A (λW => tV q Ag I W ak al ar au af ag);obtain ⟨lf, ai⟩ : ∃ lf, AQ (0 < (Ag.x - q.x) * (I.y - Ag.y) - (Ag.y - q.y) * (I.x - Ag.x)) = lf := ⟨_, F⟩;rw [ai] at X;simp only [ai] at cl;clear ah ao ai;obtain ⟨g, hg⟩ : ∃ g, Ag.DX = g := ⟨_, F⟩;obtain ⟨bg, ay⟩ : ∃ g, q.DX = g := ⟨_, F⟩;obtain ⟨pl, aH⟩ : ∃ g, (Ag.JG != q.JG) = g := ⟨_, F⟩;rw [hg, ay, aH] at X;rw [hg] at HS;have Z := A (λv => R2.Bo (p := ⟨w.1.size + 1, 0, O⟩) n2 v);have hit : W.1.size ≠ w.1.size + 1 := D;cases lf <;> cases g <;> cases bg <;> cases pl <;> cases sv
        all_goals first
          | (have HP := A (show PM ring j = AM by rw [X.o]; rfl)
             gi_wp2_with (first
               | (refine Xp (NR _ _) rfl 201 (.tmp 7) rfl d.1.size rfl 201 _ (0, 0) _ (Z _) underlying201 rfl U ?_)
               | (refine ⟨trivial, ?_⟩; gi_at_call 193; refine (LN l (De.2 (cl _))).mono ?_; rintro e J ⟨rfl, t⟩; have aw := λi => ((Z _).ext t).cell i; have C := (Y.res.Bo (p := ⟨w.1.size + 1, 0, O⟩) AV _).stays (t.stays (n0 := 0) (D8 _)); have c0 := C.cell; have f0 := C.frozen))
             exact a9v Y t hit HS HP)
          | (have HP := A (show PM ring j = AL by rw [X.o]; rfl)
             gi_wp2_with (first
               | (refine Xp (NR _ _) rfl 201 (.tmp 7) rfl d.1.size rfl 201 _ (0, 0) _ (Z _) underlying201 rfl U ?_)
               | (refine ⟨trivial, ?_⟩; gi_at_call 193; refine (LN l (De.2 (cl _))).mono ?_; rintro e J ⟨rfl, t⟩; have aw := λi => ((Z _).ext t).cell i; have C := (Y.res.Bo (p := ⟨w.1.size + 1, 0, O⟩) AV _).stays (t.stays (n0 := 0) (D8 _)); have c0 := C.cell; have f0 := C.frozen))
             exact b1m Y t hit HP)
    have aM : AQ ((k : Int) < (ln rs : Int)) = AM := by rw [CX]; omega
    have c1 := r.sm.cell;have c0 := r.res.cell;have f0 := r.res.frozen;have m := A r;have S := A hM;clear r hM;have HE := A (show Ot rs = Mu rs k by
      unfold Ot;obtain rfl : k = ln rs := D;rw [Hy m.ok]; rfl)
    gi_wp2
    refine (S.keeps (Gq _ _ _)).leaves (λW' N => ?_);have hb := ((m.res.put (AU (Mu rs k))).stays N).cell;exact ⟨AU (Mu rs k), by simp [results, results119, go_sem, hb], by rw [HE.o], (m.low.setCell (p := ⟨w.1.size, 0, O⟩) (AS _) _).trans N.below⟩
def a0w (w : V) (R : Option An) (T : Nat) (rs : List (List Sd)) (hr : Ew w w.1.size R T rs) (af : SV rs) :
    AZ AO 117 #[AK R (ln rs) T] w λe w' => e =Ac (AU (OF rs)) /\ Ext w w' := by
  have h1 := hr.1;have h2 := hr.2.1;unfold BM at h2;have b4 := af.count;refine (De (n := 9)).1 (R8 func117 F trivial ?_);simp only [ntmps117, Nn, FX, Jy, Hw, Nat.reduceSub, OX, PQ, PS, PR, Lm, LO]
  gi_wp2
  refine wpIn_loop (λa W => ∃ (u : Nat -> AN) (k : Nat) (ds : List Deferred), k <= ln rs /\ a = ⟨#[AK R (ln rs) T, u 1, AU AM, Ap (Q ⟨w.1.size, 0, O⟩), Ap (Q ⟨w.1.size + 1, 0, O⟩), u 5, u 6, u 7, u 8, u 9, u 10, u 11, u 12, u 13, AK R (ln rs) T, M G (ln rs : Int), M G (k : Int), u 17, u 18, u 19, u 20, u 21, u 22, u 23, u 24, u 25, u 26, u 27, u 28, u 29, u 30, u 31, u 32, u 33, u 34, u 35, u 36, u 37, u 38, u 39, u 40, u 41, u 42, u 43, u 44, u 45, u 46, u 47, u 48, u 49, u 50, u 51, u 52, u 53, u 54, u 55, u 56, u 57, u 58, u 59, u 60, u 61, u 62, u 63, u 64, u 65, u 66, u 67, u 68, u 69, u 70, u 71, u 72, u 73, u 74, u 75, u 76, u 77, u 78, u 79, u 80, u 81, u 82, u 83, u 84, u 85, u 86, u 87, u 88, u 89, u 90, u 91, u 92, u 93, u 94, u 95, u 96, u 97, u 98, u 99, u 100, u 101], ds⟩ /\ b5q w R T rs k W /\ Mk w.1.size ds W)
    (λa _ => ((ln rs : Int) - B8 (a.tmps.getD 16 Ba)).toNat) ?BI ?round
  case BI =>
    exact ⟨λ_ => Ba, 0, [], D, rfl, ⟨⟨Dk, Dk, (Bx.at_ rfl).alloc _, Bx.at_ AV, Qz _ _ _ _, Qz _ _ _ _⟩, hr.below (GB _ _ _), GB _ _ _⟩, Mk.nil _ _⟩
  case round =>
    rintro a W ⟨u, k, ds, hk, rfl, hJ, hM⟩;by_cases bg : k < ln rs
    . obtain ⟨b, off, rfl, hB, al⟩ := hJ.rg.2.2 D
      obtain ⟨H, E, au, bn⟩ := al k bg;obtain ⟨bU, bO, bQ⟩ := af.ring bg;obtain ⟨ring, aS⟩ : ∃ ring, rs.getD k [] = ring := ⟨_, F⟩;rw [aS] at au bn bU bO bQ;have bs := A aS;have HJ := A hJ;have HM := A hM;clear aS al hJ hM;gi_wp2_with (refine ⟨trivial, ?_⟩; gi_at_call 185; refine (De.2 (Y7 _ _ _ _)).mono ?_; rintro e w' ⟨rfl, rfl⟩)
      have aT := HJ.o.low.size;obtain ⟨X0, Y0, aa⟩ := HJ.o.ex;have cd := aa.bp.lt;obtain ⟨W1, ae⟩ : ∃ W1, (W.alloc (.cells #[M G (k : Int)] 3)).alloc (.cells #[AK H (ln ring) E] 117) = W1 := ⟨_, F⟩;have hA : Ext W W1 := by rw [<- ae]; exact GB _ _ _
      have cb : W1.1.size = W.1.size + 2 := by rw [<- ae]; simp
      have bJ : Bx W1 W.1.size 3 (M G (k : Int)) := by rw [<- ae]; exact (Bx.at_ F).alloc _
      have bI : Bx W1 (W.1.size + 1) 117 (AK H (ln ring) E) := by rw [<- ae]; exact Bx.at_ AV
      rw [ae];clear ae;have av : ∀ ag, QY ag ∈ ds -> ag < W1.1.size := λag hD => by have := HM.o.lt hD; omega
      have aN : w.1.size <= W1.1.size := D;refine VJ (gf := 248) (lb := #[Ap (Q ⟨W.1.size + 1, 0, O⟩)]) F (FZ func248 U F)
        (Y5 (W.1.size + 1) H E ring D) (λk x e => by rw [e]; rfl)
        (dh w (W.1.size + 1) W.1.size k ds H E (IZ rs k) ring) (λ_ _ _ => False) (λj r V' h hs => h.stays av hs aN) (λc j r V' h hs => h) (λj r h => Yq h.it h.sl) ?BI ?round ?done ?stop
      case stop => intro ag c j r hD v h; exact h.elim
      case BI =>
        exact ⟨⟨X0, Y0, by rw [show LH k ring 0 = [] from rfl, SK]; exact aa.ext hA⟩, bJ, bI, bn.below (hA.mono D), HM.o.keeps hA.keeps, HJ.o.low.trans (hA.mono D)⟩
      case done =>
        intro ag r hD hi f;have ao := A (hi.RV.cons av hD D f);have HI := A hi;clear hi f
        gi_wp2
        refine ⟨⟨λi => match i with | 1 => _ | 5 => _ | 6 => _ | 7 => _ | 8 => _ | 9 => _ | 10 => _ | 11 => _ | 12 => _ | 13 => _ | 17 => _ | 18 => _ | 19 => _ | 20 => _ | 21 => _ | 22 => _ | 23 => _ | 24 => _ | 25 => _ | 26 => _ | 27 => _ | 28 => _ | 29 => _ | 30 => _ | 31 => _ | 32 => _ | 33 => _ | 34 => _ | 35 => _ | 36 => _ | 37 => _ | 38 => _ | 39 => _ | 40 => _ | 41 => _ | 42 => _ | 43 => _ | 44 => _ | 45 => _ | 46 => _ | 47 => _ | 48 => _ | 49 => _ | 50 => _ | 51 => _ | 52 => _ | 53 => _ | 54 => _ | 55 => _ | 56 => _ | 57 => _ | 58 => _ | 59 => _ | 60 => _ | 61 => _ | 62 => _ | 63 => _ | 64 => _ | 65 => _ | 66 => _ | 67 => _ | 68 => _ | 69 => _ | 70 => _ | 71 => _ | 72 => _ | 73 => _ | 74 => _ | 75 => _ | 76 => _ | 77 => _ | 78 => _ | 79 => _ | 80 => _ | 81 => _ | 82 => _ | 83 => _ | 84 => _ | 85 => _ | 86 => _ | 87 => _ | 88 => _ | 89 => _ | 90 => _ | 91 => _ | 92 => _ | 93 => _ | 94 => _ | 95 => _ | 96 => _ | 97 => _ | 98 => _ | 99 => _ | 100 => _ | _ => _, k + 1, _, D, rfl, ⟨?_, hr.below HI.o.low, HI.o.low⟩, ao.o⟩, MX⟩;have e : IZ rs (k + 1) = IZ rs k ++ LH k ring (ln ring) := by rw [IZ, bs.o]
        rw [e]; exact HI.o.ex
      case round =>
        intro l j x r K v hx hi f;obtain rfl := hx;have HK := A f;have RA := A (Az.new r 201 (Dt (FK ring j) (BA ring j) (Bl ring j)));have EA := A (show Ext r (r.alloc (.cells (Dt (FK ring j) (BA ring j) (Bl ring j)).toArray 201)) from (Ad _ _).alloc (AS _) _);have b0 : W1.1.size <= r.1.size := by have := hi.it.lt; omega
        have HI := A hi;clear f hi;refine wpIn_seq ?_;refine VG (NR _ _) U ?_;go_wp2;refine Tx ?_;show Code.wpIn _ _ _ _ _ _ _;refine VG (NR _ _) U ?_;go_wp2_with (refine C7 rfl 201 (.tmp 8) (.tmp 24) rfl r.1.size (Dt (FK ring j) (BA ring j) (Bl ring j)).toArray rfl rfl 201 _ (Bq _ _) U U U ?_; rw [OE _ _ _ _ rfl])
        refine Tx (HK.o _ _ EA.o (λW2 ax b8 => ?_));have am := (HI.o.stays av (EA.o.stays b0) aN).stays av ax aN;have R2 : Az W2 r.1.size 201 (Dt (FK ring j) (BA ring j) (Bl ring j)) := ax.cells _ _ _ _ RA.o;clear HK HI EA RA ax;obtain ⟨Ag, aw⟩ : ∃ o, BA ring j = o := ⟨_, F⟩;obtain ⟨s, ar⟩ : ∃ o, Bl ring j = o := ⟨_, F⟩;obtain ⟨ac, aF⟩ : ∃ o, FK ring j = o := ⟨_, F⟩;have aX := A (show Ia ring j = ⟨min Ag.x s.x, min Ag.y s.y, max Ag.x s.x, max Ag.y s.y⟩ by unfold Ia; rw [aw, ar]);rw [aw, ar, aF] at R2;rw [aw, ar, aF];clear aw ar aF;obtain ⟨bx, aG⟩ : ∃ bx : Gd, (⟨min Ag.x s.x, min Ag.y s.y, max Ag.x s.x, max Ag.y s.y⟩ : Gd) = bx := ⟨_, F⟩;rw [aG] at aX;have aC := λW => a56 ac Ag s W
        simp only [aG] at aC;have bq := A aC;clear aG aC;obtain ⟨X, Y, aj⟩ := am.ex;have a5 : OC w.1.size (W.1.size + 1) W.1.size r.1.size k j H E ring w.1.size W2 W2 (IZ rs k ++ LH k ring j) (Dt ac Ag s) (Jk bx) X Y (λ_ => AM) (λi => match i with | 0 => u 25 | 1 => u 26 | 2 => u 27 | 3 => u 28 | 4 => u 29 | 5 => u 30 | 6 => u 31 | 7 => u 32 | 8 => u 33 | 9 => u 34 | _ => u 35) W2.drew :=
          ⟨aj.ba.drew, aj.bp.drew, am.r.drew, am.it.drew, R2.drew, (Ad _ _).drew, (Ext.dr W2).keeps, (λ_ _ h => Aq), (λh => Aq), (λh => Aq), EV aj.a (Ext.dr W2), EV aj.p (Ext.dr W2)⟩
        have bR : (IZ rs k ++ LH k ring j).length <= 1000000 := by
          rw [FN, a6H, qq rs k D];have := U2 rs k;have := af.len;omega
        have aB := A am;have a0 := A a5;clear aj am a5 R2;obtain ⟨y, aM⟩ : ∃ y, IZ rs k ++ LH k ring j = y := ⟨_, F⟩;rw [aM] at a0 bR;have br := A aM;clear aM;obtain ⟨ib, a9, ba, bb, ak⟩ := DM a7w;obtain ⟨ip, bj, EZ, Ge, bl⟩ := DM a4l;have bz := A a9;have bA := A ba;have bB := A bb;have bC := A ak;have bD := A bj;have bE := A EZ;have bF := A Ge;have bG := A bl;clear a9 ba bb ak bj EZ Ge bl
        gi_wp2
        refine Ui U (a1F (NR _ _) U 11 (λC => ⟨#[AK (Q ⟨b, off, O⟩) (ln rs) T, u 1, AU AM, Ap (Q ⟨w.1.size, 0, O⟩), Ap (Q ⟨w.1.size + 1, 0, O⟩), Ap (Q ⟨W.1.size, 0, O⟩), AK H (ln ring) E, M G (j : Int), Ap (Q ⟨r.1.size, 0, O⟩), u 9, u 10, u 11, u 12, u 13, AK (Q ⟨b, off, O⟩) (ln rs) T, M G (ln rs : Int), M G (k : Int), AU AL, M G (k : Int), Ap (Q ⟨b, off + k, O⟩), AK H (ln ring) E, AK H (ln ring) E, .func (.func 248) #[] #[Ap (Q ⟨W.1.size + 1, 0, O⟩)], M G (j : Int), AW (Dt ac Ag s).toArray, C 0, C 1, C 2, C 3, C 4, C 5, C 6, C 7, C 8, C 9, C 10, u 36, u 37, u 38, u 39, u 40, u 41, u 42, u 43, u 44, u 45, u 46, u 47, u 48, u 49, u 50, u 51, u 52, u 53, u 54, u 55, u 56, u 57, u 58, u 59, u 60, u 61, u 62, u 63, u 64, u 65, u 66, u 67, u 68, u 69, u 70, u 71, u 72, u 73, u 74, u 75, u 76, u 77, u 78, u 79, u 80, u 81, u 82, u 83, u 84, u 85, u 86, u 87, u 88, u 89, u 90, u 91, u 92, u 93, u 94, u 95, u 96, u 97, u 98, u 99, u 100, u 101], []⟩)
          (OC w.1.size (W.1.size + 1) W.1.size r.1.size k j H E ring w.1.size W2 W2 y (Dt ac Ag s) (Jk bx) X Y) U ?step ?tail (λi => match i with | 0 => u 25 | 1 => u 26 | 2 => u 27 | 3 => u 28 | 4 => u 29 | 5 => u 30 | 6 => u 31 | 7 => u 32 | 8 => u 33 | 9 => u 34 | _ => u 35) _ a0.o)
        case tail =>
          intro L C w3 hL d;have a4 := hL 4 Z;have a3 := hL 10 Z;have t := d.a;have hp := d.p;rw [a4] at t;rw [a3] at hp;simp only [SO] at t hp;have ca := d.ba.cell;have fa := d.ba.frozen;have cp := d.bp.cell;have fp := d.bp.frozen;have HG := A d;obtain ⟨A4, n4, q4, e4⟩ := NT t;obtain ⟨ay, aU, aV, bH⟩ := NT hp;rw [e4] at t;rw [bH] at hp;have HA := A t;have HP := A hp;clear d t hp hL a4 a3;simp only [FV, FY]
          gi_wp2
          have bf : At w.1.size W2 w3 := HG.o.low;have cc := bf.size;have e1 : IZ rs k ++ LH k ring (j + 1) = y ++ [(k, j, Ia ring j)] := by rw [a3y, <- No, br.o]
          have e2 : (Qp (y ++ [(k, j, Ia ring j)])).flatten = (Qp y).flatten ++ Jk bx := by
            unfold Qp; rw [PU, QB, List.map_singleton, aX.o]; rfl
          have e3 : (Qq (y ++ [(k, j, Ia ring j)])).flatten = (Qq y).flatten ++ O8 k j := by
            unfold Qq; rw [PU, QB, List.map_singleton]; rfl
          have be := HG.o.keep.trans ((Gq w3 ⟨w.1.size, 0, O⟩ (AK A4 n4 q4)).trans (Gq _ ⟨w.1.size + 1, 0, O⟩ (AK ay aU aV)));have ak : At w.1.size W2 ((w3.setCell ⟨w.1.size, 0, O⟩ (AK A4 n4 q4)).setCell ⟨w.1.size + 1, 0, O⟩ (AK ay aU aV)) := (bf.setCell (p := ⟨w.1.size, 0, O⟩) (AS _) _).setCell (p := ⟨w.1.size + 1, 0, O⟩) AV _;refine ⟨be, ⟨AK A4 n4 q4, AK ay aU aV, ?_⟩, (HG.o.r.Bo Gh _).Bo Gh _, (HG.o.it.Bo Gh _).Bo Gh _, aB.o.sl.below ak, aB.o.RV.keeps be, aB.o.low.trans ak⟩;rw [e1];refine ⟨(HG.o.ba.put _).Bo AV _, (HG.o.bp.Bo AV _).put _, ?_, ?_⟩
          . rw [e2, FN]
            exact Jo (Jo HA.o (λh => by have := (DS HA.o _ h).1; dsimp only at this; omega) _) (λh => by have := (DS HA.o _ h).1; dsimp only at this; omega) _
          rw [e3, FN]
          exact Jo (Jo HP.o (λh => by have := (DS HP.o _ h).1; dsimp only at this; omega) _) (λh => by have := (DS HP.o _ h).1; dsimp only at this; omega) _
        case step =>
          intro i L C w3 hi ad d hd;have c0 := d.ba.cell;have c5 := d.bp.cell;have c6 := d.r.cell;rcases (show i = 0 \/ i = 1 \/ i = 2 \/ i = 3 \/ i = 4 \/ i = 5 \/ i = 6 \/ i = 7 \/ i = 8 \/ i = 9 \/ i = 10 by omega) with rfl | rfl | rfl | rfl | rfl | rfl | rfl | rfl | rfl | rfl | rfl <;> clear hi
          . refine DC F (λK f => ?_)
            go_simp;exact f _ _ ⟨X, F, d.step (Ext.B9 _) (AS _) Z Z (λ_ _ => rfl) (λh => Aq) (λh => Aq)⟩
          . refine YB F F ?_
            exact NA 201 (.tmp 8) F r.1.size F 201 (Dt ac Ag s).toArray (0, 0) _ d.de underlying201 F U ⟨AW (Dt ac Ag s).toArray, F, d.step (Ext.B9 _) (AS _) Z Z (λ_ _ => rfl) (λh => Aq) (λh => Aq)⟩
          . refine DC F (λK f => ?_)
            have d1 : C 1 =AW (Dt ac Ag s).toArray := d.v 1 Z (hd 1 U) Z Z Z Z;go_simp;refine (bq.o _).mono ?_;rintro e W4 ⟨rfl, hX⟩;exact f _ _ ⟨AW (Jk bx).toArray, by simp [d1, B7], d.step hX (AS _) Z Z (λ_ _ => rfl) (λh => Aq) (λh => Aq)⟩
          . refine DC F (λK f => ?_)
            have d2 : C 2 =AW (Jk bx).toArray := d.v 2 Z (hd 2 U) Z Z Z Z;go_simp;exact f _ _ ⟨_, by simp [d2, B7], d.step ((Ad _ _).alloc (AS _) _) (AS _) Z Z (λh => absurd rfl h) (λ_ => ⟨_, rfl, Az.new _ _ _⟩) (λh => Aq)⟩
          . refine YB F F ?_
            have d0 : C 0 = X := d.v 0 Z (hd 0 U) Z Z Z Z;obtain ⟨g, e3, bW⟩ := d.s3 (hd 3 U) ad;have t := d.a;rw [ad] at t;simp only [Af (by decide : ¬ AM = AL)] at t;refine wp_append_own _ (.tmp 25) (.tmp 28) 207 F (w.1.size + 2) 210 ib _ 4 32 underlying207 bz.o bA.o bB.o bC.o F D X (ln y) (Qp y).flatten d0 t ⟨g, 0, O⟩ 1 1 (Jk bx) e3 BE (λj u v => by rw [OV, IU, bW.cell]; exact v) (by simp [Ks]) (by unfold BM; omega) D d.sz ?_;intro v' w' aQ aK _;exact ⟨v', F, d.b4R (AS _) ad aQ aK⟩
          . refine DC F (λK f => ?_)
            go_simp;exact f _ _ ⟨Y, F, d.step (Ext.B9 _) (AS _) Z Z (λ_ _ => rfl) (λh => Aq) (λh => Aq)⟩
          . refine DC F (λK f => ?_)
            go_simp;exact f _ _ ⟨M G (k : Int), F, d.step (Ext.B9 _) (AS _) Z Z (λ_ _ => rfl) (λh => Aq) (λh => Aq)⟩
          . refine DC F (λK f => ?_)
            go_simp;exact f _ _ ⟨M G (j : Int), F, d.step (Ext.B9 _) (AS _) Z Z (λ_ _ => rfl) (λh => Aq) (λh => Aq)⟩
          . refine DC F (λK f => ?_)
            have d6 : C 6 =M G (k : Int) := d.v 6 Z (hd 6 U) Z Z Z Z;have d7 : C 7 =M G (j : Int) := d.v 7 Z (hd 7 U) Z Z Z Z;go_simp;exact f _ _ ⟨AW (O8 k j).toArray, by simp [d6, d7, B7], d.step (Ext.B9 _) (AS _) Z Z (λ_ _ => rfl) (λh => Aq) (λh => Aq)⟩
          . refine DC F (λK f => ?_)
            have d8 : C 8 =AW (O8 k j).toArray := d.v 8 Z (hd 8 U) Z Z Z Z;go_simp;exact f _ _ ⟨_, by simp [d8, B7], d.step ((Ad _ _).alloc (AS _) _) (AS _) Z Z (λ_ h => absurd rfl h) (λh => Aq) (λ_ => ⟨_, rfl, Az.new _ _ _⟩)⟩
          refine YB F F ?_
          have d5 : C 5 = Y := d.v 5 Z (hd 5 U) Z Z Z Z;obtain ⟨g, e9, bX⟩ := d.s9 (hd 9 U) ad;have t := d.p;rw [ad] at t;simp only [Af (by decide : ¬ AM = AL)] at t;refine wp_append_own _ (.tmp 30) (.tmp 34) 208 F (w.1.size + 2) 213 ip _ 2 16 underlying208 bD.o bE.o bF.o bG.o F D Y (ln y) (Qq y).flatten d5 t ⟨g, 0, O⟩ 1 1 (O8 k j) e9 BE (λj' u v => by rw [OV, IU, bX.cell]; exact v) (by simp [Ks]) (by unfold BM; omega) D d.sz ?_;intro v' w' aQ aK _;exact ⟨v', F, d.b2Z (AS _) ad aQ aK⟩
    obtain rfl : k = ln rs := by omega
    have b7 : AQ ((ln rs : Int) < (ln rs : Int)) = AM := by rw [CX]; omega
    obtain ⟨X, Y, aa⟩ := hJ.ex;obtain ⟨L, hL⟩ : ∃ L, IZ rs (ln rs) = L := ⟨_, F⟩;rw [hL] at aa;have bh : ∀ x ∈ L, x.1 < ln rs /\ x.2.1 < (rs.getD x.1 []).length := λx hx => a8i (AS _) (by rw [hL]; exact hx)
    have b6 : ln L <= 24 := by
      rw [<- hL, qq rs _ (AS _), Nk]; exact af.len
    have aY := A (show OF rs = Cm (λi => Cm (λk => Pf rs (L.getD i IQ) (L.getD k IQ)) i) (ln L) by unfold OF; rw [hL]);clear hL;obtain ⟨AX, cX, rfl, ap⟩ := F1 aa.a (by rw [BL]) (b1y _);obtain ⟨AY, cY, rfl, aq⟩ := F1 aa.p (by rw [BL]) (b0T _);have bK := ap.1;have ai := ap.2.1;have bL := aq.1;have bM := aq.2.1;rw [BL] at bK bL;unfold BM at ai bM;have b3 := aa.ba.cell;have HB := A aa;have bt := A ap;have bu := A aq;have a1 := A bh;have HJ := A hJ;have HM := A hM;clear aa ap aq bh hJ hM
    gi_wp2
    refine wpIn_wide.2 ?_;go_loopw [39] (λi wr => ∃ m : Nat, m <= ln L /\ i =M G (m : Int) /\ Ext W wr /\ ∀ j, j < m -> Cm (λk => Pf rs (L.getD j IQ) (L.getD k IQ)) j = AM) (λi _ => ((ln L : Int) - B8 i).toNat)
    case atStart => exact ⟨0, D, rfl, Ad _ _, λj v => D⟩
    case round =>
      obtain ⟨m, hm, rfl, hx, a7⟩ := hrel;have HX := A hx;have HA := A a7;clear hx a7;have aT := HJ.o.low.size;by_cases z : m < ln L
      . have bm : 0 < ln L := by omega
        go_wp2;go_loopw [43] (λq b1 => ∃ k : Nat, k <= m /\ q =M G (k : Int) /\ Ext W b1 /\ ∀ j, j < k -> Pf rs (L.getD m IQ) (L.getD j IQ) = AM) (λq _ => ((m : Int) - B8 q).toNat)
        case atStart => exact ⟨0, D, rfl, HX.o, λj v => D⟩
        case round =>
          obtain ⟨k, hk, rfl, bo, a8⟩ := hrel;have P := A bo;have aW := A a8;clear bo a8;by_cases bS : k < m
          . obtain ⟨I, oX, rfl, bc, aH⟩ := bt.o.2.2 (by rw [BL]; exact bm)
            obtain ⟨bY, oY, rfl, bN, aI⟩ := bu.o.2.2 (by rw [BL]; exact bm);rw [BL] at aH aI;have J : k < ln L := D;obtain ⟨⟨B, si, bi⟩, hi⟩ : ∃ x, L.getD m IQ = x := ⟨_, F⟩;obtain ⟨⟨rk, sk, bk⟩, an⟩ : ∃ x, L.getD k IQ = x := ⟨_, F⟩;have aO := a1.o (L.getD m IQ) (by rw [CM, Bv z]; exact Ey z);have ao := a1.o (L.getD k IQ) (by rw [CM, Bv J]; exact Ey J);rw [hi] at aO;rw [an] at ao;dsimp only at aO ao;obtain ⟨aR, bZ⟩ := aO;obtain ⟨bV, ax⟩ := ao;have bP := (af.ring aR).2.2;have b5 := (af.ring bV).2.2;obtain ⟨b, off, rfl, hB, al⟩ := hr.2.2 D;obtain ⟨H, E, au, _⟩ := al B aR;have bd : wr.cell? ⟨b, off + B, O⟩ = Q (AK H (rs.getD B []).length E) := (P.o.cell (p := ⟨b, off + B, O⟩) (by show b < W.1.size; omega)).trans ((HJ.o.low.cell (p := ⟨b, off + B, O⟩) hB).trans au);have HH := A (show Pf rs (L.getD m IQ) (L.getD k IQ) = (!(B == rk && ((si : Int) - sk == 1 || (si : Int) - sk == ((rs.getD B []).length : Int) - 1)) && Jq bi bk) by rw [hi, an]; rfl);obtain ⟨n, hn⟩ : ∃ n, (rs.getD B []).length = n := ⟨_, F⟩;rw [hn] at bP bZ bd HH;have S := A (λi (hi : i < ln L) j (v : j < 4) => (P.o.cell (p := ⟨I, oX + 4 * i + j, O⟩) bc).trans (aH i hi j v));have ah := A (λi (hi : i < ln L) j (v : j < 2) => (P.o.cell (p := ⟨bY, oY + 2 * i + j, O⟩) bN).trans (aI i hi j v));have y0 := ah.o m z 0 Z;have y1 := ah.o m z 1 Z;have y2 := ah.o k J 0 Z;have y3 := ah.o k J 1 Z;rw [oK z, hi] at y0 y1;rw [oK J, an] at y2 y3;rw [Dh, DL] at y0 y2;rw [DL] at y1 y3;have x0 := S.o m z 0 Z;have x1 := S.o m z 1 Z;have x2 := S.o m z 2 Z;have x3 := S.o m z 3 Z;have x4 := S.o k J 0 Z;have x5 := S.o k J 1 Z;have x6 := S.o k J 2 Z;have x7 := S.o k J 3 Z;rw [gB z, hi] at x0 x1 x2 x3;rw [gB J, an] at x4 x5 x6 x7;rw [Dh, DL] at x0 x4;rw [DL] at x1 x2 x3 x5 x6 x7;dsimp only [Jk, O8] at x0 x1 x2 x3 x4 x5 x6 x7 y0 y1 y2 y3;have cp := (HB.o.bp.stays (P.o.stays (n0 := 0) (D8 _))).cell;have ca := (HB.o.ba.stays (P.o.stays (n0 := 0) (D8 _))).cell;have b9 : B < ln rs := aR;clear al au aH aI hi an hn S ah;have az := A (λW => a4M bi bk W);obtain ⟨mt, aP⟩ : ∃ mt, Jq bi bk = mt := ⟨_, F⟩;simp only [aP] at az;rw [aP] at HH;clear aP;obtain ⟨e1, aJ⟩ : ∃ e1, (B == rk) = e1 := ⟨_, F⟩;have t1 : ((B : Int) == (rk : Int)) = e1 := by rw [<- aJ, JM]; simp only [C9]; omega
            obtain ⟨e2, t2⟩ : ∃ e2, ((si : Int) - (sk : Int) == 1) = e2 := ⟨_, F⟩;obtain ⟨e3, t3⟩ : ∃ e3, ((si : Int) - (sk : Int) == (n : Int) - 1) = e3 := ⟨_, F⟩;rw [aJ, t2, t3] at HH;clear aJ;have aZ := A (λ(h : Pf rs (L.getD m IQ) (L.getD k IQ) = AM) => (show ∀ j, j < k + 1 -> Pf rs (L.getD m IQ) (L.getD j IQ) = AM fromλj v => by
              by_cases aL : j = k
              . rw [aL]; exact h
              exact aW.o j D))
            have bw := A (λ(h : Pf rs (L.getD m IQ) (L.getD k IQ) = AL) => (show OF rs = AL by
              rw [aY.o]; exact J5 z (J5 bS h)))
            have w1 : G.wrap ((si : Int) - (sk : Int)) = (si : Int) - (sk : Int) := DF _ D;have w2 : G.wrap ((n : Int) - 1) = (n : Int) - 1 := DF _ D;cases e1 <;> cases e2 <;> cases e3
            all_goals
              go_wp2;go_quiet (fail)
              go_wp2;go_quiet (fail)
              go_wp2
            all_goals first
              | (have HZ := A (show Pf rs (L.getD m IQ) (L.getD k IQ) = mt by rw [HH.o]; rfl)
                 refine On 11 U U (λW2 a6 => ?_);have N : Ext wr W2 := a5i a6;have ai := P.o.tr N;have a2 := A ai;have b2 := (HB.o.ba.stays (ai.stays (n0 := 0) (D8 _))).cell;have ab : I < wr.1.size := Dj bc P.o.size;have z0 := (N.cell (p := ⟨I, oX + m * 4, O⟩) ab).trans x0;have z1 := (N.cell (p := ⟨I, oX + m * 4 + 1, O⟩) ab).trans x1;have z2 := (N.cell (p := ⟨I, oX + m * 4 + 2, O⟩) ab).trans x2;have z3 := (N.cell (p := ⟨I, oX + m * 4 + 3, O⟩) ab).trans x3;have z4 := (N.cell (p := ⟨I, oX + k * 4, O⟩) ab).trans x4;have z5 := (N.cell (p := ⟨I, oX + k * 4 + 1, O⟩) ab).trans x5;have z6 := (N.cell (p := ⟨I, oX + k * 4 + 2, O⟩) ab).trans x6;have z7 := (N.cell (p := ⟨I, oX + k * 4 + 3, O⟩) ab).trans x7;clear N ai a6 x0 x1 x2 x3 x4 x5 x6 x7 y0 y1 y2 y3 cp ca bd;simp only [S7, RC, FV, FY]
                 repeat still_step
                 refine TM ?_;cases mt
                 . have aA := A (aZ.o HZ.o)
                   go_wp2_with (go_at_call 190; refine (az.o _).mono ?_; rintro e W5 ⟨rfl, aE⟩)
                   exact ⟨⟨k + 1, D, AV, a2.o.tr aE, aA.o⟩, MX⟩
                 have bv := A (bw.o HZ.o)
                 go_wp2_with (go_at_call 190; refine (az.o _).mono ?_; rintro e W5 ⟨rfl, aE⟩)
                 have bp := a2.o.tr aE;refine (HM.o.keeps bp.keeps).leaves (λW' aD => ?_);exact ⟨AU AL, by simp [results, results117, go_sem], by rw [bv.o], (HJ.o.low.trans (bp.mono aT)).trans aD.below⟩)
              | (have aA := A (aZ.o (by rw [HH.o]; rfl))
                 go_quiet (fail)
                 go_wp2;exact ⟨⟨k + 1, D, AV, below_drewN P.o _, aA.o⟩, MX⟩)
          obtain rfl : k = m := by omega
          have bT : AQ ((k : Int) < (k : Int)) = AM := by rw [CX]; omega
          go_wp2;refine ⟨⟨k + 1, D, AV, P.o, λj v => ?_⟩, MX⟩;by_cases aL : j = k
          . rw [aL]; exact Hy aW.o
          exact HA.o j D
      obtain rfl : m = ln L := by omega
      have bT : AQ ((ln L : Int) < (ln L : Int)) = AM := by rw [CX]; omega
      have HE := A (show OF rs = AM by rw [aY.o]; exact Hy HA.o);go_wp2
      gi_wp2
      refine (HM.o.keeps HX.o.keeps).leaves (λW' aD => ?_);exact ⟨AU AM, by simp [results, results117, go_sem], by rw [HE.o], (HJ.o.low.trans (HX.o.mono aT)).trans aD.below⟩
end
section
open Kp
theorem fk(l:List α)(d:α)(p:α->Bool):Cm (λi=>p (l.getD i d)) (ln l)=l.any p:=by
 rw[JM,a8Z,QD];constructor
 .rintro⟨i,hi,a⟩;refine⟨l[i],Ey hi,?_⟩;rwa[CM,Bv hi] at a
 rintro⟨x,hx,a⟩;obtain⟨i,hi,rfl⟩:=JJ.1 hx;exact⟨i,hi,by rw[CM,Bv hi];exact a⟩
def a2y(s:Sd)(w:V):AZ AO 112 #[AW (FA s).toArray] w λe w'=>e=Ac (AU (!Dn s))/\Ext w w':=by
 have b:=A (show Ext w (w.alloc (.cells (FA s).toArray 40)) from(Ad _ _).alloc (AS _) _);have c:=A (λW=>a2B s W);have⟨r,a⟩:=AP (Dn s);simp only[a] at c⊢;clear a;go_enter func112,ntmps112;go_wp2_with(go_at_call 113;refine(c _).q λW1 d=>?_)
 go_ret;exact⟨F,b.tr d⟩
def a2J(w:V)(R:Option An)(T:Nat)(r:List Sd)(f:BB 7 w w.1.size R T (Cg r))(d:Pm r)(hn:ln r<=1000):
  AZ AO 115 #[AK R (ln r) T] w λe w'=>e=Ac (AU (!Gt r))/\Ext w w':=by
 have c:=A (a2q w R T r f d hn);have⟨b,a⟩:=AP (Gt r);have⟨n,hn⟩:=AP (ln r);rw[a,hn] at c;rw[a,hn];clear a hn f d;go_enter func115,ntmps115;go_wp2_with(go_at_call 116;refine c.q λW1 g=>?_)
 go_ret;exact⟨F,g⟩
noncomputable def Ou(w:V)(b off n:Nat):List (List AN):=(G8 n).map λi=>[(w.cell? ⟨b,off+i,O⟩).getD Ba]
theorem oQ{b off n i:Nat}(hi:i<n):(Ou w b off n).getD i []=[(w.cell? ⟨b,off+i,O⟩).getD Ba]:=by
 unfold Ou;simp[Gs,hi]
def b2G(w:V)(b off n:Nat):DG 1 (Ou w b off n):=G9 (f:=λi=>[(w.cell? ⟨b,off+i,O⟩).getD Ba]) (λ_=>rfl) _
theorem Ew.rows{B b off T:Nat}{rs:List (List Sd)}(h:Ew w B (Q ⟨b,off,O⟩) T rs)(n:0<ln rs):BB 1 w B (Q ⟨b,off,O⟩) T (Ou w b off (ln rs)):=by
 obtain⟨h1,h2,g⟩:=h;have a:(Ou w b off (ln rs)).length=ln rs:=by unfold Ou;simp
 refine⟨by rw[a];exact h1,h2,λ_=> ?_⟩;have⟨c,o,e,l,m⟩:=g n;obtain⟨rfl,rfl⟩:b=c/\off=o:=by injection e with e;injection e with d f;exact⟨d,f⟩
 refine⟨b,off,F,l,λi hi j q=> ?_⟩;obtain rfl:j=0:=D;rw[a] at hi;have⟨H,E,k,_⟩:=m i hi;rw[oQ hi,H7,Dh,k];rfl
theorem b0z{b off T:Nat}{rs:List (List Sd)}(h:Ew w w.1.size (Q ⟨b,off,O⟩) T rs)(o:0<ln rs)(k:∀r∈rs,Pm r)(t:ln rs.flatten<=24):
  Ux 115 #[] 1 (Ou w b off (ln rs)) (λi=> !Gt (rs.getD i [])) w:=by
 intro W i hi hx;have m:(Ou w b off (ln rs)).length=ln rs:=by unfold Ou;simp
 rw[m] at hi;have⟨a,q,e,s,j⟩:=h.2.2 o;obtain⟨rfl,rfl⟩:b=a/\off=q:=by injection e with e;injection e with c d;exact⟨c,d⟩
 have⟨H,E,f,g⟩:=j i hi;have e:rs.getD i []=rs[i]:=by rw[CM,Bv hi];rfl
 have l:Pm (rs.getD i []):=by rw[e];exact k _ (Ey hi)
 have n:(rs.getD i []).length<=1000:=by
  rw[e];exact BJ (WZ (Ey hi)).length_le D
 rw[oQ hi,f];exact a2J W H E _ ((g.below hx).more hx.size) l n
def b1N(l:List Sd)(w:V):Ux 112 #[] 7 (Cg l) (λi=> !Dn (l.getD i T8)) w:=by
 intro W i hi hx;rw[BL] at hi;rw[VX hi];exact a2y _ W
def b5a(rs:List (List Sd))(s i:AN):Prop:=∃k:Nat,k<=ln rs/\i=M G (k:Int)/\s=M G ((rs.take k).flatten.length:Int)/\∀j,j<k->rs.getD j []≠[]
def nG(w:V)(R:Option An)(T:Nat)(rs:List (List Sd))(v:Ew w w.1.size R T rs)(aB:ln rs.flatten<=4000000000):
  AZ AO 64 #[AW #[AK R (ln rs) T]] w λe w'=>e=Ac (M G (Fe rs))/\Ext w w':=by
 have h1:=v.1;have h2:=v.2.1;unfold BM at h2;have t:=A (show Ext w (w.alloc (.cells #[AK R (ln rs) T] 24)) from(Ad _ _).alloc (AS _) _);have g:=A (Bx.new w 24 (AK R (ln rs) T));have Z0:=A (show w.1.size<(w.alloc (.cells #[AK R (ln rs) T] 24)).1.size by simp);have HR:=A ((v.below t).more (B':=(w.alloc (.cells #[AK R (ln rs) T] 24)).1.size) AV);clear v;go_enter func64,ntmps64;go_wp2;have⟨a,ay⟩:=AP (w.alloc (.cells #[AK R (ln rs) T] 24));simp only[ay] at t g Z0 HR⊢;clear ay;have c0:=g.cell
 go_loop [3,9] (λs i=>b5a rs s i) (λ_ i=>((ln rs:Int)-B8 i).toNat)
 case atStart=>exact⟨0,D,rfl,AV,λj hj=>D⟩
 obtain⟨k,hk,rfl,rfl,av⟩:=hrel;have HA:=A av;clear av;by_cases ad:k<ln rs
 .obtain⟨b,off,rfl,hB,hcell⟩:=HR.2.2 D;have⟨H,E,c1,aG⟩:=hcell k ad;have hq:=Tz ad;have aD:=U2 rs (k+1);have ak:((rs.take (k+1)).flatten.length:Int)=((rs.take k).flatten.length:Int)+((rs.getD k []).length:Int):=by rw[hq];simp
  have⟨m,hm⟩:=AP ((rs.take k).flatten.length);have⟨d,hd⟩:=AP ((rs.getD k []).length);rw[hd] at c1;have hs:m+d<=4000000000:=by rw[hm,hd] at ak;omega
  rw[hm];have HQ:=A ak;have q:=A hm;have HD:=A hd;clear hcell aG hq ak hm hd aD;by_cases h0:d=0
  .have tz:((d:Int)==0)=AL:=by rw[h0];rfl
   have f:=A (show Fe rs=5 by
    have:rs.any (·.isEmpty)=AL:=by
     rw[QD];refine⟨rs[k],Ey ad,?_⟩;have hz:=HD.o;rw[h0,CM,Bv ad] at hz;rw[eH];exact Jf.1 hz
    unfold Fe;rw[this];rfl)
   clear h0;go_wp2;go_ret;exact⟨Kw,t⟩
  have tz:((d:Int)==0)=AM:=Hi;have HN:=A (show rs.getD k []≠[] by intro e;have hz:=HD.o;rw[e] at hz;exact h0 hz.symm);clear h0;go_wp2
  go_round
  case rel=>exact⟨k+1,D,by go_num,by rw[HQ.o,q.o,HD.o],λj hj=>by
   by_cases aC:j=k
   .rw[aC];exact HN
   exact HA j D⟩
  simp[B8];omega
 obtain rfl:k=ln rs:=D;have ht:(rs.take (ln rs)).flatten.length=ln rs.flatten:=by rw[Nk]
 rw[ht];clear ht;have ae:∀r∈rs,r≠[]:=by
  intro r v;obtain⟨i,hi,rfl⟩:=JJ.1 v;have:=HA i hi;rwa[CM,Bv hi] at this
 have aw:rs.any (·.isEmpty)=AM:=by
  rw[Wr];intro r v;simpa[eH] using ae r v
 have ao:=A aw;clear aw HA;have⟨m,hm⟩:=AP (ln rs.flatten);rw[hm] at aB⊢;have q:=A hm;clear hm;by_cases K:rs=[]
 .have hm0:m=0:=by rw[<-q.o,K];rfl
  have tz:((m:Int)==0)=AL:=by rw[hm0];rfl
  have f:=A (show Fe rs=5 by unfold Fe;rw[K];rfl);clear K hm0;go_wp2;go_ret;exact⟨Kw,t⟩
 have aj:0<ln rs:=MW.2 K;have aI:0<m:=by
  rw[<-q.o];have⟨r,l,e⟩:=List.exists_cons_of_ne_nil K;have:=MW.2 (ae r (by rw[e];simp));rw[e,Wi,FN];omega
 have tz:((m:Int)==0)=AM:=Hi;have aq:=A ae;have ar:=A (show rs.isEmpty=AM by simpa[eH] using K);clear ae K;by_cases au:24<m
 .have f:=A (show Fe rs=4 by unfold Fe;rw[ao.o,ar.o,q.o,Af Z,Aj au]);go_wp2;go_ret;exact⟨Kw,t⟩
 have f:=A (show Fe rs=if rs.flatten.any (λs=> !Dn s) then 2 else if rs.any (λr=> !Gt r) then 14 else if OF rs then 15 else if !Na rs|| !Ot rs then 14 else 0 by
  unfold Fe;rw[ao.o,ar.o,q.o,Af Z,Af au])
 obtain⟨b,off,rfl,hB,_⟩:=id (HR.2.2 aj);have ab:=A (λ(W:V) (h:Ext a W)=>((HR.below h).more h.size:Ew W W.1.size (Q ⟨b,off,O⟩) T rs));have k1:=A (vU a (Q ⟨b,off,O⟩) T rs HR aq (by rw[q.o];omega));have aE:=A (show(Cg rs.flatten).length=m by rw[BL,q.o]);have k2:=A (λ(W:V) (C:Option An) (F:Nat) (h:BB 7 W W.1.size C F (Cg rs.flatten))=>
  (a1E W C F m (Cg rs.flatten) aE h (JW _) (λi=> !Dn (rs.flatten.getD i T8)) 112 #[] (FZ func112 U rfl) (b1N _ W)))
 have P:Cm (λi=> !Dn (rs.flatten.getD i T8)) m=rs.flatten.any (λs=> !Dn s):=by rw[<-q.o];exact fk rs.flatten T8 (λs=> !Dn s)
 rw[q.o] at k1;cases B:rs.flatten.any (λs=> !Dn s)
 case true=>
  have u:=A (show Fe rs=2 by rw[f.o,B];rfl);rw[B] at P;simp only[P] at k2;clear P B;go_wp2_with(first
   |(go_at_call 110;refine(k2 _ _ _ y).q λW2 z=>?_)
   |(go_at_call 111;refine k1.mono ?_;rintro e W1 ⟨C,F,rfl,n,az⟩;have y:=A n;clear n))
  go_ret;exact⟨Kv,(t.tr az).tr z⟩
 rw[B] at P;simp only[P] at k2;have ah:∀r∈rs,Pm r:=by
  intro r v s hs;rw[Wr] at B;have:=B s (S8.2 ⟨r,v,hs⟩);simp only[Wm,Bool.not_eq_false'] at this;unfold Dn at this;simp only[Ez,N,Cx] at this;exact⟨this.1.1.1.2,this.1.1.2⟩
 have ap:=A (show Fe rs=if rs.any (λr=> !Gt r) then 14 else if OF rs then 15 else if !Na rs|| !Ot rs then 14 else 0 by rw[f.o,B];rfl);clear P B;have ai:ln rs.flatten<=24:=by rw[q.o];omega
 have ax:SV rs:=⟨aq,ah,ai⟩;have af:=A ax;have aF:=A (λW=>show(Ou W b off (ln rs)).length=ln rs by unfold Ou;simp);have Y:=A (λ(W:V) (h:Ext a W)=>
  (a0u W (Q ⟨b,off,O⟩) T (ln rs) (Ou W b off (ln rs)) (aF W) ((ab W h).rows aj) (b2G _ _ _ _) (λi=> !Gt (rs.getD i [])) 115 #[] (FZ func115 U rfl) (b0z (ab W h) aj ah ai)))
 have S:Cm (λi=> !Gt (rs.getD i [])) (ln rs)=rs.any (λr=> !Gt r):=fk rs [] (λr=> !Gt r);clear ah ax ai;cases t2:rs.any (λr=> !Gt r)
 case true=>
  have u:=A (show Fe rs=14 by rw[ap.o,t2];rfl);rw[t2] at S;simp only[S] at Y;clear S t2;go_wp2_with(first
   |(go_at_call 114;refine(Y _ c).q λJ I=>?_;have o:Ext a J:=c.tr I)
   |(go_at_call 110;refine(k2 _ _ _ y).q λW2 z=>?_;have c:Ext a W2:=L.tr z;have c2:=(g.stays (c.stays (n0:=0) (D8 _))).cell)
   |(go_at_call 111;refine k1.mono ?_;rintro e W1 ⟨C,F,rfl,n,L⟩;have y:=A n;clear n))
  go_ret;exact⟨Kv,t.tr o⟩
 rw[t2] at S;simp only[S] at Y;have ac:=A (show Fe rs=if OF rs then 15 else if !Na rs|| !Ot rs then 14 else 0 by rw[ap.o,t2];rfl);clear S t2;have k4:=A (λ(W:V) (h:Ext a W)=>a0w W (Q ⟨b,off,O⟩) T rs (ab W h) af);have k5:=A (λ(W:V) (h:Ext a W)=>a2W W (Q ⟨b,off,O⟩) T rs (ab W h) af);have k6:=A (λ(W:V) (h:Ext a W)=>a2z W (Q ⟨b,off,O⟩) T rs (ab W h) af);have⟨x4,al⟩:=AP (OF rs);have⟨x5,am⟩:=AP (Na rs);have⟨x6,an⟩:=AP (Ot rs);simp only[al] at k4;simp only[am] at k5;simp only[an] at k6;rw[al,am,an] at ac;clear al am an;cases x4
 case true=>
  have u:=A (show Fe rs=15 by rw[ac.o];rfl);go_wp2_with(first
   |(go_at_call 117;refine(k4 _ o).q λW4 aa=>?_;have x:Ext a W4:=o.tr aa;have c4:=(g.stays (x.stays (n0:=0) (D8 _))).cell)
   |(go_at_call 114;refine(Y _ c).q λJ I=>?_;have o:Ext a J:=c.tr I;have c3:=(g.stays (o.stays (n0:=0) (D8 _))).cell)
   |(go_at_call 110;refine(k2 _ _ _ y).q λW2 z=>?_;have c:Ext a W2:=L.tr z;have c2:=(g.stays (c.stays (n0:=0) (D8 _))).cell)
   |(go_at_call 111;refine k1.mono ?_;rintro e W1 ⟨C,F,rfl,n,L⟩;have y:=A n;clear n))
  go_ret;exact⟨Kv,t.tr x⟩
 cases x5
 case false=>
  have u:=A (show Fe rs=14 by rw[ac.o];rfl);go_wp2_with(first
   |(go_at_call 118;refine(k5 _ x).q λW5 ag=>?_;have X:Ext a W5:=x.tr ag;have c5:=(g.stays (X.stays (n0:=0) (D8 _))).cell)
   |(go_at_call 117;refine(k4 _ o).q λW4 aa=>?_;have x:Ext a W4:=o.tr aa;have c4:=(g.stays (x.stays (n0:=0) (D8 _))).cell)
   |(go_at_call 114;refine(Y _ c).q λJ I=>?_;have o:Ext a J:=c.tr I;have c3:=(g.stays (o.stays (n0:=0) (D8 _))).cell)
   |(go_at_call 110;refine(k2 _ _ _ y).q λW2 z=>?_;have c:Ext a W2:=L.tr z;have c2:=(g.stays (c.stays (n0:=0) (D8 _))).cell)
   |(go_at_call 111;refine k1.mono ?_;rintro e W1 ⟨C,F,rfl,n,L⟩;have y:=A n;clear n))
  go_ret;exact⟨Kv,t.tr X⟩
 cases x6;all_goals
  go_wp2_with(first
   |(go_at_call 119;refine(k6 _ X).q λW6 aA=>?_;have aH:Ext a W6:=X.tr aA)
   |(go_at_call 118;refine(k5 _ x).q λW5 ag=>?_;have X:Ext a W5:=x.tr ag;have c5:=(g.stays (X.stays (n0:=0) (D8 _))).cell)
   |(go_at_call 117;refine(k4 _ o).q λW4 aa=>?_;have x:Ext a W4:=o.tr aa;have c4:=(g.stays (x.stays (n0:=0) (D8 _))).cell)
   |(go_at_call 114;refine(Y _ c).q λJ I=>?_;have o:Ext a J:=c.tr I;have c3:=(g.stays (o.stays (n0:=0) (D8 _))).cell)
   |(go_at_call 110;refine(k2 _ _ _ y).q λW2 z=>?_;have c:Ext a W2:=L.tr z;have c2:=(g.stays (c.stays (n0:=0) (D8 _))).cell)
   |(go_at_call 111;refine k1.mono ?_;rintro e W1 ⟨C,F,rfl,n,L⟩;have y:=A n;clear n))
  go_ret;exact⟨by rw[ac.o];rfl,t.tr aH⟩
def a4k(w:V)(R:Option An)(T:Nat)(rs:List (List Sd))(g:Ew w w.1.size R T rs)(t:ln rs.flatten<=4000000000):
  AZ AO 121 #[AW #[AK R (ln rs) T]] w λe w'=>∃i n o x,e=Ac (BO #[AK i n o,M G x])/\(Fe rs=0->n=ln rs.flatten/\x=0/\BB 7 w' w'.1.size i o (Cg rs.flatten))/\(Fe rs≠0->x=1)/\Ext w w':=by
 have f:=A (show Ext w (w.alloc (.cells #[AK R (ln rs) T] 24)) from(Ad _ _).alloc (AS _) _);have q:=A (Bx.new w 24 (AK R (ln rs) T));have k:=A ((g.below f).more (B':=(w.alloc (.cells #[AK R (ln rs) T] 24)).1.size) AV);clear g;have⟨y,b⟩:=AP (w.alloc (.cells #[AK R (ln rs) T] 24));have k1:=A (nG y R T rs (by rw[<-b];exact k) t);rw[b] at f q k;by_cases a:Fe rs=0
 .have hne:∀r∈rs,r≠[]:=by
   intro r g e;have:rs.any (·.isEmpty)=AL:=QD.2 ⟨r,g,by rw[e];rfl⟩;unfold Fe at a;rw[this] at a;simp at a
  have v:ln rs.flatten<=1000:=by
   unfold Fe at a;by_cases C:24<ln rs.flatten
   .rw[Aj C] at a;split at a<;>simp at a
   omega
  have k2:=A (λ(W:V) (h:Ext y W)=>vU W R T rs ((k.below h).more h.size) hne v);have j:=A a;rw[a] at k1;have⟨m,hm⟩:=AP (ln rs.flatten);rw[hm] at k2;have z:=A hm;clear a hne v t hm;have l:=A b;clear b;go_enter func121,ntmps121;go_wp2_with(first
   |(go_at_call 111;refine(k2 _ d).mono ?_;rintro e W2 ⟨i,o,rfl,s,D⟩;have B:=A s;clear s)
   |(go_at_call 64;rw[l.o];refine k1.q λW1 d=>?_;have c1:=(q.stays (d.stays (n0:=0) (D8 _))).cell))
  go_ret2;exact⟨_,_,_,_,F,λ_=>⟨z.symm,rfl,B⟩,λh=>absurd j h,(f.tr d).tr D⟩
 have j:=A a;have⟨c,u⟩:=AP (Fe rs);rw[u] at k1 a;have E:(c !=0)=AL:=by rw[Cd];exact a
 have l:=A b;clear b u a;go_enter func121,ntmps121;go_wp2_with(go_at_call 64;rw[l.o];refine k1.q λW1 d=>?_)
 go_ret2;exact⟨_,_,_,_,F,λh=>absurd h j,λ_=>rfl,f.tr d⟩
def OL(r:List Sd)(m:Nat):Bool:=AQ (OO r m<0)&&((FK r m).DX||(BA r m).DX||(FK r m).JG !=(BA r m).JG)
def Rx(rs:List (List Sd)):Bool:= !Cm (λk=>Cm (OL (rs.getD k [])) (rs.getD k []).length) (ln rs)&&Mu rs (ln rs)
theorem b0r(h:p:=by
  intro i L C W hi hL hI hd;have HI:=A hI;rcases(show i=0\/i=1\/i=2\/i=3\/i=4\/i=5\/i=6\/i=7\/i=8\/i=9\/i=10\/i=11\/i=12\/i=13\/i=14\/i=15\/i=16\/i=17 by omega) with rfl|rfl|rfl|rfl|rfl|rfl|rfl|rfl|rfl|rfl|rfl|rfl|rfl|rfl|rfl|rfl|rfl|rfl<;>clear hi hI<;>refine DC rfl (λK hK=> ?_)
  .exact XH
  .exact XH
  .exact XH
  .have d2:=HI.Bg 2 (hd 2 U) Z;simp only[Hp] at d2;go_simp;exact hK _ _ ⟨_,by simp[B7,Hp,d2],HI.pure Z rfl⟩
  .have d1:=HI.Bg 1 (hd 1 U) Z;simp only[Hp] at d1;have d3:=HI.Bg 3 (hd 3 U) Z;simp only[Hp] at d3;have w1:G.wrap ((m:Int)+ln ring)=(m:Int)+ln ring:=DF _ D;go_simp;exact hK _ _ ⟨_,by simp[B7,Hp,d1,d3],HI.pure Z rfl⟩
  .have d4:=HI.Bg 4 (hd 4 U) Z;simp only[Hp] at d4;have w2:G.wrap ((m:Int)+ln ring-1)=(m:Int)+ln ring-1:=DF _ D;go_simp;exact hK _ _ ⟨_,by simp[B7,Hp,d4],HI.pure Z rfl⟩
  .exact XH
  .have d6:=HI.Bg 6 (hd 6 U) Z;simp only[Hp] at d6;go_simp;exact hK _ _ ⟨_,by simp[B7,Hp,d6],HI.pure Z rfl⟩
  .have d5:=HI.Bg 5 (hd 5 U) Z;simp only[Hp] at d5;have d7:=HI.Bg 7 (hd 7 U) Z;simp only[Hp] at d7;have q1:=ai.o;have w3:G.wrap (p:Int)=(p:Int):=DF _ D;have z1:((ln ring:Int)==0)=AM:=CK.2 D;have z2:¬ring=[]:=by intro h;rw[h] at E;simp at E
   go_simp;exact hK _ _ ⟨_,by simp[B7,Hp,d5,d7],HI.pure Z rfl⟩
  .have d0:=HI.Bg 0 (hd 0 U) Z;simp only[Hp] at d0;have d8:=HI.Bg 8 (hd 8 U) Z;simp only[Hp] at d8;go_simp;exact hK _ _ ⟨_,by simp[B7,Hp,d0,d8],HI.pure Z rfl⟩
  .have d9:=HI.Bg 9 (hd 9 U) Z;simp only[Hp] at d9;have⟨y0,y1,y2,y3,y4,y5,y6⟩:=X p aD;have c0:=(HI.ext.cell (p:=⟨bk,ok+p*7,O⟩) c).trans y0;have c1:=(HI.ext.cell (p:=⟨bk,ok+p*7+1,O⟩) c).trans y1;have c2:=(HI.ext.cell (p:=⟨bk,ok+p*7+2,O⟩) c).trans y2;have c3:=(HI.ext.cell (p:=⟨bk,ok+p*7+3,O⟩) c).trans y3;have c4:=(HI.ext.cell (p:=⟨bk,ok+p*7+4,O⟩) c).trans y4;have c5:=(HI.ext.cell (p:=⟨bk,ok+p*7+5,O⟩) c).trans y5;have c6:=(HI.ext.cell (p:=⟨bk,ok+p*7+6,O⟩) c).trans y6;clear y0 y1 y2 y3 y4 y5 y6;go_simp;exact hK _ _ ⟨_,by simp[B7,Hp,d9],HI.pure Z rfl⟩
  .exact XH
  .exact XH
  .have d11:=HI.Bg 11 (hd 11 U) Z;simp only[Hp] at d11;have d12:=HI.Bg 12 (hd 12 U) Z;simp only[Hp] at d12;go_simp;exact hK _ _ ⟨_,by simp[B7,Hp,d11,d12],HI.pure Z rfl⟩
  .have d13:=HI.Bg 13 (hd 13 U) Z;simp only[Hp] at d13;have⟨y0,y1,y2,y3,y4,y5,y6⟩:=X m E;have c0:=(HI.ext.cell (p:=⟨bk,ok+m*7,O⟩) c).trans y0;have c1:=(HI.ext.cell (p:=⟨bk,ok+m*7+1,O⟩) c).trans y1;have c2:=(HI.ext.cell (p:=⟨bk,ok+m*7+2,O⟩) c).trans y2;have c3:=(HI.ext.cell (p:=⟨bk,ok+m*7+3,O⟩) c).trans y3;have c4:=(HI.ext.cell (p:=⟨bk,ok+m*7+4,O⟩) c).trans y4;have c5:=(HI.ext.cell (p:=⟨bk,ok+m*7+5,O⟩) c).trans y5;have c6:=(HI.ext.cell (p:=⟨bk,ok+m*7+6,O⟩) c).trans y6;clear y0 y1 y2 y3 y4 y5 y6;go_simp;exact hK _ _ ⟨_,by simp[B7,Hp,d13],HI.pure Z rfl⟩
  .go_simp;exact hK _ _ ⟨_,F,HI.b5J hL F F⟩
  .go_simp;exact hK _ _ ⟨_,F,HI.b5e F⟩
  have d10:=HI.Bg 10 (hd 10 U) Z;simp only[Hp] at d10;have h15:=hd 15 U;have⟨pa,e15,_,o,_⟩:=HI.a h15;rw[Af (by rw[hL];decide)] at o;exact wp_store_row 40 (.tmp 7) (.tmp 35) F pa (FA (BA ring p)).toArray e15 d10 40 _ o U F U (hK _ _ ⟨Ba,F,HI.store h15 e15⟩)):p:=h
theorem kS(h:p:=by
  have r:=HF (by rw[BAD.o];simp);subst r;go_wp2_with(first
   |(refine C7 rfl 40 _ _ rfl pb _ rfl rfl 40 _ RB U U U ?_)
   |(go_at_call 224;refine(I _ (l.tr E2)).q λJ hX4=>?_;have HX4:=A (Ext.tr E2 hX4);have ca:=λi=>(RA2.ext hX4).cell i;have cb:=λi=>(RB2.ext hX4).cell i;clear hX4))
  go_ret;exact⟨F,l.tr HX4⟩):p:=h
theorem pZ(h:p:=by
  have hok:=ah (by rw[BAD.o];simp);have HO:=A hok;clear hok;go_wp2_with(first
   |(refine C7 rfl 40 _ _ rfl pb _ rfl rfl 40 _ RB U U U ?_)
   |(go_at_call 224;refine(I _ (l.tr E2)).q λJ hX4=>?_;have HX4:=A (Ext.tr E2 hX4);have ca:=λi=>(RA2.ext hX4).cell i;have cb:=λi=>(RB2.ext hX4).cell i;clear hX4))
  go_round
  case rel=>exact⟨m+1,by rw[HG.o];simp,by go_num,D,l.tr HX4.o,HO.o⟩
  simp[B8];omega):p:=h
theorem sf(h:p:=by
  have hok:=ah (by rw[BAD.o];simp);have HO:=A hok;clear hok;go_wp2_with(first
   |(with_reducible show CQ _ _ _ ({dst:=Q 45,op:=_,type:=_,pos:=_,after:=_,guard:=_}::_) _ _;refine wpList_skip U ?_)
   |(with_reducible show CQ _ _ _ ({dst:=Q 46,op:=_,type:=_,pos:=_,after:=_,guard:=_}::_) _ _;refine wpList_skip U ?_)
   |(with_reducible show CQ _ _ _ ({dst:=Q 47,op:=_,type:=_,pos:=_,after:=_,guard:=_}::_) _ _;refine wpList_skip U ?_)
   |(with_reducible show CQ _ _ _ ({dst:=Q 48,op:=_,type:=_,pos:=_,after:=_,guard:=_}::_) _ _;refine wpList_skip U ?_)
   |(with_reducible show CQ _ _ _ ({dst:=Q 49,op:=_,type:=_,pos:=_,after:=_,guard:=_}::_) _ _;refine wpList_skip U ?_)
   |(with_reducible show CQ _ _ _ ({dst:=Q 50,op:=_,type:=_,pos:=_,after:=_,guard:=_}::_) _ _;refine wpList_skip U ?_)
   |(with_reducible show CQ _ _ _ ({dst:=Q 51,op:=_,type:=_,pos:=_,after:=_,guard:=_}::_) _ _;refine wpList_skip U ?_)
   |(with_reducible show CQ _ _ _ ({dst:=Q 52,op:=_,type:=_,pos:=_,after:=_,guard:=_}::_) _ _;refine wpList_skip U ?_)
   |(with_reducible show CQ _ _ _ ({dst:=Q 53,op:=_,type:=_,pos:=_,after:=_,guard:=_}::_) _ _;refine wpList_skip U ?_)
   |(with_reducible show CQ _ _ _ ({dst:=Q 54,op:=_,type:=_,pos:=_,after:=_,guard:=_}::_) _ _;refine wpList_skip U ?_)
   |(with_reducible show CQ _ _ _ ({dst:=Q 55,op:=_,type:=_,pos:=_,after:=_,guard:=_}::_) _ _;refine wpList_skip U ?_)
   |(with_reducible show CQ _ _ _ ({dst:=Q 56,op:=_,type:=_,pos:=_,after:=_,guard:=_}::_) _ _;refine wpList_skip U ?_)
   |(with_reducible show CQ _ _ _ ({dst:=Q 57,op:=_,type:=_,pos:=_,after:=_,guard:=_}::_) _ _;refine wpList_skip U ?_)
   |(refine C7 rfl 40 _ _ rfl pb _ rfl rfl 40 _ RB U U U ?_)
   |(go_at_call 224;refine(I _ (l.tr E2)).q λJ hX4=>?_;have HX4:=A (Ext.tr E2 hX4);have ca:=λi=>(RA2.ext hX4).cell i;have cb:=λi=>(RB2.ext hX4).cell i;clear hX4))
  go_round
  case rel=>exact⟨m+1,by rw[HG.o];simp,by go_num,D,l.tr HX4.o,HO.o⟩
  simp[B8];omega):p:=h
theorem a9t(h:p:=by
  intro L C W hL hI;have v14:=hI.Bg 14 (hL 14 D) Z;simp only[Hp] at v14;have⟨pa,e15,hpa,ra,hab⟩:=hI.a (hL 15 D);rw[Aj (hL 17 D)] at ra;have⟨pb,e16,hpb,rb⟩:=hI.b (hL 16 D);have hab:pa≠pb:=λe=>hab (hL 16 D) (by rw[e16,e])
  have HD:=A hI.ext;have RA:=A ra;have RB:=A rb;clear hI ra rb;simp only[v14,e15,e16,FV,FY];clear v14 e15 e16;have E2:=A (CL HD hpb (FA (BA ring m)).toArray);have RA2:=A (show Az (W.setRow pb (FA (BA ring m)).toArray) pa 40 (FA (BA ring p)) from((Hc _ _ hab).trans RA));have RB2:=A (show Az (W.setRow pb (FA (BA ring m)).toArray) pb 40 (FA (BA ring m)) from setRow_heap RB _);have⟨sa,hsa⟩:=AP (BA ring p);have⟨sb,hsb⟩:=AP (BA ring m);have bad:=au.o;have n:=aw.o;rw[hsa,hsb] at bad;rw[hsb] at n;rw[ht] at bad;rw[hsa,hsb] at RA2;rw[hsb] at RB2 E2;rw[hsb];obtain⟨ax,ay,arise,arun,ag,apl,aov⟩:=sa;obtain⟨bx,by',brise,brun,bg,bpl,bov⟩:=sb;clear hsa hsb X ai;have BAD:=A bad;have HG:=A n;clear bad n;cases t
  .cases o2
   .exact sf
   exact sf
  cases ag
  case true=>exact kS
  cases bg
  case true=>exact kS
  by_cases hap:apl=bpl
  .subst hap;cases o2
   .exact pZ
   exact pZ
  have tp:(apl !=bpl)=AL:=Cd.2 hap;rw[tp] at BAD;clear hap;exact kS):p:=h
def a2C(w:V)(R:Option An)(T:Nat)(rs:List (List Sd))(o:Ew w w.1.size R T rs)(hp:0<ln rs)(ap:∀k,(rs.getD k []).length<=1000000):
  AZ AO 149 #[AK R (ln rs) T] w λx w'=>x=Ac (AU (Rx rs))/\Ext w w':=by
 have h1:=o.1;have h2:=o.2.1;unfold BM at h2;obtain⟨b,off,f,rfl,hb,hf⟩:=Zw o hp;have ae:=A hf;have aC:=A ap;clear o hf ap;have⟨v,r⟩:=AP (Rx rs);rw[r];have HV:=A r;clear r;have⟨d,hG⟩:=AP (Mu rs);have af:=A hG;have G0:=A (show d 0=AM by rw[<-hG];rfl);clear hG;go_enter func149,ntmps149;go_wp2;go_loopw [3,4] (λs i wr=>∃k:Nat,s=AU (d k)/\i=M G (k:Int)/\k<=ln rs/\Ext w wr/\∀j,j<k->Cm (OL (rs.getD j [])) (rs.getD j []).length=AM) (λ_ i _=>((ln rs:Int)-B8 i).toNat)
 case atStart=>exact⟨0,by rw[G0.o],rfl,D,Ad _ _,λj h=>D⟩
 obtain⟨k,rfl,rfl,hk,B,aj⟩:=hrel;have a:=A B;have A1:=A aj;clear aj;by_cases ab:k<ln rs
 .have c0:=(ae wr B k ab).1;have Y:=A (show d (k+1)=(d k||OP (rs.getD k []) (rs.getD k []).length) by rw[<-af.o];rfl);have ad:=A (λh:Cm (OL (rs.getD k [])) (rs.getD k []).length=AL=>show v=AM by rw[<-HV.o];unfold Rx;rw[J5 (p:=λk=>Cm (OL (rs.getD k [])) (rs.getD k []).length) ab h];rfl);have ac:=A (λh:Cm (OL (rs.getD k [])) (rs.getD k []).length=AM=>Jt (P:=λj=>Cm (OL (rs.getD j [])) (rs.getD j []).length=AM) A1 h);have⟨ring,H⟩:=AP (rs.getD k []);rw[H] at Y ad ac;have u:=A (λW (h:Ext w W)=>H▸(ae W h k ab).2:∀W,Ext w W->BB 7 W W.1.size (f k).1 (f k).2 (Cg ring));have aF:ln ring<=1000000:=H▸aC.o k;have aE:ln ring<=(f k).2:=by have:=(u wr B).1;rw[BL] at this;exact this
  have ar:=(u wr B).2.1;unfold BM at ar;rw[H] at c0;have⟨fa,al⟩:=AP ((f k).1);have⟨y,am⟩:=AP ((f k).2);simp only[al,am] at c0 u aE ar;have⟨z,an⟩:=AP (d k);rw[an] at Y⊢;clear B H al am an;obtain⟨g,N⟩:∃g:Nat->Bool,(λm=>z||OP ring m)=g:=⟨_,F⟩;have aA:=A (show∀m,g (m+1)=(g m|| !(BA ring m).DX) by rw[<-N];intro m;show(z||(OP ring m|| !(BA ring m).DX))=_;rw[Bool.or_assoc]);have av:=A (show g 0=z by rw[<-N];show(z||AM)=z;simp);have az:=A (show d (k+1)=g (ln ring) by rw[<-N];exact Y);clear N;go_wp2_with fail
  go_loopw [3,6] (λs i wr=>∃m:Nat,s=AU (g m)/\i=M G (m:Int)/\m<=ln ring/\Ext w wr/\∀j,j<m->OL ring j=AM) (λ_ i _=>((ln ring:Int)-B8 i).toNat)
  case atStart=>exact⟨0,by rw[av.o],rfl,D,a,λj h=>D⟩
  obtain⟨m,rfl,rfl,hm,aa,ak⟩:=hrel;have l:=A aa;have A2:=A ak;clear ak;by_cases E:m<ln ring
  .obtain⟨bk,ok,rfl,hbk,hck⟩:=Oo (u _ aa) D;have HF:=A (λh:OL ring m=AL=>ad (J5 E h));have ah:=A (λh:OL ring m=AM=>Jt (P:=λj=>OL ring j=AM) A2 h);have bad:OL ring m=(AQ (OO ring m<0)&&((BA ring ((m+ln ring-1)%ln ring)).DX||(BA ring m).DX||(BA ring ((m+ln ring-1)%ln ring)).JG !=(BA ring m).JG)):=rfl;have n:=aA m;have⟨p,S⟩:=AP ((m+ln ring-1)%ln ring);rw[S] at bad;have aD:p<ln ring:=by rw[<-S];exact Hh _ D
   have q1:((m:Int)+ln ring-1).tmod (ln ring:Int)=(p:Int):=by rw[ZA D,show((m:Int)+ln ring-1)=((m+ln ring-1:Nat):Int) by omega,<-S];rfl
   have ai:=A q1;have I:=A (λ(W:V) (hx:Ext w W)=>nC W _ y ring (u W hx) aF m E);have X:=A hck;have c:=A hbk;have⟨q,hq⟩:=AP (OO ring m);simp only[hq] at I;rw[hq] at bad;have⟨o2,aq⟩:=AP (g m);rw[aq] at n⊢;have au:=A bad;have aw:=A n;clear aa hck hbk hq S q1 bad n aq;have⟨t,ht⟩:=AP (AQ (q<0));go_wp2_with fail
   refine Fz U (bF 18 (λC=>⟨#[AK (Q ⟨b,off,O⟩) (ln rs) T,Ba,u2,AU o2,M G (k:Int),AK (Q ⟨bk,ok,O⟩) (ln ring) y,M G (m:Int),C 15,C 16,M G (k:Int),AK (Q ⟨b,off,O⟩) (ln rs) T,M G (ln rs:Int),AU AL,u13,u14,AK (Q ⟨b,off,O⟩) (ln rs) T,M G (k:Int),Ap (Q ⟨b,off+k,O⟩),AK (Q ⟨bk,ok,O⟩) (ln ring) y,M G (m:Int),AK (Q ⟨bk,ok,O⟩) (ln ring) y,M G (ln ring:Int),AU AL,u23,u24,C 0,C 1,C 2,C 3,C 4,C 5,C 6,C 7,C 8,C 9,C 10,C 11,C 12,C 13,C 14,u40,u41,u42,u43,u44,u45,u46,u47,u48,u49,u50,u51,u52,u53,u54,u55,u56,u57,u58,u59,u60,u61,u62,u63,u64,Ba],[]⟩)
    (λL C W=>Lp wr 40 (FA T8) (FA (BA ring p)) (Hp bk ok (ln ring) y m p ring) L C W) U ?_ ?_ (λi=>match i with|0=>u25|1=>u26|2=>u27|3=>u28|4=>u29|5=>u30|6=>u31|7=>u32|8=>u33|9=>u34|10=>u35|11=>u36|12=>u37|13=>u38|14=>u39|15=>u7|16=>u8|_=>Ba) _ (Lp.BI (Ext.dr wr) _))
   .exact b0r
   exact a9t
  obtain rfl:m=ln ring:=D;have ao:=ac (Hy A2);have aB:=A ao;clear ao;go_wp2;exact⟨⟨k+1,by rw[az.o],by go_num,D,l,aB⟩,Bm⟩
 obtain rfl:k=ln rs:=D;have r:v=d (ln rs):=by rw[<-HV.o,<-af.o];unfold Rx;rw[Hy A1.o];simp
 subst r;exact Ta
open Classical in
noncomputable def T5(rs:List (List Sd)):Bool:=AQ (∃k m q u,k<ln rs/\m<(rs.getD k []).length/\k<=q/\q<ln rs/\u<(rs.getD q []).length/\OM rs k m q u=AL)
open Classical in
def b3X{rs:List (List Sd)}{b:Bool}(h:km rs b):b=T5 rs:=by
 unfold T5;cases b
 .symm
  rw[CX];rintro⟨k,m,q,u,hk,hm,d,c,hu,a⟩;have:=h.2 F k hk m hm q d c u hu;rw[this] at a;cases a
 symm
 rw[Cx];exact h.1 F
noncomputable def Lh(rs:List (List Sd)):Int:=
 if rs.any (·.isEmpty)||rs.isEmpty then 5
 else if 24<ln rs.flatten then 4
 else if rs.flatten.any λs=> !Dn s then 2
 else if rs.any λr=> !Jb r then 14
 else if T5 rs then 15
 else if !Te rs|| !Rx rs then 14
 else 0
theorem b5k{rs:List (List Sd)}(h:rs.getD k []=[])(hk:k<ln rs):Lh rs=5:=by
 unfold Lh;have:rs.any (·.isEmpty)=AL:=by
  rw[QD];refine⟨rs[k],Ey hk,?_⟩;rw[CM,Bv hk] at h;simp only[Um] at h;rw[h];rfl
 rw[this];rfl
def b4C{rs:List (List Sd)}(a:∀r∈rs,r≠[])(b:0<ln rs):Lh rs=(if 24<ln rs.flatten then 4 else if rs.flatten.any (λs=> !Dn s) then 2 else if rs.any (λr=> !Jb r) then 14 else if T5 rs then 15 else if !Te rs|| !Rx rs then 14 else 0):=by
 unfold Lh;have h1:rs.any (·.isEmpty)=AM:=by
  rw[Wr];intro r c h;exact a r c (eH.1 h)
 have h2:rs.isEmpty=AM:=by cases rs with
  |nil=>simp at b
  |cons=>rfl
 rw[h1,h2];rfl
theorem sG{r:List Sd}(h:i<ln r):BA r i∈r:=by
 unfold BA;rw[CM,Bv h];exact Ey h
theorem YS{rs:List (List Sd)}(h:k<ln rs):rs.getD k []∈rs:=by
 rw[CM,Bv h];exact Ey h
def a7Q{rs:List (List Sd)}{k m:Nat}(hk:k<ln rs)(hm:m<(rs.getD k []).length)(h:Dn (BA (rs.getD k []) m)=AM):(rs.flatten.any λs=> !Dn s)=AL:=by
 rw[QD];exact⟨_,S8.2 ⟨_,YS hk,sG hm⟩,by rw[h];rfl⟩
def a2F{rs:List (List Sd)}(h:∀j,j<ln rs->∀i,i<(rs.getD j []).length->Dn (BA (rs.getD j []) i)=AL):(rs.flatten.any λs=> !Dn s)=AM:=by
 rw[Wr];intro s c;have⟨r,b,d⟩:=S8.1 c;obtain⟨j,a,rfl⟩:=JJ.1 b;obtain⟨i,hi,rfl⟩:=JJ.1 d;have:=h j a i (by rw[CM,Bv a];exact hi);unfold BA at this;rw[CM,CM,Bv a] at this;simp only[Um] at this;rw[Bv hi] at this;simp only[Um] at this;rw[this];simp
theorem a8a{rs:List (List Sd)}(hk:k<ln rs)(h:Jb (rs.getD k [])=AM):(rs.any λr=> !Jb r)=AL:=by
 rw[QD];exact⟨_,YS hk,by rw[h];rfl⟩
def a2u{rs:List (List Sd)}(h:∀j,j<ln rs->Jb (rs.getD j [])=AL):(rs.any λr=> !Jb r)=AM:=by
 rw[Wr];intro r b;obtain⟨j,a,rfl⟩:=JJ.1 b;have:=h j a;rw[CM,Bv a] at this;simp only[Um] at this;rw[this];simp
def wK(w:V)(R:Option An)(T:Nat)(rs:List (List Sd))(X:Ew w w.1.size R T rs)(S:ln rs.flatten<=1000000):
  AZ AO 79 #[AW #[AK R (ln rs) T]] w λx w'=>x=Ac (M G (Lh rs))/\Ext w w':=by
 have h1:=X.1;have h2:=X.2.1;unfold BM at h2;have a:=A (show Ext w (w.alloc (.cells #[AK R (ln rs) T] 24)) from(Ad _ _).alloc (AS _) _);have R0:=A (Bx.new w 24 (AK R (ln rs) T));have⟨v,y⟩:=AP (Lh rs);rw[y];have HV:=A y;clear y;by_cases B:ln rs=0
 .rw[B] at a R0;have c0:=R0.cell;rw[B];clear X;go_enter func79,ntmps79;have y:v=5:=by rw[<-HV.o,Jf.1 B];rfl
  subst y;go_wp2;go_ret;exact⟨F,a⟩
 have B:0<ln rs:=D;have ae:=(X.below a).more a.size;have⟨b,off,f,hA,hb,hf⟩:=Zw ae B;have HF:=A hf;have aE:=A (YZ S);have KC:=A (λ(W:V) (h:Ext (w.alloc (.cells #[AK R (ln rs) T] 24)) W)=>a1C W R T rs ((ae.below h).more h.size) B (YZ S));have KP:=A (λ(C:∀r∈rs,r≠[]) (W:V) (h:Ext (w.alloc (.cells #[AK R (ln rs) T] 24)) W)=>a2X W R T rs ((ae.below h).more h.size) B C (YZ S));have KR:=A (λ(W:V) (h:Ext (w.alloc (.cells #[AK R (ln rs) T] 24)) W)=>a2C W R T rs ((ae.below h).more h.size) B (YZ S));have KS:=A (λ(W:V) (h:Ext (w.alloc (.cells #[AK R (ln rs) T] 24)) W) (k:Nat) (hk:k<ln rs)=>a2N W (f k).1 (f k).2 (rs.getD k []) (hf W h k hk).2 (YZ S k));have aD:=A S;subst hA;clear X ae hf S;go_enter func79,ntmps79;have c0:=R0.cell;have aK:((ln rs:Int)==0)=AM:=CK.2 D;have aJ:¬rs=[]:=by intro h;rw[h] at B;simp at B
 go_upto_block 0 with(fail)
 have⟨I,aC⟩:=AP (w.alloc (.cells #[AK (Q ⟨b,off,O⟩) (ln rs) T] 24));simp only[aC] at a R0 HF KC KP KR KS hb⊢;clear aC c0;have hB:=λW (h:Ext I W)=>(R0.below h R0.lt).cell
 have E:=A hB;clear hB;go_cut [3] (λs wx=>s=M G (ln rs.flatten:Int)/\(∀r∈rs,r≠[])/\Ext I wx)
 case first =>
  go_wp2_with fail
  go_loopw [3,4] (λs i wr=>∃k:Nat,k<=ln rs/\i=M G (k:Int)/\s=M G ((rs.take k).flatten.length:Int)/\Ext I wr/\∀m,m<k->rs.getD m []≠[]) (λ_ i _=>((ln rs:Int)-B8 i).toNat)
  case atStart=>exact⟨0,D,rfl,AV,Ad _ _,λm hm=>D⟩
  obtain⟨k,hk,rfl,rfl,H,al⟩:=hrel;have c:=A H;have HA:=A al;have c0:=E _ H;by_cases z:k<ln rs
  .have c1:=(HF _ H k z).1;have t:=Tz z;have aH:=U2 rs (k+1);have U:((rs.take (k+1)).flatten.length:Int)=((rs.take k).flatten.length:Int)+((rs.getD k []).length:Int):=by rw[t];simp
   have⟨m,hm⟩:=AP ((rs.take k).flatten.length);have⟨d,hd⟩:=AP ((rs.getD k []).length);rw[hd] at c1;have hs:m+d<=1000000:=by have:=aD.o;rw[hm,hd] at U;omega
   rw[hm];have HQ:=A U;have HM:=A hm;have HD:=A hd;clear t U hm hd aH H al;by_cases h0:d=0
   .subst h0;have y:=b5k (Jf.1 HD) z;rw[HV.o] at y;subst y;exact mu
   have tz:((d:Int)==0)=AM:=Hi;have K:=A (show∀j,j<k+1->rs.getD j []≠[] fromλj hj=>by
    by_cases aG:j=k
    .rw[aG];intro e;have hz:=HD.o;rw[e] at hz;exact h0 hz.symm
    exact HA j D)
   clear h0;go_wp2
   go_round
   case rel=>exact⟨k+1,D,by go_num,by rw[HQ.o,HM.o,HD.o],c,K⟩
   simp[B8];omega
  obtain rfl:k=ln rs:=D;have C:∀r∈rs,r≠[]:=by
   intro r X;obtain⟨i,hi,rfl⟩:=JJ.1 X;have:=HA i hi;rw[CM,Bv hi] at this;exact this
  have ao:=A C;rw[Nk];have⟨m,hm⟩:=AP (ln rs.flatten);rw[hm];have HM:=A hm;clear hm H al C;go_wp2_with fail
  go_meet;exact⟨by rw[HM.o],ao,c⟩
 obtain⟨rfl,C,H⟩:=hcut;have c:=A H;have KP:=A (KP C);have Y:=HV.o;rw[b4C C B] at Y;have⟨m,hm⟩:=AP (ln rs.flatten);rw[hm] at Y;rw[hm];clear H hm;by_cases au:24<m
 .have t4:AQ ((m:Int)>24)=AL:=CP D;rw[Aj au] at Y;subst Y;clear C;exact mu
 have t4:AQ ((m:Int)>24)=AM:=Bw D;rw[Af au] at Y;have ap:=A Y;have ao:=A C;clear C Y
 go_upto_block 2 with(fail)
 go_cut [] (λwx=>(∀j,j<ln rs->∀i,i<(rs.getD j []).length->Dn (BA (rs.getD j []) i)=AL)/\Ext I wx)
 case first =>
  go_wp2_with fail
  go_loopw [5] (λi wr=>∃k:Nat,i=M G (k:Int)/\k<=ln rs/\Ext I wr/\∀j,j<k->∀i,i<(rs.getD j []).length->Dn (BA (rs.getD j []) i)=AL) (λi _=>((ln rs:Int)-B8 i).toNat)
  case atStart=>exact⟨0,F,D,c,λj h=>D⟩
  obtain⟨k,rfl,hk,ag,ac⟩:=hrel;have ar:=A ag;have A1:=A ac;clear ac;have c0:=E _ ag;by_cases z:k<ln rs
  .have⟨n,hn⟩:=AP ((rs.getD k []).length);have K:=A hn;have aI:n<=1000000:=by rw[<-hn];exact aE k
   clear ag hn;go_wp2_with fail
   clear c0;go_loopw [6] (λi wr=>∃m:Nat,i=M G (m:Int)/\m<=n/\Ext I wr/\∀i,i<m->Dn (BA (rs.getD k []) i)=AL) (λi _=>((n:Int)-B8 i).toNat)
   case atStart=>exact⟨0,F,D,ar,λj h=>D⟩
   obtain⟨m,rfl,hm,l,av⟩:=hrel;have L:=A l;have A2:=A av;clear av;have c0:=E _ l;have c1:=(HF _ l k z).1;rw[K.o] at c1;by_cases ay:m<n
   .have⟨bk,ok,hA,hbk,hck⟩:=Oo (HF _ l k z).2 (by rw[K.o];omega);have⟨y0,y1,y2,y3,y4,y5,y6⟩:=hck m (by rw[K.o];exact ay);rw[hA] at c1;have N:=λh:Dn (BA (rs.getD k []) m)=AM=>(Aj (a7Q z (by rw[K.o];exact ay) h)).symm.trans ap
    have o:=λh:Dn (BA (rs.getD k []) m)=AL=>Jt (P:=λi=>Dn (BA (rs.getD k []) i)=AL) A2 h
    have⟨q,t⟩:=AP (Dn (BA (rs.getD k []) m));rw[t] at N o;have ai:=A N;have aj:=A o;clear N o;have⟨s,hs⟩:=AP (BA (rs.getD k []) m);rw[hs] at t;have ab:=a2a s;rw[t] at ab;rw[hs] at y0 y1 y2 y3 y4 y5 y6;obtain⟨sx,sy,sr,su,sg,sp,so⟩:=s;dsimp only at y0 y1 y2 y3 y4 y5 y6;have ab:=A ab;clear l hA hbk hck hs t;cases q
    .have y:=ai F;subst y;go_wp2_with(go_at_call 145;refine(ab _).q λW1 g=>?_;have u:=A (L.tr g);clear g)
     exact mr
    have o:=aj F;have ak:=A o;clear o;go_wp2_with(go_at_call 145;refine(ab _).q λW1 g=>?_;have u:=A (L.tr g);clear g)
    exact⟨⟨m+1,by go_num,D,u,ak⟩,Bm⟩
   obtain rfl:m=n:=D;have HK:=A (Jt (P:=λj=>∀i,i<(rs.getD j []).length->Dn (BA (rs.getD j []) i)=AL) A1 (λi hi=>A2 i (by rw[<-K.o];exact hi)));clear l;go_wp2;exact⟨⟨k+1,by go_num,D,L,HK⟩,Bm⟩
  obtain rfl:k=ln rs:=D;clear ag;go_wp2_with fail
  go_meet;exact⟨A1,ar⟩
 obtain⟨az,hcut⟩:=hcut;have c:=A hcut;have an:=ap.o;rw[a2F az] at an;have aq:=A an;clear hcut az an
 go_upto_block 6 with(fail)
 go_cut [] (λwx=>(∀j,j<ln rs->Jb (rs.getD j [])=AL)/\Ext I wx)
 case first =>
  go_wp2_with fail
  go_loopw [7] (λi wr=>∃k:Nat,i=M G (k:Int)/\k<=ln rs/\Ext I wr/\∀j,j<k->Jb (rs.getD j [])=AL) (λi _=>((ln rs:Int)-B8 i).toNat)
  case atStart=>exact⟨0,F,D,c,λj h=>D⟩
  obtain⟨k,rfl,hk,l,ac⟩:=hrel;have L:=A l;have A1:=A ac;clear ac;have c0:=E _ l;by_cases z:k<ln rs
  .have c1:=(HF _ l k z).1;have af:=A (KS _ l k z);have N:=λh:Jb (rs.getD k [])=AM=>(Aj (a8a z h)).symm.trans aq
   have o:=λh:Jb (rs.getD k [])=AL=>Jt (P:=λj=>Jb (rs.getD j [])=AL) A1 h
   have⟨q,t⟩:=AP (Jb (rs.getD k []));rw[t] at N o af;have ai:=A N;have aj:=A o;clear N o t;have⟨ring,aA⟩:=AP (rs.getD k []);have⟨fa,aw⟩:=AP ((f k).1);have⟨fc,ax⟩:=AP ((f k).2);rw[aA,aw,ax] at c1 af;clear l aA aw ax;cases q
   .have y:=ai F;subst y;go_wp2_with(go_at_call 146;refine af.q λW1 g=>?_;have u:=A (L.tr g);clear g)
    exact mr
   have o:=aj F;have ak:=A o;clear o;go_wp2_with(go_at_call 146;refine af.q λW1 g=>?_;have u:=A (L.tr g);clear g)
   exact⟨⟨k+1,by go_num,D,u,ak⟩,Bm⟩
  obtain rfl:k=ln rs:=D;clear l;go_wp2_with fail
  go_meet;exact⟨A1,L⟩
 obtain⟨aB,hcut⟩:=hcut;have c:=A hcut;have c0:=E _ hcut;have ah:=aq.o;rw[a2u aB] at ah;simp only[lz,Wx] at ah;have aF:=A ah;clear hcut aB ah;go_wp2_with(go_at_call 147;fail)
 refine(KC _ c).mono ?_;rintro e W1 ⟨⟨q,rfl,t⟩,g⟩;have u:=A (c.tr g);have c4:=E _ u;have aa:=aF.o;rw[<-b3X t.o] at aa;clear g c0 t;have⟨q2,U⟩:=AP (Te rs);have⟨q3,am⟩:=AP (Rx rs);rw[U,am] at aa;rw[U] at KP;rw[am] at KR;clear U am;cases q
 .cases q2
  .obtain rfl:(14:Int)=v:=aa;go_wp2_with(go_at_call 148;refine(KP _ u).q λW2 ad=>?_;have Z:=A (u.tr ad);have c5:=E _ Z;clear ad c4)
   go_ret;exact⟨F,a.tr Z⟩
  cases q3
  .obtain rfl:(14:Int)=v:=aa;exact a0G
  obtain rfl:(0:Int)=v:=aa;exact a0G
 obtain rfl:(15:Int)=v:=aa;go_wp2_with fail
 exact mr
end
end Go.Proofs.YtalhfkdhdggdaaaGreatDoor
