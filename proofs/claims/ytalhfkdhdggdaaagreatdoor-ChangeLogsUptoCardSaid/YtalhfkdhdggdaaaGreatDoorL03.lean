/- ChangeLogs of kingpostlaw58: part 3 of its proof (merged and shortened by program). -/
import Derived.Deep.RegionHeld3
import Derived.Laws.AppendOwnNone
import Derived.Test.YtalhfkdhdggdaaaGreatDoorL01
set_option linter.unusedVariables false
set_option linter.unusedSimpArgs false
set_option linter.defProp false
set_option maxHeartbeats 8000000
set_option maxRecDepth 100000
open Go.RowKit Go.Shelf Go.Proofs.Tryz
open And renaming intro→Ci
open Array renaming replicate→E7
open Bool renaming false→AM,true→AL
open ByteArray renaming size→OY
open Decidable renaming decide→AQ
open Go renaming World→V,Value→AN,Calls→AZ,TypeId→Bb,Addr→An,maxLen→BM,undef→Ba,Ending→CI,wpList→CQ,MemPlace→Dw,KeepsOthers→GF,MapEntry→FG,DataW→D6,Operand→F0,Act→BV
open Go.Act renaming put→G7
open Go.Builtin renaming zeroCells→Is,append_→JN
open Go.DataW renaming trod→ET
open Go.Ending renaming returned→Ac
open Go.Fence renaming wide→Ha
open Go.IntKind renaming i64→G
open Go.Lib renaming hasPrefix→DH,cut→Bj,compareInt→Dv,itoa→CY,decDigits→ES,split→Da,byteCells→IV
open Go.MapKept renaming IsKey→MV
open Go.Proofs.Tryz renaming prog→AO,underlying54→Cc,underlying34→DV,underlying25→FD,underlying3→GQ
open Go.Region renaming wanted→Ir
open Go.RowKit renaming intOf→B8,Below→At
open Go.Value renaming agg→Ea,oneCell'→Ks,slice→FO,ownBlock→Hv,int→Gr,slice→AK,string→AT,bool→AU,pointer→Ap,int→M,agg→AW,tuple→BO
open Go.World renaming setCell→Di,cell?→Dx,setRow→F8,frozen?→Hb
open List renaming replicate→F7,range→G8,getD→Gs,length→ln
open Nat renaming gcd→DO,reduceAdd→Hw
open Option renaming none→O,some→Q,getD→FF
open Or renaming inl→Cf
open UInt8 renaming ofNat→GR
open Go.Proofs.YtalhfkdhdggdaaaGreatDoor
variable{m s o E H:Bool}{a Y:List Nat}{b n k x lo blk i q z t d g K u j f:Nat}{C:Option An}{p:Prop}{L v1 v2:AN}{w w' wr J:V}{T:Bb}
namespace Go.Proofs.YtalhfkdhdggdaaaGreatDoor
section
open Kp
def ft{k:IntKind}{a b a' c:Int}(h1:a=a')(h2:b=c):Ending.returned (BO #[.int k a,.int k b])=Ac (BO #[.int k a',.int k c]):=by rw[h1,h2]
def a6S(x y c:Nat)(w:V)(hx:x<1000000000)(hy:y<1000000000)(g:c<=1):
  AZ AO 366 #[M G (x:Int),M G (y:Int),M G (c:Int)] w λe w'=>e=Ac (BO #[M G (((x+y+c)%1000000000:Nat):Int),M G (((x+y+c)/1000000000:Nat):Int)])/\w'=w:=by
 have d:((x:Int)+(y)+(c))%1000000000=(((x+y+c)%1000000000:Nat)):=D;have f:((x:Int)+(y)+(c))/1000000000=(((x+y+c)/1000000000:Nat)):=D;have a:=A d;have b:=A f;go_wp2;go_ret2;exact⟨ft a b,F⟩
def a4W(x y c:Nat)(w:V)(hx:x<1000000000)(hy:y<1000000000)(b:c<=1):
  AZ AO 367 #[M G (x:Int),M G (y:Int),M G (c:Int)] w λe w'=>e=Ac (BO #[M G ((if y+c<=x then x-(y+c) else x+1000000000-(y+c):Nat):Int),M G ((if y+c<=x then 0 else 1:Nat):Int)])/\w'=w:=by
 by_cases h:y+c<=x
 .have a:=A (show(x:Int)-y-c=((x-(y+c):Nat)) by omega);go_wp2;go_ret2;exact⟨ft a F,F⟩
 have a:=A (show(x:Int)-y-c+1000000000=((x+1000000000-(y+c):Nat)) by omega);go_wp2;go_ret2;exact⟨ft a F,F⟩
def Hg(a b:List Nat):Nat->Nat×Nat
 |0=>(0,0)
 |k+1=>((I a k+I b k+(Hg a b k).2)%1000000000,(I a k+I b k+(Hg a b k).2)/1000000000)
def He(a b:List Nat):Nat->Nat×Nat
 |0=>(0,0)
 |k+1=>(if I b k+(He a b k).2<=I a k then I a k-(I b k+(He a b k).2) else I a k+1000000000-(I b k+(He a b k).2),if I b k+(He a b k).2<=I a k then 0 else 1)
def uS{a b:List Nat}(c:Small a)(d:Small b)(k:Nat):(Hg a b k).2<=1/\(Hg a b (k+1)).1<1000000000:=by
 have key:∀k,(Hg a b k).2<=1:=by
  intro k;cases k with
  |zero=>exact D8 _
  |succ k=>
   induction k with
   |zero=>
    have h1:=Du c 0;have h2:=Du d 0;show(I a 0+I b 0+0)/1000000000<=1
    grind
   |succ k e=>
    grind [Du,Hg]
 exact⟨key k,Hh _ Z⟩
def iN{a b:List Nat}(c:Small a)(d:Small b)(k:Nat):(He a b k).2<=1/\(He a b (k+1)).1<1000000000:=by
 have key:∀k,(He a b k).2<=1:=by
  intro k;cases k with
  |zero=>exact D8 _
  |succ k=>show(if _ then 0 else 1)<=1;grind
 have h1:I a k<1000000000:=Du c _;rw[He]
 grind
def b1U{a b:List Nat}(k:Nat):S (I (Cs (Hg a b) k)) k+(Hg a b k).2*B^k=S (I a) k+S (I b) k:=by
 induction k with
 |zero=>rfl
 |succ k d=>
  have e:S (I (Cs (Hg a b) (k+1))) k=S (I (Cs (Hg a b) k)) k:=MF λi hi=>by
   exact fJ
  have c:I (Cs (Hg a b) (k+1)) k=(Hg a b (k+1)).1:=by
   rw[Sh];unfold I
   grind [LX]
  rw[GA,GA,GA];have h:=eC (I a k+I b k+(Hg a b k).2) 1000000000;have h1:(Hg a b (k+1)).1=(I a k+I b k+(Hg a b k).2)%1000000000:=rfl;have h2:(Hg a b (k+1)).2=(I a k+I b k+(Hg a b k).2)/1000000000:=rfl
  grind
def b0p{a b:List Nat}(d:Small a)(c:Small b)(k:Nat):S (I (Cs (He a b) k)) k+S (I b) k=S (I a) k+(He a b k).2*B^k:=by
 induction k with
 |zero=>rfl
 |succ k j=>
  have e:S (I (Cs (He a b) (k+1))) k=S (I (Cs (He a b) k)) k:=MF λi hi=>by
   exact fJ
  have f:I (Cs (He a b) (k+1)) k=(He a b (k+1)).1:=by
   rw[Sh];unfold I
   grind [LX]
  rw[GA,GA,GA];have h2:I b k<1000000000:=Du c _;have g:=(iN d c k).1;have h:(He a b (k+1)).1+I b k+(He a b k).2=I a k+(He a b (k+1)).2*1000000000:=by
   rw[He]
   grind
  grind
end
end Go.Proofs.YtalhfkdhdggdaaaGreatDoor
namespace Kp
def EI(f:Nat->Int):Nat->Int
 |0=>0
 |n+1=>if EI f n=0 then f n else EI f n
theorem KH{f:Nat->Int}(h:∀i,i<n->f i=0):EI f n=0:=by
 induction n with
 |zero=>rfl
 |succ n a=>rw[EI];grind
theorem Im{f:Nat->Int}(hk:k<n)(h:∀i,i<k->f i=0)(b:f k≠0):EI f n=f k:=by
 induction n with
 |zero=>omega
 |succ n c=>
  rw[EI];by_cases a:k=n
  .subst a;rw[Aj (KH h)]
  grind
theorem U1{f:Nat->Int}(h:EI f n=0):∀i,i<n->f i=0:=by
 induction n with
 |zero=>grind
 |succ n a=>
  rw[EI] at h
  grind
def Cm(p:Nat->Bool):Nat->Bool
 |0=>AM
 |n+1=>Cm p n||p n
theorem Hy{p:Nat->Bool}(h:∀i,i<n->p i=AM):Cm p n=AM:=by
 induction n with
 |zero=>rfl
 |succ n a=>grind [Cm]
theorem J5{p:Nat->Bool}(hk:k<n)(h:p k=AL):Cm p n=AL:=by
 induction n with
 |zero=>omega
 |succ n a=>
  rw[Cm]
  grind
theorem bH{p:Nat->Bool}(h:Cm p n=AM):∀i,i<n->p i=AM:=by grind [J5]
theorem a8Z{p:Nat->Bool}:Cm p n=AL↔∃i,i<n/\p i=AL:=by
 grind [Hy,J5]
theorem jr{p q:Nat->Bool}(h:∀i,i<n->p i=q i):Cm p n=Cm q n:=by
 induction n with
 |zero=>rfl
 |succ n a=>grind [Cm]
def Nd(f:Nat->Int):Nat->Int
 |0=>0
 |n+1=>Nd f n+f n
theorem a4L{f:Nat->Int}{m:Int}(h:∀i,i<n-> -m<=f i/\f i<=m): -(n*m)<=Nd f n/\Nd f n<=n*m:=by
 induction n with
 |zero=>simp[Nd]
 |succ n a=>
  have h1:=a λi hi=>h i D
  grind [Nd]
def MO(p:Nat->Bool):Nat->Bool
 |0=>AM
 |n+1=>if p n then !MO p n else MO p n
theorem a3g{p q:Nat->Bool}(h:∀i,i<n->p i=q i):MO p n=MO q n:=by
 induction n with
 |zero=>rfl
 |succ n a=>grind [MO]
structure Sd where
 x:Int
 y:Int
 Mz:Int
 run:Int
 DX:Bool
 JG:Int
 over:Int
deriving DecidableEq
def T8:Sd:=⟨0,0,0,0,AM,0,0⟩
def N(n a b:Int):Bool:=AQ (a<=n)&&AQ (n<=b)
def Dn(s:Sd):Bool:=
 (if s.DX then s.Mz==0&&s.run==0 else N s.Mz 1 48&&N s.run 1 48)&&N s.x 0 65536&&N s.y 0 65536&&N s.JG 0 65536&&N s.over 0 65536
def BA(r:List Sd)(i:Nat):Sd:=r.getD i T8
def FK(r:List Sd)(i:Nat):Sd:=r.getD ((i+ln r-1)%ln r) T8
def Bl(r:List Sd)(i:Nat):Sd:=r.getD ((i+1)%ln r) T8
def Ko(r:List Sd)(i:Nat):Int:=(Bl r i).x-(BA r i).x
def N7(r:List Sd)(i:Nat):Int:=(Bl r i).y-(BA r i).y
def Pg(r:List Sd)(i:Nat):Int:=(BA r i).x-(FK r i).x
def RR(r:List Sd)(i:Nat):Int:=(BA r i).y-(FK r i).y
def P8(r:List Sd)(i:Nat):Bool:=((Ko r i==0)==(N7 r i==0))||((Pg r i==0)==(Ko r i==0))
def Gt(r:List Sd):Bool:=AQ (4<=ln r)&& !Cm (P8 r) (ln r)
def aB(r:List Sd)(i:Nat):Bool:=AQ (0<Pg r i*N7 r i-RR r i*Ko r i)
structure Gd where
 lx:Int
 ly:Int
 hx:Int
 hy:Int
def Ia(r:List Sd)(i:Nat):Gd:=
 ⟨min (BA r i).x (Bl r i).x,min (BA r i).y (Bl r i).y,max (BA r i).x (Bl r i).x,max (BA r i).y (Bl r i).y⟩
def Jq(a b:Gd):Bool:=AQ (a.lx<=b.hx)&&AQ (b.lx<=a.hx)&&AQ (a.ly<=b.hy)&&AQ (b.ly<=a.hy)
def LH(r:Nat)(ring:List Sd)(n:Nat):List (Nat×Nat×Gd):=(G8 n).map λi=>(r,i,Ia ring i)
def IZ(rs:List (List Sd)):Nat->List (Nat×Nat×Gd)
 |0=>[]
 |n+1=>IZ rs n++LH n (rs.getD n []) (rs.getD n []).length
def IQ:Nat×Nat×Gd:=(0,0,⟨0,0,0,0⟩)
def Pf(rs:List (List Sd))(a b:Nat×Nat×Gd):Bool:=
 !(a.1==b.1&&((a.2.1:Int)-b.2.1==1||(a.2.1:Int)-b.2.1==((rs.getD a.1 []).length:Int)-1))&&Jq a.2.2 b.2.2
def OF(rs:List (List Sd)):Bool:=
 Cm (λi=>Cm (λk=>Pf rs ((IZ rs (ln rs)).getD i IQ) ((IZ rs (ln rs)).getD k IQ)) i) (IZ rs (ln rs)).length
def Q0(r:List Sd):Int:=Nd (λi=>(BA r i).x*(Bl r i).y-(BA r i).y*(Bl r i).x) (ln r)
def Oz(r:List Sd)(x y:Int)(i:Nat):Bool:=Ko r i==0&&AQ (x<(BA r i).x)&&(AQ (y<(BA r i).y) !=AQ (y<(Bl r i).y))
def Rr(r:List Sd)(x y:Int):Bool:=MO (Oz r x y) (ln r)
def Ts(rs:List (List Sd))(i:Nat):Bool:=
 (AQ (0<Q0 (rs.getD i [])) !=(i==0))||Cm (λk=> !(k==i||i==0)&&(Rr (rs.getD k []) (BA (rs.getD i []) 0).x (BA (rs.getD i []) 0).y !=(k==0))) (ln rs)
def Na(rs:List (List Sd)):Bool:= !Cm (Ts rs) (ln rs)
def PM(r:List Sd)(i:Nat):Bool:= !aB r i&&((BA r i).DX||(FK r i).DX||(BA r i).JG !=(FK r i).JG)
def Ot(rs:List (List Sd)):Bool:=
 !Cm (λk=>Cm (PM (rs.getD k [])) (rs.getD k []).length) (ln rs)&&Cm (λk=>Cm (λi=> !(BA (rs.getD k []) i).DX) (rs.getD k []).length) (ln rs)
def Fe(rs:List (List Sd)):Int:=
 if rs.any (·.isEmpty)||rs.isEmpty then 5
 else if 24<ln rs.flatten then 4
 else if rs.flatten.any λs=> !Dn s then 2
 else if rs.any λr=> !Gt r then 14
 else if OF rs then 15
 else if !Na rs|| !Ot rs then 14
 else 0
def Fi(l:List Int):Int:=
 if 16<ln l then 4
 else EI (λi=>if !N (l.getD i 0) 0 1048576 then 2 else if 0<i/\l.getD i 0<=l.getD (i-1) 0 then 10 else 0) (ln l)
structure Sz where
 Ab:Int
 BX:Int
 C4:Int
deriving DecidableEq
def Ca:Sz:=⟨0,0,0⟩
def Lb(l:List Sz)(i:Nat):Int:=
 let s:=l.getD i Ca
 if s.Ab<1\/13<=s.Ab then 8 else if min s.BX s.C4<1\/1000<max s.BX s.C4 then 2
 else if Cm (λk=>(l.getD k Ca).Ab==s.Ab) i then 7 else 0
def JZ(l:List Sz):Int:=EI (Lb l) (ln l)
structure Tl where
 BX:Int
 length:Int
 It:Int
 tail:Int
deriving DecidableEq
def GI(t:Tl):Int:=if N t.BX 1 2000&&N t.length 1 2000&&N t.It 0 (t.length-1)&&N t.tail 0 1000 then 0 else 2
structure Br where
 BX:Int
 C4:Int
 length:Int
 count:Int
 cost:Int
 Aa:List (Int×Int)
deriving DecidableEq
def Fy:Br:=⟨0,0,0,0,0,[]⟩
def Q8(b:Br)(i:Nat):Int:=
 let g:=b.Aa.getD i (0,0)
 if g.1<0\/b.length<g.2\/g.2<=g.1 then 2 else if 0<i/\g.1<=(b.Aa.getD (i-1) (0,0)).2 then 10 else 0
def Gn(b:Br):Int:=
 if !(N b.BX 1 1000&&N b.C4 1 1000&&N b.length 1 65536&&N b.count 0 4096&&N b.cost 0 1073741824) then 2
 else if 16<ln b.Aa then 4
 else EI (Q8 b) (ln b.Aa)
def Kk(l:List Br):Int:=if 64<ln l then 4 else EI (λi=>Gn (l.getD i Fy)) (ln l)
structure Aw where
 BX:Int
 C4:Int
 CF:Int
 load:Int
 span:Int
deriving DecidableEq
def Dm:Aw:=⟨0,0,0,0,0⟩
def JR(a b c d:Int):Int:=if a≠0 then a else if b≠0 then b else if c≠0 then c else d
def MP(a b:Aw):Int:=JR (a.BX-b.BX) (a.C4-b.C4) (a.CF-b.CF) (a.load-b.load)
def Ro(x:Aw):Bool:=N x.BX 1 1000&&N x.C4 1 1000&&N x.CF 1 65536&&N x.load 0 1048576&&N x.span 1 65536
def Lf(l:List Aw)(i:Nat):Int:=if !Ro (l.getD i Dm) then 2 else if 0<i/\0<=MP (l.getD (i-1) Dm) (l.getD i Dm) then 10 else 0
def Ip(l:List Aw):Int:=if 4096<ln l then 4 else EI (Lf l) (ln l)
structure Ld where
 Ab:Int
 Ei:Int
 La:List UInt8
deriving DecidableEq
def Fl:Ld:=⟨0,0,[]⟩
structure Er where
 Ei:Int
 left:List UInt8
 right:List UInt8
 low:List UInt8
 Eo:List UInt8
deriving DecidableEq
def Bu:Er:=⟨0,[],[],[],[]⟩
end Kp
namespace Go.Proofs.YtalhfkdhdggdaaaGreatDoor
section
open Kp
abbrev FA(s:Sd):List AN:=[M G s.x,M G s.y,M G s.Mz,M G s.run,AU s.DX,M G s.JG,M G s.over]
abbrev FL(x y:Int):List AN:=[M G x,M G y]
abbrev Dt(a b c:Sd):List AN:=[M G a.x,M G a.y,M G a.Mz,M G a.run,AU a.DX,M G a.JG,M G a.over,M G b.x,M G b.y,M G b.Mz,M G b.run,AU b.DX,M G b.JG,M G b.over,M G c.x,M G c.y,M G c.Mz,M G c.run,AU c.DX,M G c.JG,M G c.over]
abbrev Jk(r:Gd):List AN:=[M G r.lx,M G r.ly,M G r.hx,M G r.hy]
abbrev co(n:Int):Prop:=0<=n/\n<=65536
def GB(w:V)(x y:Obj):Ext w ((w.alloc x).alloc y):=((Ad _ _).alloc (AS _) _).alloc AV _
def VD(w:V)(x y z:Obj):Ext w (((w.alloc x).alloc y).alloc z):=(GB w x y).alloc Bk _
def RL{a b m n:Int}(c: -m<=a/\a<=m)(d: -n<=b/\b<=n): -(m*n)<=a*b/\a*b<=m*n:=by
 have hm:0<=m:=D;have hn:0<=n:=D;have h1:(a*b).natAbs<=m.natAbs*n.natAbs:=by
  rw[mN];exact OZ D D
 have h2:m*n=((m.natAbs*n.natAbs:Nat):Int):=by
  rw[ZK,Int.natAbs_of_nonneg hm,Int.natAbs_of_nonneg hn]
 rw[h2];omega
def Me(s:Sd)(w:V):AZ AO 186 #[AW (FA s).toArray] w λe w'=>e=Ac (AW (FL s.x s.y).toArray)/\Ext w w':=by
 go_enter func186,ntmps186;go_wp2;refine Bp (v:= AW (FL s.x s.y).toArray) ?_ F ⟨F,GB _ _ _⟩;simp[results,results186,go_sem]
def kR(a b c d:Int)(w:V)(f:co a)(g:co b)(h:co c)(i:co d):
  AZ AO 187 #[AW (FL a b).toArray,AW (FL c d).toArray] w λe w'=>e=Ac (AW (FL (c-a) (d-b)).toArray)/\Ext w w':=by
 obtain⟨j,k⟩:=f;obtain⟨l,m⟩:=g;obtain⟨c1,c2⟩:=h;obtain⟨d1,d2⟩:=i;go_enter func187,ntmps187;go_wp2;refine Bp (v:= AW (FL (c-a) (d-b)).toArray) ?_ F ⟨F,VD _ _ _ _⟩;simp[results,results187,go_sem]
def vk(a b c d:Int)(w:V)(f: -65536<=a/\a<=65536)(g: -65536<=b/\b<=65536)(h: -65536<=c/\c<=65536)(i: -65536<=d/\d<=65536):
  AZ AO 249 #[AW (FL a b).toArray,AW (FL c d).toArray] w λe w'=>e=Ac (M G (a*d-b*c))/\Ext w w':=by
 have h1:=RL f i;have h2:=RL g h;simp only[Int.reduceMul,Int.reduceNeg] at h1 h2;obtain⟨j,k⟩:=h1;obtain⟨l,m⟩:=h2;clear f g h i;go_enter func249,ntmps249;go_wp2;go_ret;exact⟨F,GB _ _ _⟩
def vP(n a b:Int)(w:V):AZ AO 183 #[M G n,M G a,M G b] w λe w'=>e=Ac (AU (N n a b))/\w'=w:=by
 cases h:AQ (a<=n)
 .have HR:=A (show N n a b=AM by unfold N;rw[h];rfl);go_enter func183,ntmps183;exact Kx
 have HR:=A (show N n a b=AQ (n<=b) by unfold N;rw[h];rfl);go_enter func183,ntmps183;exact Kx
def Az(w:V)(b:Nat)(T:Bb)(l:List AN):Prop:=w.1[b]?=Q (.cells l.toArray T (0,0))
theorem Az.ext{l:List AN}(h:Az w b T l)(hx:Ext w w'):Az w' b T l:=(hx.block b (Ee.1 h).1).trans h
theorem Az.new(w:V)(T:Bb)(l:List AN):Az (w.alloc (.cells l.toArray T)) w.1.size T l:=Bq w _
theorem Az.cell{l:List AN}(h:Az w b T l)(i:Nat):w.cell? ⟨b,i,O⟩=l[i]?:=by unfold Az at h;simp[Dx,h]
theorem Az.lt{l:List AN}(h:Az w b T l):b<w.1.size:=(Ee.1 h).1
theorem Az.frozen{l:List AN}(h:Az w b T l)(i:Nat):w.frozen? ⟨b,i,O⟩=AM:=by unfold Az at h;simp[Hb,h]
theorem Az.GJ{x y:AN}(h:Az w b T [x,y])(u v:AN):Az ((w.setCell ⟨b,0,O⟩ u).setCell ⟨b,1,O⟩ v) b T [u,v]:=by
 unfold Az at *;simp[Di,IT,h]
theorem Az.Bo{l:List AN}(h:Az w b T l){p:An}(a:p.block≠b)(v:AN):Az (w.setCell p v) b T l:=(Gp _ _ _ _ (Ej a)).trans h
theorem Az.drew{l:List AN}(h:Az w b T l):Az w.drew b T l:=h
def Y6(a b c:Sd)(w:V)(x:co b.x)(y:co b.y)(z:co c.x)(B:co c.y):
  AZ AO 188 #[AW (Dt a b c).toArray] w λe w'=>e=Ac (AW (FL (c.x-b.x) (c.y-b.y)).toArray)/\Ext w w':=by
 have m:=(Az.new w 201 (Dt a b c)).ext ((Ad _ _).alloc (AS _) (.cells (FL 0 0).toArray 203));have d:=Az.new (w.alloc (.cells (Dt a b c).toArray 201)) 203 (FL 0 0);have j:=A (GB w (.cells (Dt a b c).toArray 201) (.cells (FL 0 0).toArray 203));rw[D5] at d;go_enter func188,ntmps188;go_wp2;have⟨W0,o⟩:=AP ((w.alloc (.cells (Dt a b c).toArray 201)).alloc (.cells (FL 0 0).toArray 203));simp only[o] at m d j⊢;clear o;have E:=λ(w':V) (h:At (w.1.size+1) W0 w') (i:Nat)=>Az.cell ((h.block _ (Wk _)).trans m:Az w' w.1.size 201 (Dt a b c)) i
 have H:=λ(w':V) (h:Ext W0 w') (i:Nat)=>(d.ext h).cell i
 have I:=λ(w':V) (h:Ext W0 w') (i:Nat)=>(d.ext h).frozen i
 have f:w.1.size+1<=W0.1.size:=FM d.lt
 go_region_held3(λw'=>At (w.1.size+1) W0 w') (first|exact g.mono f|exact l.mono f|exact k.mono f|exact((Ad _ _).drew).mono f|exact((g.mono f).setCell (p:=⟨w.1.size+1,0,O⟩) (AS _) _).setCell (p:=⟨w.1.size+1,1,O⟩) (AS _) _) (first
  |(go_at_call 187;refine(kR _ _ _ _ _ x y z B).q λr u=>?_;have g:Ext W0 r:=l.trans (u.mono l.size))
  |(go_at_call 186;(refine(Me c _).q λq t=>?_);have l:Ext W0 q:=k.trans (t.mono k.size))
  |(go_at_call 186;refine(Me b _).q λW1 s=>?_;have k:Ext W0 W1:=((Ad _ _).drew).trans (s.mono (AS _))))
 go_wp2;have n:=(d.ext g).GJ (M G (c.x-b.x)) (M G (c.y-b.y));have C:=n.cell 0;have D:=n.cell 1;refine Bp (v:= AW (FL (c.x-b.x) (c.y-b.y)).toArray) ?_ F ⟨F,?_⟩
 .simp[results,results188,go_sem,C,D]
 exact((j.trans (g.mono j.size)).setCell (p:=⟨w.1.size+1,0,O⟩) AV _).setCell (p:=⟨w.1.size+1,1,O⟩) AV _
def a4M(a b:Gd)(w:V):AZ AO 190 #[AW (Jk a).toArray,AW (Jk b).toArray] w λe w'=>e=Ac (AU (Jq a b))/\Ext w w':=by
 cases h1:AQ (a.lx<=b.hx)
 .have HR:=A (show Jq a b=AM by unfold Jq;rw[h1];rfl);exact fK
 cases h2:AQ (b.lx<=a.hx)
 .have HR:=A (show Jq a b=AM by unfold Jq;rw[h1,h2];rfl);exact fK
 cases c:AQ (a.ly<=b.hy)
 .have HR:=A (show Jq a b=AM by unfold Jq;rw[h1,h2,c];rfl);exact fK
 have HR:=A (show Jq a b=AQ (b.ly<=a.hy) by unfold Jq;rw[h1,h2,c];rfl);exact fK
def N8(a b c:Sd)(blk:Nat):Nat->AN
 |0=> Ap (Q ⟨blk,0,O⟩)
 |1=> AW (FA a).toArray
 |2=> AW (FL a.x a.y).toArray
 |3=> Ap (Q ⟨blk,7,O⟩)
 |4=> AW (FA b).toArray
 |5=> AW (FL b.x b.y).toArray
 |6=> AW (FL (b.x-a.x) (b.y-a.y)).toArray
 |7=> AW (Dt a b c).toArray
 |8=> AW (FL (c.x-b.x) (c.y-b.y)).toArray
 |9=> M G ((b.x-a.x)*(c.y-b.y)-(b.y-a.y)*(c.x-b.x))
 |_=> AU (AQ (0<(b.x-a.x)*(c.y-b.y)-(b.y-a.y)*(c.x-b.x)))
def tV(a b c:Sd)(w:V)(t:co a.x)(u:co a.y)(o:co b.x)(q:co b.y)(x:co c.x)(y:co c.y):
  AZ AO 193 #[AW (Dt a b c).toArray] w λe w'=>e=Ac (AU (AQ (0<(b.x-a.x)*(c.y-b.y)-(b.y-a.y)*(c.x-b.x))))/\Ext w w':=by
 have l:=Az.new w 201 (Dt a b c);have m:=A (show Ext w (w.alloc (.cells (Dt a b c).toArray 201)) from(Ad _ _).alloc (AS _) _);go_enter func193,ntmps193;go_wp2;have⟨W0,n⟩:=AP (w.alloc (.cells (Dt a b c).toArray 201));simp only[n] at l m⊢;clear n;refine Fz U (Pq 11
  (λw'=>Ext W0 w') (λi v _=>v=N8 a b c w.1.size i) (λ_=>AM) U (λ_ _ h k=>h.tr k) (λ_ _ _ _ h _=>h) (λ_ _ _ _ h=>Aq) ?step ?tail _ (Ext.dr W0))
 case tail=>
  intro z w' j r _;have s:=r 10 Z;clear r;simp only[FV,FY];simp only[N8] at s;go_wp2;go_ret;exact⟨by rw[s];rfl,m.tr j⟩
 case step=>
  intro i z w' hi j g;have B:=λi=>(l.ext j).cell i
  rcases(show i=0\/i=1\/i=2\/i=3\/i=4\/i=5\/i=6\/i=7\/i=8\/i=9\/i=10 by omega) with rfl|rfl|rfl|rfl|rfl|rfl|rfl|rfl|rfl|rfl|rfl<;>clear hi
  .exact yn
  .refine DC F (λK f=> ?_);have d:=g 0 U;exact ym
  .refine DC F (λK f=> ?_);have d:=g 1 U;simp only[N8] at d;go_simp;refine(Me a _).mono ?_;exact mU
  .exact yn
  .refine DC F (λK f=> ?_);have d:=g 3 U;exact ym
  .refine DC F (λK f=> ?_);have d:=g 4 U;simp only[N8] at d;go_simp;refine(Me b _).mono ?_;exact mU
  .refine DC F (λK f=> ?_);have d:=g 2 U;have d1:=g 5 U;simp only[N8] at d d1;go_simp;refine(kR _ _ _ _ _ t u o q).mono ?_;exact yl
  .refine YB F F ?_;exact NA 201 (.tmp 1) F w.1.size F 201 (Dt a b c).toArray (0,0) _ (l.ext j) underlying201 F U ⟨_,F,Ext.B9 _,F,λh=>Aq⟩
  .refine DC F (λK f=> ?_);have d:=g 7 U;simp only[N8] at d;go_simp;refine(Y6 a b c _ o q x y).mono ?_;exact mU
  .refine DC F (λK f=> ?_);have d:=g 6 U;have d1:=g 8 U;simp only[N8] at d d1;go_simp;refine(vk (b.x-a.x) (b.y-a.y) (c.x-b.x) (c.y-b.y) _ D D D D).mono ?_;exact yl
  refine DC F (λK f=> ?_);have d:=g 9 U;simp only[N8] at d;go_simp;refine f _ _ ⟨AU (AQ ((b.y-a.y)*(c.x-b.x)<(b.x-a.x)*(c.y-b.y))),by simp[d],Ext.B9 _,?_,λh=>Aq⟩;show Value.bool _=Value.bool _
  congr 1
  rw[R7];omega
def Px(lo:Nat)(v:AN)(w:V):Prop:=∃b,v=Ap (Q ⟨b,0,O⟩)/\lo<=b/\Az w b 203 (FL 0 0)
theorem Px.ext{v:AN}(h:Px lo v w)(hx:Ext w w'):Px lo v w':=by
 obtain⟨b,e,a,c⟩:=h;exact⟨b,e,a,c.ext hx⟩
theorem Px.lt{v:AN}(h:Px lo v w):∃b,v=Ap (Q ⟨b,0,O⟩)/\b<w.1.size:=by
 obtain⟨b,e,c,a⟩:=h;exact⟨b,e,a.lt⟩
def Ny(b c:Sd)(blk lo:Nat):Nat->AN->V->Prop
 |0,v,_=>v=Ap (Q ⟨blk,7,O⟩)
 |1,v,_=>v=AW (FA b).toArray
 |2,v,_=>v=AW (FL b.x b.y).toArray
 |3,v,_=>v=Ap (Q ⟨blk,14,O⟩)
 |4,v,_=>v=AW (FA c).toArray
 |5,v,_=>v=AW (FL c.x c.y).toArray
 |_,v,w=>Px lo v w
theorem a9w{b c:Sd}{v:AN}(h:Ny b c blk lo i v w)(hx:Ext w w'):Ny b c blk lo i v w':=by
 unfold Ny at *
 grind [Px.ext]
theorem b22{w W:V}{a:BV}{lx ly hx hy:Int}{b c:Sd}(h2:a.tmps[2]?=Q (Ap (Q ⟨blk,0,O⟩)))(n:a.defers=[])(m:Az W blk 210 (Jk ⟨0,0,0,0⟩))
  (g:lx=min b.x c.x)(h:ly=min b.y c.y)(j:hx=max b.x c.x)(k:hy=max b.y c.y)(l:Ext w W)(d:w.1.size<=blk):
  bodyPost AO f189 (λe w'=>e=Ac (AW (Jk ⟨min b.x c.x,min b.y c.y,max b.x c.x,max b.y c.y⟩).toArray)/\Ext w w') .ret a
   ((((W.setCell ⟨blk,0,O⟩ (M G lx)).setCell ⟨blk,1,O⟩ (M G ly)).setCell ⟨blk,2,O⟩ (M G hx)).setCell ⟨blk,3,O⟩ (M G hy)):=by
 subst g h j k;have f:Az ((((W.setCell ⟨blk,0,O⟩ (M G (min b.x c.x))).setCell ⟨blk,1,O⟩ (M G (min b.y c.y))).setCell ⟨blk,2,O⟩ (M G (max b.x c.x))).setCell ⟨blk,3,O⟩ (M G (max b.y c.y))) blk 210 (Jk ⟨min b.x c.x,min b.y c.y,max b.x c.x,max b.y c.y⟩):=by
  unfold Az at *;simp[Di,IT,m]
 have q:=λi=>f.cell i
 refine Bp ?_ n ⟨F,?_⟩
 .simp[results,go_sem,h2,q]
 exact(((l.setCell d _).setCell d _).setCell d _).setCell d _
def a56(a b c:Sd)(w:V):
  AZ AO 189 #[AW (Dt a b c).toArray] w λe w'=>e=Ac (AW (Jk ⟨min b.x c.x,min b.y c.y,max b.x c.x,max b.y c.y⟩).toArray)/\Ext w w':=by
 have n:=(Az.new w 201 (Dt a b c)).ext ((Ad _ _).alloc (AS _) (.cells (Jk ⟨0,0,0,0⟩).toArray 210));have g:=Az.new (w.alloc (.cells (Dt a b c).toArray 201)) 210 (Jk ⟨0,0,0,0⟩);have m:=A (GB w (.cells (Dt a b c).toArray 201) (.cells (Jk ⟨0,0,0,0⟩).toArray 210));rw[D5] at g;go_enter func189,ntmps189;go_wp2;have⟨W0,y⟩:=AP ((w.alloc (.cells (Dt a b c).toArray 201)).alloc (.cells (Jk ⟨0,0,0,0⟩).toArray 210));simp only[y] at n g m⊢;have T:w.1.size+2<=W0.1.size:=g.lt;clear y;refine Fz U (Pq 8
  (λw'=>Ext W0 w') (Ny b c w.1.size W0.1.size) (λi=>i==6||i==7) U (λ_ _ h k=>h.tr k) (λ_ _ _ _ h k=>a9w h k) ?fr ?step ?tail _ (Ext.dr W0))
 case fr=>
  intro i v w' hi z d;simp only[QJ,C9] at z;rcases z with rfl|rfl<;>exact Px.lt d
 case step=>
  intro i R w' hi f l;have S:=λi=>(n.ext f).cell i
  rcases(show i=0\/i=1\/i=2\/i=3\/i=4\/i=5\/i=6\/i=7 by omega) with rfl|rfl|rfl|rfl|rfl|rfl|rfl|rfl<;>clear hi<;>refine DC rfl (λK hK=> ?_)
  .exact Ek
  .have d0:=l 0 U;simp only[Ny] at d0;go_simp;exact hK _ _ ⟨_,by simp[d0,Ny],Ext.B9 _,rfl,λh=>Aq⟩
  .have d1:=l 1 U;simp only[Ny] at d1;go_simp;refine(Me b _).q λW1 s=>?_;exact hK _ _ ⟨_,by simp[d1,Ny],s,rfl,λh=>Aq⟩
  .exact Ek
  .have d3:=l 3 U;simp only[Ny] at d3;go_simp;exact hK _ _ ⟨_,by simp[d3,Ny],Ext.B9 _,rfl,λh=>Aq⟩
  .have d4:=l 4 U;simp only[Ny] at d4;go_simp;refine(Me c _).q λW1 s=>?_;exact hK _ _ ⟨_,by simp[d4,Ny],s,rfl,λh=>Aq⟩
  .exact yo
  exact yo
 case tail=>
  intro R w' f d B;have v2:=d 2 Z;have v5:=d 5 Z;have⟨p,o,W,u⟩:=d 6 Z;have⟨q,r,X,x⟩:=d 7 Z;have t:=B 6 7 Z Z Z F F;simp only[Ny] at v2 v5;clear d B;rw[o,r] at t;have P:p≠q:=λh=>t (by rw[h])
  clear t;have j:=g.ext f;have H:=λi=>u.cell i
  have I:=λi=>x.cell i
  have L:=λi=>u.frozen i
  have N:=λi=>x.frozen i
  have J:=λi=>j.cell i
  have fr:=λi=>j.frozen i
  have Y:¬q=p:=λh=>P h.symm
  have n2:¬w.1.size+1=p:=D;have n3:¬w.1.size+1=q:=D;have C:¬p=w.1.size+1:=D;have E:¬q=w.1.size+1:=D;simp only[FV,FY,o,r,v2,v5];clear o r v2 v5;go_wp2;all_goals clear H I L N J fr u x g n
  all_goals refine b22 (blk:=w.1.size+1) (b:=b) (c:=c) ?_ ?_ ((((j.Bo (p:=⟨p,0,O⟩) C (M G b.x)).Bo (p:=⟨p,1,O⟩) C (M G b.y)).Bo (p:=⟨q,0,O⟩) E (M G c.x)).Bo (p:=⟨q,1,O⟩) E (M G c.y)) ?_ ?_ ?_ ?_ (((((m.tr f).setCell (p:=⟨p,0,O⟩) Bk (M G b.x)).setCell (p:=⟨p,1,O⟩) Bk (M G b.y)).setCell (p:=⟨q,0,O⟩) Bk (M G c.x)).setCell (p:=⟨q,1,O⟩) Bk (M G c.y)) (Nat.le_succ _)
  all_goals first|(with_reducible rfl)|(clear j m f;omega)|rfl
theorem Rs(h:p:=by
  go_enter func113,ntmps113;go_wp2_with(go_at_call 183;refine(vP _ _ _ _).mono ?_;rintro e W1 ⟨rfl,rfl⟩;first|rw[h1]|rw[h2]|rw[t1]|rw[t2]|rw[t3]|rw[t4]|skip)
  iterate 6 try(first
   |(go_ret;exact⟨Fo,by first|exact GB _ _ _|exact(Ad _ _).alloc (AS _) _⟩)
   |((first|rw[LP]|(refine QK 5 ?_;rw[LP]));go_wp2_with(go_at_call 183;refine(vP _ _ _ _).mono ?_;rintro e W1 ⟨rfl,rfl⟩;first|rw[h1]|rw[h2]|rw[t1]|rw[t2]|rw[t3]|rw[t4]|skip)))):p:=h
theorem xf(h:p:=by
  cases t1:N s.x 0 65536
  .have HR:=A (show Dn s=AM by rw[a,t1];simp);clear a;exact Rs
  cases t2:N s.y 0 65536
  .have HR:=A (show Dn s=AM by rw[a,t2];simp);clear a;exact Rs
  cases t3:N s.JG 0 65536
  .have HR:=A (show Dn s=AM by rw[a,t3];simp);clear a;exact Rs
  cases t4:N s.over 0 65536
  .have HR:=A (show Dn s=AM by rw[a,t4];simp);clear a;exact Rs
  have HR:=A (show Dn s=AL by rw[a,t1,t2,t3,t4];simp);clear a;exact Rs):p:=h
def a2B(s:Sd)(w:V):AZ AO 113 #[AW (FA s).toArray] w λe w'=>e=Ac (AU (Dn s))/\Ext w w':=by
 cases b:s.DX
 .cases h1:N s.Mz 1 48
  .have HR:=A (show Dn s=AM by unfold Dn;rw[b];rw[h1];rfl);exact Rs
  cases h2:N s.run 1 48
  .have HR:=A (show Dn s=AM by unfold Dn;rw[b];rw[h1,h2];rfl);exact Rs
  have a:Dn s=(N s.x 0 65536&&N s.y 0 65536&&N s.JG 0 65536&&N s.over 0 65536):=by
   unfold Dn;rw[b];rw[h1,h2];simp[eM]
  exact xf
 cases h1:(s.Mz !=0)
 case true=>
  have HR:=A (show Dn s=AM by unfold Dn;rw[b];simp only[SO];rw[show(s.Mz==0)=AM by simpa using h1];rfl);exact Rs
 cases h2:(s.run !=0)
 case true=>
  have HR:=A (show Dn s=AM by unfold Dn;rw[b];simp only[SO];rw[show(s.run==0)=AM by simpa using h2];simp);exact Rs
 have a:Dn s=(N s.x 0 65536&&N s.y 0 65536&&N s.JG 0 65536&&N s.over 0 65536):=by
  unfold Dn;rw[b];rw[show(s.Mz==0)=AL by simpa using h1,show(s.run==0)=AL by simpa using h2];simp[eM]
 exact xf
def aY(n a b:Int)(w:V):AZ AO 65 #[M G n,M G a,M G b] w λe w'=>e=Ac (AU (N n a b))/\w'=w:=by
 cases h:AQ (a<=n)
 .have HR:=A (show N n a b=AM by unfold N;rw[h];rfl);go_enter func65,ntmps65;exact Kx
 have HR:=A (show N n a b=AQ (n<=b) by unfold N;rw[h];rfl);go_enter func65,ntmps65;exact Kx
def Xt(n a b:Int)(w:V):AZ AO 128 #[M G n,M G a,M G b] w λe w'=>e=Ac (AU (N n a b))/\w'=w:=by
 cases h:AQ (a<=n)
 .have HR:=A (show N n a b=AM by unfold N;rw[h];rfl);go_enter func128,ntmps128;exact Kx
 have HR:=A (show N n a b=AQ (n<=b) by unfold N;rw[h];rfl);go_enter func128,ntmps128;exact Kx
def U3(n a b:Int)(w:V):AZ AO 197 #[M G n,M G a,M G b] w λe w'=>e=Ac (AU (N n a b))/\w'=w:=by
 cases h:AQ (a<=n)
 .have HR:=A (show N n a b=AM by unfold N;rw[h];rfl);go_enter func197,ntmps197;exact Kx
 have HR:=A (show N n a b=AQ (n<=b) by unfold N;rw[h];rfl);go_enter func197,ntmps197;exact Kx
def ah(n a b:Int)(w:V):AZ AO 125 #[M G n,M G a,M G b] w λe w'=>e=Ac (AU (N n a b))/\w'=w:=by
 cases h:AQ (a<=n)
 .have HR:=A (show N n a b=AM by unfold N;rw[h];rfl);go_enter func125,ntmps125;exact Kx
 have HR:=A (show N n a b=AQ (n<=b) by unfold N;rw[h];rfl);go_enter func125,ntmps125;exact Kx
def U5(n a b:Int)(w:V):AZ AO 80 #[M G n,M G a,M G b] w λe w'=>e=Ac (AU (!N n a b))/\w'=w:=by
 cases h:AQ (n<a)
 .have HR:=A (show(!N n a b)=AQ (b<n) by
   unfold N;rw[CX] at h;rw[show AQ (a<=n)=AL by rw[Cx];omega,Hu,<-eo,R7];omega)
  go_enter func80,ntmps80;exact Kx
 have HR:=A (show(!N n a b)=AL by
  unfold N;rw[Cx] at h;rw[show AQ (a<=n)=AM by rw[CX];omega];rfl)
 go_enter func80,ntmps80;exact Kx
def a6c(n a b:Int)(w:V):AZ AO 222 #[M G n,M G a,M G b] w λe w'=>e=Ac (AU (!N n a b))/\w'=w:=by
 cases h:AQ (n<a)
 .have HR:=A (show(!N n a b)=AQ (b<n) by
   unfold N;rw[CX] at h;rw[show AQ (a<=n)=AL by rw[Cx];omega,Hu,<-eo,R7];omega)
  go_enter func222,ntmps222;exact Kx
 have HR:=A (show(!N n a b)=AL by
  unfold N;rw[Cx] at h;rw[show AQ (a<=n)=AM by rw[CX];omega];rfl)
 go_enter func222,ntmps222;exact Kx
def kB(n a b:Int)(w:V):AZ AO 230 #[M G n,M G a,M G b] w λe w'=>e=Ac (AU (!N n a b))/\w'=w:=by
 cases h:AQ (n<a)
 .have HR:=A (show(!N n a b)=AQ (b<n) by
   unfold N;rw[CX] at h;rw[show AQ (a<=n)=AL by rw[Cx];omega,Hu,<-eo,R7];omega)
  go_enter func230,ntmps230;exact Kx
 have HR:=A (show(!N n a b)=AL by
  unfold N;rw[Cx] at h;rw[show AQ (a<=n)=AM by rw[CX];omega];rfl)
 go_enter func230,ntmps230;exact Kx
def ux(n a b:Int)(w:V):AZ AO 156 #[M G n,M G a,M G b] w λe w'=>e=Ac (AU (!N n a b))/\w'=w:=by
 cases h:AQ (n<a)
 .have HR:=A (show(!N n a b)=AQ (b<n) by
   unfold N;rw[CX] at h;rw[show AQ (a<=n)=AL by rw[Cx];omega,Hu,<-eo,R7];omega)
  go_enter func156,ntmps156;exact Kx
 have HR:=A (show(!N n a b)=AL by
  unfold N;rw[Cx] at h;rw[show AQ (a<=n)=AM by rw[CX];omega];rfl)
 go_enter func156,ntmps156;exact Kx
def b2N(s l:Int)(w:V):AZ AO 200 #[M G s,M G l] w λe w'=>e=Ac (AU (N s 1 65536&&N l 0 1048576))/\w'=w:=by
 cases d:N s 1 65536
 .go_enter func200,ntmps200;exact a01
 cases a:N l 0 1048576;all_goals
  go_enter func200,ntmps200;go_wp2_with(go_at_call 128;refine(Xt _ _ _ _).mono ?_;rintro e W1 ⟨rfl,rfl⟩;first|rw[d]|rw[a])
  go_ret;exact⟨F,F⟩
def a2i(a b s l:Int)(w:V):AZ AO 127 #[M G a,M G b,M G s,M G l] w λe w'=>e=Ac (AU (N a 1 1000&&N b 1 1000&&(N s 1 65536&&N l 0 1048576)))/\w'=w:=by
 cases d:N a 1 1000
 .go_enter func127,ntmps127;exact a01
 cases i:N b 1 1000
 .go_enter func127,ntmps127;go_wp2_with(go_at_call 128;refine(Xt _ _ _ _).mono ?_;rintro e W1 ⟨rfl,rfl⟩;first|rw[d]|rw[i])
  go_ret;exact⟨F,F⟩
 have⟨c,f⟩:=AP (N s 1 65536&&N l 0 1048576);rw[f];have g:=A (b2N s l w);rw[f] at g;clear f;cases c;all_goals
  go_enter func127,ntmps127;go_wp2_with(first
   |(go_at_call 200;refine g.mono ?_;rintro e W1 ⟨rfl,rfl⟩)
   |(go_at_call 128;refine(Xt _ _ _ _).mono ?_;rintro e W1 ⟨rfl,rfl⟩;first|rw[d]|rw[i]))
  go_ret;exact⟨F,F⟩
def oA(w:V)(k q:Nat)(T:Bb)(a b c d:Int)(f:Az w k T [M G a,M G b,M G c,M G d]):
  AZ AO 201 #[AK (Q ⟨k,0,O⟩) 4 q] w λe w'=>e=Ac (M G (JR a b c d))/\w'=w:=by
 have c0:=f.cell 0;have c1:=f.cell 1;have c2:=f.cell 2;have c3:=f.cell 3;clear f;cases g:(a !=0)
 case true=>
  have HR:=A (show JR a b c d=a by unfold JR;rw[Aj (by simpa using g)]);go_enter func201,ntmps201;go_wp2;refine QK 5 ?_;exact ZT
 cases i:(b !=0)
 case true=>
  have HR:=A (show JR a b c d=b by unfold JR;rw[Af (by simpa using g)];rw[Aj (by simpa using i)]);go_enter func201,ntmps201;go_wp2;refine QK 5 ?_;rw[LP];go_wp2;exact ZT
 cases j:(c !=0)
 case true=>
  have HR:=A (show JR a b c d=c by unfold JR;rw[Af (by simpa using g)];rw[Af (by simpa using i)];rw[Aj (by simpa using j)]);go_enter func201,ntmps201;go_wp2;refine QK 5 ?_;exact a02
 cases l:(d !=0)
 case true=>
  have HR:=A (show JR a b c d=d by unfold JR;rw[Af (by simpa using g)];rw[Af (by simpa using i)];rw[Af (by simpa using j)]);go_enter func201,ntmps201;go_wp2;refine QK 5 ?_;rw[LP];go_wp2;exact a02
 have HR:=A (show JR a b c d=0 by unfold JR;rw[Af (by simpa using g)];rw[Af (by simpa using i)];(first|(rw[Af (by simpa using j)];done)|(rw[Af (by simpa using j)];simpa using l)));go_enter func201,ntmps201;go_wp2;refine QK 5 ?_;rw[LP];go_wp2;rw[LP];go_wp2;rw[LP];go_wp2;rw[LP];go_wp2;rw[LP];go_wp2;go_ret;exact⟨Fo,rfl⟩
def SY(z:Nat)(v:AN):Prop:=∀C n c,v=AK C n c->(C=O->c=0)/\∀a,C=Q a->z<=a.block
theorem SY.tr{v:AN}(h:SY z v)(l:List Nat):SY z (QT v l):=by
 intro C n c e;cases v with
 |slice d i f=>unfold QT at e;injection e with a g b;subst a b;exact h _ _ _ F
 |_=>cases e
theorem iG{base n s:Nat}{t:Bb}{v:AN}{Y:List AN}(h:w.ownsRow base t s v n Y):SY base v:=by
 obtain⟨_,⟨rfl,_⟩|⟨g,q,cur,rfl,d,_⟩⟩:=h
 .intro C n c e;injection e with a _ b;subst a b;exact⟨λ_=>rfl,λ_ h=>Aq⟩
 intro C n c e;injection e with a _ b;subst a b;exact⟨λh=>Aq,λ_ h=>(by injection h with h;subst h;exact d)⟩
def Uy(P:List Nat->Prop)(w:V)(e:CI)(w':V):Prop:=∃v l,e=Ac v/\BH w' w'.1.size v l/\EJ l/\P l/\Ext w w'/\SY w.1.size v
def ju{f:Nat->Nat×Nat}(h:∀k,(f (k+1)).1<1000000)(n:Nat):E4 (Cs f n):=by
 intro d a;unfold Cs at a;obtain⟨i,_,rfl⟩:=Jg.1 a;exact h i
def jl{a b:List Nat}(c:E4 a)(d:E4 b)(j:ln b<=ln a)(l:BC b<=BC a):BC (Bn (Cs (ER a b) (ln a)))=BC a-BC b:=by
 have h:=a8V c d (ln a);rw[Sl];have e:S6 (I (Cs (ER a b) (ln a))) (ln a)=BC (Cs (ER a b) (ln a)):=VT (Uf (LX _ _));have f:S6 (I b) (ln a)=BC b:=VT j;have g:S6 (I a) (ln a)=BC a:=rfl;rw[e,f,g] at h;have h1:=dV (ju (λk=>(Yg c d k).2) (ln a));rw[LX] at h1;have h2:=(Yg c d (ln a)).1;rcases Ht (ER a b (ln a)).2 1 with i|i
 .rw[show(ER a b (ln a)).2=0 by omega,TN] at h;omega
 rw[show(ER a b (ln a)).2=1 by omega,H7] at h;omega
def pB(w:V)(t:Bb):(w.alloc (.cells #[] t)).ownsRow w.1.size t 1 (AK (Q ⟨w.1.size,0,O⟩) 0 0) 0 []:=
 ⟨rfl,.inr ⟨w.1.size,0,#[],rfl,AS _,Bq w _,AS _,Fp,rfl,rfl⟩⟩
def jG(w:V)(a b:List Nat)(va vb:AN)(R:BH w w.1.size va a)(hb:BH w w.1.size vb b)(T:E4 a)(U:E4 b)(an:ln a<=1000000):
  AZ AO 289 #[va,vb] w (Uy (λl=>l=Bn (Cs (ER a b) (ln a))) w):=by
 have⟨i0,ae,ah,ai,aj⟩:=DM OG;have I0:=A ae;have I1:=A ah;have I2:=A ai;have I3:=A aj;have HA:=A R;have HB:=A hb;obtain⟨C,ca,rfl,ak,al,_⟩:=id R;have HC:=A (U4 (ju (λk=>(Yg T U k).2) (ln a)));have HM:=A (λk=>Yg T U k);unfold BM at al;have⟨n,hn⟩:=AP (ln a);have B:=A hn;rw[hn];rw[hn] at an ak HC HA;clear R hb ae ah ai aj hn;go_enter func289,ntmps289;go_wp2;go_loopw [5,6,7] (λv c i wr=>lN w (ER a b) n v c i wr) (λ_ _ i _=>((n:Int)-B8 i).toNat)
 case atStart=>exact⟨0,D,rfl,rfl,pB _ _,(Ad _ _).alloc (AS _) _⟩
 obtain⟨k,hk,rfl,rfl,af,f⟩:=hrel;have d:=A af;have N:=A f;have ag:=(HA.below f);have S:=(HB.below f);have aw:=f.size;clear af f;by_cases ax:k<n
 .have C2:=A (λm=>wM (wr.drewN m) _ _ b k S D);obtain⟨_,_,e,_,_,q⟩:=ag;injection e with P e2 e3
  clear e2;subst P e3;obtain⟨b1,o1,rfl,_,c1⟩:=q Nr
  replace c1:=c1 k Nr
  have L:=A (Sh (ER a b) k);have t:(ER a b (k+1)).1=if I b k+(ER a b k).2<=I a k then I a k-(I b k+(ER a b k).2) else I a k+1000000-(I b k+(ER a b k).2):=rfl;have z:(ER a b (k+1)).2=if I b k+(ER a b k).2<=I a k then 0 else 1:=rfl;have ap:I a k<1000000:=GS T k;have aq:I b k<1000000:=GS U k;have ar:=(HM k).1;have⟨p,H⟩:=AP (I a k);have⟨r,J⟩:=AP (I b k);have⟨c,g⟩:=AP ((ER a b k).2);have⟨x,hx⟩:=AP ((ER a b (k+1)).1);have⟨y,hy⟩:=AP ((ER a b (k+1)).2);rw[hx,H,J,g] at t;rw[hy,H,J,g] at z;rw[H] at c1 ap;rw[J] at C2 aq;rw[g] at ar;rw[g];rw[hx] at L;have HY:=A hy;have am:w.1.size<=(wr.alloc (.cells #[M G (x:Int)] 3)).1.size:=Bk;have ad:∀m,w.1.size<=((wr.drewN m).alloc (.cells #[M G (x:Int)] 3)).1.size:=by intro m;simp;omega
  have aa:=A ad;have K:=A (λm=>EV d ((below_drewN (Ad wr.1.size wr) m).alloc AV (.cells #[M G (x:Int)] 3)));have⟨vs,X⟩:=AP (Ls (Cs (ER a b) k));rw[X] at d K;have ac:=A X;have w1:G.wrap ((p:Int)-(r:Int))=(p:Int)-r:=DF _ D;have w2:G.wrap ((p:Int)-(r:Int)-(c:Int))=(p:Int)-r-c:=DF _ D;have w3:G.wrap ((p:Int)-(r:Int)-(c:Int)+1000000)=(p:Int)-r-c+1000000:=DF _ D;clear S H J g hx hy q X ad am;have av:=A hk;have ab:=A (λ(m j:Nat) (u:AN) (hj:[Gr .i64 (x:Int)][j]?=Q u)=>show((wr.drewN m).alloc (.cells #[M G (x:Int)] 3)).cell? ((⟨wr.1.size,0,O⟩:An).add j)=Q u by rw[OV,IU];exact((Az.new (wr.drewN m) 3 [M G (x:Int)]).cell j).trans hj);have Z:=A (show∀(Y:Nat) (v':AN) (m:Nat) (w':V),(ER a b (k+1)).2=Y->w'.ownsRow w.1.size 3 1 v' (k+1) (vs++[M G (x:Int)])->((wr.drewN m).alloc (.cells #[M G (x:Int)] 3)).grownBy w' u5.ownBlock->lN w (ER a b) n v' (M G (Y:Int)) (M G ((k:Int)+1)) w' fromλY v' m w' au s o=>by
   refine⟨k+1,D,AV,by rw[au],?_,KY (((below_drewN N m)).alloc (by have:=N.size;simp;omega) _) o (λq hq=>(DS d q hq).1)⟩;have e:Ls (Cs (ER a b) (k+1))=vs++[M G (x:Int)]:=by rw[<-ac.o,L.o];unfold Ls;rw[PU];rfl
   rw[e];exact s)
  clear ac L;by_cases E:r+c<=p
  .rw[Aj E] at t z;have t1:¬(p:Int)-r-c<0:=D;have P:(p:Int)-r-c=(x:Int):=D;have t2:¬(x:Int)<0:=D;clear t E;subst z;go_wp2_with fail
   go_quiet ((go_at_call 288;exact OW (C2 _)))
   go_wp2_with(at_builtin;(refine Ln _ F _ _ _ F w.1.size 3 i0 _ 1 8 FD I0 I1 I2 I3 F D _ _ _ F (K _) ⟨wr.1.size,0,O⟩ 1 1 [M G (x:Int)] F BE (ab _) QP Fp D (aa _) ?_);intro v' w' s o ao)
   go_round
   case rel=>exact Z 0 _ _ _ HY s o
   simp[B8];omega
  rw[Af E] at t z;have t1:(p:Int)-r-c<0:=D;have P:(p:Int)-r-c+1000000=(x:Int):=D;clear t E;subst z;go_wp2_with fail
  go_quiet ((go_at_call 288;exact OW (C2 _)))
  go_wp2_with(at_builtin;(refine Ln _ F _ _ _ F w.1.size 3 i0 _ 1 8 FD I0 I1 I2 I3 F D _ _ _ F (K _) ⟨wr.1.size,0,O⟩ 1 1 [M G (x:Int)] F BE (ab _) QP Fp D (aa _) ?_);intro v' w' s o ao)
  go_round
  case rel=>exact Z 1 _ _ _ HY s o
  simp[B8];omega
 obtain rfl:k=n:=D;have ay:¬(k:Int)<(k:Int):=D;have W:=Sk d (LX (ER a b) k);have CT:=A (Ri wr wr.1.size u5 (Cs (ER a b) k) W);have HS:=A (show Uy (λl=>l=Bn (Cs (ER a b) k)) w (Ac (QT u5 (Cs (ER a b) k))) wr from⟨_,_,F,W.trimmed,HC,F,N,(iG d).tr _⟩);clear W ag S;exact zY
def ku(w1:V)(g:Nat)(a b:List Nat)(i k:Nat)(c:AN)(w':V):Prop:=
 ∃(d:Nat) (out:List Nat),c=M G (d:Int)/\Row w' g (ln a+ln b+1) out/\NQ a b i k d out/\EO g w1 w'
def xB(w1:V)(g:Nat)(a b:List Nat)(i:AN)(w':V):Prop:=∃k:Nat,k<=ln a/\i=M G (k:Int)/\ku w1 g a b k 0 (M G 0) w'
def xK(w1:V)(g:Nat)(a b:List Nat)(i:Nat)(c k:AN)(w':V):Prop:=∃n:Nat,n<=ln a+ln b+1/\k=M G (n:Int)/\ku w1 g a b i n c w'
def vm(w:V)(a b:List Nat)(va vb:AN)(y:BH w w.1.size va a)(z:BH w w.1.size vb b)(B:E4 a)(P:Xg b)(ay:ln a<=1000000)(az:ln b<=1000000):
  AZ AO 290 #[va,vb] w (Uy (λl=>BC l=BC a*BC b/\ln l<=ln a+ln b+1) w):=by
 obtain⟨C,ca,rfl,ar,ah,t⟩:=id y;obtain⟨A',cb,rfl,au,ai,aj⟩:=id z;unfold BM at ah ai;have⟨i0,hi,aa,ab,ac⟩:=DM OG;have v:=A P;go_enter func290,ntmps290;go_wp2_with(at_make;refine Wj _ F _ _ 25 F w.1.size 3 i0 (M G 0) 1 FD hi aa ab .i64 .i64 _ _ (ln a+ln b+1) F F D D (by rw[ac];omega) Fp (AS _) ?_;intro w1 X T)
 have Y:=aq X;have u:At w.1.size w w1:=(Ad _ w).grown T (AS _) AV;have ao:=y.below u;have ap:=z.below u;have HS:=A (show ku w1 w.1.size a b 0 0 (M G 0) w1 from⟨0,_,F,Y,NQ.BI a b,EO.refl _ _⟩);have ad:=A u;clear X T Y y z hi aa ab ac t aj u P;go_loopw [6] (λi wr=>xB w1 w.1.size a b i wr) (λi _=>ln a-(B8 i).toNat)
 case atStart=>exact⟨0,D,rfl,HS⟩
 obtain⟨i,hi,rfl,cN,out,K,o,d,f⟩:=hrel;have q:=A o;have s:=A d;have HO:=A f;obtain⟨ag,ak⟩:∃c:Nat,c=0:=⟨0,F⟩;obtain rfl:cN=0:=by injection K with _ e;omega
 clear d o K ag ak;by_cases W:i<ln a
 .clear f;go_wp2_with fail
  go_loopw [7,8] (λc k wi=>xK w1 w.1.size a b i c k wi) (λ_ k _=>ln a+ln b+2-(B8 k).toNat)
  case atStart=>exact⟨0,D,rfl,0,out,rfl,q,s,HO⟩
  obtain⟨k,hk,rfl,c,g,rfl,o,d,f⟩:=hrel;have av:=d.carry;have J:=A d;by_cases S:k<ln b\/0<c
  .have hin:i+k<ln a+ln b+1:=by
    by_cases h:k<ln b
    .omega
    exact J.inside B v W D D
   have sa:=f.sl ao (AS _);have sb:=f.sl ap (AS _);have aD:I a i<1000000:=GS B i;obtain⟨_,_,e,_,_,t⟩:=sa;injection e with r x L
   clear x;subst r L;obtain⟨ba,oa,rfl,_,N⟩:=t D;have hc:=N i W;have hx:=o.cell (j:=i+k) (by rw[d.len];omega);have aw:=o.frozen (i+k);have aB:I g (i+k)<1000000:=GS d.Bf (i+k);have aC:=v.xQ k;have hq:I a i*I b k<=999999*999999999999:=OZ D D;have al:0<=(I a i:Int)*(I b k:Int)/\(I a i:Int)*(I b k:Int)<=999998999999000001:=by
    rw[show(I a i:Int)*(I b k:Int)=((I a i*I b k:Nat):Int) by simp];omega
   obtain⟨aA,EZ⟩:=al;have HN:=A (λm=>(⟨k+1,D,rfl,_,_,rfl,(o.drewN m).set (j:=i+k) (by rw[d.len];omega) _,d.next B v hin,(f.drewN m).set _ _⟩:xK w1 w.1.size a b i _ (M G ((k+1:Nat):Int)) _));have w1:G.wrap ((i:Int)+k)=i+k:=EN D D;have aF:0<=(i:Int)+k:=D;have aG:((i:Int)+k).toNat=i+k:=D;have aH:(i:Int)+k<ln a+ln b+1:=D;have w3:G.wrap ((I a i:Int)*(I b k:Int))=I a i*I b k:=EN D D;have w2:G.wrap ((I g (i+k):Int)+(I a i:Int)*(I b k:Int))=I g (i+k)+I a i*I b k:=EN D D;have w4:G.wrap ((I g (i+k):Int)+(I a i:Int)*(I b k:Int)+c)=I g (i+k)+I a i*I b k+c:=EN D D;have ax:k<=4000000:=D;clear N t o d f hin J hq;have⟨tb,an⟩:=AP (AQ (k<ln b));have Z:tb=AM->AQ (0<c)=AL:=by
    intro h1;subst h1;rw[CX] at an;rw[Cx];omega
   have af:=A Z;clear Z S;cases tb with
   |false=>
    have tc:=af F;have aE:AQ (0<(c:Int))=AL:=by rw[Cx] at tc⊢;omega
    exact zZ
   |true=>
    exact zZ
  obtain rfl:c=0:=D;have ae:=A (⟨i+1,D,rfl,0,g,rfl,o,d.row D,f⟩:xB w1 w.1.size a b (M G ((i+1:Nat):Int)) wr);have g1:¬k<ln b:=D;clear S d o f;go_wp2_with fail
  exact⟨ae,Bm⟩
 obtain rfl:i=ln a:=D;have U:=s.len;have R:Uy (λl=>BC l=BC a*BC b/\ln l<=ln a+ln b+1) w (Ac (QT (AK (Q ⟨w.1.size,0,O⟩) (ln out) (ln a+ln b+1)) out)) wr:=by
  have am:=q.sl q.lt;exact⟨_,Bn out,F,am.trimmed,U4 s.Bf,⟨by rw[Sl];exact s.done,BJ (Lt _) D⟩,ad.trans (f.below (AS _)),SY.tr (λC n c e=>by injection e with r _ L;subst r;exact⟨λh=>Aq,λ_ h=>(by injection h with h;subst h;exact AS _)⟩) _⟩
 have H:=A R;have E:=A (Ri wr _ _ out (q.sl q.lt));rw[U] at E H;clear R f U;go_wp2_with(go_at_call 286;refine E.mono ?_;rintro e w' ⟨rfl,rfl⟩)
 go_ret;exact H
def XV(X b:Nat)(w:V)(e:CI)(w':V):Prop:=∃c a l,e=Ac (BO #[c,a])/\BH w' w'.1.size a l/\EJ l/\BC l=X%b/\Ext w w'
def Sc(a:List Nat)(k:Nat):Nat:=BC (a.drop k)
theorem q9(h:k<ln a):Sc a k=I a k+1000000*Sc a (k+1):=by
 grind [Sc,List.drop_eq_getElem_cons,bT,ON]
def sj(a:List Nat):Sc a (ln a)=0:=by unfold Sc;rw[List.drop_length];rfl
def qD(x h d:Nat):
  (h%d*1000000+x)%d=(x+1000000*h)%d:=by
 rw[Np,Nat.add_mod,Nat.mod_mul_mod,DL h,<-Nat.add_mod]
def lF(w1:V)(a:List Nat)(g n d:Nat)(r i:AN)(w':V):Prop:=∃(k b:Nat) (q:List Nat),k<=n/\i=M G ((k:Int)-1)/\r=M G (b:Int)/\b<d/\b=Sc a k%d/\ln q=n/\Row w' g n q/\EO g w1 w'
def YV(r:Nat):BC [r]=r:=by simp[BC,S6,I]
def b49{a r d:Nat}(h1:a<1000000)(h2:r<1000000)(b:1<=d):G.wrap (((r:Int)*1000000+(a:Int)).tdiv d)=(((r*1000000+a)/d:Nat):Int):=by
 grind [IntWalk.i64_quo]
def b3a{a r d:Nat}:((r:Int)*1000000+(a:Int)).tmod d=(((r*1000000+a)%d:Nat):Int):=by
 grind
def a1S(w:V)(a:List Nat)(H:AN)(d:Nat)(s:BH w w.1.size H a)(ac:E4 a)(W:1<=d)(ai:d<1000000)(ak:ln a<=1000000):
  AZ AO 287 #[H,M G (d:Int)] w (XV (BC a) d w):=by
 obtain⟨C,ca,rfl,ag,ah,t⟩:=id s;have⟨i0,hi,ad,ae,al⟩:=DM OG;have⟨n,hn⟩:=AP (ln a);go_enter func287,ntmps287;go_wp2_with(refine Wj _ rfl _ _ 25 rfl _ 3 i0 _ 1 FD hi ad ae .i64 .i64 _ _ n rfl rfl D D Al (by grind [BM]) (AS _) ?_;intro w1 Y X)
 have ab:=aq Y;have u:=(Ad _ w).grown X (AS _) AV;have af:=s.below u;have B:=A hn;have R:=A (show lF w1 a _ n d _ _ w1 from⟨n,0,_,AS _,F,F,D,by rw[<-hn,sj,Nat.zero_mod],AV,ab,EO.refl _ _⟩);have l:=A u;go_loopw [7,8] (λr i wr=>lF w1 a _ n d r i wr) (λ_ i _=>(B8 i+1).toNat)
 case atStart=>exact R
 obtain⟨k,r,q,hk,rfl,rfl,hr,v,Z,b,c⟩:=hrel;have o:=A v;clear v;have P:=A b;have L:=A c;rcases k with _|k
 .have hr1:E4 [r]:=by
   intro x hx
   grind
  have g:=A (Ri wr _ _ q (b.sl b.lt));rw[Z] at g;have r1:=row_one wr r;have K:=A (show AZ _ 286 #[AK _ 1 1] _ _ from Ri _ _ _ [r] (r1.sl r1.lt));have f:=A (show∀J,XV _ d w _ _ fromλJ=>
   ⟨J,_,Bn [r],rfl,(r1.sl r1.lt).trimmed,U4 hr1,by rw[Sl,YV];exact o,(l.trans (c.below (AS _))).alloc (l.trans (c.below (AS _))).size _⟩)
  go_wp2_with(first|((with_reducible refine g.o.mono ?_);rintro e W1 ⟨rfl,rfl⟩)|((with_reducible refine K.o.mono ?_);rintro e W1 ⟨rfl,rfl⟩))
  go_ret2;exact f _
 have sa:=c.sl af (AS _);have y:I a k<1000000:=GS ac k;obtain⟨_,_,e,_,_,t⟩:=sa;obtain⟨ba,oa,rfl,_,U⟩:=t Nr;have T:=U k Nr;have hx:=b.cell (j:=k) D;have aj:=b.frozen k;have aa:r<1000000:=D;have⟨x,E⟩:=AP (I a k);rw[E] at T y;have S:=A E;have w6:=b49 y aa W;have w7:=b3a (a:=x) (r:=r) (d:=d);have f:=A (show∀z m,(r*1000000+x)%d=m->lF w1 a _ n d _ _ (wr.setCell ⟨w.1.size,k,O⟩ _) fromλz m e=>⟨k,m,_,D,rfl,rfl,by rw[<-e];exact Hh _ D,by rw[<-e,o.o,qD,q9 (k:=k) Nr,S.o],Al,P.set Al z,L.set _ _⟩);have⟨m,hm⟩:=AP ((r*1000000+x)%d);have⟨z,hz⟩:=AP ((r*1000000+x)/d);have N:=A (f z m hm);go_wp2;exact⟨N,by simp[B8]⟩
theorem Nv.ext{v:AN}{l:List Nat}(h:Nv w g v l)(hx:Ext w w'):Nv w' g v l:=by
 obtain⟨C,q,rfl,h1,h2,f⟩:=h;refine⟨C,q,F,h1,h2,λhn=> ?_⟩;have⟨b,off,e,d,a⟩:=f hn;exact⟨b,off,e,d,λj c=>(hx.cell (gH (a j c))).trans (a j c)⟩
theorem BH.fresh{v:AN}{l:List Nat}(h:BH w K v l)(d:SY z v)(i:g<z):Nv w g v l:=by
 obtain⟨C,q,rfl,h1,h2,a⟩:=h;refine⟨C,q,F,h1,h2,λhn=> ?_⟩;have⟨b,off,e,f,c⟩:=a hn;exact⟨b,off,e,by have:=(d _ _ _ F).2 _ e;grind,c⟩
structure Xi(g n:Nat)(v:AN)(l:List Nat)(w:V):Prop where
 sl:Nv w g v l
 canon:EJ l
 len:ln l<=n
 nil:∀m c,v=AK O m c->c=0
theorem Xi.ext{v:AN}{l:List Nat}(h:Xi g n v l w)(hx:Ext w w'):Xi g n v l w':=⟨h.sl.ext hx,h.canon,h.len,h.nil⟩
def Tk(w:V)(g n:Nat)(wr:V):Prop:=∃q:List Nat,ln q=n/\Row wr g n q/\At w.1.size w wr
theorem Tk.ext(h:Tk w g n wr)(hx:Ext wr w'):Tk w g n w':=by
 obtain⟨q,h1,h2,a⟩:=h;exact⟨q,h1,h2.below hx h2.lt,a.trans (hx.mono a.size)⟩
theorem Tk.lt(h:Tk w g n wr):g<wr.1.size:=by
 obtain⟨q,_,h2,_⟩:=h;exact h2.lt
def xZ(w:V)(a:List Nat)(g n m b:Nat)(r i:AN)(wr:V):Prop:=∃(k:Nat) (l:List Nat),k<=n/\i=M G ((k:Int)-1)/\Xi g m r l wr/\BC l=Sc a k%b/\Tk w g n wr
def xD(w:V)(g n m b R:Nat)(r z:AN)(wr:V):Prop:=∃(a:Nat) (l:List Nat),z=M G (a:Int)/\Xi g (m+1) r l wr/\BC l+a*b=R/\Tk w g n wr
def iu(v:AN)(w:V):Nat:=
 match v with
 | AK (Q a) n _=>S6 (λj=>match w.cell? ⟨a.block,a.off+j,O⟩ with|some (.int _ x)=>x.toNat|_=>0) n
 |_=>0
theorem cH{v:AN}{l:List Nat}(h:BH w K v l):iu v w=BC l:=by
 obtain⟨C,q,rfl,_,_,a⟩:=h;by_cases c:0<ln l
 .obtain⟨b,off,rfl,_,hcell⟩:=a c;refine Ss (λj d=> ?_)
  grind
 have:l=[]:=Al;subst this;cases C<;>rfl
theorem b4e(h1:u<1000000000000000000)(a:1<=t)(b:u/t=z):G.wrap ((u:Int).tdiv (t:Int))=(z:Int):=by
 grind [IntWalk.i64_quo]
def b1k(w:V)(x:Nat):(w.alloc (.cells #[M G (x:Int)] 3)).ownsRow w.1.size 3 1 (AK (Q ⟨w.1.size,0,O⟩) 1 1) 1 [M G (x:Int)]:=
 ⟨rfl,.inr ⟨w.1.size,1,#[M G (x)],rfl,AS _,Bq w _,AS _,by grind [BM],rfl,rfl⟩⟩
theorem b4E(W:V){ops:Array Oper}{rest:List Oper}{o:Oper}{a:BV}{g:Exit->BV->V->Prop}(v:o.guard=O)(s x:F0)(f:o.op= .call {callee:= .builtin .append,args:=#[s,x],argTypes:=#[25,25]})
  (wr:V)(d:Nat)(n:W=wr.alloc (.cells #[M G (d:Int)] 3))(A:a.eval s=AK (Q ⟨wr.1.size,0,O⟩) 1 1){l:List Nat}(hx:a.eval x=L)(w:BH W K L l)(R:∀m c,L=AK O m c->c=0)(hn:ln l<=10000000)
  (h:∀v' w',BH w' w'.1.size v' (d::l)->SY wr.1.size v'->Ext wr w'->CQ AO ops g rest (a.put o.dst v') w'):CQ AO ops g (o::rest) a W:=by
 subst n;have⟨J,hi,E,H,I⟩:=DM OG;have z:=b1k wr d;have B:Ext wr (wr.alloc (.cells #[M G (d)] 3)):=(Ad _ _).alloc (AS _) _;have fin:∀v' w',w'.ownsRow wr.1.size 3 1 v' (1+ln l) ([M G (d)]++Ls l)->(wr.alloc (.cells #[M G (d)] 3)).grownBy w' (Q wr.1.size)->CQ AO ops g rest (a.put o.dst v') w':=by
  intro v' w' f t;exact h v' w' (Sk f Al) (iG f) (KY B t (λk e=>Al))
 obtain⟨C,q,rfl,h1,h2,r⟩:=w;cases C with
 |none=>
  grind [wpList_append_own_none,FD,World.grownBy.refl]
 |some i=>
  refine Ln _ v s x 25 f _ 3 J _ 1 8 FD hi E H I F D _ 1 _ A z i _ q _ hx Al ?_ ?_ (by grind [BM]) D AV (λv' w' h1 h2 _=>fin v' w' h1 h2)
  .intro j u hj;have P:j<ln l:=by
    grind
   have⟨b,off,e,_,N⟩:=r D;obtain rfl:i=⟨b,off,O⟩:=Kr e;rw[OV]
   grind [ON]
  intro u hu;obtain⟨y,_,rfl⟩:=Jg.1 hu
  rfl
def fo(w:V)(K:Nat)(v:AN)(l:List Nat)(z:Int)(i p:Nat)(h:BH w K v l)(a:I l i=p)(b:z=i)(hi:i<=4611686018427387904):
  AZ AO 288 #[v,M G z] w λe w'=>e=Ac (M G p)/\w=w':=by
 grind [bK]
theorem BH.eq{v v':AN}{l:List Nat}(h:BH w K v l)(e:v=v'):BH w K v' l:=e▸h
def a0Y(w:V)(a b:List Nat)(va vb:AN)(ha:BH w w.1.size va a)(hb:BH w w.1.size vb b)(bs:E4 a)(v:EJ b)(bk:ln a<=100000)(bl:ln b<=100000)(m:Nat)(hm:ln b=m+2):
  AZ AO 243 #[va,vb] w (XV (BC a) (BC b) w):=by
 obtain⟨C,ca,rfl,a9,bc,Z⟩:=id ha;obtain⟨A',cb,rfl,bd,be,aC⟩:=id hb;obtain⟨bb,ob,rfl,_,ai⟩:=aC D;unfold BM at bc be;have⟨i0,hi,aT,aU,aV⟩:=DM OG;have I0:=A hi;have I1:=A aT;have I2:=A aU;have I3:=A aV;have⟨n,hn⟩:=AP (ln a);rw[hn] at a9 bk⊢;rw[hm];rw[hm] at bd bl;have bv:=ai m D;have bw:=ai (m+1) D;have bq:I b m<1000000:=GS v.Bf m;have br:I b (m+1)<1000000:=GS v.Bf (m+1);have HA:=A ha;have HB:=A (hb.eq (v':= AK (Q ⟨bb,ob,O⟩) (m+2) cb) (by rw[hm]));have bx:1<=I b (m+1):=Nat.pos_of_ne_zero (v.trim _ (by rw[dz,hm];show b[m+1]?=_;rw[Bv D,ON D]));have B:=A hn;have HM:=A hm;have HE:=A (λr (h:ln r<=m+3)=>b4q (r:=r) v.Bf hm h);have aA:=A (YX v.trim (by intro h;rw[h] at hm;simp at hm));have⟨y0,aR⟩:=AP (I b m);have⟨y1,aS⟩:=AP (I b (m+1));simp only[aR,aS] at bv bw bq br bx HE;have e1:((m+2:Nat):Int)-1=((m+1:Nat):Int):=D;have e2:((m+2:Nat):Int)-2=(m:Int):=D;clear ha hb Z aC ai hn hm hi aT aU aV aR aS;go_enter func243,ntmps243;go_wp2_with fail
 go_quiet (fail)
 go_wp2_with(at_make;refine Wj _ F _ _ 25 F w.1.size 3 i0 (M G 0) 1 FD I0 I1 I2 .i64 .i64 _ _ n F F D D (by rw[I3.o];omega) Fp (AS _) ?_;intro w1 an aE)
 have f:At w.1.size w w1:=(below_drewN (Ad w.1.size w) nq).grown aE (AS _) (λ_ h=>Aq);simp only[World.heap_drewN] at an⊢;have K:=aq an;have HS:=A (show xZ w a w.1.size n (m+2) (BC b) (AK (Q ⟨w1.1.size,0,O⟩) 0 0) (M G ((n:Int)-1)) (w1.alloc (.cells #[] 3)) from
  ⟨n,[],AS _,rfl,⟨⟨_,0,rfl,AV,Fp,λh=>by simp at h⟩,⟨λ_ h=>by simp at h,cj⟩,AV,λ_ _ h=>by simp at h⟩,by rw[<-B.o,sj,Nat.zero_mod];rfl,⟨_,AV,K.alloc _,f.alloc f.size _⟩⟩)
 clear an aE K f;go_loopw [9,10] (λr i wr=>xZ w a w.1.size n (m+2) (BC b) r i wr) (λ_ i _=>(B8 i+1).toNat)
 case atStart=>exact HS
 obtain⟨k,l,hk,rfl,d,R,hQ⟩:=hrel;have am:BC l<BC b:=by rw[R];exact Hh _ aA
 have bA:=A R;have HR:=A d;have HQ:=A hQ;have bz:=A am;obtain⟨q,ao,K,f⟩:=hQ;rcases k with _|k
 .have CT:=A (Ri wr wr.1.size _ q (K.sl K.lt));rw[ao] at CT;have⟨Ar,cr,hv,_⟩:=id d.sl;subst hv;have HP:=A (show∀vq,XV (BC a) (BC b) w (Ac (BO #[vq,AK Ar (ln l) cr])) wr fromλvq=>⟨vq,_,l,rfl,d.sl.all,d.canon,R,f⟩);clear d am R K f ao;go_wp2_with(go_at_call 286;refine CT.mono ?_;rintro e W1 ⟨rfl,rfl⟩)
  go_ret2;exact HP _
 have sa:=HA.below f;have aN:I a k<1000000:=GS bs k;obtain⟨_,_,e,_,_,Z⟩:=sa;injection e with e1 e2 e3
 clear e2;subst e1 e3;obtain⟨ba,oa,rfl,_,aD⟩:=Z Nr;have hc:=aD k Nr;have⟨x,aw⟩:=AP (I a k);rw[aw] at hc aN;have ay:=A (show BC (Bn (x::l))%BC b=Sc a k%BC b by rw[Sl,bT,R,Np,DL,qD,q9 (a:=a) (k:=k) Nr,aw]);clear R;have ek:((k+1:Nat):Int)-1=(k:Int):=D;rw[ek];have⟨Ar,cr,hv,_⟩:=id d.sl;subst hv;have aO:∀y∈x::l,y<B6:=λy hy=>by
  rcases Kt.1 hy with h|h
  .rw[h];exact aN
  exact d.canon.Bf y h
 have E:=A (U4 (l:=x::l) aO);have U:=A (show(Bn (x::l)).length<=m+3 from BJ (Lt _) (by rw[FX];have:=d.len;omega));have HV:=A (show BC (Bn (x::l))<1000000*BC b by rw[Sl,bT];omega);have bm:ln l<=10000000:=by have:=d.len;omega
 have⟨r1,ap⟩:=AP (Bn (x::l));rw[ap] at E U HV ay;have a2:=A ap;have a7:=A (d.sl.all);have a1:=A d.nil;have aY:=A ((HB.below f).more f.size);have bB:=A f.size;have bp:I r1 (m+2)<1000000:=GS E.Bf _;have bo:I r1 (m+1)<1000000:=GS E.Bf _;have bn:I r1 m<1000000:=GS E.Bf _;have ak:=HE r1 U;have⟨p2,Ge⟩:=AP (I r1 (m+2));have⟨p1,EZ⟩:=AP (I r1 (m+1));have⟨p0,ad⟩:=AP (I r1 m);rw[Ge,EZ,ad] at ak;rw[Ge] at bp;rw[EZ] at bo;rw[ad] at bn;have P2:=A Ge;have P1:=A EZ;have P0:=A ad;have⟨u,hu⟩:=AP ((p2*1000000+p1)*1000000+p0);have⟨t,ht⟩:=AP (y1*1000000+y0+1);have⟨g,hg⟩:=AP (u/t);have w6:G.wrap ((((p2:Int)*1000000+p1)*1000000+p0).tdiv ((y1:Int)*1000000+y0+1))=(g:Int):=by
  have:=b4e (t:=t) (u:=u) D D hg;rw[<-this,<-hu,<-ht];simp
 have bi:g<1000000000000:=by
  rw[<-hg];exact(ZG D).2 D
 have ax:=A (show g*BC b<=BC r1 by rw[<-hg,<-hu,<-ht];exact ak);have bE:¬((y1:Int)*1000000+y0+1=0):=D;have aZ:=A (b0W bi);have X:=A v.Bf;have a3:=A (show ln r1<=1000000 by have:=U.o;omega);have aX:=A (show ln b<=1000000 by have:=HM.o;omega);clear d am K f ao aD Z aw aO ap ak Ge EZ ad hu ht hg;go_wp2_with(first
  |(go_at_call 289;refine(jG w3 r1 l3 _ _ a5 a6 E.Bf az a3).mono ?_;rintro e w4 ⟨v4,l4,rfl,T,aa,P,af,N⟩)
  |(go_at_call 290;refine(vm _ b [g] _ _ ((aY.grow au).new _) (show BH _ _ (AK (Q ⟨w2.1.size,0,O⟩) 1 1) [g] from(row_one w2 g).sl (row_one w2 g).lt) X aZ aX AV).mono ?_;rintro e w3 ⟨v3,l3,rfl,aJ,aj,⟨aK,bj⟩,av,bh⟩;have a5:=A (show BH w3 w3.1.size (QT v2 (x::l)) r1 from(W.new _).grow av);have a6:=A aJ;have az:=A aj.Bf)
  |(go_at_call 288;first|(refine(fo w2 _ _ r1 _ (m+2) p2 W P2 D D).mono ?_;rintro e W1 ⟨rfl,rfl⟩)|(refine(fo w2 _ _ r1 _ (m+1) p1 W P1 D D).mono ?_;rintro e W1 ⟨rfl,rfl⟩)|(refine(fo w2 _ _ r1 _ m p0 W P0 D D).mono ?_;rintro e W1 ⟨rfl,rfl⟩))
  |(go_at_call 286;refine(Ri w2 _ v2 (x::l) a4).mono ?_;rintro e W1 ⟨rfl,rfl⟩)
  |(at_builtin;refine b4E _ F _ _ F wr x F F F (a7.new _) a1 bm ?_;intro v2 w2 aI bC au;have a4:=A aI;have W:=A (show BH w2 w2.1.size (QT v2 (x::l)) r1 from a2.o▸aI.trimmed)))
 have ag:Ext wr w3:=au.trans (((Ad _ _).alloc (AS _) _).trans (av.mono AV) |>.mono au.size);have aP:Ext wr w4:=ag.trans (af.mono ag.size);have ar:BC l3=g*BC b:=by rw[aK,YV,DL]
 have al:BC l3<=BC r1:=by rw[ar];exact ax
 have aG:=Y9 aj E.Bf al;have aL:BC l4=BC r1-BC l3:=by rw[P];exact jl E.Bf az aG al
 have aF:ln l4<=m+3:=by rw[P];exact BJ (Lt _) (by rw[LX];exact U)
 have HI:=A (show xD w w.1.size n (m+2) (BC b) (BC r1) v4 (M G (g:Int)) w4 from
  ⟨g,l4,rfl,⟨T.fresh N (Dj HQ.lt ag.size),aa,aF,λm' c e=>(N _ _ _ e).1 rfl⟩,by rw[aL,ar];have:=ax.o;omega,HQ.ext aP⟩)
 clear ag aP ar al aG aL aF T aa P af N aJ aj aK bj av bh;go_loopw [9,11] (λr z wi=>xD w w.1.size n (m+2) (BC b) (BC r1) r z wi) (λr _ wi=>iu r wi)
 case atStart=>exact HI
 obtain⟨z,L,rfl,J,ab,Y⟩:=hrel;have bF:=b2y ab HV;have⟨A5,c5,bt,_⟩:=id J.sl;subst bt;have S5:=A J.sl.all;have ah:Ext w wr:=by obtain⟨_,_,_,h⟩:=Y;exact h
 have B5:=A ((HB.below ah).more ah.size);have CS:=A (wS wr L b _ _ S5 B5 J.canon v);have Q5:=A Y;have s:=A J;have E5:=A ab;have a8:ln L<=1000000:=by have:=J.len;omega
 by_cases ac:BC b<=BC L
 .have o:=A ac;clear J Y ab ah ac;go_wp2_with(first
   |(go_at_call 289;refine(jG w6 L b _ _ (S5.grow H) (B5.grow H) s.canon.Bf X a8).mono ?_;rintro e w7 ⟨v7,l7,rfl,T,aa,P,af,N⟩)
   |(go_at_call 291;refine CS.mono ?_;rintro e w6 ⟨⟨c,rfl,h1,h2⟩,S⟩;have H:=A S;have bg:0<=c:=Int.not_lt.1 (λh=>absurd (h1 h) (Nat.not_lt.2 o));clear h1 h2 S))
  have bf:=Y9 v s.canon.Bf o;have aM:BC l7=BC L-BC b:=by rw[P];exact jl s.canon.Bf X bf o
  have bu:Ext wr w7:=H.trans (af.mono H.size);refine⟨⟨z+1,l7,AV,⟨T.fresh N (Dj Q5.lt H.size),aa,by rw[P];exact BJ (Lt _) (by rw[LX];exact s.len),λm' c e=>(N _ _ _ e).1 F⟩,?_,Q5.ext bu⟩,?_⟩
  .have:=E5.o;have:=o.o;rw[aM,Kq,H7];omega
  rw[cH T,cH S5.o,aM];have:=aA.o;have:=o.o;omega
 have o:=A ac;have a0:=A (show ln L<=m+2 by have:=Y9 s.canon X D;rw[HM.o] at this;exact this);clear J Y ab ah ac;go_wp2_with(go_at_call 291;refine CS.mono ?_;rintro e w6 ⟨⟨c,rfl,h1,h2⟩,S⟩;have H:=A S;have bg:¬0<=c:=(λh=>absurd (h2 D).1 o);have⟨q6,aH,ae,aB⟩:=Q5.ext S;have Q6:=A aH;have R6:=A ae;have aW:=A aB;have hx:=ae.cell (j:=k) D;have bD:=ae.frozen k;have⟨y,aQ⟩:=AP (I q6 k);rw[aQ] at hx;clear h1 h2 S aH ae aB aQ)
 have ho:=(EO.refl w.1.size w6).set k (M G (z:Int));refine⟨⟨k,L,D,rfl,⟨ho.WS (s.sl.ext H),s.canon,a0,s.nil⟩,by rw[<-ay.o,<-E5.o,b5v,Ud (by have:=o.o;omega)],⟨q6.set k z,by rw[Nl];exact Q6,R6.set (by have:=Q6.o;omega) z,aW.setCell (p:=⟨w.1.size,k,O⟩) (AS _) _⟩⟩,?_⟩;simp[B8]
def a1e(w:V)(a b:List Nat)(c j:AN)(f:BH w w.1.size c a)(g:BH w w.1.size j b)(n:E4 a)(i:EJ b)(u:ln a<=100000)(v:ln b<=100000)(x:b≠[]):
  AZ AO 243 #[c,j] w (XV (BC a) (BC b) w):=by
 rcases b with _|⟨d,_|⟨d2,b⟩⟩
 .exact absurd F x
 .have hd1:d<1000000:=i.Bf d AV;have t:1<=d:=Nat.pos_of_ne_zero (i.trim d F);have o:=A (a1S w a c d f n t hd1 D);obtain⟨z,E,rfl,H,I,k⟩:=id g;obtain⟨q,y,rfl,_,m⟩:=k AV;have hx:w.cell? ⟨q,y,O⟩=Q (M G d):=m 0 AV;obtain⟨C,B,rfl,_,_,_⟩:=f;rw[YV];clear g k m;go_enter func243,ntmps243;go_wp2_with(go_at_call 287;refine o.mono ?_;rintro e w1 ⟨J,K,l,rfl,h1,h2,r,s⟩)
  go_ret2;exact⟨_,_,l,F,h1,h2,r,s⟩
 exact a0Y w a (d::d2::b) c j f g n i u v (ln b) AV
theorem Az.PK{x y:AN}(h:Az w b T [x,y])(v:AN):Az (w.setCell ⟨b,1,O⟩ v) b T [x,v]:=by
 unfold Az at *;simp[Di,IT,h]
theorem Az.Kn{x y:AN}(h:Az w b T [x,y])(v:AN):Az (w.setCell ⟨b,0,O⟩ v) b T [v,y]:=by
 unfold Az at *;simp[Di,IT,h]
theorem Az.below{B:Nat}{l:List AN}(h:Az w b T l)(hx:At B w w')(a:b<B):Az w' b T l:=(hx.block b a).trans h
def xC(n:Nat)(w:V)(e:CI)(w':V):Prop:=∃s v l,e=Ac (AW #[AU s,v])/\BH w' w'.1.size v l/\EJ l/\ln l<=n/\Ext w w'
def b3N(z:ByteArray)(w:V)(e:CI)(w':V):Prop:=∃s v l,e=Ac (AW #[AU s,v])/\BH w' w'.1.size v l/\EJ l/\ln l<=51/\Ext w w'/\(Yu z 0 z.size->BC l=CZ z z.size)
theorem rd_val{y:ByteArray}(h:CZ y j=CZ y b*10^(j-b)+x)(a:CZ y (j+1)=10*CZ y j+g)(hk:b<=j):CZ y (j+1)=CZ y b*10^(j+1-b)+(10*x+g):=by
 have e:(10)^(j+1-b)=10^(j-b)*10:=by rw[show j+1-b=(j-b)+1 by omega,NC]
 grind
theorem uT{y:ByteArray}(c:j-6=b)(h:CZ y j=CZ y b*10^(j-b)+x):CZ y j=CZ y b*1000000+x:=by
 by_cases a:6<=j
 .grind
 obtain rfl:b=0:=D
 grind [CZ]
def sw{L a x b c N:Nat}(h1:a+B6^L*c=N)(h2:c=b*1000000+x):a+x*B6^L+B6^(L+1)*b=N:=by
 grind
structure ky(w:V)(s:Bool)(v:AN)(l:List Nat)(wr:V):Prop where
 res:Az wr w.1.size 262 [AU AM,AK O 0 0]
 num:Az wr (w.1.size+1) 262 [AU s,v]
 Ag:wr.ownsRow (w.1.size+2) 3 1 v (ln l) (Ls l)
 Bf:E4 l
 ext:Ext w wr
def iv(w:V)(s:Bool)(y:ByteArray)(e:AN)(wr:V):Prop:=∃(k:Int) (v:AN) (l:List Nat),e=M G k/\k+6*(ln l:Int)=y.size/\ -6<k/\BC l+B6^ln l*CZ y k.toNat=CZ y y.size/\ky w s v l wr
def xI(y:ByteArray)(W:V)(s e:Nat)(n i:AN)(a:V):Prop:=∃x k:Nat,n=M G (x:Int)/\i=M G (k:Int)/\s<=k/\k<=e/\x<10^(k-s)/\CZ y k=CZ y s*10^(k-s)+x/\a=W
def uq{x k s c:Nat}(h:x<10^(k-s))(hk:s<=k)(a:c<=9):10*x+c<10^(k+1-s):=by
 have:(10)^(k+1-s)=10^(k-s)*10:=by rw[<-NC];grind
 omega
theorem ZZ(h:x<10^d)(a:d<=6):x<1000000:=
 Dj h (BJ (JK Z a) Z)
theorem oP{v:AN}{l:List Nat}(h:ky w s v l wr)(hx:x<1000000)(v':AN)(w':V)
  (g:w'.ownsRow (w.1.size+2) 3 1 v' (ln l+1) (Ls l++[M G (x:Int)]))(f:(wr.alloc (.cells #[M G (x:Int)] 3)).grownBy w' v.ownBlock):
  w'.cell? ⟨w.1.size+1,1,O⟩=Q v/\w'.frozen? ⟨w.1.size+1,1,O⟩=AM/\ky w s v' (l++[x]) (w'.setCell ⟨w.1.size+1,1,O⟩ v'):=by
 have a:=((Ad _ _).alloc (by have:=h.num.lt;omega) _).grown f (by have:=h.num.lt;simp;omega) (λk e=>(DS h.Ag k e).1);have b:=h.num.below a D;have i:=DS g;refine⟨b.cell 1,b.frozen 1,((h.res.below a D).Bo AV _),b.PK _,?_,?_,(h.ext.trans (a.mono D)).setCell AV _⟩
 .grind [Jo]
 intro d c;rcases QF.1 c with h1|h1
 .exact h.Bf d h1
 grind
def sW:(AO.info? 5).map (λi=>(i.zero,i.size,i.bytes))=Q (Q (M .u8 0),1,1):=U
def Pe(w:V)(g:Nat)(l:List Nat):Prop:=
 ∃cur:Array AN,w.1[g]?=Q (.cells cur 5 (0,0))/\cur.size=ln l/\∀j,j<ln l->cur[j]?=Q (M .u8 (I l j))
theorem Pe.lt{l:List Nat}(h:Pe w g l):g<w.1.size:=by
 obtain⟨cur,a,_⟩:=h
 grind
theorem Pe.cell{l:List Nat}(h:Pe w g l)(c:j<ln l):w.cell? ⟨g,j,O⟩=Q (M .u8 (I l j)):=by
 obtain⟨cur,b,_,a⟩:=h;simp[Dx,b,a j c]
theorem Pe.frozen{l:List Nat}(h:Pe w g l)(j:Nat):w.frozen? ⟨g,j,O⟩=AM:=by
 obtain⟨cur,a,_⟩:=h;simp[Hb,a]
theorem Pe.set{l:List Nat}(h:Pe w g l)(b:j<ln l)(x:Nat):Pe (w.setCell ⟨g,j,O⟩ (M .u8 x)) g (l.set j x):=by
 obtain⟨cur,a,h1,c⟩:=h;refine⟨cur.setIfInBounds j (M .u8 x),?_,by simp[h1],λk hk=> ?_⟩
 .simp[Di,IT,a]
 rw[Nb b]
 grind
theorem ni{base g n:Nat}(h:w.ownsRow base 5 1 (AK (Q ⟨g,0,O⟩) n n) n (madeCells (Gr .u8 0).cells (n*1)).toList):Pe w g (F7 n 0):=by
 obtain⟨q,h|⟨k,f,cur,e,o,d,h1,h2,l,m⟩⟩:=h
 .grind
 injection e with a i c
 injection a with a
 injection a with a
 subst a c;refine⟨cur,d,Al,λj b=> ?_⟩;simp at b;have:(madeCells (Gr .u8 0).cells (n*1)).toList[j]?=Q (M .u8 (I (F7 n 0) j)):=by
  rw[Vg];simp[madeCells,Value.cells,b,Nat.mod_one]
 grind
def JH(l:List Nat)(q:Nat):Nat:=
 I l (q/6)/10^(q%6)
  %10
structure SR(J:V)(g:Nat)(l:List Nat)(d:Nat)(Y:List Nat)(wr:V):Prop where
 row:Pe wr g Y
 len:ln Y=6*ln l
 Cv:∀q,q<d->I Y (6*ln l-1-q)=48+JH l q
 ext:At g J wr
theorem SR.next{l:List Nat}(h:SR J g l d Y wr)(a:d<6*ln l)(hx:x=48+JH l d)(b:j=6*ln l-1-d):
  SR J g l (d+1) (Y.set j x) (wr.setCell ⟨g,j,O⟩ (M .u8 (x:Int))):=by
 have c:=h.len;refine⟨h.row.set D x,Al,λq f=> ?_,h.ext.setCell (AS _) _⟩;rw[Nb D];by_cases e:q=d
 .grind
 rw[Af D];exact h.Cv q D
def Ye(l:List Nat)(k j:Nat)(a:j<6):JH l (6*k+j)=I l k/10^j%10:=by
 grind [JH]
def rP{l:List Nat}(a:EJ l)(k:0<ln l):∃q,q<6*ln l/\JH l q≠0:=by
 have n:I l (ln l-1)≠0:=a.trim _ (by rw[dz,Bv D,ON D]);have m:I l (ln l-1)<1000000:=GS a.Bf _;have⟨t,e⟩:=AP (I l (ln l-1));have key:∃r,r<6/\t/10^r%10≠0:=by
  apply eA;intro h;have f:∀r,r<6->t/10^r%10=0:=Al;have c:=f 0 Z;have f1:=f 1 Z;have d:=f 2 Z;have g:=f 3 Z;have i:=f 4 Z;have j:=f 5 Z
  grind
 obtain⟨r,b,h⟩:=key;refine⟨6*(ln l-1)+r,D,?_⟩;rw[Ye _ _ _ b,e];exact h
theorem xP(e:t<1000000)(h:∀r,1<=r->r<6->t/10^r%10=0):t=t/10^0%10:=by
 have f1:=h 1 Z Z;have a:=h 2 Z Z;have b:=h 3 Z Z;have c:=h 4 Z Z;have d:=h 5 Z Z
 grind
theorem b3A{l Y:List Nat}{o:Nat}(b:EJ l)(e:∀q,q<6*l.length→I Y (6*l.length-1-q)=48+JH l q)(n:∀j,j<o→I Y j=48)(u:o<6*l.length)(f:I Y o≠48):
  (strOfNums ((G8 (6*l.length-o)).map fun j=>((I Y (o+j):Nat):Int))).toList=[49]↔BC l=1:=by
 rw[Z7,strOfNums_data]
 constructor
 ·intro h
  have w:=by simpa using QL List.length h
  have g:=e 0 (by omega)
  rw[show 6*l.length-1-0=o by omega] at g
  have t:JH l 0<10:=Hh _ (by decide)
  have h1:JH l 0=1:=by
   have h2:GR (I Y o)=49:=by grind
   have i:=QL UInt8.toNat h2
   simp at i
   omega
  have c:l.length=1:=by
   apply eA
   intro s
   have m:I l (l.length-1)≠0:=b.trim _ (by rw[dz,Bv (by omega),ON (by omega)])
   apply m
   rw[xP (GS b.Bf _) (fun r _ d=>by rw[←Ye l _ r d];grind),←Ye l _ 0 (by decide)]
   grind
  have h2:I l 0=1:=by
   rw[xP (GS b.Bf 0) (fun r v d=>by rw[←Ye l 0 r d];grind)]
   exact h1
  match l,c with
  |[x],_=>rw[YV];exact h2
 ·intro h
  have c:l.length=1:=by
   have f:l≠[]:=by grind
   have h1:=dd b.trim f
   rcases Ht l.length 2 with h2|h2
   ·grind
   grind
  match l,c with
  |[x],_=>
   rw[YV] at h
   subst h
   have a:=e (5-o) (by grind)
   rw[show 6*([1]).length-1-(5-o)=o from(by grind)] at a
   have k:o=5:=by
    rcases(show o=0∨o=1∨o=2∨o=3∨o=4∨o=5 by omega) with rfl|rfl|rfl|rfl|rfl|rfl
    ·exact absurd a (by rw[show JH [1] _=0 by decide];grind)
    ·exact absurd a (by rw[show JH [1] _=0 by decide];grind)
    ·exact absurd a (by rw[show JH [1] _=0 by decide];grind)
    ·exact absurd a (by rw[show JH [1] _=0 by decide];grind)
    ·exact absurd a (by rw[show JH [1] _=0 by decide];grind)
    ·rfl
   subst k
   rw[show JH [1] _=1 by decide] at a
   simp[a]
def b3V(n:Nat)(s:Bool)(l:List Nat)(w:V)(e:CI)(w':V):Prop:=∃t:ByteArray,e=Ac (AT t)/\0<t.size/\t.size<=n/\Ext w w'/\(s=AM->(t.toList=[49]↔BC l=1))
def a2h(w:V)(s:Bool)(v:AN)(l:List Nat)(hs:BH w w.1.size v l)(t:EJ l)(hl:ln l<=100000):
  AZ AO 244 #[AW #[AU s,v]] w (b3V (6*ln l+1) s l w):=by
 obtain⟨C,a,rfl,ar,au,r⟩:=id hs;unfold BM at au;by_cases T:ln l=0
 .rw[T];clear r;go_enter func244,ntmps244;go_wp2_with fail
  go_ret;obtain rfl:l=[]:=Jf.1 T;exact⟨_,F,Z,Z,(Ad _ _).alloc (AS _) _,λ_=>⟨λh=>absurd h (by rw[Z7];decide),λh=>Aq⟩⟩
 obtain⟨b,off,rfl,az,_⟩:=r D;have⟨i0,hi,al,am,an⟩:=DM sW;have⟨p,hp,ag⟩:=rP t D;have⟨n,hn⟩:=AP (ln l);have B:=A hn;have ap:=A ag;have HP:=A hp;rw[hn] at ar hl T⊢;have HS:=A hs;clear hs hn ag hp r;go_enter func244,ntmps244;go_wp2_with(at_make;refine Wj _ F _ _ 110 F (w.1.size+1) 5 i0 (M .u8 0) 1 underlying110 hi al am .i64 .i64 _ _ (6*n) F F D D (by rw[an];omega) Fp AV ?_;intro w1 X ae)
 have ah:=Az.new w 262 [AU s,AK (Q ⟨b,off,O⟩) n a];have U:At (w.1.size+1) (w.alloc (Obj.cells #[AU s,AK (Q ⟨b,off,O⟩) n a] 262)) w1:=(Ad _ _).grown ae AV (λ_ h=>Aq);simp only[D5] at X⊢;have ab:=A (show Az (w.alloc (Obj.cells #[AU s,AK (Q ⟨b,off,O⟩) n a] 262)) w.1.size 262 [AU s,AK (Q ⟨b,off,O⟩) n a] from ah);have H:=A (show At w.1.size w (w.alloc (Obj.cells #[AU s,AK (Q ⟨b,off,O⟩) n a] 262)) from(Ad _ _).alloc (AS _) _);have⟨J,aj⟩:=AP (w.alloc (Obj.cells #[AU s,AK (Q ⟨b,off,O⟩) n a] 262));rw[aj] at U ab H;have ST:=A (show SR J (w.1.size+1) l (6*0) (F7 (6*n) 0) w1 from⟨ni X,by rw[List.length_replicate,B.o],λq hq=>D,U⟩);clear X ae ah U aj hi al am an;go_loopw [4] (λi wr=>∃(k:Nat) (Y:List Nat),k<=n/\i=M G (k:Int)/\SR J (w.1.size+1) l (6*k) Y wr) (λi _=>n-(B8 i).toNat)
 case atStart=>exact⟨0,_,D,rfl,ST⟩
 obtain⟨i,Y,hi,rfl,f⟩:=hrel;have u:=ab.below f.ext (Wk _);have aB:=u.cell 1;have g:=A f;by_cases aE:i<n
 .exact ze
 obtain rfl:i=n:=D;have aA:=u.cell 0;have ak:Ext w wr:=H.trans (f.ext.mono D);have ac:=A ak;have⟨P,hP⟩:=AP (6*i-1-p);have ay:P<6*i:=Al;have ai:=A (show I Y P≠48 by
  have:=f.Cv p (by have:=HP.o;rwa[B.o] at this);rw[B.o,hP] at this;rw[this];have:=ap.o;omega)
 clear f u ak hP;go_wp2_with fail
 go_loopw [3] (λv N=>∃o:Nat,o<=P/\v=AK (Q ⟨w.1.size+1,o,O⟩) (6*i-o) (6*i-o)/\(∀j,j<o->I Y j=48)/\N=wr) (λv _=>VC v)
 case atStart=>grind
 obtain⟨o,W,rfl,ad,rfl⟩:=hrel;have aa:=A ad;clear ad;have aw:o<ln Y:=by rw[g.len,B.o];omega
 have aC:=g.row.cell aw;have⟨y,hy⟩:=AP (I Y o);have E:=A hy;have⟨z,hz⟩:=AP (6*i-o);have HZ:=A hz;by_cases aq:y=48
 .subst aq;have ax:o+1<=P:=by
   exact zb
  go_wp2;exact⟨⟨o+1,ax,by rw[show 6*i-(o+1)=z-1 by have:=HZ.o;omega],λj K=>(Ht j o).elim (λe=>aa j e) (λe=>(show j=o by omega)▸E.o),trivial⟩,by grind [VC]⟩
 have⟨ns,af⟩:=AP ((G8 z).map (λj=>((I Y (o+j):Nat):Int)));have av:ln ns=z:=Al;have aD:=run_convert_bytes_arg (P:=AO) wr 110 5 underlying110 underlying5 (w.1.size+1) o z z ns av (λj K=>by
  rw[g.row.cell (by rw[g.len,B.o];omega),<-af]
  grind) 9 underlying9
 have⟨S,hS⟩:=AP (strOfNums ns);have L:=A (show S.size=z by grind [strOfNums_size]);have R:=A (show z<=6*i by omega);have ao:=A (show S.toList=[49]↔BC l=1 by
  have h:=b3A (o:=o) t (λq hq=>g.Cv q (by rwa[B.o] at hq)) aa (by rw[B.o];omega) (by rw[E.o];grind);rw[B.o,hz,af,hS] at h;exact h)
 cases s with
 |false=>
  go_wp2;refine Bp (v:= AT S) (by simp[results,results244,go_sem]) F ?_;exact⟨S,F,by rw[L.o];grind,by rw[L.o];have:=R.o;omega,ac.o,λ_=>ao⟩
 |true=>
  have aF:=L.o;have aG:z<=600000:=by have:=R.o;omega
  go_wp2;refine Bp (v:= AT (⟨#[45]⟩++S)) (by simp[results,results244,go_sem]) F ?_;exact⟨_,F,Al,by rw[mJ,L.o];have:=R.o;show 1+z<=_;omega,ac.o,λh=>Aq⟩
def xq(w:V)(a b:List Nat)(v c i:AN)(wr:V):Prop:=
 ∃k:Nat,k<=max (ln a) (ln b)+1/\i=M G (k:Int)/\c=M G ((F9 a b k).2:Int)/\wr.ownsRow w.1.size 3 1 v k (Ls (Cs (F9 a b) k))/\Ext w wr
def a8S{a b:List Nat}(c:E4 a)(d:E4 b):(F9 a b (max (ln a) (ln b)+1)).2=0:=by
 grind [F9,UN,gO]
theorem xC.of{v:AN}{l:List Nat}(h1:BH w' w'.1.size v l)(h2:EJ l)(a:ln l<=n)(b:Ext w w'):xC n w (Ac (AW #[AU s,v])) w':=⟨s,v,l,rfl,h1,h2,a,b⟩
theorem Jw{l:List Nat}{v d:AN}(h:BH w w.1.size v l)(n:Az w b 262 [AU s,d])(p:∀x,d≠ M G x)(i:Nat)(x:AN):
  BH (w.setCell ⟨b,i,O⟩ x) (w.setCell ⟨b,i,O⟩ x).1.size v l:=by
 obtain⟨C,q,rfl,h1,h2,g⟩:=h;refine⟨C,q,F,h1,h2,λhn=> ?_⟩;have⟨a,off,e,o,k⟩:=g hn;refine⟨a,off,e,by grind [Di],λj m=> ?_⟩;by_cases c:a=b
 .subst c;have f:=k j m;rw[n.cell] at f
  grind
 rw[SG (Gp _ _ _ _ c)]
 grind
def Js(C:Option An)(n c:Nat):∀x,FO C n c≠ M G x:=Al
def SW(z:ByteArray):Bool:=z.data.toList.head?==Q 45
def V6(z:ByteArray):Nat:=if SW z then CZ (z.extract 1 z.size) (z.extract 1 z.size).size else CZ z z.size
def rK{z:ByteArray}(h:0<z.size):SW z=(((z[0]'h).toNat:Int)==45):=by
 unfold SW;rw[Wq,Bv (by exact h)];have e:z.data.toList[0]'(by exact h)=z[0]'h:=by simp[Ry]
 rw[e];generalize z[0]'h=b;by_cases a:b=45
 .subst a;rfl
 have h1:(Q b==Q (45))=AM:=Al;rw[h1,eq_comm,CK];intro e;exact a (QH.1 Al)
def iZ(z:ByteArray)(w:V)(e:CI)(w':V):Prop:=∃v l,e=Ac (AW #[AU (SW z),v])/\BH w' w'.1.size v l/\EJ l/\ln l<=51/\Ext w w'/\BC l=V6 z
def p8(w:V)(z:ByteArray)(hz:Xm z):AZ AO 242 #[AT z] w (iZ z w):=by
 have⟨i0,hi,aC,aD,aE⟩:=DM OG;have I0:=A hi;have I1:=A aC;have I2:=A aD;have I3:=A aE;obtain⟨f,aV,aW,B,aw,ak⟩:=hz.ex;have hp:0<z.size:=D;have⟨y,hy⟩:=AP (z.extract f z.size:ByteArray);have aB:y.size=z.size-f:=by rw[<-hy,eF,Nat.min_self]
 have az:Yu y 0 y.size:=by
  intro m h1 h2 Z;subst hy;rw[ByteArray.getElem_extract];exact B (f+m) D D D
 have⟨p,ao⟩:=AP (((z[0]'hp).toNat:Int)==45);have R:p=AQ (f=1):=by
  cases p
  .rw[eq_comm,CX];intro e;have⟨_,h⟩:=ak.1 e;simp[h] at ao
  rw[eq_comm,Cx];exact ak.2 ⟨hp,C9.1 ao⟩
 have am:f=0->z=y:=by
  intro e;subst e;rw[<-hy];simp[ByteArray.extract_zero_size]
 clear hi aC aD aE hz ak;have YD:=A az;have aF:=A aB;have aA:y.size<=300:=D;have aX:0<y.size:=D;have ap:=A am;have av:=A (show∀s,iv w s y (M G (y.size:Int)) ((w.alloc (Obj.cells #[AU AM,AK O 0 0] 262)).alloc (Obj.cells #[AU s,AK O 0 0] 262)) fromλs=>
  ⟨_,_,[],rfl,AV,D,by simp[BC,S6],(Az.new w _ _).ext ((Ad _ _).alloc (AS _) _),by have:=Az.new (w.alloc (Obj.cells #[AU AM,AK O 0 0] 262)) 262 [AU s,AK O 0 0];simpa using this,⟨rfl,.inl ⟨rfl,rfl⟩⟩,(λ_ h=>Aq),((Ad _ _).alloc (AS _) _).alloc AV _⟩)
 have ae:=rK hp;rw[ao] at ae;have ay:V6 z=CZ y y.size:=by
  unfold V6;rw[ae,R];by_cases e:f=1
  .subst e;rw[CP rfl,Aj rfl,hy]
  rw[Bw e];obtain rfl:=am D
  rfl
 have ar:=A ae;have aq:=A ay;clear az am ae ay;clear aB;cases p with
 |true=>
  obtain rfl:f=1:=by simpa using R.symm
  have HY:=A hy;clear R hy aw B;go_enter func242,ntmps242;go_wp2_with fail
  rw[HY.o,<-aF.o];have ST:=A (av AL);go_loopw [4] (λe wr=>iv w AL y e wr) (λe _=>(B8 e+6).toNat)
  case atStart=>exact ST
  obtain⟨k,v,l,rfl,hk,aL,L,I⟩:=hrel;have K:=A L;clear L;have o:=A I;have H:=A hk;have au:=A aA;by_cases aS:0<k
  .obtain⟨e,rfl⟩:∃e:Nat,k=(e:Int):=⟨k.toNat,D⟩;have⟨b,hb⟩:=AP (e-6);have w1:G.wrap ((e:Int)-6)=(e:Int)-6:=DF _ D;have aO:max (0:Int) ((e:Int)-6)=(b:Int):=D;have aH:e<=y.size:=D;clear I hk;go_wp2_with fail
   go_loopw [5,6] (λn i wi=>xI y wr b e n i wi) (λ_ i _=>((e:Int)-B8 i).toNat)
   case atStart=>exact⟨0,b,F,F,AS _,D,AV,AV,rfl⟩
   obtain⟨x,j,rfl,rfl,aa,aK,hx,U,rfl⟩:=hrel;have Y:=A U;clear U;by_cases aN:j<e
   .have hjy:j<y.size:=D;have B:=YD j (D8 _) hjy hjy;obtain⟨c,t⟩:∃c:Nat,((y[j]'hjy).toNat:Int)=c:=⟨_,F⟩;rw[t] at B;obtain⟨g,rfl⟩:∃g:Nat,c=48+g:=⟨c-48,D⟩;have T:=ZZ hx D;have NX:=A (uq (c:=g) hx aa D);have C:(((y[j]'hjy).toNat:Int)-48)%256=(g:Int):=by rw[t];omega
    exact zf
   obtain rfl:j=e:=D;have T:=ZZ hx D;have aI:¬(j:Int)<j:=D;have aT:=o.num.cell 1;have aJ:=o.num.frozen 1;have ax:At (w.1.size+2) wr (wr.alloc (.cells #[M G (x:Int)] 3)):=(Ad _ _).alloc (by have:=o.num.lt;omega) _;have ah:=A (EV o.Ag ((Ad _ _).alloc (AS _) (.cells #[M G (x:Int)] 3)));have al:w.1.size+2<=(wr.alloc (.cells #[M G (x:Int)] 3)).1.size:=by have:=o.num.lt;simp;omega
   have aM:ln l<=100:=by have:=H.o;omega
   have HN:=A (oP o T);clear hx ax;go_wp2_with(at_builtin;(refine Ln _ F _ _ _ F (w.1.size+2) 3 i0 _ 1 8 FD I0 I1 I2 I3 F D _ _ _ F ah ⟨wr.1.size,0,O⟩ 1 1 [M G (x:Int)] F BE (λj u E=>ZL) QP Fp D al ?_);intro v' w' P an aR;have⟨a,W,c4,r⟩:=Fx.of P;subst r;have⟨aP,aQ,N⟩:=HN _ w' P an;have ag:=A N;clear N)
   exact⟨⟨(j:Int)-6,_,l++[x],F,by rw[FN];have:=H.o;simp;omega,D,by rw[cE,FN,eD,show((j:Int)-6).toNat=b by omega];exact sw K (uT hb Y),ag⟩,Bm⟩
  have d:=o.o;have⟨a,W,c4,r⟩:=Fx.of d.Ag;subst r;have S:=Sk d.Ag F;have X:=A (show AZ AO 286 #[AK a W c4] wr λe w'=>e=Ac (AK a (Bn l).length c4)/\wr=w' from Ri wr _ _ l S);have aU:=S.trimmed;have⟨q,C⟩:=AP ((Bn l).length);have ac:(Bn l).length<=51:=BJ (Lt _) (by have:=H.o;have:=au.o;omega);have aG:=d.num.cell 1;have r1:=d.num.PK (AK a q c4);have r2:=d.res.Bo (p:=⟨w.1.size+1,1,O⟩) AV (AK a q c4);have f1:=d.num.frozen 1;have c0:=r1.cell 0;have c1:=r1.cell 1;have d0:=r2.cell 0;have d1:=r2.cell 1;have g0:=r2.frozen 0;have g1:=r2.frozen 1;have J:=r2.GJ (AU AL) (AK a q c4);have ai:=A (J.cell 0);have aj:=A (J.cell 1);have af:Ext w (((wr.setCell ⟨w.1.size+1,1,O⟩ (AK a q c4)).setCell ⟨w.1.size,0,O⟩ (AU AL)).setCell ⟨w.1.size,1,O⟩ (AK a q c4)):=((d.ext.setCell (p:=⟨w.1.size+1,1,O⟩) AV _).setCell (p:=⟨w.1.size,0,O⟩) AV _).setCell (p:=⟨w.1.size,1,O⟩) AV _;have ab:iZ z w (Ac (AW #[AU AL,AK a q c4])) (((wr.setCell ⟨w.1.size+1,1,O⟩ (AK a q c4)).setCell ⟨w.1.size,0,O⟩ (AU AL)).setCell ⟨w.1.size,1,O⟩ (AK a q c4)):=by
   refine⟨_,Bn l,by rw[ar.o],?_,U4 d.Bf,ac,af,by rw[Sl,aq.o];have h:=K.o;rw[show k.toNat=0 by omega] at h;simpa[CZ] using h⟩;have ad:=DS d.Ag;have Z:=Jo (Jo (Jo d.Ag (p:=⟨w.1.size+1,1,O⟩) (λh=>by have:=ad _ h;simp at this) (AK a q c4)) (p:=⟨w.1.size,0,O⟩) (λh=>by have:=ad _ h;simp at this;omega) (AU AL)) (p:=⟨w.1.size,1,O⟩) (λh=>by have:=ad _ h;simp at this;omega) (AK a q c4);subst C;exact(Sk Z F).trimmed
  have HF:=A ab;rw[C] at X;clear I hk d S aU C ac r1 r2 J af ab;go_wp2_with(go_at_call 286;refine X.mono ?_;rintro e W1 ⟨rfl,rfl⟩)
  have q0:=ai.o;have q1:=aj.o;exact Bp (v:= AW #[AU AL,AK a q c4]) (by simp[results,results242,go_sem,q0,q1]) F HF
 |false=>
  have h0:f=0:=by
   have:¬f=1:=by simpa using R.symm
   omega
  obtain rfl:=ap h0;clear R hy aw B ap;have ST:=A (av AM);go_enter func242,ntmps242;go_wp2_with fail
  go_loopw [4] (λe wr=>iv w AM z e wr) (λe _=>(B8 e+6).toNat)
  case atStart=>exact ST
  obtain⟨k,v,l,rfl,hk,aL,L,I⟩:=hrel;have K:=A L;clear L;have o:=A I;have H:=A hk;have au:=A aA;by_cases aS:0<k
  .obtain⟨e,rfl⟩:∃e:Nat,k=(e:Int):=⟨k.toNat,D⟩;have⟨b,hb⟩:=AP (e-6);have w1:G.wrap ((e:Int)-6)=(e:Int)-6:=DF _ D;have aO:max (0:Int) ((e:Int)-6)=(b:Int):=D;have aH:e<=z.size:=D;clear I hk;go_wp2_with fail
   go_loopw [5,6] (λn i wi=>xI z wr b e n i wi) (λ_ i _=>((e:Int)-B8 i).toNat)
   case atStart=>exact⟨0,b,F,F,AS _,D,AV,AV,rfl⟩
   obtain⟨x,j,rfl,rfl,aa,aK,hx,U,rfl⟩:=hrel;have Y:=A U;clear U;by_cases aN:j<e
   .have hjy:j<z.size:=D;have B:=YD j (D8 _) hjy hjy;obtain⟨c,t⟩:∃c:Nat,((z[j]'hjy).toNat:Int)=c:=⟨_,F⟩;rw[t] at B;obtain⟨g,rfl⟩:∃g:Nat,c=48+g:=⟨c-48,D⟩;have T:=ZZ hx D;have NX:=A (uq (c:=g) hx aa D);have C:(((z[j]'hjy).toNat:Int)-48)%256=(g:Int):=by rw[t];omega
    exact zf
   obtain rfl:j=e:=D;have T:=ZZ hx D;have aI:¬(j:Int)<j:=D;have aT:=o.num.cell 1;have aJ:=o.num.frozen 1;have ax:At (w.1.size+2) wr (wr.alloc (.cells #[M G (x:Int)] 3)):=(Ad _ _).alloc (by have:=o.num.lt;omega) _;have ah:=A (EV o.Ag ((Ad _ _).alloc (AS _) (.cells #[M G (x:Int)] 3)));have al:w.1.size+2<=(wr.alloc (.cells #[M G (x:Int)] 3)).1.size:=by have:=o.num.lt;simp;omega
   have aM:ln l<=100:=by have:=H.o;omega
   have HN:=A (oP o T);go_wp2_with((refine Ln _ rfl _ _ _ rfl (w.1.size+2) 3 i0 _ 1 8 FD I0 I1 I2 I3 rfl D _ _ _ rfl ah ⟨wr.1.size,0,O⟩ 1 1 [M G (x:Int)] rfl BE (λj u E=>ZL) QP Fp D al ?_);intro v' w' P an aR;have⟨a,W,c4,r⟩:=Fx.of P;subst r;have⟨aP,aQ,N⟩:=HN _ w' P an;have ag:=A N;clear N)
   exact⟨⟨(j:Int)-6,_,l++[x],F,by have:=H.o;simp;omega,D,by rw[cE,FN,eD,show((j:Int)-6).toNat=b by omega];exact sw K (uT hb Y),ag⟩,Bm⟩
  have d:=o.o;have⟨a,W,c4,r⟩:=Fx.of d.Ag;subst r;have S:=Sk d.Ag F;have X:=A (show AZ AO 286 #[AK a W c4] wr λe w'=>e=Ac (AK a (Bn l).length c4)/\wr=w' from Ri wr _ _ l S);have⟨q,C⟩:=AP ((Bn l).length);have ac:(Bn l).length<=51:=BJ (Lt _) Al;have aG:=d.num.cell 1;have r1:=d.num.PK (AK a q c4);have r2:=d.res.Bo (p:=⟨w.1.size+1,1,O⟩) AV (AK a q c4);have f1:=d.num.frozen 1;have c0:=r1.cell 0;have d0:=r2.cell 0;have d1:=r2.cell 1;have g0:=r2.frozen 0;have g1:=r2.frozen 1;have J:=r2.GJ (AU AM) (AK a q c4);have ai:=A (J.cell 0);have aj:=A (J.cell 1);have af:Ext w (((wr.setCell ⟨w.1.size+1,1,O⟩ (AK a q c4)).setCell ⟨w.1.size,0,O⟩ (AU AM)).setCell ⟨w.1.size,1,O⟩ (AK a q c4)):=((d.ext.setCell (p:=⟨w.1.size+1,1,O⟩) AV _).setCell (p:=⟨w.1.size,0,O⟩) AV _).setCell (p:=⟨w.1.size,1,O⟩) AV _;have ab:iZ z w (Ac (AW #[AU AM,AK a q c4])) (((wr.setCell ⟨w.1.size+1,1,O⟩ (AK a q c4)).setCell ⟨w.1.size,0,O⟩ (AU AM)).setCell ⟨w.1.size,1,O⟩ (AK a q c4)):=by
   refine⟨_,Bn l,by rw[ar.o],?_,U4 d.Bf,ac,af,by rw[Sl,aq.o];have h:=K.o;rw[show k.toNat=0 by omega] at h;grind [CZ]⟩;have ad:=DS d.Ag;have Z:=Jo (Jo (Jo d.Ag (p:=⟨w.1.size+1,1,O⟩) (λh=>Al) (AK a q c4)) (p:=⟨w.1.size,0,O⟩) (λh=>Al) (AU AM)) (p:=⟨w.1.size,1,O⟩) (λh=>Al) (AK a q c4);subst C;exact(Sk Z F).trimmed
  have HF:=A ab;go_wp2_with(refine X.mono ?_;rintro e W1 ⟨rfl,rfl⟩)
  have q0:=ai.o;have q1:=aj.o;exact Bp (v:= AW #[AU AM,AK a q c4]) (by simp[results,results242,go_sem,q0,q1]) F HF
theorem a7J(a b:List Nat)(k:Nat):S6 (I (Cs (F9 a b) k)) k+(F9 a b k).2*B6^k=S6 (I a) k+S6 (I b) k:=by
 induction k with
 |zero=>rfl
 |succ k d=>
  have e:S6 (I (Cs (F9 a b) (k+1))) k=S6 (I (Cs (F9 a b) k)) k:=Ss λi hi=>by
   exact fJ
  have c:I (Cs (F9 a b) (k+1)) k=(F9 a b (k+1)).1:=by
   rw[Sh];unfold I
   grind [LX]
  rw[LG,LG,LG];have h:(F9 a b (k+1)).1+(F9 a b (k+1)).2*1000000=I a k+I b k+(F9 a b k).2:=by
   grind [F9]
  grind
theorem a5u{a b:List Nat}(h1:ln a<=k)(h2:ln b<=k)(c:(F9 a b k).2=0):BC (Bn (Cs (F9 a b) k))=BC a+BC b:=by
 grind [a7J,Sl,Cs,VT]
def EF(s:Bool)(l:List Nat):Int:=if s then -(BC l:Int) else BC l
theorem b0t{a b l:List Nat}(h:BC l=BC a+BC b):EF m l=EF m a+EF m b:=by
 grind [EF]
def b2F{mx a:Bool}{x y l:List Nat}(hm:mx≠a)(b:BC y<=BC x)(h:BC l=BC x-BC y):EF mx l=EF mx x+EF a y:=by
 grind [EF]
theorem a9p{a b l:List Nat}(hm:(o==E)= !H)(h:BC l=BC a*BC b):EF H l=EF o a*EF E b:=by
 cases o<;>cases E<;>cases H<;>simp[EF] at hm⊢ <;>rw[h]<;>simp[Int.neg_mul,Int.mul_neg]
def N6(z:Int)(n:Nat)(w:V)(e:CI)(w':V):Prop:=∃s v l,e=Ac (AW #[AU s,v])/\BH w' w'.1.size v l/\EJ l/\ln l<=n/\EF s l=z/\Ext w w'
theorem N6.of{z:Int}{v:AN}{l:List Nat}(h1:BH w' w'.1.size v l)(h2:EJ l)(a:ln l<=n)(c:EF s l=z)(b:Ext w w'):N6 z n w (Ac (AW #[AU s,v])) w':=⟨s,v,l,rfl,h1,h2,a,c,b⟩
def a5b(w:V)(a b:List Nat)(va vb:AN)(R:BH w w.1.size va a)(S:BH w w.1.size vb b)(z:E4 a)(B:E4 b)(aC:ln a<=1000000)(aD:ln b<=1000000):
  AZ AO 370 #[va,vb] w (Uy (λl=>ln l<=max (ln a) (ln b)+1/\BC l=BC a+BC b) w):=by
 have⟨i0,ab,ah,ai,aj⟩:=DM OG;have Z:=A ab;have I1:=A ah;have I2:=A ai;have I3:=A aj;have HA:=A R;have HB:=A S;obtain⟨C,ca,rfl,ay,ao,_⟩:=id R;obtain⟨B',cb,rfl,az,ap,_⟩:=id S;have HC:=A (λn=>U4 (ju (λk=>(gO z B k).2) n));have HM:=A (λk=>gO z B k);have HE:=A (a8S z B);have ak:=A z;have al:=A B;unfold BM at ao ap;clear R S ab ah ai aj z B;go_enter func370,ntmps370;go_wp2;go_loopw [5,6,7] (λv c i wr=>xq w a b v c i wr) (λ_ _ i _=>((max (ln a) (ln b)+1:Nat)-B8 i).toNat)
 case atStart=>exact⟨0,D,rfl,rfl,pB _ _,(Ad _ _).alloc (AS _) _⟩
 obtain⟨k,hk,rfl,rfl,ad,g⟩:=hrel;have f:=A ad;have P:=A g;have T:=(HA.below g);have U:=(HB.below g);have aA:=g.size;clear ad g;by_cases m:k<ln a\/k<ln b\/0<(F9 a b k).2
 .have C1:=A (bK wr _ _ a k T D);have K:=A (bK wr _ _ b k U D);have ac:k+1<=max (ln a) (ln b)+1:=by
   rcases Ht k (max (ln a) (ln b)+1) with h|h
   .omega
   have e:k=max (ln a) (ln b)+1:=D;rw[e,HE.o] at m;omega
  have N:=A (Sh (F9 a b) k);have af:(F9 a b (k+1)).1=(I a k+I b k+(F9 a b k).2)%1000000:=rfl;have ag:(F9 a b (k+1)).2=(I a k+I b k+(F9 a b k).2)/1000000:=rfl;have av:I a k<1000000:=GS ak k;have aw:I b k<1000000:=GS al k;have ax:=(HM k).1;have⟨p,H⟩:=AP (I a k);have⟨r,J⟩:=AP (I b k);have⟨c,d⟩:=AP ((F9 a b k).2);have⟨x,hx⟩:=AP ((F9 a b (k+1)).1);have⟨y,hy⟩:=AP ((F9 a b (k+1)).2);rw[hx,H,J,d] at af;rw[hy,H,J,d] at ag;rw[H] at C1 av;rw[J] at K aw;rw[d] at ax m;rw[d];rw[hx] at N;have HY:=A hy;have aa:w.1.size<=(wr.alloc (.cells #[M G (x:Int)] 3)).1.size:=Bk;have L:=A (EV f ((Ad _ _).alloc (AS _) (.cells #[M G (x:Int)] 3)));have⟨vs,X⟩:=AP (Ls (Cs (F9 a b) k));rw[X] at f L;have an:=A X;have e1:((p:Int)+r+c)%1000000=(x:Int):=D;have e2:((p:Int)+r+c)/1000000=(y:Int):=D;have HK:=A ac;have Y:=A (show∀(v':AN) (w':V),w'.ownsRow w.1.size 3 1 v' (k+1) (vs++[M G (x:Int)])->(wr.alloc (.cells #[M G (x:Int)] 3)).grownBy w' u5.ownBlock->xq w a b v' (M G (y:Int)) (M G ((k:Int)+1)) w' fromλv' w' s o=>by
   refine⟨k+1,HK,AV,by rw[HY.o],?_,KY (P.alloc P.size _) o (λq hq=>(DS f q hq).1)⟩;have e:Ls (Cs (F9 a b) (k+1))=vs++[M G (x:Int)]:=by rw[<-an.o,N.o];unfold Ls;rw[PU];rfl
   rw[e];exact s)
  have aB:k<=1000000:=D;have aE:((max (ln a) (ln b)+1:Nat):Int)-k>=1:=D;clear T U H J d hx hy X af ag N ac hk;have ga:∃t,AQ (k<ln a)=t:=⟨_,F⟩;obtain⟨ta,ar⟩:=ga;have⟨tb,au⟩:=AP (AQ (k<ln b));have ae:ta=AM->tb=AM->AQ (0<c)=AL:=by
   intro h1 h2;subst h1 h2;rw[CX] at ar au;rw[Cx];omega
  have am:=A ae;clear ae m;cases ta
  .cases tb
   .have tc:=am F F;have aF:AQ (0<(c:Int))=AL:=by rw[Cx] at tc⊢;omega
    go_wp2_with(first
     |(at_builtin;(refine Ln _ F _ _ _ F w.1.size 3 i0 _ 1 8 FD Z I1 I2 I3 F D _ _ _ F L ⟨wr.1.size,0,O⟩ 1 1 [M G (x:Int)] F BE (λj u E=>ZL) QP Fp D aa ?_);intro v' w' s o aq)
     |(go_at_call 288;first|((with_reducible refine C1.o.mono ?_);rintro e W1 ⟨rfl,rfl⟩)|((with_reducible refine K.o.mono ?_);rintro e W1 ⟨rfl,rfl⟩)))
    exact⟨by rw[e2];exact Y _ _ s o,Bm⟩
   exact a0H
  exact a0H
 have g1:¬k<ln a:=D;have g2:¬k<ln b:=D;have W:=Sk f (LX (F9 a b) k);have CT:=A (Ri wr wr.1.size u5 (Cs (F9 a b) k) W);have HS:=A (show Uy (λl=>ln l<=max (ln a) (ln b)+1/\BC l=BC a+BC b) w (Ac (QT u5 (Cs (F9 a b) k))) wr from⟨_,_,F,W.trimmed,HC _,⟨BJ (Lt _) (by grind [LX]),a5u D D D⟩,P,(iG f).tr _⟩);have⟨c,d⟩:=AP ((F9 a b k).2);rw[d] at m;rw[d];have g3:¬0<(c:Int):=D;clear W T U d m;exact zY
def a0W(w:V)(s:Bool)(v:AN)(l:List Nat)(n:Nat)(e:BH w w.1.size v l)(c:EJ l)(d:ln l<=n):
  AZ AO 357 #[AW #[AU s,v]] w (N6 (-(EF s l)) n w):=by
 obtain⟨C,b,rfl,i,j,k⟩:=id e;have a:=A (λg h=>(e.new g).new h);by_cases f:ln l=0
 .obtain rfl:l=[]:=Jf.1 f;go_enter func357,ntmps357;go_wp2_with fail
  exact Bp (v:= AW #[AU s,AK C 0 b]) (by simp[results,go_sem]) F (N6.of (a _ _) c d (by cases s<;>rfl) (GB _ _ _))
 go_enter func357,ntmps357;go_wp2_with fail
 exact Bp (v:= AW #[AU !s,AK C _ b]) (by simp[results,go_sem]) F (N6.of (a _ _) c d (by grind [EF]) (GB _ _ _))
def MQ(d e a:Nat)(m:Bool)(v1 v2:AN)(P:List Nat->Prop):Nat->AN->V->Prop
 |0,v,_=>v=Ap (Q ⟨d,0,O⟩)
 |1,v,_=>v=AU m
 |2,v,_=>v=Ap (Q ⟨e,1,O⟩)
 |3,v,_=>v=v1
 |4,v,_=>v=Ap (Q ⟨a,1,O⟩)
 |5,v,_=>v=v2
 |6,v,w=>∃l,BH w w.1.size v l/\EJ l/\P l
 |7,v,w=>∃C c l,v=AW #[AU m,AK C (List.length l) c]/\BH w w.1.size (AK C (ln l) c) l/\EJ l/\P l
 |_,v,w=>∃b,v=Ap (Q ⟨b,0,O⟩)/\a+1<b/\Az w b 262 [AU AM,AK O 0 0]
theorem ph{a d f:Nat}{P:List Nat->Prop}{v:AN}(h:MQ a d f m v1 v2 P i v w)(hx:Ext w w'):MQ a d f m v1 v2 P i v w':=by
 match i,h with
 |0,h|1,h|2,h|3,h|4,h|5,h=>exact h
 |6,h=>obtain⟨l,h1,h2⟩:=h;exact⟨l,h1.grow hx,h2⟩
 |7,h=>obtain⟨C,c,l,e,h1,h2⟩:=h;exact⟨C,c,l,e,h1.grow hx,h2⟩
 |_+8,h=>obtain⟨b,e,g,h⟩:=h;exact⟨b,e,g,h.ext hx⟩
def ki(w:V)(o E:Bool)(a b:AN):∃W0,Hid (((w.alloc (.cells #[AU o,a] 262)).alloc (.cells #[AU E,b] 262)).alloc (.cells #[AU AM,AK O 0 0] 262)=W0)/\Hid (Ext w W0)/\Az W0 w.1.size 262 [AU o,a]/\Az W0 (w.1.size+1) 262 [AU E,b]/\Az W0 (w.1.size+1+1) 262 [AU AM,AK O 0 0]:=by
 have c:=(Az.new (w.alloc (.cells #[AU o,a] 262)) 262 [AU E,b]).ext ((Ad _ _).alloc (AS _) (.cells #[AU AM,AK O 0 0] 262));have d:=Az.new ((w.alloc (.cells #[AU o,a] 262)).alloc (.cells #[AU E,b] 262)) 262 [AU AM,AK O 0 0];rw[D5] at c;rw[D5,D5] at d;exact⟨_,A F,A (VD w _ _ _),(Az.new w 262 _).ext (GB _ _ _),c,d⟩
theorem a1s (w : V) (m : Bool) (a b : List Nat) (R S : AN) (n : Nat) (t : BH w w.1.size R a) (u : BH w w.1.size S b) (J : EJ a) (L : EJ b) (ae : ln a <= n) (af : ln b <= n) (hn : n <= 400000) :
    AZ AO 356 #[AW #[AU m, R], AW #[AU m, S]] w (N6 (EF m a + EF m b) (n + 1) w) := by
  have X := A t;have Y := A u;obtain ⟨C, o, rfl, _, _, _⟩ := id t;obtain ⟨g, q, rfl, _, _, _⟩ := id u;obtain ⟨W0, aa, B, R1, R2, R3⟩ := ki w m m (AK C (ln a) o) (AK g (ln b) q);have KC := A (λ(W : V) (h : Ext w W) => (a5b W a b (AK C (ln a) o) (AK g (ln b) q) (X.grow h) (Y.grow h) J.Bf L.Bf D D).mono (λe w' ⟨v, l, h1, h2, h3, H, h5, _⟩ => (⟨v, l, h1, h2, h3, ⟨BJ H.1 D, H.2⟩, h5⟩ : ∃ v l, e = Ending.returned v /\ BH w' w'.1.size v l /\ EJ l /\ (ln l <= n + 1 /\ BC l = BC a + BC b) /\ Ext W w')));have tm : (m == m) = AL := AV;clear t u J L ae af;go_enter func356, ntmps356;go_wp2;simp only [aa.o];refine Fz U (Pq 8
    (λw' => Ext W0 w') (MQ (w.1.size) (w.1.size) (w.1.size + 1) m (AK C (ln a) o) (AK g (ln b) q) (λl => ln l <= n + 1 /\ BC l = BC a + BC b)) (λ_ => AM) U (λ_ _ h k => h.tr k) (λi v _ _ h k => ph h k) (λ_ _ _ _ h => Aq) ?step ?tail _ (Ext.dr W0))
  case step =>
    intro i vs w' hi r c;have d : Ext W0 w' := r;have cA := λi => (R1.ext d).cell i
    have cB := λi => (R2.ext d).cell i
    rcases (show i = 0 \/ i = 1 \/ i = 2 \/ i = 3 \/ i = 4 \/ i = 5 \/ i = 6 \/ i = 7 by omega) with rfl | rfl | rfl | rfl | rfl | rfl | rfl | rfl <;> clear hi
    all_goals refine DC rfl (λK s => ?_)
    all_goals try (have d0 := c 0 Ik; simp only [MQ] at d0)
    all_goals try (have d1 := c 1 Ik; simp only [MQ] at d1)
    all_goals try (have d2 := c 2 Ik; simp only [MQ] at d2)
    all_goals try (have d3 := c 3 Ik; simp only [MQ] at d3)
    all_goals try (have d4 := c 4 Ik; simp only [MQ] at d4)
    all_goals try (have d5 := c 5 Ik; simp only [MQ] at d5)
    all_goals try (have x6 := c 6 Ik; obtain ⟨N, I, ab, ad⟩ := x6; obtain ⟨y, E, e6, _, _, _⟩ := id I; have T := A I)
    all_goals go_simp
    all_goals first
      | exact s _ _ ⟨_, Al, Ext.B9 _, rfl, λh => Aq⟩
      | (refine (KC _ (B.tr d)).mono ?_
         rintro e W4 ⟨v, l4, rfl, x, hc, hl, hX⟩;exact s _ _ ⟨v, Al, hX, ⟨l4, x, hc, hl⟩, λh => Aq⟩)
      | exact s _ _ ⟨AW #[AU m, AK y (ln N) E], Al, Ext.B9 _, ⟨y, E, N, rfl, e6 ▸ T.o, ab, ad⟩, λh => Aq⟩
  case tail =>
    intro vs w' r hv _;have d : Ext W0 w' := r;obtain ⟨z, G, P, e7, x, ac, M⟩ := hv 7 Z;have HS := A x;have f := R3.ext d;have c0 := f.cell 0;have c1 := f.cell 1;have f0 := f.frozen 0;have f1 := f.frozen 1;have j := A f;go_wp2;have Q := j.GJ (AU m) (AK z (ln P) G);have q0 := Q.cell 0;have q1 := Q.cell 1;exact Bp (v := AW #[AU m, AK z (ln P) G]) (by simp [results, results356, go_sem, q0, q1]) F (N6.of (Jw (Jw HS j (Js _ _ _) _ _) (j.Kn _) (Js _ _ _) _ _) ac M.1 (b0t M.2) (((B.tr d).setCell (p := ⟨w.1.size + 1 + 1, 0, O⟩) Al _).setCell (p := ⟨w.1.size + 1 + 1, 1, O⟩) Al _))
def xe(w W:V)(n:Nat)(z:Int):Prop:=∃(mx a:Bool) (x y:List Nat) (b c:Option An) (d e:Nat),Az W w.1.size 262 [AU mx,AK b (ln x) d]/\Az W (w.1.size+1) 262 [AU a,AK c (ln y) e]/\
 Az W (w.1.size+1+1) 262 [AU AM,AK O 0 0]/\Ext w W/\BH w w.1.size (AK b (ln x) d) x/\BH w w.1.size (AK c (ln y) e) y/\E4 x/\E4 y/\ln x<=n/\BC y<=BC x/\ln y<=ln x/\mx≠a/\EF mx x+EF a y=z
theorem a3H (w : V) (o E : Bool) (a b : List Nat) (va vb : AN) (n : Nat) (ha : BH w w.1.size va a) (hb : BH w w.1.size vb b) (ah : EJ a) (ai : EJ b) (av : ln a <= n) (aw : ln b <= n) (hn : n <= 400000) (hm : o ≠ E) :
    AZ AO 356 #[AW #[AU o, va], AW #[AU E, vb]] w (N6 (EF o a + EF E b) (n + 1) w) := by
  have S := A ha;have T := A hb;obtain ⟨C, L, rfl, _, _, _⟩ := id ha;obtain ⟨H, M, rfl, _, _, _⟩ := id hb;obtain ⟨W0, an, I, R1, R2, J⟩ := ki w o E (AK C (ln a) L) (AK H (ln b) M);have KS := A (wS W0 a b _ _ (S.grow I) (T.grow I) ah ai);have tm : (o == E) = AM := by rw [CK]; exact hm
  have X := A ah;have Y := A ai;have HM := A hm;have t := A R1;have u := A R2;have ag := A J;clear ha hb ah ai hm R1 R2 J;go_enter func356, ntmps356;go_wp2_with (go_at_call 291; rw [an.o]; refine KS.mono ?_; rintro e X0 ⟨⟨c, rfl, ap, aq⟩, m⟩; have aB := A ap; have aC := A aq; clear ap aq; have j := A m; have aP := (t.ext m).cell 0; have aQ := (t.ext m).cell 1; have aR := (u.ext m).cell 0; have aS := (u.ext m).cell 1; have fA := λi => (t.ext m).frozen i; have fB := λi => (u.ext m).frozen i; clear m)
  case' _ =>
    have ab : xe w (((((X0.setCell ⟨w.1.size, 0, O⟩ (AU E)).setCell ⟨w.1.size, 1, O⟩ (AK H (ln b) M)).setCell ⟨w.1.size + 1, 0, O⟩ (AU o)).setCell ⟨w.1.size + 1, 1, O⟩ (AK C (ln a) L))) n (EF o a + EF E b) := by
      have ax := aB fE;have x1 := t.ext j;have x2 := u.ext j;have x3 := ag.ext j;exact ⟨E, o, b, a, H, C, M, L, ((x1.GJ _ _).Bo AV _).Bo AV _, ((x2.Bo AV _).Bo AV _).GJ _ _, (((x3.Bo Gh _).Bo Gh _).Bo AV _).Bo AV _,
        ((((I.tr j).setCell (p := ⟨w.1.size, 0, O⟩) AV _).setCell (p := ⟨w.1.size, 1, O⟩) AV _).setCell (p := ⟨w.1.size + 1, 0, O⟩) AV _).setCell (p := ⟨w.1.size + 1, 1, O⟩) AV _, T, S, Y.Bf, X.Bf, aw, FM ax, Y9 X Y.Bf (FM ax), HM.symm, Int.add_comm _ _⟩
    generalize (((X0.setCell ⟨w.1.size, 0, O⟩ (AU E)).setCell ⟨w.1.size, 1, O⟩ (AK H (ln b) M)).setCell ⟨w.1.size + 1, 0, O⟩ (AU o)).setCell ⟨w.1.size + 1, 1, O⟩ (AK C (ln a) L) = W1 at ab ⊢
  rotate_left
  case' _ =>
    have ab : xe w X0 n (EF o a + EF E b) := have au := aC fE
      ⟨o, E, a, b, C, H, L, M, t.ext j, u.ext j, ag.ext j, I.tr j, S, T, X.Bf, Y.Bf, av, au.1, au.2, HM, rfl⟩
    generalize X0 = W1 at ab ⊢
  all_goals
    obtain ⟨mx, my, x, y, Ax, Ay, cx, cy, R1, R2, J, ao, hx, hy, aj, ak, aG, al, ay, az, aA⟩ := ab;have HX := A hx;have HY := A hy;have E1 := A ao;have KC := A (λ(W : V) (h : Ext w W) => (jG W x y (AK Ax (ln x) cx) (AK Ay (ln y) cy) (HX.grow h) (HY.grow h) aj ak D).mono (λe w' ⟨v, l, h1, h2, h3, h4, h5, _⟩ => (⟨v, l, h1, h2, h3, ⟨by rw [h4]; exact BJ (Lt _) (by rw [LX]; omega), by rw [h4]; exact jl aj ak ay al⟩, h5⟩ : ∃ v l, e = Ending.returned v /\ BH w' w'.1.size v l /\ EJ l /\ (ln l <= n + 1 /\ BC l = BC x - BC y) /\ Ext W w')));have am := A (λ(l : List Nat) (h : BC l = BC x - BC y) => (show EF mx l = EF o a + EF E b by rw [<- aA]; exact b2F az al h));clear hx hy aj ak al ay az aA ao aG av aw KS S T t u ag X Y an I;refine Fz U (Pq 9
          (λw' => Ext W1 w') (MQ (w.1.size) (w.1.size) (w.1.size + 1) mx (AK Ax (ln x) cx) (AK Ay (ln y) cy) (λl => ln l <= n + 1 /\ BC l = BC x - BC y)) (λi => i == 8) U (λ_ _ h k => h.tr k) (λi v _ _ h k => ph h k) ?fr ?step ?tail _ (Ext.dr W1))
    case fr =>
      intro i v w' _ hf N;obtain rfl : i = 8 := by simpa using hf
      obtain ⟨b, e, _, h⟩ := N;exact ⟨b, e, h.lt⟩
    case step =>
      intro i vs w' hi hD q;have r : Ext W1 w' := hD;have cA := λi => (R1.ext r).cell i
      have cB := λi => (R2.ext r).cell i
      have h3 := (J.ext r).lt;rcases (show i = 0 \/ i = 1 \/ i = 2 \/ i = 3 \/ i = 4 \/ i = 5 \/ i = 6 \/ i = 7 \/ i = 8 by omega) with rfl | rfl | rfl | rfl | rfl | rfl | rfl | rfl | rfl <;> clear hi
      all_goals refine DC rfl (λK hK => ?_)
      all_goals try (have d0 := q 0 Ik; simp only [MQ] at d0)
      all_goals try (have d1 := q 1 Ik; simp only [MQ] at d1)
      all_goals try (have d2 := q 2 Ik; simp only [MQ] at d2)
      all_goals try (have d3 := q 3 Ik; simp only [MQ] at d3)
      all_goals try (have d4 := q 4 Ik; simp only [MQ] at d4)
      all_goals try (have d5 := q 5 Ik; simp only [MQ] at d5)
      all_goals try (have x6 := q 6 Ik; obtain ⟨l6, h6, aE, aF⟩ := x6; obtain ⟨A6, c6, e6, _, _, _⟩ := id h6; have H6 := A h6)
      all_goals clear q
      all_goals go_simp
      all_goals first
        | exact hK _ _ ⟨_, by simp_all, Ext.B9 _, rfl, λh => Aq⟩
        | (refine (KC _ (E1.tr r)).mono ?_
           rintro e W4 ⟨v, l4, rfl, hs, hc, hl, hX⟩;exact hK _ _ ⟨v, by simp_all, hX, ⟨l4, hs, hc, hl⟩, λh => Aq⟩)
        | exact hK _ _ ⟨AW #[AU mx, AK A6 (ln l6) c6], by simp_all, Ext.B9 _, ⟨A6, c6, l6, rfl, e6 ▸ H6.o, aE, aF⟩, λh => Aq⟩
        | exact hK _ _ ⟨Ap (Q ⟨w'.1.size, 0, O⟩), by simp_all, (Ad _ _).alloc (AS _) _, ⟨_, rfl, D, Az.new _ _ _⟩, λ_ => ⟨_, rfl, AS _⟩⟩
    case tail =>
      intro vs w' hD N _;have r : Ext W1 w' := hD;obtain ⟨d, f, s, e7, hs, ar, ac⟩ := N 7 Z;obtain ⟨g, e8, aU, B⟩ := N 8 Z;have HS := A hs;have R := J.ext r;have f8 := λi => B.frozen i
      have aL := B.cell 0;have aM := B.cell 1;have aJ := R.cell 0;have aK := R.cell 1;have f3 := λi => R.frozen i
      have G := B.GJ (AU mx) (AK d (ln s) f);have ad := G.Kn (AU AM);have aN := G.cell 0;have aO := G.cell 1;have aH := ad.cell 0;have aI := ad.cell 1;have f9 := λi => G.frozen i
      have aT := λi => ad.frozen i
      have aV : ¬ w.1.size + 1 + 1 = g := D;have z := (R.Bo (p := ⟨g, 0, O⟩) Gh (AU mx)).Bo (p := ⟨g, 1, O⟩) Gh (AK d (ln s) f);have P := z.Bo (p := ⟨g, 0, O⟩) Gh (AU AM);have g3 := λi => z.frozen i
      have aW := z.cell 0;have aX := z.cell 1;have aY := P.cell 0;have aZ := P.cell 1;have g4 := λi => P.frozen i
      clear N hs;simp only [FV, FY];have HW := A r;have aa := A B;have aD := A G;have ae := A z;have af := A P;clear B G ad z P R r;by_cases hz : ln s = 0
      . obtain rfl : s = [] := Jf.1 hz
        go_wp2;have s3 := Jw (Jw (Jw HS aa (Js _ _ _) 0 (AU mx)) (aa.Kn _) (Js _ _ _) 1 (AK d 0 f)) aD (Js _ _ _) 0 (AU AM);have j4 := af.GJ (AU AM) (AK d 0 f);have q0 := j4.cell 0;have q1 := j4.cell 1;refine Bp (v := AW #[AU AM, AK d 0 f]) (by simp at q0 q1; simp [results, results356, go_sem, q0, q1]) F (N6.of (Jw (Jw s3 af (Js _ _ _) 0 (AU AM)) (af.Kn _) (Js _ _ _) 1 (AK d 0 f)) ar ac.1 (by rw [<- am.o _ ac.2]; cases mx <;> rfl) ?_);exact (((((E1.tr HW).setCell (p := ⟨g, 0, O⟩) Gh _).setCell (p := ⟨g, 1, O⟩) Gh _).setCell (p := ⟨g, 0, O⟩) Gh _).setCell (p := ⟨w.1.size + 1 + 1, 0, O⟩) Gh _).setCell (p := ⟨w.1.size + 1 + 1, 1, O⟩) Gh _
      go_wp2
      have s2 := Jw (Jw HS aa (Js _ _ _) 0 (AU mx)) (aa.Kn _) (Js _ _ _) 1 (AK d (ln s) f);have j3 := ae.GJ (AU mx) (AK d (ln s) f);have q0 := j3.cell 0;have q1 := j3.cell 1;refine Bp (v := AW #[AU mx, AK d (ln s) f]) (by simp [results, results356, go_sem, q0, q1]) F (N6.of (Jw (Jw s2 ae (Js _ _ _) 0 (AU mx)) (ae.Kn _) (Js _ _ _) 1 (AK d (ln s) f)) ar ac.1 (am _ ac.2) ?_);exact ((((E1.tr HW).setCell (p := ⟨g, 0, O⟩) Gh _).setCell (p := ⟨g, 1, O⟩) Gh _).setCell (p := ⟨w.1.size + 1 + 1, 0, O⟩) Gh _).setCell (p := ⟨w.1.size + 1 + 1, 1, O⟩) Gh _
def a7x(w:V)(o E:Bool)(a b:List Nat)(c d:AN)(n:Nat)(e:BH w w.1.size c a)(f:BH w w.1.size d b)(g:EJ a)(h:EJ b)(i:ln a<=n)(j:ln b<=n)(hn:n<=400000):
  AZ AO 356 #[AW #[AU o,c],AW #[AU E,d]] w (N6 (EF o a+EF E b) (n+1) w):=by
 grind [a1s,a3H]
def PH(p q:Nat)(o E H:Bool)(v1 v2:AN)(P:List Nat->Prop):Nat->AN->V->Prop
 |0,v,_=>v=Ap (Q ⟨p,0,O⟩)
 |1,v,_=>v=AU o
 |2,v,_=>v=Ap (Q ⟨q,0,O⟩)
 |3,v,_=>v=AU E
 |4,v,_=>v=AU H
 |5,v,_=>v=Ap (Q ⟨p,1,O⟩)
 |6,v,_=>v=v1
 |7,v,_=>v=Ap (Q ⟨q,1,O⟩)
 |8,v,_=>v=v2
 |9,v,w=>∃l,BH w w.1.size v l/\EJ l/\P l
 |10,v,w=>∃C c l,v=AW #[AU H,AK C (List.length l) c]/\BH w w.1.size (AK C (ln l) c) l/\EJ l/\P l
 |_,v,w=>∃b,v=Ap (Q ⟨b,0,O⟩)/\q+1<b/\Az w b 262 [AU AM,AK O 0 0]
theorem a7v{p q:Nat}{P:List Nat->Prop}{v:AN}(h:PH p q o E H v1 v2 P i v w)(hx:Ext w w'):PH p q o E H v1 v2 P i v w':=by
 match i,h with
 |0,h|1,h|2,h|3,h|4,h|5,h|6,h|7,h|8,h=>exact h
 |9,h=>obtain⟨l,h1,h2⟩:=h;exact⟨l,h1.grow hx,h2⟩
 |10,h=>obtain⟨C,c,l,e,h1,h2⟩:=h;exact⟨C,c,l,e,h1.grow hx,h2⟩
 |_+11,h=>obtain⟨b,e,a,h⟩:=h;exact⟨b,e,a,h.ext hx⟩
def a88 (w : V) (o E : Bool) (a b : List Nat) (va vb : AN) (n : Nat) (Y : BH w w.1.size va a) (hb : BH w w.1.size vb b) (ac : EJ a) (ad : EJ b) (aj : ln a <= n) (ak : ln b <= n) (hn : n <= 400000) :
    AZ AO 369 #[AW #[AU o, va], AW #[AU E, vb]] w (N6 (EF o a * EF E b) (2 * n + 1) w) := by
  have HA := A Y;have HB := A hb;obtain ⟨C, S, rfl, _, _, _⟩ := id Y;obtain ⟨M, T, rfl, _, _, _⟩ := id hb;obtain ⟨W0, af, N, R1, R2, R3⟩ := ki w o E (AK C (ln a) S) (AK M (ln b) T);have KC := A (λ(W : V) (h : Ext w W) => (vm W a b (AK C (ln a) S) (AK M (ln b) T) (HA.grow h) (HB.grow h) ac.Bf ad.Bf.b5m D D).mono (λe w' ⟨v, l, h1, h2, h3, ⟨ag, h4⟩, h5, _⟩ => (⟨v, l, h1, h2, h3, ⟨BJ h4 D, ag⟩, h5⟩ : ∃ v l, e = Ending.returned v /\ BH w' w'.1.size v l /\ EJ l /\ (ln l <= 2 * n + 1 /\ BC l = BC a * BC b) /\ Ext W w')));obtain ⟨H, al⟩ : ∃ H, (o == E) = !H := ⟨!(o == E), AV⟩;have aa := A (λ(l : List Nat) (h : BC l = BC a * BC b) => a9p (l := l) al h);clear Y hb ac ad aj ak;go_enter func369, ntmps369;go_wp2;simp only [af.o];refine Fz U (Pq 12
    (λw' => Ext W0 w') (PH (w.1.size) (w.1.size + 1) o E H (AK C (ln a) S) (AK M (ln b) T) (λl => ln l <= 2 * n + 1 /\ BC l = BC a * BC b)) (λi => i == 11) U (λ_ _ h k => h.tr k) (λi v _ _ h k => a7v h k) ?fr ?step ?tail _ (Ext.dr W0))
  case fr =>
    intro i v w' _ hf t;obtain rfl : i = 11 := by simpa using hf
    obtain ⟨b, e, _, h⟩ := t;exact ⟨b, e, h.lt⟩
  case step =>
    intro i vs w' hi X c;have j : Ext W0 w' := X;have cA := λi => (R1.ext j).cell i
    have cB := λi => (R2.ext j).cell i
    have h3 := (R3.ext j).lt;rcases (show i = 0 \/ i = 1 \/ i = 2 \/ i = 3 \/ i = 4 \/ i = 5 \/ i = 6 \/ i = 7 \/ i = 8 \/ i = 9 \/ i = 10 \/ i = 11 by omega) with rfl | rfl | rfl | rfl | rfl | rfl | rfl | rfl | rfl | rfl | rfl | rfl <;> clear hi
    all_goals refine DC rfl (λK z => ?_)
    all_goals try (have d0 := c 0 Ik; simp only [PH] at d0)
    all_goals try (have d1 := c 1 Ik; simp only [PH] at d1)
    all_goals try (have d2 := c 2 Ik; simp only [PH] at d2)
    all_goals try (have d3 := c 3 Ik; simp only [PH] at d3)
    all_goals try (have d4 := c 4 Ik; simp only [PH] at d4)
    all_goals try (have d5 := c 5 Ik; simp only [PH] at d5)
    all_goals try (have d6 := c 6 Ik; simp only [PH] at d6)
    all_goals try (have d7 := c 7 Ik; simp only [PH] at d7)
    all_goals try (have d8 := c 8 Ik; simp only [PH] at d8)
    all_goals try (have x6 := c 9 Ik; obtain ⟨l6, h6, ah, ai⟩ := x6; obtain ⟨A6, c6, e6, _, _, _⟩ := id h6; have H6 := A h6)
    all_goals clear c
    all_goals go_simp
    all_goals first
      | exact z _ _ ⟨_, by simp_all, Ext.B9 _, rfl, λh => Aq⟩
      | (refine (KC _ (N.tr j)).mono ?_
         rintro e W4 ⟨v, l4, rfl, G, hc, hl, hX⟩;exact z _ _ ⟨v, by simp_all, hX, ⟨l4, G, hc, hl⟩, λh => Aq⟩)
      | exact z _ _ ⟨AW #[AU H, AK A6 (ln l6) c6], by simp_all, Ext.B9 _, ⟨A6, c6, l6, rfl, e6 ▸ H6.o, ah, ai⟩, λh => Aq⟩
      | exact z _ _ ⟨Ap (Q ⟨w'.1.size, 0, O⟩), by simp_all, (Ad _ _).alloc (AS _) _, ⟨_, rfl, D, Az.new _ _ _⟩, λ_ => ⟨_, rfl, AS _⟩⟩
  case tail =>
    intro vs w' X t _;have j : Ext W0 w' := X;obtain ⟨d, f, m, e7, G, ab, B⟩ := t 10 Z;obtain ⟨g, e8, ax, r⟩ := t 11 Z;have HS := A G;have x := R3.ext j;have f8 := λi => r.frozen i
    have aq := r.cell 0;have ar := r.cell 1;have ao := x.cell 0;have ap := x.cell 1;have f3 := λi => x.frozen i
    have s := r.GJ (AU H) (AK d (ln m) f);have L := s.Kn (AU AM);have au := s.cell 0;have av := s.cell 1;have am := L.cell 0;have an := L.cell 1;have f9 := λi => s.frozen i
    have aw := λi => L.frozen i
    have ay : ¬ w.1.size + 1 + 1 = g := D;have q := (x.Bo (p := ⟨g, 0, O⟩) Gh (AU H)).Bo (p := ⟨g, 1, O⟩) Gh (AK d (ln m) f);have u := q.Bo (p := ⟨g, 0, O⟩) Gh (AU AM);have g3 := λi => q.frozen i
    have az := q.cell 0;have aA := q.cell 1;have aB := u.cell 0;have aC := u.cell 1;have g4 := λi => u.frozen i
    clear t G;simp only [FV, FY];have HW := A j;have y := A r;have ae := A s;have P := A q;have R := A u;clear r s L q u x j;by_cases hz : ln m = 0
    . obtain rfl : m = [] := Jf.1 hz
      go_wp2;have s3 := Jw (Jw (Jw HS y (Js _ _ _) 0 (AU H)) (y.Kn _) (Js _ _ _) 1 (AK d 0 f)) ae (Js _ _ _) 0 (AU AM);have j4 := R.GJ (AU AM) (AK d 0 f);have I := j4.cell 0;have J := j4.cell 1;refine Bp (v := AW #[AU AM, AK d 0 f]) (by simp at I J; simp [results, results369, go_sem, I, J]) F (N6.of (Jw (Jw s3 R (Js _ _ _) 0 (AU AM)) (R.Kn _) (Js _ _ _) 1 (AK d 0 f)) ab B.1 (by rw [<- aa.o _ B.2]; cases H <;> rfl) ?_);exact (((((N.tr HW).setCell (p := ⟨g, 0, O⟩) Gh _).setCell (p := ⟨g, 1, O⟩) Gh _).setCell (p := ⟨g, 0, O⟩) Gh _).setCell (p := ⟨w.1.size + 1 + 1, 0, O⟩) Gh _).setCell (p := ⟨w.1.size + 1 + 1, 1, O⟩) Gh _
    go_wp2
    have s2 := Jw (Jw HS y (Js _ _ _) 0 (AU H)) (y.Kn _) (Js _ _ _) 1 (AK d (ln m) f);have j3 := P.GJ (AU H) (AK d (ln m) f);have I := j3.cell 0;have J := j3.cell 1;refine Bp (v := AW #[AU H, AK d (ln m) f]) (by simp [results, results369, go_sem, I, J]) F (N6.of (Jw (Jw s2 P (Js _ _ _) 0 (AU H)) (P.Kn _) (Js _ _ _) 1 (AK d (ln m) f)) ab B.1 (aa _ B.2) ?_);exact ((((N.tr HW).setCell (p := ⟨g, 0, O⟩) Al _).setCell (p := ⟨g, 1, O⟩) Al _).setCell (p := ⟨w.1.size + 1 + 1, 0, O⟩) Al _).setCell (p := ⟨w.1.size + 1 + 1, 1, O⟩) Al _
end
section
open Kp
attribute [local go_sem] Oper.semAt_some
def BB(k:Nat)(w:V)(B:Nat)(C:Option An)(q:Nat)(rows:List (List AN)):Prop:=
 ln rows<=q/\q<=BM/\(0<ln rows->∃b off,C=Q ⟨b,off,O⟩/\b<B/\∀i,i<ln rows->∀j,j<k->w.cell? ⟨b,off+k*i+j,O⟩=(rows.getD i [])[j]?)
theorem BB.below{B:Nat}{rows:List (List AN)}(h:BB k w B C q rows)(d:At B w w'):BB k w' B C q rows:=by
 obtain⟨h1,h2,c⟩:=h;refine⟨h1,h2,λhn=> ?_⟩;have⟨b,off,e,a,f⟩:=c hn;exact⟨b,off,e,a,λi hi j g=>(d.cell a).trans (f i hi j g)⟩
theorem BB.more{B B':Nat}{rows:List (List AN)}(h:BB k w B C q rows)(f:B<=B'):BB k w B' C q rows:=by
 obtain⟨h1,h2,a⟩:=h;refine⟨h1,h2,λhn=> ?_⟩;have⟨b,off,e,d,c⟩:=a hn;exact⟨b,off,e,D,c⟩
abbrev Cg(r:List Sd):List (List AN):=r.map FA
theorem VX{r:List Sd}(hi:i<ln r):(Cg r).getD i []=FA (BA r i):=by
 unfold BA;simp[Gs,Bv hi]
def xx(a:Nat)(C:Option An)(q:Nat)(r:List Sd)(W:V):Prop:=
 W.cell? ⟨a,0,O⟩=Q (AK C (ln r) q)/\∃B,BB 7 W B C q (Cg r)
def lP(r:List Sd)(k:Nat)(x:Array AN):Prop:=x=#[M G (k:Int),AW (Dt (FK r k) (BA r k) (Bl r k)).toArray]
def Hq(r:List Sd)(k a c d b off:Nat)(C:Option An)(q:Nat):Nat->AN
 |0=> .func (.yield d) #[] #[]
 |1=> M G (k:Int)
 |2=> AK C (ln r) q
 |3=> M G (k:Int)
 |4=> M G (ln r:Int)
 |5=> M G ((k:Int)+ln r)
 |6=> M G ((k:Int)+ln r-1)
 |7=> M G (ln r:Int)
 |8=> M G (a:Int)
 |9=> Ap (Q ⟨b,off+7*a,O⟩)
 |10=> AW (FA (BA r a)).toArray
 |11=> AK C (ln r) q
 |12=> M G (k:Int)
 |13=> Ap (Q ⟨b,off+7*k,O⟩)
 |14=> AW (FA (BA r k)).toArray
 |15=> AK C (ln r) q
 |16=> M G (k:Int)
 |17=> M G ((k:Int)+1)
 |18=> M G (ln r:Int)
 |19=> M G (c:Int)
 |20=> Ap (Q ⟨b,off+7*c,O⟩)
 |21=> AW (FA (BA r c)).toArray
 |_=> AW (Dt (BA r a) (BA r k) (BA r c)).toArray
def Y5(x:Nat)(C:Option An)(q:Nat)(r:List Sd)(hn:ln r<=1000000):
  XT AO 248 #[Ap (Q ⟨x,0,O⟩)] (lP r) (xx x C q r) (ln r):=by
 intro m lp J Jx W w X ag hY T;refine callsIn_of_wp func248 F trivial ?_ F;have ah:=(w 0 W T).1;simp only[ntmps248,Nn,FX,Jy,Hw,Nat.reduceSub,OX,PQ,PS,PR,Lm,LO]
 gi_wp2
 gi_loopw [9] (λi wr=>∃k:Nat,k<=ln r/\i=M G (k:Int)/\J k wr) (λi _=>((ln r:Int)-B8 i).toNat)
 case atStart=>exact⟨0,D,AV,T⟩
 obtain⟨k,hk,rfl,c⟩:=hrel;have⟨hc,B,ae⟩:=w k wr c;by_cases d:k<ln r
 .skip;obtain⟨h1,h2,t⟩:=ae;rw[BL] at h1 t;obtain⟨b,off,rfl,hB,f⟩:=t D;have⟨n,EZ⟩:=AP ((k+ln r-1)%ln r);have⟨s,Ge⟩:=AP ((k+1)%ln r);have o:n<ln r:=by rw[<-EZ];exact Hh _ D
  have E:s<ln r:=by rw[<-Ge];exact Hh _ D
  have q1:((k:Int)+ln r-1).tmod (ln r:Int)=(n:Int):=by rw[ZA D,show((k:Int)+ln r-1)=((k+ln r-1:Nat):Int) by omega,<-EZ];rfl
  have q2:((k:Int)+1).tmod (ln r:Int)=(s:Int):=by rw[ZA D,<-Ge];rfl
  have HX:=A (show lP r k #[M G (k:Int),AW (Dt (BA r n) (BA r k) (BA r s)).toArray] by unfold lP FK Bl;rw[EZ,Ge];rfl);clear EZ Ge;clear f t;unfold BM at h2
  gi_wp2
  refine Ui U (jD (a2k _) U 23
   (λw'=>Ext wr w') (λi v _=>v=Hq r k n s lp b off (Q ⟨b,off,O⟩) q i) (λ_=>AM) U (λ_ _ h k=>h.tr k) (λ_ _ _ _ h _=>h) (λ_ _ _ _ h=>Aq) ?step ?tail _ (Ext.dr wr))
  case step=>
   intro i vs w' hi u a;have w1:G.wrap ((k:Int)+ln r)=(k:Int)+ln r:=DF _ D;have w2:G.wrap ((k:Int)+ln r-1)=(k:Int)+ln r-1:=DF _ D;have w3:G.wrap ((k:Int)+1)=(k:Int)+1:=DF _ D;have q4:¬r=[]:=by intro h;rw[h] at d;simp at d
   have q3:((ln r:Int)==0)=AM:=Hi;have⟨ai,B2,_,_,V⟩:=w k w' (X _ _ _ c u);have⟨b2,af,g,_,f⟩:=V QM;rw[BL] at f;obtain⟨rfl,rfl⟩:b2=b/\af=off:=by injection g with g;injection g with e3 e4;exact⟨e3.symm,e4.symm⟩
   have c1:=λj (c:j<7)=>(f _ o j c).trans (by rw[VX o])
   have c2:=λj (c:j<7)=>(f _ d j c).trans (by rw[VX d])
   have c3:=λj (c:j<7)=>(f _ E j c).trans (by rw[VX E])
   have ab:=c1 0 Z;have ac:=c2 0 Z;have ad:=c3 0 Z;rw[Dh] at ab ac ad;clear f V g;rcases(show i=0\/i=1\/i=2\/i=3\/i=4\/i=5\/i=6\/i=7\/i=8\/i=9\/i=10\/i=11\/i=12\/i=13\/i=14\/i=15\/i=16\/i=17\/i=18\/i=19\/i=20\/i=21\/i=22 by omega) with rfl|rfl|rfl|rfl|rfl|rfl|rfl|rfl|rfl|rfl|rfl|rfl|rfl|rfl|rfl|rfl|rfl|rfl|rfl|rfl|rfl|rfl|rfl<;>clear hi<;>refine DC rfl (λK hK=> ?_)
   .exact Ek
   .exact Ek
   .exact Ek
   .exact Ek
   .exact Ek
   .have d3:=a 3 U;have P:=a 4 U;simp only[Hq] at d3 P;go_simp;exact hK _ _ ⟨_,by simp[d3,P,Hq],Ext.B9 _,rfl,λh=>Aq⟩
   .have d5:=a 5 U;simp only[Hq] at d5;go_simp;exact hK _ _ ⟨_,by simp[d5,Hq],Ext.B9 _,rfl,λh=>Aq⟩
   .exact Ek
   .have d6:=a 6 U;have R:=a 7 U;simp only[Hq] at d6 R;go_simp;exact hK _ _ ⟨_,by simp[d6,R,Hq],Ext.B9 _,rfl,λh=>Aq⟩
   .have d2:=a 2 U;have S:=a 8 U;simp only[Hq] at d2 S;go_simp;exact hK _ _ ⟨_,by simp[d2,S,Hq],Ext.B9 _,rfl,λh=>Aq⟩
   .have d9:=a 9 U;simp only[Hq] at d9;go_simp;exact hK _ _ ⟨_,by simp[d9,Hq],Ext.B9 _,rfl,λh=>Aq⟩
   .exact Ek
   .exact Ek
   .have d11:=a 11 U;have z:=a 12 U;simp only[Hq] at d11 z;go_simp;exact hK _ _ ⟨_,by simp[d11,z,Hq],Ext.B9 _,rfl,λh=>Aq⟩
   .have d13:=a 13 U;simp only[Hq] at d13;go_simp;exact hK _ _ ⟨_,by simp[d13,Hq],Ext.B9 _,rfl,λh=>Aq⟩
   .exact Ek
   .exact Ek
   .have d16:=a 16 U;simp only[Hq] at d16;go_simp;exact hK _ _ ⟨_,by simp[d16,Hq],Ext.B9 _,rfl,λh=>Aq⟩
   .exact Ek
   .have d17:=a 17 U;have I:=a 18 U;simp only[Hq] at d17 I;go_simp;exact hK _ _ ⟨_,by simp[d17,I,Hq],Ext.B9 _,rfl,λh=>Aq⟩
   .have d15:=a 15 U;have L:=a 19 U;simp only[Hq] at d15 L;go_simp;exact hK _ _ ⟨_,by simp[d15,L,Hq],Ext.B9 _,rfl,λh=>Aq⟩
   .have d20:=a 20 U;simp only[Hq] at d20;go_simp;exact hK _ _ ⟨_,by simp[d20,Hq],Ext.B9 _,rfl,λh=>Aq⟩
   have y:=a 10 U;have H:=a 14 U;have N:=a 21 U;simp only[Hq] at y H N;go_simp;exact hK _ _ ⟨_,by simp[y,H,N,Hq],Ext.B9 _,rfl,λh=>Aq⟩
  case tail=>
   intro vs w' u l _;have Y:=l 0 Z;have v1:=l 1 Z;have aa:=l 22 Z;simp only[Hq] at Y v1 aa;clear l;have⟨fn,tmps,assign,body,hy,hR⟩:=hY k _ w' d HX (X _ _ _ c u);simp only[FV,FY,Y,v1,aa];exact yz
 obtain rfl:k=ln r:=D;exact mW
def Y7(w:V)(C:Option An)(n q:Nat):
  AZ AO 185 #[AK C n q] w λe w'=>e=Ac (.func (.func 248) #[] #[Ap (Q ⟨w.1.size,0,O⟩)])/\w'=w.alloc (.cells #[AK C n q] 117):=by
 go_enter func185,ntmps185;go_wp2;go_ret;exact⟨F,F⟩
end
section
open Kp
abbrev du(t:Tl):List AN:=[M G t.BX,M G t.length,M G t.It,M G t.tail]
def a3j(t:Tl)(w:V):AZ AO 74 #[AW (du t).toArray] w λe w'=>e=Ac (M G (GI t))/\Ext w w':=by
 have a:=A (show Ext w (w.alloc (.cells (du t).toArray 30)) from(Ad _ _).alloc (AS _) _);cases b:N t.BX 1 2000
 .have HR:=A (show GI t=2 by unfold GI;rw[b];rfl);go_enter func74,ntmps74;go_wp2_with(go_at_call 125;refine(ah _ _ _ _).mono ?_;rintro e W1 ⟨rfl,rfl⟩;first|rw[b]|skip)
  exact Tb
 cases c:N t.length 1 2000
 .have HR:=A (show GI t=2 by unfold GI;rw[b,c];rfl);go_enter func74,ntmps74;go_wp2_with(go_at_call 125;refine(ah _ _ _ _).mono ?_;rintro e W1 ⟨rfl,rfl⟩;first|rw[b]|rw[c]|skip)
  exact Tb
 have g:1<=t.length/\t.length<=2000:=by unfold N at c;simpa using c
 obtain⟨i,j⟩:=g;cases d:N t.It 0 (t.length-1)
 .have HR:=A (show GI t=2 by unfold GI;rw[b,c,d];rfl);go_enter func74,ntmps74;go_wp2_with(go_at_call 125;refine(ah _ _ _ _).mono ?_;rintro e W1 ⟨rfl,rfl⟩;first|rw[b]|rw[c]|rw[d]|skip)
  exact Tb
 cases f:N t.tail 0 1000
 .have HR:=A (show GI t=2 by unfold GI;rw[b,c,d,f];rfl);exact a03
 have HR:=A (show GI t=0 by unfold GI;rw[b,c,d,f];rfl);exact a03
abbrev Cy(l:List Int):List (List AN):=l.map λn=>[M G n]
def Ph(l:List Int)(i:Nat):Int:=if !N (l.getD i 0) 0 1048576 then 2 else if 0<i/\l.getD i 0<=l.getD (i-1) 0 then 10 else 0
def dH(l:List Int):Fi l=if 16<ln l then 4 else EI (Ph l) (ln l):=rfl
theorem Rh{l:List Int}(hi:i<ln l):((Cy l).getD i [])[0]?=Q (M G (l.getD i 0)):=by
 simp[Gs,Bv hi]
def a0y(w:V)(C:Option An)(q:Nat)(l:List Int)(E:BB 1 w w.1.size C q (Cy l)):
  AZ AO 67 #[AK C (ln l) q] w λe w'=>e=Ac (M G (Fi l))/\w'=w:=by
 obtain⟨h1,h2,m⟩:=E;rw[BL] at h1 m;unfold BM at h2;by_cases t:16<ln l
 .have HR:=A (show Fi l=4 by rw[dH,Aj t]);clear m;go_enter func67,ntmps67;exact Kx
 have HR:=A (show Fi l=EI (Ph l) (ln l) by rw[dH,Af t]);have z:=A m;clear m;go_enter func67,ntmps67;go_wp2;go_loopw [10] (λi wr=>∃k:Nat,k<=ln l/\i=M G (k:Int)/\wr=w/\∀j,j<k->Ph l j=0) (λi _=>((ln l:Int)-B8 i).toNat)
 case atStart=>exact⟨0,D,rfl,rfl,λj v=>D⟩
 obtain⟨k,hk,rfl,rfl,u⟩:=hrel;have g:=A u;clear u;by_cases n:k<ln l
 .obtain⟨b,off,rfl,hB,hcell⟩:=z D;have c1:=hcell k n 0 Z;rw[Rh n,H7,Dh] at c1;have r:0<k->wr.cell? ⟨b,off+(k-1),O⟩=Q (M G (l.getD (k-1) 0)):=λd=>by
   have:=hcell (k-1) D 0 Z;rwa[Rh D,H7,Dh] at this
  have a:=A (show Ph l k=if !N (l.getD k 0) 0 1048576 then 2 else if 0<k/\l.getD k 0<=l.getD (k-1) 0 then 10 else 0 from rfl);have⟨x,hx⟩:=AP (l.getD k 0);have⟨y,hy⟩:=AP (l.getD (k-1) 0);rw[hx] at c1 a;rw[hy] at r a;have B:=A r;clear hx hy hcell r;cases c:N x 0 1048576
  .have f:=A (show Fi l=2 by rw[HR.o,Im n g.o (by rw[a.o,c,Aj Z];decide),a.o,c,Aj Z]);exact a05
  by_cases d:0<k
  .have c2:=B d;have F:AQ (0<(k:Int))=AL:=NF;have H:((k:Int)-1).toNat=k-1:=D;by_cases o:x<=y
   .have f:=A (show Fi l=10 by rw[HR.o,Im n g.o (by rw[a.o,c,Af Z,Aj ⟨d,o⟩];decide),a.o,c,Af Z,Aj ⟨d,o⟩]);exact a05
   have s:=A (show Ph l k=0 by rw[a.o,c,Af Z,Af (λh=>o h.2)]);have J:AQ (x<=y)=AM:=by rw[CX];exact o
   exact a04
  have F:AQ (0<(k:Int))=AM:=Et;have s:=A (show Ph l k=0 by rw[a.o,c,Af Z,Af (λh=>d h.1)]);exact a04
 have I:AQ ((k:Int)<(ln l:Int))=AM:=Et;have f:=A (show Fi l=0 by rw[HR.o,KH (λj v=>g.o j D)]);go_wp2;go_ret;exact⟨Kw,rfl⟩
def Rj(t:Tl):GI t=if t.BX<1\/2000<t.BX\/t.length<1\/2000<t.length\/t.It<0\/t.length<=t.It\/t.tail<0\/1000<t.tail then 2 else 0:=by
 unfold GI N;by_cases h:t.BX<1\/2000<t.BX\/t.length<1\/2000<t.length\/t.It<0\/t.length<=t.It\/t.tail<0\/1000<t.tail
 .rw[Aj h,Af];simp only[Ez,Cx];omega
 rw[Af h,Aj];simp only[Ez,Cx];omega
def a0t(t:Tl)(w:V):AZ AO 85 #[AW (du t).toArray] w λe w'=>e=Ac (M G (GI t))/\Ext w w':=by
 have n:=A (show Ext w (w.alloc (.cells (du t).toArray 30)) from(Ad _ _).alloc (AS _) _);by_cases h1:t.BX<1
 .have HR:=A (show GI t=2 by rw[Rj,Aj D]);have d1:AQ (t.BX<1)=AL:=by rw[Cx];exact h1
  exact SP
 by_cases h2:2000<t.BX
 .have HR:=A (show GI t=2 by rw[Rj,Aj D]);have d1:AQ (t.BX<1)=AM:=TT;have d2:AQ (2000<t.BX)=AL:=by rw[Cx];exact h2
  exact SP
 by_cases a:t.length<1
 .have HR:=A (show GI t=2 by rw[Rj,Aj D]);have d1:AQ (t.BX<1)=AM:=TT;have d2:AQ (2000<t.BX)=AM:=Ur;have b:AQ (t.length<1)=AL:=by rw[Cx];exact a
  exact SP
 by_cases c:2000<t.length
 .have HR:=A (show GI t=2 by rw[Rj,Aj D]);have d1:AQ (t.BX<1)=AM:=TT;have d2:AQ (2000<t.BX)=AM:=Ur;have b:AQ (t.length<1)=AM:=by rw[CX];exact a
  have d:AQ (2000<t.length)=AL:=by rw[Cx];exact c
  exact SP
 by_cases f:t.It<0
 .have HR:=A (show GI t=2 by rw[Rj,Aj D]);have d1:AQ (t.BX<1)=AM:=TT;have d2:AQ (2000<t.BX)=AM:=Ur;have b:AQ (t.length<1)=AM:=by rw[CX];exact a
  have d:AQ (2000<t.length)=AM:=by rw[CX];exact c
  have g:AQ (t.It<0)=AL:=by rw[Cx];exact f
  exact SP
 by_cases i:t.length<=t.It
 .have HR:=A (show GI t=2 by rw[Rj,Aj D]);have d1:AQ (t.BX<1)=AM:=TT;have d2:AQ (2000<t.BX)=AM:=Ur;have b:AQ (t.length<1)=AM:=by rw[CX];exact a
  have d:AQ (2000<t.length)=AM:=by rw[CX];exact c
  have g:AQ (t.It<0)=AM:=by rw[CX];exact f
  have j:AQ (t.length<=t.It)=AL:=by rw[Cx];exact i
  exact SP
 by_cases k:t.tail<0
 .have HR:=A (show GI t=2 by rw[Rj,Aj D]);have d1:AQ (t.BX<1)=AM:=TT;have d2:AQ (2000<t.BX)=AM:=Ur;have b:AQ (t.length<1)=AM:=by rw[CX];exact a
  have d:AQ (2000<t.length)=AM:=by rw[CX];exact c
  have g:AQ (t.It<0)=AM:=by rw[CX];exact f
  have j:AQ (t.length<=t.It)=AM:=by rw[CX];exact i
  have l:AQ (t.tail<0)=AL:=by rw[Cx];exact k
  exact SP
 by_cases m:1000<t.tail
 .have HR:=A (show GI t=2 by rw[Rj,Aj D]);have d1:AQ (t.BX<1)=AM:=TT;have d2:AQ (2000<t.BX)=AM:=Ur;have b:AQ (t.length<1)=AM:=by rw[CX];exact a
  have d:AQ (2000<t.length)=AM:=by rw[CX];exact c
  have g:AQ (t.It<0)=AM:=by rw[CX];exact f
  have j:AQ (t.length<=t.It)=AM:=by rw[CX];exact i
  have l:AQ (t.tail<0)=AM:=by rw[CX];exact k
  have o:AQ (1000<t.tail)=AL:=by rw[Cx];exact m
  exact SP
 have HR:=A (show GI t=0 by rw[Rj,Af D]);have d1:AQ (t.BX<1)=AM:=TT;have d2:AQ (2000<t.BX)=AM:=Ur;have b:AQ (t.length<1)=AM:=by rw[CX];exact a
 have d:AQ (2000<t.length)=AM:=by rw[CX];exact c
 have g:AQ (t.It<0)=AM:=by rw[CX];exact f
 have j:AQ (t.length<=t.It)=AM:=by rw[CX];exact i
 have l:AQ (t.tail<0)=AM:=by rw[CX];exact k
 have o:AQ (1000<t.tail)=AM:=by rw[CX];exact m
 exact SP
def a1A(w:V)(C:Option An)(q:Nat)(l:List Int)(I:BB 1 w w.1.size C q (Cy l)):
  AZ AO 81 #[AK C (ln l) q] w λe w'=>e=Ac (M G (Fi l))/\Ext w w':=by
 obtain⟨h1,h2,n⟩:=I;rw[BL] at h1 n;unfold BM at h2;by_cases B:16<ln l
 .have HR:=A (show Fi l=4 by rw[dH,Aj B]);clear n;go_enter func81,ntmps81;go_wp2;go_ret;exact⟨Fo,fC⟩
 have HR:=A (show Fi l=EI (Ph l) (ln l) by rw[dH,Af B]);have F:=A n;clear n;go_enter func81,ntmps81;go_wp2;go_loopw [3] (λi wr=>∃k:Nat,k<=ln l/\i=M G (k:Int)/\Ext w wr/\∀j,j<k->Ph l j=0) (λi _=>((ln l:Int)-B8 i).toNat)
 case atStart=>exact⟨0,D,rfl,Ad _ _,λj o=>D⟩
 obtain⟨k,hk,rfl,t,E⟩:=hrel;have m:=A t;have g:=A E;clear E;by_cases r:k<ln l
 .obtain⟨b,off,rfl,hB,hcell0⟩:=F D;have u:=λi hi j o=>(t.cell (p:=⟨b,off+1*i+j,O⟩) hB).trans (hcell0 i hi j o)
  clear hcell0 t;have c1:=u k r 0 Z;rw[Rh r,H7,Dh] at c1;have v:0<k->wr.cell? ⟨b,off+(k-1),O⟩=Q (M G (l.getD (k-1) 0)):=λd=>by
   have:=u (k-1) D 0 Z;rwa[Rh D,H7,Dh] at this
  have c:=A (show Ph l k=if !N (l.getD k 0) 0 1048576 then 2 else if 0<k/\l.getD k 0<=l.getD (k-1) 0 then 10 else 0 from rfl);have⟨x,hx⟩:=AP (l.getD k 0);have⟨y,hy⟩:=AP (l.getD (k-1) 0);rw[hx] at c1 c;rw[hy] at v c;have H:=A v;clear hx hy u v;cases a:N x 0 1048576
  .have f:=A (show Fi l=2 by rw[HR.o,Im r g.o (by rw[c.o,a,Aj Z];decide),c.o,a,Aj Z]);go_wp2_with(go_at_call 80;refine(U5 _ _ _ _).mono ?_;rintro e W1 ⟨rfl,rfl⟩;rw[a])
   go_ret;exact⟨Kw,fC⟩
  by_cases d:0<k
  .have c2:=H d;have J:AQ (0<(k:Int))=AL:=NF;have K:((k:Int)-1).toNat=k-1:=D;have L:0<=(k:Int)-1:=D;have P:(k:Int)-1<(ln l:Int):=D;have R:(k:Int)<(ln l:Int):=D;have S:G.wrap ((k:Int)-1)=(k:Int)-1:=DF _ D;by_cases s:x<=y
   .have f:=A (show Fi l=10 by rw[HR.o,Im r g.o (by rw[c.o,a,Af Z,Aj ⟨d,s⟩];decide),c.o,a,Af Z,Aj ⟨d,s⟩]);go_wp2_with(go_at_call 80;refine(U5 _ _ _ _).mono ?_;rintro e W1 ⟨rfl,rfl⟩;rw[a])
    go_quiet (fail)
    go_wp2;go_ret;exact⟨Kw,fC⟩
   have z:=A (show Ph l k=0 by rw[c.o,a,Af Z,Af (λh=>s h.2)]);have U:AQ (x<=y)=AM:=by rw[CX];exact s
   exact zO
  have J:AQ (0<(k:Int))=AM:=Et;have z:=A (show Ph l k=0 by rw[c.o,a,Af Z,Af (λh=>d h.1)]);exact zO
 have T:AQ ((k:Int)<(ln l:Int))=AM:=Et;have f:=A (show Fi l=0 by rw[HR.o,KH (λj o=>g.o j D)]);go_wp2;go_ret;exact⟨Kw,fC⟩
end
end Go.Proofs.YtalhfkdhdggdaaaGreatDoor
namespace Kp
section
open Go
def O7(o:Option Nat)(c:UInt8):Option Nat:=o.bind λn=>if CJ c=AL then Q (min (10*n+Cv c) 2147483648) else O
def UY(l:By):Int:=((l.foldl O7 (Q 0)).getD 0:Nat)
def GC(s:By):Int:=if s.head?=Q 45 then -UY s.tail else UY s
def Oe:List By->List (Int×Int)
 |a::b::t=>(GC a,GC b)::Oe t
 |_=>[]
def Nu(w:By):Int:=if w=MC then 4 else if w=LY then 5 else if w=LI then 6 else if w=Jv then 7 else if w=P4 then 8 else if w=Q4 then 9 else if w=ML then 10 else if w=MN then 11 else 0
def K7(k:Int)(ws:List By):Ed:=
 let n:=λi=>GC (ws.getD i [])
 let e:Ed:={BZ with Ab:=k}
 if k=1 then{e with Ct:=ws.getD 0 []}
 else if k=2 then{e with Ae:=n 0,sx:=n 1,sy:=n 2,ID:=n 3,II:=n 4,I9:=n 5,IF:=n 6,DX:=n 7==1}
 else if k=3 then{e with Ae:=n 0,Av:=n 1}
 else if k=4\/k=8 then{e with Av:=n 0}
 else if k=5 then{e with Ae:=n 0,EL:=n 1,E9:=ws.getD 2 [],E8:=ws.getD 3 [],EE:=ws.getD 4 [],EK:=ws.getD 5 []}
 else if k=6 then{e with Be:=Kj (ws.getD 0 [])+1,Eg:=n 1,Ef:=n 2}
 else if k=7 then{e with Ae:=n 0,Ch:=n 1,Ck:=n 2,Co:=n 3,Cp:=n 4,Cr:=n 5,Aa:=Oe (ws.drop 6)}
 else if k=9 then{e with GW:=n 0,GU:=n 1,Gb:=n 2,GY:=n 3}
 else if k=10 then{e with Ae:=n 0,FJ:=n 1,FI:=n 2,FH:=ws.getD 3 []}
 else if k=11 then{e with I8:=n 0,I7:=n 1,Hz:=n 2,IG:=n 3,IC:=n 4}
 else if k=12 then{e with Av:=Nu (ws.getD 0 []),Ae:=n 1}
 else e
open Classical in
noncomputable def Tv(a:By->Int)(s:By):Ed×Int:=
 if 65536<ln s then(BZ,4)
 else if kindOf ((Da s [32]).getD 0 [])=0 then(BZ,3)
 else if Dr a (K7 (kindOf ((Da s [32]).getD 0 [])) (Da s [32]).tail)=(s,0) then(K7 (kindOf ((Da s [32]).getD 0 [])) (Da s [32]).tail,0)
 else(BZ,3)
theorem a9k{l:By}(h:l.all CJ=AL):∀n:Nat,n<=2147483648->l.foldl O7 (Q n)=Q (min (l.foldl (λa b=>a*10+Cv b) n) 2147483648):=by
 induction l with
 |nil=>grind
 |cons c l g=>
  simp only[SL,Ez] at h;intro n hn;have e:O7 (Q n) c=Q (min (10*n+Cv c) 2147483648):=by grind [O7]
  rw[List.foldl_cons,e,g h.2 _ (Nat.min_le_right _ _),List.foldl_cons,jP,jP];have f:0<10^ln l:=ZH Z;by_cases i:10*n+Cv c<=2147483648
  .grind
  have d:min (10*n+Cv c) 2147483648=2147483648:=D;have h2:=Nat.le_mul_of_pos_right (n*10+Cv c) f;rw[d]
  congr 1
  omega
theorem rZ(h:u<=2147483648):UY (ES u)=u:=by
 grind [Qe,UY,a9k,BY]
theorem YQ{n:Int}(h:Ic n=AM):GC (CY n)=n:=by
 unfold Ic at h;simp[QC,CX] at h;unfold GC CY;split
 .rw[QG,Aj rfl,List.tail_cons,rZ D];omega
 have b:(ES n.toNat).head?≠Q 45:=by
  intro e;obtain⟨a,_,_⟩:=Qe _;rw[PN] at a;have:=a 45 (List.mem_of_mem_head? e);revert this;decide
 rw[Af b,rZ D];omega
def a6r{l:List (Int×Int)}(h:(Ev l).any Ic=AM):Oe (Dd (Ev l))=l:=by
 induction l with
 |nil=>rfl
 |cons g l a=>
  grind [Ev,Dd,Oe,YQ]
def a7r{n:Int}(h:Hd n=AL):Nu (Gc n)=n:=by
 exact zI
def a6B{c:By->Int}{e:Ed}(h:PL c e):kindOf ((EU e).getD 0 [])=e.Ab/\K7 e.Ab (EU e).tail=e:=by
 obtain⟨k1,k2,hu,d,f,b,-,a,-⟩:=h;obtain⟨Ab,Ae,sx,sy,ID,II,DX,I9,IF,EL,E9,E8,EE,EK,Be,Eg,Ef,Ch,Ck,Co,Cp,Cr,Aa,FJ,FI,FH,I8,I7,Hz,IG,IC,GW,GU,Gb,GY,Av,Ct⟩:=e;simp only at k1 k2 d f b;have hk:Ab=1\/Ab=2\/Ab=3\/Ab=4\/Ab=5\/Ab=6\/Ab=7\/Ab=8\/Ab=9\/Ab=10\/Ab=11\/Ab=12:=D;rcases hk with rfl|rfl|rfl|rfl|rfl|rfl|rfl|rfl|rfl|rfl|rfl|rfl
 all_goals
  simp only[GH,BZ,Int.reduceEq,reduceIte,or_self,or_true,Nq,Ed.mk.injEq,true_and,and_true] at hu;simp only[Cj,Int.reduceEq,reduceIte] at a
 all_goals
  repeat(obtain⟨hx,hu⟩:=hu;subst hx)
  subst hu;simp only[eV,List.any_nil,mL,QC,and_true] at a;refine⟨by simp[EU,El,kindOf],?_⟩
 all_goals first
  |(simp[EU,El,Cj,K7,YQ,a,BZ,Dd];grind [wF])
  |(simp[EU,El,Cj,K7,YQ,a,BZ,Dd,a7r (b rfl)];done)
  |(have:=a6r a.2;unfold Dd at this;simp[EU,El,Cj,numsOf,K7,YQ,a,BZ,Dd,this];done)
  |(simp[EU,El,Cj,numsOf,K7,YQ,a,BZ,Dd,uE];done)
def cG(n:Nat):∀s:By,ln s<=n->∀x∈Da s [32],ln x<=ln s:=by
 induction n with
 |zero=>
  intro s b x hx;have:s=[]:=Jf.1 D;subst this;rw[YC AV] at hx
  grind
 |succ n c=>
  intro s b x hx;by_cases hm:(32)∈s
  .obtain⟨a,r,rfl,ha⟩:=yI hm;rw[bU ha] at hx
   grind
  rw[YC hm] at hx
  grind
def a9g(s:By):∃a l,Da s [32]=a::l:=by
 by_cases h:(32)∈s
 .obtain⟨a,r,rfl,ha⟩:=yI h
  grind [bU]
 exact⟨_,_,YC h⟩
def b1u{b:By->Int}(d:Yk b)(s:By)(g:ln s<=700):Tv b s=QZ b s:=by
 by_cases h:65536<ln s
 .grind
 by_cases hx:∃e,Dr b e=(s,0)
 .obtain⟨e,he⟩:=hx;have⟨c,hw⟩:=qL he;have⟨h1,h2⟩:=a6B c;have f:=wD d c;rw[(sN d he (λa i=>BJ (cG _ s (AS _) a (by grind [EU])) g)).1];unfold Tv;rw[Af h,hw,f,h1,h2,<-hw,Af (by have:=c.k1;omega),Aj he]
 have j:QZ b s=(BZ,3):=by grind [QZ]
 unfold Tv
 grind
def QV(s:By)(ws:List By)(f k:Nat):Prop:=
 (f<=k/\k<=ln s/\Da s [32]=ws++Da (s.drop f) [32]/\(32:UInt8)∉(s.drop f).take (k-f))\/(k=ln s+1/\ws=Da s [32])
theorem QV.next{s:By}{ws:List By}(h:QV s ws f k)(hk:k<ln s)(b:s[k]≠32):QV s ws f (k+1):=by
 rcases h with⟨h1,h2,a,c⟩|⟨h1,_⟩
 .refine .inl ⟨D,hk,a,?_⟩;rw[show k+1-f=(k-f)+1 by omega,Qx Al]
  grind
 omega
theorem QV.cut{s:By}{ws:List By}(h:QV s ws f k)(hk:k<=ln s)(d:∀h:k<ln s,s[k]=32):QV s (ws++[(s.drop f).take (k-f)]) (k+1) (k+1):=by
 rcases h with⟨h1,h2,b,c⟩|⟨h1,_⟩
 .by_cases e:k<ln s
  .have a:s.drop f=(s.drop f).take (k-f)++32::s.drop (k+1):=by
    have:(s.drop f).drop (k-f)=32::s.drop (k+1):=by
     rw[lv,show f+(k-f)=k by omega,lT e,d e]
    rw[<-this,WY]
   refine .inl ⟨AS _,e,?_,AV⟩
   grind [bU]
  have a:(s.drop f).take (k-f)=s.drop f:=Qy Al;rw[a] at c⊢;rw[YC c] at b;exact .inr ⟨D,b.symm⟩
 omega
theorem pq(l:By):l.foldl O7 O=O:=by induction l with
 |nil=>rfl
 |cons c l a=>exact a
def MZ(s:By)(k n:Nat)(m:Bool):Prop:=
 k<=s.length/\m=(AQ (0<k)&&s.head?==Q 45)/\(if s.head?=Q 45 then s.tail.take (k-1) else s.take k).foldl O7 (Q 0)=Q n/\n<=2147483648
def MZ.neg{s:By}(h:s.head?=Q 45):MZ s 1 0 AL:=by cases s<;>simp_all[MZ]
theorem MZ.all{s:By}(h:MZ s k n m)(hk:k<s.length)(d:k=0->s.head?≠Q 45):(if s.head?=Q 45 then s.tail.take (k+1-1) else s.take (k+1)).foldl O7 (Q 0)=O7 (Q n) s[k]/\m=(AQ (0<k+1)&&s.head?==Q 45):=by
 obtain⟨h1,h2,a,f⟩:=h;cases s with
 |nil=>simp at hk
 |cons c t=>
  by_cases e:c=45
  .subst e;have g:k≠0:=λe=>d e rfl
   obtain⟨q,rfl⟩:∃q,k=q+1:=⟨k-1,D⟩;simp at h2 a hk⊢;rw[Qx hk,eS,a];exact⟨F,h2⟩
  simp only[QG,We,e,Wx] at h2 a⊢;rw[Qx hk,eS,a];have b:(Q c==Q (45:UInt8))=AM:=by simp[e]
  rw[b] at h2⊢;exact⟨F,by rw[h2];simp⟩
theorem MZ.more{s:By}(h:MZ s k n m)(hk:k<ln s)(a:k=0->s.head?≠Q 45)(b:CJ s[k]=AL):MZ s (k+1) (min (10*n+Cv s[k]) 2147483648) m:=by
 have⟨h1,h2⟩:=h.all hk a;exact⟨hk,h2,by grind [O7],Nat.min_le_right _ _⟩
theorem MZ.done{s:By}(h:MZ s (ln s) n m):GC s=if m=AL then -(n:Int) else n:=by
 obtain⟨h1,h2,a,b⟩:=h;unfold GC UY;cases s with
 |nil=>simp_all
 |cons c t=>by_cases e:c=45<;>simp_all
theorem MZ.bad{s:By}(h:MZ s k n m)(hk:k<ln s)(a:k=0->s.head?≠Q 45)(b:CJ s[k]=AM):GC s=0:=by
 have⟨h1,h2⟩:=h.all hk a;have c:O7 (Q n) s[k]=O:=by simp[O7,b]
 unfold GC UY;by_cases e:s.head?=Q 45
 .grind [List.take_append_drop,pq]
 grind [List.take_append_drop,pq]
def Ob(ws:List By):List Int:=ws.map GC++F7 (8-ln ws) 0
def b0e(ws:List By)(i:Nat):(Ob ws).getD i 0=GC (ws.getD i []):=by
 unfold Ob;by_cases h:i<ln ws
 .grind
 have e:GC []=0:=rfl
 grind
def a6F(w:By):0<=Nu w/\Nu w<=11:=by grind [Nu]
def RP(w:By)(k:Int):Int:=if Nu w<k then Nu w else 0
def b2v(w:By):RP w 4=0:=by grind [RP,Nu]
def a9y(w:By):RP w 12=Nu w:=Aj (by have:=a6F w;omega)
def tP{w:By}{k:Int}(h:Nu w≠k):RP w (k+1)=RP w k:=by grind [RP]
def a7H{w:By}{k:Int}(h:Nu w=k):RP w (k+1)=k:=by unfold RP;grind
def WG:∀(l:List By),(Oe l).length=ln l/2/\∀j,j<ln l/2->(Oe l)[j]?=Q (GC (l.getD (2*j) []),GC (l.getD (2*j+1) []))
 |[]=>⟨by simp[Oe],λj h=>absurd h AV⟩
 |[_]=>⟨by simp[Oe],λj h=>absurd h AV⟩
 |a::b::t=>by
  have⟨h1,h2⟩:=WG t;refine⟨by grind [Oe],λj h=> ?_⟩;cases j with
  |zero=>rfl
  |succ j=>
   grind [Oe]
end
end Kp
