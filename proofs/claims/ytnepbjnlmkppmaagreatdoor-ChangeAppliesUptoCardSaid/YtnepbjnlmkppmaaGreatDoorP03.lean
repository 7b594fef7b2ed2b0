/- ChangeApplies of kingpostlaw58: part 3 of its proof (merged and shortened by program). -/
import Derived.Deep.RegionHeld3
import Derived.Deep.DeepMust
import Derived.Laws.AppendOwnNone
import Derived.Lib.MinMax
import Derived.Laws.BytesArg
import Derived.Test.YtnepbjnlmkppmaaGreatDoorP01
set_option linter.unusedVariables false
set_option linter.unusedSimpArgs false
set_option linter.defProp false
set_option maxHeartbeats 8000000
set_option maxRecDepth 100000
open Go.RowKit Go.Shelf Go.Proofs.Tryz
open Array renaming getElem?_eq_some_iff→XV
open Bool renaming false→O,true→Y
open Decidable renaming decide→YG
open Go renaming World→U,undef→M,Value→Z,wpOp_step→XR,Calls→XY,TypeId→Yj,maxLen→Yk,Addr→Ym
open Go.Ending renaming returned→YC
open Go.IntKind renaming i64→F
open Go.IntWalk renaming i64_in→Yh
open Go.Lib renaming hid→A
open Go.Proofs.Tryz renaming prog→Xz
open Go.RowKit renaming intOf→Yf,Below→Yl
open Go.Value renaming slice→V,string→Yy,bool→Yz,pointer→YA,int→G,agg→YE,tuple→YF
open Go.World renaming alloc_heap_new→XZ,size_alloc→Ya
open List renaming getD_eq_getElem?_getD→XJ,getElem?_eq_getElem→XO,length_map→XP,length_append→Yc,length→ln
open Nat renaming le_refl→XE,mul_comm→Yd,le_trans→Ye
open Option renaming none→I,some→L
open Go.Proofs.YtnepbjnlmkppmaaGreatDoor
variable{s t E r:Bool}{m:Int}{a l B:List Nat}{n k b x lo blk i q z d g N j o:Nat}{f:Option Ym}{w w' wr Q:U}{v1 K:Z}{T:Yj}{p:Ym}
namespace Kp
def bn(f:Nat->Int):Nat->Int
 |0=>0
 |n+1=>if bn f n=0 then f n else bn f n
theorem bh{f:Nat->Int}(h:∀i,i<n->f i=0):bn f n=0:=by
 induction n with
 |zero=>rfl
 |succ n a=>rw[bn,XT (a λi hi=>h i D)];exact h n D
theorem bM{f:Nat->Int}(hk:k<n)(h:∀i,i<k->f i=0)(a:f k≠0):bn f n=f k:=by
 induction n with
 |zero=>omega
 |succ n c=>
  rw[bn];by_cases b:k=n
  ·subst b;rw[XT (bh h)]
  ·rw[c D,XQ a]
theorem ij{f:Nat->Int}(h:bn f n=0):∀i,i<n->f i=0:=by
 induction n with
 |zero=>intro i hi;omega
 |succ n c=>
  rw[bn] at h;by_cases a:bn f n=0
  ·rw[XT a] at h;intro i hi;by_cases b:i=n
   ·subst b;exact h
   ·exact c a i D
  ·rw[XQ a] at h;exact absurd h a
def cK(p:Nat->Bool):Nat->Bool
 |0=>O
 |n+1=>cK p n||p n
theorem bz{p:Nat->Bool}(h:∀i,i<n->p i=O):cK p n=O:=by
 induction n with
 |zero=>rfl
 |succ n a=>rw[cK,a λi hi=>h i D,h n D];rfl
theorem dh{p:Nat->Bool}(hk:k<n)(h:p k=Y):cK p n=Y:=by
 induction n with
 |zero=>omega
 |succ n b=>
  rw[cK];by_cases a:k=n
  ·subst a;rw[h,Bool.or_true]
  ·rw[b D,Bool.true_or]
theorem nA{p:Nat->Bool}(h:cK p n=O):∀i,i<n->p i=O:=λi hi=>by
 cases a:p i with
 |false=>rfl
 |true=>rw[dh hi a] at h;cases h
theorem LX{p:Nat->Bool}:cK p n=Y↔∃i,i<n/\p i=Y:=by
 constructor
 ·intro h;by_cases hx:∃i,i<n/\p i=Y
  ·exact hx
  ·rw[bz λi hi=>by cases a:p i with|false=>rfl|true=>exact absurd ⟨i,hi,a⟩ hx] at h;cases h
 ·rintro⟨i,hi,a⟩;exact dh hi a
theorem qx{p q:Nat->Bool}(h:∀i,i<n->p i=q i):cK p n=cK q n:=by
 induction n with
 |zero=>rfl
 |succ n a=>rw[cK,cK,a λi hi=>h i D,h n D]
def rK(f:Nat->Int):Nat->Int
 |0=>0
 |n+1=>rK f n+f n
theorem FW{f:Nat->Int}(h:∀i,i<n-> -m<=f i/\f i<=m): -(n*m)<=rK f n/\rK f n<=n*m:=by
 induction n with
 |zero=>simp[rK]
 |succ n a=>
  have h1:=a λi hi=>h i D
  have h2:=h n D;have e:((n+1:Nat):Int)*m=n*m+m:=by rw[Int.natCast_add,Int.add_mul];simp
  rw[rK,e];omega
def nY(p:Nat->Bool):Nat->Bool
 |0=>O
 |n+1=>if p n then !nY p n else nY p n
theorem Gb{p q:Nat->Bool}(h:∀i,i<n->p i=q i):nY p n=nY q n:=by
 induction n with
 |zero=>rfl
 |succ n a=>rw[nY,nY,a λi hi=>h i D,h n D]
structure Sd where
 x:Int
 y:Int
 rise:Int
 run:Int
 gable:Bool
 plate:Int
 over:Int
deriving DecidableEq
def Sw:Sd:=⟨0,0,0,0,O,0,0⟩
def J(n a b:Int):Bool:=YG (a<=n)&&YG (n<=b)
def aJ(s:Sd):Bool:=
 (if s.gable then s.rise==0&&s.run==0 else J s.rise 1 48&&J s.run 1 48)&&J s.x 0 65536&&J s.y 0 65536&&J s.plate 0 65536&&J s.over 0 65536
def au(r:List Sd)(i:Nat):Sd:=r.getD i Sw
def fV(r:List Sd)(i:Nat):Sd:=r.getD ((i+ln r-1)%ln r) Sw
def aS(r:List Sd)(i:Nat):Sd:=r.getD ((i+1)%ln r) Sw
def ma(r:List Sd)(i:Nat):Int:=(aS r i).x-(au r i).x
def oT(r:List Sd)(i:Nat):Int:=(aS r i).y-(au r i).y
def tj(r:List Sd)(i:Nat):Int:=(au r i).x-(fV r i).x
def vC(r:List Sd)(i:Nat):Int:=(au r i).y-(fV r i).y
def nP(r:List Sd)(i:Nat):Bool:=((ma r i==0)==(oT r i==0))||((tj r i==0)==(ma r i==0))
def cz(r:List Sd):Bool:=YG (4<=ln r)&& !cK (nP r) (ln r)
def Jc(r:List Sd)(i:Nat):Bool:=YG (0<tj r i*oT r i-vC r i*ma r i)
structure qf where
 lx:Int
 ly:Int
 hx:Int
 hy:Int
def kC(r:List Sd)(i:Nat):qf:=
 ⟨min (au r i).x (aS r i).x,min (au r i).y (aS r i).y,max (au r i).x (aS r i).x,max (au r i).y (aS r i).y⟩
def fT(a b:qf):Bool:=YG (a.lx<=b.hx)&&YG (b.lx<=a.hx)&&YG (a.ly<=b.hy)&&YG (b.ly<=a.hy)
def jG(r:Nat)(ring:List Sd)(n:Nat):List (Nat×Nat×qf):=(List.range n).map λi=>(r,i,kC ring i)
def kx(rs:List (List Sd)):Nat->List (Nat×Nat×qf)
 |0=>[]
 |n+1=>kx rs n++jG n (rs.getD n []) (rs.getD n []).length
def uj:Nat×Nat×qf:=(0,0,⟨0,0,0,0⟩)
def vB(rs:List (List Sd))(a b:Nat×Nat×qf):Bool:=
 !(a.1==b.1&&((a.2.1:Int)-b.2.1==1||(a.2.1:Int)-b.2.1==((rs.getD a.1 []).length:Int)-1))&&fT a.2.2 b.2.2
def fx(rs:List (List Sd)):Bool:=
 cK (λi=>cK (λk=>vB rs ((kx rs (ln rs)).getD i uj) ((kx rs (ln rs)).getD k uj)) i) (kx rs (ln rs)).length
def oD(r:List Sd):Int:=rK (λi=>(au r i).x*(aS r i).y-(au r i).y*(aS r i).x) (ln r)
def lR(r:List Sd)(x y:Int)(i:Nat):Bool:=ma r i==0&&YG (x<(au r i).x)&&(YG (y<(au r i).y) !=YG (y<(aS r i).y))
def kE(r:List Sd)(x y:Int):Bool:=nY (lR r x y) (ln r)
def FV(rs:List (List Sd))(i:Nat):Bool:=
 (YG (0<oD (rs.getD i [])) !=(i==0))||cK (λk=> !(k==i||i==0)&&(kE (rs.getD k []) (au (rs.getD i []) 0).x (au (rs.getD i []) 0).y !=(k==0))) (ln rs)
def gQ(rs:List (List Sd)):Bool:= !cK (FV rs) (ln rs)
def ug(r:List Sd)(i:Nat):Bool:= !Jc r i&&((au r i).gable||(fV r i).gable||(au r i).plate !=(fV r i).plate)
def iK(rs:List (List Sd)):Bool:=
 !cK (λk=>cK (ug (rs.getD k [])) (rs.getD k []).length) (ln rs)&&cK (λk=>cK (λi=> !(au (rs.getD k []) i).gable) (rs.getD k []).length) (ln rs)
def dL(rs:List (List Sd)):Int:=
 if rs.any (·.isEmpty)||rs.isEmpty then 5
 else if 24<ln rs.flatten then 4
 else if rs.flatten.any λs=> !aJ s then 2
 else if rs.any λr=> !cz r then 14
 else if fx rs then 15
 else if !gQ rs|| !iK rs then 14
 else 0
def iv(l:List Int):Int:=
 if 16<ln l then 4
 else bn (λi=>if !J (l.getD i 0) 0 1048576 then 2 else if 0<i/\l.getD i 0<=l.getD (i-1) 0 then 10 else 0) (ln l)
structure Sz where
 kind:Int
 width:Int
 depth:Int
deriving DecidableEq
def ir:Sz:=⟨0,0,0⟩
def kc(l:List Sz)(i:Nat):Int:=
 let s:=l.getD i ir
 if s.kind<1\/13<=s.kind then 8 else if min s.width s.depth<1\/1000<max s.width s.depth then 2
 else if cK (λk=>(l.getD k ir).kind==s.kind) i then 7 else 0
def fE(l:List Sz):Int:=bn (kc l) (ln l)
structure Tl where
 width:Int
 length:Int
 lap:Int
 tail:Int
deriving DecidableEq
def eD(t:Tl):Int:=if J t.width 1 2000&&J t.length 1 2000&&J t.lap 0 (t.length-1)&&J t.tail 0 1000 then 0 else 2
structure Br where
 width:Int
 depth:Int
 length:Int
 count:Int
 cost:Int
 gaps:List (Int×Int)
deriving DecidableEq
def pV:Br:=⟨0,0,0,0,0,[]⟩
def xh(b:Br)(i:Nat):Int:=
 let g:=b.gaps.getD i (0,0)
 if g.1<0\/b.length<g.2\/g.2<=g.1 then 2 else if 0<i/\g.1<=(b.gaps.getD (i-1) (0,0)).2 then 10 else 0
def qY(b:Br):Int:=
 if !(J b.width 1 1000&&J b.depth 1 1000&&J b.length 1 65536&&J b.count 0 4096&&J b.cost 0 1073741824) then 2
 else if 16<ln b.gaps then 4
 else bn (xh b) (ln b.gaps)
def ju(l:List Br):Int:=if 64<ln l then 4 else bn (λi=>qY (l.getD i pV)) (ln l)
structure Aw where
 width:Int
 depth:Int
 spacing:Int
 load:Int
 span:Int
deriving DecidableEq
def kI:Aw:=⟨0,0,0,0,0⟩
def xI(a b c d:Int):Int:=if a≠0 then a else if b≠0 then b else if c≠0 then c else d
def pU(a b:Aw):Int:=xI (a.width-b.width) (a.depth-b.depth) (a.spacing-b.spacing) (a.load-b.load)
def kD(x:Aw):Bool:=J x.width 1 1000&&J x.depth 1 1000&&J x.spacing 1 65536&&J x.load 0 1048576&&J x.span 1 65536
def jZ(l:List Aw)(i:Nat):Int:=if !kD (l.getD i kI) then 2 else if 0<i/\0<=pU (l.getD (i-1) kI) (l.getD i kI) then 10 else 0
def eE(l:List Aw):Int:=if 4096<ln l then 4 else bn (jZ l) (ln l)
structure Ld where
 kind:Int
 side:Int
 weight:List UInt8
deriving DecidableEq
def pO:Ld:=⟨0,0,[]⟩
structure nc where
 side:Int
 left:List UInt8
 right:List UInt8
 low:List UInt8
 high:List UInt8
deriving DecidableEq
def fm:nc:=⟨0,[],[],[],[]⟩
end Kp
namespace Go.Proofs.YtnepbjnlmkppmaaGreatDoor
section
open Kp
abbrev nQ(s:Sd):List Z:=[G F s.x,G F s.y,G F s.rise,G F s.run,Yz s.gable,G F s.plate,G F s.over]
abbrev mi(x y:Int):List Z:=[G F x,G F y]
abbrev ko(a b c:Sd):List Z:=[G F a.x,G F a.y,G F a.rise,G F a.run,Yz a.gable,G F a.plate,G F a.over,G F b.x,G F b.y,G F b.rise,G F b.run,Yz b.gable,G F b.plate,G F b.over,G F c.x,G F c.y,G F c.rise,G F c.run,Yz c.gable,G F c.plate,G F c.over]
abbrev xz(r:qf):List Z:=[G F r.lx,G F r.ly,G F r.hx,G F r.hy]
abbrev co(n:Int):Prop:=0<=n/\n<=65536
def gI(w:U)(x y:Obj):Ext w ((w.alloc x).alloc y):=((XI _ _).alloc (XE _) _).alloc YL _
def B9(w:U)(x y z:Obj):Ext w (((w.alloc x).alloc y).alloc z):=(gI w x y).alloc YP _
def zA{a b m n:Int}(e: -m<=a/\a<=m)(f: -n<=b/\b<=n): -(m*n)<=a*b/\a*b<=m*n:=by
 have c:0<=m:=D;have d:0<=n:=D;have h1:(a*b).natAbs<=m.natAbs*n.natAbs:=by
  rw[Int.natAbs_mul];exact Nat.mul_le_mul D D
 have h2:m*n=((m.natAbs*n.natAbs:Nat):Int):=by
  rw[Int.natCast_mul,Int.natAbs_of_nonneg c,Int.natAbs_of_nonneg d]
 rw[h2];omega
def bW(s:Sd)(w:U):XY Xz 186 #[YE (nQ s).toArray] w λe w'=>e=YC (YE (mi s.x s.y).toArray)/\Ext w w':=by
 go_enter func186,ntmps186;go_wp2;refine bodyPost_ret (v:= YE (mi s.x s.y).toArray) ?_ H ⟨H,gI _ _ _⟩;simp[results,results186,go_sem]
def vY(a b c d:Int)(w:U)(g:co a)(h:co b)(f:co c)(i:co d):
  XY Xz 187 #[YE (mi a b).toArray,YE (mi c d).toArray] w λe w'=>e=YC (YE (mi (c-a) (d-b)).toArray)/\Ext w w':=by
 obtain⟨l,k⟩:=g;obtain⟨j,m⟩:=h;obtain⟨c1,c2⟩:=f;obtain⟨d1,d2⟩:=i;go_enter func187,ntmps187;go_wp2;refine bodyPost_ret (v:= YE (mi (c-a) (d-b)).toArray) ?_ H ⟨H,B9 _ _ _ _⟩;simp[results,results187,go_sem]
def tM(a b c d:Int)(w:U)(g: -65536<=a/\a<=65536)(h: -65536<=b/\b<=65536)(f: -65536<=c/\c<=65536)(i: -65536<=d/\d<=65536):
  XY Xz 244 #[YE (mi a b).toArray,YE (mi c d).toArray] w λe w'=>e=YC (G F (a*d-b*c))/\Ext w w':=by
 have h1:=zA g i;have h2:=zA h f;simp only[Int.reduceMul,Int.reduceNeg] at h1 h2;obtain⟨k,m⟩:=h1;obtain⟨l,j⟩:=h2;clear g h f i;go_enter func244,ntmps244;go_wp2;go_ret;exact⟨H,gI _ _ _⟩
def ry(n a b:Int)(w:U):XY Xz 183 #[G F n,G F a,G F b] w λe w'=>e=YC (Yz (J n a b))/\w'=w:=by
 cases h:YG (a<=n)
 ·have HR:=A (show J n a b=O by unfold J;rw[h];rfl);go_enter func183,ntmps183;exact a1c
 ·have HR:=A (show J n a b=YG (n<=b) by unfold J;rw[h];rfl);go_enter func183,ntmps183;exact a1c
def ai(w:U)(b:Nat)(T:Yj)(l:List Z):Prop:=w.heap[b]?=L (.cells l.toArray T (0,0))
theorem ai.ext{l:List Z}(h:ai w b T l)(hx:Ext w w'):ai w' b T l:=(hx.block b (XV.1 h).1).trans h
def ai.new(w:U)(T:Yj)(l:List Z):ai (w.alloc (.cells l.toArray T)) w.heap.size T l:=XZ w _
theorem ai.cell{l:List Z}(h:ai w b T l)(i:Nat):w.cell? ⟨b,i,I⟩=l[i]?:=by unfold ai at h;simp[World.cell?,h]
theorem ai.lt{l:List Z}(h:ai w b T l):b<w.heap.size:=(XV.1 h).1
theorem ai.frozen{l:List Z}(h:ai w b T l)(i:Nat):w.frozen? ⟨b,i,I⟩=O:=by unfold ai at h;simp[World.frozen?,h]
theorem ai.rU{x y:Z}(h:ai w b T [x,y])(u v:Z):ai ((w.setCell ⟨b,0,I⟩ u).setCell ⟨b,1,I⟩ v) b T [u,v]:=by
 exact a1d
theorem ai.eC{l:List Z}(h:ai w b T l)(a:p.block≠b)(v:Z):ai (w.setCell p v) b T l:=(Below.heap_setCell _ _ _ _ (Ne.symm a)).trans h
theorem ai.drew{l:List Z}(h:ai w b T l):ai w.drew b T l:=h
def j5(a b c:Sd)(w:U)(s:co b.x)(y:co b.y)(D:co c.x)(z:co c.y):
  XY Xz 188 #[YE (ko a b c).toArray] w λe w'=>e=YC (YE (mi (c.x-b.x) (c.y-b.y)).toArray)/\Ext w w':=by
 have q:=(ai.new w 215 (ko a b c)).ext ((XI _ _).alloc (XE _) (.cells (mi 0 0).toArray 217));have f:=ai.new (w.alloc (.cells (ko a b c).toArray 215)) 217 (mi 0 0);have m:=A (gI w (.cells (ko a b c).toArray 215) (.cells (mi 0 0).toArray 217));rw[Ya] at f;go_enter func188,ntmps188;go_wp2;obtain⟨d,o⟩:=aa ((w.alloc (.cells (ko a b c).toArray 215)).alloc (.cells (mi 0 0).toArray 217));simp only[o] at q f m⊢;clear o;have K:=λ(w':U) (h:Yl (w.heap.size+1) d w') (i:Nat)=>ai.cell ((h.block _ (Nat.lt_succ_self _)).trans q:ai w' w.heap.size 215 (ko a b c)) i
 have J:=λ(w':U) (h:Ext d w') (i:Nat)=>(f.ext h).cell i
 have L:=λ(w':U) (h:Ext d w') (i:Nat)=>(f.ext h).frozen i
 have g:w.heap.size+1<=d.heap.size:=Nat.le_of_lt f.lt
 go_region_held3(λw'=>Yl (w.heap.size+1) d w') (first|exact j.mono g|exact l.mono g|exact k.mono g|exact((XI _ _).drew).mono g|exact((j.mono g).setCell (p:=⟨w.heap.size+1,0,I⟩) (XE _) _).setCell (p:=⟨w.heap.size+1,1,I⟩) (XE _) _) (first
  |(go_at_call 187;refine(vY _ _ _ _ _ s y D z).mono ?_;rintro e r ⟨rfl,C⟩;have j:Ext d r:=l.trans (C.mono l.size))
  |(go_at_call 186;(refine(bW c _).mono ?_);rintro e B ⟨rfl,E⟩;have l:Ext d B:=k.trans (E.mono k.size))
  |(go_at_call 186;refine(bW b _).mono ?_;rintro e W1 ⟨rfl,x⟩;have k:Ext d W1:=((XI _ _).drew).trans (x.mono (XE _))))
 go_wp2;have n:=(f.ext j).rU (G F (c.x-b.x)) (G F (c.y-b.y));have u:=n.cell 0;have t:=n.cell 1;refine bodyPost_ret (v:= YE (mi (c.x-b.x) (c.y-b.y)).toArray) ?_ H ⟨H,?_⟩
 ·simp[results,results188,go_sem,u,t]
 ·exact((m.o.trans (j.mono m.o.size)).setCell (p:=⟨w.heap.size+1,0,I⟩) YL _).setCell (p:=⟨w.heap.size+1,1,I⟩) YL _
def F7(a b:qf)(w:U):XY Xz 190 #[YE (xz a).toArray,YE (xz b).toArray] w λe w'=>e=YC (Yz (fT a b))/\Ext w w':=by
 cases h1:YG (a.lx<=b.hx)
 ·have HR:=A (show fT a b=O by unfold fT;rw[h1];rfl);exact a1e
 cases h2:YG (b.lx<=a.hx)
 ·have HR:=A (show fT a b=O by unfold fT;rw[h1,h2];rfl);exact a1e
 cases c:YG (a.ly<=b.hy)
 ·have HR:=A (show fT a b=O by unfold fT;rw[h1,h2,c];rfl);exact a1e
 ·have HR:=A (show fT a b=YG (b.ly<=a.hy) by unfold fT;rw[h1,h2,c];rfl);exact a1e
end
section
open Kp
def uW(a b c:Sd)(blk:Nat):Nat->Z
 |0=> YA (L ⟨blk,0,I⟩)
 |1=> YE (nQ a).toArray
 |2=> YE (mi a.x a.y).toArray
 |3=> YA (L ⟨blk,7,I⟩)
 |4=> YE (nQ b).toArray
 |5=> YE (mi b.x b.y).toArray
 |6=> YE (mi (b.x-a.x) (b.y-a.y)).toArray
 |7=> YE (ko a b c).toArray
 |8=> YE (mi (c.x-b.x) (c.y-b.y)).toArray
 |9=> G F ((b.x-a.x)*(c.y-b.y)-(b.y-a.y)*(c.x-b.x))
 |_=> Yz (YG (0<(b.x-a.x)*(c.y-b.y)-(b.y-a.y)*(c.x-b.x)))
def Jl(a b c:Sd)(w:U)(C:co a.x)(y:co a.y)(r:co b.x)(t:co b.y)(B:co c.x)(z:co c.y):
  XY Xz 193 #[YE (ko a b c).toArray] w λe w'=>e=YC (Yz (YG (0<(b.x-a.x)*(c.y-b.y)-(b.y-a.y)*(c.x-b.x))))/\Ext w w':=by
 have n:=ai.new w 215 (ko a b c);have x:=A (show Ext w (w.alloc (.cells (ko a b c).toArray 215)) from(XI _ _).alloc (XE _) _);go_enter func193,ntmps193;go_wp2;obtain⟨o,u⟩:=aa (w.alloc (.cells (ko a b c).toArray 215));simp only[u] at n x⊢;clear u;refine wp_region_any R (cH 11 (λg=>⟨#[YE (ko a b c).toArray,YA (L ⟨w.heap.size,0,I⟩),Yz O,g 0,g 1,g 2,g 3,g 4,g 5,g 6,g 7,g 8,g 9,g 10],[]⟩)
  (λw'=>Ext o w') (λi v _=>v=uW a b c w.heap.size i) (λ_=>O) R (λ_ _ h k=>h.tr k) (λ_ _ _ _ h _=>h) (λ_ _ _ _ h=>YM) ?step ?tail (λ_=>M) _ (Ext.dr o))
 case tail=>
  intro g w' m s _;have q:=s 10 YK;clear s;simp only[List.drop_succ_cons,List.drop_zero];simp only[uW] at q;go_wp2;go_ret;exact⟨by rw[q];rfl,x.o.tr m⟩
 case step=>
  intro i g w' hi m j;have E:=λi=>(n.ext m).cell i
  rcases(show i=0\/i=1\/i=2\/i=3\/i=4\/i=5\/i=6\/i=7\/i=8\/i=9\/i=10 by omega) with rfl|rfl|rfl|rfl|rfl|rfl|rfl|rfl|rfl|rfl|rfl<;>clear hi
  ·exact a1i
  ·refine XR H (λl f=> ?_);have d:=j 0 R;exact a1h
  ·refine XR H (λl f=> ?_);have d:=j 1 R;simp only[uW] at d;go_simp;refine(bW a _).mono ?_;exact a1g
  ·exact a1i
  ·refine XR H (λl f=> ?_);have d:=j 3 R;exact a1h
  ·refine XR H (λl f=> ?_);have d:=j 4 R;simp only[uW] at d;go_simp;refine(bW b _).mono ?_;exact a1g
  ·refine XR H (λl f=> ?_);have d:=j 2 R;have d1:=j 5 R;simp only[uW] at d d1;go_simp;refine(vY _ _ _ _ _ C y r t).mono ?_;exact a1f
  ·refine lC H H ?_;exact wp_load_row 215 (.tmp 1) H w.heap.size H 215 (ko a b c).toArray (0,0) _ (n.ext m) underlying215 H R ⟨_,H,Ext.ah _,H,λh=>YM⟩
  ·refine XR H (λl f=> ?_);have d:=j 7 R;simp only[uW] at d;go_simp;refine(j5 a b c _ r t B z).mono ?_;exact a1g
  ·refine XR H (λl f=> ?_);have d:=j 6 R;have d1:=j 8 R;simp only[uW] at d d1;go_simp;refine(tM (b.x-a.x) (b.y-a.y) (c.x-b.x) (c.y-b.y) _ D D D D).mono ?_;exact a1f
  ·refine XR H (λl f=> ?_);have d:=j 9 R;simp only[uW] at d;go_simp;refine f _ _ ⟨Yz (YG ((b.y-a.y)*(c.x-b.x)<(b.x-a.x)*(c.y-b.y))),by simp[d],Ext.ah _,?_,λh=>YM⟩;show Z.bool _=Z.bool _
   congr 1
   rw[Ys];omega
end
section
open Kp
def jB(lo:Nat)(v:Z)(w:U):Prop:=∃b,v=YA (L ⟨b,0,I⟩)/\lo<=b/\ai w b 217 (mi 0 0)
theorem jB.ext{v:Z}(h:jB lo v w)(hx:Ext w w'):jB lo v w':=by
 obtain⟨b,e,c,a⟩:=h;exact⟨b,e,c,a.ext hx⟩
theorem jB.lt{v:Z}(h:jB lo v w):∃b,v=YA (L ⟨b,0,I⟩)/\b<w.heap.size:=by
 obtain⟨b,e,c,a⟩:=h;exact⟨b,e,a.lt⟩
def JL(b c:Sd)(blk lo:Nat):Nat->Z->U->Prop
 |0,v,_=>v=YA (L ⟨blk,7,I⟩)
 |1,v,_=>v=YE (nQ b).toArray
 |2,v,_=>v=YE (mi b.x b.y).toArray
 |3,v,_=>v=YA (L ⟨blk,14,I⟩)
 |4,v,_=>v=YE (nQ c).toArray
 |5,v,_=>v=YE (mi c.x c.y).toArray
 |_,v,w=>jB lo v w
theorem PO{b c:Sd}{v:Z}(h:JL b c blk lo i v w)(hx:Ext w w'):JL b c blk lo i v w':=by
 unfold JL at *;split at h<;>first|exact h|exact jB.ext h hx
theorem Qv{w W:U}{a:Act}{lx ly hx hy:Int}{b c:Sd}(h2:a.tmps[2]?=L (YA (L ⟨blk,0,I⟩)))(n:a.defers=[])(f:ai W blk 224 (xz ⟨0,0,0,0⟩))
  (k:lx=min b.x c.x)(l:ly=min b.y c.y)(h:hx=max b.x c.x)(g:hy=max b.y c.y)(m:Ext w W)(d:w.heap.size<=blk):
  bodyPost Xz f189 (λe w'=>e=YC (YE (xz ⟨min b.x c.x,min b.y c.y,max b.x c.x,max b.y c.y⟩).toArray)/\Ext w w') .ret a
   ((((W.setCell ⟨blk,0,I⟩ (G F lx)).setCell ⟨blk,1,I⟩ (G F ly)).setCell ⟨blk,2,I⟩ (G F hx)).setCell ⟨blk,3,I⟩ (G F hy)):=by
 subst k l h g;have j:ai ((((W.setCell ⟨blk,0,I⟩ (G F (min b.x c.x))).setCell ⟨blk,1,I⟩ (G F (min b.y c.y))).setCell ⟨blk,2,I⟩ (G F (max b.x c.x))).setCell ⟨blk,3,I⟩ (G F (max b.y c.y))) blk 224 (xz ⟨min b.x c.x,min b.y c.y,max b.x c.x,max b.y c.y⟩):=by
  unfold ai at *;simp[World.setCell,Array.getElem?_modify,f]
 have q:=λi=>j.cell i
 refine bodyPost_ret (v:= YE (xz ⟨min b.x c.x,min b.y c.y,max b.x c.x,max b.y c.y⟩).toArray) ?_ n ⟨H,?_⟩
 ·simp[results,results189,go_sem,h2,q]
 ·exact(((m.setCell (p:=⟨blk,0,I⟩) d _).setCell (p:=⟨blk,1,I⟩) d _).setCell (p:=⟨blk,2,I⟩) d _).setCell (p:=⟨blk,3,I⟩) d _
def LD(a b c:Sd)(w:U):
  XY Xz 189 #[YE (ko a b c).toArray] w λe w'=>e=YC (YE (xz ⟨min b.x c.x,min b.y c.y,max b.x c.x,max b.y c.y⟩).toArray)/\Ext w w':=by
 have s:=(ai.new w 215 (ko a b c)).ext ((XI _ _).alloc (XE _) (.cells (xz ⟨0,0,0,0⟩).toArray 224));have j:=ai.new (w.alloc (.cells (ko a b c).toArray 215)) 224 (xz ⟨0,0,0,0⟩);have B:=A (gI w (.cells (ko a b c).toArray 215) (.cells (xz ⟨0,0,0,0⟩).toArray 224));rw[Ya] at j;go_enter func189,ntmps189;go_wp2;obtain⟨m,P⟩:=aa ((w.alloc (.cells (ko a b c).toArray 215)).alloc (.cells (xz ⟨0,0,0,0⟩).toArray 224));simp only[P] at s j B⊢;have hz:w.heap.size+2<=m.heap.size:=j.lt;clear P;refine wp_region_any R (cH 8 (λd=>⟨#[YE (ko a b c).toArray,YA (L ⟨w.heap.size,0,I⟩),YA (L ⟨w.heap.size+1,0,I⟩),d 6,d 7,d 0,d 1,d 2,d 3,d 4,d 5,M,M,M,M,M,M,M,M,M,M,M,M,M,M,M,M,M,M,M,M,M,M,M],[]⟩)
  (λw'=>Ext m w') (JL b c w.heap.size m.heap.size) (λi=>i==6||i==7) R (λ_ _ h k=>h.tr k) (λ_ _ _ _ h k=>PO h k) ?fr ?step ?tail (λ_=>M) _ (Ext.dr m))
 case fr=>
  intro i v w' hi S f;simp only[Bool.or_eq_true,Yg] at S;rcases S with rfl|rfl<;>exact jB.lt f
 case step=>
  intro i d w' hi g n;have cA:=λi=>(s.ext g).cell i
  rcases(show i=0\/i=1\/i=2\/i=3\/i=4\/i=5\/i=6\/i=7 by omega) with rfl|rfl|rfl|rfl|rfl|rfl|rfl|rfl<;>clear hi<;>refine XR rfl (λab hK=> ?_)
  ·exact a1k
  ·have N:=n 0 R;simp only[JL] at N;go_simp;exact hK _ _ ⟨_,by simp[N,JL],Ext.ah _,rfl,λh=>YM⟩
  ·have d1:=n 1 R;simp only[JL] at d1;go_simp;refine(bW b _).mono ?_;rintro e W1 ⟨rfl,y⟩;exact hK _ _ ⟨_,by simp[d1,JL],y,rfl,λh=>YM⟩
  ·exact a1k
  ·have Q:=n 3 R;simp only[JL] at Q;go_simp;exact hK _ _ ⟨_,by simp[Q,JL],Ext.ah _,rfl,λh=>YM⟩
  ·have C:=n 4 R;simp only[JL] at C;go_simp;refine(bW c _).mono ?_;rintro e W1 ⟨rfl,y⟩;exact hK _ _ ⟨_,by simp[C,JL],y,rfl,λh=>YM⟩
  ·exact a1j
  ·exact a1j
 case tail=>
  intro d w' g f O;have K:=f 2 YK;have r:=f 5 YK;obtain⟨p,t,l6,o⟩:=f 6 YK;obtain⟨q,u,l7,z⟩:=f 7 YK;have x:=O 6 7 YK YK YK H H;simp only[JL] at K r;clear f O;rw[t,u] at x;have V:p≠q:=λh=>x (by rw[h])
  clear x;have l:=j.ext g;have X:=λi=>o.cell i
  have Y:=λi=>z.cell i
  have T:=λi=>o.frozen i
  have Z:=λi=>z.frozen i
  have W:=λi=>l.cell i
  have fr:=λi=>l.frozen i
  have n1:¬q=p:=λh=>V h.symm
  have n2:¬w.heap.size+1=p:=D;have n3:¬w.heap.size+1=q:=D;have J:¬p=w.heap.size+1:=D;have E:¬q=w.heap.size+1:=D;simp only[List.drop_succ_cons,List.drop_zero,t,u,K,r];clear t u K r;go_wp2;all_goals clear X Y T Z W fr o z j s
  all_goals refine Qv (blk:=w.heap.size+1) (b:=b) (c:=c) ?_ ?_ ((((l.eC (p:=⟨p,0,I⟩) J (G F b.x)).eC (p:=⟨p,1,I⟩) J (G F b.y)).eC (p:=⟨q,0,I⟩) E (G F c.x)).eC (p:=⟨q,1,I⟩) E (G F c.y)) ?_ ?_ ?_ ?_ (((((B.o.tr g).setCell (p:=⟨p,0,I⟩) YP (G F b.x)).setCell (p:=⟨p,1,I⟩) YP (G F b.y)).setCell (p:=⟨q,0,I⟩) YP (G F c.x)).setCell (p:=⟨q,1,I⟩) YP (G F c.y)) (Nat.le_succ _)
  all_goals first|(with_reducible rfl)|(clear l B g;omega)|rfl
end
section
open Kp
attribute [local go_sem] Oper.semAt_some
def bR(k:Nat)(w:U)(B:Nat)(f:Option Ym)(q:Nat)(rows:List (List Z)):Prop:=
 ln rows<=q/\q<=Yk/\(0<ln rows->∃b off,f=L ⟨b,off,I⟩/\b<B/\∀i,i<ln rows->∀j,j<k->w.cell? ⟨b,off+k*i+j,I⟩=(rows.getD i [])[j]?)
theorem bR.below{B:Nat}{rows:List (List Z)}(h:bR k w B f q rows)(g:Yl B w w'):bR k w' B f q rows:=by
 obtain⟨h1,h2,d⟩:=h;refine⟨h1,h2,λm=> ?_⟩;obtain⟨b,off,e,a,c⟩:=d m;exact⟨b,off,e,a,λi hi j l=>(g.cell a).trans (c i hi j l)⟩
theorem bR.more{B B':Nat}{rows:List (List Z)}(h:bR k w B f q rows)(g:B<=B'):bR k w B' f q rows:=by
 obtain⟨h1,h2,c⟩:=h;refine⟨h1,h2,λd=> ?_⟩;obtain⟨b,off,e,i,a⟩:=c d;exact⟨b,off,e,D,a⟩
abbrev aE(r:List Sd):List (List Z):=r.map nQ
theorem kJ{r:List Sd}(hi:i<ln r):(aE r).getD i []=nQ (au r i):=by
 unfold au;exact a1l
def WU(a:Nat)(f:Option Ym)(q:Nat)(r:List Sd)(W:U):Prop:=
 W.cell? ⟨a,0,I⟩=L (V f (ln r) q)/\∃B,bR 7 W B f q (aE r)
def Wk(r:List Sd)(k:Nat)(x:Array Z):Prop:=x=#[G F (k:Int),YE (ko (fV r k) (au r k) (aS r k)).toArray]
def tY(r:List Sd)(k a c d b off:Nat)(f:Option Ym)(q:Nat):Nat->Z
 |0=> .func (.yield d) #[] #[]
 |1=> G F (k:Int)
 |2=> V f (ln r) q
 |3=> G F (k:Int)
 |4=> G F (ln r:Int)
 |5=> G F ((k:Int)+ln r)
 |6=> G F ((k:Int)+ln r-1)
 |7=> G F (ln r:Int)
 |8=> G F (a:Int)
 |9=> YA (L ⟨b,off+7*a,I⟩)
 |10=> YE (nQ (au r a)).toArray
 |11=> V f (ln r) q
 |12=> G F (k:Int)
 |13=> YA (L ⟨b,off+7*k,I⟩)
 |14=> YE (nQ (au r k)).toArray
 |15=> V f (ln r) q
 |16=> G F (k:Int)
 |17=> G F ((k:Int)+1)
 |18=> G F (ln r:Int)
 |19=> G F (c:Int)
 |20=> YA (L ⟨b,off+7*c,I⟩)
 |21=> YE (nQ (au r c)).toArray
 |_=> YE (ko (au r a) (au r k) (au r c)).toArray
def jY(z:Nat)(f:Option Ym)(q:Nat)(r:List Sd)(hn:ln r<=1000000):
  Cw Xz 243 #[YA (L ⟨z,0,I⟩)] (Wk r) (WU z f q r) (ln r):=by
 intro m U J Jx W x hJ aq hY h0;refine callsIn_of_wp func243 H trivial ?_ H;have ar:=(x 0 W h0).1;simp only[ntmps243,List.size_toArray,List.length_cons,List.length_nil,Nat.reduceAdd,Nat.reduceSub,Array.replicate_succ,Array.replicate_zero,List.push_toArray,List.append_toArray,List.nil_append,List.cons_append]
 gi_wp2
 gi_loopw [9] (λi wr=>∃k:Nat,k<=ln r/\i=G F (k:Int)/\J k wr) (λi _=>((ln r:Int)-Yf i).toNat)
 case atStart=>exact⟨0,D,YL,h0⟩
 case round=>
  obtain⟨k,hk,rfl,d⟩:=hrel;obtain⟨hc,B,an⟩:=x k wr d;by_cases g:k<ln r
  ·skip;obtain⟨h1,h2,y⟩:=an;rw[XP] at h1 y;obtain⟨b,off,rfl,hB,l⟩:=y D;obtain⟨u,lL⟩:=aa ((k+ln r-1)%ln r);obtain⟨o,qQ⟩:=aa ((k+1)%ln r);have t:u<ln r:=by rw[<-lL];exact Nat.mod_lt _ D
   have E:o<ln r:=by rw[<-qQ];exact Nat.mod_lt _ D
   have q1:((k:Int)+ln r-1).tmod (ln r:Int)=(u:Int):=by rw[Int.tmod_eq_emod_of_nonneg D,show((k:Int)+ln r-1)=((k+ln r-1:Nat):Int) by omega,<-lL];rfl
   have q2:((k:Int)+1).tmod (ln r:Int)=(o:Int):=by rw[Int.tmod_eq_emod_of_nonneg D,<-qQ];rfl
   have HX:=A (show Wk r k #[G F (k:Int),YE (ko (au r u) (au r k) (au r o)).toArray] by unfold Wk fV aS;rw[lL,qQ];rfl);clear lL qQ;clear l y;unfold Yk at h2
   gi_wp2
   refine wpIn_region_any R (np (BP _) R 23 (λa=>⟨#[.func (.yield U) #[] #[],YA (L ⟨z,0,I⟩),M,G F (ln r:Int),G F (k:Int),V (L ⟨b,off,I⟩) (ln r) q,G F (ln r:Int),V (L ⟨b,off,I⟩) (ln r) q,G F (ln r:Int),G F (k:Int),Yz Y,G F (k:Int),a 0,a 1,a 2,a 3,a 4,a 5,a 6,a 7,a 8,a 9,a 10,a 11,a 12,a 13,a 14,a 15,a 16,a 17,a 18,a 19,a 20,a 21,a 22,u35,u36,u37],[]⟩)
    (λw'=>Ext wr w') (λi v _=>v=tY r k u o U b off (L ⟨b,off,I⟩) q i) (λ_=>O) R (λ_ _ h k=>h.tr k) (λ_ _ _ _ h _=>h) (λ_ _ _ _ h=>YM) ?step ?tail (λi=>match i with|0=>u12|1=>u13|2=>u14|3=>u15|4=>u16|5=>u17|6=>u18|7=>u19|8=>u20|9=>u21|10=>u22|11=>u23|12=>u24|13=>u25|14=>u26|15=>u27|16=>u28|17=>u29|18=>u30|19=>u31|20=>u32|21=>u33|_=>u34) _ (Ext.dr wr))
   case step=>
    intro i a w' hi w c;have w1:F.wrap ((k:Int)+ln r)=(k:Int)+ln r:=Yh _ D;have w2:F.wrap ((k:Int)+ln r-1)=(k:Int)+ln r-1:=Yh _ D;have w3:F.wrap ((k:Int)+1)=(k:Int)+1:=Yh _ D;have q4:¬r=[]:=by intro h;rw[h] at g;simp at g
    have q3:((ln r:Int)==0)=O:=Y4;obtain⟨av,B2,_,_,T⟩:=x k w' (hJ _ _ _ d w);obtain⟨b2,ao,s,_,l⟩:=T (by rw[XP];omega);rw[XP] at l;obtain⟨rfl,rfl⟩:b2=b/\ao=off:=by injection s with s;injection s with e3 e4;exact⟨e3.symm,e4.symm⟩
    have c1:=λj (d:j<7)=>(l _ t j d).trans (by rw[kJ t])
    have c2:=λj (d:j<7)=>(l _ g j d).trans (by rw[kJ g])
    have c3:=λj (d:j<7)=>(l _ E j d).trans (by rw[kJ E])
    have am:=c1 0 YK;have ap:=c2 0 YK;have al:=c3 0 YK;rw[Nat.add_zero] at am ap al;clear l T s;rcases(show i=0\/i=1\/i=2\/i=3\/i=4\/i=5\/i=6\/i=7\/i=8\/i=9\/i=10\/i=11\/i=12\/i=13\/i=14\/i=15\/i=16\/i=17\/i=18\/i=19\/i=20\/i=21\/i=22 by omega) with rfl|rfl|rfl|rfl|rfl|rfl|rfl|rfl|rfl|rfl|rfl|rfl|rfl|rfl|rfl|rfl|rfl|rfl|rfl|rfl|rfl|rfl|rfl<;>clear hi<;>refine XR rfl (λaw hK=> ?_)
    ·exact a1k
    ·exact a1k
    ·exact a1k
    ·exact a1k
    ·exact a1k
    ·have d3:=c 3 R;have X:=c 4 R;simp only[tY] at d3 X;go_simp;exact hK _ _ ⟨_,by simp[d3,X,tY],Ext.ah _,rfl,λh=>YM⟩
    ·have d5:=c 5 R;simp only[tY] at d5;go_simp;exact hK _ _ ⟨_,by simp[d5,tY],Ext.ah _,rfl,λh=>YM⟩
    ·exact a1k
    ·have N:=c 6 R;have d7:=c 7 R;simp only[tY] at N d7;go_simp;exact hK _ _ ⟨_,by simp[N,d7,tY],Ext.ah _,rfl,λh=>YM⟩
    ·have d2:=c 2 R;have Z:=c 8 R;simp only[tY] at d2 Z;go_simp;exact hK _ _ ⟨_,by simp[d2,Z,tY],Ext.ah _,rfl,λh=>YM⟩
    ·have d9:=c 9 R;simp only[tY] at d9;go_simp;exact hK _ _ ⟨_,by simp[d9,tY],Ext.ah _,rfl,λh=>YM⟩
    ·exact a1k
    ·exact a1k
    ·have ai:=c 11 R;have K:=c 12 R;simp only[tY] at ai K;go_simp;exact hK _ _ ⟨_,by simp[ai,K,tY],Ext.ah _,rfl,λh=>YM⟩
    ·have ad:=c 13 R;simp only[tY] at ad;go_simp;exact hK _ _ ⟨_,by simp[ad,tY],Ext.ah _,rfl,λh=>YM⟩
    ·exact a1k
    ·exact a1k
    ·have ag:=c 16 R;simp only[tY] at ag;go_simp;exact hK _ _ ⟨_,by simp[ag,tY],Ext.ah _,rfl,λh=>YM⟩
    ·exact a1k
    ·have ae:=c 17 R;have ah:=c 18 R;simp only[tY] at ae ah;go_simp;exact hK _ _ ⟨_,by simp[ae,ah,tY],Ext.ah _,rfl,λh=>YM⟩
    ·have ab:=c 15 R;have Q:=c 19 R;simp only[tY] at ab Q;go_simp;exact hK _ _ ⟨_,by simp[ab,Q,tY],Ext.ah _,rfl,λh=>YM⟩
    ·have ac:=c 20 R;simp only[tY] at ac;go_simp;exact hK _ _ ⟨_,by simp[ac,tY],Ext.ah _,rfl,λh=>YM⟩
    ·have af:=c 10 R;have aj:=c 14 R;have S:=c 21 R;simp only[tY] at af aj S;go_simp;exact hK _ _ ⟨_,by simp[af,aj,S,tY],Ext.ah _,rfl,λh=>YM⟩
   case tail=>
    intro a w' w n _;have P:=n 0 YK;have v1:=n 1 YK;have ak:=n 22 YK;simp only[tY] at P v1 ak;clear n;obtain⟨fn,tmps,assign,body,hy,C⟩:=hY k _ w' g HX.o (hJ _ _ _ d w);simp only[List.drop_succ_cons,List.drop_zero,P,v1,ak];exact a0D
  ·obtain rfl:k=ln r:=D;exact a0z
def lg(w:U)(f:Option Ym)(n q:Nat):
  XY Xz 185 #[V f n q] w λe w'=>e=YC (.func (.func 243) #[] #[YA (L ⟨w.heap.size,0,I⟩)])/\w'=w.alloc (.cells #[V f n q] 102):=by
 go_enter func185,ntmps185;go_wp2;go_ret;exact⟨H,H⟩
end
section
open Kp
def kG {p : Prop} (h : p := by
    go_enter func114, ntmps114;go_wp2_with (go_at_call 183; refine (ry _ _ _ _).mono ?_; rintro e W1 ⟨rfl, rfl⟩; first | rw [h1] | rw [h2] | rw [t1] | rw [t2] | rw [t3] | rw [t4] | skip)
    iterate 6 try (first
      | (go_ret; exact ⟨by rw [b.o]; rfl, by first | exact gI _ _ _ | exact (XI _ _).alloc (XE _) _⟩)
      | (first | rw [rounds_succ] | (refine wp_loop_rounds 5 ?_; rw [rounds_succ])
         go_wp2_with (go_at_call 183; refine (ry _ _ _ _).mono ?_; rintro e W1 ⟨rfl, rfl⟩; first | rw [h1] | rw [h2] | rw [t1] | rw [t2] | rw [t3] | rw [t4] | skip)))) : p := h
def U7{p:Prop}(h:p:=by
  cases t1:J s.x 0 65536
  ·have b:=A (show aJ s=O by rw[a,t1];simp);clear a;exact kG
  cases t2:J s.y 0 65536
  ·have b:=A (show aJ s=O by rw[a,t2];simp);clear a;exact kG
  cases t3:J s.plate 0 65536
  ·have b:=A (show aJ s=O by rw[a,t3];simp);clear a;exact kG
  cases t4:J s.over 0 65536
  ·have b:=A (show aJ s=O by rw[a,t4];simp);clear a;exact kG
  have b:=A (show aJ s=Y by rw[a,t1,t2,t3,t4];simp);clear a;exact kG):p:=h
def Dl(s:Sd)(w:U):XY Xz 114 #[YE (nQ s).toArray] w λe w'=>e=YC (Yz (aJ s))/\Ext w w':=by
 cases c:s.gable
 ·cases h1:J s.rise 1 48
  ·have b:=A (show aJ s=O by unfold aJ;rw[c];rw[h1];rfl);exact kG
  cases h2:J s.run 1 48
  ·have b:=A (show aJ s=O by unfold aJ;rw[c];rw[h1,h2];rfl);exact kG
  have a:aJ s=(J s.x 0 65536&&J s.y 0 65536&&J s.plate 0 65536&&J s.over 0 65536):=by
   unfold aJ;rw[c];rw[h1,h2];simp[Bool.and_assoc]
  exact U7
 ·cases h1:(s.rise !=0)
  case true=>
   have b:=A (show aJ s=O by unfold aJ;rw[c];simp only[Yr];rw[show(s.rise==0)=O by simpa using h1];rfl);exact kG
  cases h2:(s.run !=0)
  case true=>
   have b:=A (show aJ s=O by unfold aJ;rw[c];simp only[Yr];rw[show(s.run==0)=O by simpa using h2];simp);exact kG
  have a:aJ s=(J s.x 0 65536&&J s.y 0 65536&&J s.plate 0 65536&&J s.over 0 65536):=by
   unfold aJ;rw[c];rw[show(s.rise==0)=Y by simpa using h1,show(s.run==0)=Y by simpa using h2];simp[Bool.and_assoc]
  exact U7
end
section
open Kp
def iQ(n a b:Int)(w:U):XY Xz 50 #[G F n,G F a,G F b] w λe w'=>e=YC (Yz (J n a b))/\w'=w:=by
 cases h:YG (a<=n)
 ·have HR:=A (show J n a b=O by unfold J;rw[h];rfl);go_enter func50,ntmps50;exact a1c
 ·have HR:=A (show J n a b=YG (n<=b) by unfold J;rw[h];rfl);go_enter func50,ntmps50;exact a1c
def iV(n a b:Int)(w:U):XY Xz 129 #[G F n,G F a,G F b] w λe w'=>e=YC (Yz (J n a b))/\w'=w:=by
 cases h:YG (a<=n)
 ·have HR:=A (show J n a b=O by unfold J;rw[h];rfl);go_enter func129,ntmps129;exact a1c
 ·have HR:=A (show J n a b=YG (n<=b) by unfold J;rw[h];rfl);go_enter func129,ntmps129;exact a1c
def gj(n a b:Int)(w:U):XY Xz 197 #[G F n,G F a,G F b] w λe w'=>e=YC (Yz (J n a b))/\w'=w:=by
 cases h:YG (a<=n)
 ·have HR:=A (show J n a b=O by unfold J;rw[h];rfl);go_enter func197,ntmps197;exact a1c
 ·have HR:=A (show J n a b=YG (n<=b) by unfold J;rw[h];rfl);go_enter func197,ntmps197;exact a1c
def kh(n a b:Int)(w:U):XY Xz 126 #[G F n,G F a,G F b] w λe w'=>e=YC (Yz (J n a b))/\w'=w:=by
 cases h:YG (a<=n)
 ·have HR:=A (show J n a b=O by unfold J;rw[h];rfl);go_enter func126,ntmps126;exact a1c
 ·have HR:=A (show J n a b=YG (n<=b) by unfold J;rw[h];rfl);go_enter func126,ntmps126;exact a1c
def iR(n a b:Int)(w:U):XY Xz 80 #[G F n,G F a,G F b] w λe w'=>e=YC (Yz (!J n a b))/\w'=w:=by
 cases h:YG (n<a)
 ·have HR:=A (show(!J n a b)=YG (b<n) by
   unfold J;rw[XL] at h;rw[show YG (a<=n)=Y by rw[XX];omega,Bool.true_and,<-decide_not,Ys];omega)
  go_enter func80,ntmps80;exact a1c
 ·have HR:=A (show(!J n a b)=Y by
   unfold J;rw[XX] at h;rw[show YG (a<=n)=O by rw[XL];omega];rfl)
  go_enter func80,ntmps80;exact a1c
def Ky(n a b:Int)(w:U):XY Xz 216 #[G F n,G F a,G F b] w λe w'=>e=YC (Yz (!J n a b))/\w'=w:=by
 cases h:YG (n<a)
 ·have HR:=A (show(!J n a b)=YG (b<n) by
   unfold J;rw[XL] at h;rw[show YG (a<=n)=Y by rw[XX];omega,Bool.true_and,<-decide_not,Ys];omega)
  go_enter func216,ntmps216;exact a1c
 ·have HR:=A (show(!J n a b)=Y by
   unfold J;rw[XX] at h;rw[show YG (a<=n)=O by rw[XL];omega];rfl)
  go_enter func216,ntmps216;exact a1c
def sP(n a b:Int)(w:U):XY Xz 224 #[G F n,G F a,G F b] w λe w'=>e=YC (Yz (!J n a b))/\w'=w:=by
 cases h:YG (n<a)
 ·have HR:=A (show(!J n a b)=YG (b<n) by
   unfold J;rw[XL] at h;rw[show YG (a<=n)=Y by rw[XX];omega,Bool.true_and,<-decide_not,Ys];omega)
  go_enter func224,ntmps224;exact a1c
 ·have HR:=A (show(!J n a b)=Y by
   unfold J;rw[XX] at h;rw[show YG (a<=n)=O by rw[XL];omega];rfl)
  go_enter func224,ntmps224;exact a1c
def kN(n a b:Int)(w:U):XY Xz 163 #[G F n,G F a,G F b] w λe w'=>e=YC (Yz (!J n a b))/\w'=w:=by
 cases h:YG (n<a)
 ·have HR:=A (show(!J n a b)=YG (b<n) by
   unfold J;rw[XL] at h;rw[show YG (a<=n)=Y by rw[XX];omega,Bool.true_and,<-decide_not,Ys];omega)
  go_enter func163,ntmps163;exact a1c
 ·have HR:=A (show(!J n a b)=Y by
   unfold J;rw[XX] at h;rw[show YG (a<=n)=O by rw[XL];omega];rfl)
  go_enter func163,ntmps163;exact a1c
end
section
open Kp
def um(s l:Int)(w:U):XY Xz 200 #[G F s,G F l] w λe w'=>e=YC (Yz (J s 1 65536&&J l 0 1048576))/\w'=w:=by
 cases d:J s 1 65536
 ·go_enter func200,ntmps200;exact a1K
 cases a:J l 0 1048576;all_goals
  go_enter func200,ntmps200;go_wp2_with(go_at_call 129;refine(iV _ _ _ _).mono ?_;rintro e W1 ⟨rfl,rfl⟩;first|rw[d]|rw[a])
  go_ret;exact⟨H,H⟩
def BW(a b s l:Int)(w:U):XY Xz 128 #[G F a,G F b,G F s,G F l] w λe w'=>e=YC (Yz (J a 1 1000&&J b 1 1000&&(J s 1 65536&&J l 0 1048576)))/\w'=w:=by
 cases d:J a 1 1000
 ·go_enter func128,ntmps128;exact a1K
 cases i:J b 1 1000
 ·go_enter func128,ntmps128;go_wp2_with(go_at_call 129;refine(iV _ _ _ _).mono ?_;rintro e W1 ⟨rfl,rfl⟩;first|rw[d]|rw[i])
  go_ret;exact⟨H,H⟩
 obtain⟨c,f⟩:=aa (J s 1 65536&&J l 0 1048576);rw[f];have g:=A (um s l w);rw[f] at g;clear f;cases c;all_goals
  go_enter func128,ntmps128;go_wp2_with(first
   |(go_at_call 200;refine g.o.mono ?_;rintro e W1 ⟨rfl,rfl⟩)
   |(go_at_call 129;refine(iV _ _ _ _).mono ?_;rintro e W1 ⟨rfl,rfl⟩;first|rw[d]|rw[i]))
  go_ret;exact⟨H,H⟩
end
section
open Kp
def yO(w:U)(k q:Nat)(T:Yj)(a b c d:Int)(f:ai w k T [G F a,G F b,G F c,G F d]):
  XY Xz 201 #[V (L ⟨k,0,I⟩) 4 q] w λe w'=>e=YC (G F (xI a b c d))/\w'=w:=by
 have m:=f.cell 0;have c1:=f.cell 1;have c2:=f.cell 2;have c3:=f.cell 3;clear f;cases g:(a !=0)
 case true=>
  have HR:=A (show xI a b c d=a by unfold xI;rw[XT (by simpa using g)]);go_enter func201,ntmps201;go_wp2;refine wp_loop_rounds 5 ?_;exact a1N
 cases i:(b !=0)
 case true=>
  have HR:=A (show xI a b c d=b by unfold xI;rw[XQ (by simpa using g)];rw[XT (by simpa using i)]);go_enter func201,ntmps201;go_wp2;refine wp_loop_rounds 5 ?_;exact a1M
 cases j:(c !=0)
 case true=>
  have HR:=A (show xI a b c d=c by unfold xI;rw[XQ (by simpa using g)];rw[XQ (by simpa using i)];rw[XT (by simpa using j)]);go_enter func201,ntmps201;go_wp2;refine wp_loop_rounds 5 ?_;exact a1L
 cases l:(d !=0)
 case true=>
  have HR:=A (show xI a b c d=d by unfold xI;rw[XQ (by simpa using g)];rw[XQ (by simpa using i)];rw[XQ (by simpa using j)]);go_enter func201,ntmps201;go_wp2;refine wp_loop_rounds 5 ?_;rw[rounds_succ];go_wp2;exact a1L
 have HR:=A (show xI a b c d=0 by unfold xI;rw[XQ (by simpa using g)];rw[XQ (by simpa using i)];(first|(rw[XQ (by simpa using j)];done)|(rw[XQ (by simpa using j)];simpa using l)));go_enter func201,ntmps201;go_wp2;refine wp_loop_rounds 5 ?_;rw[rounds_succ];go_wp2;rw[rounds_succ];go_wp2;rw[rounds_succ];go_wp2;rw[rounds_succ];go_wp2;rw[rounds_succ];go_wp2;go_ret;exact⟨YQ,rfl⟩
end
section
open Kp
abbrev VT(t:Tl):List Z:=[G F t.width,G F t.length,G F t.lap,G F t.tail]
def F1(t:Tl)(w:U):XY Xz 59 #[YE (VT t).toArray] w λe w'=>e=YC (G F (eD t))/\Ext w w':=by
 have a:=A (show Ext w (w.alloc (.cells (VT t).toArray 30)) from(XI _ _).alloc (XE _) _);cases b:J t.width 1 2000
 ·have HR:=A (show eD t=2 by unfold eD;rw[b];rfl);go_enter func59,ntmps59;go_wp2_with(go_at_call 126;refine(kh _ _ _ _).mono ?_;rintro e W1 ⟨rfl,rfl⟩;first|rw[b]|skip)
  exact a1B
 cases c:J t.length 1 2000
 ·have HR:=A (show eD t=2 by unfold eD;rw[b,c];rfl);go_enter func59,ntmps59;go_wp2_with(go_at_call 126;refine(kh _ _ _ _).mono ?_;rintro e W1 ⟨rfl,rfl⟩;first|rw[b]|rw[c]|skip)
  exact a1B
 have g:1<=t.length/\t.length<=2000:=by unfold J at c;simpa using c
 obtain⟨i,j⟩:=g;cases d:J t.lap 0 (t.length-1)
 ·have HR:=A (show eD t=2 by unfold eD;rw[b,c,d];rfl);go_enter func59,ntmps59;go_wp2_with(go_at_call 126;refine(kh _ _ _ _).mono ?_;rintro e W1 ⟨rfl,rfl⟩;first|rw[b]|rw[c]|rw[d]|skip)
  exact a1B
 cases f:J t.tail 0 1000
 ·have HR:=A (show eD t=2 by unfold eD;rw[b,c,d,f];rfl);exact a1O
 ·have HR:=A (show eD t=0 by unfold eD;rw[b,c,d,f];rfl);exact a1O
end
section
open Kp
abbrev aU(l:List Int):List (List Z):=l.map λn=>[G F n]
def uY(l:List Int)(i:Nat):Int:=if !J (l.getD i 0) 0 1048576 then 2 else if 0<i/\l.getD i 0<=l.getD (i-1) 0 then 10 else 0
def uA(l:List Int):iv l=if 16<ln l then 4 else bn (uY l) (ln l):=rfl
theorem je{l:List Int}(hi:i<ln l):((aU l).getD i [])[0]?=L (G F (l.getD i 0)):=by
 exact a1l
def BE(w:U)(f:Option Ym)(q:Nat)(l:List Int)(C:bR 1 w w.heap.size f q (aU l)):
  XY Xz 52 #[V f (ln l) q] w λe w'=>e=YC (G F (iv l))/\w'=w:=by
 obtain⟨h1,h2,o⟩:=C;rw[XP] at h1 o;unfold Yk at h2;by_cases v:16<ln l
 ·have HR:=A (show iv l=4 by rw[uA,XT v]);clear o;go_enter func52,ntmps52;exact a1c
 have HR:=A (show iv l=bn (uY l) (ln l) by rw[uA,XQ v]);have H:=A o;clear o;go_enter func52,ntmps52;go_wp2;go_loopw [10] (λi wr=>∃k:Nat,k<=ln l/\i=G F (k:Int)/\wr=w/\∀j,j<k->uY l j=0) (λi _=>((ln l:Int)-Yf i).toNat)
 case atStart=>exact⟨0,D,rfl,rfl,λj B=>D⟩
 case round=>
  obtain⟨k,hk,rfl,rfl,z⟩:=hrel;have r:=A z;clear z;by_cases n:k<ln l
  ·obtain⟨b,off,rfl,P,d⟩:=H.o D;have c1:=d k n 0 YK;rw[je n,Nat.one_mul,Nat.add_zero] at c1;have t:0<k->wr.cell? ⟨b,off+(k-1),I⟩=L (G F (l.getD (k-1) 0)):=λm=>by
    exact a1R
   have c:=A (show uY l k=if !J (l.getD k 0) 0 1048576 then 2 else if 0<k/\l.getD k 0<=l.getD (k-1) 0 then 10 else 0 from rfl);obtain⟨x,hx⟩:=aa (l.getD k 0);obtain⟨y,hy⟩:=aa (l.getD (k-1) 0);rw[hx] at c1 c;rw[hy] at t c;have K:=A t;clear hx hy d t;cases a:J x 0 1048576
   ·have g:=A (show iv l=2 by rw[HR.o,bM n r.o (by rw[c.o,a,XT YK];decide),c.o,a,XT YK]);exact a1Q
   by_cases m:0<k
   ·have c2:=K.o m;have E:YG (0<(k:Int))=Y:=Zo;have N:((k:Int)-1).toNat=k-1:=D;by_cases s:x<=y
    ·have g:=A (show iv l=10 by rw[HR.o,bM n r.o (by rw[c.o,a,XQ YK,XT ⟨m,s⟩];decide),c.o,a,XQ YK,XT ⟨m,s⟩]);exact a1Q
    ·have u:=A (show uY l k=0 by rw[c.o,a,XQ YK,XQ (λh=>s h.2)]);have Q:YG (x<=y)=O:=by rw[XL];exact s
     exact a1P
   ·have E:YG (0<(k:Int))=O:=YU;have u:=A (show uY l k=0 by rw[c.o,a,XQ YK,XQ (λh=>m h.1)]);exact a1P
  ·have M:YG ((k:Int)<(ln l:Int))=O:=YU;have g:=A (show iv l=0 by rw[HR.o,bh (λj B=>r.o j D)]);go_wp2;go_ret;exact⟨Y6,rfl⟩
end
section
open Kp
def Dt(z:Nat)(v:Z):Prop:=∀f n c,v=V f n c->(f=I->c=0)/\∀a,f=L a->z<=a.block
theorem Dt.tr{v:Z}(h:Dt z v)(l:List Nat):Dt z (OG v l):=by
 intro f n c e;cases v with
 |slice d j g=>unfold OG at e;injection e with b i a;subst b a;exact h _ _ _ H
 |_=>cases e
theorem Gs{base n s:Nat}{t:Yj}{v:Z}{B:List Z}(h:w.ownsRow base t s v n B):Dt base v:=by
 obtain⟨_,⟨rfl,_⟩|⟨g,q,cur,rfl,d,_⟩⟩:=h
 ·intro f n c e;injection e with b _ a;subst b a;exact⟨λ_=>rfl,λ_ h=>YM⟩
 ·intro f n c e;injection e with b _ a;subst b a;exact⟨λh=>YM,λ_ h=>(by injection h with h;subst h;exact d)⟩
def zt(P:List Nat->Prop)(w:U)(e:Ending)(w':U):Prop:=∃v l,e=YC v/\bT w' w'.heap.size v l/\bB l/\P l/\Ext w w'/\Dt w.heap.size v
def qF{f:Nat->Nat×Nat}(h:∀k,(f (k+1)).1<1000000)(n:Nat):lF (cJ f n):=by
 intro d a;unfold cJ at a;obtain⟨i,_,rfl⟩:=List.mem_map.1 a;exact h i
def qM{a b:List Nat}(c:lF a)(d:lF b)(g:ln b<=ln a)(l:aw b<=aw a):aw (aD (cJ (dJ a b) (ln a)))=aw a-aw b:=by
 have h:=Pc c d (ln a);rw[ia];have i:S6 (C (cJ (dJ a b) (ln a))) (ln a)=aw (cJ (dJ a b) (ln a)):=gT (Nat.le_of_eq (bL _ _));have j:S6 (C b) (ln a)=aw b:=gT g;have f:S6 (C a) (ln a)=aw a:=rfl;rw[i,j,f] at h;have h1:=uH (qF (λk=>(sj c d k).2) (ln a));rw[bL] at h1;have h2:=(sj c d (ln a)).1;rcases Nat.lt_or_ge (dJ a b (ln a)).2 1 with e|e
 ·rw[show(dJ a b (ln a)).2=0 by omega,Nat.zero_mul] at h;omega
 ·rw[show(dJ a b (ln a)).2=1 by omega,Nat.one_mul] at h;omega
def zd(w:U)(t:Yj):(w.alloc (.cells #[] t)).ownsRow w.heap.size t 1 (V (L ⟨w.heap.size,0,I⟩) 0 0) 0 []:=
 ⟨rfl,.inr ⟨w.heap.size,0,#[],rfl,XE _,XZ w _,XE _,YR,rfl,rfl⟩⟩
def oQ(w:U)(a b:List Nat)(va vb:Z)(ha:bT w w.heap.size va a)(hb:bT w w.heap.size vb b)(Y:lF a)(ab:lF b)(an:ln a<=1000000):
  XY Xz 234 #[va,vb] w (zt (λl=>l=aD (cJ (dJ a b) (ln a))) w):=by
 obtain⟨i0,ad,aj,ak,ah⟩:=info_parts ie;have I0:=A ad;have I1:=A aj;have I2:=A ak;have I3:=A ah;have HA:=A ha;have HB:=A hb;obtain⟨f,ca,rfl,ax,ap,_⟩:=id ha;have HC:=A (gm (qF (λk=>(sj Y ab k).2) (ln a)));have HM:=A (λk=>sj Y ab k);unfold Yk at ap;obtain⟨n,M⟩:=aa (ln a);have J:=A M;rw[M];rw[M] at an ax HC HA;clear ha hb ad aj ak ah M;go_enter func234,ntmps234;go_wp2;go_loopw [5,6,7] (λv c i wr=>WS w (dJ a b) n v c i wr) (λ_ _ i _=>((n:Int)-Yf i).toNat)
 case atStart=>exact⟨0,D,rfl,rfl,zd _ _,(XI _ _).alloc (XE _) _⟩
 case round=>
  obtain⟨k,hk,rfl,rfl,af,B⟩:=hrel;have t:=A af;have X:=A B;have ae:=(HA.o.below B);have T:=(HB.o.below B);have az:=B.size;clear af B;by_cases aA:k<n
  ·have C2:=A (λm=>xn (wr.drewN m) _ _ b k T D);obtain⟨_,_,e,_,_,q⟩:=ae;injection e with Q e2 e3
   clear e2;subst Q e3;obtain⟨b1,o1,rfl,_,c1⟩:=q Zm
   replace c1:=c1 k Zm
   have o:=A (fO (dJ a b) k);have g:(dJ a b (k+1)).1=if C b k+(dJ a b k).2<=C a k then C a k-(C b k+(dJ a b k).2) else C a k+1000000-(C b k+(dJ a b k).2):=rfl;have s:(dJ a b (k+1)).2=if C b k+(dJ a b k).2<=C a k then 0 else 1:=rfl;have ao:C a k<1000000:=aK Y k;have ar:C b k<1000000:=aK ab k;have av:=(HM.o k).1;obtain⟨p,K⟩:=aa (C a k);obtain⟨r,N⟩:=aa (C b k);obtain⟨c,d⟩:=aa ((dJ a b k).2);obtain⟨x,hx⟩:=aa ((dJ a b (k+1)).1);obtain⟨y,hy⟩:=aa ((dJ a b (k+1)).2);rw[hx,K,N,d] at g;rw[hy,K,N,d] at s;rw[K] at c1 ao;rw[N] at C2 ar;rw[d] at av;rw[d];rw[hx] at o;have HY:=A hy;have aq:w.heap.size<=(wr.alloc (.cells #[G F (x:Int)] 3)).heap.size:=YP;have ac:∀m,w.heap.size<=((wr.drewN m).alloc (.cells #[G F (x:Int)] 3)).heap.size:=by intro m;simp;omega
   have ag:=A ac;have W:=A (λm=>bD t.o ((below_drewN (XI wr.heap.size wr) m).alloc YL (.cells #[G F (x:Int)] 3)));obtain⟨vs,V⟩:=aa (uL (cJ (dJ a b) k));rw[V] at t W;have P:=A V;have w1:F.wrap ((p:Int)-(r:Int))=(p:Int)-r:=Yh _ D;have w2:F.wrap ((p:Int)-(r:Int)-(c:Int))=(p:Int)-r-c:=Yh _ D;have w3:F.wrap ((p:Int)-(r:Int)-(c:Int)+1000000)=(p:Int)-r-c+1000000:=Yh _ D;clear T K N d hx hy q V ac aq;have aB:=A hk;have al:=A (λ(m j:Nat) (u:Z) (hj:[Value.int .i64 (x:Int)][j]?=L u)=>show((wr.drewN m).alloc (.cells #[G F (x:Int)] 3)).cell? ((⟨wr.heap.size,0,I⟩:Ym).add j)=L u by rw[Addr.add_lit,Nat.zero_add];exact((ai.new (wr.drewN m) 3 [G F (x:Int)]).cell j).trans hj);have am:=A (show∀(R:Nat) (v':Z) (m:Nat) (w':U),(dJ a b (k+1)).2=R->w'.ownsRow w.heap.size 3 1 v' (k+1) (vs++[G F (x:Int)])->((wr.drewN m).alloc (.cells #[G F (x:Int)] 3)).grownBy w' u5.ownBlock->WS w (dJ a b) n v' (G F (R:Int)) (G F ((k:Int)+1)) w' fromλR v' m w' au E z=>by
    refine⟨k+1,D,YL,by rw[au],?_,fQ (((below_drewN X.o m)).alloc (by have:=X.o.size;simp;omega) _) z (λq hq=>(aH t.o q hq).1)⟩;have e:uL (cJ (dJ a b) (k+1))=vs++[G F (x:Int)]:=ZL;rw[e];exact E)
   clear P o;by_cases O:r+c<=p
   ·rw[XT O] at g s;have t1:¬(p:Int)-r-c<0:=D;have Q:(p:Int)-r-c=(x:Int):=D;have t2:¬(x:Int)<0:=D;clear g O;subst s;go_wp2_with fail
    go_quiet ((go_at_call 233;exact Calls.quiet_of_same (C2.o _)))
    go_wp2_with(at_builtin;(refine wpList_append_own _ H _ _ _ H w.heap.size 3 i0 _ 1 8 underlying25 I0.o I1.o I2.o I3.o H D _ _ _ H (W.o _) ⟨wr.heap.size,0,I⟩ 1 1 [G F (x:Int)] H Zb (al.o _) ZD YR D (ag.o _) ?_);intro v' w' E z aw)
    go_round
    case rel=>exact am.o 0 _ _ _ HY.o E z
    case measure=>simp[Yf];omega
   ·rw[XQ O] at g s;have t1:(p:Int)-r-c<0:=D;have Q:(p:Int)-r-c+1000000=(x:Int):=D;clear g O;subst s;go_wp2_with fail
    go_quiet ((go_at_call 233;exact Calls.quiet_of_same (C2.o _)))
    go_wp2_with(at_builtin;(refine wpList_append_own _ H _ _ _ H w.heap.size 3 i0 _ 1 8 underlying25 I0.o I1.o I2.o I3.o H D _ _ _ H (W.o _) ⟨wr.heap.size,0,I⟩ 1 1 [G F (x:Int)] H Zb (al.o _) ZD YR D (ag.o _) ?_);intro v' w' E z aw)
    go_round
    case rel=>exact am.o 1 _ _ _ HY.o E z
    case measure=>simp[Yf];omega
  ·obtain rfl:k=n:=D;have ay:¬(k:Int)<(k:Int):=D;have S:=gY t.o (bL (dJ a b) k);have CT:=A (gi wr wr.heap.size u5 (cJ (dJ a b) k) S);have HS:=A (show zt (λl=>l=aD (cJ (dJ a b) k)) w (YC (OG u5 (cJ (dJ a b) k))) wr from⟨_,_,H,S.trimmed,HC.o,H,X.o,(Gs t.o).tr _⟩);clear S ae T;exact a2w
end
section
open Kp
def Ts(w1:U)(g:Nat)(a b:List Nat)(i k:Nat)(c:Z)(w':U):Prop:=
 ∃(d:Nat) (e:List Nat),c=G F (d:Int)/\Row w' g (ln a+ln b+1) e/\Iw a b i k d e/\eX g w1 w'
def Sr(w1:U)(g:Nat)(a b:List Nat)(i:Z)(w':U):Prop:=∃k:Nat,k<=ln a/\i=G F (k:Int)/\Ts w1 g a b k 0 (G F 0) w'
def SR(w1:U)(g:Nat)(a b:List Nat)(i:Nat)(c k:Z)(w':U):Prop:=∃n:Nat,n<=ln a+ln b+1/\k=G F (n:Int)/\Ts w1 g a b i n c w'
def tI(w:U)(a b:List Nat)(P vb:Z)(K:bT w w.heap.size P a)(J:bT w w.heap.size vb b)(B:lF a)(Q:Md b)(aB:ln a<=1000000)(aG:ln b<=1000000):
  XY Xz 235 #[P,vb] w (zt (λl=>aw l=aw a*aw b/\ln l<=ln a+ln b+1) w):=by
 obtain⟨f,ca,rfl,aP,am,x⟩:=id K;obtain⟨A',cb,rfl,aC,aj,an⟩:=id J;unfold Yk at am aj;obtain⟨i0,hi,ad,af,E⟩:=info_parts ie;have z:=A Q;go_enter func235,ntmps235;go_wp2_with(at_make;refine wpList_make_full _ H _ _ 25 H w.heap.size 3 i0 (G F 0) 1 underlying25 hi ad af .i64 .i64 _ _ (ln a+ln b+1) H H D D Z8 YR (XE _) ?_;intro w1 ab ac)
 have ai:=lO ab;have v:Yl w.heap.size w w1:=(XI _ w).grown ac (XE _) YL;have aq:=K.below v;have ao:=J.below v;have HS:=A (show Ts w1 w.heap.size a b 0 0 (G F 0) w1 from⟨0,_,H,ai,Iw.start a b,eX.refl _ _⟩);have al:=A v;clear ab ac ai K J hi ad af E x an v Q;go_loopw [6] (λi wr=>Sr w1 w.heap.size a b i wr) (λi _=>ln a-(Yf i).toNat)
 case atStart=>exact⟨0,D,rfl,HS.o⟩
 case round=>
  obtain⟨i,hi,rfl,cN,t,e0,q,d,g⟩:=hrel;have s:=A q;have u:=A d;have HO:=A g;obtain⟨ar,ax⟩:∃c:Nat,c=0:=⟨0,H⟩;obtain rfl:cN=0:=by injection e0 with _ e;omega
  clear d q e0 ar ax;by_cases W:i<ln a
  ·clear g;go_wp2_with fail
   go_loopw [7,8] (λc k wi=>SR w1 w.heap.size a b i c k wi) (λ_ k _=>ln a+ln b+2-(Yf k).toNat)
   case atStart=>exact⟨0,D,rfl,0,t,rfl,s.o,u.o,HO.o⟩
   case round=>
    obtain⟨k,hk,rfl,c,o,rfl,q,d,g⟩:=hrel;have aJ:=d.carry;have S:=A d;by_cases ag:k<ln b\/0<c
    ·have ah:i+k<ln a+ln b+1:=by
      by_cases h:k<ln b
      ·omega
      ·exact S.o.inside B z.o W D D
     have sa:=g.sl aq (XE _);have sb:=g.sl ao (XE _);have aE:C a i<1000000:=aK B i;obtain⟨_,_,e,_,_,x⟩:=sa;injection e with r y N
     clear y;subst r N;obtain⟨ba,oa,rfl,_,ae⟩:=x D;have hc:=ae i W;have hx:=q.cell (j:=i+k) (by rw[d.len];omega);have aA:=q.frozen (i+k);have aI:C o (i+k)<1000000:=aK d.small (i+k);have aF:=z.o.limb k;have hq:C a i*C b k<=999999*999999999999:=Nat.mul_le_mul D D;have av:0<=(C a i:Int)*(C b k:Int)/\(C a i:Int)*(C b k:Int)<=999998999999000001:=by
      rw[show(C a i:Int)*(C b k:Int)=((C a i*C b k:Nat):Int) by simp];omega
     obtain⟨aH,lL⟩:=av;have HN:=A (λm=>(⟨k+1,D,rfl,_,_,rfl,(q.drewN m).set (j:=i+k) (by rw[d.len];omega) _,d.next B z.o ah,(g.drewN m).set _ _⟩:SR w1 w.heap.size a b i _ (G F ((k+1:Nat):Int)) _));have w1:F.wrap ((i:Int)+k)=i+k:=cQ D D;have az:0<=(i:Int)+k:=D;have aO:((i:Int)+k).toNat=i+k:=D;have aL:(i:Int)+k<ln a+ln b+1:=D;have w3:F.wrap ((C a i:Int)*(C b k:Int))=C a i*C b k:=cQ D D;have w2:F.wrap ((C o (i+k):Int)+(C a i:Int)*(C b k:Int))=C o (i+k)+C a i*C b k:=cQ D D;have w4:F.wrap ((C o (i+k):Int)+(C a i:Int)*(C b k:Int)+c)=C o (i+k)+C a i*C b k+c:=cQ D D;have aM:k<=4000000:=D;clear ae x q d g ah S hq;obtain⟨X,ap⟩:=aa (YG (k<ln b));have M:X=O->YG (0<c)=Y:=by
      intro h1;subst h1;rw[XL] at ap;rw[XX];omega
     have ak:=A M;clear M ag;cases X with
     |false=>
      have tc:=ak.o H;have aN:YG (0<(c:Int))=Y:=by rw[XX] at tc⊢;omega
      exact a2x
     |true=>
      exact a2x
    ·obtain rfl:c=0:=D;have ay:=A (⟨i+1,D,rfl,0,o,rfl,q,d.row D,g⟩:Sr w1 w.heap.size a b (G F ((i+1:Nat):Int)) wr);have g1:¬k<ln b:=D;clear ag d q g;go_wp2_with fail
     exact⟨ay.o,YO⟩
  ·obtain rfl:i=ln a:=D;have R:=u.o.len;have T:zt (λl=>aw l=aw a*aw b/\ln l<=ln a+ln b+1) w (YC (OG (V (L ⟨w.heap.size,0,I⟩) (ln t) (ln a+ln b+1)) t)) wr:=by
    have au:=s.o.sl s.o.lt;exact⟨_,aD t,H,au.trimmed,gm u.o.small,⟨by rw[ia];exact u.o.done,Ye (bC _) D⟩,al.o.trans (g.below (XE _)),Dt.tr (λf n c e=>by injection e with r _ N;subst r;exact⟨λh=>YM,λ_ h=>(by injection h with h;subst h;exact XE _)⟩) _⟩
   have HF:=A T;have CT:=A (gi wr _ _ t (s.o.sl s.o.lt));rw[R] at CT HF;clear T g R;go_wp2_with(go_at_call 231;refine CT.o.mono ?_;rintro e w' ⟨rfl,rfl⟩)
   go_ret;exact HF.o
end
section
open Kp
def Di(X c:Nat)(w:U)(e:Ending)(w':U):Prop:=∃b a l,e=YC (YF #[b,a])/\bT w' w'.heap.size a l/\bB l/\aw l=X%c/\Ext w w'
def Sv(a:List Nat)(k:Nat):Nat:=aw (a.drop k)
theorem Eh(h:k<ln a):Sv a k=C a k+1000000*Sv a (k+1):=by
 unfold Sv;rw[List.drop_eq_getElem_cons h,o7,mS h]
def I4(a:List Nat):Sv a (ln a)=0:=by unfold Sv;rw[List.drop_length];rfl
def Dv(x h d:Nat):
  (h%d*1000000+x)%d=(x+1000000*h)%d:=by
 rw[Nat.add_comm,Nat.add_mod,Nat.mod_mul_mod,Yd h,<-Nat.add_mod]
def TE(w1:U)(a:List Nat)(g n d:Nat)(r i:Z)(w':U):Prop:=∃(k b:Nat) (q:List Nat),k<=n/\i=G F ((k:Int)-1)/\r=G F (b:Int)/\b<d/\b=Sv a k%d/\ln q=n/\Row w' g n q/\eX g w1 w'
def oG(r:Nat):aw [r]=r:=by simp[aw,S6,C]
def Va{a r d:Nat}(h1:a<1000000)(h2:r<1000000)(b:1<=d):F.wrap (((r:Int)*1000000+(a:Int)).tdiv d)=(((r*1000000+a)/d:Nat):Int):=by
 rw[IntWalk.i64_quo _ _ ⟨D,D,D⟩];simp
def VR{a r d:Nat}:((r:Int)*1000000+(a:Int)).tmod d=(((r*1000000+a)%d:Nat):Int):=by
 rw[IntWalk.rem_in _ _ D];simp
def DV(w:U)(a:List Nat)(N:Z)(d:Nat)(K:bT w w.heap.size N a)(an:lF a)(al:1<=d)(au:d<1000000)(aj:ln a<=1000000):
  XY Xz 232 #[N,G F (d:Int)] w (Di (aw a) d w):=by
 obtain⟨f,ca,rfl,ap,ak,s⟩:=id K;unfold Yk at ak;obtain⟨i0,hi,Y,ac,E⟩:=info_parts ie;obtain⟨n,o⟩:=aa (ln a);rw[o] at ap aj⊢;go_enter func232,ntmps232;go_wp2_with(at_make;refine wpList_make_full _ H _ _ 25 H w.heap.size 3 i0 (G F 0) 1 underlying25 hi Y ac .i64 .i64 _ _ n H H D D Z8 YR (XE _) ?_;intro w1 S W)
 have ad:=lO S;have v:Yl w.heap.size w w1:=(XI _ w).grown W (XE _) YL;have ao:=K.below v;have J:=A o;have HS:=A (show TE w1 a w.heap.size n d (G F 0) (G F ((n:Int)-1)) w1 from⟨n,0,_,XE _,H,H,D,by rw[<-o,I4,Nat.zero_mod],YL,ad,eX.refl _ _⟩);have Q:=A v;clear S W ad K hi Y ac E s v o;go_loopw [7,8] (λr i wr=>TE w1 a w.heap.size n d r i wr) (λ_ i _=>(Yf i+1).toNat)
 case atStart=>exact HS.o
 case round=>
  obtain⟨k,r,q,hk,rfl,rfl,hr,ae,l,b,c⟩:=hrel;have P:=A ae;clear ae;have HR:=A b;have HO:=A c;have O:=A l;rcases k with _|k
  ·have af:lF [r]:=by
    intro x hx;have e:x=r:=by simpa using hx
    rw[e];show r<1000000;omega
   have M:=A (gi wr wr.heap.size _ q (b.sl b.lt));rw[l] at M;have r1:=row_one wr r;have ai:=A (show XY Xz 231 #[V (L ⟨wr.heap.size,0,I⟩) 1 1] (wr.alloc (.cells #[G F (r:Int)] 3)) _ from gi _ _ _ [r] (r1.sl r1.lt));have g:=A (show∀u,Di (aw a) d w (YC (YF #[u,OG (V (L ⟨wr.heap.size,0,I⟩) 1 1) [r]])) (wr.alloc (.cells #[G F (r:Int)] 3)) fromλu=>
    ⟨u,_,aD [r],rfl,(r1.sl r1.lt).trimmed,gm af,by rw[ia,oG];exact P.o,(Q.o.trans (c.below (XE _))).alloc (Q.o.trans (c.below (XE _))).size _⟩)
   clear b c l r1 af;go_wp2_with(go_at_call 231;first|((with_reducible refine M.o.mono ?_);rintro e W1 ⟨rfl,rfl⟩)|((with_reducible refine ai.o.mono ?_);rintro e W1 ⟨rfl,rfl⟩))
   go_ret2;exact g.o _
  ·have sa:=c.sl ao (XE _);have R:C a k<1000000:=aK an k;obtain⟨_,_,e,_,_,s⟩:=sa;injection e with e1 e2 e3
   clear e2;subst e1 e3;obtain⟨ba,oa,rfl,_,ab⟩:=s Zm;have hc:=ab k Zm;have hx:=b.cell (j:=k) D;have ar:=b.frozen k;have ag:r<1000000:=D;obtain⟨x,t⟩:=aa (C a k);obtain⟨y,T⟩:=aa (C q k);rw[t] at hc R;have ah:=A t;rw[T] at hx;have ek:((k+1:Nat):Int)-1=(k:Int):=D;rw[ek];have aq:r*1000000<1000000000000:=D;have av:¬d=0:=D;have w6:=Va (a:=x) R ag al;have w7:=VR (a:=x) (r:=r) (d:=d);have g:=A (show∀z m,(r*1000000+x)%d=m->TE w1 a w.heap.size n d (G F (m:Int)) (G F ((k:Int)-1)) (wr.setCell ⟨w.heap.size,k,I⟩ (G F (z:Nat))) fromλz m e=>⟨k,m,_,D,rfl,rfl,by rw[<-e];exact Nat.mod_lt _ D,by rw[<-e,P.o,Dv,Eh (a:=a) (k:=k) Zm,ah.o],by rw[List.length_set];exact O.o,HR.o.set (by have:=O.o;omega) z,HO.o.set _ _⟩);obtain⟨m,B⟩:=aa ((r*1000000+x)%d);obtain⟨z,X⟩:=aa ((r*1000000+x)/d);rw[X] at w6;rw[B] at w7;have am:=A (g.o z m B);clear ab s b c l t T B X g;go_wp2;exact⟨am.o,by simp[Yf]⟩
end
section
open Kp
theorem JP.ext{v:Z}(h:JP w g v l)(hx:Ext w w'):JP w' g v l:=by
 obtain⟨f,q,rfl,h1,h2,d⟩:=h;refine⟨f,q,H,h1,h2,λk=> ?_⟩;obtain⟨b,off,e,i,c⟩:=d k;exact⟨b,off,e,i,λj a=>(hx.cell (Am (c j a))).trans (c j a)⟩
theorem bT.fresh{v:Z}(h:bT w N v l)(d:Dt z v)(j:g<z):JP w g v l:=by
 obtain⟨f,q,rfl,h1,h2,a⟩:=h;refine⟨f,q,H,h1,h2,λi=> ?_⟩;obtain⟨b,off,e,k,c⟩:=a i;exact⟨b,off,e,by have:=(d _ _ _ H).2 _ e;simp at this;omega,c⟩
structure Nr(g n:Nat)(v:Z)(l:List Nat)(w:U):Prop where
 sl:JP w g v l
 canon:bB l
 len:ln l<=n
 nil:∀m c,v=V I m c->c=0
theorem Nr.ext{v:Z}(h:Nr g n v l w)(hx:Ext w w'):Nr g n v l w':=⟨h.sl.ext hx,h.canon,h.len,h.nil⟩
def F3(w:U)(g n:Nat)(wr:U):Prop:=∃q:List Nat,ln q=n/\Row wr g n q/\Yl w.heap.size w wr
theorem F3.ext(h:F3 w g n wr)(hx:Ext wr w'):F3 w g n w':=by
 obtain⟨q,h1,h2,a⟩:=h;exact⟨q,h1,h2.below hx h2.lt,a.trans (hx.mono a.size)⟩
theorem F3.lt(h:F3 w g n wr):g<wr.heap.size:=by
 obtain⟨q,_,h2,_⟩:=h;exact h2.lt
def Vd(w:U)(a:List Nat)(g n m b:Nat)(r i:Z)(wr:U):Prop:=∃(k:Nat) (l:List Nat),k<=n/\i=G F ((k:Int)-1)/\Nr g m r l wr/\aw l=Sv a k%b/\F3 w g n wr
def SK(w:U)(g n m b R:Nat)(r z:Z)(wr:U):Prop:=∃(a:Nat) (l:List Nat),z=G F (a:Int)/\Nr g (m+1) r l wr/\aw l+a*b=R/\F3 w g n wr
def Iq(v:Z)(w:U):Nat:=
 match v with
 | V (L a) n _=>S6 (λj=>match w.cell? ⟨a.block,a.off+j,I⟩ with|some (.int _ x)=>x.toNat|_=>0) n
 |_=>0
theorem rF{v:Z}(h:bT w N v l):Iq v w=aw l:=by
 obtain⟨f,q,rfl,_,_,a⟩:=h;by_cases r:0<ln l
 ·obtain⟨b,off,rfl,_,c⟩:=a r;unfold Iq aw;refine kl (λj d=> ?_);simp only;rw[c j d];simp
 ·have:l=[]:=a0a;subst this;cases f<;>rfl
def Wr{t u z:Nat}(h1:u<1000000000000000000)(b:1<=t)(a:u/t=z):F.wrap ((u:Int).tdiv (t:Int))=(z:Int):=by
 rw[IntWalk.i64_quo _ _ ⟨D,D,D⟩,<-a];simp
def Rj(w:U)(x:Nat):(w.alloc (.cells #[G F (x:Int)] 3)).ownsRow w.heap.size 3 1 (V (L ⟨w.heap.size,0,I⟩) 1 1) 1 [G F (x:Int)]:=
 ⟨rfl,.inr ⟨w.heap.size,1,#[G F (x:Int)],rfl,XE _,XZ w _,XE _,YR,rfl,rfl⟩⟩
theorem Vc(W:U){ops:Array Oper}{rest:List Oper}{o:Oper}{a:Act}{Q:Exit->Act->U->Prop}(w:o.guard=I)(s x:Operand)(g:o.op= .call {callee:= .builtin .append,args:=#[s,x],argTypes:=#[25,25]})
  (wr:U)(d:Nat)(M:W=wr.alloc (.cells #[G F (d:Int)] 3))(C:a.eval s=V (L ⟨wr.heap.size,0,I⟩) 1 1){i:Z}(hx:a.eval x=i)(P:bT W N i l)(X:∀m c,i=V I m c->c=0)(Y:ln l<=10000000)
  (h:∀v' w',bT w' w'.heap.size v' (d::l)->Dt wr.heap.size v'->Ext wr w'->wpList Xz ops Q rest (a.put o.dst v') w'):wpList Xz ops Q (o::rest) a W:=by
 subst M;obtain⟨A,hi,R,T,K⟩:=info_parts ie;have r:=Rj wr d;have J:Ext wr (wr.alloc (.cells #[G F (d:Int)] 3)):=(XI _ _).alloc (XE _) _;have v:∀v' w',w'.ownsRow wr.heap.size 3 1 v' (1+ln l) ([G F (d:Int)]++uL l)->(wr.alloc (.cells #[G F (d:Int)] 3)).grownBy w' (L wr.heap.size)->wpList Xz ops Q rest (a.put o.dst v') w':=by
  intro v' w' g E;exact h v' w' (gY (l:=d::l) g YP) (Gs g) (fQ J E (λk e=>by injection e with e;omega))
 obtain⟨f,q,rfl,h1,h2,B⟩:=P;cases f with
 |none=>
  have O:=X _ _ H;obtain rfl:l=[]:=by
   cases l with
   |nil=>rfl
   |cons y l=>obtain⟨_,_,e,_⟩:=B YL;cases e
  subst O;exact wpList_append_own_none w s x 25 g wr.heap.size 3 A 1 underlying25 hi _ 1 _ C r hx (v _ _ r (U.grownBy.refl _ _))
 |some t=>
  refine wpList_append_own _ w s x 25 g wr.heap.size 3 A (G F 0) 1 8 underlying25 hi R T K H D _ 1 _ C r t (ln l) q (uL l) hx (by unfold uL;simp) ?_ ?_ YR D YL (λv' w' h1 h2 _=>v v' w' h1 h2)
  ·intro j u z;have n:j<ln l:=by
    have:=(List.getElem?_eq_some_iff.1 z).1;unfold uL at this;simpa using this
   obtain⟨b,off,e,_,S⟩:=B D;obtain rfl:t=⟨b,off,I⟩:=Option.some.inj e;rw[Addr.add_lit,S j n];rw[<-z];unfold uL;rw[List.getElem?_map,XO n,mS n];rfl
  ·intro u hu;unfold uL at hu;obtain⟨y,_,rfl⟩:=List.mem_map.1 hu
   rfl
def vQ(w:U)(N:Nat)(v:Z)(l:List Nat)(z:Int)(i p:Nat)(h:bT w N v l)(a:C l i=p)(b:z=i)(hi:i<=4611686018427387904):
  XY Xz 233 #[v,G F z] w λe w'=>e=YC (G F p)/\w=w':=by
 subst b a;exact nv w N v l i h hi
theorem bT.eq{v v':Z}(h:bT w N v l)(e:v=v'):bT w N v' l:=e▸h
def xv(w:U)(a b:List Nat)(va vb:Z)(ha:bT w w.heap.size va a)(hb:bT w w.heap.size vb b)(bk:lF a)(v:bB b)(a7:ln a<=100000)(be:ln b<=100000)(m:Nat)(s:ln b=m+2):
  XY Xz 175 #[va,vb] w (Di (aw a) (aw b) w):=by
 obtain⟨f,ca,rfl,bH,bw,an⟩:=id ha;obtain⟨A',cb,rfl,a9,bp,aZ⟩:=id hb;obtain⟨bi,ob,rfl,_,aC⟩:=aZ D;unfold Yk at bw bp;obtain⟨i0,hi,aN,aO,aH⟩:=info_parts ie;have I0:=A hi;have I1:=A aN;have I2:=A aO;have I3:=A aH;obtain⟨n,hn⟩:=aa (ln a);rw[hn] at bH a7⊢;rw[s];rw[s] at a9 be;have bj:=aC m D;have bI:=aC (m+1) D;have bc:C b m<1000000:=aK v.small m;have a8:C b (m+1)<1000000:=aK v.small (m+1);have HA:=A ha;have HB:=A (hb.eq (v':= V (L ⟨bi,ob,I⟩) (m+2) cb) (by rw[s]));have bv:1<=C b (m+1):=Nat.pos_of_ne_zero (v.trim _ (by rw[List.getLast?_eq_getElem?,s];show b[m+1]?=_;rw[XO D,mS D]));have J:=A hn;have HM:=A s;have HE:=A (λr (h:ln r<=m+3)=>Ww (r:=r) v.small s h);have a1:=A (oS v.trim (by intro h;rw[h] at s;simp at s));obtain⟨y0,aT⟩:=aa (C b m);obtain⟨y1,a2⟩:=aa (C b (m+1));simp only[aT,a2] at bj bI bc a8 bv HE;have e1:((m+2:Nat):Int)-1=((m+1:Nat):Int):=D;have e2:((m+2:Nat):Int)-2=(m:Int):=D;clear ha hb an aZ aC hn s hi aN aO aH aT a2;go_enter func175,ntmps175;go_wp2_with fail
 go_quiet (fail)
 go_wp2_with(at_make;refine wpList_make_full _ H _ _ 25 H w.heap.size 3 i0 (G F 0) 1 underlying25 I0.o I1.o I2.o .i64 .i64 _ _ n H H D D (by rw[I3.o];omega) YR (XE _) ?_;intro w1 ap aJ)
 have o:Yl w.heap.size w w1:=(below_drewN (XI w.heap.size w) nq).grown aJ (XE _) (λ_ h=>YM);simp only[U.heap_drewN] at ap⊢;have M:=lO ap;have HS:=A (show Vd w a w.heap.size n (m+2) (aw b) (V (L ⟨w1.heap.size,0,I⟩) 0 0) (G F ((n:Int)-1)) (w1.alloc (.cells #[] 3)) from
  ⟨n,[],XE _,rfl,⟨⟨_,0,rfl,YL,YR,λh=>by simp at h⟩,⟨λ_ h=>by simp at h,rC⟩,YL,λ_ _ h=>by simp at h⟩,by rw[<-J.o,I4,Nat.zero_mod];rfl,⟨_,YL,M.alloc _,o.alloc o.size _⟩⟩)
 clear ap aJ M o;go_loopw [9,10] (λr i wr=>Vd w a w.heap.size n (m+2) (aw b) r i wr) (λ_ i _=>(Yf i+1).toNat)
 case atStart=>exact HS.o
 case round=>
  obtain⟨k,l,hk,rfl,d,W,hQ⟩:=hrel;have ax:aw l<aw b:=by rw[W];exact Nat.mod_lt _ a1.o
  have bQ:=A W;have HR:=A d;have HQ:=A hQ;have bJ:=A ax;obtain⟨q,az,M,o⟩:=hQ;rcases k with _|k
  ·have CT:=A (gi wr wr.heap.size _ q (M.sl M.lt));rw[az] at CT;obtain⟨Ar,cr,hv,_⟩:=id d.sl;subst hv;have HP:=A (show∀vq,Di (aw a) (aw b) w (YC (YF #[vq,V Ar (ln l) cr])) wr fromλvq=>⟨vq,_,l,rfl,d.sl.all,d.canon,W,o⟩);clear d ax W M o az;go_wp2_with(go_at_call 231;refine CT.o.mono ?_;rintro e W1 ⟨rfl,rfl⟩)
   go_ret2;exact HP.o _
  ·have sa:=HA.o.below o;have aV:C a k<1000000:=aK bk k;obtain⟨_,_,e,_,_,an⟩:=sa;injection e with e1 e2 e3
   clear e2;subst e1 e3;obtain⟨ba,oa,rfl,_,a0⟩:=an Zm;have hc:=a0 k Zm;obtain⟨x,ay⟩:=aa (C a k);rw[ay] at hc aV;have aP:=A (show aw (aD (x::l))%aw b=Sv a k%aw b by rw[ia,o7,W,Nat.add_comm,Yd,Dv,Eh (a:=a) (k:=k) Zm,ay]);clear W;have ek:((k+1:Nat):Int)-1=(k:Int):=D;rw[ek];obtain⟨Ar,cr,hv,_⟩:=id d.sl;subst hv;have aM:∀y∈x::l,y<B6:=λy hy=>by
    rcases List.mem_cons.1 hy with h|h
    ·rw[h];exact aV
    ·exact d.canon.small y h
   have Q:=A (gm (l:=x::l) aM);have ab:=A (show(aD (x::l)).length<=m+3 from Ye (bC _) (by rw[List.length_cons];have:=d.len;omega));have HV:=A (show aw (aD (x::l))<1000000*aw b by rw[ia,o7];omega);have bA:ln l<=10000000:=by have:=d.len;omega
   obtain⟨r1,aq⟩:=aa (aD (x::l));rw[aq] at Q ab HV aP;have bx:=A aq;have bb:=A (d.sl.all);have bu:=A d.nil;have bD:=A ((HB.o.below o).more o.size);have bP:=A o.size;have br:C r1 (m+2)<1000000:=aK Q.o.small _;have bG:C r1 (m+1)<1000000:=aK Q.o.small _;have bq:C r1 m<1000000:=aK Q.o.small _;have ar:=HE.o r1 ab.o;obtain⟨p2,qQ⟩:=aa (C r1 (m+2));obtain⟨p1,lL⟩:=aa (C r1 (m+1));obtain⟨p0,al⟩:=aa (C r1 m);rw[qQ,lL,al] at ar;rw[qQ] at br;rw[lL] at bG;rw[al] at bq;have P2:=A qQ;have P1:=A lL;have P0:=A al;obtain⟨u,hu⟩:=aa ((p2*1000000+p1)*1000000+p0);obtain⟨t,ht⟩:=aa (y1*1000000+y0+1);obtain⟨g,hg⟩:=aa (u/t);have Y:F.wrap ((((p2:Int)*1000000+p1)*1000000+p0).tdiv ((y1:Int)*1000000+y0+1))=(g:Int):=by
    have:=Wr (t:=t) (u:=u) D D hg;rw[<-this,<-hu,<-ht];simp
   have bo:g<1000000000000:=by
    rw[<-hg];exact(Nat.div_lt_iff_lt_mul D).2 D
   have aF:=A (show g*aw b<=aw r1 by rw[<-hg,<-hu,<-ht];exact ar);have bO:¬((y1:Int)*1000000+y0+1=0):=D;have a6:=A (Rt bo);have ai:=A v.small;have bz:=A (show ln r1<=1000000 by have:=ab.o;omega);have bm:=A (show ln b<=1000000 by have:=HM.o;omega);clear d ax M o az a0 an ay aM aq ar qQ lL al hu ht hg;go_wp2_with(first
    |(go_at_call 234;refine(oQ w3 r1 l3 _ _ bg.o bF.o Q.o.small aG.o bz.o).mono ?_;rintro e w4 ⟨v4,l4,rfl,X,ad,R,ag,T⟩)
    |(go_at_call 235;refine(tI _ b [g] _ _ ((bD.o.grow ao).new _) (show bT _ _ (V (L ⟨w2.heap.size,0,I⟩) 1 1) [g] from(row_one w2 g).sl (row_one w2 g).lt) ai.o a6.o bm.o YL).mono ?_;rintro e w3 ⟨v3,l3,rfl,aW,aB,⟨aU,a5⟩,aA,bl⟩;have bg:=A (show bT w3 w3.heap.size (OG K (x::l)) r1 from(ah.o.new _).grow aA);have bF:=A aW;have aG:=A aB.small)
    |(go_at_call 233;first|(refine(vQ w2 _ _ r1 _ (m+2) p2 ah.o P2.o D D).mono ?_;rintro e W1 ⟨rfl,rfl⟩)|(refine(vQ w2 _ _ r1 _ (m+1) p1 ah.o P1.o D D).mono ?_;rintro e W1 ⟨rfl,rfl⟩)|(refine(vQ w2 _ _ r1 _ m p0 ah.o P0.o D D).mono ?_;rintro e W1 ⟨rfl,rfl⟩))
    |(go_at_call 231;refine(gi w2 _ K (x::l) bd.o).mono ?_;rintro e W1 ⟨rfl,rfl⟩)
    |(at_builtin;refine Vc _ H _ _ H wr x H H H (bb.o.new _) bu.o bA ?_;intro K w2 aE bK ao;have bd:=A aE;have ah:=A (show bT w2 w2.heap.size (OG K (x::l)) r1 from bx.o▸aE.trimmed)))
   have ak:Ext wr w3:=ao.trans (((XI _ _).alloc (XE _) _).trans (aA.mono YL) |>.mono ao.size);have aY:Ext wr w4:=ak.trans (ag.mono ak.size);have av:aw l3=g*aw b:=by rw[aU,oG,Yd]
   have au:aw l3<=aw r1:=by rw[av];exact aF.o
   have aL:=kY aB Q.o.small au;have aI:aw l4=aw r1-aw l3:=by rw[R];exact qM Q.o.small aG.o aL au
   have aQ:ln l4<=m+3:=by rw[R];exact Ye (bC _) (by rw[bL];exact ab.o)
   have HI:=A (show SK w w.heap.size n (m+2) (aw b) (aw r1) v4 (G F (g:Int)) w4 from
    ⟨g,l4,rfl,⟨X.fresh T (Nat.lt_of_lt_of_le HQ.o.lt ak.size),ad,aQ,λm' c e=>(T _ _ _ e).1 rfl⟩,by rw[aI,av];have:=aF.o;omega,HQ.o.ext aY⟩)
   clear ak aY av au aL aI aQ X ad R ag T aW aB aU a5 aA bl;go_loopw [9,11] (λr z wi=>SK w w.heap.size n (m+2) (aw b) (aw r1) r z wi) (λr _ wi=>Iq r wi)
   case atStart=>exact HI.o
   case round=>
    obtain⟨z,O,rfl,N,am,ae⟩:=hrel;have bN:=Tj am HV.o;obtain⟨A5,c5,bn,_⟩:=id N.sl;subst bn;have S5:=A N.sl.all;have aj:Ext w wr:=by obtain⟨_,_,_,h⟩:=ae;exact h
    have B5:=A ((HB.o.below aj).more aj.size);have CS:=A (wm wr O b _ _ S5.o B5.o N.canon v);have Q5:=A ae;have E:=A N;have E5:=A am;have bs:ln O<=1000000:=by have:=N.len;omega
    by_cases af:aw b<=aw O
    ·have B:=A af;clear N ae am aj af;go_wp2_with(first
      |(go_at_call 234;refine(oQ Y O b _ _ (S5.o.grow P.o) (B5.o.grow P.o) E.o.canon.small ai.o bs).mono ?_;rintro e w7 ⟨v7,l7,rfl,X,ad,R,ag,T⟩)
      |(go_at_call 236;refine CS.o.mono ?_;rintro e Y ⟨⟨c,rfl,h1,h2⟩,S⟩;have P:=A S;have bh:0<=c:=Int.not_lt.1 (λh=>absurd (h1 h) (Nat.not_lt.2 B.o));clear h1 h2 S))
     have bE:=kY v E.o.canon.small B.o;have aR:aw l7=aw O-aw b:=by rw[R];exact qM E.o.canon.small ai.o bE B.o
     have bf:Ext wr w7:=P.o.trans (ag.mono P.o.size);refine⟨⟨z+1,l7,YL,⟨X.fresh T (Nat.lt_of_lt_of_le Q5.o.lt P.o.size),ad,by rw[R];exact Ye (bC _) (by rw[bL];exact E.o.len),λm' c e=>(T _ _ _ e).1 H⟩,?_,Q5.o.ext bf⟩,?_⟩
     ·have:=E5.o;have:=B.o;rw[aR,Nat.add_mul,Nat.one_mul];omega
     ·rw[rF X,rF S5.o,aR];have:=a1.o;have:=B.o;omega
    ·have B:=A af;have bt:=A (show ln O<=m+2 by have:=kY E.o.canon ai.o D;rw[HM.o] at this;exact this);clear N ae am aj af;go_wp2_with(go_at_call 236;refine CS.o.mono ?_;rintro e Y ⟨⟨c,rfl,h1,h2⟩,S⟩;have P:=A S;have bh:¬0<=c:=(λh=>absurd (h2 D).1 B.o);obtain⟨q6,a3,ac,aS⟩:=Q5.o.ext S;have Q6:=A a3;have R6:=A ac;have a4:=A aS;have hx:=ac.cell (j:=k) D;have bM:=ac.frozen k;obtain⟨y,aX⟩:=aa (C q6 k);rw[aX] at hx;clear h1 h2 S a3 ac aS aX)
     have ho:=(eX.refl w.heap.size Y).set k (G F (z:Int));refine⟨⟨k,O,D,rfl,⟨ho.Uf (E.o.sl.ext P.o),E.o.canon,bt.o,E.o.nil⟩,by rw[<-aP.o,<-E5.o,Nat.add_mul_mod_self_right,Nat.mod_eq_of_lt (by have:=B.o;omega)],⟨q6.set k z,by rw[List.length_set];exact Q6.o,R6.o.set (by have:=Q6.o;omega) z,a4.o.setCell (p:=⟨w.heap.size,k,I⟩) (XE _) _⟩⟩,?_⟩;simp[Yf]
end
section
open Kp
def Bt(w:U)(a b:List Nat)(c k:Z)(j:bT w w.heap.size c a)(i:bT w w.heap.size k b)(o:lF a)(g:bB b)(u:ln a<=100000)(x:ln b<=100000)(r:b≠[]):
  XY Xz 175 #[c,k] w (Di (aw a) (aw b) w):=by
 rcases b with _|⟨d,_|⟨d2,b⟩⟩
 ·exact absurd H r
 ·have B:d<1000000:=g.small d YL;have y:1<=d:=Nat.pos_of_ne_zero (g.trim d H);have v:=A (DV w a c d j o y B D);obtain⟨J,E,rfl,K,C,m⟩:=id i;obtain⟨z,s,rfl,_,n⟩:=m YL;have hx:w.cell? ⟨z,s,I⟩=L (G F d):=n 0 YL;obtain⟨f,O,rfl,_,_,_⟩:=j;rw[oG];clear i m n;go_enter func175,ntmps175;go_wp2_with(go_at_call 232;refine v.o.mono ?_;rintro e w1 ⟨N,M,l,rfl,h1,h2,q,t⟩)
  go_ret2;exact⟨_,_,l,H,h1,h2,q,t⟩
 ·exact xv w a (d::d2::b) c k j i o g u x (ln b) YL
end
section
open Kp
theorem ai.ue{x y:Z}(h:ai w b T [x,y])(v:Z):ai (w.setCell ⟨b,1,I⟩ v) b T [x,v]:=by
 exact a1d
theorem ai.nz{x y:Z}(h:ai w b T [x,y])(v:Z):ai (w.setCell ⟨b,0,I⟩ v) b T [v,y]:=by
 exact a1d
theorem ai.below{B:Nat}{l:List Z}(h:ai w b T l)(hx:Yl B w w')(a:b<B):ai w' b T l:=(hx.block b a).trans h
def SJ(n:Nat)(w:U)(e:Ending)(w':U):Prop:=∃s v l,e=YC (YE #[Yz s,v])/\bT w' w'.heap.size v l/\bB l/\ln l<=n/\Ext w w'
def TB(z:ByteArray)(w:U)(e:Ending)(w':U):Prop:=∃s v l,e=YC (YE #[Yz s,v])/\bT w' w'.heap.size v l/\bB l/\ln l<=51/\Ext w w'/\(Un z 0 z.size->aw l=cI z z.size)
theorem rd_val{y:ByteArray}(h:cI y j=cI y b*10^(j-b)+x)(a:cI y (j+1)=10*cI y j+g)(hk:b<=j):cI y (j+1)=cI y b*10^(j+1-b)+(10*x+g):=by
 have e:(10:Nat)^(j+1-b)=10^(j-b)*10:=by rw[show j+1-b=(j-b)+1 by omega,Nat.pow_succ]
 rw[a,h,e,<-Nat.mul_assoc,Yd _ 10];omega
theorem Oc{y:ByteArray}(a:j-6=b)(h:cI y j=cI y b*10^(j-b)+x):cI y j=cI y b*1000000+x:=by
 by_cases c:6<=j
 ·rw[h,show j-b=6 by omega]
 ·obtain rfl:b=0:=D;rw[h];simp[cI]
def Ip{a c x b d N:Nat}(h1:c+B6^a*d=N)(h2:d=b*1000000+x):c+x*B6^a+B6^(a+1)*b=N:=by
 have e:B6^a*(b*1000000)=B6^(a+1)*b:=by rw[Nat.pow_succ,Nat.mul_assoc,Yd b]
 rw[<-h1,h2,Nat.mul_add,e,Yd x];omega
structure To(w:U)(s:Bool)(v:Z)(l:List Nat)(wr:U):Prop where
 res:ai wr w.heap.size 201 [Yz O,V I 0 0]
 num:ai wr (w.heap.size+1) 201 [Yz s,v]
 own:wr.ownsRow (w.heap.size+2) 3 1 v (ln l) (uL l)
 small:lF l
 ext:Ext w wr
def LW(w:U)(s:Bool)(y:ByteArray)(e:Z)(wr:U):Prop:=∃(k:Int) (v:Z) (l:List Nat),e=G F k/\k+6*(ln l:Int)=y.size/\ -6<k/\aw l+B6^ln l*cI y k.toNat=cI y y.size/\To w s v l wr
def Sx(y:ByteArray)(W:U)(s e:Nat)(n i:Z)(a:U):Prop:=∃x k:Nat,n=G F (x:Int)/\i=G F (k:Int)/\s<=k/\k<=e/\x<10^(k-s)/\cI y k=cI y s*10^(k-s)+x/\a=W
def My{x k s c:Nat}(h:x<10^(k-s))(hk:s<=k)(a:c<=9):10*x+c<10^(k+1-s):=by
 have:(10:Nat)^(k+1-s)=10^(k-s)*10:=by rw[<-Nat.pow_succ];congr 1;omega
 omega
theorem Aa(h:x<10^d)(a:d<=6):x<1000000:=
 Nat.lt_of_lt_of_le h (Ye (Nat.pow_le_pow_right YK a) YK)
theorem yr{v:Z}(h:To w s v l wr)(hx:x<1000000)(v':Z)(w':U)
  (c:w'.ownsRow (w.heap.size+2) 3 1 v' (ln l+1) (uL l++[G F (x:Int)]))(f:(wr.alloc (.cells #[G F (x:Int)] 3)).grownBy w' v.ownBlock):
  w'.cell? ⟨w.heap.size+1,1,I⟩=L v/\w'.frozen? ⟨w.heap.size+1,1,I⟩=O/\To w s v' (l++[x]) (w'.setCell ⟨w.heap.size+1,1,I⟩ v'):=by
 have b:Yl (w.heap.size+2) wr w':=((XI _ _).alloc (by have:=h.num.lt;omega) _).grown f (by have:=h.num.lt;simp;omega) (λk e=>(aH h.own k e).1);have a:=h.num.below b D;have g:=aH c;refine⟨a.cell 1,a.frozen 1,((h.res.below b D).eC YL _),a.ue _,?_,?_,(h.ext.trans (b.mono D)).setCell (p:=⟨w.heap.size+1,1,I⟩) YL _⟩
 ·rw[Yc];have e:uL (l++[x])=uL l++[G F (x:Int)]:=by unfold uL;rw[List.map_append];rfl
  rw[e];exact dF c (λh=>by have:=g _ h;simp at this) _
 ·intro d i;rcases List.mem_append.1 i with h1|h1
  ·exact h.small d h1
  ·rw[List.mem_singleton.1 h1];exact hx
end
section
open Kp
def Ji:(Xz.info? 5).map (λi=>(i.zero,i.size,i.bytes))=L (L (G .u8 0),1,1):=R
def vH(w:U)(g:Nat)(l:List Nat):Prop:=
 ∃cur:Array Z,w.heap[g]?=L (.cells cur 5 (0,0))/\cur.size=ln l/\∀j,j<ln l->cur[j]?=L (G .u8 (C l j))
theorem vH.lt(h:vH w g l):g<w.heap.size:=by
 obtain⟨cur,a,_⟩:=h;exact(XV.1 a).1
theorem vH.cell(h:vH w g l)(c:j<ln l):w.cell? ⟨g,j,I⟩=L (G .u8 (C l j)):=by
 obtain⟨cur,b,_,a⟩:=h;simp[World.cell?,b,a j c]
theorem vH.frozen(h:vH w g l)(j:Nat):w.frozen? ⟨g,j,I⟩=O:=by
 obtain⟨cur,a,_⟩:=h;simp[World.frozen?,a]
theorem vH.set(h:vH w g l)(b:j<ln l)(x:Nat):vH (w.setCell ⟨g,j,I⟩ (G .u8 x)) g (l.set j x):=by
 obtain⟨cur,c,h1,a⟩:=h;refine⟨cur.setIfInBounds j (G .u8 x),?_,by simp[h1],λk hk=> ?_⟩
 ·simp[World.setCell,Array.getElem?_modify,c]
 ·exact a0l
theorem yl{base g n:Nat}(h:w.ownsRow base 5 1 (V (L ⟨g,0,I⟩) n n) n (madeCells (Value.int .u8 0).cells (n*1)).toList):vH w g (List.replicate n 0):=by
 obtain⟨k,h|⟨q,m,cur,e,o,d,h1,h2,i,f⟩⟩:=h
 ·obtain⟨h,_⟩:=h;cases h
 ·injection e with a l c
  injection a with a
  injection a with a
  subst a c;refine⟨cur,d,YP,λj b=> ?_⟩;simp at b;have:(madeCells (Value.int .u8 0).cells (n*1)).toList[j]?=L (G .u8 (C (List.replicate n 0) j)):=by
   rw[mC];simp[madeCells,Value.cells,b,Nat.mod_one]
  rw[<-f,List.getElem?_take,XT D] at this;exact a0r
def jC(l:List Nat)(q:Nat):Nat:=
 C l (q/6)/10^(q%6)
  %10
structure AQ(Q:U)(g:Nat)(l:List Nat)(d:Nat)(B:List Nat)(wr:U):Prop where
 row:vH wr g B
 len:ln B=6*ln l
 jh:∀q,q<d->C B (6*ln l-1-q)=48+jC l q
 ext:Yl g Q wr
theorem AQ.next(h:AQ Q g l d B wr)(c:d<6*ln l)(hx:x=48+jC l d)(b:j=6*ln l-1-d):
  AQ Q g l (d+1) (B.set j x) (wr.setCell ⟨g,j,I⟩ (G .u8 (x:Int))):=by
 have a:=h.len;refine⟨h.row.set D x,by rw[List.length_set];exact a,λq f=> ?_,h.ext.setCell (p:=⟨g,j,I⟩) (XE _) _⟩;rw[jq D];by_cases e:q=d
 ·rw[XT D,hx,e]
 ·rw[XQ D];exact h.jh q D
def ni(l:List Nat)(k j:Nat)(a:j<6):jC l (6*k+j)=C l k/10^j%10:=by
 unfold jC;rw[show(6*k+j)/6=k by omega,Nat.mul_add_mod,Nat.mod_eq_of_lt a]
theorem I6(b:bB l)(n:0<ln l):∃q,q<6*ln l/\jC l q≠0:=by
 have g:C l (ln l-1)≠0:=b.trim _ (by rw[List.getLast?_eq_getElem?,XO D,mS D]);have j:C l (ln l-1)<1000000:=aK b.small _;obtain⟨t,e⟩:=aa (C l (ln l-1));rw[e] at g j;have key:∃r,r<6/\t/10^r%10≠0:=by
  apply Classical.byContradiction;intro h;have f:∀r,r<6->t/10^r%10=0:=λr a=>Classical.byContradiction λh2=>h ⟨r,a,h2⟩
  have i:=f 0 YK;have f1:=f 1 YK;have k:=f 2 YK;have c:=f 3 YK;have d:=f 4 YK;have m:=f 5 YK;simp at i f1 k c d m;omega
 obtain⟨r,a,h⟩:=key;refine⟨6*(ln l-1)+r,D,?_⟩;rw[ni _ _ _ a,e];exact h
def U9{t:Nat}(e:t<1000000)(h:∀r,1<=r->r<6->t/10^r%10=0):t=t/10^0%10:=by
 have f1:=h 1 YK YK;have c:=h 2 YK YK;have a:=h 3 YK YK;have b:=h 4 YK YK;have d:=h 5 YK YK;simp at f1 c a b d⊢;omega
theorem Tm(c:bB l)(e:∀q,q<6*ln l->C B (6*ln l-1-q)=48+jC l q)(m:∀j,j<o->C B j=48)(u:o<6*ln l)(a:C B o≠48):
  (strOfNums ((List.range (6*ln l-o)).map λj=>((C B (o+j):Nat):Int))).toList=[49]↔aw l=1:=by
 rw[ByteArray.toList_eq,strOfNums_data,List.map_map];constructor
 ·intro h;have k:6*ln l-o=1:=by simpa using Yv List.length h
  have s:=e 0 D;rw[show 6*ln l-1-0=o by omega] at s;rw[k] at h;have z:jC l 0<10:=Nat.mod_lt _ YK;have h1:jC l 0=1:=by
   have h2:UInt8.ofNat (C B o)=49:=by simpa[List.range_succ] using h
   have i:=Yv UInt8.toNat h2;simp at i;omega
  have g:∀q,1<=q->q<6*ln l->jC l q=0:=by
   intro q w n;have h2:=e q n;rw[m _ D] at h2;omega
  have d:ln l=1:=by
   apply Classical.byContradiction;intro y;have t:C l (ln l-1)≠0:=c.trim _ (by rw[List.getLast?_eq_getElem?,XO D,mS D]);apply t;rw[U9 (aK c.small _) (λr _ f=>by rw[<-ni l (ln l-1) r f];exact g _ D D),<-ni l (ln l-1) 0 YK];exact g _ D D
  have h2:C l 0=1:=by
   rw[U9 (aK c.small 0) (λr A f=>by rw[<-ni l 0 r f];exact g _ D D),<-ni l 0 0 YK];exact h1
  match l,d with
  |[x],_=>rw[oG];exact h2
 ·intro h;have d:ln l=1:=by
   have a:l≠[]:=by rintro rfl;cases h
   have h1:=uK c.trim a;rw[h] at h1;rcases Nat.lt_or_ge (ln l) 2 with h2|h2
   ·have:=List.length_pos_iff.2 a;omega
   ·have:B6^1<=B6^(ln l-1):=Nat.pow_le_pow_right YK D;have i:B6^1=1000000:=YK;omega
  match l,d with
  |[x],_=>
   rw[oG] at h;subst h;have b:=e (5-o) (by show 5-o<6;omega);have E:o<6:=u;rw[show 6*([1]:List Nat).length-1-(5-o)=o from(by show 6-1-(5-o)=o;omega)] at b;have v:o=5:=by
    rcases(show o=0\/o=1\/o=2\/o=3\/o=4\/o=5 by omega) with rfl|rfl|rfl|rfl|rfl|rfl
    ·exact absurd b (by rw[show jC [1] (5-0)=0 by decide];exact a)
    ·exact absurd b (by rw[show jC [1] (5-1)=0 by decide];exact a)
    ·exact absurd b (by rw[show jC [1] (5-2)=0 by decide];exact a)
    ·exact absurd b (by rw[show jC [1] (5-3)=0 by decide];exact a)
    ·exact absurd b (by rw[show jC [1] (5-4)=0 by decide];exact a)
    ·rfl
   subst v;rw[show jC [1] (5-5)=1 by decide] at b;simp[List.range_succ,b]
def U0(n:Nat)(s:Bool)(l:List Nat)(w:U)(e:Ending)(w':U):Prop:=∃t:ByteArray,e=YC (Yy t)/\0<t.size/\t.size<=n/\Ext w w'/\(s=O->(t.toList=[49]↔aw l=1))
def Db(w:U)(s:Bool)(v:Z)(l:List Nat)(hs:bT w w.heap.size v l)(t:bB l)(hl:ln l<=100000):
  XY Xz 176 #[YE #[Yz s,v]] w (U0 (6*ln l+1) s l w):=by
 obtain⟨f,a,rfl,aB,ax,M⟩:=id hs;unfold Yk at ax;by_cases h0:ln l=0
 ·rw[h0];clear M;go_enter func176,ntmps176;go_wp2_with fail
  go_ret;obtain rfl:l=[]:=List.length_eq_zero_iff.1 h0;exact⟨_,H,YK,YK,(XI _ _).alloc (XE _) _,λ_=>⟨λh=>absurd h (by rw[ByteArray.toList_eq];decide),λh=>YM⟩⟩
 obtain⟨b,off,rfl,aF,_⟩:=M D;obtain⟨i0,hi,an,Y,E⟩:=info_parts Ji;obtain⟨p,hp,ar⟩:=I6 t D;obtain⟨n,hn⟩:=aa (ln l);have J:=A hn;have aA:=A ar;have HP:=A hp;rw[hn] at aB hl h0⊢;have HS:=A hs;clear hs hn ar hp M;go_enter func176,ntmps176;go_wp2_with(at_make;refine wpList_make_full _ H _ _ 83 H (w.heap.size+1) 5 i0 (G .u8 0) 1 underlying83 hi an Y .i64 .i64 _ _ (6*n) H H D D Z8 YR YL ?_;intro w1 af am)
 have ap:=ai.new w 201 [Yz s,V (L ⟨b,off,I⟩) n a];have ad:Yl (w.heap.size+1) (w.alloc (Obj.cells #[Yz s,V (L ⟨b,off,I⟩) n a] 201)) w1:=(XI _ _).grown am YL (λ_ h=>YM);simp only[Ya] at af⊢;have au:=A (show ai (w.alloc (Obj.cells #[Yz s,V (L ⟨b,off,I⟩) n a] 201)) w.heap.size 201 [Yz s,V (L ⟨b,off,I⟩) n a] from ap);have W:=A (show Yl w.heap.size w (w.alloc (Obj.cells #[Yz s,V (L ⟨b,off,I⟩) n a] 201)) from(XI _ _).alloc (XE _) _);obtain⟨Q,ah⟩:=aa (w.alloc (Obj.cells #[Yz s,V (L ⟨b,off,I⟩) n a] 201));rw[ah] at ad au W;have ST:=A (show AQ Q (w.heap.size+1) l (6*0) (List.replicate (6*n) 0) w1 from⟨yl af,by rw[List.length_replicate,J.o],λq hq=>D,ad⟩);clear af am ap ad ah hi an Y E;go_loopw [4] (λi wr=>∃(k:Nat) (B:List Nat),k<=n/\i=G F (k:Int)/\AQ Q (w.heap.size+1) l (6*k) B wr) (λi _=>n-(Yf i).toNat)
 case atStart=>exact⟨0,_,D,rfl,ST.o⟩
 case round=>
  obtain⟨i,B,hi,rfl,g⟩:=hrel;have R:=au.o.below g.ext (Nat.lt_succ_self _);have aC:=R.cell 1;have r:=A g;by_cases aD:i<n
  ·exact a2A
  ·obtain rfl:i=n:=D;have aE:=R.cell 0;have ak:Ext w wr:=W.o.trans (g.ext.mono D);have aq:=A ak;obtain⟨P,hP⟩:=aa (6*i-1-p);have aH:P<6*i:=by have:=HP.o;rw[J.o] at this;omega
   have al:=A (show C B P≠48 by
    have:=g.jh p (by have:=HP.o;rwa[J.o] at this);rw[J.o,hP] at this;rw[this];have:=aA.o;omega)
   clear g R ak hP;go_wp2_with fail
   go_loopw [3] (λv wi=>∃o:Nat,o<=P/\v=V (L ⟨w.heap.size+1,o,I⟩) (6*i-o) (6*i-o)/\(∀j,j<o->C B j=48)/\wi=wr) (λv _=>LL v)
   case atStart=>exact⟨0,D,rfl,λj T=>D,rfl⟩
   case round=>
    obtain⟨o,ho,rfl,ao,rfl⟩:=hrel;have ab:=A ao;clear ao;have aj:o<ln B:=by rw[r.o.len,J.o];omega
    have av:=r.o.row.cell aj;obtain⟨y,hy⟩:=aa (C B o);rw[hy] at av;have X:=A hy;obtain⟨z,u⟩:=aa (6*i-o);have HZ:=A u;rw[u];have Y:1<=z:=D;clear aj hy;by_cases ac:y=48
    ·exact a2z
    ·obtain⟨ns,N⟩:=aa ((List.range z).map (λj=>((C B (o+j):Nat):Int)));have ae:ln ns=z:=by rw[<-N];simp
     have az:=run_convert_bytes_arg (P:=Xz) wr 83 5 underlying83 underlying5 (w.heap.size+1) o z z ns ae (λj T=>by
      rw[r.o.row.cell (by rw[r.o.len,J.o];omega),<-N];simp[List.getD,T]) 9 underlying9
     obtain⟨S,O⟩:=aa (strOfNums ns);have K:=A (show S.size=z by rw[<-O,strOfNums_size,ae]);rw[O] at az;have ag:=A (show z<=6*i by omega);have ay:=A (show S.toList=[49]↔aw l=1 by
      have h:=Tm (o:=o) t (λq hq=>r.o.jh q (by rwa[J.o] at hq)) ab.o (by rw[J.o];omega) (by rw[X.o];exact ac);rw[J.o,u,N,O] at h;exact h)
     clear u N ae O;cases s with
     |false=>
      go_wp2;refine bodyPost_ret (v:= Yy S) (by simp[results,results176,go_sem]) H ?_;exact⟨S,H,by rw[K.o];exact Y,by rw[K.o];have:=ag.o;omega,aq.o,λ_=>ay.o⟩
     |true=>
      have aI:=K.o;have aG:z<=600000:=by have:=ag.o;omega
      go_wp2;refine bodyPost_ret (v:= Yy (⟨#[45]⟩++S)) (by simp[results,results176,go_sem]) H ?_;exact⟨_,H,by rw[ByteArray.size_append,K.o];omega,by rw[ByteArray.size_append,K.o];have:=ag.o;show 1+z<=_;omega,aq.o,λh=>YM⟩
end
section
open Kp
def WX(w:U)(a b:List Nat)(v c i:Z)(wr:U):Prop:=
 ∃k:Nat,k<=max (ln a) (ln b)+1/\i=G F (k:Int)/\c=G F ((eT a b k).2:Int)/\wr.ownsRow w.heap.size 3 1 v k (uL (cJ (eT a b) k))/\Ext w wr
def O0{a b:List Nat}(c:lF a)(d:lF b):(eT a b (max (ln a) (ln b)+1)).2=0:=by
 show(C a (max (ln a) (ln b))+C b (max (ln a) (ln b))+(eT a b (max (ln a) (ln b))).2)/1000000=0;rw[nk D,nk D];have:=(zE c d (max (ln a) (ln b))).1;omega
end
section
open Kp
theorem SJ.of{v:Z}(h1:bT w' w'.heap.size v l)(h2:bB l)(a:ln l<=n)(b:Ext w w'):SJ n w (YC (YE #[Yz s,v])) w':=⟨s,v,l,rfl,h1,h2,a,b⟩
theorem mV{v k:Z}(h:bT w w.heap.size v l)(p:ai w b 201 [Yz s,k])(r:∀x,k≠ G F x)(i:Nat)(x:Z):
  bT (w.setCell ⟨b,i,I⟩ x) (w.setCell ⟨b,i,I⟩ x).heap.size v l:=by
 obtain⟨f,q,rfl,h1,h2,o⟩:=h;refine⟨f,q,H,h1,h2,λu=> ?_⟩;obtain⟨n,off,e,t,d⟩:=o u;refine⟨n,off,e,by simpa[World.setCell] using t,λj m=> ?_⟩;by_cases g:n=b
 ·exfalso;subst g;have a:=d j m;rw[p.cell] at a;rcases(show off+j=0\/off+j=1\/2<=off+j by omega) with c|c|c
  ·rw[c] at a;simp at a
  ·rw[c] at a;simp at a;exact r _ a
  ·rw[List.getElem?_eq_none (by simpa using c)] at a;cases a
 ·rw[World.cell?_of_block (w:=w) (Below.heap_setCell _ _ _ _ g)];exact d j m
def iP(f:Option Ym)(n c:Nat):∀x,Value.slice f n c≠ G F x:=λ_ h=>YM
end
section
open Kp
def Cc(z:ByteArray):Bool:=z.data.toList.head?==L 45
def LF(z:ByteArray):Nat:=if Cc z then cI (z.extract 1 z.size) (z.extract 1 z.size).size else cI z z.size
def Ia{z:ByteArray}(h:0<z.size):Cc z=(((z[0]'h).toNat:Int)==45):=by
 unfold Cc;rw[List.head?_eq_getElem?,XO ZQ];have e:z.data.toList[0]'ZQ=z[0]'h:=Zy;rw[e];generalize z[0]'h=b;by_cases a:b=45
 ·subst a;rfl
 ·have h1:(L b==L (45:UInt8))=O:=by simpa using a
  rw[h1,eq_comm,XN];intro e;exact a (UInt8.toNat_inj.1 (by show b.toNat=45;omega))
def Na(z:ByteArray)(w:U)(e:Ending)(w':U):Prop:=∃v l,e=YC (YE #[Yz (Cc z),v])/\bT w' w'.heap.size v l/\bB l/\ln l<=51/\Ext w w'/\aw l=LF z
def yc(w:U)(z:ByteArray)(hz:Me z):XY Xz 174 #[Yy z] w (Na z w):=by
 obtain⟨i0,hi,aq,av,ap⟩:=info_parts ie;have I0:=A hi;have I1:=A aq;have I2:=A av;have I3:=A ap;obtain⟨f,aP,aN,J,ar,af⟩:=hz.ex;have hp:0<z.size:=D;obtain⟨y,hy⟩:=aa (z.extract f z.size:ByteArray);have aA:y.size=z.size-f:=by rw[<-hy,ByteArray.size_extract,Nat.min_self]
 have aC:Un y 0 y.size:=by
  intro m h1 h2 h3;subst hy;rw[ByteArray.getElem_extract];exact J (f+m) D D D
 obtain⟨p,ah⟩:=aa (((z[0]'hp).toNat:Int)==45);have R:p=YG (f=1):=by
  cases p
  ·rw[eq_comm,XL];intro e;obtain⟨_,h⟩:=af.1 e;simp[h] at ah
  ·rw[eq_comm,XX];exact af.2 ⟨hp,Yg.1 ah⟩
 have ae:f=0->z=y:=by
  intro e;subst e;rw[<-hy];simp[ByteArray.extract_zero_size]
 clear hi aq av ap hz af;have YD:=A aC;have aJ:=A aA;have az:y.size<=300:=D;have aO:0<y.size:=D;have aB:=A ae;have ay:=A (show∀s,LW w s y (G F (y.size:Int)) ((w.alloc (Obj.cells #[Yz O,V I 0 0] 201)).alloc (Obj.cells #[Yz s,V I 0 0] 201)) fromλs=>
  ⟨_,_,[],rfl,YL,D,by simp[aw,S6],(ai.new w _ _).ext ((XI _ _).alloc (XE _) _),by have:=ai.new (w.alloc (Obj.cells #[Yz O,V I 0 0] 201)) 201 [Yz s,V I 0 0];simpa using this,⟨rfl,.inl ⟨rfl,rfl⟩⟩,(λ_ h=>YM),((XI _ _).alloc (XE _) _).alloc YL _⟩)
 have ad:=Ia hp;rw[ah] at ad;have ao:LF z=cI y y.size:=by
  unfold LF;rw[ad,R];by_cases e:f=1
  ·subst e;rw[Yb rfl,XT rfl,hy]
  ·rw[XU e];obtain rfl:=ae D
   rfl
 have ax:=A ad;have au:=A ao;clear aC ae ad ao;clear aA;cases p with
 |true=>
  obtain rfl:f=1:=by simpa using R.symm
  have HY:=A hy;clear R hy ar J;go_enter func174,ntmps174;go_wp2_with fail
  rw[HY.o,<-aJ.o];have ST:=A (ay.o Y);go_loopw [4] (λe wr=>LW w Y y e wr) (λe _=>(Yf e+6).toNat)
  case atStart=>exact ST.o
  case round=>
   obtain⟨k,v,l,rfl,hk,aM,M,E⟩:=hrel;have X:=A M;clear M;have r:=A E;have T:=A hk;have am:=A az;by_cases aL:0<k
   ·obtain⟨e,rfl⟩:∃e:Nat,k=(e:Int):=⟨k.toNat,D⟩;obtain⟨b,hb⟩:=aa (e-6);have w1:F.wrap ((e:Int)-6)=(e:Int)-6:=Yh _ D;have aF:max (0:Int) ((e:Int)-6)=(b:Int):=D;have aE:e<=y.size:=D;clear E hk;go_wp2_with fail
    go_loopw [5,6] (λn i wi=>Sx y wr b e n i wi) (λ_ i _=>((e:Int)-Yf i).toNat)
    case atStart=>exact⟨0,b,H,H,XE _,D,YL,YL,rfl⟩
    case round=>
     obtain⟨x,j,rfl,rfl,ac,aG,hx,Q,rfl⟩:=hrel;have an:=A Q;clear Q;by_cases aK:j<e
     ·have o:j<y.size:=D;have J:=YD.o j (Nat.zero_le _) o o;obtain⟨c,B⟩:∃c:Nat,((y[j]'o).toNat:Int)=c:=⟨_,rfl⟩;rw[B] at J;obtain⟨g,rfl⟩:∃g:Nat,c=48+g:=⟨c-48,D⟩;have aj:=Aa hx D;have NX:=A (My (c:=g) hx ac D);have t:(((y[j]'o).toNat:Int)-48)%256=(g:Int):=by rw[B];omega
      exact a2C
     ·exact a2B
   ·have d:=r.o;obtain⟨a,Z,c4,W⟩:=rX.of d.own;subst W;have K:=gY d.own H;have P:=A (show XY Xz 231 #[V a Z c4] wr λe w'=>e=YC (V a (aD l).length c4)/\wr=w' from gi wr _ _ l K);have ak:=K.trimmed;obtain⟨q,t⟩:=aa ((aD l).length);have L:(aD l).length<=51:=Ye (bC _) (by have:=T.o;have:=am.o;omega);have aI:=d.num.cell 1;have r1:=d.num.ue (V a q c4);have r2:=d.res.eC (p:=⟨w.heap.size+1,1,I⟩) YL (V a q c4);have f1:=d.num.frozen 1;have c0:=r1.cell 0;have c1:=r1.cell 1;have d0:=r2.cell 0;have d1:=r2.cell 1;have g0:=r2.frozen 0;have g1:=r2.frozen 1;have C:=r2.rU (Yz Y) (V a q c4);have ag:=A (C.cell 0);have al:=A (C.cell 1);have S:Ext w (((wr.setCell ⟨w.heap.size+1,1,I⟩ (V a q c4)).setCell ⟨w.heap.size,0,I⟩ (Yz Y)).setCell ⟨w.heap.size,1,I⟩ (V a q c4)):=((d.ext.setCell (p:=⟨w.heap.size+1,1,I⟩) YL _).setCell (p:=⟨w.heap.size,0,I⟩) YL _).setCell (p:=⟨w.heap.size,1,I⟩) YL _;have N:Na z w (YC (YE #[Yz Y,V a q c4])) (((wr.setCell ⟨w.heap.size+1,1,I⟩ (V a q c4)).setCell ⟨w.heap.size,0,I⟩ (Yz Y)).setCell ⟨w.heap.size,1,I⟩ (V a q c4)):=by
     refine⟨_,aD l,by rw[ax.o],?_,gm d.small,L,S,by rw[ia,au.o];have h:=X.o;rw[show k.toNat=0 by omega] at h;simpa[cI] using h⟩;have ab:=aH d.own;have h3:=dF (dF (dF d.own (p:=⟨w.heap.size+1,1,I⟩) (λh=>by have:=ab _ h;simp at this) (V a q c4)) (p:=⟨w.heap.size,0,I⟩) (λh=>ZY) (Yz Y)) (p:=⟨w.heap.size,1,I⟩) (λh=>ZY) (V a q c4);subst t;exact(gY h3 H).trimmed
    have HF:=A N;rw[t] at P;clear E hk d K ak t L r1 r2 C S N;go_wp2_with(go_at_call 231;refine P.o.mono ?_;rintro e W1 ⟨rfl,rfl⟩)
    have q0:=ag.o;have q1:=al.o;exact bodyPost_ret (v:= YE #[Yz Y,V a q c4]) (by simp[results,results174,go_sem,q0,q1]) H HF.o
 |false=>
  have h0:f=0:=by
   have:¬f=1:=by simpa using R.symm
   omega
  obtain rfl:=aB.o h0;clear R hy ar J aB;have ST:=A (ay.o O);go_enter func174,ntmps174;go_wp2_with fail
  go_loopw [4] (λe wr=>LW w O z e wr) (λe _=>(Yf e+6).toNat)
  case atStart=>exact ST.o
  case round=>
   obtain⟨k,v,l,rfl,hk,aM,M,E⟩:=hrel;have X:=A M;clear M;have r:=A E;have T:=A hk;have am:=A az;by_cases aL:0<k
   ·obtain⟨e,rfl⟩:∃e:Nat,k=(e:Int):=⟨k.toNat,D⟩;obtain⟨b,hb⟩:=aa (e-6);have w1:F.wrap ((e:Int)-6)=(e:Int)-6:=Yh _ D;have aF:max (0:Int) ((e:Int)-6)=(b:Int):=D;have aE:e<=z.size:=D;clear E hk;go_wp2_with fail
    go_loopw [5,6] (λn i wi=>Sx z wr b e n i wi) (λ_ i _=>((e:Int)-Yf i).toNat)
    case atStart=>exact⟨0,b,H,H,XE _,D,YL,YL,rfl⟩
    case round=>
     obtain⟨x,j,rfl,rfl,ac,aG,hx,Q,rfl⟩:=hrel;have an:=A Q;clear Q;by_cases aK:j<e
     ·have o:j<z.size:=D;have J:=YD.o j (Nat.zero_le _) o o;obtain⟨c,B⟩:∃c:Nat,((z[j]'o).toNat:Int)=c:=⟨_,rfl⟩;rw[B] at J;obtain⟨g,rfl⟩:∃g:Nat,c=48+g:=⟨c-48,D⟩;have aj:=Aa hx D;have NX:=A (My (c:=g) hx ac D);have t:(((z[j]'o).toNat:Int)-48)%256=(g:Int):=by rw[B];omega
      exact a2C
     ·exact a2B
   ·have d:=r.o;obtain⟨a,Z,c4,W⟩:=rX.of d.own;subst W;have K:=gY d.own H;have P:=A (show XY Xz 231 #[V a Z c4] wr λe w'=>e=YC (V a (aD l).length c4)/\wr=w' from gi wr _ _ l K);have ak:=K.trimmed;obtain⟨q,t⟩:=aa ((aD l).length);have L:(aD l).length<=51:=Ye (bC _) (by have:=T.o;have:=am.o;omega);have aI:=d.num.cell 1;have r1:=d.num.ue (V a q c4);have r2:=d.res.eC (p:=⟨w.heap.size+1,1,I⟩) YL (V a q c4);have f1:=d.num.frozen 1;have c0:=r1.cell 0;have c1:=r1.cell 1;have d0:=r2.cell 0;have d1:=r2.cell 1;have g0:=r2.frozen 0;have g1:=r2.frozen 1;have C:=r2.rU (Yz O) (V a q c4);have ag:=A (C.cell 0);have al:=A (C.cell 1);have S:Ext w (((wr.setCell ⟨w.heap.size+1,1,I⟩ (V a q c4)).setCell ⟨w.heap.size,0,I⟩ (Yz O)).setCell ⟨w.heap.size,1,I⟩ (V a q c4)):=((d.ext.setCell (p:=⟨w.heap.size+1,1,I⟩) YL _).setCell (p:=⟨w.heap.size,0,I⟩) YL _).setCell (p:=⟨w.heap.size,1,I⟩) YL _;have N:Na z w (YC (YE #[Yz O,V a q c4])) (((wr.setCell ⟨w.heap.size+1,1,I⟩ (V a q c4)).setCell ⟨w.heap.size,0,I⟩ (Yz O)).setCell ⟨w.heap.size,1,I⟩ (V a q c4)):=by
     refine⟨_,aD l,by rw[ax.o],?_,gm d.small,L,S,by rw[ia,au.o];have h:=X.o;rw[show k.toNat=0 by omega] at h;simpa[cI] using h⟩;have ab:=aH d.own;have h3:=dF (dF (dF d.own (p:=⟨w.heap.size+1,1,I⟩) (λh=>by have:=ab _ h;simp at this) (V a q c4)) (p:=⟨w.heap.size,0,I⟩) (λh=>ZY) (Yz O)) (p:=⟨w.heap.size,1,I⟩) (λh=>ZY) (V a q c4);subst t;exact(gY h3 H).trimmed
    have HF:=A N;rw[t] at P;clear E hk d K ak t L r1 r2 C S N;go_wp2_with(go_at_call 231;refine P.o.mono ?_;rintro e W1 ⟨rfl,rfl⟩)
    have q0:=ag.o;have q1:=al.o;exact bodyPost_ret (v:= YE #[Yz O,V a q c4]) (by simp[results,results174,go_sem,q0,q1]) H HF.o
end
section
open Kp
def jx(t:Tl):eD t=if t.width<1\/2000<t.width\/t.length<1\/2000<t.length\/t.lap<0\/t.length<=t.lap\/t.tail<0\/1000<t.tail then 2 else 0:=by
 unfold eD J;by_cases h:t.width<1\/2000<t.width\/t.length<1\/2000<t.length\/t.lap<0\/t.length<=t.lap\/t.tail<0\/1000<t.tail
 ·rw[XT h,XQ];simp only[Bool.and_eq_true,XX];omega
 ·rw[XQ h,XT];simp only[Bool.and_eq_true,XX];omega
def Aq(t:Tl)(w:U):XY Xz 85 #[YE (VT t).toArray] w λe w'=>e=YC (G F (eD t))/\Ext w w':=by
 have n:=A (show Ext w (w.alloc (.cells (VT t).toArray 30)) from(XI _ _).alloc (XE _) _);by_cases h1:t.width<1
 ·have HR:=A (show eD t=2 by rw[jx,XT D]);have d1:YG (t.width<1)=Y:=by rw[XX];exact h1
  exact a2P
 by_cases h2:2000<t.width
 ·have HR:=A (show eD t=2 by rw[jx,XT D]);have d1:YG (t.width<1)=O:=Z7;have d2:YG (2000<t.width)=Y:=by rw[XX];exact h2
  exact a2P
 by_cases a:t.length<1
 ·have HR:=A (show eD t=2 by rw[jx,XT D]);have d1:YG (t.width<1)=O:=Z7;have d2:YG (2000<t.width)=O:=a0c;have c:YG (t.length<1)=Y:=by rw[XX];exact a
  exact a2P
 by_cases b:2000<t.length
 ·have HR:=A (show eD t=2 by rw[jx,XT D]);have d1:YG (t.width<1)=O:=Z7;have d2:YG (2000<t.width)=O:=a0c;have c:YG (t.length<1)=O:=by rw[XL];exact a
  have f:YG (2000<t.length)=Y:=by rw[XX];exact b
  exact a2P
 by_cases d:t.lap<0
 ·have HR:=A (show eD t=2 by rw[jx,XT D]);have d1:YG (t.width<1)=O:=Z7;have d2:YG (2000<t.width)=O:=a0c;have c:YG (t.length<1)=O:=by rw[XL];exact a
  have f:YG (2000<t.length)=O:=by rw[XL];exact b
  have g:YG (t.lap<0)=Y:=by rw[XX];exact d
  exact a2P
 by_cases i:t.length<=t.lap
 ·have HR:=A (show eD t=2 by rw[jx,XT D]);have d1:YG (t.width<1)=O:=Z7;have d2:YG (2000<t.width)=O:=a0c;have c:YG (t.length<1)=O:=by rw[XL];exact a
  have f:YG (2000<t.length)=O:=by rw[XL];exact b
  have g:YG (t.lap<0)=O:=by rw[XL];exact d
  have j:YG (t.length<=t.lap)=Y:=by rw[XX];exact i
  exact a2P
 by_cases k:t.tail<0
 ·have HR:=A (show eD t=2 by rw[jx,XT D]);have d1:YG (t.width<1)=O:=Z7;have d2:YG (2000<t.width)=O:=a0c;have c:YG (t.length<1)=O:=by rw[XL];exact a
  have f:YG (2000<t.length)=O:=by rw[XL];exact b
  have g:YG (t.lap<0)=O:=by rw[XL];exact d
  have j:YG (t.length<=t.lap)=O:=by rw[XL];exact i
  have l:YG (t.tail<0)=Y:=by rw[XX];exact k
  exact a2P
 by_cases m:1000<t.tail
 ·have HR:=A (show eD t=2 by rw[jx,XT D]);have d1:YG (t.width<1)=O:=Z7;have d2:YG (2000<t.width)=O:=a0c;have c:YG (t.length<1)=O:=by rw[XL];exact a
  have f:YG (2000<t.length)=O:=by rw[XL];exact b
  have g:YG (t.lap<0)=O:=by rw[XL];exact d
  have j:YG (t.length<=t.lap)=O:=by rw[XL];exact i
  have l:YG (t.tail<0)=O:=by rw[XL];exact k
  have o:YG (1000<t.tail)=Y:=by rw[XX];exact m
  exact a2P
 ·have HR:=A (show eD t=0 by rw[jx,XQ D]);have d1:YG (t.width<1)=O:=Z7;have d2:YG (2000<t.width)=O:=a0c;have c:YG (t.length<1)=O:=by rw[XL];exact a
  have f:YG (2000<t.length)=O:=by rw[XL];exact b
  have g:YG (t.lap<0)=O:=by rw[XL];exact d
  have j:YG (t.length<=t.lap)=O:=by rw[XL];exact i
  have l:YG (t.tail<0)=O:=by rw[XL];exact k
  have o:YG (1000<t.tail)=O:=by rw[XL];exact m
  exact a2P
end
section
open Kp
def AD(w:U)(f:Option Ym)(q:Nat)(l:List Int)(K:bR 1 w w.heap.size f q (aU l)):
  XY Xz 81 #[V f (ln l) q] w λe w'=>e=YC (G F (iv l))/\Ext w w':=by
 obtain⟨h1,h2,o⟩:=K;rw[XP] at h1 o;unfold Yk at h2;by_cases C:16<ln l
 ·have HR:=A (show iv l=4 by rw[uA,XT C]);clear o;go_enter func81,ntmps81;go_wp2;go_ret;exact⟨YQ,Zq⟩
 have HR:=A (show iv l=bn (uY l) (ln l) by rw[uA,XQ C]);have P:=A o;clear o;go_enter func81,ntmps81;go_wp2;go_loopw [3] (λi wr=>∃k:Nat,k<=ln l/\i=G F (k:Int)/\Ext w wr/\∀j,j<k->uY l j=0) (λi _=>((ln l:Int)-Yf i).toNat)
 case atStart=>exact⟨0,D,rfl,XI _ _,λj u=>D⟩
 case round=>
  obtain⟨k,hk,rfl,z,E⟩:=hrel;have r:=A z;have s:=A E;clear E;by_cases n:k<ln l
  ·obtain⟨b,off,rfl,M,H⟩:=P.o D;have d:=λi hi j u=>(z.cell (p:=⟨b,off+1*i+j,I⟩) M).trans (H i hi j u)
   clear H z;have c1:=d k n 0 YK;rw[je n,Nat.one_mul,Nat.add_zero] at c1;have v:0<k->wr.cell? ⟨b,off+(k-1),I⟩=L (G F (l.getD (k-1) 0)):=λm=>by
    exact a1R
   have c:=A (show uY l k=if !J (l.getD k 0) 0 1048576 then 2 else if 0<k/\l.getD k 0<=l.getD (k-1) 0 then 10 else 0 from rfl);obtain⟨x,hx⟩:=aa (l.getD k 0);obtain⟨y,hy⟩:=aa (l.getD (k-1) 0);rw[hx] at c1 c;rw[hy] at v c;have Q:=A v;clear hx hy d v;cases a:J x 0 1048576
   ·have g:=A (show iv l=2 by rw[HR.o,bM n s.o (by rw[c.o,a,XT YK];decide),c.o,a,XT YK]);go_wp2_with(go_at_call 80;refine(iR _ _ _ _).mono ?_;rintro e W1 ⟨rfl,rfl⟩;rw[a])
    go_ret;exact⟨Y6,Zq⟩
   by_cases m:0<k
   ·have c2:=Q.o m;have N:YG (0<(k:Int))=Y:=Zo;have T:((k:Int)-1).toNat=k-1:=D;have W:0<=(k:Int)-1:=D;have S:(k:Int)-1<(ln l:Int):=D;have Z:(k:Int)<(ln l:Int):=D;have X:F.wrap ((k:Int)-1)=(k:Int)-1:=Yh _ D;by_cases t:x<=y
    ·have g:=A (show iv l=10 by rw[HR.o,bM n s.o (by rw[c.o,a,XQ YK,XT ⟨m,t⟩];decide),c.o,a,XQ YK,XT ⟨m,t⟩]);go_wp2_with(go_at_call 80;refine(iR _ _ _ _).mono ?_;rintro e W1 ⟨rfl,rfl⟩;rw[a])
     go_quiet (fail)
     go_wp2;go_ret;exact⟨Y6,Zq⟩
    ·have B:=A (show uY l k=0 by rw[c.o,a,XQ YK,XQ (λh=>t h.2)]);have ab:YG (x<=y)=O:=by rw[XL];exact t
     exact a2Q
   ·have N:YG (0<(k:Int))=O:=YU;have B:=A (show uY l k=0 by rw[c.o,a,XQ YK,XQ (λh=>m h.1)]);exact a2Q
  ·have R:YG ((k:Int)<(ln l:Int))=O:=YU;have g:=A (show iv l=0 by rw[HR.o,bh (λj u=>s.o j D)]);go_wp2;go_ret;exact⟨Y6,Zq⟩
end
section
open Kp
def OL(a b:List Nat)(k:Nat):S6 (C (cJ (eT a b) k)) k+(eT a b k).2*B6^k=S6 (C a) k+S6 (C b) k:=by
 induction k with
 |zero=>rfl
 |succ k g=>
  have e:S6 (C (cJ (eT a b) (k+1))) k=S6 (C (cJ (eT a b) k)) k:=kl λi hi=>by
   exact a1b
  have d:C (cJ (eT a b) (k+1)) k=(eT a b (k+1)).1:=by
   exact a1a
  rw[dx,dx,dx,e,d,Nat.pow_succ];have h:(eT a b (k+1)).1+(eT a b (k+1)).2*1000000=C a k+C b k+(eT a b k).2:=by
   show(C a k+C b k+(eT a b k).2)%1000000+(C a k+C b k+(eT a b k).2)/1000000*1000000=_;omega
  have c:=Yv (· *B6^k) h;simp only[Nat.add_mul] at c;have f:(eT a b (k+1)).2*(B6^k*B6)=(eT a b (k+1)).2*1000000*B6^k:=by
   show _=(eT a b (k+1)).2*B6*B6^k;rw[Yd (B6^k) B6,<-Nat.mul_assoc]
  rw[f];generalize(eT a b (k+1)).2*1000000*B6^k=u at *;generalize(eT a b (k+1)).1*B6^k=v at *;generalize C a k*B6^k=p at *;generalize C b k*B6^k=q at *;generalize(eT a b k).2*B6^k=r at *;omega
theorem K9{a b:List Nat}(h1:ln a<=k)(h2:ln b<=k)(c:(eT a b k).2=0):aw (aD (cJ (eT a b) k))=aw a+aw b:=by
 have h:=OL a b k;rw[ia];have d:S6 (C (cJ (eT a b) k)) k=aw (cJ (eT a b) k):=gT (Nat.le_of_eq (bL _ _));rw[d,gT h1,gT h2,c] at h;omega
def lG(s:Bool)(l:List Nat):Int:=if s then -(aw l:Int) else aw l
def Rc{m:Bool}{a b l:List Nat}(h:aw l=aw a+aw b):lG m l=lG m a+lG m b:=by
 cases m<;>simp[lG]<;>omega
def Rf{a b:Bool}{x y l:List Nat}(c:a≠b)(d:aw y<=aw x)(h:aw l=aw x-aw y):lG a l=lG a x+lG b y:=by
 cases a<;>cases b<;>simp[lG] at c⊢ <;>omega
theorem Rh{a b l:List Nat}(c:(t==E)= !r)(h:aw l=aw a*aw b):lG r l=lG t a*lG E b:=by
 cases t<;>cases E<;>cases r<;>simp[lG] at c⊢ <;>rw[h]<;>simp[Int.neg_mul,Int.mul_neg]
def qq(z:Int)(n:Nat)(w:U)(e:Ending)(w':U):Prop:=∃s v l,e=YC (YE #[Yz s,v])/\bT w' w'.heap.size v l/\bB l/\ln l<=n/\lG s l=z/\Ext w w'
theorem qq.of{z:Int}{v:Z}(h1:bT w' w'.heap.size v l)(h2:bB l)(a:ln l<=n)(b:lG s l=z)(c:Ext w w'):qq z n w (YC (YE #[Yz s,v])) w':=⟨s,v,l,rfl,h1,h2,a,b,c⟩
def Ku(w:U)(a b:List Nat)(va vb:Z)(T:bT w w.heap.size va a)(S:bT w w.heap.size vb b)(m:lF a)(B:lF b)(aA:ln a<=1000000)(aD:ln b<=1000000):
  XY Xz 343 #[va,vb] w (zt (λl=>ln l<=max (ln a) (ln b)+1/\aw l=aw a+aw b) w):=by
 obtain⟨i0,X,ah,aj,af⟩:=info_parts ie;have I0:=A X;have I1:=A ah;have I2:=A aj;have I3:=A af;have HA:=A T;have HB:=A S;obtain⟨f,ca,rfl,aG,ap,_⟩:=id T;obtain⟨B',cb,rfl,aB,ak,_⟩:=id S;have HC:=A (λn=>gm (qF (λk=>(zE m B k).2) n));have HM:=A (λk=>zE m B k);have HE:=A (O0 m B);have au:=A m;have al:=A B;unfold Yk at ap ak;clear T S X ah aj af m B;go_enter func343,ntmps343;go_wp2;go_loopw [5,6,7] (λv c i wr=>WX w a b v c i wr) (λ_ _ i _=>((max (ln a) (ln b)+1:Nat)-Yf i).toNat)
 case atStart=>exact⟨0,D,rfl,rfl,zd _ _,(XI _ _).alloc (XE _) _⟩
 case round=>
  obtain⟨k,hk,rfl,rfl,ad,z⟩:=hrel;have g:=A ad;have Q:=A z;have M:=(HA.o.below z);have L:=(HB.o.below z);have az:=z.size;clear ad z;by_cases s:k<ln a\/k<ln b\/0<(eT a b k).2
  ·have C1:=A (nv wr _ _ a k M D);have C2:=A (nv wr _ _ b k L D);have ag:k+1<=max (ln a) (ln b)+1:=by
    rcases Nat.lt_or_ge k (max (ln a) (ln b)+1) with h|h
    ·omega
    ·have e:k=max (ln a) (ln b)+1:=D;rw[e,HE.o] at s;omega
   have o:=A (fO (eT a b) k);have ab:(eT a b (k+1)).1=(C a k+C b k+(eT a b k).2)%1000000:=rfl;have ac:(eT a b (k+1)).2=(C a k+C b k+(eT a b k).2)/1000000:=rfl;have ao:C a k<1000000:=aK au.o k;have ar:C b k<1000000:=aK al.o k;have av:=(HM.o k).1;obtain⟨p,E⟩:=aa (C a k);obtain⟨r,J⟩:=aa (C b k);obtain⟨c,d⟩:=aa ((eT a b k).2);obtain⟨x,hx⟩:=aa ((eT a b (k+1)).1);obtain⟨y,hy⟩:=aa ((eT a b (k+1)).2);rw[hx,E,J,d] at ab;rw[hy,E,J,d] at ac;rw[E] at C1 ao;rw[J] at C2 ar;rw[d] at av s;rw[d];rw[hx] at o;have HY:=A hy;have aq:w.heap.size<=(wr.alloc (.cells #[G F (x:Int)] 3)).heap.size:=YP;have ae:=A (bD g.o ((XI _ _).alloc (XE _) (.cells #[G F (x:Int)] 3)));obtain⟨vs,N⟩:=aa (uL (cJ (eT a b) k));rw[N] at g ae;have P:=A N;have e1:((p:Int)+r+c)%1000000=(x:Int):=D;have e2:((p:Int)+r+c)/1000000=(y:Int):=D;have HK:=A ag;have ay:=A (show∀(v':Z) (w':U),w'.ownsRow w.heap.size 3 1 v' (k+1) (vs++[G F (x:Int)])->(wr.alloc (.cells #[G F (x:Int)] 3)).grownBy w' u5.ownBlock->WX w a b v' (G F (y:Int)) (G F ((k:Int)+1)) w' fromλv' w' V R=>by
    refine⟨k+1,HK.o,YL,by rw[HY.o],?_,fQ (Q.o.alloc Q.o.size _) R (λq hq=>(aH g.o q hq).1)⟩;have e:uL (cJ (eT a b) (k+1))=vs++[G F (x:Int)]:=ZL;rw[e];exact V)
   have aE:k<=1000000:=D;have aC:((max (ln a) (ln b)+1:Nat):Int)-k>=1:=D;clear M L E J d hx hy N ab ac o ag hk;have ga:∃t,YG (k<ln a)=t:=⟨_,H⟩;obtain⟨ta,am⟩:=ga;obtain⟨tb,ax⟩:=aa (YG (k<ln b));have W:ta=O->tb=O->YG (0<c)=Y:=by
    intro h1 h2;subst h1 h2;rw[XL] at am ax;rw[XX];omega
   have an:=A W;clear W s;cases ta
   ·cases tb
    ·have tc:=an.o H H;have aF:YG (0<(c:Int))=Y:=by rw[XX] at tc⊢;omega
     exact a3a
    ·exact a3a
   ·exact a3a
  ·have g1:¬k<ln a:=D;have g2:¬k<ln b:=D;have K:=gY g.o (bL (eT a b) k);have CT:=A (gi wr wr.heap.size u5 (cJ (eT a b) k) K);have HS:=A (show zt (λl=>ln l<=max (ln a) (ln b)+1/\aw l=aw a+aw b) w (YC (OG u5 (cJ (eT a b) k))) wr from⟨_,_,H,K.trimmed,HC.o _,⟨Ye (bC _) (by rw[bL];exact hk),K9 D D D⟩,Q.o,(Gs g.o).tr _⟩);obtain⟨c,d⟩:=aa ((eT a b k).2);rw[d] at s;rw[d];have g3:¬0<(c:Int):=D;clear K M L d s;exact a2w
def xU(w:U)(s:Bool)(v:Z)(l:List Nat)(n:Nat)(a:bT w w.heap.size v l)(b:bB l)(d:ln l<=n):
  XY Xz 330 #[YE #[Yz s,v]] w (qq (-(lG s l)) n w):=by
 obtain⟨f,e,rfl,m,k,h⟩:=id a;have c:=A (λj i=>(a.new j).new i);clear h a;by_cases g:ln l=0
 ·obtain rfl:l=[]:=List.length_eq_zero_iff.1 g;go_enter func330,ntmps330;go_wp2_with fail
  exact bodyPost_ret (v:= YE #[Yz s,V f 0 e]) (by simp[results,results330,go_sem]) H (qq.of (c.o _ _) b d (by cases s<;>rfl) (gI _ _ _))
 ·go_enter func330,ntmps330;go_wp2_with fail
  exact bodyPost_ret (v:= YE #[Yz !s,V f (ln l) e]) (by simp[results,results330,go_sem]) H (qq.of (c.o _ _) b d (by cases s<;>simp[lG]) (gI _ _ _))
def oR(d e a:Nat)(m:Bool)(v1 K:Z)(P:List Nat->Prop):Nat->Z->U->Prop
 |0,v,_=>v=YA (L ⟨d,0,I⟩)
 |1,v,_=>v=Yz m
 |2,v,_=>v=YA (L ⟨e,1,I⟩)
 |3,v,_=>v=v1
 |4,v,_=>v=YA (L ⟨a,1,I⟩)
 |5,v,_=>v=K
 |6,v,w=>∃l,bT w w.heap.size v l/\bB l/\P l
 |7,v,w=>∃f c l,v=YE #[Yz m,V f (List.length l) c]/\bT w w.heap.size (V f (ln l) c) l/\bB l/\P l
 |_,v,w=>∃b,v=YA (L ⟨b,0,I⟩)/\a+1<b/\ai w b 201 [Yz O,V I 0 0]
theorem vO{a g d:Nat}{m:Bool}{P:List Nat->Prop}{v:Z}(h:oR a g d m v1 K P i v w)(hx:Ext w w'):oR a g d m v1 K P i v w':=by
 match i,h with
 |0,h|1,h|2,h|3,h|4,h|5,h=>exact h
 |6,h=>obtain⟨l,h1,h2⟩:=h;exact⟨l,h1.grow hx,h2⟩
 |7,h=>obtain⟨f,c,l,e,h1,h2⟩:=h;exact⟨f,c,l,e,h1.grow hx,h2⟩
 |_+8,h=>obtain⟨b,e,j,h⟩:=h;exact⟨b,e,j,h.ext hx⟩
def Ck (w : U) (m : Bool) (a b : List Nat) (g q : Z) (n : Nat) (G : bT w w.heap.size g a) (C : bT w w.heap.size q b) (aa : bB a) (N : bB b) (ad : ln a <= n) (ae : ln b <= n) (hn : n <= 400000) :
    XY Xz 329 #[YE #[Yz m, g], YE #[Yz m, q]] w (qq (lG m a + lG m b) (n + 1) w) := by
  have HA := A G;have HB := A C;have J := A (B9 w (.cells #[Yz m, g] 201) (.cells #[Yz m, q] 201) (.cells #[Yz O, V I 0 0] 201));have R1 := (ai.new w 201 [Yz m, g]).ext (gI _ (.cells #[Yz m, q] 201) (.cells #[Yz O, V I 0 0] 201));have K := (ai.new (w.alloc (.cells #[Yz m, g] 201)) 201 [Yz m, q]).ext ((XI _ _).alloc (XE _) (.cells #[Yz O, V I 0 0] 201));have y := ai.new ((w.alloc (.cells #[Yz m, g] 201)).alloc (.cells #[Yz m, q] 201)) 201 [Yz O, V I 0 0];rw [Ya] at K;rw [Ya, Ya] at y;obtain ⟨f, u, rfl, _, _, _⟩ := id G;obtain ⟨s, x, rfl, _, _, _⟩ := id C;obtain ⟨r, E⟩ : ∃ r, ((w.alloc (.cells #[Yz m, V f (ln a) u] 201)).alloc (.cells #[Yz m, V s (ln b) x] 201)).alloc (.cells #[Yz O, V I 0 0] 201) = r := ⟨_, H⟩;rw [E] at J R1 K y;have KC := A (λ(W : U) (h : Ext w W) => (Ku W a b (V f (ln a) u) (V s (ln b) x) (HA.o.grow h) (HB.o.grow h) aa.small N.small D D).mono (λe w' ⟨v, l, h1, h2, h3, h4, h5, _⟩ => (⟨v, l, h1, h2, h3, ⟨Ye h4.1 D, h4.2⟩, h5⟩ : ∃ v l, e = Ending.returned v /\ bT w' w'.heap.size v l /\ bB l /\ (ln l <= n + 1 /\ aw l = aw a + aw b) /\ Ext W w')));have tm : (m == m) = Y := YL;have af := A E;clear E G C aa N ad ae;go_enter func329, ntmps329;go_wp2;simp only [af.o];refine wp_region_any R (cH 8 (λc => ⟨#[YE #[Yz m, V f (ln a) u], YE #[Yz m, V s (ln b) x], YA (L ⟨w.heap.size, 0, I⟩), YA (L ⟨w.heap.size + 1, 0, I⟩), YA (L ⟨w.heap.size + 1 + 1, 0, I⟩), M, YA (L ⟨w.heap.size, 0, I⟩), Yz m, YA (L ⟨w.heap.size + 1, 0, I⟩), Yz m, Yz Y, c 0, c 1, c 2, c 3, c 4, c 5, c 6, c 7, M, M, M, M, M, M, M, M, M, M, M, M, M, M, M, M, M, M, M, M, M, M], []⟩)
    (λw' => Ext r w') (oR (w.heap.size) (w.heap.size) (w.heap.size + 1) m (V f (ln a) u) (V s (ln b) x) (λl => ln l <= n + 1 /\ aw l = aw a + aw b)) (λ_ => O) R (λ_ _ h k => h.tr k) (λi v _ _ h k => vO h k) (λ_ _ _ _ h => YM) ?step ?tail (λ_ => M) _ (Ext.dr r))
  case step =>
    intro i c w' hi B d;have j : Ext r w' := B;have cA := λi => (R1.ext j).cell i
    have cB := λi => (K.ext j).cell i
    rcases (show i = 0 \/ i = 1 \/ i = 2 \/ i = 3 \/ i = 4 \/ i = 5 \/ i = 6 \/ i = 7 by omega) with rfl | rfl | rfl | rfl | rfl | rfl | rfl | rfl <;> clear hi
    all_goals refine XR rfl (λaj z => ?_)
    all_goals try (have d0 := d 0 Za; simp only [oR] at d0)
    all_goals try (have d1 := d 1 Za; simp only [oR] at d1)
    all_goals try (have d2 := d 2 Za; simp only [oR] at d2)
    all_goals try (have d3 := d 3 Za; simp only [oR] at d3)
    all_goals try (have d4 := d 4 Za; simp only [oR] at d4)
    all_goals try (have d5 := d 5 Za; simp only [oR] at d5)
    all_goals try (have x6 := d 6 Za; obtain ⟨T, h6, ah, ag⟩ := x6; obtain ⟨X, c6, e6, _, _, _⟩ := id h6; have H6 := A h6)
    all_goals clear d
    all_goals go_simp
    all_goals first
      | exact z _ _ ⟨_, a0d, Ext.ah _, rfl, λh => YM⟩
      | (refine (KC.o _ (J.o.tr j)).mono ?_
         rintro e W4 ⟨v, l4, rfl, t, hc, hl, hX⟩;exact z _ _ ⟨v, a0d, hX, ⟨l4, t, hc, hl⟩, λh => YM⟩)
      | exact z _ _ ⟨YE #[Yz m, V X (ln T) c6], a0d, Ext.ah _, ⟨X, c6, T, rfl, e6 ▸ H6.o, ah, ag⟩, λh => YM⟩
  case tail =>
    intro c w' B P _;have j : Ext r w' := B;obtain ⟨A7, Q, S, e7, t, ac, ab⟩ := P 7 YK;have HS := A t;have o := y.ext j;have c0 := o.cell 0;have c1 := o.cell 1;have f0 := o.frozen 0;have f1 := o.frozen 1;have F := A o;clear P t o;simp only [List.drop_succ_cons, List.drop_zero];go_wp2;have r4 := F.o.rU (Yz m) (V A7 (ln S) Q);have q0 := r4.cell 0;have q1 := r4.cell 1;exact bodyPost_ret (v := YE #[Yz m, V A7 (ln S) Q]) (by simp [results, results329, go_sem, q0, q1]) H (qq.of (mV (mV HS.o F.o (iP _ _ _) _ _) (F.o.nz _) (iP _ _ _) _ _) ac ab.1 (Rc ab.2) (((J.o.tr j).setCell (p := ⟨w.heap.size + 1 + 1, 0, I⟩) Y7 _).setCell (p := ⟨w.heap.size + 1 + 1, 1, I⟩) Y7 _))
def Uq(w W:U)(n:Nat)(z:Int):Prop:=∃(a b:Bool) (x y:List Nat) (f d:Option Ym) (c e:Nat),ai W w.heap.size 201 [Yz a,V f (ln x) c]/\ai W (w.heap.size+1) 201 [Yz b,V d (ln y) e]/\
 ai W (w.heap.size+1+1) 201 [Yz O,V I 0 0]/\Ext w W/\bT w w.heap.size (V f (ln x) c) x/\bT w w.heap.size (V d (ln y) e) y/\lF x/\lF y/\ln x<=n/\aw y<=aw x/\ln y<=ln x/\a≠b/\lG a x+lG b y=z
def CQ (w : U) (t E : Bool) (a b : List Nat) (X Q : Z) (n : Nat) (ha : bT w w.heap.size X a) (hb : bT w w.heap.size Q b) (ao : bB a) (aj : bB b) (av : ln a <= n) (ay : ln b <= n) (hn : n <= 400000) (hm : t ≠ E) :
    XY Xz 329 #[YE #[Yz t, X], YE #[Yz E, Q]] w (qq (lG t a + lG E b) (n + 1) w) := by
  have HA := A ha;have HB := A hb;have S := A (B9 w (.cells #[Yz t, X] 201) (.cells #[Yz E, Q] 201) (.cells #[Yz O, V I 0 0] 201));have R1 := (ai.new w 201 [Yz t, X]).ext (gI _ (.cells #[Yz E, Q] 201) (.cells #[Yz O, V I 0 0] 201));have R2 := (ai.new (w.alloc (.cells #[Yz t, X] 201)) 201 [Yz E, Q]).ext ((XI _ _).alloc (XE _) (.cells #[Yz O, V I 0 0] 201));have K := ai.new ((w.alloc (.cells #[Yz t, X] 201)).alloc (.cells #[Yz E, Q] 201)) 201 [Yz O, V I 0 0];rw [Ya] at R2;rw [Ya, Ya] at K;obtain ⟨f, q, rfl, _, _, _⟩ := id ha;obtain ⟨o, j, rfl, _, _, _⟩ := id hb;obtain ⟨W0, am⟩ : ∃ W0, ((w.alloc (.cells #[Yz t, V f (ln a) q] 201)).alloc (.cells #[Yz E, V o (ln b) j] 201)).alloc (.cells #[Yz O, V I 0 0] 201) = W0 := ⟨_, H⟩;rw [am] at S R1 R2 K;have KS := A (wm W0 a b _ _ (HA.o.grow S.o) (HB.o.grow S.o) ao aj);have tm : (t == E) = O := by rw [XN]; exact hm
  have aD := A am;have ad := A ao;have aa := A aj;have HM := A hm;have Y := A R1;have N := A R2;have an := A K;clear am ha hb ao aj hm R1 R2 K;go_enter func329, ntmps329;go_wp2_with (go_at_call 236; rw [aD.o]; refine KS.o.mono ?_; rintro e X0 ⟨⟨c, rfl, aq, aB⟩, J⟩; have aG := A aq; have aL := A aB; clear aq aB; have z := A J; have a4 := (Y.o.ext J).cell 0; have aO := (Y.o.ext J).cell 1; have a3 := (N.o.ext J).cell 0; have a5 := (N.o.ext J).cell 1; have fA := λi => (Y.o.ext J).frozen i; have fB := λi => (N.o.ext J).frozen i; clear J)
  case' _ =>
    have ae : Uq w (((((X0.setCell ⟨w.heap.size, 0, I⟩ (Yz E)).setCell ⟨w.heap.size, 1, I⟩ (V o (ln b) j)).setCell ⟨w.heap.size + 1, 0, I⟩ (Yz t)).setCell ⟨w.heap.size + 1, 1, I⟩ (V f (ln a) q))) n (lG t a + lG E b) := by
      have aC := aG.o ZH;have x1 := Y.o.ext z.o;have x2 := N.o.ext z.o;have x3 := an.o.ext z.o;exact ⟨E, t, b, a, o, f, j, q, ((x1.rU _ _).eC YL _).eC YL _, ((x2.eC YL _).eC YL _).rU _ _, (((x3.eC Y7 _).eC Y7 _).eC YL _).eC YL _,
        ((((S.o.tr z.o).setCell (p := ⟨w.heap.size, 0, I⟩) YL _).setCell (p := ⟨w.heap.size, 1, I⟩) YL _).setCell (p := ⟨w.heap.size + 1, 0, I⟩) YL _).setCell (p := ⟨w.heap.size + 1, 1, I⟩) YL _, HB.o, HA.o, aa.o.small, ad.o.small, ay, Nat.le_of_lt aC, kY ad.o aa.o.small (Nat.le_of_lt aC), HM.o.symm, Int.add_comm _ _⟩
    generalize (((X0.setCell ⟨w.heap.size, 0, I⟩ (Yz E)).setCell ⟨w.heap.size, 1, I⟩ (V o (ln b) j)).setCell ⟨w.heap.size + 1, 0, I⟩ (Yz t)).setCell ⟨w.heap.size + 1, 1, I⟩ (V f (ln a) q) = W1 at ae ⊢
  rotate_left
  case' _ =>
    have ae : Uq w X0 n (lG t a + lG E b) := have aA := aL.o ZH
      ⟨t, E, a, b, f, o, q, j, Y.o.ext z.o, N.o.ext z.o, an.o.ext z.o, S.o.tr z.o, HA.o, HB.o, ad.o.small, aa.o.small, av, aA.1, aA.2, HM.o, rfl⟩
    generalize X0 = W1 at ae ⊢
  all_goals
    obtain ⟨g, my, x, y, Ax, Ay, cx, cy, R1, R2, K, aF, hx, hy, al, ak, aJ, ap, ar, az, ax⟩ := ae;have HX := A hx;have HY := A hy;have E1 := A aF;have KC := A (λ(W : U) (h : Ext w W) => (oQ W x y (V Ax (ln x) cx) (V Ay (ln y) cy) (HX.o.grow h) (HY.o.grow h) al ak D).mono (λe w' ⟨v, l, h1, h2, h3, h4, h5, _⟩ => (⟨v, l, h1, h2, h3, ⟨by rw [h4]; exact Ye (bC _) (by rw [bL]; omega), by rw [h4]; exact qM al ak ar ap⟩, h5⟩ : ∃ v l, e = Ending.returned v /\ bT w' w'.heap.size v l /\ bB l /\ (ln l <= n + 1 /\ aw l = aw x - aw y) /\ Ext W w')));have aE := A (λ(l : List Nat) (h : aw l = aw x - aw y) => (show lG g l = lG t a + lG E b by rw [<- ax]; exact Rf az ap h));clear hx hy al ak ap ar az ax aF aJ av ay KS HA HB Y N an ad aa aD S
    first
      | refine wp_region_any R (cH 9 (λd => ⟨#[YE #[Yz t, V f (ln a) q], YE #[Yz E, V o (ln b) j], YA (L ⟨w.heap.size, 0, I⟩), YA (L ⟨w.heap.size + 1, 0, I⟩), YA (L ⟨w.heap.size + 1 + 1, 0, I⟩), d 8, YA (L ⟨w.heap.size, 0, I⟩), Yz t, YA (L ⟨w.heap.size + 1, 0, I⟩), Yz E, Yz O, M, M, M, M, M, M, M, M, YA (L ⟨w.heap.size, 1, I⟩), V f (ln a) q, YA (L ⟨w.heap.size + 1, 1, I⟩), V o (ln b) j, G F c, Yz (YG (c < 0)), M, M, d 0, d 1, d 2, d 3, d 4, d 5, d 6, d 7, M, M, M, M, M, M], []⟩)
          (λw' => Ext W1 w') (oR (w.heap.size) (w.heap.size) (w.heap.size + 1) g (V Ax (ln x) cx) (V Ay (ln y) cy) (λl => ln l <= n + 1 /\ aw l = aw x - aw y)) (λi => i == 8) R (λ_ _ h k => h.tr k) (λi v _ _ h k => vO h k) ?fr ?step ?tail (λ_ => M) _ (Ext.dr W1))
      | refine wp_region_any R (cH 9 (λd => ⟨#[YE #[Yz t, V f (ln a) q], YE #[Yz E, V o (ln b) j], YA (L ⟨w.heap.size, 0, I⟩), YA (L ⟨w.heap.size + 1, 0, I⟩), YA (L ⟨w.heap.size + 1 + 1, 0, I⟩), d 8, YA (L ⟨w.heap.size, 0, I⟩), Yz t, YA (L ⟨w.heap.size + 1, 0, I⟩), Yz E, Yz O, M, M, M, M, M, M, M, M, YA (L ⟨w.heap.size, 1, I⟩), V f (ln a) q, YA (L ⟨w.heap.size + 1, 1, I⟩), V o (ln b) j, G F c, Yz (YG (c < 0)), YE #[Yz E, V o (ln b) j], YE #[Yz t, V f (ln a) q], d 0, d 1, d 2, d 3, d 4, d 5, d 6, d 7, M, M, M, M, M, M], []⟩)
          (λw' => Ext W1 w') (oR (w.heap.size) (w.heap.size) (w.heap.size + 1) g (V Ax (ln x) cx) (V Ay (ln y) cy) (λl => ln l <= n + 1 /\ aw l = aw x - aw y)) (λi => i == 8) R (λ_ _ h k => h.tr k) (λi v _ _ h k => vO h k) ?fr ?step ?tail (λ_ => M) _ (Ext.dr W1))
    case fr =>
      intro i v w' _ hf hv;obtain rfl : i = 8 := by simpa using hf
      obtain ⟨b, e, _, h⟩ := hv;exact ⟨b, e, h.lt⟩
    case step =>
      intro i d w' hi hD B;have u : Ext W1 w' := hD;have cA := λi => (R1.ext u).cell i
      have cB := λi => (R2.ext u).cell i
      have h3 := (K.ext u).lt;rcases (show i = 0 \/ i = 1 \/ i = 2 \/ i = 3 \/ i = 4 \/ i = 5 \/ i = 6 \/ i = 7 \/ i = 8 by omega) with rfl | rfl | rfl | rfl | rfl | rfl | rfl | rfl | rfl <;> clear hi
      all_goals refine XR rfl (λaR hK => ?_)
      all_goals try (have d0 := B 0 Za; simp only [oR] at d0)
      all_goals try (have d1 := B 1 Za; simp only [oR] at d1)
      all_goals try (have d2 := B 2 Za; simp only [oR] at d2)
      all_goals try (have d3 := B 3 Za; simp only [oR] at d3)
      all_goals try (have d4 := B 4 Za; simp only [oR] at d4)
      all_goals try (have d5 := B 5 Za; simp only [oR] at d5)
      all_goals try (have x6 := B 6 Za; obtain ⟨l6, h6, aH, aK⟩ := x6; obtain ⟨A6, c6, e6, _, _, _⟩ := id h6; have H6 := A h6)
      all_goals clear B
      all_goals go_simp
      all_goals first
        | exact hK _ _ ⟨_, a0d, Ext.ah _, rfl, λh => YM⟩
        | (refine (KC.o _ (E1.o.tr u)).mono ?_
           rintro e W4 ⟨v, l4, rfl, hs, hc, hl, hX⟩;exact hK _ _ ⟨v, a0d, hX, ⟨l4, hs, hc, hl⟩, λh => YM⟩)
        | exact hK _ _ ⟨YE #[Yz g, V A6 (ln l6) c6], a0d, Ext.ah _, ⟨A6, c6, l6, rfl, e6 ▸ H6.o, aH, aK⟩, λh => YM⟩
        | exact hK _ _ ⟨YA (L ⟨w'.heap.size, 0, I⟩), a0d, (XI _ _).alloc (XE _) _, ⟨_, rfl, D, ai.new _ _ _⟩, λ_ => ⟨_, rfl, XE _⟩⟩
    case tail =>
      intro d w' hD hv _;have u : Ext W1 w' := hD;obtain ⟨r, m, C, e7, hs, au, ac⟩ := hv 7 YK;obtain ⟨s, e8, aM, r8⟩ := hv 8 YK;have HS := A hs;have r3 := K.ext u;have f8 := λi => r8.frozen i
      have a1 := r8.cell 0;have aT := r8.cell 1;have aX := r3.cell 0;have aZ := r3.cell 1;have f3 := λi => r3.frozen i
      have T := r8.rU (Yz g) (V r (ln C) m);have ab := T.nz (Yz O);have aN := T.cell 0;have aU := T.cell 1;have a2 := ab.cell 0;have aW := ab.cell 1;have f9 := λi => T.frozen i
      have aV := λi => ab.frozen i
      have aQ : ¬ w.heap.size + 1 + 1 = s := D;have P := (r3.eC (p := ⟨s, 0, I⟩) Y7 (Yz g)).eC (p := ⟨s, 1, I⟩) Y7 (V r (ln C) m);have k4 := P.eC (p := ⟨s, 0, I⟩) Y7 (Yz O);have g3 := λi => P.frozen i
      have aS := P.cell 0;have aY := P.cell 1;have a0 := k4.cell 0;have aP := k4.cell 1;have g4 := λi => k4.frozen i
      clear hv hs;simp only [List.drop_succ_cons, List.drop_zero];have HW := A u;have af := A r8;have aI := A T;have ah := A P;have ag := A k4;clear r8 T ab P k4 r3 u;by_cases hz : ln C = 0
      · obtain rfl : C = [] := List.length_eq_zero_iff.1 hz
        go_wp2;have s3 := mV (mV (mV HS.o af.o (iP _ _ _) 0 (Yz g)) (af.o.nz _) (iP _ _ _) 1 (V r 0 m)) aI.o (iP _ _ _) 0 (Yz O);have j4 := ag.o.rU (Yz O) (V r 0 m);have q0 := j4.cell 0;have q1 := j4.cell 1;refine bodyPost_ret (v := YE #[Yz O, V r 0 m]) (by simp at q0 q1; simp [results, results329, go_sem, q0, q1]) H (qq.of (mV (mV s3 ag.o (iP _ _ _) 0 (Yz O)) (ag.o.nz _) (iP _ _ _) 1 (V r 0 m)) au ac.1 (by rw [<- aE.o _ ac.2]; cases g <;> rfl) ?_);exact (((((E1.o.tr HW.o).setCell (p := ⟨s, 0, I⟩) Y7 _).setCell (p := ⟨s, 1, I⟩) Y7 _).setCell (p := ⟨s, 0, I⟩) Y7 _).setCell (p := ⟨w.heap.size + 1 + 1, 0, I⟩) Y7 _).setCell (p := ⟨w.heap.size + 1 + 1, 1, I⟩) Y7 _
      · go_wp2
        have s2 := mV (mV HS.o af.o (iP _ _ _) 0 (Yz g)) (af.o.nz _) (iP _ _ _) 1 (V r (ln C) m);have j3 := ah.o.rU (Yz g) (V r (ln C) m);have q0 := j3.cell 0;have q1 := j3.cell 1;refine bodyPost_ret (v := YE #[Yz g, V r (ln C) m]) (by simp [results, results329, go_sem, q0, q1]) H (qq.of (mV (mV s2 ah.o (iP _ _ _) 0 (Yz g)) (ah.o.nz _) (iP _ _ _) 1 (V r (ln C) m)) au ac.1 (aE.o _ ac.2) ?_);exact ((((E1.o.tr HW.o).setCell (p := ⟨s, 0, I⟩) Y7 _).setCell (p := ⟨s, 1, I⟩) Y7 _).setCell (p := ⟨w.heap.size + 1 + 1, 0, I⟩) Y7 _).setCell (p := ⟨w.heap.size + 1 + 1, 1, I⟩) Y7 _
def NU(w:U)(t E:Bool)(a b:List Nat)(c d:Z)(n:Nat)(f:bT w w.heap.size c a)(k:bT w w.heap.size d b)(g:bB a)(h:bB b)(e:ln a<=n)(j:ln b<=n)(l:n<=400000):
  XY Xz 329 #[YE #[Yz t,c],YE #[Yz E,d]] w (qq (lG t a+lG E b) (n+1) w):=by
 by_cases i:t=E
 ·subst i;exact Ck w t a b c d n f k g h e j l
 ·exact CQ w t E a b c d n f k g h e j l i
def uh(p q:Nat)(t E r:Bool)(v1 K:Z)(P:List Nat->Prop):Nat->Z->U->Prop
 |0,v,_=>v=YA (L ⟨p,0,I⟩)
 |1,v,_=>v=Yz t
 |2,v,_=>v=YA (L ⟨q,0,I⟩)
 |3,v,_=>v=Yz E
 |4,v,_=>v=Yz r
 |5,v,_=>v=YA (L ⟨p,1,I⟩)
 |6,v,_=>v=v1
 |7,v,_=>v=YA (L ⟨q,1,I⟩)
 |8,v,_=>v=K
 |9,v,w=>∃l,bT w w.heap.size v l/\bB l/\P l
 |10,v,w=>∃f c l,v=YE #[Yz r,V f (List.length l) c]/\bT w w.heap.size (V f (ln l) c) l/\bB l/\P l
 |_,v,w=>∃b,v=YA (L ⟨b,0,I⟩)/\q+1<b/\ai w b 201 [Yz O,V I 0 0]
theorem Mv{p q:Nat}{P:List Nat->Prop}{v:Z}(h:uh p q t E r v1 K P i v w)(hx:Ext w w'):uh p q t E r v1 K P i v w':=by
 match i,h with
 |0,h|1,h|2,h|3,h|4,h|5,h|6,h|7,h|8,h=>exact h
 |9,h=>obtain⟨l,h1,h2⟩:=h;exact⟨l,h1.grow hx,h2⟩
 |10,h=>obtain⟨f,c,l,e,h1,h2⟩:=h;exact⟨f,c,l,e,h1.grow hx,h2⟩
 |_+11,h=>obtain⟨b,e,a,h⟩:=h;exact⟨b,e,a,h.ext hx⟩
def Oo (w : U) (t E : Bool) (a b : List Nat) (s x : Z) (n : Nat) (ha : bT w w.heap.size s a) (hb : bT w w.heap.size x b) (aj : bB a) (af : bB b) (ak : ln a <= n) (an : ln b <= n) (hn : n <= 400000) :
    XY Xz 342 #[YE #[Yz t, s], YE #[Yz E, x]] w (qq (lG t a * lG E b) (2 * n + 1) w) := by
  have HA := A ha;have HB := A hb;have E3 := A (B9 w (.cells #[Yz t, s] 201) (.cells #[Yz E, x] 201) (.cells #[Yz O, V I 0 0] 201));have R1 := (ai.new w 201 [Yz t, s]).ext (gI _ (.cells #[Yz E, x] 201) (.cells #[Yz O, V I 0 0] 201));have R2 := (ai.new (w.alloc (.cells #[Yz t, s] 201)) 201 [Yz E, x]).ext ((XI _ _).alloc (XE _) (.cells #[Yz O, V I 0 0] 201));have J := ai.new ((w.alloc (.cells #[Yz t, s] 201)).alloc (.cells #[Yz E, x] 201)) 201 [Yz O, V I 0 0];rw [Ya] at R2;rw [Ya, Ya] at J;obtain ⟨f, S, rfl, _, _, _⟩ := id ha;obtain ⟨N, T, rfl, _, _, _⟩ := id hb;obtain ⟨y, ae⟩ : ∃ y, ((w.alloc (.cells #[Yz t, V f (ln a) S] 201)).alloc (.cells #[Yz E, V N (ln b) T] 201)).alloc (.cells #[Yz O, V I 0 0] 201) = y := ⟨_, H⟩;rw [ae] at E3 R1 R2 J;have KC := A (λ(W : U) (h : Ext w W) => (tI W a b (V f (ln a) S) (V N (ln b) T) (HA.o.grow h) (HB.o.grow h) aj.small af.small.Xr D D).mono (λe w' ⟨v, l, h1, h2, h3, ⟨am, h4⟩, h5, _⟩ => (⟨v, l, h1, h2, h3, ⟨Ye h4 D, am⟩, h5⟩ : ∃ v l, e = Ending.returned v /\ bT w' w'.heap.size v l /\ bB l /\ (ln l <= 2 * n + 1 /\ aw l = aw a * aw b) /\ Ext W w')));obtain ⟨r, al⟩ : ∃ r, (t == E) = !r := ⟨!(t == E), YL⟩;have ah := A (λ(l : List Nat) (h : aw l = aw a * aw b) => Rh (l := l) al h);have ao := A ae;clear ae ha hb aj af ak an;go_enter func342, ntmps342;go_wp2;simp only [ao.o];refine wp_region_any R (cH 12 (λc => ⟨#[YE #[Yz t, V f (ln a) S], YE #[Yz E, V N (ln b) T], YA (L ⟨w.heap.size, 0, I⟩), YA (L ⟨w.heap.size + 1, 0, I⟩), YA (L ⟨w.heap.size + 1 + 1, 0, I⟩), c 11, c 0, c 1, c 2, c 3, c 4, c 5, c 6, c 7, c 8, c 9, c 10, M, M, M, M, M, M], []⟩)
    (λw' => Ext y w') (uh (w.heap.size) (w.heap.size + 1) t E r (V f (ln a) S) (V N (ln b) T) (λl => ln l <= 2 * n + 1 /\ aw l = aw a * aw b)) (λi => i == 11) R (λ_ _ h k => h.tr k) (λi v _ _ h k => Mv h k) ?fr ?step ?tail (λ_ => M) _ (Ext.dr y))
  case fr =>
    intro i v w' _ hf C;obtain rfl : i = 11 := by simpa using hf
    obtain ⟨b, e, _, h⟩ := C;exact ⟨b, e, h.lt⟩
  case step =>
    intro i c w' hi hD d;have o : Ext y w' := hD;have cA := λi => (R1.ext o).cell i
    have cB := λi => (R2.ext o).cell i
    have h3 := (J.ext o).lt;rcases (show i = 0 \/ i = 1 \/ i = 2 \/ i = 3 \/ i = 4 \/ i = 5 \/ i = 6 \/ i = 7 \/ i = 8 \/ i = 9 \/ i = 10 \/ i = 11 by omega) with rfl | rfl | rfl | rfl | rfl | rfl | rfl | rfl | rfl | rfl | rfl | rfl <;> clear hi
    all_goals refine XR rfl (λaE P => ?_)
    all_goals try (have d0 := d 0 Za; simp only [uh] at d0)
    all_goals try (have d1 := d 1 Za; simp only [uh] at d1)
    all_goals try (have d2 := d 2 Za; simp only [uh] at d2)
    all_goals try (have d3 := d 3 Za; simp only [uh] at d3)
    all_goals try (have d4 := d 4 Za; simp only [uh] at d4)
    all_goals try (have d5 := d 5 Za; simp only [uh] at d5)
    all_goals try (have d6 := d 6 Za; simp only [uh] at d6)
    all_goals try (have d7 := d 7 Za; simp only [uh] at d7)
    all_goals try (have d8 := d 8 Za; simp only [uh] at d8)
    all_goals try (have x6 := d 9 Za; obtain ⟨l6, h6, aq, ap⟩ := x6; obtain ⟨A6, c6, e6, _, _, _⟩ := id h6; have H6 := A h6)
    all_goals clear d
    all_goals go_simp
    all_goals first
      | exact P _ _ ⟨_, a0d, Ext.ah _, rfl, λh => YM⟩
      | (refine (KC.o _ (E3.o.tr o)).mono ?_
         rintro e W4 ⟨v, l4, rfl, Q, hc, hl, hX⟩;exact P _ _ ⟨v, a0d, hX, ⟨l4, Q, hc, hl⟩, λh => YM⟩)
      | exact P _ _ ⟨YE #[Yz r, V A6 (ln l6) c6], a0d, Ext.ah _, ⟨A6, c6, l6, rfl, e6 ▸ H6.o, aq, ap⟩, λh => YM⟩
      | exact P _ _ ⟨YA (L ⟨w'.heap.size, 0, I⟩), a0d, (XI _ _).alloc (XE _) _, ⟨_, rfl, D, ai.new _ _ _⟩, λ_ => ⟨_, rfl, XE _⟩⟩
  case tail =>
    intro c w' hD C _;have o : Ext y w' := hD;obtain ⟨j, g, q, e7, Q, ag, ab⟩ := C 10 YK;obtain ⟨m, e8, av, z⟩ := C 11 YK;have HS := A Q;have F := J.ext o;have f8 := λi => z.frozen i
    have aC := z.cell 0;have aH := z.cell 1;have au := F.cell 0;have az := F.cell 1;have f3 := λi => F.frozen i
    have B := z.rU (Yz r) (V j (ln q) g);have Y := B.nz (Yz O);have ay := B.cell 0;have aI := B.cell 1;have aF := Y.cell 0;have aK := Y.cell 1;have f9 := λi => B.frozen i
    have aJ := λi => Y.frozen i
    have aD : ¬ w.heap.size + 1 + 1 = m := D;have u := (F.eC (p := ⟨m, 0, I⟩) Y7 (Yz r)).eC (p := ⟨m, 1, I⟩) Y7 (V j (ln q) g);have G := u.eC (p := ⟨m, 0, I⟩) Y7 (Yz O);have g3 := λi => u.frozen i
    have aG := u.cell 0;have ax := u.cell 1;have aA := G.cell 0;have aB := G.cell 1;have g4 := λi => G.frozen i
    clear C Q;simp only [List.drop_succ_cons, List.drop_zero];have HW := A o;have aa := A z;have ar := A B;have ad := A u;have ac := A G;clear z B Y u G F o;by_cases hz : ln q = 0
    · obtain rfl : q = [] := List.length_eq_zero_iff.1 hz
      go_wp2;have s3 := mV (mV (mV HS.o aa.o (iP _ _ _) 0 (Yz r)) (aa.o.nz _) (iP _ _ _) 1 (V j 0 g)) ar.o (iP _ _ _) 0 (Yz O);have j4 := ac.o.rU (Yz O) (V j 0 g);have X := j4.cell 0;have K := j4.cell 1;refine bodyPost_ret (v := YE #[Yz O, V j 0 g]) (by simp at X K; simp [results, results342, go_sem, X, K]) H (qq.of (mV (mV s3 ac.o (iP _ _ _) 0 (Yz O)) (ac.o.nz _) (iP _ _ _) 1 (V j 0 g)) ag ab.1 (by rw [<- ah.o _ ab.2]; cases r <;> rfl) ?_);exact (((((E3.o.tr HW.o).setCell (p := ⟨m, 0, I⟩) Y7 _).setCell (p := ⟨m, 1, I⟩) Y7 _).setCell (p := ⟨m, 0, I⟩) Y7 _).setCell (p := ⟨w.heap.size + 1 + 1, 0, I⟩) Y7 _).setCell (p := ⟨w.heap.size + 1 + 1, 1, I⟩) Y7 _
    · go_wp2
      have s2 := mV (mV HS.o aa.o (iP _ _ _) 0 (Yz r)) (aa.o.nz _) (iP _ _ _) 1 (V j (ln q) g);have j3 := ad.o.rU (Yz r) (V j (ln q) g);have X := j3.cell 0;have K := j3.cell 1;refine bodyPost_ret (v := YE #[Yz r, V j (ln q) g]) (by simp [results, results342, go_sem, X, K]) H (qq.of (mV (mV s2 ad.o (iP _ _ _) 0 (Yz r)) (ad.o.nz _) (iP _ _ _) 1 (V j (ln q) g)) ag ab.1 (ah.o _ ab.2) ?_);exact ((((E3.o.tr HW.o).setCell (p := ⟨m, 0, I⟩) Y7 _).setCell (p := ⟨m, 1, I⟩) Y7 _).setCell (p := ⟨w.heap.size + 1 + 1, 0, I⟩) Y7 _).setCell (p := ⟨w.heap.size + 1 + 1, 1, I⟩) Y7 _
end
end Go.Proofs.YtnepbjnlmkppmaaGreatDoor

