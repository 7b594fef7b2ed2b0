/- ChangeReplays of kingpostlaw58: part 3 of its proof (merged and shortened by program). -/
import Derived.Deep.RegionHeld3
import Derived.Deep.DeepMust
import Derived.Laws.AppendOwnNone
import Derived.Lib.MinMax
import Derived.Laws.BytesArg
import Derived.Test.YtmliacdegmklaaaGreatDoorM01
set_option linter.unusedVariables false
set_option linter.unusedSimpArgs false
set_option linter.defProp false
set_option maxHeartbeats 8000000
set_option maxRecDepth 100000
open Go.RowKit Go.Shelf Go.Proofs.Tryz
open Array renaming getElem?_eq_some_iff→Vz
open Bool renaming false→Vp,true→Vv,and_eq_true_iff→Vw
open Go renaming World→Vl,Value→Vr,undef→Vs,wpOp_step→Vx,Calls→VC,maxLen→VJ,TypeId→VK,Addr→VM,Rows→VP
open Go.AllReady renaming cons→VH,nil→VO
open Go.Ending renaming returned→VV
open Go.IntKind renaming i64→VA
open Go.IntWalk renaming i64_in→VI
open Go.Lib renaming hid→Vk
open Go.RowKit renaming intOf→VG,Below→VL
open Go.Value renaming slice→VQ,string→VR,bool→VS,pointer→VT,int→VU,agg→VW,tuple→VX
open Go.World renaming alloc_heap_new→Vy,size_alloc→VF
open List renaming getD_eq_getElem?_getD→Vn,getElem?_eq_getElem→Vt,length_map→Vu,length_append→VD
open Nat renaming le_refl→Vm,le_trans→VB,mul_comm→VE
open Option renaming none→Vo,some→Vq
open Option.some renaming inj→VN
open Go.Proofs.YtmliacdegmklaaaGreatDoor
namespace Kp
def aV(f:Nat->Int):Nat->Int
 |0=>0
 |n+1=>if aV f n=0 then f n else aV f n
def bh{f:Nat->Int}{n:Nat}(h:∀i,i<n->f i=0):aV f n=0:=by
 induction n with
 |zero=>rfl
 |succ n ih=>rw[aV,if_pos (ih λi hi=>h i VY)];exact h n VY
def bQ{f:Nat->Int}{n k:Nat}(hk:k<n)(h:∀i,i<k->f i=0)(hne:f k≠0):aV f n=f k:=by
 induction n with
 |zero=>omega
 |succ n ih=>
  rw[aV];by_cases hkn:k=n
  ·subst hkn;rw[if_pos (bh h)]
  ·rw[ih VY,if_neg hne]
def rC{f:Nat->Int}{n:Nat}(h:aV f n=0):∀i,i<n->f i=0:=by
 induction n with
 |zero=>intro i hi;omega
 |succ n ih=>
  rw[aV] at h;by_cases h0:aV f n=0
  ·rw[if_pos h0] at h;intro i hi;by_cases hin:i=n
   ·subst hin;exact h
   ·exact ih h0 i VY
  ·rw[if_neg h0] at h;exact absurd h h0
def cC(p:Nat->Bool):Nat->Bool
 |0=>Vp
 |n+1=>cC p n||p n
def bt{p:Nat->Bool}{n:Nat}(h:∀i,i<n->p i=Vp):cC p n=Vp:=by
 induction n with
 |zero=>rfl
 |succ n ih=>rw[cC,ih λi hi=>h i VY,h n VY];rfl
def dH{p:Nat->Bool}{n k:Nat}(hk:k<n)(h:p k=Vv):cC p n=Vv:=by
 induction n with
 |zero=>omega
 |succ n ih=>
  rw[cC];by_cases hkn:k=n
  ·subst hkn;rw[h,Bool.or_true]
  ·rw[ih VY,Bool.true_or]
def pP{p:Nat->Bool}{n:Nat}(h:cC p n=Vp):∀i,i<n->p i=Vp:=λi hi=>by
 cases hp:p i with
 |false=>rfl
 |true=>rw[dH hi hp] at h;cases h
def N8{p:Nat->Bool}{n:Nat}:cC p n=Vv↔∃i,i<n/\p i=Vv:=by
 constructor
 ·intro h;by_cases hx:∃i,i<n/\p i=Vv
  ·exact hx
  ·rw[bt λi hi=>by cases hp:p i with|false=>rfl|true=>exact absurd ⟨i,hi,hp⟩ hx] at h;cases h
 ·rintro⟨i,hi,hp⟩;exact dH hi hp
def tI{p q:Nat->Bool}{n:Nat}(h:∀i,i<n->p i=q i):cC p n=cC q n:=by
 induction n with
 |zero=>rfl
 |succ n ih=>rw[cC,cC,ih λi hi=>h i VY,h n VY]
def qZ(f:Nat->Int):Nat->Int
 |0=>0
 |n+1=>qZ f n+f n
def Ex{f:Nat->Int}{n:Nat}{m:Int}(h:∀i,i<n-> -m<=f i/\f i<=m): -(n*m)<=qZ f n/\qZ f n<=n*m:=by
 induction n with
 |zero=>simp[qZ]
 |succ n ih=>
  have h1:=ih λi hi=>h i VY
  have h2:=h n VY;have e:((n+1:Nat):Int)*m=n*m+m:=by rw[Int.natCast_add,Int.add_mul];simp
  rw[qZ,e];omega
def np(p:Nat->Bool):Nat->Bool
 |0=>Vp
 |n+1=>if p n then !np p n else np p n
def E8{p q:Nat->Bool}{n:Nat}(h:∀i,i<n->p i=q i):np p n=np q n:=by
 induction n with
 |zero=>rfl
 |succ n ih=>rw[np,np,ih λi hi=>h i VY,h n VY]
structure Sd where
 x:Int
 y:Int
 rise:Int
 run:Int
 gable:Bool
 plate:Int
 over:Int
deriving DecidableEq
def Rb:Sd:=⟨0,0,0,0,Vp,0,0⟩
def aO(n a b:Int):Bool:=decide (a<=n)&&decide (n<=b)
def aJ(s:Sd):Bool:=
 (if s.gable then s.rise==0&&s.run==0 else aO s.rise 1 48&&aO s.run 1 48)&&aO s.x 0 65536&&aO s.y 0 65536&&aO s.plate 0 65536&&aO s.over 0 65536
def aq(r:List Sd)(i:Nat):Sd:=r.getD i Rb
def er(r:List Sd)(i:Nat):Sd:=r.getD ((i+r.length-1)%r.length) Rb
def aP(r:List Sd)(i:Nat):Sd:=r.getD ((i+1)%r.length) Rb
def mS(r:List Sd)(i:Nat):Int:=(aP r i).x-(aq r i).x
def pR(r:List Sd)(i:Nat):Int:=(aP r i).y-(aq r i).y
def uU(r:List Sd)(i:Nat):Int:=(aq r i).x-(er r i).x
def AP(r:List Sd)(i:Nat):Int:=(aq r i).y-(er r i).y
def nI(r:List Sd)(i:Nat):Bool:=((mS r i==0)==(pR r i==0))||((uU r i==0)==(mS r i==0))
def cI(r:List Sd):Bool:=decide (4<=r.length)&& !cC (nI r) r.length
def Gh(r:List Sd)(i:Nat):Bool:=decide (0<uU r i*pR r i-AP r i*mS r i)
structure o7 where
 lx:Int
 ly:Int
 hx:Int
 hy:Int
def lA(r:List Sd)(i:Nat):o7:=
 ⟨min (aq r i).x (aP r i).x,min (aq r i).y (aP r i).y,max (aq r i).x (aP r i).x,max (aq r i).y (aP r i).y⟩
def ee(a b:o7):Bool:=decide (a.lx<=b.hx)&&decide (b.lx<=a.hx)&&decide (a.ly<=b.hy)&&decide (b.ly<=a.hy)
def iE(r:Nat)(ring:List Sd)(n:Nat):List (Nat×Nat×o7):=(List.range n).map λi=>(r,i,lA ring i)
def kB(rs:List (List Sd)):Nat->List (Nat×Nat×o7)
 |0=>[]
 |n+1=>kB rs n++iE n (rs.getD n []) (rs.getD n []).length
def sI:Nat×Nat×o7:=(0,0,⟨0,0,0,0⟩)
def uh(rs:List (List Sd))(a b:Nat×Nat×o7):Bool:=
 !(a.1==b.1&&((a.2.1:Int)-b.2.1==1||(a.2.1:Int)-b.2.1==((rs.getD a.1 []).length:Int)-1))&&ee a.2.2 b.2.2
def ey(rs:List (List Sd)):Bool:=
 cC (λi=>cC (λk=>uh rs ((kB rs rs.length).getD i sI) ((kB rs rs.length).getD k sI)) i) (kB rs rs.length).length
def qp(r:List Sd):Int:=qZ (λi=>(aq r i).x*(aP r i).y-(aq r i).y*(aP r i).x) r.length
def lh(r:List Sd)(x y:Int)(i:Nat):Bool:=mS r i==0&&decide (x<(aq r i).x)&&(decide (y<(aq r i).y) !=decide (y<(aP r i).y))
def j1(r:List Sd)(x y:Int):Bool:=np (lh r x y) r.length
def IU(rs:List (List Sd))(i:Nat):Bool:=
 (decide (0<qp (rs.getD i [])) !=(i==0))||cC (λk=> !(k==i||i==0)&&(j1 (rs.getD k []) (aq (rs.getD i []) 0).x (aq (rs.getD i []) 0).y !=(k==0))) rs.length
def eI(rs:List (List Sd)):Bool:= !cC (IU rs) rs.length
def sG(r:List Sd)(i:Nat):Bool:= !Gh r i&&((aq r i).gable||(er r i).gable||(aq r i).plate !=(er r i).plate)
def fU(rs:List (List Sd)):Bool:=
 !cC (λk=>cC (sG (rs.getD k [])) (rs.getD k []).length) rs.length&&cC (λk=>cC (λi=> !(aq (rs.getD k []) i).gable) (rs.getD k []).length) rs.length
def dw(rs:List (List Sd)):Int:=
 if rs.any (·.isEmpty)||rs.isEmpty then 5
 else if 24<rs.flatten.length then 4
 else if rs.flatten.any λs=> !aJ s then 2
 else if rs.any λr=> !cI r then 14
 else if ey rs then 15
 else if !eI rs|| !fU rs then 14
 else 0
def iT(l:List Int):Int:=
 if 16<l.length then 4
 else aV (λi=>if !aO (l.getD i 0) 0 1048576 then 2 else if 0<i/\l.getD i 0<=l.getD (i-1) 0 then 10 else 0) l.length
structure Sz where
 kind:Int
 width:Int
 depth:Int
deriving DecidableEq
def iF:Sz:=⟨0,0,0⟩
def jT(l:List Sz)(i:Nat):Int:=
 let s:=l.getD i iF
 if s.kind<1\/13<=s.kind then 8 else if min s.width s.depth<1\/1000<max s.width s.depth then 2
 else if cC (λk=>(l.getD k iF).kind==s.kind) i then 7 else 0
def fy(l:List Sz):Int:=aV (jT l) l.length
structure Tl where
 width:Int
 length:Int
 lap:Int
 tail:Int
deriving DecidableEq
def dL(t:Tl):Int:=if aO t.width 1 2000&&aO t.length 1 2000&&aO t.lap 0 (t.length-1)&&aO t.tail 0 1000 then 0 else 2
structure Br where
 width:Int
 depth:Int
 length:Int
 count:Int
 cost:Int
 gaps:List (Int×Int)
deriving DecidableEq
def oe:Br:=⟨0,0,0,0,0,[]⟩
def tU(b:Br)(i:Nat):Int:=
 let g:=b.gaps.getD i (0,0)
 if g.1<0\/b.length<g.2\/g.2<=g.1 then 2 else if 0<i/\g.1<=(b.gaps.getD (i-1) (0,0)).2 then 10 else 0
def qw(b:Br):Int:=
 if !(aO b.width 1 1000&&aO b.depth 1 1000&&aO b.length 1 65536&&aO b.count 0 4096&&aO b.cost 0 1073741824) then 2
 else if 16<b.gaps.length then 4
 else aV (tU b) b.gaps.length
def iC(l:List Br):Int:=if 64<l.length then 4 else aV (λi=>qw (l.getD i oe)) l.length
structure Aw where
 width:Int
 depth:Int
 spacing:Int
 load:Int
 span:Int
deriving DecidableEq
def nJ:Aw:=⟨0,0,0,0,0⟩
def En(a b c d:Int):Int:=if a≠0 then a else if b≠0 then b else if c≠0 then c else d
def p9(a b:Aw):Int:=En (a.width-b.width) (a.depth-b.depth) (a.spacing-b.spacing) (a.load-b.load)
def jV(x:Aw):Bool:=aO x.width 1 1000&&aO x.depth 1 1000&&aO x.spacing 1 65536&&aO x.load 0 1048576&&aO x.span 1 65536
def jS(l:List Aw)(i:Nat):Int:=if !jV (l.getD i nJ) then 2 else if 0<i/\0<=p9 (l.getD (i-1) nJ) (l.getD i nJ) then 10 else 0
def gA(l:List Aw):Int:=if 4096<l.length then 4 else aV (jS l) l.length
structure Ld where
 kind:Int
 side:Int
 weight:List UInt8
deriving DecidableEq
def po:Ld:=⟨0,0,[]⟩
structure kR where
 side:Int
 left:List UInt8
 right:List UInt8
 low:List UInt8
 high:List UInt8
deriving DecidableEq
def ef:kR:=⟨0,[],[],[],[]⟩
end Kp
namespace Go.Proofs.YtmliacdegmklaaaGreatDoor
section
open Kp
abbrev nt(s:Sd):List Vr:=[VU VA s.x,VU VA s.y,VU VA s.rise,VU VA s.run,VS s.gable,VU VA s.plate,VU VA s.over]
abbrev lI(x y:Int):List Vr:=[VU VA x,VU VA y]
abbrev jx(a b c:Sd):List Vr:=[VU VA a.x,VU VA a.y,VU VA a.rise,VU VA a.run,VS a.gable,VU VA a.plate,VU VA a.over,VU VA b.x,VU VA b.y,VU VA b.rise,VU VA b.run,VS b.gable,VU VA b.plate,VU VA b.over,VU VA c.x,VU VA c.y,VU VA c.rise,VU VA c.run,VS c.gable,VU VA c.plate,VU VA c.over]
abbrev wG(r:o7):List Vr:=[VU VA r.lx,VU VA r.ly,VU VA r.hx,VU VA r.hy]
abbrev co(n:Int):Prop:=0<=n/\n<=65536
def eH(w:Vl)(x y:Obj):Ext w ((w.alloc x).alloc y):=((Below.refl _ _).alloc (Vm _) _).alloc V5 _
def BD(w:Vl)(x y z:Obj):Ext w (((w.alloc x).alloc y).alloc z):=(eH w x y).alloc Wa _
def AQ{a b m n:Int}(ha: -m<=a/\a<=m)(hb: -n<=b/\b<=n): -(m*n)<=a*b/\a*b<=m*n:=by
 have hm:0<=m:=VY;have hn:0<=n:=VY;have h1:(a*b).natAbs<=m.natAbs*n.natAbs:=by
  rw[Int.natAbs_mul];exact Nat.mul_le_mul VY VY
 have h2:m*n=((m.natAbs*n.natAbs:Nat):Int):=by
  rw[Int.natCast_mul,Int.natAbs_of_nonneg hm,Int.natAbs_of_nonneg hn]
 rw[h2];omega
def bH(s:Sd)(w:Vl):VC prog 193 #[VW (nt s).toArray] w λe w'=>e=VV (VW (lI s.x s.y).toArray)/\Ext w w':=by
 go_enter func193,ntmps193;go_wp2;refine bodyPost_ret (v:= VW (lI s.x s.y).toArray) ?_ rfl ⟨rfl,eH _ _ _⟩;simp[results,results193,go_sem]
def vP(a b c d:Int)(w:Vl)(ha:co a)(hb:co b)(hc:co c)(hd:co d):
  VC prog 194 #[VW (lI a b).toArray,VW (lI c d).toArray] w λe w'=>e=VV (VW (lI (c-a) (d-b)).toArray)/\Ext w w':=by
 obtain⟨a1,a2⟩:=ha;obtain⟨b1,b2⟩:=hb;obtain⟨c1,c2⟩:=hc;obtain⟨d1,d2⟩:=hd;go_enter func194,ntmps194;go_wp2;refine bodyPost_ret (v:= VW (lI (c-a) (d-b)).toArray) ?_ rfl ⟨rfl,BD _ _ _ _⟩;simp[results,results194,go_sem]
def rJ(a b c d:Int)(w:Vl)(ha: -65536<=a/\a<=65536)(hb: -65536<=b/\b<=65536)(hc: -65536<=c/\c<=65536)(hd: -65536<=d/\d<=65536):
  VC prog 239 #[VW (lI a b).toArray,VW (lI c d).toArray] w λe w'=>e=VV (VU VA (a*d-b*c))/\Ext w w':=by
 have h1:=AQ ha hd;have h2:=AQ hb hc;simp only[Int.reduceMul,Int.reduceNeg] at h1 h2;obtain⟨h11,h12⟩:=h1;obtain⟨h21,h22⟩:=h2;clear ha hb hc hd;go_enter func239,ntmps239;go_wp2;go_ret;exact⟨rfl,eH _ _ _⟩
def qa(n a b:Int)(w:Vl):VC prog 190 #[VU VA n,VU VA a,VU VA b] w λe w'=>e=VV (VS (aO n a b))/\w'=w:=by
 cases h:decide (a<=n)
 ·have HR:=Vk (show aO n a b=Vp by unfold aO;rw[h];rfl);go_enter func190,ntmps190;exact YU
 ·have HR:=Vk (show aO n a b=decide (n<=b) by unfold aO;rw[h];rfl);go_enter func190,ntmps190;exact YU
def ah(w:Vl)(b:Nat)(T:VK)(l:List Vr):Prop:=w.heap[b]?=Vq (.cells l.toArray T (0,0))
def ah.ext{w w':Vl}{b:Nat}{T:VK}{l:List Vr}(h:ah w b T l)(hx:Ext w w'):ah w' b T l:=(hx.block b (Vz.1 h).1).trans h
def ah.new(w:Vl)(T:VK)(l:List Vr):ah (w.alloc (.cells l.toArray T)) w.heap.size T l:=Vy w _
def ah.cell{w:Vl}{b:Nat}{T:VK}{l:List Vr}(h:ah w b T l)(i:Nat):w.cell? ⟨b,i,Vo⟩=l[i]?:=by unfold ah at h;simp[World.cell?,h]
def ah.lt{w:Vl}{b:Nat}{T:VK}{l:List Vr}(h:ah w b T l):b<w.heap.size:=(Vz.1 h).1
def ah.frozen{w:Vl}{b:Nat}{T:VK}{l:List Vr}(h:ah w b T l)(i:Nat):w.frozen? ⟨b,i,Vo⟩=Vp:=by unfold ah at h;simp[World.frozen?,h]
def ah.oT{w:Vl}{b:Nat}{T:VK}{x y:Vr}(h:ah w b T [x,y])(u v:Vr):ah ((w.setCell ⟨b,0,Vo⟩ u).setCell ⟨b,1,Vo⟩ v) b T [u,v]:=by
 exact YV
def ah.dx{w:Vl}{b:Nat}{T:VK}{l:List Vr}(h:ah w b T l){p:VM}(hp:p.block≠b)(v:Vr):ah (w.setCell p v) b T l:=(Below.heap_setCell _ _ _ _ (Ne.symm hp)).trans h
def ah.drew{w:Vl}{b:Nat}{T:VK}{l:List Vr}(h:ah w b T l):ah w.drew b T l:=h
def jh(a b c:Sd)(w:Vl)(hbx:co b.x)(hby:co b.y)(hcx:co c.x)(hcy:co c.y):
  VC prog 195 #[VW (jx a b c).toArray] w λe w'=>e=VV (VW (lI (c.x-b.x) (c.y-b.y)).toArray)/\Ext w w':=by
 have R1:=(ah.new w 227 (jx a b c)).ext ((Below.refl _ _).alloc (Vm _) (.cells (lI 0 0).toArray 229));have R2:=ah.new (w.alloc (.cells (jx a b c).toArray 227)) 229 (lI 0 0);have L0:=Vk (eH w (.cells (jx a b c).toArray 227) (.cells (lI 0 0).toArray 229));rw[VF] at R2;go_enter func195,ntmps195;go_wp2;obtain⟨W0,hW0⟩:∃W0,(w.alloc (.cells (jx a b c).toArray 227)).alloc (.cells (lI 0 0).toArray 229)=W0:=⟨_,rfl⟩;simp only[hW0] at R1 R2 L0⊢;clear hW0;have cA:=λ(w':Vl) (h:VL (w.heap.size+1) W0 w') (i:Nat)=>ah.cell ((h.block _ (Nat.lt_succ_self _)).trans R1:ah w' w.heap.size 227 (jx a b c)) i
 have cB:=λ(w':Vl) (h:Ext W0 w') (i:Nat)=>(R2.ext h).cell i
 have fB:=λ(w':Vl) (h:Ext W0 w') (i:Nat)=>(R2.ext h).frozen i
 have hz:w.heap.size+1<=W0.heap.size:=Nat.le_of_lt R2.lt
 go_region_held3(λw'=>VL (w.heap.size+1) W0 w') (first|exact hx3.mono hz|exact hx2.mono hz|exact hx1.mono hz|exact((Below.refl _ _).drew).mono hz|exact((hx3.mono hz).setCell (p:=⟨w.heap.size+1,0,Vo⟩) (Vm _) _).setCell (p:=⟨w.heap.size+1,1,Vo⟩) (Vm _) _) (first
  |(go_at_call 194;go_must(refine(vP _ _ _ _ _ hbx hby hcx hcy).mono ?_);rintro e W3 ⟨rfl,hX3⟩;have hx3:Ext W0 W3:=hx2.trans (hX3.mono hx2.size))
  |(go_at_call 193;(refine(bH c _).mono ?_);rintro e W2 ⟨rfl,hX2⟩;have hx2:Ext W0 W2:=hx1.trans (hX2.mono hx1.size))
  |(go_at_call 193;go_must(refine(bH b _).mono ?_);rintro e W1 ⟨rfl,hX1⟩;have hx1:Ext W0 W1:=((Below.refl _ _).drew).trans (hX1.mono (Vm _))))
 go_wp2;have R3:=(R2.ext hx3).oT (VU VA (c.x-b.x)) (VU VA (c.y-b.y));have q0:=R3.cell 0;have q1:=R3.cell 1;refine bodyPost_ret (v:= VW (lI (c.x-b.x) (c.y-b.y)).toArray) ?_ rfl ⟨rfl,?_⟩
 ·simp[results,results195,go_sem,q0,q1]
 ·exact((L0.o.trans (hx3.mono L0.o.size)).setCell (p:=⟨w.heap.size+1,0,Vo⟩) V5 _).setCell (p:=⟨w.heap.size+1,1,Vo⟩) V5 _
def Ga(a b:o7)(w:Vl):VC prog 197 #[VW (wG a).toArray,VW (wG b).toArray] w λe w'=>e=VV (VS (ee a b))/\Ext w w':=by
 cases h1:decide (a.lx<=b.hx)
 ·have HR:=Vk (show ee a b=Vp by unfold ee;rw[h1];rfl);exact YW
 cases h2:decide (b.lx<=a.hx)
 ·have HR:=Vk (show ee a b=Vp by unfold ee;rw[h1,h2];rfl);exact YW
 cases h3:decide (a.ly<=b.hy)
 ·have HR:=Vk (show ee a b=Vp by unfold ee;rw[h1,h2,h3];rfl);exact YW
 ·have HR:=Vk (show ee a b=decide (b.ly<=a.hy) by unfold ee;rw[h1,h2,h3];rfl);exact YW
end
section
open Kp
def ti(a b c:Sd)(blk:Nat):Nat->Vr
 |0=> VT (Vq ⟨blk,0,Vo⟩)
 |1=> VW (nt a).toArray
 |2=> VW (lI a.x a.y).toArray
 |3=> VT (Vq ⟨blk,7,Vo⟩)
 |4=> VW (nt b).toArray
 |5=> VW (lI b.x b.y).toArray
 |6=> VW (lI (b.x-a.x) (b.y-a.y)).toArray
 |7=> VW (jx a b c).toArray
 |8=> VW (lI (c.x-b.x) (c.y-b.y)).toArray
 |9=> VU VA ((b.x-a.x)*(c.y-b.y)-(b.y-a.y)*(c.x-b.x))
 |_=> VS (decide (0<(b.x-a.x)*(c.y-b.y)-(b.y-a.y)*(c.x-b.x)))
def IM(a b c:Sd)(w:Vl)(hax:co a.x)(hay:co a.y)(hbx:co b.x)(hby:co b.y)(hcx:co c.x)(hcy:co c.y):
  VC prog 200 #[VW (jx a b c).toArray] w λe w'=>e=VV (VS (decide (0<(b.x-a.x)*(c.y-b.y)-(b.y-a.y)*(c.x-b.x))))/\Ext w w':=by
 have R1:=ah.new w 227 (jx a b c);have L0:=Vk (show Ext w (w.alloc (.cells (jx a b c).toArray 227)) from(Below.refl _ _).alloc (Vm _) _);go_enter func200,ntmps200;go_wp2;obtain⟨W0,hW0⟩:∃W0,w.alloc (.cells (jx a b c).toArray 227)=W0:=⟨_,rfl⟩;simp only[hW0] at R1 L0⊢;clear hW0;refine wp_region_any VZ (bM 11 (λvs=>⟨#[VW (jx a b c).toArray,VT (Vq ⟨w.heap.size,0,Vo⟩),VS Vp,vs 0,vs 1,vs 2,vs 3,vs 4,vs 5,vs 6,vs 7,vs 8,vs 9,vs 10],[]⟩)
  (λw'=>Ext W0 w') (λi v _=>v=ti a b c w.heap.size i) (λ_=>Vp) VZ (λ_ _ h k=>h.tr k) (λ_ _ _ _ h _=>h) (λ_ _ _ _ h=>V6) ?step ?tail (λ_=>Vs) _ (Ext.dr W0))
 case tail=>
  intro vs w' hD hv _;have v10:=hv 10 V0;clear hv;simp only[List.drop_succ_cons,List.drop_zero];simp only[ti] at v10;go_wp2;go_ret;exact⟨by rw[v10];rfl,L0.o.tr hD⟩
 case step=>
  intro i vs w' hi hD hd;have cA:=λi=>(R1.ext hD).cell i
  rcases(show i=0\/i=1\/i=2\/i=3\/i=4\/i=5\/i=6\/i=7\/i=8\/i=9\/i=10 by omega) with rfl|rfl|rfl|rfl|rfl|rfl|rfl|rfl|rfl|rfl|rfl<;>clear hi
  ·exact Y1
  ·refine Vx rfl (λK hK=> ?_);have d0:=hd 0 VZ;exact YZ
  ·refine Vx rfl (λK hK=> ?_);have d0:=hd 1 VZ;simp only[ti] at d0;go_simp;refine(bH a _).mono ?_;exact YY
  ·exact Y1
  ·refine Vx rfl (λK hK=> ?_);have d0:=hd 3 VZ;exact YZ
  ·refine Vx rfl (λK hK=> ?_);have d0:=hd 4 VZ;simp only[ti] at d0;go_simp;refine(bH b _).mono ?_;exact YY
  ·refine Vx rfl (λK hK=> ?_);have d0:=hd 2 VZ;have d1:=hd 5 VZ;simp only[ti] at d0 d1;go_simp;refine(vP _ _ _ _ _ hax hay hbx hby).mono ?_;exact YX
  ·refine ks rfl rfl ?_;exact wp_load_row 227 (.tmp 1) rfl w.heap.size rfl 227 (jx a b c).toArray (0,0) _ (R1.ext hD) underlying227 rfl VZ ⟨_,rfl,Ext.aB _,rfl,λh=>V6⟩
  ·refine Vx rfl (λK hK=> ?_);have d0:=hd 7 VZ;simp only[ti] at d0;go_simp;refine(jh a b c _ hbx hby hcx hcy).mono ?_;exact YY
  ·refine Vx rfl (λK hK=> ?_);have d0:=hd 6 VZ;have d1:=hd 8 VZ;simp only[ti] at d0 d1;go_simp;refine(rJ (b.x-a.x) (b.y-a.y) (c.x-b.x) (c.y-b.y) _ VY VY VY VY).mono ?_;exact YX
  ·refine Vx rfl (λK hK=> ?_);have d0:=hd 9 VZ;simp only[ti] at d0;go_simp;refine hK _ _ ⟨VS (decide ((b.y-a.y)*(c.x-b.x)<(b.x-a.x)*(c.y-b.y))),by simp[d0],Ext.aB _,?_,λh=>V6⟩;show Vr.bool _=Vr.bool _
   congr 1
   rw[decide_eq_decide];omega
end
section
open Kp
def il(lo:Nat)(v:Vr)(w:Vl):Prop:=∃b,v=VT (Vq ⟨b,0,Vo⟩)/\lo<=b/\ah w b 229 (lI 0 0)
def il.ext{lo:Nat}{v:Vr}{w w':Vl}(h:il lo v w)(hx:Ext w w'):il lo v w':=by
 obtain⟨b,e,hl,hr⟩:=h;exact⟨b,e,hl,hr.ext hx⟩
def il.lt{lo:Nat}{v:Vr}{w:Vl}(h:il lo v w):∃b,v=VT (Vq ⟨b,0,Vo⟩)/\b<w.heap.size:=by
 obtain⟨b,e,hl,hr⟩:=h;exact⟨b,e,hr.lt⟩
def Jl(b c:Sd)(blk lo:Nat):Nat->Vr->Vl->Prop
 |0,v,_=>v=VT (Vq ⟨blk,7,Vo⟩)
 |1,v,_=>v=VW (nt b).toArray
 |2,v,_=>v=VW (lI b.x b.y).toArray
 |3,v,_=>v=VT (Vq ⟨blk,14,Vo⟩)
 |4,v,_=>v=VW (nt c).toArray
 |5,v,_=>v=VW (lI c.x c.y).toArray
 |_,v,w=>il lo v w
def QA{b c:Sd}{blk lo i:Nat}{v:Vr}{w w':Vl}(h:Jl b c blk lo i v w)(hx:Ext w w'):Jl b c blk lo i v w':=by
 unfold Jl at *;split at h<;>first|exact h|exact il.ext h hx
def Pe{w W:Vl}{a:Act}{blk:Nat}{lx ly hx hy:Int}{b c:Sd}(h2:a.tmps[2]?=Vq (VT (Vq ⟨blk,0,Vo⟩)))(hd:a.defers=[])(hR:ah W blk 236 (wG ⟨0,0,0,0⟩))
  (e1:lx=min b.x c.x)(e2:ly=min b.y c.y)(e3:hx=max b.x c.x)(e4:hy=max b.y c.y)(hL:Ext w W)(hb:w.heap.size<=blk):
  bodyPost prog f196 (λe w'=>e=VV (VW (wG ⟨min b.x c.x,min b.y c.y,max b.x c.x,max b.y c.y⟩).toArray)/\Ext w w') .ret a
   ((((W.setCell ⟨blk,0,Vo⟩ (VU VA lx)).setCell ⟨blk,1,Vo⟩ (VU VA ly)).setCell ⟨blk,2,Vo⟩ (VU VA hx)).setCell ⟨blk,3,Vo⟩ (VU VA hy)):=by
 subst e1 e2 e3 e4;have R3:ah ((((W.setCell ⟨blk,0,Vo⟩ (VU VA (min b.x c.x))).setCell ⟨blk,1,Vo⟩ (VU VA (min b.y c.y))).setCell ⟨blk,2,Vo⟩ (VU VA (max b.x c.x))).setCell ⟨blk,3,Vo⟩ (VU VA (max b.y c.y))) blk 236 (wG ⟨min b.x c.x,min b.y c.y,max b.x c.x,max b.y c.y⟩):=by
  unfold ah at *;simp[World.setCell,Array.getElem?_modify,hR]
 have q:=λi=>R3.cell i
 refine bodyPost_ret (v:= VW (wG ⟨min b.x c.x,min b.y c.y,max b.x c.x,max b.y c.y⟩).toArray) ?_ hd ⟨rfl,?_⟩
 ·simp[results,results196,go_sem,h2,q]
 ·exact(((hL.setCell (p:=⟨blk,0,Vo⟩) hb _).setCell (p:=⟨blk,1,Vo⟩) hb _).setCell (p:=⟨blk,2,Vo⟩) hb _).setCell (p:=⟨blk,3,Vo⟩) hb _
def JH(a b c:Sd)(w:Vl):
  VC prog 196 #[VW (jx a b c).toArray] w λe w'=>e=VV (VW (wG ⟨min b.x c.x,min b.y c.y,max b.x c.x,max b.y c.y⟩).toArray)/\Ext w w':=by
 have R1:=(ah.new w 227 (jx a b c)).ext ((Below.refl _ _).alloc (Vm _) (.cells (wG ⟨0,0,0,0⟩).toArray 236));have R2:=ah.new (w.alloc (.cells (jx a b c).toArray 227)) 236 (wG ⟨0,0,0,0⟩);have L0:=Vk (eH w (.cells (jx a b c).toArray 227) (.cells (wG ⟨0,0,0,0⟩).toArray 236));rw[VF] at R2;go_enter func196,ntmps196;go_wp2;obtain⟨W0,hW0⟩:∃W0,(w.alloc (.cells (jx a b c).toArray 227)).alloc (.cells (wG ⟨0,0,0,0⟩).toArray 236)=W0:=⟨_,rfl⟩;simp only[hW0] at R1 R2 L0⊢;have hz:w.heap.size+2<=W0.heap.size:=R2.lt;clear hW0;refine wp_region_any VZ (bM 8 (λvs=>⟨#[VW (jx a b c).toArray,VT (Vq ⟨w.heap.size,0,Vo⟩),VT (Vq ⟨w.heap.size+1,0,Vo⟩),vs 6,vs 7,vs 0,vs 1,vs 2,vs 3,vs 4,vs 5,Vs,Vs,Vs,Vs,Vs,Vs,Vs,Vs,Vs,Vs,Vs,Vs,Vs,Vs,Vs,Vs,Vs,Vs,Vs,Vs,Vs,Vs,Vs],[]⟩)
  (λw'=>Ext W0 w') (Jl b c w.heap.size W0.heap.size) (λi=>i==6||i==7) VZ (λ_ _ h k=>h.tr k) (λ_ _ _ _ h k=>QA h k) ?fr ?step ?tail (λ_=>Vs) _ (Ext.dr W0))
 case fr=>
  intro i v w' hi hf hv;simp only[Bool.or_eq_true,beq_iff_eq] at hf;rcases hf with rfl|rfl<;>exact il.lt hv
 case step=>
  intro i vs w' hi hD hd;have cA:=λi=>(R1.ext hD).cell i
  rcases(show i=0\/i=1\/i=2\/i=3\/i=4\/i=5\/i=6\/i=7 by omega) with rfl|rfl|rfl|rfl|rfl|rfl|rfl|rfl<;>clear hi
  ·exact Y1
  ·refine Vx rfl (λK hK=> ?_);have d0:=hd 0 VZ;simp only[Jl] at d0;go_simp;exact hK _ _ ⟨_,by simp[d0,Jl],Ext.aB _,rfl,λh=>V6⟩
  ·refine Vx rfl (λK hK=> ?_);have d1:=hd 1 VZ;simp only[Jl] at d1;go_simp;refine(bH b _).mono ?_;rintro e W1 ⟨rfl,hX⟩;exact hK _ _ ⟨_,by simp[d1,Jl],hX,rfl,λh=>V6⟩
  ·exact Y1
  ·refine Vx rfl (λK hK=> ?_);have d3:=hd 3 VZ;simp only[Jl] at d3;go_simp;exact hK _ _ ⟨_,by simp[d3,Jl],Ext.aB _,rfl,λh=>V6⟩
  ·refine Vx rfl (λK hK=> ?_);have d4:=hd 4 VZ;simp only[Jl] at d4;go_simp;refine(bH c _).mono ?_;rintro e W1 ⟨rfl,hX⟩;exact hK _ _ ⟨_,by simp[d4,Jl],hX,rfl,λh=>V6⟩
  ·exact Y4
  ·exact Y4
 case tail=>
  intro vs w' hD hv hne;have v2:=hv 2 V0;have v5:=hv 5 V0;obtain⟨p,e6,l6,r6⟩:=hv 6 V0;obtain⟨q,e7,l7,r7⟩:=hv 7 V0;have hpq:=hne 6 7 V0 V0 V0 rfl rfl;simp only[Jl] at v2 v5;clear hv hne;rw[e6,e7] at hpq;have hpq':p≠q:=λh=>hpq (by rw[h])
  clear hpq;have R2':=R2.ext hD;have cp:=λi=>r6.cell i
  have cq:=λi=>r7.cell i
  have fp:=λi=>r6.frozen i
  have fq:=λi=>r7.frozen i
  have cr:=λi=>R2'.cell i
  have fr:=λi=>R2'.frozen i
  have n1:¬q=p:=λh=>hpq' h.symm
  have n2:¬w.heap.size+1=p:=VY;have n3:¬w.heap.size+1=q:=VY;have n4:¬p=w.heap.size+1:=VY;have n5:¬q=w.heap.size+1:=VY;simp only[List.drop_succ_cons,List.drop_zero,e6,e7,v2,v5];clear e6 e7 v2 v5;go_wp2;all_goals clear cp cq fp fq cr fr r6 r7 R2 R1
  all_goals refine Pe (blk:=w.heap.size+1) (b:=b) (c:=c) ?_ ?_ ((((R2'.dx (p:=⟨p,0,Vo⟩) n4 (VU VA b.x)).dx (p:=⟨p,1,Vo⟩) n4 (VU VA b.y)).dx (p:=⟨q,0,Vo⟩) n5 (VU VA c.x)).dx (p:=⟨q,1,Vo⟩) n5 (VU VA c.y)) ?_ ?_ ?_ ?_ (((((L0.o.tr hD).setCell (p:=⟨p,0,Vo⟩) Wa (VU VA b.x)).setCell (p:=⟨p,1,Vo⟩) Wa (VU VA b.y)).setCell (p:=⟨q,0,Vo⟩) Wa (VU VA c.x)).setCell (p:=⟨q,1,Vo⟩) Wa (VU VA c.y)) (Nat.le_succ _)
  all_goals first|(with_reducible rfl)|(clear R2' L0 hD;omega)|rfl
end
section
open Kp
def jX {p : Prop} (h : p := by
    go_enter func131, ntmps131;go_wp2_with (go_at_call 190; go_must (refine (qa _ _ _ _).mono ?_); rintro e W1 ⟨rfl, rfl⟩; first | rw [h1] | rw [h2] | rw [t1] | rw [t2] | rw [t3] | rw [t4] | skip)
    iterate 6 try (first
      | (go_ret; exact ⟨by rw [HR.o]; rfl, by first | exact eH _ _ _ | exact (Below.refl _ _).alloc (Vm _) _⟩)
      | (first | rw [rounds_succ] | (refine wp_loop_rounds 5 ?_; rw [rounds_succ])
         go_wp2_with (go_at_call 190; go_must (refine (qa _ _ _ _).mono ?_); rintro e W1 ⟨rfl, rfl⟩; first | rw [h1] | rw [h2] | rw [t1] | rw [t2] | rw [t3] | rw [t4] | skip)))) : p := h
def Tz{p:Prop}(h:p:=by
  cases t1:aO s.x 0 65536
  ·have HR:=Vk (show aJ s=Vp by rw[HQ,t1];simp);clear HQ;exact jX
  cases t2:aO s.y 0 65536
  ·have HR:=Vk (show aJ s=Vp by rw[HQ,t2];simp);clear HQ;exact jX
  cases t3:aO s.plate 0 65536
  ·have HR:=Vk (show aJ s=Vp by rw[HQ,t3];simp);clear HQ;exact jX
  cases t4:aO s.over 0 65536
  ·have HR:=Vk (show aJ s=Vp by rw[HQ,t4];simp);clear HQ;exact jX
  have HR:=Vk (show aJ s=Vv by rw[HQ,t1,t2,t3,t4];simp);clear HQ;exact jX):p:=h
def De(s:Sd)(w:Vl):VC prog 131 #[VW (nt s).toArray] w λe w'=>e=VV (VS (aJ s))/\Ext w w':=by
 cases hg:s.gable
 ·cases h1:aO s.rise 1 48
  ·have HR:=Vk (show aJ s=Vp by unfold aJ;rw[hg];rw[h1];rfl);exact jX
  cases h2:aO s.run 1 48
  ·have HR:=Vk (show aJ s=Vp by unfold aJ;rw[hg];rw[h1,h2];rfl);exact jX
  have HQ:aJ s=(aO s.x 0 65536&&aO s.y 0 65536&&aO s.plate 0 65536&&aO s.over 0 65536):=by
   unfold aJ;rw[hg];rw[h1,h2];simp[Bool.and_assoc]
  exact Tz
 ·cases h1:(s.rise !=0)
  case true=>
   have HR:=Vk (show aJ s=Vp by unfold aJ;rw[hg];simp only[if_true];rw[show(s.rise==0)=Vp by simpa using h1];rfl);exact jX
  cases h2:(s.run !=0)
  case true=>
   have HR:=Vk (show aJ s=Vp by unfold aJ;rw[hg];simp only[if_true];rw[show(s.run==0)=Vp by simpa using h2];simp);exact jX
  have HQ:aJ s=(aO s.x 0 65536&&aO s.y 0 65536&&aO s.plate 0 65536&&aO s.over 0 65536):=by
   unfold aJ;rw[hg];rw[show(s.rise==0)=Vv by simpa using h1,show(s.run==0)=Vv by simpa using h2];simp[Bool.and_assoc]
  exact Tz
end
section
open Kp
def gI(n a b:Int)(w:Vl):VC prog 64 #[VU VA n,VU VA a,VU VA b] w λe w'=>e=VV (VS (aO n a b))/\w'=w:=by
 cases h:decide (a<=n)
 ·have HR:=Vk (show aO n a b=Vp by unfold aO;rw[h];rfl);go_enter func64,ntmps64;exact YU
 ·have HR:=Vk (show aO n a b=decide (n<=b) by unfold aO;rw[h];rfl);go_enter func64,ntmps64;exact YU
def gL(n a b:Int)(w:Vl):VC prog 146 #[VU VA n,VU VA a,VU VA b] w λe w'=>e=VV (VS (aO n a b))/\w'=w:=by
 cases h:decide (a<=n)
 ·have HR:=Vk (show aO n a b=Vp by unfold aO;rw[h];rfl);go_enter func146,ntmps146;exact YU
 ·have HR:=Vk (show aO n a b=decide (n<=b) by unfold aO;rw[h];rfl);go_enter func146,ntmps146;exact YU
def eu(n a b:Int)(w:Vl):VC prog 204 #[VU VA n,VU VA a,VU VA b] w λe w'=>e=VV (VS (aO n a b))/\w'=w:=by
 cases h:decide (a<=n)
 ·have HR:=Vk (show aO n a b=Vp by unfold aO;rw[h];rfl);go_enter func204,ntmps204;exact YU
 ·have HR:=Vk (show aO n a b=decide (n<=b) by unfold aO;rw[h];rfl);go_enter func204,ntmps204;exact YU
def je(n a b:Int)(w:Vl):VC prog 143 #[VU VA n,VU VA a,VU VA b] w λe w'=>e=VV (VS (aO n a b))/\w'=w:=by
 cases h:decide (a<=n)
 ·have HR:=Vk (show aO n a b=Vp by unfold aO;rw[h];rfl);go_enter func143,ntmps143;exact YU
 ·have HR:=Vk (show aO n a b=decide (n<=b) by unfold aO;rw[h];rfl);go_enter func143,ntmps143;exact YU
def gN(n a b:Int)(w:Vl):VC prog 47 #[VU VA n,VU VA a,VU VA b] w λe w'=>e=VV (VS (!aO n a b))/\w'=w:=by
 cases h:decide (n<a)
 ·have HR:=Vk (show(!aO n a b)=decide (b<n) by
   unfold aO;rw[decide_eq_false_iff_not] at h;rw[show decide (a<=n)=Vv by rw[decide_eq_true_eq];omega,Bool.true_and,<-decide_not,decide_eq_decide];omega)
  go_enter func47,ntmps47;exact YU
 ·have HR:=Vk (show(!aO n a b)=Vv by
   unfold aO;rw[decide_eq_true_eq] at h;rw[show decide (a<=n)=Vp by rw[decide_eq_false_iff_not];omega];rfl)
  go_enter func47,ntmps47;exact YU
def JQ(n a b:Int)(w:Vl):VC prog 169 #[VU VA n,VU VA a,VU VA b] w λe w'=>e=VV (VS (!aO n a b))/\w'=w:=by
 cases h:decide (n<a)
 ·have HR:=Vk (show(!aO n a b)=decide (b<n) by
   unfold aO;rw[decide_eq_false_iff_not] at h;rw[show decide (a<=n)=Vv by rw[decide_eq_true_eq];omega,Bool.true_and,<-decide_not,decide_eq_decide];omega)
  go_enter func169,ntmps169;exact YU
 ·have HR:=Vk (show(!aO n a b)=Vv by
   unfold aO;rw[decide_eq_true_eq] at h;rw[show decide (a<=n)=Vp by rw[decide_eq_false_iff_not];omega];rfl)
  go_enter func169,ntmps169;exact YU
def qT(n a b:Int)(w:Vl):VC prog 177 #[VU VA n,VU VA a,VU VA b] w λe w'=>e=VV (VS (!aO n a b))/\w'=w:=by
 cases h:decide (n<a)
 ·have HR:=Vk (show(!aO n a b)=decide (b<n) by
   unfold aO;rw[decide_eq_false_iff_not] at h;rw[show decide (a<=n)=Vv by rw[decide_eq_true_eq];omega,Bool.true_and,<-decide_not,decide_eq_decide];omega)
  go_enter func177,ntmps177;exact YU
 ·have HR:=Vk (show(!aO n a b)=Vv by
   unfold aO;rw[decide_eq_true_eq] at h;rw[show decide (a<=n)=Vp by rw[decide_eq_false_iff_not];omega];rfl)
  go_enter func177,ntmps177;exact YU
def j9(n a b:Int)(w:Vl):VC prog 116 #[VU VA n,VU VA a,VU VA b] w λe w'=>e=VV (VS (!aO n a b))/\w'=w:=by
 cases h:decide (n<a)
 ·have HR:=Vk (show(!aO n a b)=decide (b<n) by
   unfold aO;rw[decide_eq_false_iff_not] at h;rw[show decide (a<=n)=Vv by rw[decide_eq_true_eq];omega,Bool.true_and,<-decide_not,decide_eq_decide];omega)
  go_enter func116,ntmps116;exact YU
 ·have HR:=Vk (show(!aO n a b)=Vv by
   unfold aO;rw[decide_eq_true_eq] at h;rw[show decide (a<=n)=Vp by rw[decide_eq_false_iff_not];omega];rfl)
  go_enter func116,ntmps116;exact YU
end
section
open Kp
def sJ(s l:Int)(w:Vl):VC prog 207 #[VU VA s,VU VA l] w λe w'=>e=VV (VS (aO s 1 65536&&aO l 0 1048576))/\w'=w:=by
 cases t1:aO s 1 65536
 ·go_enter func207,ntmps207;exact Zv
 cases t2:aO l 0 1048576;all_goals
  go_enter func207,ntmps207;go_wp2_with(go_at_call 146;go_must(refine(gL _ _ _ _).mono ?_);rintro e W1 ⟨rfl,rfl⟩;first|rw[t1]|rw[t2])
  go_ret;exact⟨rfl,rfl⟩
def DY(a b s l:Int)(w:Vl):VC prog 145 #[VU VA a,VU VA b,VU VA s,VU VA l] w λe w'=>e=VV (VS (aO a 1 1000&&aO b 1 1000&&(aO s 1 65536&&aO l 0 1048576)))/\w'=w:=by
 cases t1:aO a 1 1000
 ·go_enter func145,ntmps145;exact Zv
 cases t2:aO b 1 1000
 ·go_enter func145,ntmps145;go_wp2_with(go_at_call 146;go_must(refine(gL _ _ _ _).mono ?_);rintro e W1 ⟨rfl,rfl⟩;first|rw[t1]|rw[t2])
  go_ret;exact⟨rfl,rfl⟩
 obtain⟨c,hc⟩:∃c,(aO s 1 65536&&aO l 0 1048576)=c:=⟨_,rfl⟩;rw[hc];have cc:=Vk (sJ s l w);rw[hc] at cc;clear hc;cases c;all_goals
  go_enter func145,ntmps145;go_wp2_with(first
   |(go_at_call 207;go_must(refine cc.o.mono ?_);rintro e W1 ⟨rfl,rfl⟩)
   |(go_at_call 146;go_must(refine(gL _ _ _ _).mono ?_);rintro e W1 ⟨rfl,rfl⟩;first|rw[t1]|rw[t2]))
  go_ret;exact⟨rfl,rfl⟩
end
section
open Kp
def yE(w:Vl)(k cap:Nat)(T:VK)(a b c d:Int)(hr:ah w k T [VU VA a,VU VA b,VU VA c,VU VA d]):
  VC prog 208 #[VQ (Vq ⟨k,0,Vo⟩) 4 cap] w λe w'=>e=VV (VU VA (En a b c d))/\w'=w:=by
 have c0:=hr.cell 0;have c1:=hr.cell 1;have c2:=hr.cell 2;have c3:=hr.cell 3;clear hr;cases t0:(a !=0)
 case true=>
  have HR:=Vk (show En a b c d=a by unfold En;rw[if_pos (by simpa using t0)]);go_enter func208,ntmps208;go_wp2;refine wp_loop_rounds 5 ?_;exact Zy
 cases t1:(b !=0)
 case true=>
  have HR:=Vk (show En a b c d=b by unfold En;rw[if_neg (by simpa using t0)];rw[if_pos (by simpa using t1)]);go_enter func208,ntmps208;go_wp2;refine wp_loop_rounds 5 ?_;exact Zx
 cases t2:(c !=0)
 case true=>
  have HR:=Vk (show En a b c d=c by unfold En;rw[if_neg (by simpa using t0)];rw[if_neg (by simpa using t1)];rw[if_pos (by simpa using t2)]);go_enter func208,ntmps208;go_wp2;refine wp_loop_rounds 5 ?_;exact Zw
 cases t3:(d !=0)
 case true=>
  have HR:=Vk (show En a b c d=d by unfold En;rw[if_neg (by simpa using t0)];rw[if_neg (by simpa using t1)];rw[if_neg (by simpa using t2)]);go_enter func208,ntmps208;go_wp2;refine wp_loop_rounds 5 ?_;rw[rounds_succ];go_wp2;exact Zw
 have HR:=Vk (show En a b c d=0 by unfold En;rw[if_neg (by simpa using t0)];rw[if_neg (by simpa using t1)];(first|(rw[if_neg (by simpa using t2)];done)|(rw[if_neg (by simpa using t2)];simpa using t3)));go_enter func208,ntmps208;go_wp2;refine wp_loop_rounds 5 ?_;rw[rounds_succ];go_wp2;rw[rounds_succ];go_wp2;rw[rounds_succ];go_wp2;rw[rounds_succ];go_wp2;rw[rounds_succ];go_wp2;go_ret;exact⟨V9,rfl⟩
end
section
open Kp
def Dj(z:Nat)(v:Vr):Prop:=∀A n c,v=VQ A n c->(A=Vo->c=0)/\∀ad,A=Vq ad->z<=ad.block
def Dj.tr{z:Nat}{v:Vr}(h:Dj z v)(l:List Nat):Dj z (Mi v l):=by
 intro A n c e;cases v with
 |slice A' n' c'=>unfold Mi at e;injection e with e1 e2 e3;subst e1 e3;exact h _ _ _ rfl
 |_=>cases e
def EU{w:Vl}{base n s:Nat}{t:VK}{v:Vr}{xs:List Vr}(h:w.ownsRow base t s v n xs):Dj base v:=by
 obtain⟨_,⟨rfl,_⟩|⟨g,cap,cur,rfl,hb,_⟩⟩:=h
 ·intro A n c e;injection e with e1 _ e3;subst e1 e3;exact⟨λ_=>rfl,λ_ h=>V6⟩
 ·intro A n c e;injection e with e1 _ e3;subst e1 e3;exact⟨λh=>V6,λ_ h=>(by injection h with h;subst h;exact hb)⟩
def yg(P:List Nat->Prop)(w:Vl)(e:Ending)(w':Vl):Prop:=∃v l,e=VV v/\bE w' w'.heap.size v l/\aZ l/\P l/\Ext w w'/\Dj w.heap.size v
def pJ{f:Nat->Nat×Nat}(h:∀k,(f (k+1)).1<1000000)(n:Nat):kP (bV f n):=by
 intro d hd;unfold bV at hd;obtain⟨i,_,rfl⟩:=List.mem_map.1 hd;exact h i
def pQ{a b:List Nat}(ha:kP a)(hb:kP b)(hl:b.length<=a.length)(hv:au b<=au a):au (az (bV (dd a b) a.length))=au a-au b:=by
 have h:=La ha hb a.length;rw[en];have e1:S6 (fv (bV (dd a b) a.length)) a.length=au (bV (dd a b) a.length):=eW (Nat.le_of_eq (bA _ _));have e2:S6 (fv b) a.length=au b:=eW hl;have e3:S6 (fv a) a.length=au a:=rfl;rw[e1,e2,e3] at h;have h1:=sZ (pJ (λk=>(qs ha hb k).2) a.length);rw[bA] at h1;have h2:=(qs ha hb a.length).1;rcases Nat.lt_or_ge (dd a b a.length).2 1 with h3|h3
 ·rw[show(dd a b a.length).2=0 by omega,Nat.zero_mul] at h;omega
 ·rw[show(dd a b a.length).2=1 by omega,Nat.one_mul] at h;omega
def xF(w:Vl)(t:VK):(w.alloc (.cells #[] t)).ownsRow w.heap.size t 1 (VQ (Vq ⟨w.heap.size,0,Vo⟩) 0 0) 0 []:=
 ⟨rfl,.inr ⟨w.heap.size,0,#[],rfl,Vm _,Vy w _,Vm _,Wc,rfl,rfl⟩⟩
def nX(w:Vl)(a b:List Nat)(va vb:Vr)(ha:bE w w.heap.size va a)(hb:bE w w.heap.size vb b)(hsa:kP a)(hsb:kP b)(hla:a.length<=1000000):
  VC prog 314 #[va,vb] w (yg (λl=>l=az (bV (dd a b) a.length)) w):=by
 obtain⟨i0,hi0,hz0,hz1,hz2⟩:=info_parts dS;have I0:=Vk hi0;have I1:=Vk hz0;have I2:=Vk hz1;have I3:=Vk hz2;have HA:=Vk ha;have HB:=Vk hb;obtain⟨A,ca,rfl,ha1,ha2,_⟩:=id ha;have HC:=Vk (du (pJ (λk=>(qs hsa hsb k).2) a.length));have HM:=Vk (λk=>qs hsa hsb k);unfold VJ at ha2;obtain⟨n,hn⟩:∃n,a.length=n:=⟨_,rfl⟩;have HN:=Vk hn;rw[hn];rw[hn] at hla ha1 HC HA;clear ha hb hi0 hz0 hz1 hz2 hn;go_enter func314,ntmps314;go_wp2;go_loopw [5,6,7] (λv c i wr=>UB w (dd a b) n v c i wr) (λ_ _ i _=>((n:Int)-VG i).toNat)
 case atStart=>exact⟨0,VY,rfl,rfl,xF _ _,(Below.refl _ _).alloc (Vm _) _⟩
 case round=>
  obtain⟨k,hk,rfl,rfl,hown,hX⟩:=hrel;have HO:=Vk hown;have HX:=Vk hX;have hs1:=(HA.o.below hX);have hs2:=(HB.o.below hX);have hbase:=hX.size;clear hown hX;by_cases hlt:k<n
  ·have C2:=Vk (λm=>vT (wr.drewN m) _ _ b k hs2 VY);obtain⟨_,_,e,_,_,q⟩:=hs1;injection e with e1 e2 e3
   clear e2;subst e1 e3;obtain⟨b1,o1,rfl,_,c1⟩:=q WD
   replace c1:=c1 k WD
   have HR:=Vk (dZ (dd a b) k);have hx1:(dd a b (k+1)).1=if fv b k+(dd a b k).2<=fv a k then fv a k-(fv b k+(dd a b k).2) else fv a k+1000000-(fv b k+(dd a b k).2):=rfl;have hx2:(dd a b (k+1)).2=if fv b k+(dd a b k).2<=fv a k then 0 else 1:=rfl;have hxa:fv a k<1000000:=aI hsa k;have hxb:fv b k<1000000:=aI hsb k;have hxc:=(HM.o k).1;obtain⟨p,hp⟩:∃x,fv a k=x:=⟨_,rfl⟩;obtain⟨r,hr⟩:∃x,fv b k=x:=⟨_,rfl⟩;obtain⟨c,hc⟩:∃x,(dd a b k).2=x:=⟨_,rfl⟩;obtain⟨x,hx⟩:∃x,(dd a b (k+1)).1=x:=⟨_,rfl⟩;obtain⟨y,hy⟩:∃y,(dd a b (k+1)).2=y:=⟨_,rfl⟩;rw[hx,hp,hr,hc] at hx1;rw[hy,hp,hr,hc] at hx2;rw[hp] at c1 hxa;rw[hr] at C2 hxb;rw[hc] at hxc;rw[hc];rw[hx] at HR;have HY:=Vk hy;have hbase1:w.heap.size<=(wr.alloc (.cells #[VU VA (x:Int)] 3)).heap.size:=Wa;have hbase2:∀m,w.heap.size<=((wr.drewN m).alloc (.cells #[VU VA (x:Int)] 3)).heap.size:=by intro m;simp;omega
   have HB2:=Vk hbase2;have HOX:=Vk (λm=>aF HO.o ((below_drewN (Below.refl wr.heap.size wr) m).alloc V5 (.cells #[VU VA (x:Int)] 3)));obtain⟨vs,hvs⟩:∃vs,sN (bV (dd a b) k)=vs:=⟨_,rfl⟩;rw[hvs] at HO HOX;have HVS:=Vk hvs;have w1:VA.wrap ((p:Int)-(r:Int))=(p:Int)-r:=VI _ VY;have w2:VA.wrap ((p:Int)-(r:Int)-(c:Int))=(p:Int)-r-c:=VI _ VY;have w3:VA.wrap ((p:Int)-(r:Int)-(c:Int)+1000000)=(p:Int)-r-c+1000000:=VI _ VY;clear hs2 hp hr hc hx hy q hvs hbase2 hbase1;have HXK:=Vk hk;have HRW:=Vk (λ(m j:Nat) (u:Vr) (hj:[Value.int .i64 (x:Int)][j]?=Vq u)=>show((wr.drewN m).alloc (.cells #[VU VA (x:Int)] 3)).cell? ((⟨wr.heap.size,0,Vo⟩:VM).add j)=Vq u by rw[Addr.add_lit,Nat.zero_add];exact((ah.new (wr.drewN m) 3 [VU VA (x:Int)]).cell j).trans hj);have ARM:=Vk (show∀(y':Nat) (v':Vr) (m:Nat) (w':Vl),(dd a b (k+1)).2=y'->w'.ownsRow w.heap.size 3 1 v' (k+1) (vs++[VU VA (x:Int)])->((wr.drewN m).alloc (.cells #[VU VA (x:Int)] 3)).grownBy w' u5.ownBlock->UB w (dd a b) n v' (VU VA (y':Int)) (VU VA ((k:Int)+1)) w' fromλy' v' m w' hy' hown' hgr'=>by
    refine⟨k+1,VY,V5,by rw[hy'],?_,eE (((below_drewN HX.o m)).alloc (by have:=HX.o.size;simp;omega) _) hgr' (λq hq=>(ak HO.o q hq).1)⟩;have e:sN (bV (dd a b) (k+1))=vs++[VU VA (x:Int)]:=Xk;rw[e];exact hown')
   clear HVS HR;by_cases hneg:r+c<=p
   ·rw[if_pos hneg] at hx1 hx2;have t1:¬(p:Int)-r-c<0:=VY;have e1:(p:Int)-r-c=(x:Int):=VY;have t2:¬(x:Int)<0:=VY;clear hx1 hneg;subst hx2;go_wp2_with fail
    go_quiet ((go_at_call 313;exact Calls.quiet_of_same (C2.o _)))
    go_wp2_with(at_builtin;(refine wpList_append_own _ rfl _ _ _ rfl w.heap.size 3 i0 _ 1 8 underlying25 I0.o I1.o I2.o I3.o rfl VY _ _ _ rfl (HOX.o _) ⟨wr.heap.size,0,Vo⟩ 1 1 [VU VA (x:Int)] rfl Wn (HRW.o _) WQ Wc VY (HB2.o _) ?_);intro v' w' hown' hgr' hnil)
    go_round
    case rel=>exact ARM.o 0 _ _ _ HY.o hown' hgr'
    case measure=>simp[VG];omega
   ·rw[if_neg hneg] at hx1 hx2;have t1:(p:Int)-r-c<0:=VY;have e1:(p:Int)-r-c+1000000=(x:Int):=VY;clear hx1 hneg;subst hx2;go_wp2_with fail
    go_quiet ((go_at_call 313;exact Calls.quiet_of_same (C2.o _)))
    go_wp2_with(at_builtin;(refine wpList_append_own _ rfl _ _ _ rfl w.heap.size 3 i0 _ 1 8 underlying25 I0.o I1.o I2.o I3.o rfl VY _ _ _ rfl (HOX.o _) ⟨wr.heap.size,0,Vo⟩ 1 1 [VU VA (x:Int)] rfl Wn (HRW.o _) WQ Wc VY (HB2.o _) ?_);intro v' w' hown' hgr' hnil)
    go_round
    case rel=>exact ARM.o 1 _ _ _ HY.o hown' hgr'
    case measure=>simp[VG];omega
  ·obtain rfl:k=n:=VY;have hlt':¬(k:Int)<(k:Int):=VY;have hsn:=dh HO.o (bA (dd a b) k);have CT:=Vk (dE wr wr.heap.size u5 (bV (dd a b) k) hsn);have HS:=Vk (show yg (λl=>l=az (bV (dd a b) k)) w (VV (Mi u5 (bV (dd a b) k))) wr from⟨_,_,rfl,hsn.trimmed,HC.o,rfl,HX.o,(EU HO.o).tr _⟩);clear hsn hs1 hs2;exact a0g
end
section
open Kp
def Si(w1:Vl)(g:Nat)(a b:List Nat)(i k:Nat)(c:Vr)(w':Vl):Prop:=
 ∃(cN:Nat) (out:List Nat),c=VU VA (cN:Int)/\Row w' g (a.length+b.length+1) out/\GO a b i k cN out/\dO g w1 w'
def Rq(w1:Vl)(g:Nat)(a b:List Nat)(i:Vr)(w':Vl):Prop:=∃k:Nat,k<=a.length/\i=VU VA (k:Int)/\Si w1 g a b k 0 (VU VA 0) w'
def Q7(w1:Vl)(g:Nat)(a b:List Nat)(i:Nat)(c k:Vr)(w':Vl):Prop:=∃n:Nat,n<=a.length+b.length+1/\k=VU VA (n:Int)/\Si w1 g a b i n c w'
def rM(w:Vl)(a b:List Nat)(va vb:Vr)(ha:bE w w.heap.size va a)(hb:bE w w.heap.size vb b)(hsa:kP a)(hfb:Kt b)(hla:a.length<=1000000)(hlb:b.length<=1000000):
  VC prog 315 #[va,vb] w (yg (λl=>au l=au a*au b/\l.length<=a.length+b.length+1) w):=by
 obtain⟨A,ca,rfl,ha1,ha2,hac⟩:=id ha;obtain⟨A',cb,rfl,hb1,hb2,hbc⟩:=id hb;unfold VJ at ha2 hb2;obtain⟨i0,hi,hz0,hz1,hz2⟩:=info_parts dS;have FB:=Vk hfb;go_enter func315,ntmps315;go_wp2_with(at_make;refine wpList_make_full _ rfl _ _ 25 rfl w.heap.size 3 i0 (VU VA 0) 1 underlying25 hi hz0 hz1 .i64 .i64 _ _ (a.length+b.length+1) rfl rfl VY VY XF Wc (Vm _) ?_;intro w1 hown hgrow)
 have hrow:=lk hown;have hbel:VL w.heap.size w w1:=(Below.refl _ w).grown hgrow (Vm _) V5;have sa1:=ha.below hbel;have sb1:=hb.below hbel;have HS:=Vk (show Si w1 w.heap.size a b 0 0 (VU VA 0) w1 from⟨0,_,rfl,hrow,GO.start a b,dO.refl _ _⟩);have HBEL:=Vk hbel;clear hown hgrow hrow ha hb hi hz0 hz1 hz2 hac hbc hbel hfb;go_loopw [6] (λi wr=>Rq w1 w.heap.size a b i wr) (λi _=>a.length-(VG i).toNat)
 case atStart=>exact⟨0,VY,rfl,HS.o⟩
 case round=>
  obtain⟨i,hi,rfl,cN,out,e0,hR,hT,hO⟩:=hrel;have HR:=Vk hR;have HT:=Vk hT;have HO:=Vk hO;obtain⟨cN0,hcN0⟩:∃c:Nat,c=0:=⟨0,rfl⟩;obtain rfl:cN=0:=by injection e0 with _ e;omega
  clear hT hR e0 cN0 hcN0;by_cases hlt:i<a.length
  ·clear hO;go_wp2_with fail
   go_loopw [7,8] (λc k wi=>Q7 w1 w.heap.size a b i c k wi) (λ_ k _=>a.length+b.length+2-(VG k).toNat)
   case atStart=>exact⟨0,VY,rfl,0,out,rfl,HR.o,HT.o,HO.o⟩
   case round=>
    obtain⟨k,hk,rfl,c,u',rfl,hR,hT,hO⟩:=hrel;have hc12:=hT.carry;have HT2:=Vk hT;by_cases hgo:k<b.length\/0<c
    ·have hin:i+k<a.length+b.length+1:=by
      by_cases h:k<b.length
      ·omega
      ·exact HT2.o.inside hsa FB.o hlt VY VY
     have sa:=hO.sl sa1 (Vm _);have sb:=hO.sl sb1 (Vm _);have hxa:fv a i<1000000:=aI hsa i;obtain⟨_,_,e,_,_,hac⟩:=sa;injection e with e1 e2 e3
     clear e2;subst e1 e3;obtain⟨ba,oa,rfl,_,hcell⟩:=hac VY;have hc:=hcell i hlt;have hx:=hR.cell (j:=i+k) (by rw[hT.len];omega);have hfr:=hR.frozen (i+k);have hub:fv u' (i+k)<1000000:=aI hT.small (i+k);have hvb:=FB.o.limb k;have hq:fv a i*fv b k<=999999*999999999999:=Nat.mul_le_mul VY VY;have hqi:0<=(fv a i:Int)*(fv b k:Int)/\(fv a i:Int)*(fv b k:Int)<=999998999999000001:=by
      rw[show(fv a i:Int)*(fv b k:Int)=((fv a i*fv b k:Nat):Int) by simp];omega
     obtain⟨hp0,lD⟩:=hqi;have HN:=Vk (λm=>(⟨k+1,VY,rfl,_,_,rfl,(hR.drewN m).set (j:=i+k) (by rw[hT.len];omega) _,hT.next hsa FB.o hin,(hO.drewN m).set _ _⟩:Q7 w1 w.heap.size a b i _ (VU VA ((k+1:Nat):Int)) _));have w1:VA.wrap ((i:Int)+k)=i+k:=cD VY VY;have w1a:0<=(i:Int)+k:=VY;have w1b:((i:Int)+k).toNat=i+k:=VY;have w1c:(i:Int)+k<a.length+b.length+1:=VY;have w3:VA.wrap ((fv a i:Int)*(fv b k:Int))=fv a i*fv b k:=cD VY VY;have w2:VA.wrap ((fv u' (i+k):Int)+(fv a i:Int)*(fv b k:Int))=fv u' (i+k)+fv a i*fv b k:=cD VY VY;have w4:VA.wrap ((fv u' (i+k):Int)+(fv a i:Int)*(fv b k:Int)+c)=fv u' (i+k)+fv a i*fv b k+c:=cD VY VY;have hkb:k<=4000000:=VY;clear hcell hac hR hT hO hin HT2 hq;obtain⟨tb,htb⟩:∃t,decide (k<b.length)=t:=⟨_,rfl⟩;have htc:tb=Vp->decide (0<c)=Vv:=by
      intro h1;subst h1;rw[decide_eq_false_iff_not] at htb;rw[decide_eq_true_eq];omega
     have HTC:=Vk htc;clear htc hgo;cases tb with
     |false=>
      have tc:=HTC.o rfl;have tc2:decide (0<(c:Int))=Vv:=by rw[decide_eq_true_eq] at tc⊢;omega
      exact a0h
     |true=>
      exact a0h
    ·obtain rfl:c=0:=VY;have HNX:=Vk (⟨i+1,VY,rfl,0,u',rfl,hR,hT.row VY,hO⟩:Rq w1 w.heap.size a b (VU VA ((i+1:Nat):Int)) wr);have g1:¬k<b.length:=VY;clear hgo hT hR hO;go_wp2_with fail
     exact⟨HNX.o,V7⟩
  ·obtain rfl:i=a.length:=VY;have hl:=HT.o.len;have hfin:yg (λl=>au l=au a*au b/\l.length<=a.length+b.length+1) w (VV (Mi (VQ (Vq ⟨w.heap.size,0,Vo⟩) out.length (a.length+b.length+1)) out)) wr:=by
    have hsl:=HR.o.sl HR.o.lt;exact⟨_,az out,rfl,hsl.trimmed,du HT.o.small,⟨by rw[en];exact HT.o.done,VB (aR _) VY⟩,HBEL.o.trans (hO.below (Vm _)),Dj.tr (λA n c e=>by injection e with e1 _ e3;subst e1;exact⟨λh=>V6,λ_ h=>(by injection h with h;subst h;exact Vm _)⟩) _⟩
   have HF:=Vk hfin;have CT:=Vk (dE wr _ _ out (HR.o.sl HR.o.lt));rw[hl] at CT HF;clear hfin hO hl;go_wp2_with(go_at_call 311;refine CT.o.mono ?_;rintro e w' ⟨rfl,rfl⟩)
   go_ret;exact HF.o
end
section
open Kp
def CM(X V:Nat)(w:Vl)(e:Ending)(w':Vl):Prop:=∃vq vr l,e=VV (VX #[vq,vr])/\bE w' w'.heap.size vr l/\aZ l/\au l=X%V/\Ext w w'
def Rl(a:List Nat)(k:Nat):Nat:=au (a.drop k)
def Cv{a:List Nat}{k:Nat}(h:k<a.length):Rl a k=fv a k+1000000*Rl a (k+1):=by
 unfold Rl;rw[List.drop_eq_getElem_cons h,oq,lP h]
def GQ(a:List Nat):Rl a a.length=0:=by unfold Rl;rw[List.drop_length];rfl
def D4(x h d:Nat):
  (h%d*1000000+x)%d=(x+1000000*h)%d:=by
 rw[Nat.add_comm,Nat.add_mod,Nat.mod_mul_mod,VE h,<-Nat.add_mod]
def RC(w1:Vl)(a:List Nat)(g n d:Nat)(r i:Vr)(w':Vl):Prop:=∃(k rN:Nat) (q:List Nat),k<=n/\i=VU VA ((k:Int)-1)/\r=VU VA (rN:Int)/\rN<d/\rN=Rl a k%d/\q.length=n/\Row w' g n q/\dO g w1 w'
def nP(r:Nat):au [r]=r:=by simp[au,S6,fv]
def TS{a r d:Nat}(h1:a<1000000)(h2:r<1000000)(h3:1<=d):VA.wrap (((r:Int)*1000000+(a:Int)).tdiv d)=(((r*1000000+a)/d:Nat):Int):=by
 rw[IntWalk.i64_quo _ _ ⟨VY,VY,VY⟩];simp
def TW{a r d:Nat}:((r:Int)*1000000+(a:Int)).tmod d=(((r*1000000+a)%d:Nat):Int):=by
 rw[IntWalk.rem_in _ _ VY];simp
def Bc(w:Vl)(a:List Nat)(va:Vr)(d:Nat)(ha:bE w w.heap.size va a)(hsa:kP a)(hd0:1<=d)(hd1:d<1000000)(hla:a.length<=1000000):
  VC prog 312 #[va,VU VA (d:Int)] w (CM (au a) d w):=by
 obtain⟨A,ca,rfl,ha1,ha2,hac⟩:=id ha;unfold VJ at ha2;obtain⟨i0,hi,hz0,hz1,hz2⟩:=info_parts dS;obtain⟨n,hn⟩:∃n,a.length=n:=⟨_,rfl⟩;rw[hn] at ha1 hla⊢;go_enter func312,ntmps312;go_wp2_with(at_make;refine wpList_make_full _ rfl _ _ 25 rfl w.heap.size 3 i0 (VU VA 0) 1 underlying25 hi hz0 hz1 .i64 .i64 _ _ n rfl rfl VY VY XF Wc (Vm _) ?_;intro w1 hown hgrow)
 have hrow:=lk hown;have hbel:VL w.heap.size w w1:=(Below.refl _ w).grown hgrow (Vm _) V5;have sa1:=ha.below hbel;have HN:=Vk hn;have HS:=Vk (show RC w1 a w.heap.size n d (VU VA 0) (VU VA ((n:Int)-1)) w1 from⟨n,0,_,Vm _,rfl,rfl,VY,by rw[<-hn,GQ,Nat.zero_mod],V5,hrow,dO.refl _ _⟩);have HBEL:=Vk hbel;clear hown hgrow hrow ha hi hz0 hz1 hz2 hac hbel hn;go_loopw [7,8] (λr i wr=>RC w1 a w.heap.size n d r i wr) (λ_ i _=>(VG i+1).toNat)
 case atStart=>exact HS.o
 case round=>
  obtain⟨k,r,q,hk,rfl,rfl,hr,hrv,hql,hR,hO⟩:=hrel;have HRV:=Vk hrv;clear hrv;have HR:=Vk hR;have HO:=Vk hO;have HQL:=Vk hql;rcases k with _|k
  ·have hr1:kP [r]:=by
    intro x hx;have e:x=r:=XK;rw[e];show r<1000000;omega
   have CT1:=Vk (dE wr wr.heap.size _ q (hR.sl hR.lt));rw[hql] at CT1;have r1:=row_one wr r;have CT2:=Vk (show VC prog 311 #[VQ (Vq ⟨wr.heap.size,0,Vo⟩) 1 1] (wr.alloc (.cells #[VU VA (r:Int)] 3)) _ from dE _ _ _ [r] (r1.sl r1.lt));have HP:=Vk (show∀vq,CM (au a) d w (VV (VX #[vq,Mi (VQ (Vq ⟨wr.heap.size,0,Vo⟩) 1 1) [r]])) (wr.alloc (.cells #[VU VA (r:Int)] 3)) fromλvq=>
    ⟨vq,_,az [r],rfl,(r1.sl r1.lt).trimmed,du hr1,by rw[en,nP];exact HRV.o,(HBEL.o.trans (hO.below (Vm _))).alloc (HBEL.o.trans (hO.below (Vm _))).size _⟩)
   clear hR hO hql r1 hr1;go_wp2_with(go_at_call 311;first|((with_reducible refine CT1.o.mono ?_);rintro e W1 ⟨rfl,rfl⟩)|((with_reducible refine CT2.o.mono ?_);rintro e W1 ⟨rfl,rfl⟩))
   go_ret2;exact HP.o _
  ·have sa:=hO.sl sa1 (Vm _);have hxa:fv a k<1000000:=aI hsa k;obtain⟨_,_,e,_,_,hac⟩:=sa;injection e with e1 e2 e3
   clear e2;subst e1 e3;obtain⟨ba,oa,rfl,_,hcell⟩:=hac WD;have hc:=hcell k WD;have hx:=hR.cell (j:=k) VY;have hfr:=hR.frozen k;have hrb:r<1000000:=VY;obtain⟨x,hxx⟩:∃x,fv a k=x:=⟨_,rfl⟩;obtain⟨y,hyy⟩:∃y,fv q k=y:=⟨_,rfl⟩;rw[hxx] at hc hxa;have HXX:=Vk hxx;rw[hyy] at hx;have ek:((k+1:Nat):Int)-1=(k:Int):=VY;rw[ek];have hrd:r*1000000<1000000000000:=VY;have hnz:¬d=0:=VY;have w6:=TS (a:=x) hxa hrb hd0;have w7:=TW (a:=x) (r:=r) (d:=d);have HP:=Vk (show∀z m,(r*1000000+x)%d=m->RC w1 a w.heap.size n d (VU VA (m:Int)) (VU VA ((k:Int)-1)) (wr.setCell ⟨w.heap.size,k,Vo⟩ (VU VA (z:Nat))) fromλz m e=>⟨k,m,_,VY,rfl,rfl,by rw[<-e];exact Nat.mod_lt _ VY,by rw[<-e,HRV.o,D4,Cv (a:=a) (k:=k) WD,HXX.o],by rw[List.length_set];exact HQL.o,HR.o.set (by have:=HQL.o;omega) z,HO.o.set _ _⟩);obtain⟨m,hm⟩:∃m,(r*1000000+x)%d=m:=⟨_,rfl⟩;obtain⟨z,hz⟩:∃m,(r*1000000+x)/d=m:=⟨_,rfl⟩;rw[hz] at w6;rw[hm] at w7;have HP2:=Vk (HP.o z m hm);clear hcell hac hR hO hql hxx hyy hm hz HP;go_wp2;exact⟨HP2.o,by simp[VG]⟩
end
section
open Kp
def Ka.ext{w w':Vl}{g:Nat}{v:Vr}{l:List Nat}(h:Ka w g v l)(hx:Ext w w'):Ka w' g v l:=by
 obtain⟨A,cap,rfl,h1,h2,hc⟩:=h;refine⟨A,cap,rfl,h1,h2,λhn=> ?_⟩;obtain⟨b,off,e,hb,hcell⟩:=hc hn;exact⟨b,off,e,hb,λj hj=>(hx.cell (zK (hcell j hj))).trans (hcell j hj)⟩
def bE.fresh{w:Vl}{b0 z g:Nat}{v:Vr}{l:List Nat}(h:bE w b0 v l)(hf:Dj z v)(hg:g<z):Ka w g v l:=by
 obtain⟨A,cap,rfl,h1,h2,hc⟩:=h;refine⟨A,cap,rfl,h1,h2,λhn=> ?_⟩;obtain⟨b,off,e,hb,hcell⟩:=hc hn;exact⟨b,off,e,by have:=(hf _ _ _ rfl).2 _ e;simp at this;omega,hcell⟩
structure NC(g n:Nat)(v:Vr)(l:List Nat)(w:Vl):Prop where
 sl:Ka w g v l
 canon:aZ l
 len:l.length<=n
 nil:∀m c,v=VQ Vo m c->c=0
def NC.ext{g n:Nat}{v:Vr}{l:List Nat}{w w':Vl}(h:NC g n v l w)(hx:Ext w w'):NC g n v l w':=⟨h.sl.ext hx,h.canon,h.len,h.nil⟩
def Eu(w:Vl)(g n:Nat)(wr:Vl):Prop:=∃q:List Nat,q.length=n/\Row wr g n q/\VL w.heap.size w wr
def Eu.ext{w:Vl}{g n:Nat}{wr w':Vl}(h:Eu w g n wr)(hx:Ext wr w'):Eu w g n w':=by
 obtain⟨q,h1,h2,h3⟩:=h;exact⟨q,h1,h2.below hx h2.lt,h3.trans (hx.mono h3.size)⟩
def Eu.lt{w:Vl}{g n:Nat}{wr:Vl}(h:Eu w g n wr):g<wr.heap.size:=by
 obtain⟨q,_,h2,_⟩:=h;exact h2.lt
def Tv(w:Vl)(a:List Nat)(g n m V:Nat)(r i:Vr)(wr:Vl):Prop:=∃(k:Nat) (l:List Nat),k<=n/\i=VU VA ((k:Int)-1)/\NC g m r l wr/\au l=Rl a k%V/\Eu w g n wr
def Rc(w:Vl)(g n m V R:Nat)(r z:Vr)(wr:Vl):Prop:=∃(zN:Nat) (l:List Nat),z=VU VA (zN:Int)/\NC g (m+1) r l wr/\au l+zN*V=R/\Eu w g n wr
def GY(v:Vr)(w:Vl):Nat:=
 match v with
 | VQ (Vq a) n _=>S6 (λj=>match w.cell? ⟨a.block,a.off+j,Vo⟩ with|some (.int _ x)=>x.toNat|_=>0) n
 |_=>0
def qn{w:Vl}{b0:Nat}{v:Vr}{l:List Nat}(h:bE w b0 v l):GY v w=au l:=by
 obtain⟨A,cap,rfl,_,_,hc⟩:=h;by_cases hl:0<l.length
 ·obtain⟨b,off,rfl,_,hcell⟩:=hc hl;unfold GY au;refine jg (λj hj=> ?_);simp only;rw[hcell j hj];simp
 ·have:l=[]:=XJ;subst this;cases A<;>rfl
def Uw{t u z:Nat}(h1:u<1000000000000000000)(h3:1<=t)(hz:u/t=z):VA.wrap ((u:Int).tdiv (t:Int))=(z:Int):=by
 rw[IntWalk.i64_quo _ _ ⟨VY,VY,VY⟩,<-hz];simp
def OR(w:Vl)(x:Nat):(w.alloc (.cells #[VU VA (x:Int)] 3)).ownsRow w.heap.size 3 1 (VQ (Vq ⟨w.heap.size,0,Vo⟩) 1 1) 1 [VU VA (x:Int)]:=
 ⟨rfl,.inr ⟨w.heap.size,1,#[VU VA (x:Int)],rfl,Vm _,Vy w _,Vm _,Wc,rfl,rfl⟩⟩
def Tc(W:Vl){ops:Array Oper}{rest:List Oper}{o:Oper}{a:Act}{Q:Exit->Act->Vl->Prop}(hgd:o.guard=Vo)(s x:Operand)(ho:o.op= .call {callee:= .builtin .append,args:=#[s,x],argTypes:=#[25,25]})
  (wr:Vl)(d:Nat)(hW:W=wr.alloc (.cells #[VU VA (d:Int)] 3))(hs:a.eval s=VQ (Vq ⟨wr.heap.size,0,Vo⟩) 1 1){b0:Nat}{vx:Vr}{l:List Nat}(hx:a.eval x=vx)(hl:bE W b0 vx l)(hnil:∀m c,vx=VQ Vo m c->c=0)(hn:l.length<=10000000)
  (h:∀v' w',bE w' w'.heap.size v' (d::l)->Dj wr.heap.size v'->Ext wr w'->wpList prog ops Q rest (a.put o.dst v') w'):wpList prog ops Q (o::rest) a W:=by
 subst hW;obtain⟨i0,hi,hz0,hz1,hz2⟩:=info_parts dS;have hown:=OR wr d;have hxw:Ext wr (wr.alloc (.cells #[VU VA (d:Int)] 3)):=(Below.refl _ _).alloc (Vm _) _;have fin:∀v' w',w'.ownsRow wr.heap.size 3 1 v' (1+l.length) ([VU VA (d:Int)]++sN l)->(wr.alloc (.cells #[VU VA (d:Int)] 3)).grownBy w' (Vq wr.heap.size)->wpList prog ops Q rest (a.put o.dst v') w':=by
  intro v' w' ho hg;exact h v' w' (dh (l:=d::l) ho Wa) (EU ho) (eE hxw hg (λk e=>by injection e with e;omega))
 obtain⟨A,cap,rfl,h1,h2,hc⟩:=hl;cases A with
 |none=>
  have e0:=hnil _ _ rfl;obtain rfl:l=[]:=by
   cases l with
   |nil=>rfl
   |cons y l=>obtain⟨_,_,e,_⟩:=hc V5;cases e
  subst e0;exact wpList_append_own_none hgd s x 25 ho wr.heap.size 3 i0 1 underlying25 hi _ 1 _ hs hown hx (fin _ _ hown (Vl.grownBy.refl _ _))
 |some ad=>
  refine wpList_append_own _ hgd s x 25 ho wr.heap.size 3 i0 (VU VA 0) 1 8 underlying25 hi hz0 hz1 hz2 rfl VY _ 1 _ hs hown ad l.length cap (sN l) hx (by unfold sN;simp) ?_ ?_ Wc VY V5 (λv' w' h1 h2 _=>fin v' w' h1 h2)
  ·intro j u hj;have hlt:j<l.length:=by
    have:=(List.getElem?_eq_some_iff.1 hj).1;unfold sN at this;simpa using this
   obtain⟨b,off,e,_,hcell⟩:=hc VY;obtain rfl:ad=⟨b,off,Vo⟩:=VN e;rw[Addr.add_lit,hcell j hlt];rw[<-hj];unfold sN;rw[List.getElem?_map,Vt hlt,lP hlt];rfl
  ·intro u hu;unfold sN at hu;obtain⟨y,_,rfl⟩:=List.mem_map.1 hu
   rfl
def uQ(w:Vl)(b0:Nat)(v:Vr)(l:List Nat)(z:Int)(i p:Nat)(h:bE w b0 v l)(hp:fv l i=p)(hz:z=i)(hi:i<=4611686018427387904):
  VC prog 313 #[v,VU VA z] w λe w'=>e=VV (VU VA p)/\w=w':=by
 subst hz hp;exact nf w b0 v l i h hi
def bE.eq{w:Vl}{b0:Nat}{v v':Vr}{l:List Nat}(h:bE w b0 v l)(e:v=v'):bE w b0 v' l:=e▸h
def wZ(w:Vl)(a b:List Nat)(va vb:Vr)(ha:bE w w.heap.size va a)(hb:bE w w.heap.size vb b)(hsa:kP a)(hcb:aZ b)(hla:a.length<=100000)(hlb:b.length<=100000)(m:Nat)(hm:b.length=m+2):
  VC prog 283 #[va,vb] w (CM (au a) (au b) w):=by
 obtain⟨A,ca,rfl,ha1,ha2,hac⟩:=id ha;obtain⟨A',cb,rfl,hb1,hb2,hbc⟩:=id hb;obtain⟨bb,ob,rfl,_,hbcell⟩:=hbc VY;unfold VJ at ha2 hb2;obtain⟨i0,hi,hz0,hz1,hz2⟩:=info_parts dS;have I0:=Vk hi;have I1:=Vk hz0;have I2:=Vk hz1;have I3:=Vk hz2;obtain⟨n,hn⟩:∃n,a.length=n:=⟨_,rfl⟩;rw[hn] at ha1 hla⊢;rw[hm];rw[hm] at hb1 hlb;have hy0:=hbcell m VY;have hy1:=hbcell (m+1) VY;have hs0:fv b m<1000000:=aI hcb.small m;have hs1:fv b (m+1)<1000000:=aI hcb.small (m+1);have HA:=Vk ha;have HB:=Vk (hb.eq (v':= VQ (Vq ⟨bb,ob,Vo⟩) (m+2) cb) (by rw[hm]));have hy1p:1<=fv b (m+1):=Nat.pos_of_ne_zero (hcb.trim _ (by rw[List.getLast?_eq_getElem?,hm];show b[m+1]?=_;rw[Vt VY,lP VY]));have HN:=Vk hn;have HM:=Vk hm;have HE:=Vk (λr (h:r.length<=m+3)=>Uo (r:=r) hcb.small hm h);have HV0:=Vk (nH hcb.trim (by intro h;rw[h] at hm;simp at hm));obtain⟨y0,hyy0⟩:∃y,fv b m=y:=⟨_,rfl⟩;obtain⟨y1,hyy1⟩:∃y,fv b (m+1)=y:=⟨_,rfl⟩;simp only[hyy0,hyy1] at hy0 hy1 hs0 hs1 hy1p HE;have e1:((m+2:Nat):Int)-1=((m+1:Nat):Int):=VY;have e2:((m+2:Nat):Int)-2=(m:Int):=VY;clear ha hb hac hbc hbcell hn hm hi hz0 hz1 hz2 hyy0 hyy1;go_enter func283,ntmps283;go_wp2_with fail
 go_quiet (fail)
 go_wp2_with(at_make;refine wpList_make_full _ rfl _ _ 25 rfl w.heap.size 3 i0 (VU VA 0) 1 underlying25 I0.o I1.o I2.o .i64 .i64 _ _ n rfl rfl VY VY (by rw[I3.o];omega) Wc (Vm _) ?_;intro w1 hown hgrow)
 have hbel:VL w.heap.size w w1:=(below_drewN (Below.refl w.heap.size w) nq).grown hgrow (Vm _) (λ_ h=>V6);simp only[Vl.heap_drewN] at hown⊢;have hrow:=lk hown;have HS:=Vk (show Tv w a w.heap.size n (m+2) (au b) (VQ (Vq ⟨w1.heap.size,0,Vo⟩) 0 0) (VU VA ((n:Int)-1)) (w1.alloc (.cells #[] 3)) from
  ⟨n,[],Vm _,rfl,⟨⟨_,0,rfl,V5,Wc,λh=>by simp at h⟩,⟨λ_ h=>by simp at h,pY⟩,V5,λ_ _ h=>by simp at h⟩,by rw[<-HN.o,GQ,Nat.zero_mod];rfl,⟨_,V5,hrow.alloc _,hbel.alloc hbel.size _⟩⟩)
 clear hown hgrow hrow hbel;go_loopw [9,10] (λr i wr=>Tv w a w.heap.size n (m+2) (au b) r i wr) (λ_ i _=>(VG i+1).toNat)
 case atStart=>exact HS.o
 case round=>
  obtain⟨k,l,hk,rfl,hR,hlv,hQ⟩:=hrel;have hlt:au l<au b:=by rw[hlv];exact Nat.mod_lt _ HV0.o
  have HLV:=Vk hlv;have HR:=Vk hR;have HQ:=Vk hQ;have HLT:=Vk hlt;obtain⟨q,hql,hrow,hbel⟩:=hQ;rcases k with _|k
  ·have CT:=Vk (dE wr wr.heap.size _ q (hrow.sl hrow.lt));rw[hql] at CT;obtain⟨Ar,cr,hv,_⟩:=id hR.sl;subst hv;have HP:=Vk (show∀vq,CM (au a) (au b) w (VV (VX #[vq,VQ Ar l.length cr])) wr fromλvq=>⟨vq,_,l,rfl,hR.sl.all,hR.canon,hlv,hbel⟩);clear hR hlt hlv hrow hbel hql;go_wp2_with(go_at_call 311;go_must(refine CT.o.mono ?_);rintro e W1 ⟨rfl,rfl⟩)
   go_ret2;exact HP.o _
  ·have sa:=HA.o.below hbel;have hxa:fv a k<1000000:=aI hsa k;obtain⟨_,_,e,_,_,hac⟩:=sa;injection e with e1 e2 e3
   clear e2;subst e1 e3;obtain⟨ba,oa,rfl,_,hcell⟩:=hac WD;have hc:=hcell k WD;obtain⟨x,hxx⟩:∃x,fv a k=x:=⟨_,rfl⟩;rw[hxx] at hc hxa;have HMD:=Vk (show au (az (x::l))%au b=Rl a k%au b by rw[en,oq,hlv,Nat.add_comm,VE,D4,Cv (a:=a) (k:=k) WD,hxx]);clear hlv;have ek:((k+1:Nat):Int)-1=(k:Int):=VY;rw[ek];obtain⟨Ar,cr,hv,_⟩:=id hR.sl;subst hv;have hxc:∀y∈x::l,y<B6:=λy hy=>by
    rcases List.mem_cons.1 hy with h|h
    ·rw[h];exact hxa
    ·exact hR.canon.small y h
   have HC:=Vk (du (l:=x::l) hxc);have HLL:=Vk (show(az (x::l)).length<=m+3 from VB (aR _) (by rw[List.length_cons];have:=hR.len;omega));have HV:=Vk (show au (az (x::l))<1000000*au b by rw[en,oq];omega);have hlen10:l.length<=10000000:=by have:=hR.len;omega
   obtain⟨r1,hr1⟩:∃r1,az (x::l)=r1:=⟨_,rfl⟩;rw[hr1] at HC HLL HV HMD;have HR1:=Vk hr1;have HSL:=Vk (hR.sl.all);have HNIL:=Vk hR.nil;have HBW:=Vk ((HB.o.below hbel).more hbel.size);have HQS:=Vk hbel.size;have hp2s:fv r1 (m+2)<1000000:=aI HC.o.small _;have hp1s:fv r1 (m+1)<1000000:=aI HC.o.small _;have hp0s:fv r1 m<1000000:=aI HC.o.small _;have hest:=HE.o r1 HLL.o;obtain⟨p2,qG⟩:∃p,fv r1 (m+2)=p:=⟨_,rfl⟩;obtain⟨p1,lD⟩:∃p,fv r1 (m+1)=p:=⟨_,rfl⟩;obtain⟨p0,hp0⟩:∃p,fv r1 m=p:=⟨_,rfl⟩;rw[qG,lD,hp0] at hest;rw[qG] at hp2s;rw[lD] at hp1s;rw[hp0] at hp0s;have P2:=Vk qG;have P1:=Vk lD;have P0:=Vk hp0;obtain⟨u,hu⟩:∃u,(p2*1000000+p1)*1000000+p0=u:=⟨_,rfl⟩;obtain⟨t,ht⟩:∃t,y1*1000000+y0+1=t:=⟨_,rfl⟩;obtain⟨g,hg⟩:∃g,u/t=g:=⟨_,rfl⟩;have w6:VA.wrap ((((p2:Int)*1000000+p1)*1000000+p0).tdiv ((y1:Int)*1000000+y0+1))=(g:Int):=by
    have:=Uw (t:=t) (u:=u) VY VY hg;rw[<-this,<-hu,<-ht];simp
   have hgs:g<1000000000000:=by
    rw[<-hg];exact(Nat.div_lt_iff_lt_mul VY).2 VY
   have HEST:=Vk (show g*au b<=au r1 by rw[<-hg,<-hu,<-ht];exact hest);have hnz:¬((y1:Int)*1000000+y0+1=0):=VY;have HFG:=Vk (P7 hgs);have HSB:=Vk hcb.small;have HR1L:=Vk (show r1.length<=1000000 by have:=HLL.o;omega);have HBL:=Vk (show b.length<=1000000 by have:=HM.o;omega);clear hR hlt hrow hbel hql hcell hac hxx hxc hr1 hest qG lD hp0 hu ht hg;go_wp2_with(first
    |(go_at_call 314;go_loud (refine(nX w3 r1 l3 _ _ HS4.o HS5.o HC.o.small HS6.o HR1L.o).mono ?_);rintro e w4 ⟨v4,l4,rfl,hs7,hc7,hl7,hx7,hf7⟩)
    |(go_at_call 315;go_loud (refine(rM _ b [g] _ _ ((HBW.o.grow hx2).new _) (show bE _ _ (VQ (Vq ⟨w2.heap.size,0,Vo⟩) 1 1) [g] from(row_one w2 g).sl (row_one w2 g).lt) HSB.o HFG.o HBL.o V5).mono ?_);rintro e w3 ⟨v3,l3,rfl,hs3,hc3,⟨hv3,hl3⟩,hx3,hf3⟩;have HS4:=Vk (show bE w3 w3.heap.size (Mi v2 (x::l)) r1 from(HS3.o.new _).grow hx3);have HS5:=Vk hs3;have HS6:=Vk hc3.small)
    |(go_at_call 313;first|(refine(uQ w2 _ _ r1 _ (m+2) p2 HS3.o P2.o VY VY).mono ?_;rintro e W1 ⟨rfl,rfl⟩)|(refine(uQ w2 _ _ r1 _ (m+1) p1 HS3.o P1.o VY VY).mono ?_;rintro e W1 ⟨rfl,rfl⟩)|(go_loud (refine(uQ w2 _ _ r1 _ m p0 HS3.o P0.o VY VY).mono ?_);rintro e W1 ⟨rfl,rfl⟩))
    |(go_at_call 311;go_loud (refine(dE w2 _ v2 (x::l) HS2.o).mono ?_);rintro e W1 ⟨rfl,rfl⟩)
    |(at_builtin;refine Tc _ rfl _ _ rfl wr x rfl rfl rfl (HSL.o.new _) HNIL.o hlen10 ?_;intro v2 w2 hs2 hf2 hx2;have HS2:=Vk hs2;have HS3:=Vk (show bE w2 w2.heap.size (Mi v2 (x::l)) r1 from HR1.o▸hs2.trimmed)))
   have hxt:Ext wr w3:=hx2.trans (((Below.refl _ _).alloc (Vm _) _).trans (hx3.mono V5) |>.mono hx2.size);have hxw:Ext wr w4:=hxt.trans (hx7.mono hxt.size);have hv3':au l3=g*au b:=by rw[hv3,nP,VE]
   have hle3:au l3<=au r1:=by rw[hv3'];exact HEST.o
   have hll3:=kJ hc3 HC.o.small hle3;have hv4:au l4=au r1-au l3:=by rw[hl7];exact pQ HC.o.small HS6.o hll3 hle3
   have hl4:l4.length<=m+3:=by rw[hl7];exact VB (aR _) (by rw[bA];exact HLL.o)
   have HI:=Vk (show Rc w w.heap.size n (m+2) (au b) (au r1) v4 (VU VA (g:Int)) w4 from
    ⟨g,l4,rfl,⟨hs7.fresh hf7 (Nat.lt_of_lt_of_le HQ.o.lt hxt.size),hc7,hl4,λm' c e=>(hf7 _ _ _ e).1 rfl⟩,by rw[hv4,hv3'];have:=HEST.o;omega,HQ.o.ext hxw⟩)
   clear hxt hxw hv3' hle3 hll3 hv4 hl4 hs7 hc7 hl7 hx7 hf7 hs3 hc3 hv3 hl3 hx3 hf3;go_loopw [9,11] (λr z wi=>Rc w w.heap.size n (m+2) (au b) (au r1) r z wi) (λr _ wi=>GY r wi)
   case atStart=>exact HI.o
   case round=>
    obtain⟨z,l5,rfl,hR5,he5,hQ5⟩:=hrel;have hz6:=R7 he5 HV.o;obtain⟨A5,c5,hv5,_⟩:=id hR5.sl;subst hv5;have S5:=Vk hR5.sl.all;have hxw5:Ext w wr:=by obtain⟨_,_,_,h⟩:=hQ5;exact h
    have B5:=Vk ((HB.o.below hxw5).more hxw5.size);have CS:=Vk (vC wr l5 b _ _ S5.o B5.o hR5.canon hcb);have Q5:=Vk hQ5;have R5:=Vk hR5;have E5:=Vk he5;have hL5:l5.length<=1000000:=by have:=hR5.len;omega
    by_cases hge:au b<=au l5
    ·have HGE:=Vk hge;clear hR5 hQ5 he5 hxw5 hge;go_wp2_with(first
      |(go_at_call 314;go_loud (refine(nX w6 l5 b _ _ (S5.o.grow X6.o) (B5.o.grow X6.o) R5.o.canon.small HSB.o hL5).mono ?_);rintro e w7 ⟨v7,l7,rfl,hs7,hc7,hl7,hx7,hf7⟩)
      |(go_at_call 316;go_loud (refine CS.o.mono ?_);rintro e w6 ⟨⟨c,rfl,h1,h2⟩,hx6⟩;have X6:=Vk hx6;have hc0:0<=c:=Int.not_lt.1 (λh=>absurd (h1 h) (Nat.not_lt.2 HGE.o));clear h1 h2 hx6))
     have hb5:=kJ hcb R5.o.canon.small HGE.o;have hv7:au l7=au l5-au b:=by rw[hl7];exact pQ R5.o.canon.small HSB.o hb5 HGE.o
     have hx67:Ext wr w7:=X6.o.trans (hx7.mono X6.o.size);refine⟨⟨z+1,l7,V5,⟨hs7.fresh hf7 (Nat.lt_of_lt_of_le Q5.o.lt X6.o.size),hc7,by rw[hl7];exact VB (aR _) (by rw[bA];exact R5.o.len),λm' c e=>(hf7 _ _ _ e).1 rfl⟩,?_,Q5.o.ext hx67⟩,?_⟩
     ·have:=E5.o;have:=HGE.o;rw[hv7,Nat.add_mul,Nat.one_mul];omega
     ·rw[qn hs7,qn S5.o,hv7];have:=HV0.o;have:=HGE.o;omega
    ·have HGE:=Vk hge;have HL5:=Vk (show l5.length<=m+2 by have:=kJ R5.o.canon HSB.o VY;rw[HM.o] at this;exact this);clear hR5 hQ5 he5 hxw5 hge;go_wp2_with(go_at_call 316;go_loud (refine CS.o.mono ?_);rintro e w6 ⟨⟨c,rfl,h1,h2⟩,hx6⟩;have X6:=Vk hx6;have hc0:¬0<=c:=(λh=>absurd (h2 VY).1 HGE.o);obtain⟨q6,hq6,hr6,hb6⟩:=Q5.o.ext hx6;have Q6:=Vk hq6;have R6:=Vk hr6;have B6':=Vk hb6;have hx:=hr6.cell (j:=k) VY;have hfr:=hr6.frozen k;obtain⟨y,hyy⟩:∃y,fv q6 k=y:=⟨_,rfl⟩;rw[hyy] at hx;clear h1 h2 hx6 hq6 hr6 hb6 hyy)
     have ho:=(dO.refl w.heap.size w6).set k (VU VA (z:Int));refine⟨⟨k,l5,VY,rfl,⟨ho.SW (R5.o.sl.ext X6.o),R5.o.canon,HL5.o,R5.o.nil⟩,by rw[<-HMD.o,<-E5.o,Nat.add_mul_mod_self_right,Nat.mod_eq_of_lt (by have:=HGE.o;omega)],⟨q6.set k z,by rw[List.length_set];exact Q6.o,R6.o.set (by have:=Q6.o;omega) z,B6'.o.setCell (p:=⟨w.heap.size,k,Vo⟩) (Vm _) _⟩⟩,?_⟩;simp[VG]
end
section
open Kp
def zn(w:Vl)(a b:List Nat)(va vb:Vr)(ha:bE w w.heap.size va a)(hb:bE w w.heap.size vb b)(hsa:kP a)(hcb:aZ b)(hla:a.length<=100000)(hlb:b.length<=100000)(hne:b≠[]):
  VC prog 283 #[va,vb] w (CM (au a) (au b) w):=by
 rcases b with _|⟨d,_|⟨d2,b⟩⟩
 ·exact absurd rfl hne
 ·have hd1:d<1000000:=hcb.small d V5;have hd0:1<=d:=Nat.pos_of_ne_zero (hcb.trim d rfl);have HC:=Vk (Bc w a va d ha hsa hd0 hd1 VY);obtain⟨A',cb,rfl,hb1,hb2,hbc⟩:=id hb;obtain⟨bb,ob,rfl,_,hcell⟩:=hbc V5;have hx:w.cell? ⟨bb,ob,Vo⟩=Vq (VU VA d):=hcell 0 V5;obtain⟨A,ca,rfl,_,_,_⟩:=ha;rw[nP];clear hb hbc hcell;go_enter func283,ntmps283;go_wp2_with(go_at_call 312;go_loud (refine HC.o.mono ?_);rintro e w1 ⟨vq,vr,l,rfl,h1,h2,h3,h4⟩)
  go_ret2;exact⟨_,_,l,rfl,h1,h2,h3,h4⟩
 ·exact wZ w a (d::d2::b) va vb ha hb hsa hcb hla hlb b.length V5
end
section
open Kp
def ah.qe{w:Vl}{b:Nat}{T:VK}{x y:Vr}(h:ah w b T [x,y])(v:Vr):ah (w.setCell ⟨b,1,Vo⟩ v) b T [x,v]:=by
 exact YV
def ah.mQ{w:Vl}{b:Nat}{T:VK}{x y:Vr}(h:ah w b T [x,y])(v:Vr):ah (w.setCell ⟨b,0,Vo⟩ v) b T [v,y]:=by
 exact YV
def ah.below{B:Nat}{w w':Vl}{b:Nat}{T:VK}{l:List Vr}(h:ah w b T l)(hx:VL B w w')(hb:b<B):ah w' b T l:=(hx.block b hb).trans h
def Ra(n:Nat)(w:Vl)(e:Ending)(w':Vl):Prop:=∃s v l,e=VV (VW #[VS s,v])/\bE w' w'.heap.size v l/\aZ l/\l.length<=n/\Ext w w'
def FM(z:ByteArray)(w:Vl)(e:Ending)(w':Vl):Prop:=∃s v l,e=VV (VW #[VS s,v])/\bE w' w'.heap.size v l/\aZ l/\l.length<=51/\Ext w w'/\(SS z 0 z.size->au l=cJ z z.size)
def rd_val{y:ByteArray}{j b x g:Nat}(h:cJ y j=cJ y b*10^(j-b)+x)(hs:cJ y (j+1)=10*cJ y j+g)(hk:b<=j):cJ y (j+1)=cJ y b*10^(j+1-b)+(10*x+g):=by
 have e:(10:Nat)^(j+1-b)=10^(j-b)*10:=by rw[show j+1-b=(j-b)+1 by omega,Nat.pow_succ]
 rw[hs,h,e,<-Nat.mul_assoc,VE _ 10];omega
def Az{y:ByteArray}{j b x:Nat}(hb:j-6=b)(h:cJ y j=cJ y b*10^(j-b)+x):cJ y j=cJ y b*1000000+x:=by
 by_cases h6:6<=j
 ·rw[h,show j-b=6 by omega]
 ·obtain rfl:b=0:=VY;rw[h];simp[cJ]
def sM{L V x nb nj N:Nat}(h1:V+B6^L*nj=N)(h2:nj=nb*1000000+x):V+x*B6^L+B6^(L+1)*nb=N:=by
 have e:B6^L*(nb*1000000)=B6^(L+1)*nb:=by rw[Nat.pow_succ,Nat.mul_assoc,VE nb]
 rw[<-h1,h2,Nat.mul_add,e,VE x];omega
structure St(w:Vl)(s:Bool)(v:Vr)(l:List Nat)(wr:Vl):Prop where
 res:ah wr w.heap.size 308 [VS Vp,VQ Vo 0 0]
 num:ah wr (w.heap.size+1) 308 [VS s,v]
 own:wr.ownsRow (w.heap.size+2) 3 1 v l.length (sN l)
 small:kP l
 ext:Ext w wr
def yj(w:Vl)(s:Bool)(y:ByteArray)(e:Vr)(wr:Vl):Prop:=∃(k:Int) (v:Vr) (l:List Nat),e=VU VA k/\k+6*(l.length:Int)=y.size/\ -6<k/\au l+B6^l.length*cJ y k.toNat=cJ y y.size/\St w s v l wr
def G8(y:ByteArray)(W:Vl)(s e:Nat)(n i:Vr)(wi:Vl):Prop:=∃x k:Nat,n=VU VA (x:Int)/\i=VU VA (k:Int)/\s<=k/\k<=e/\x<10^(k-s)/\cJ y k=cJ y s*10^(k-s)+x/\wi=W
def yU{x k s c:Nat}(h:x<10^(k-s))(hk:s<=k)(hc:c<=9):10*x+c<10^(k+1-s):=by
 have:(10:Nat)^(k+1-s)=10^(k-s)*10:=by rw[<-Nat.pow_succ];congr 1;omega
 omega
def nS{x d:Nat}(h:x<10^d)(hd:d<=6):x<1000000:=
 Nat.lt_of_lt_of_le h (VB (Nat.pow_le_pow_right V0 hd) V0)
def oO{w wr:Vl}{s:Bool}{v:Vr}{l:List Nat}{x:Nat}(h:St w s v l wr)(hx:x<1000000)(v':Vr)(w':Vl)
  (ho:w'.ownsRow (w.heap.size+2) 3 1 v' (l.length+1) (sN l++[VU VA (x:Int)]))(hg:(wr.alloc (.cells #[VU VA (x:Int)] 3)).grownBy w' v.ownBlock):
  w'.cell? ⟨w.heap.size+1,1,Vo⟩=Vq v/\w'.frozen? ⟨w.heap.size+1,1,Vo⟩=Vp/\St w s v' (l++[x]) (w'.setCell ⟨w.heap.size+1,1,Vo⟩ v'):=by
 have b1:VL (w.heap.size+2) wr w':=((Below.refl _ _).alloc (by have:=h.num.lt;omega) _).grown hg (by have:=h.num.lt;simp;omega) (λk e=>(ak h.own k e).1);have n1:=h.num.below b1 VY;have hne:=ak ho;refine⟨n1.cell 1,n1.frozen 1,((h.res.below b1 VY).dx V5 _),n1.qe _,?_,?_,(h.ext.trans (b1.mono VY)).setCell (p:=⟨w.heap.size+1,1,Vo⟩) V5 _⟩
 ·rw[VD];have e:sN (l++[x])=sN l++[VU VA (x:Int)]:=by unfold sN;rw[List.map_append];rfl
  rw[e];exact bf ho (λh=>XA) _
 ·intro d hd;rcases List.mem_append.1 hd with h1|h1
  ·exact h.small d h1
  ·rw[List.mem_singleton.1 h1];exact hx
def uN(w:Vl)(z:ByteArray)(hz:MD z):VC prog 282 #[VR z] w (FM z w):=by
 obtain⟨i0,hi,hz0,hz1,hz2⟩:=info_parts dS;have I0:=Vk hi;have I1:=Vk hz0;have I2:=Vk hz1;have I3:=Vk hz2;obtain⟨f,hf1,hfz,hd,h300,h45⟩:=hz.ex;have hp:0<z.size:=VY;obtain⟨y,hy⟩:∃y:ByteArray,z.extract f z.size=y:=⟨_,rfl⟩;have hys:y.size=z.size-f:=by rw[<-hy,ByteArray.size_extract,Nat.min_self]
 have hyd:SS y 0 y.size:=by
  exact a0q
 obtain⟨p,hpp⟩:∃p,(((z[0]'hp).toNat:Int)==45)=p:=⟨_,rfl⟩;have hpf:p=decide (f=1):=by
  exact a0p
 have hfy:f=0->z=y:=by
  intro e;subst e;rw[<-hy];simp[ByteArray.extract_zero_size]
 clear hi hz0 hz1 hz2 hz h45;have YD:=Vk hyd;have HYS:=Vk hys;have hyl:y.size<=300:=VY;have hy0:0<y.size:=VY;have HFY:=Vk hfy;have START:=Vk (show∀s,yj w s y (VU VA (y.size:Int)) ((w.alloc (Obj.cells #[VS Vp,VQ Vo 0 0] 308)).alloc (Obj.cells #[VS s,VQ Vo 0 0] 308)) fromλs=>
  ⟨_,_,[],rfl,V5,VY,by simp[au,S6],(ah.new w _ _).ext ((Below.refl _ _).alloc (Vm _) _),WZ,⟨rfl,.inl ⟨rfl,rfl⟩⟩,(λ_ h=>V6),((Below.refl _ _).alloc (Vm _) _).alloc V5 _⟩)
 clear hyd hfy;clear hys;cases p with
 |true=>
  obtain rfl:f=1:=by simpa using hpf.symm
  have HY:=Vk hy;clear hpf hy h300 hd;go_enter func282,ntmps282;go_wp2_with fail
  rw[HY.o,<-HYS.o];have ST:=Vk (START.o Vv);go_loopw [4] (λe wr=>yj w Vv y e wr) (λe _=>(VG e+6).toNat)
  case atStart=>exact ST.o
  case round=>
   obtain⟨k,v,l,rfl,hk,hk6,hV,hM⟩:=hrel;have HVV:=Vk hV;clear hV;have HM:=Vk hM;have HK:=Vk hk;have HYL:=Vk hyl;by_cases hpos:0<k
   ·exact a0o
   ·have hM2:=HM.o;obtain⟨A4,n4,c4,e4⟩:=nk.of hM2.own;subst e4;have hsl:=dh hM2.own rfl;have CT:=Vk (show VC prog 311 #[VQ A4 n4 c4] wr λe w'=>e=VV (VQ A4 (az l).length c4)/\wr=w' from dE wr _ _ l hsl);have hst:=hsl.trimmed;obtain⟨q,hq⟩:∃q,(az l).length=q:=⟨_,rfl⟩;have hl51:(az l).length<=51:=VB (aR _) XB;have hcl:=hM2.num.cell 1;have r1:=hM2.num.qe (VQ A4 q c4);have r2:=hM2.res.dx (p:=⟨w.heap.size+1,1,Vo⟩) V5 (VQ A4 q c4);have f1:=hM2.num.frozen 1;have c0:=r1.cell 0;have c1:=r1.cell 1;have d0:=r2.cell 0;have d1:=r2.cell 1;have g0:=r2.frozen 0;have g1:=r2.frozen 1;have r3:=r2.oT (VS Vv) (VQ A4 q c4);have HQ0:=Vk (r3.cell 0);have HQ1:=Vk (r3.cell 1);have hxx:Ext w (((wr.setCell ⟨w.heap.size+1,1,Vo⟩ (VQ A4 q c4)).setCell ⟨w.heap.size,0,Vo⟩ (VS Vv)).setCell ⟨w.heap.size,1,Vo⟩ (VQ A4 q c4)):=((hM2.ext.setCell (p:=⟨w.heap.size+1,1,Vo⟩) V5 _).setCell (p:=⟨w.heap.size,0,Vo⟩) V5 _).setCell (p:=⟨w.heap.size,1,Vo⟩) V5 _;have hfin:FM z w (VV (VW #[VS Vv,VQ A4 q c4])) (((wr.setCell ⟨w.heap.size+1,1,Vo⟩ (VQ A4 q c4)).setCell ⟨w.heap.size,0,Vo⟩ (VS Vv)).setCell ⟨w.heap.size,1,Vo⟩ (VQ A4 q c4)):=by
     refine⟨_,_,az l,rfl,?_,du hM2.small,hl51,hxx,λh=>absurd (h 0 (Vm _) hp hp) (by have:=beq_iff_eq.1 hpp;omega)⟩;exact a0n
    exact a0m
 |false=>
  have h0:f=0:=by
   have:¬f=1:=by simpa using hpf.symm
   omega
  obtain rfl:=HFY.o h0;clear hpf hy h300 hd HFY;have ST:=Vk (START.o Vp);go_enter func282,ntmps282;go_wp2_with fail
  go_loopw [4] (λe wr=>yj w Vp z e wr) (λe _=>(VG e+6).toNat)
  case atStart=>exact ST.o
  case round=>
   obtain⟨k,v,l,rfl,hk,hk6,hV,hM⟩:=hrel;have HVV:=Vk hV;clear hV;have HM:=Vk hM;have HK:=Vk hk;have HYL:=Vk hyl;by_cases hpos:0<k
   ·exact a0l
   ·have hM2:=HM.o;obtain⟨A4,n4,c4,e4⟩:=nk.of hM2.own;subst e4;have hsl:=dh hM2.own rfl;have CT:=Vk (show VC prog 311 #[VQ A4 n4 c4] wr λe w'=>e=VV (VQ A4 (az l).length c4)/\wr=w' from dE wr _ _ l hsl);have hst:=hsl.trimmed;obtain⟨q,hq⟩:∃q,(az l).length=q:=⟨_,rfl⟩;have hl51:(az l).length<=51:=VB (aR _) XB;have hcl:=hM2.num.cell 1;have r1:=hM2.num.qe (VQ A4 q c4);have r2:=hM2.res.dx (p:=⟨w.heap.size+1,1,Vo⟩) V5 (VQ A4 q c4);have f1:=hM2.num.frozen 1;have c0:=r1.cell 0;have c1:=r1.cell 1;have d0:=r2.cell 0;have d1:=r2.cell 1;have g0:=r2.frozen 0;have g1:=r2.frozen 1;have r3:=r2.oT (VS Vp) (VQ A4 q c4);have HQ0:=Vk (r3.cell 0);have HQ1:=Vk (r3.cell 1);have hxx:Ext w (((wr.setCell ⟨w.heap.size+1,1,Vo⟩ (VQ A4 q c4)).setCell ⟨w.heap.size,0,Vo⟩ (VS Vp)).setCell ⟨w.heap.size,1,Vo⟩ (VQ A4 q c4)):=((hM2.ext.setCell (p:=⟨w.heap.size+1,1,Vo⟩) V5 _).setCell (p:=⟨w.heap.size,0,Vo⟩) V5 _).setCell (p:=⟨w.heap.size,1,Vo⟩) V5 _;have hfin:FM z w (VV (VW #[VS Vp,VQ A4 q c4])) (((wr.setCell ⟨w.heap.size+1,1,Vo⟩ (VQ A4 q c4)).setCell ⟨w.heap.size,0,Vo⟩ (VS Vp)).setCell ⟨w.heap.size,1,Vo⟩ (VQ A4 q c4)):=by
     refine⟨_,_,az l,rfl,?_,du hM2.small,hl51,hxx,λ_=>by rw[en];have h:=HVV.o;rw[show k.toNat=0 by omega] at h;simpa[cJ] using h⟩;exact a0k
    exact a0j
end
section
open Kp
def Gi:(prog.info? 5).map (λi=>(i.zero,i.size,i.bytes))=Vq (Vq (VU .u8 0),1,1):=VZ
def uZ(w:Vl)(g:Nat)(l:List Nat):Prop:=
 ∃cur:Array Vr,w.heap[g]?=Vq (.cells cur 5 (0,0))/\cur.size=l.length/\∀j,j<l.length->cur[j]?=Vq (VU .u8 (fv l j))
def uZ.lt{w:Vl}{g:Nat}{l:List Nat}(h:uZ w g l):g<w.heap.size:=by
 obtain⟨cur,hh,_⟩:=h;exact(Vz.1 hh).1
def uZ.cell{w:Vl}{g:Nat}{l:List Nat}(h:uZ w g l){j:Nat}(hj:j<l.length):w.cell? ⟨g,j,Vo⟩=Vq (VU .u8 (fv l j)):=by
 obtain⟨cur,hh,_,hc⟩:=h;simp[World.cell?,hh,hc j hj]
def uZ.frozen{w:Vl}{g:Nat}{l:List Nat}(h:uZ w g l)(j:Nat):w.frozen? ⟨g,j,Vo⟩=Vp:=by
 obtain⟨cur,hh,_⟩:=h;simp[World.frozen?,hh]
def uZ.set{w:Vl}{g:Nat}{l:List Nat}(h:uZ w g l){j:Nat}(hj:j<l.length)(x:Nat):uZ (w.setCell ⟨g,j,Vo⟩ (VU .u8 x)) g (l.set j x):=by
 obtain⟨cur,hh,h1,hc⟩:=h;refine⟨cur.setIfInBounds j (VU .u8 x),?_,by simp[h1],λk hk=> ?_⟩
 ·exact XT
 ·exact XS
def xv{w:Vl}{base g n:Nat}(h:w.ownsRow base 5 1 (VQ (Vq ⟨g,0,Vo⟩) n n) n (madeCells (Value.int .u8 0).cells (n*1)).toList):uZ w g (List.replicate n 0):=by
 obtain⟨hl,h|⟨g',cap',cur,e,hb,hh,h1,h2,h3,h4⟩⟩:=h
 ·obtain⟨h,_⟩:=h;cases h
 ·injection e with e1 e2 e3
  injection e1 with e1
  injection e1 with e1
  subst e1 e3;refine⟨cur,hh,Wa,λj hj=> ?_⟩;simp at hj;have:(madeCells (Value.int .u8 0).cells (n*1)).toList[j]?=Vq (VU .u8 (fv (List.replicate n 0) j)):=by
   rw[me];simp[madeCells,Value.cells,hj,Nat.mod_one]
  rw[<-h4,List.getElem?_take,if_pos VY] at this;exact Ya
def iz(l:List Nat)(q:Nat):Nat:=
 fv l (q/6)/10^(q%6)
  %10
structure zW(w0:Vl)(g:Nat)(l:List Nat)(d:Nat)(xs:List Nat)(wr:Vl):Prop where
 row:uZ wr g xs
 len:xs.length=6*l.length
 iD:∀q,q<d->fv xs (6*l.length-1-q)=48+iz l q
 ext:VL g w0 wr
def zW.next{w0:Vl}{g:Nat}{l:List Nat}{d:Nat}{xs:List Nat}{wr:Vl}(h:zW w0 g l d xs wr)(hd:d<6*l.length){x j:Nat}(hx:x=48+iz l d)(hj:j=6*l.length-1-d):
  zW w0 g l (d+1) (xs.set j x) (wr.setCell ⟨g,j,Vo⟩ (VU .u8 (x:Int))):=by
 have hl:=h.len;refine⟨h.row.set VY x,by rw[List.length_set];exact hl,λq hq=> ?_,h.ext.setCell (p:=⟨g,j,Vo⟩) (Vm _) _⟩;rw[ie VY];by_cases e:q=d
 ·rw[if_pos VY,hx,e]
 ·rw[if_neg VY];exact h.iD q VY
def mI(l:List Nat)(k j:Nat)(hj:j<6):iz l (6*k+j)=fv l k/10^j%10:=by
 unfold iz;rw[show(6*k+j)/6=k by omega,Nat.mul_add_mod,Nat.mod_eq_of_lt hj]
def GM{l:List Nat}(hc:aZ l)(hl:0<l.length):∃q,q<6*l.length/\iz l q≠0:=by
 have ht:fv l (l.length-1)≠0:=hc.trim _ (by rw[List.getLast?_eq_getElem?,Vt VY,lP VY]);have hs:fv l (l.length-1)<1000000:=aI hc.small _;obtain⟨t,e⟩:∃t,fv l (l.length-1)=t:=⟨_,rfl⟩;rw[e] at ht hs;have key:∃r,r<6/\t/10^r%10≠0:=by
  apply Classical.byContradiction;intro h;have f:∀r,r<6->t/10^r%10=0:=λr hr=>Classical.byContradiction λh2=>h ⟨r,hr,h2⟩
  have f0:=f 0 V0;have f1:=f 1 V0;have f2:=f 2 V0;have f3:=f 3 V0;have f4:=f 4 V0;have f5:=f 5 V0;simp at f0 f1 f2 f3 f4 f5;omega
 obtain⟨r,hr,h⟩:=key;refine⟨6*(l.length-1)+r,VY,?_⟩;rw[mI _ _ _ hr,e];exact h
def TD{t:Nat}(ht:t<1000000)(h:∀r,1<=r->r<6->t/10^r%10=0):t=t/10^0%10:=by
 have f1:=h 1 V0 V0;have f2:=h 2 V0 V0;have f3:=h 3 V0 V0;have f4:=h 4 V0 V0;have f5:=h 5 V0 V0;simp at f1 f2 f3 f4 f5⊢;omega
def SG{l xs:List Nat}{o:Nat}(hc:aZ l)(hd:∀q,q<6*l.length->fv xs (6*l.length-1-q)=48+iz l q)(hb:∀j,j<o->fv xs j=48)(ho:o<6*l.length)(hne:fv xs o≠48):
  (strOfNums ((List.range (6*l.length-o)).map λj=>((fv xs (o+j):Nat):Int))).toList=[49]↔au l=1:=by
 rw[ByteArray.toList_eq,strOfNums_data,List.map_map];constructor
 ·intro h;have hz:6*l.length-o=1:=by simpa using congrArg List.length h
  have h0:=hd 0 VY;rw[show 6*l.length-1-0=o by omega] at h0;rw[hz] at h;have hlt:iz l 0<10:=Nat.mod_lt _ V0;have h1:iz l 0=1:=by
   have h2:UInt8.ofNat (fv xs o)=49:=by simpa[List.range_succ] using h
   have h3:=congrArg UInt8.toNat h2;simp at h3;omega
  have hq:∀q,1<=q->q<6*l.length->iz l q=0:=by
   intro q hq1 hq2;have h2:=hd q hq2;rw[hb _ VY] at h2;omega
  have hlen:l.length=1:=by
   apply Classical.byContradiction;intro hl;have ht:fv l (l.length-1)≠0:=hc.trim _ (by rw[List.getLast?_eq_getElem?,Vt VY,lP VY]);apply ht;rw[TD (aI hc.small _) (λr _ hr=>by rw[<-mI l (l.length-1) r hr];exact hq _ VY VY),<-mI l (l.length-1) 0 V0];exact hq _ VY VY
  have h2:fv l 0=1:=by
   rw[TD (aI hc.small 0) (λr hr1 hr=>by rw[<-mI l 0 r hr];exact hq _ VY VY),<-mI l 0 0 V0];exact h1
  match l,hlen with
  |[x],_=>rw[nP];exact h2
 ·intro h;have hlen:l.length=1:=by
   have hne:l≠[]:=by rintro rfl;cases h
   have h1:=sL hc.trim hne;rw[h] at h1;rcases Nat.lt_or_ge l.length 2 with h2|h2
   ·have:=List.length_pos_iff.2 hne;omega
   ·have:B6^1<=B6^(l.length-1):=Nat.pow_le_pow_right V0 VY;have h3:B6^1=1000000:=V0;omega
  match l,hlen with
  |[x],_=>
   rw[nP] at h;subst h;have h5:=hd (5-o) (by show 5-o<6;omega);have ho6:o<6:=ho;rw[show 6*([1]:List Nat).length-1-(5-o)=o from(by show 6-1-(5-o)=o;omega)] at h5;have h6:o=5:=by
    rcases(show o=0\/o=1\/o=2\/o=3\/o=4\/o=5 by omega) with rfl|rfl|rfl|rfl|rfl|rfl
    ·exact absurd h5 (by rw[show iz [1] (5-0)=0 by decide];exact hne)
    ·exact absurd h5 (by rw[show iz [1] (5-1)=0 by decide];exact hne)
    ·exact absurd h5 (by rw[show iz [1] (5-2)=0 by decide];exact hne)
    ·exact absurd h5 (by rw[show iz [1] (5-3)=0 by decide];exact hne)
    ·exact absurd h5 (by rw[show iz [1] (5-4)=0 by decide];exact hne)
    ·rfl
   subst h6;rw[show iz [1] (5-5)=1 by decide] at h5;simp[List.range_succ,h5]
def TT(n:Nat)(s:Bool)(l:List Nat)(w:Vl)(e:Ending)(w':Vl):Prop:=∃t:ByteArray,e=VV (VR t)/\0<t.size/\t.size<=n/\Ext w w'/\(s=Vp->(t.toList=[49]↔au l=1))
def DL(w:Vl)(s:Bool)(v:Vr)(l:List Nat)(hs:bE w w.heap.size v l)(hc:aZ l)(hl:l.length<=100000):
  VC prog 284 #[VW #[VS s,v]] w (TT (6*l.length+1) s l w):=by
 obtain⟨A,ca,rfl,ha1,ha2,hac⟩:=id hs;unfold VJ at ha2;by_cases h0:l.length=0
 ·rw[h0];clear hac;go_enter func284,ntmps284;go_wp2_with fail
  go_ret;obtain rfl:l=[]:=List.length_eq_zero_iff.1 h0;exact⟨_,rfl,V0,V0,(Below.refl _ _).alloc (Vm _) _,λ_=>⟨λh=>absurd h (by rw[ByteArray.toList_eq];decide),λh=>V6⟩⟩
 obtain⟨b,off,rfl,hbw,_⟩:=hac VY;obtain⟨i0,hi,hz0,hz1,hz2⟩:=info_parts Gi;obtain⟨p,hp,hpd⟩:=GM hc VY;obtain⟨n,hn⟩:∃n,l.length=n:=⟨_,rfl⟩;have HN:=Vk hn;have HPD:=Vk hpd;have HP:=Vk hp;rw[hn] at ha1 hl h0⊢;have HS:=Vk hs;clear hs hn hpd hp hac;go_enter func284,ntmps284;go_wp2_with(at_make;refine wpList_make_full _ rfl _ _ 119 rfl (w.heap.size+1) 5 i0 (VU .u8 0) 1 underlying119 hi hz0 hz1 .i64 .i64 _ _ (6*n) rfl rfl VY VY XF Wc V5 ?_;intro w1 hown hgrow)
 have hrow:=ah.new w 308 [VS s,VQ (Vq ⟨b,off,Vo⟩) n ca];have hb1:VL (w.heap.size+1) (w.alloc (Obj.cells #[VS s,VQ (Vq ⟨b,off,Vo⟩) n ca] 308)) w1:=(Below.refl _ _).grown hgrow V5 (λ_ h=>V6);simp only[VF] at hown⊢;have HBX:=Vk (show ah (w.alloc (Obj.cells #[VS s,VQ (Vq ⟨b,off,Vo⟩) n ca] 308)) w.heap.size 308 [VS s,VQ (Vq ⟨b,off,Vo⟩) n ca] from hrow);have HX0:=Vk (show VL w.heap.size w (w.alloc (Obj.cells #[VS s,VQ (Vq ⟨b,off,Vo⟩) n ca] 308)) from(Below.refl _ _).alloc (Vm _) _);obtain⟨w0,hw0⟩:∃w0,w.alloc (Obj.cells #[VS s,VQ (Vq ⟨b,off,Vo⟩) n ca] 308)=w0:=⟨_,rfl⟩;rw[hw0] at hb1 HBX HX0;have ST:=Vk (show zW w0 (w.heap.size+1) l (6*0) (List.replicate (6*n) 0) w1 from⟨xv hown,by rw[List.length_replicate,HN.o],λq hq=>VY,hb1⟩);clear hown hgrow hrow hb1 hw0 hi hz0 hz1 hz2;go_loopw [4] (λi wr=>∃(k:Nat) (xs:List Nat),k<=n/\i=VU VA (k:Int)/\zW w0 (w.heap.size+1) l (6*k) xs wr) (λi _=>n-(VG i).toNat)
 case atStart=>exact⟨0,_,VY,rfl,ST.o⟩
 case round=>
  obtain⟨i,xs,hi,rfl,hW⟩:=hrel;have hbx:=HBX.o.below hW.ext (Nat.lt_succ_self _);have hc1:=hbx.cell 1;have HW:=Vk hW;by_cases hlt:i<n
  ·exact a0s
  ·obtain rfl:i=n:=VY;have hc0:=hbx.cell 0;have hxw:Ext w wr:=HX0.o.trans (hW.ext.mono VY);have HXW:=Vk hxw;obtain⟨P,hP⟩:∃P,6*i-1-p=P:=⟨_,rfl⟩;have hPl:P<6*i:=by have:=HP.o;rw[HN.o] at this;omega
   have HPV:=Vk (show fv xs P≠48 by
    have:=hW.iD p (by have:=HP.o;rwa[HN.o] at this);rw[HN.o,hP] at this;rw[this];have:=HPD.o;omega)
   clear hW hbx hxw hP;go_wp2_with fail
   go_loopw [3] (λv wi=>∃o:Nat,o<=P/\v=VQ (Vq ⟨w.heap.size+1,o,Vo⟩) (6*i-o) (6*i-o)/\(∀j,j<o->fv xs j=48)/\wi=wr) (λv _=>JU v)
   case atStart=>exact⟨0,VY,rfl,λj hj=>VY,rfl⟩
   case round=>
    obtain⟨o,ho,rfl,hbo,rfl⟩:=hrel;have HBO:=Vk hbo;clear hbo;have hol:o<xs.length:=by rw[HW.o.len,HN.o];omega
    have hco:=HW.o.row.cell hol;obtain⟨y,hy⟩:∃y,fv xs o=y:=⟨_,rfl⟩;rw[hy] at hco;have HO:=Vk hy;obtain⟨z,hz⟩:∃z,6*i-o=z:=⟨_,rfl⟩;have HZ:=Vk hz;rw[hz];have hz1:1<=z:=VY;clear hol hy;by_cases h48:y=48
    ·exact a0r
    ·obtain⟨ns,hns⟩:∃ns,(List.range z).map (λj=>((fv xs (o+j):Nat):Int))=ns:=⟨_,rfl⟩;have hnl:ns.length=z:=by rw[<-hns];simp
     have hcv:=run_convert_bytes_arg (P:=prog) wr 119 5 underlying119 underlying5 (w.heap.size+1) o z z ns hnl (λj hj=>by
      rw[HW.o.row.cell (by rw[HW.o.len,HN.o];omega),<-hns];simp[List.getD,hj]) 9 underlying9
     obtain⟨S,hS⟩:∃S,strOfNums ns=S:=⟨_,rfl⟩;have HSZ:=Vk (show S.size=z by rw[<-hS,strOfNums_size,hnl]);rw[hS] at hcv;have HZB:=Vk (show z<=6*i by omega);have HON:=Vk (show S.toList=[49]↔au l=1 by
      have h:=SG (o:=o) hc (λq hq=>HW.o.iD q (by rwa[HN.o] at hq)) HBO.o (by rw[HN.o];omega) (by rw[HO.o];exact h48);rw[HN.o,hz,hns,hS] at h;exact h)
     clear hz hns hnl hS;cases s with
     |false=>
      go_wp2;refine bodyPost_ret (v:= VR S) (by simp[results,results284,go_sem]) rfl ?_;exact⟨S,rfl,by rw[HSZ.o];exact hz1,by rw[HSZ.o];have:=HZB.o;omega,HXW.o,λ_=>HON.o⟩
     |true=>
      have hsz:=HSZ.o;have hzb:z<=600000:=by have:=HZB.o;omega
      go_wp2;refine bodyPost_ret (v:= VR (⟨#[45]⟩++S)) (by simp[results,results284,go_sem]) rfl ?_;exact⟨_,rfl,by rw[ByteArray.size_append,HSZ.o];omega,by rw[ByteArray.size_append,HSZ.o];have:=HZB.o;show 1+z<=_;omega,HXW.o,λh=>V6⟩
end
section
open Kp
def UX(w:Vl)(a b:List Nat)(v c i:Vr)(wr:Vl):Prop:=
 ∃k:Nat,k<=max a.length b.length+1/\i=VU VA (k:Int)/\c=VU VA ((dJ a b k).2:Int)/\wr.ownsRow w.heap.size 3 1 v k (sN (bV (dJ a b) k))/\Ext w wr
def Oo{a b:List Nat}(ha:kP a)(hb:kP b):(dJ a b (max a.length b.length+1)).2=0:=by
 show(fv a (max a.length b.length)+fv b (max a.length b.length)+(dJ a b (max a.length b.length)).2)/1000000=0;rw[mD VY,mD VY];have:=(yZ ha hb (max a.length b.length)).1;omega
end
section
open Kp
def Ra.of{n:Nat}{w w':Vl}{s:Bool}{v:Vr}{l:List Nat}(h1:bE w' w'.heap.size v l)(h2:aZ l)(h3:l.length<=n)(h4:Ext w w'):Ra n w (VV (VW #[VS s,v])) w':=⟨s,v,l,rfl,h1,h2,h3,h4⟩
def ma{w:Vl}{b:Nat}{l:List Nat}{v v0:Vr}{s:Bool}(h:bE w w.heap.size v l)(hr:ah w b 308 [VS s,v0])(hv:∀x,v0≠ VU VA x)(i:Nat)(x:Vr):
  bE (w.setCell ⟨b,i,Vo⟩ x) (w.setCell ⟨b,i,Vo⟩ x).heap.size v l:=by
 obtain⟨A,cap,rfl,h1,h2,hc⟩:=h;refine⟨A,cap,rfl,h1,h2,λhn=> ?_⟩;obtain⟨b',off,e,hb,hcell⟩:=hc hn;refine⟨b',off,e,by simpa[World.setCell] using hb,λj hj=> ?_⟩;by_cases hbb:b'=b
 ·exfalso;subst hbb;have h5:=hcell j hj;rw[hr.cell] at h5;rcases(show off+j=0\/off+j=1\/2<=off+j by omega) with h6|h6|h6
  ·rw[h6] at h5;simp at h5
  ·rw[h6] at h5;simp at h5;exact hv _ h5
  ·rw[List.getElem?_eq_none (by simpa using h6)] at h5;cases h5
 ·rw[World.cell?_of_block (w:=w) (Below.heap_setCell _ _ _ _ hbb)];exact hcell j hj
def gM(A:Option VM)(n c:Nat):∀x,Value.slice A n c≠ VU VA x:=λ_ h=>V6
end
section
open Kp
def LQ(a b:List Nat)(k:Nat):S6 (fv (bV (dJ a b) k)) k+(dJ a b k).2*B6^k=S6 (fv a) k+S6 (fv b) k:=by
 induction k with
 |zero=>rfl
 |succ k ih=>
  have e:S6 (fv (bV (dJ a b) (k+1))) k=S6 (fv (bV (dJ a b) k)) k:=jg λi hi=>by
   exact YT
  have e2:fv (bV (dJ a b) (k+1)) k=(dJ a b (k+1)).1:=by
   exact YS
  rw[cO,cO,cO,e,e2,Nat.pow_succ];have h:(dJ a b (k+1)).1+(dJ a b (k+1)).2*1000000=fv a k+fv b k+(dJ a b k).2:=by
   show(fv a k+fv b k+(dJ a b k).2)%1000000+(fv a k+fv b k+(dJ a b k).2)/1000000*1000000=_;omega
  have h3:=congrArg (· *B6^k) h;simp only[Nat.add_mul] at h3;have h4:(dJ a b (k+1)).2*(B6^k*B6)=(dJ a b (k+1)).2*1000000*B6^k:=by
   show _=(dJ a b (k+1)).2*B6*B6^k;rw[VE (B6^k) B6,<-Nat.mul_assoc]
  rw[h4];generalize(dJ a b (k+1)).2*1000000*B6^k=u at *;generalize(dJ a b (k+1)).1*B6^k=v at *;generalize fv a k*B6^k=p at *;generalize fv b k*B6^k=q at *;generalize(dJ a b k).2*B6^k=r at *;omega
def JN{a b:List Nat}{k:Nat}(h1:a.length<=k)(h2:b.length<=k)(h3:(dJ a b k).2=0):au (az (bV (dJ a b) k))=au a+au b:=by
 have h:=LQ a b k;rw[en];have e1:S6 (fv (bV (dJ a b) k)) k=au (bV (dJ a b) k):=eW (Nat.le_of_eq (bA _ _));rw[e1,eW h1,eW h2,h3] at h;omega
def kQ(s:Bool)(l:List Nat):Int:=if s then -(au l:Int) else au l
def OK{m:Bool}{a b l:List Nat}(h:au l=au a+au b):kQ m l=kQ m a+kQ m b:=by
 cases m<;>simp[kQ]<;>omega
def Qm{mx my:Bool}{x y l:List Nat}(hm:mx≠my)(hv:au y<=au x)(h:au l=au x-au y):kQ mx l=kQ mx x+kQ my y:=by
 cases mx<;>cases my<;>simp[kQ] at hm⊢ <;>omega
def PY{m1 m2 mm:Bool}{a b l:List Nat}(hm:(m1==m2)= !mm)(h:au l=au a*au b):kQ mm l=kQ m1 a*kQ m2 b:=by
 cases m1<;>cases m2<;>cases mm<;>simp[kQ] at hm⊢ <;>rw[h]<;>simp[Int.neg_mul,Int.mul_neg]
def pw(z:Int)(n:Nat)(w:Vl)(e:Ending)(w':Vl):Prop:=∃s v l,e=VV (VW #[VS s,v])/\bE w' w'.heap.size v l/\aZ l/\l.length<=n/\kQ s l=z/\Ext w w'
def pw.of{z:Int}{n:Nat}{w w':Vl}{s:Bool}{v:Vr}{l:List Nat}(h1:bE w' w'.heap.size v l)(h2:aZ l)(h3:l.length<=n)(h5:kQ s l=z)(h4:Ext w w'):pw z n w (VV (VW #[VS s,v])) w':=⟨s,v,l,rfl,h1,h2,h3,h5,h4⟩
def Ir(w:Vl)(a b:List Nat)(va vb:Vr)(ha:bE w w.heap.size va a)(hb:bE w w.heap.size vb b)(hsa:kP a)(hsb:kP b)(hla:a.length<=1000000)(hlb:b.length<=1000000):
  VC prog 341 #[va,vb] w (yg (λl=>l.length<=max a.length b.length+1/\au l=au a+au b) w):=by
 obtain⟨i0,hi0,hz0,hz1,hz2⟩:=info_parts dS;have I0:=Vk hi0;have I1:=Vk hz0;have I2:=Vk hz1;have I3:=Vk hz2;have HA:=Vk ha;have HB:=Vk hb;obtain⟨A,ca,rfl,ha1,ha2,_⟩:=id ha;obtain⟨B',cb,rfl,hb1,hb2,_⟩:=id hb;have HC:=Vk (λn=>du (pJ (λk=>(yZ hsa hsb k).2) n));have HM:=Vk (λk=>yZ hsa hsb k);have HE:=Vk (Oo hsa hsb);have HSA:=Vk hsa;have HSB:=Vk hsb;unfold VJ at ha2 hb2;clear ha hb hi0 hz0 hz1 hz2 hsa hsb;go_enter func341,ntmps341;go_wp2;go_loopw [5,6,7] (λv c i wr=>UX w a b v c i wr) (λ_ _ i _=>((max a.length b.length+1:Nat)-VG i).toNat)
 case atStart=>exact⟨0,VY,rfl,rfl,xF _ _,(Below.refl _ _).alloc (Vm _) _⟩
 case round=>
  obtain⟨k,hk,rfl,rfl,hown,hX⟩:=hrel;have HO:=Vk hown;have HX:=Vk hX;have hs1:=(HA.o.below hX);have hs2:=(HB.o.below hX);have hbase:=hX.size;clear hown hX;by_cases hgo:k<a.length\/k<b.length\/0<(dJ a b k).2
  ·have C1:=Vk (nf wr _ _ a k hs1 VY);have C2:=Vk (nf wr _ _ b k hs2 VY);have hkn:k+1<=max a.length b.length+1:=by
    rcases Nat.lt_or_ge k (max a.length b.length+1) with h|h
    ·omega
    ·have e:k=max a.length b.length+1:=VY;rw[e,HE.o] at hgo;omega
   have HR:=Vk (dZ (dJ a b) k);have hx1:(dJ a b (k+1)).1=(fv a k+fv b k+(dJ a b k).2)%1000000:=rfl;have hx2:(dJ a b (k+1)).2=(fv a k+fv b k+(dJ a b k).2)/1000000:=rfl;have hxa:fv a k<1000000:=aI HSA.o k;have hxb:fv b k<1000000:=aI HSB.o k;have hxc:=(HM.o k).1;obtain⟨p,hp⟩:∃x,fv a k=x:=⟨_,rfl⟩;obtain⟨r,hr⟩:∃x,fv b k=x:=⟨_,rfl⟩;obtain⟨c,hc⟩:∃x,(dJ a b k).2=x:=⟨_,rfl⟩;obtain⟨x,hx⟩:∃x,(dJ a b (k+1)).1=x:=⟨_,rfl⟩;obtain⟨y,hy⟩:∃y,(dJ a b (k+1)).2=y:=⟨_,rfl⟩;rw[hx,hp,hr,hc] at hx1;rw[hy,hp,hr,hc] at hx2;rw[hp] at C1 hxa;rw[hr] at C2 hxb;rw[hc] at hxc hgo;rw[hc];rw[hx] at HR;have HY:=Vk hy;have hbase1:w.heap.size<=(wr.alloc (.cells #[VU VA (x:Int)] 3)).heap.size:=Wa;have HOX:=Vk (aF HO.o ((Below.refl _ _).alloc (Vm _) (.cells #[VU VA (x:Int)] 3)));obtain⟨vs,hvs⟩:∃vs,sN (bV (dJ a b) k)=vs:=⟨_,rfl⟩;rw[hvs] at HO HOX;have HVS:=Vk hvs;have e1:((p:Int)+r+c)%1000000=(x:Int):=VY;have e2:((p:Int)+r+c)/1000000=(y:Int):=VY;have HK:=Vk hkn;have ARM:=Vk (show∀(v':Vr) (w':Vl),w'.ownsRow w.heap.size 3 1 v' (k+1) (vs++[VU VA (x:Int)])->(wr.alloc (.cells #[VU VA (x:Int)] 3)).grownBy w' u5.ownBlock->UX w a b v' (VU VA (y:Int)) (VU VA ((k:Int)+1)) w' fromλv' w' hown' hgr'=>by
    refine⟨k+1,HK.o,V5,by rw[HY.o],?_,eE (HX.o.alloc HX.o.size _) hgr' (λq hq=>(ak HO.o q hq).1)⟩;have e:sN (bV (dJ a b) (k+1))=vs++[VU VA (x:Int)]:=Xk;rw[e];exact hown')
   have hkb:k<=1000000:=VY;have hmx:((max a.length b.length+1:Nat):Int)-k>=1:=VY;clear hs1 hs2 hp hr hc hx hy hvs hx1 hx2 HR hkn hk;have ga:∃t,decide (k<a.length)=t:=⟨_,rfl⟩;obtain⟨ta,hta⟩:=ga;obtain⟨tb,htb⟩:∃t,decide (k<b.length)=t:=⟨_,rfl⟩;have htc:ta=Vp->tb=Vp->decide (0<c)=Vv:=by
    intro h1 h2;subst h1 h2;rw[decide_eq_false_iff_not] at hta htb;rw[decide_eq_true_eq];omega
   have HTC:=Vk htc;clear htc hgo;cases ta
   ·cases tb
    ·have tc:=HTC.o rfl rfl;have tc2:decide (0<(c:Int))=Vv:=by rw[decide_eq_true_eq] at tc⊢;omega
     exact a0L
    ·exact a0L
   ·exact a0L
  ·have g1:¬k<a.length:=VY;have g2:¬k<b.length:=VY;have hsn:=dh HO.o (bA (dJ a b) k);have CT:=Vk (dE wr wr.heap.size u5 (bV (dJ a b) k) hsn);have HS:=Vk (show yg (λl=>l.length<=max a.length b.length+1/\au l=au a+au b) w (VV (Mi u5 (bV (dJ a b) k))) wr from⟨_,_,rfl,hsn.trimmed,HC.o _,⟨VB (aR _) (by rw[bA];exact hk),JN VY VY VY⟩,HX.o,(EU HO.o).tr _⟩);obtain⟨c,hc⟩:∃x,(dJ a b k).2=x:=⟨_,rfl⟩;rw[hc] at hgo;rw[hc];have g3:¬0<(c:Int):=VY;clear hsn hs1 hs2 hc hgo;exact a0g
def wD(w:Vl)(s:Bool)(v:Vr)(l:List Nat)(n:Nat)(hs:bE w w.heap.size v l)(hc:aZ l)(hl:l.length<=n):
  VC prog 308 #[VW #[VS s,v]] w (pw (-(kQ s l)) n w):=by
 obtain⟨A,ca,rfl,ha1,ha2,hac⟩:=id hs;have HS:=Vk (λo1 o2=>(hs.new o1).new o2);clear hac hs;by_cases h0:l.length=0
 ·obtain rfl:l=[]:=List.length_eq_zero_iff.1 h0;go_enter func308,ntmps308;go_wp2_with fail
  exact bodyPost_ret (v:= VW #[VS s,VQ A 0 ca]) (by simp[results,results308,go_sem]) rfl (pw.of (HS.o _ _) hc hl (by cases s<;>rfl) (eH _ _ _))
 ·go_enter func308,ntmps308;go_wp2_with fail
  exact bodyPost_ret (v:= VW #[VS !s,VQ A l.length ca]) (by simp[results,results308,go_sem]) rfl (pw.of (HS.o _ _) hc hl (by cases s<;>simp[kQ]) (eH _ _ _))
def n8(p0 q1 q2:Nat)(m:Bool)(v1 v2:Vr)(P:List Nat->Prop):Nat->Vr->Vl->Prop
 |0,v,_=>v=VT (Vq ⟨p0,0,Vo⟩)
 |1,v,_=>v=VS m
 |2,v,_=>v=VT (Vq ⟨q1,1,Vo⟩)
 |3,v,_=>v=v1
 |4,v,_=>v=VT (Vq ⟨q2,1,Vo⟩)
 |5,v,_=>v=v2
 |6,v,w=>∃l,bE w w.heap.size v l/\aZ l/\P l
 |7,v,w=>∃A c l,v=VW #[VS m,VQ A (List.length l) c]/\bE w w.heap.size (VQ A l.length c) l/\aZ l/\P l
 |_,v,w=>∃b,v=VT (Vq ⟨b,0,Vo⟩)/\q2+1<b/\ah w b 308 [VS Vp,VQ Vo 0 0]
def vH{p0 q1 q2:Nat}{m:Bool}{v1 v2:Vr}{P:List Nat->Prop}{i:Nat}{v:Vr}{w w':Vl}(h:n8 p0 q1 q2 m v1 v2 P i v w)(hx:Ext w w'):n8 p0 q1 q2 m v1 v2 P i v w':=by
 match i,h with
 |0,h|1,h|2,h|3,h|4,h|5,h=>exact h
 |6,h=>obtain⟨l,h1,h2⟩:=h;exact⟨l,h1.grow hx,h2⟩
 |7,h=>obtain⟨A,c,l,e,h1,h2⟩:=h;exact⟨A,c,l,e,h1.grow hx,h2⟩
 |_+8,h=>obtain⟨b,e,hb,h⟩:=h;exact⟨b,e,hb,h.ext hx⟩
def Dx (w : Vl) (m : Bool) (a b : List Nat) (va vb : Vr) (n : Nat) (ha : bE w w.heap.size va a) (hb : bE w w.heap.size vb b) (hca : aZ a) (hcb : aZ b) (hla : a.length <= n) (hlb : b.length <= n) (hn : n <= 400000) :
    VC prog 307 #[VW #[VS m, va], VW #[VS m, vb]] w (pw (kQ m a + kQ m b) (n + 1) w) := by
  have HA := Vk ha;have HB := Vk hb;have E3 := Vk (BD w (.cells #[VS m, va] 308) (.cells #[VS m, vb] 308) (.cells #[VS Vp, VQ Vo 0 0] 308));have R1 := (ah.new w 308 [VS m, va]).ext (eH _ (.cells #[VS m, vb] 308) (.cells #[VS Vp, VQ Vo 0 0] 308));have R2 := (ah.new (w.alloc (.cells #[VS m, va] 308)) 308 [VS m, vb]).ext ((Below.refl _ _).alloc (Vm _) (.cells #[VS Vp, VQ Vo 0 0] 308));have R3 := ah.new ((w.alloc (.cells #[VS m, va] 308)).alloc (.cells #[VS m, vb] 308)) 308 [VS Vp, VQ Vo 0 0];rw [VF] at R2;rw [VF, VF] at R3;obtain ⟨A, ca, rfl, _, _, _⟩ := id ha;obtain ⟨A', cb, rfl, _, _, _⟩ := id hb;obtain ⟨W0, hW0⟩ : ∃ W0, ((w.alloc (.cells #[VS m, VQ A a.length ca] 308)).alloc (.cells #[VS m, VQ A' b.length cb] 308)).alloc (.cells #[VS Vp, VQ Vo 0 0] 308) = W0 := ⟨_, rfl⟩;rw [hW0] at E3 R1 R2 R3;have KC := Vk (λ(W : Vl) (h : Ext w W) => (Ir W a b (VQ A a.length ca) (VQ A' b.length cb) (HA.o.grow h) (HB.o.grow h) hca.small hcb.small VY VY).mono (λe w' ⟨v, l, h1, h2, h3, h4, h5, _⟩ => (⟨v, l, h1, h2, h3, ⟨VB h4.1 VY, h4.2⟩, h5⟩ : ∃ v l, e = Ending.returned v /\ bE w' w'.heap.size v l /\ aZ l /\ (l.length <= n + 1 /\ au l = au a + au b) /\ Ext W w')));have tm : (m == m) = Vv := V5;have HW0 := Vk hW0;clear hW0 ha hb hca hcb hla hlb;go_enter func307, ntmps307;go_wp2;simp only [HW0.o];refine wp_region_any VZ (bM 8 (λvs => ⟨#[VW #[VS m, VQ A a.length ca], VW #[VS m, VQ A' b.length cb], VT (Vq ⟨w.heap.size, 0, Vo⟩), VT (Vq ⟨w.heap.size + 1, 0, Vo⟩), VT (Vq ⟨w.heap.size + 1 + 1, 0, Vo⟩), Vs, VT (Vq ⟨w.heap.size, 0, Vo⟩), VS m, VT (Vq ⟨w.heap.size + 1, 0, Vo⟩), VS m, VS Vv, vs 0, vs 1, vs 2, vs 3, vs 4, vs 5, vs 6, vs 7, Vs, Vs, Vs, Vs, Vs, Vs, Vs, Vs, Vs, Vs, Vs, Vs, Vs, Vs, Vs, Vs, Vs, Vs, Vs, Vs, Vs, Vs], []⟩)
    (λw' => Ext W0 w') (n8 (w.heap.size) (w.heap.size) (w.heap.size + 1) m (VQ A a.length ca) (VQ A' b.length cb) (λl => l.length <= n + 1 /\ au l = au a + au b)) (λ_ => Vp) VZ (λ_ _ h k => h.tr k) (λi v _ _ h k => vH h k) (λ_ _ _ _ h => V6) ?step ?tail (λ_ => Vs) _ (Ext.dr W0))
  case step =>
    intro i vs w' hi hD hd;have hw0 : Ext W0 w' := hD;have cA := λi => (R1.ext hw0).cell i
    have cB := λi => (R2.ext hw0).cell i
    rcases (show i = 0 \/ i = 1 \/ i = 2 \/ i = 3 \/ i = 4 \/ i = 5 \/ i = 6 \/ i = 7 by omega) with rfl | rfl | rfl | rfl | rfl | rfl | rfl | rfl <;> clear hi
    all_goals refine Vx rfl (λK hK => ?_)
    all_goals try (have d0 := hd 0 Wq; simp only [n8] at d0)
    all_goals try (have d1 := hd 1 Wq; simp only [n8] at d1)
    all_goals try (have d2 := hd 2 Wq; simp only [n8] at d2)
    all_goals try (have d3 := hd 3 Wq; simp only [n8] at d3)
    all_goals try (have d4 := hd 4 Wq; simp only [n8] at d4)
    all_goals try (have d5 := hd 5 Wq; simp only [n8] at d5)
    all_goals try (have x6 := hd 6 Wq; obtain ⟨l6, h6, hc6, hl6⟩ := x6; obtain ⟨A6, c6, e6, _, _, _⟩ := id h6; have H6 := Vk h6)
    all_goals clear hd
    all_goals go_simp
    all_goals first
      | exact hK _ _ ⟨_, WY, Ext.aB _, rfl, λh => V6⟩
      | (refine (KC.o _ (E3.o.tr hw0)).mono ?_
         rintro e W4 ⟨v, l4, rfl, hs, hc, hl, hX⟩;exact hK _ _ ⟨v, WY, hX, ⟨l4, hs, hc, hl⟩, λh => V6⟩)
      | exact hK _ _ ⟨VW #[VS m, VQ A6 l6.length c6], WY, Ext.aB _, ⟨A6, c6, l6, rfl, e6 ▸ H6.o, hc6, hl6⟩, λh => V6⟩
  case tail =>
    intro vs w' hD hv _;have hw0 : Ext W0 w' := hD;obtain ⟨A7, c7, l7, e7, hs, hc7, hl7⟩ := hv 7 V0;have HS := Vk hs;have r3 := R3.ext hw0;have c0 := r3.cell 0;have c1 := r3.cell 1;have f0 := r3.frozen 0;have f1 := r3.frozen 1;have HR3 := Vk r3;clear hv hs r3;simp only [List.drop_succ_cons, List.drop_zero];go_wp2;have r4 := HR3.o.oT (VS m) (VQ A7 l7.length c7);have q0 := r4.cell 0;have q1 := r4.cell 1;exact bodyPost_ret (v := VW #[VS m, VQ A7 l7.length c7]) (by simp [results, results307, go_sem, q0, q1]) rfl (pw.of (ma (ma HS.o HR3.o (gM _ _ _) _ _) (HR3.o.mQ _) (gM _ _ _) _ _) hc7 hl7.1 (OK hl7.2) (((E3.o.tr hw0).setCell (p := ⟨w.heap.size + 1 + 1, 0, Vo⟩) Wj _).setCell (p := ⟨w.heap.size + 1 + 1, 1, Vo⟩) Wj _))
def SZ(w W:Vl)(n:Nat)(z:Int):Prop:=∃(mx my:Bool) (x y:List Nat) (Ax Ay:Option VM) (cx cy:Nat),ah W w.heap.size 308 [VS mx,VQ Ax x.length cx]/\ah W (w.heap.size+1) 308 [VS my,VQ Ay y.length cy]/\
 ah W (w.heap.size+1+1) 308 [VS Vp,VQ Vo 0 0]/\Ext w W/\bE w w.heap.size (VQ Ax x.length cx) x/\bE w w.heap.size (VQ Ay y.length cy) y/\kP x/\kP y/\x.length<=n/\au y<=au x/\y.length<=x.length/\mx≠my/\kQ mx x+kQ my y=z
def Eb (w : Vl) (m1 m2 : Bool) (a b : List Nat) (va vb : Vr) (n : Nat) (ha : bE w w.heap.size va a) (hb : bE w w.heap.size vb b) (hca : aZ a) (hcb : aZ b) (hla : a.length <= n) (hlb : b.length <= n) (hn : n <= 400000) (hm : m1 ≠ m2) :
    VC prog 307 #[VW #[VS m1, va], VW #[VS m2, vb]] w (pw (kQ m1 a + kQ m2 b) (n + 1) w) := by
  have HA := Vk ha;have HB := Vk hb;have E3 := Vk (BD w (.cells #[VS m1, va] 308) (.cells #[VS m2, vb] 308) (.cells #[VS Vp, VQ Vo 0 0] 308));have R1 := (ah.new w 308 [VS m1, va]).ext (eH _ (.cells #[VS m2, vb] 308) (.cells #[VS Vp, VQ Vo 0 0] 308));have R2 := (ah.new (w.alloc (.cells #[VS m1, va] 308)) 308 [VS m2, vb]).ext ((Below.refl _ _).alloc (Vm _) (.cells #[VS Vp, VQ Vo 0 0] 308));have R3 := ah.new ((w.alloc (.cells #[VS m1, va] 308)).alloc (.cells #[VS m2, vb] 308)) 308 [VS Vp, VQ Vo 0 0];rw [VF] at R2;rw [VF, VF] at R3;obtain ⟨A, ca, rfl, _, _, _⟩ := id ha;obtain ⟨A', cb, rfl, _, _, _⟩ := id hb;obtain ⟨W0, hW0⟩ : ∃ W0, ((w.alloc (.cells #[VS m1, VQ A a.length ca] 308)).alloc (.cells #[VS m2, VQ A' b.length cb] 308)).alloc (.cells #[VS Vp, VQ Vo 0 0] 308) = W0 := ⟨_, rfl⟩;rw [hW0] at E3 R1 R2 R3;have KS := Vk (vC W0 a b _ _ (HA.o.grow E3.o) (HB.o.grow E3.o) hca hcb);have tm : (m1 == m2) = Vp := by rw [beq_eq_false_iff_ne]; exact hm
  have HW0 := Vk hW0;have HCA := Vk hca;have HCB := Vk hcb;have HM := Vk hm;have HR1 := Vk R1;have HR2 := Vk R2;have HR3 := Vk R3;clear hW0 ha hb hca hcb hm R1 R2 R3;go_enter func307, ntmps307;go_wp2_with (go_at_call 316; rw [HW0.o]; go_must (refine KS.o.mono ?_); rintro e X0 ⟨⟨c, rfl, hc1, hc2⟩, hX0⟩; have HC1 := Vk hc1; have HC2 := Vk hc2; clear hc1 hc2; have HX0 := Vk hX0; have cA0 := (HR1.o.ext hX0).cell 0; have cA1 := (HR1.o.ext hX0).cell 1; have cB0 := (HR2.o.ext hX0).cell 0; have cB1 := (HR2.o.ext hX0).cell 1; have fA := λi => (HR1.o.ext hX0).frozen i; have fB := λi => (HR2.o.ext hX0).frozen i; clear hX0)
  case' _ =>
    have KEY : SZ w (((((X0.setCell ⟨w.heap.size, 0, Vo⟩ (VS m2)).setCell ⟨w.heap.size, 1, Vo⟩ (VQ A' b.length cb)).setCell ⟨w.heap.size + 1, 0, Vo⟩ (VS m1)).setCell ⟨w.heap.size + 1, 1, Vo⟩ (VQ A a.length ca))) n (kQ m1 a + kQ m2 b) := by
      have hlt := HC1.o Xf;have x1 := HR1.o.ext HX0.o;have x2 := HR2.o.ext HX0.o;have x3 := HR3.o.ext HX0.o;exact ⟨m2, m1, b, a, A', A, cb, ca, ((x1.oT _ _).dx V5 _).dx V5 _, ((x2.dx V5 _).dx V5 _).oT _ _, (((x3.dx Wj _).dx Wj _).dx V5 _).dx V5 _,
        ((((E3.o.tr HX0.o).setCell (p := ⟨w.heap.size, 0, Vo⟩) V5 _).setCell (p := ⟨w.heap.size, 1, Vo⟩) V5 _).setCell (p := ⟨w.heap.size + 1, 0, Vo⟩) V5 _).setCell (p := ⟨w.heap.size + 1, 1, Vo⟩) V5 _, HB.o, HA.o, HCB.o.small, HCA.o.small, hlb, Nat.le_of_lt hlt, kJ HCA.o HCB.o.small (Nat.le_of_lt hlt), HM.o.symm, Int.add_comm _ _⟩
    generalize (((X0.setCell ⟨w.heap.size, 0, Vo⟩ (VS m2)).setCell ⟨w.heap.size, 1, Vo⟩ (VQ A' b.length cb)).setCell ⟨w.heap.size + 1, 0, Vo⟩ (VS m1)).setCell ⟨w.heap.size + 1, 1, Vo⟩ (VQ A a.length ca) = W1 at KEY ⊢
  rotate_left
  case' _ =>
    have KEY : SZ w X0 n (kQ m1 a + kQ m2 b) := have hge := HC2.o Xf
      ⟨m1, m2, a, b, A, A', ca, cb, HR1.o.ext HX0.o, HR2.o.ext HX0.o, HR3.o.ext HX0.o, E3.o.tr HX0.o, HA.o, HB.o, HCA.o.small, HCB.o.small, hla, hge.1, hge.2, HM.o, rfl⟩
    generalize X0 = W1 at KEY ⊢
  all_goals
    obtain ⟨mx, my, x, y, Ax, Ay, cx, cy, R1, R2, R3, hW1, hx, hy, hsx, hsy, hlx, hvyx, hlyx, hmne, hsum⟩ := KEY;have HX := Vk hx;have HY := Vk hy;have E1 := Vk hW1;have KC := Vk (λ(W : Vl) (h : Ext w W) => (nX W x y (VQ Ax x.length cx) (VQ Ay y.length cy) (HX.o.grow h) (HY.o.grow h) hsx hsy VY).mono (λe w' ⟨v, l, h1, h2, h3, h4, h5, _⟩ => (⟨v, l, h1, h2, h3, ⟨by rw [h4]; exact VB (aR _) (by rw [bA]; omega), by rw [h4]; exact pQ hsx hsy hlyx hvyx⟩, h5⟩ : ∃ v l, e = Ending.returned v /\ bE w' w'.heap.size v l /\ aZ l /\ (l.length <= n + 1 /\ au l = au x - au y) /\ Ext W w')));have HSM := Vk (λ(l : List Nat) (h : au l = au x - au y) => (show kQ mx l = kQ m1 a + kQ m2 b by rw [<- hsum]; exact Qm hmne hvyx h));clear hx hy hsx hsy hvyx hlyx hmne hsum hW1 hlx hla hlb KS HA HB HR1 HR2 HR3 HCA HCB HW0 E3
    first
      | refine wp_region_any VZ (bM 9 (λvs => ⟨#[VW #[VS m1, VQ A a.length ca], VW #[VS m2, VQ A' b.length cb], VT (Vq ⟨w.heap.size, 0, Vo⟩), VT (Vq ⟨w.heap.size + 1, 0, Vo⟩), VT (Vq ⟨w.heap.size + 1 + 1, 0, Vo⟩), vs 8, VT (Vq ⟨w.heap.size, 0, Vo⟩), VS m1, VT (Vq ⟨w.heap.size + 1, 0, Vo⟩), VS m2, VS Vp, Vs, Vs, Vs, Vs, Vs, Vs, Vs, Vs, VT (Vq ⟨w.heap.size, 1, Vo⟩), VQ A a.length ca, VT (Vq ⟨w.heap.size + 1, 1, Vo⟩), VQ A' b.length cb, VU VA c, VS (decide (c < 0)), Vs, Vs, vs 0, vs 1, vs 2, vs 3, vs 4, vs 5, vs 6, vs 7, Vs, Vs, Vs, Vs, Vs, Vs], []⟩)
          (λw' => Ext W1 w') (n8 (w.heap.size) (w.heap.size) (w.heap.size + 1) mx (VQ Ax x.length cx) (VQ Ay y.length cy) (λl => l.length <= n + 1 /\ au l = au x - au y)) (λi => i == 8) VZ (λ_ _ h k => h.tr k) (λi v _ _ h k => vH h k) ?fr ?step ?tail (λ_ => Vs) _ (Ext.dr W1))
      | refine wp_region_any VZ (bM 9 (λvs => ⟨#[VW #[VS m1, VQ A a.length ca], VW #[VS m2, VQ A' b.length cb], VT (Vq ⟨w.heap.size, 0, Vo⟩), VT (Vq ⟨w.heap.size + 1, 0, Vo⟩), VT (Vq ⟨w.heap.size + 1 + 1, 0, Vo⟩), vs 8, VT (Vq ⟨w.heap.size, 0, Vo⟩), VS m1, VT (Vq ⟨w.heap.size + 1, 0, Vo⟩), VS m2, VS Vp, Vs, Vs, Vs, Vs, Vs, Vs, Vs, Vs, VT (Vq ⟨w.heap.size, 1, Vo⟩), VQ A a.length ca, VT (Vq ⟨w.heap.size + 1, 1, Vo⟩), VQ A' b.length cb, VU VA c, VS (decide (c < 0)), VW #[VS m2, VQ A' b.length cb], VW #[VS m1, VQ A a.length ca], vs 0, vs 1, vs 2, vs 3, vs 4, vs 5, vs 6, vs 7, Vs, Vs, Vs, Vs, Vs, Vs], []⟩)
          (λw' => Ext W1 w') (n8 (w.heap.size) (w.heap.size) (w.heap.size + 1) mx (VQ Ax x.length cx) (VQ Ay y.length cy) (λl => l.length <= n + 1 /\ au l = au x - au y)) (λi => i == 8) VZ (λ_ _ h k => h.tr k) (λi v _ _ h k => vH h k) ?fr ?step ?tail (λ_ => Vs) _ (Ext.dr W1))
    case fr =>
      intro i v w' _ hf hv;obtain rfl : i = 8 := by simpa using hf
      obtain ⟨b, e, _, h⟩ := hv;exact ⟨b, e, h.lt⟩
    case step =>
      intro i vs w' hi hD hd;have hw0 : Ext W1 w' := hD;have cA := λi => (R1.ext hw0).cell i
      have cB := λi => (R2.ext hw0).cell i
      have h3 := (R3.ext hw0).lt;rcases (show i = 0 \/ i = 1 \/ i = 2 \/ i = 3 \/ i = 4 \/ i = 5 \/ i = 6 \/ i = 7 \/ i = 8 by omega) with rfl | rfl | rfl | rfl | rfl | rfl | rfl | rfl | rfl <;> clear hi
      all_goals refine Vx rfl (λK hK => ?_)
      all_goals try (have d0 := hd 0 Wq; simp only [n8] at d0)
      all_goals try (have d1 := hd 1 Wq; simp only [n8] at d1)
      all_goals try (have d2 := hd 2 Wq; simp only [n8] at d2)
      all_goals try (have d3 := hd 3 Wq; simp only [n8] at d3)
      all_goals try (have d4 := hd 4 Wq; simp only [n8] at d4)
      all_goals try (have d5 := hd 5 Wq; simp only [n8] at d5)
      all_goals try (have x6 := hd 6 Wq; obtain ⟨l6, h6, hc6, hl6⟩ := x6; obtain ⟨A6, c6, e6, _, _, _⟩ := id h6; have H6 := Vk h6)
      all_goals clear hd
      all_goals go_simp
      all_goals first
        | exact hK _ _ ⟨_, WY, Ext.aB _, rfl, λh => V6⟩
        | (refine (KC.o _ (E1.o.tr hw0)).mono ?_
           rintro e W4 ⟨v, l4, rfl, hs, hc, hl, hX⟩;exact hK _ _ ⟨v, WY, hX, ⟨l4, hs, hc, hl⟩, λh => V6⟩)
        | exact hK _ _ ⟨VW #[VS mx, VQ A6 l6.length c6], WY, Ext.aB _, ⟨A6, c6, l6, rfl, e6 ▸ H6.o, hc6, hl6⟩, λh => V6⟩
        | exact hK _ _ ⟨VT (Vq ⟨w'.heap.size, 0, Vo⟩), WY, (Below.refl _ _).alloc (Vm _) _, ⟨_, rfl, VY, ah.new _ _ _⟩, λ_ => ⟨_, rfl, Vm _⟩⟩
    case tail =>
      intro vs w' hD hv _;have hw0 : Ext W1 w' := hD;obtain ⟨A7, c7, l7, e7, hs, hc7, hl7⟩ := hv 7 V0;obtain ⟨b8, e8, hb8, r8⟩ := hv 8 V0;have HS := Vk hs;have r3 := R3.ext hw0;have f8 := λi => r8.frozen i
      have c80 := r8.cell 0;have c81 := r8.cell 1;have c30 := r3.cell 0;have c31 := r3.cell 1;have f3 := λi => r3.frozen i
      have r9 := r8.oT (VS mx) (VQ A7 l7.length c7);have r10 := r9.mQ (VS Vp);have c90 := r9.cell 0;have c91 := r9.cell 1;have c100 := r10.cell 0;have c101 := r10.cell 1;have f9 := λi => r9.frozen i
      have f10 := λi => r10.frozen i
      have hne : ¬ w.heap.size + 1 + 1 = b8 := VY;have k3 := (r3.dx (p := ⟨b8, 0, Vo⟩) Wj (VS mx)).dx (p := ⟨b8, 1, Vo⟩) Wj (VQ A7 l7.length c7);have k4 := k3.dx (p := ⟨b8, 0, Vo⟩) Wj (VS Vp);have g3 := λi => k3.frozen i
      have k30 := k3.cell 0;have k31 := k3.cell 1;have k40 := k4.cell 0;have k41 := k4.cell 1;have g4 := λi => k4.frozen i
      clear hv hs;simp only [List.drop_succ_cons, List.drop_zero];have HW := Vk hw0;have HR8 := Vk r8;have HR9 := Vk r9;have HK3 := Vk k3;have HK4 := Vk k4;clear r8 r9 r10 k3 k4 r3 hw0;by_cases hz : l7.length = 0
      · obtain rfl : l7 = [] := List.length_eq_zero_iff.1 hz
        go_wp2;have s3 := ma (ma (ma HS.o HR8.o (gM _ _ _) 0 (VS mx)) (HR8.o.mQ _) (gM _ _ _) 1 (VQ A7 0 c7)) HR9.o (gM _ _ _) 0 (VS Vp);have j4 := HK4.o.oT (VS Vp) (VQ A7 0 c7);have q0 := j4.cell 0;have q1 := j4.cell 1;refine bodyPost_ret (v := VW #[VS Vp, VQ A7 0 c7]) (by simp at q0 q1; simp [results, results307, go_sem, q0, q1]) rfl (pw.of (ma (ma s3 HK4.o (gM _ _ _) 0 (VS Vp)) (HK4.o.mQ _) (gM _ _ _) 1 (VQ A7 0 c7)) hc7 hl7.1 (by rw [<- HSM.o _ hl7.2]; cases mx <;> rfl) ?_);exact (((((E1.o.tr HW.o).setCell (p := ⟨b8, 0, Vo⟩) Wj _).setCell (p := ⟨b8, 1, Vo⟩) Wj _).setCell (p := ⟨b8, 0, Vo⟩) Wj _).setCell (p := ⟨w.heap.size + 1 + 1, 0, Vo⟩) Wj _).setCell (p := ⟨w.heap.size + 1 + 1, 1, Vo⟩) Wj _
      · go_wp2
        have s2 := ma (ma HS.o HR8.o (gM _ _ _) 0 (VS mx)) (HR8.o.mQ _) (gM _ _ _) 1 (VQ A7 l7.length c7);have j3 := HK3.o.oT (VS mx) (VQ A7 l7.length c7);have q0 := j3.cell 0;have q1 := j3.cell 1;refine bodyPost_ret (v := VW #[VS mx, VQ A7 l7.length c7]) (by simp [results, results307, go_sem, q0, q1]) rfl (pw.of (ma (ma s2 HK3.o (gM _ _ _) 0 (VS mx)) (HK3.o.mQ _) (gM _ _ _) 1 (VQ A7 l7.length c7)) hc7 hl7.1 (HSM.o _ hl7.2) ?_);exact ((((E1.o.tr HW.o).setCell (p := ⟨b8, 0, Vo⟩) Wj _).setCell (p := ⟨b8, 1, Vo⟩) Wj _).setCell (p := ⟨w.heap.size + 1 + 1, 0, Vo⟩) Wj _).setCell (p := ⟨w.heap.size + 1 + 1, 1, Vo⟩) Wj _
def Lh(w:Vl)(m1 m2:Bool)(a b:List Nat)(va vb:Vr)(n:Nat)(ha:bE w w.heap.size va a)(hb:bE w w.heap.size vb b)(hca:aZ a)(hcb:aZ b)(hla:a.length<=n)(hlb:b.length<=n)(hn:n<=400000):
  VC prog 307 #[VW #[VS m1,va],VW #[VS m2,vb]] w (pw (kQ m1 a+kQ m2 b) (n+1) w):=by
 by_cases hm:m1=m2
 ·subst hm;exact Dx w m1 a b va vb n ha hb hca hcb hla hlb hn
 ·exact Eb w m1 m2 a b va vb n ha hb hca hcb hla hlb hn hm
def sA(p q:Nat)(m1 m2 mm:Bool)(v1 v2:Vr)(P:List Nat->Prop):Nat->Vr->Vl->Prop
 |0,v,_=>v=VT (Vq ⟨p,0,Vo⟩)
 |1,v,_=>v=VS m1
 |2,v,_=>v=VT (Vq ⟨q,0,Vo⟩)
 |3,v,_=>v=VS m2
 |4,v,_=>v=VS mm
 |5,v,_=>v=VT (Vq ⟨p,1,Vo⟩)
 |6,v,_=>v=v1
 |7,v,_=>v=VT (Vq ⟨q,1,Vo⟩)
 |8,v,_=>v=v2
 |9,v,w=>∃l,bE w w.heap.size v l/\aZ l/\P l
 |10,v,w=>∃A c l,v=VW #[VS mm,VQ A (List.length l) c]/\bE w w.heap.size (VQ A l.length c) l/\aZ l/\P l
 |_,v,w=>∃b,v=VT (Vq ⟨b,0,Vo⟩)/\q+1<b/\ah w b 308 [VS Vp,VQ Vo 0 0]
def Nt{p q:Nat}{m1 m2 mm:Bool}{v1 v2:Vr}{P:List Nat->Prop}{i:Nat}{v:Vr}{w w':Vl}(h:sA p q m1 m2 mm v1 v2 P i v w)(hx:Ext w w'):sA p q m1 m2 mm v1 v2 P i v w':=by
 match i,h with
 |0,h|1,h|2,h|3,h|4,h|5,h|6,h|7,h|8,h=>exact h
 |9,h=>obtain⟨l,h1,h2⟩:=h;exact⟨l,h1.grow hx,h2⟩
 |10,h=>obtain⟨A,c,l,e,h1,h2⟩:=h;exact⟨A,c,l,e,h1.grow hx,h2⟩
 |_+11,h=>obtain⟨b,e,hb,h⟩:=h;exact⟨b,e,hb,h.ext hx⟩
def MR (w : Vl) (m1 m2 : Bool) (a b : List Nat) (va vb : Vr) (n : Nat) (ha : bE w w.heap.size va a) (hb : bE w w.heap.size vb b) (hca : aZ a) (hcb : aZ b) (hla : a.length <= n) (hlb : b.length <= n) (hn : n <= 400000) :
    VC prog 340 #[VW #[VS m1, va], VW #[VS m2, vb]] w (pw (kQ m1 a * kQ m2 b) (2 * n + 1) w) := by
  have HA := Vk ha;have HB := Vk hb;have E3 := Vk (BD w (.cells #[VS m1, va] 308) (.cells #[VS m2, vb] 308) (.cells #[VS Vp, VQ Vo 0 0] 308));have R1 := (ah.new w 308 [VS m1, va]).ext (eH _ (.cells #[VS m2, vb] 308) (.cells #[VS Vp, VQ Vo 0 0] 308));have R2 := (ah.new (w.alloc (.cells #[VS m1, va] 308)) 308 [VS m2, vb]).ext ((Below.refl _ _).alloc (Vm _) (.cells #[VS Vp, VQ Vo 0 0] 308));have R3 := ah.new ((w.alloc (.cells #[VS m1, va] 308)).alloc (.cells #[VS m2, vb] 308)) 308 [VS Vp, VQ Vo 0 0];rw [VF] at R2;rw [VF, VF] at R3;obtain ⟨A, ca, rfl, _, _, _⟩ := id ha;obtain ⟨A', cb, rfl, _, _, _⟩ := id hb;obtain ⟨W0, hW0⟩ : ∃ W0, ((w.alloc (.cells #[VS m1, VQ A a.length ca] 308)).alloc (.cells #[VS m2, VQ A' b.length cb] 308)).alloc (.cells #[VS Vp, VQ Vo 0 0] 308) = W0 := ⟨_, rfl⟩;rw [hW0] at E3 R1 R2 R3;have KC := Vk (λ(W : Vl) (h : Ext w W) => (rM W a b (VQ A a.length ca) (VQ A' b.length cb) (HA.o.grow h) (HB.o.grow h) hca.small hcb.small.Vc VY VY).mono (λe w' ⟨v, l, h1, h2, h3, ⟨h40, h4⟩, h5, _⟩ => (⟨v, l, h1, h2, h3, ⟨VB h4 VY, h40⟩, h5⟩ : ∃ v l, e = Ending.returned v /\ bE w' w'.heap.size v l /\ aZ l /\ (l.length <= 2 * n + 1 /\ au l = au a * au b) /\ Ext W w')));obtain ⟨mm, hmm⟩ : ∃ mm, (m1 == m2) = !mm := ⟨!(m1 == m2), V5⟩;have HSM := Vk (λ(l : List Nat) (h : au l = au a * au b) => PY (l := l) hmm h);have HW0 := Vk hW0;clear hW0 ha hb hca hcb hla hlb;go_enter func340, ntmps340;go_wp2;simp only [HW0.o];refine wp_region_any VZ (bM 12 (λvs => ⟨#[VW #[VS m1, VQ A a.length ca], VW #[VS m2, VQ A' b.length cb], VT (Vq ⟨w.heap.size, 0, Vo⟩), VT (Vq ⟨w.heap.size + 1, 0, Vo⟩), VT (Vq ⟨w.heap.size + 1 + 1, 0, Vo⟩), vs 11, vs 0, vs 1, vs 2, vs 3, vs 4, vs 5, vs 6, vs 7, vs 8, vs 9, vs 10, Vs, Vs, Vs, Vs, Vs, Vs], []⟩)
    (λw' => Ext W0 w') (sA (w.heap.size) (w.heap.size + 1) m1 m2 mm (VQ A a.length ca) (VQ A' b.length cb) (λl => l.length <= 2 * n + 1 /\ au l = au a * au b)) (λi => i == 11) VZ (λ_ _ h k => h.tr k) (λi v _ _ h k => Nt h k) ?fr ?step ?tail (λ_ => Vs) _ (Ext.dr W0))
  case fr =>
    intro i v w' _ hf hv;obtain rfl : i = 11 := by simpa using hf
    obtain ⟨b, e, _, h⟩ := hv;exact ⟨b, e, h.lt⟩
  case step =>
    intro i vs w' hi hD hd;have hw0 : Ext W0 w' := hD;have cA := λi => (R1.ext hw0).cell i
    have cB := λi => (R2.ext hw0).cell i
    have h3 := (R3.ext hw0).lt;rcases (show i = 0 \/ i = 1 \/ i = 2 \/ i = 3 \/ i = 4 \/ i = 5 \/ i = 6 \/ i = 7 \/ i = 8 \/ i = 9 \/ i = 10 \/ i = 11 by omega) with rfl | rfl | rfl | rfl | rfl | rfl | rfl | rfl | rfl | rfl | rfl | rfl <;> clear hi
    all_goals refine Vx rfl (λK hK => ?_)
    all_goals try (have d0 := hd 0 Wq; simp only [sA] at d0)
    all_goals try (have d1 := hd 1 Wq; simp only [sA] at d1)
    all_goals try (have d2 := hd 2 Wq; simp only [sA] at d2)
    all_goals try (have d3 := hd 3 Wq; simp only [sA] at d3)
    all_goals try (have d4 := hd 4 Wq; simp only [sA] at d4)
    all_goals try (have d5 := hd 5 Wq; simp only [sA] at d5)
    all_goals try (have d6 := hd 6 Wq; simp only [sA] at d6)
    all_goals try (have d7 := hd 7 Wq; simp only [sA] at d7)
    all_goals try (have d8 := hd 8 Wq; simp only [sA] at d8)
    all_goals try (have x6 := hd 9 Wq; obtain ⟨l6, h6, hc6, hl6⟩ := x6; obtain ⟨A6, c6, e6, _, _, _⟩ := id h6; have H6 := Vk h6)
    all_goals clear hd
    all_goals go_simp
    all_goals first
      | exact hK _ _ ⟨_, WY, Ext.aB _, rfl, λh => V6⟩
      | (refine (KC.o _ (E3.o.tr hw0)).mono ?_
         rintro e W4 ⟨v, l4, rfl, hs, hc, hl, hX⟩;exact hK _ _ ⟨v, WY, hX, ⟨l4, hs, hc, hl⟩, λh => V6⟩)
      | exact hK _ _ ⟨VW #[VS mm, VQ A6 l6.length c6], WY, Ext.aB _, ⟨A6, c6, l6, rfl, e6 ▸ H6.o, hc6, hl6⟩, λh => V6⟩
      | exact hK _ _ ⟨VT (Vq ⟨w'.heap.size, 0, Vo⟩), WY, (Below.refl _ _).alloc (Vm _) _, ⟨_, rfl, VY, ah.new _ _ _⟩, λ_ => ⟨_, rfl, Vm _⟩⟩
  case tail =>
    intro vs w' hD hv _;have hw0 : Ext W0 w' := hD;obtain ⟨A7, c7, l7, e7, hs, hc7, hl7⟩ := hv 10 V0;obtain ⟨b8, e8, hb8, r8⟩ := hv 11 V0;have HS := Vk hs;have r3 := R3.ext hw0;have f8 := λi => r8.frozen i
    have c80 := r8.cell 0;have c81 := r8.cell 1;have c30 := r3.cell 0;have c31 := r3.cell 1;have f3 := λi => r3.frozen i
    have r9 := r8.oT (VS mm) (VQ A7 l7.length c7);have r10 := r9.mQ (VS Vp);have c90 := r9.cell 0;have c91 := r9.cell 1;have c100 := r10.cell 0;have c101 := r10.cell 1;have f9 := λi => r9.frozen i
    have f10 := λi => r10.frozen i
    have hne : ¬ w.heap.size + 1 + 1 = b8 := VY;have k3 := (r3.dx (p := ⟨b8, 0, Vo⟩) Wj (VS mm)).dx (p := ⟨b8, 1, Vo⟩) Wj (VQ A7 l7.length c7);have k4 := k3.dx (p := ⟨b8, 0, Vo⟩) Wj (VS Vp);have g3 := λi => k3.frozen i
    have k30 := k3.cell 0;have k31 := k3.cell 1;have k40 := k4.cell 0;have k41 := k4.cell 1;have g4 := λi => k4.frozen i
    clear hv hs;simp only [List.drop_succ_cons, List.drop_zero];have HW := Vk hw0;have HR8 := Vk r8;have HR9 := Vk r9;have HK3 := Vk k3;have HK4 := Vk k4;clear r8 r9 r10 k3 k4 r3 hw0;by_cases hz : l7.length = 0
    · obtain rfl : l7 = [] := List.length_eq_zero_iff.1 hz
      go_wp2;have s3 := ma (ma (ma HS.o HR8.o (gM _ _ _) 0 (VS mm)) (HR8.o.mQ _) (gM _ _ _) 1 (VQ A7 0 c7)) HR9.o (gM _ _ _) 0 (VS Vp);have j4 := HK4.o.oT (VS Vp) (VQ A7 0 c7);have q0 := j4.cell 0;have q1 := j4.cell 1;refine bodyPost_ret (v := VW #[VS Vp, VQ A7 0 c7]) (by simp at q0 q1; simp [results, results340, go_sem, q0, q1]) rfl (pw.of (ma (ma s3 HK4.o (gM _ _ _) 0 (VS Vp)) (HK4.o.mQ _) (gM _ _ _) 1 (VQ A7 0 c7)) hc7 hl7.1 (by rw [<- HSM.o _ hl7.2]; cases mm <;> rfl) ?_);exact (((((E3.o.tr HW.o).setCell (p := ⟨b8, 0, Vo⟩) Wj _).setCell (p := ⟨b8, 1, Vo⟩) Wj _).setCell (p := ⟨b8, 0, Vo⟩) Wj _).setCell (p := ⟨w.heap.size + 1 + 1, 0, Vo⟩) Wj _).setCell (p := ⟨w.heap.size + 1 + 1, 1, Vo⟩) Wj _
    · go_wp2
      have s2 := ma (ma HS.o HR8.o (gM _ _ _) 0 (VS mm)) (HR8.o.mQ _) (gM _ _ _) 1 (VQ A7 l7.length c7);have j3 := HK3.o.oT (VS mm) (VQ A7 l7.length c7);have q0 := j3.cell 0;have q1 := j3.cell 1;refine bodyPost_ret (v := VW #[VS mm, VQ A7 l7.length c7]) (by simp [results, results340, go_sem, q0, q1]) rfl (pw.of (ma (ma s2 HK3.o (gM _ _ _) 0 (VS mm)) (HK3.o.mQ _) (gM _ _ _) 1 (VQ A7 l7.length c7)) hc7 hl7.1 (HSM.o _ hl7.2) ?_);exact ((((E3.o.tr HW.o).setCell (p := ⟨b8, 0, Vo⟩) Wj _).setCell (p := ⟨b8, 1, Vo⟩) Wj _).setCell (p := ⟨w.heap.size + 1 + 1, 0, Vo⟩) Wj _).setCell (p := ⟨w.heap.size + 1 + 1, 1, Vo⟩) Wj _
end
end Go.Proofs.YtmliacdegmklaaaGreatDoor
