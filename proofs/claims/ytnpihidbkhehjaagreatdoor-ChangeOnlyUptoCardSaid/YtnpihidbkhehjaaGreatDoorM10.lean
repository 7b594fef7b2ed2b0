/- ChangeOnly of kingpostlaw58: part 10 of its proof (merged and shortened by program). -/
import Derived.Deep.RegionHeld3
import Derived.Deep.DeepMust
import Derived.Test.YtnpihidbkhehjaaGreatDoorM09
set_option linter.unusedVariables false
set_option linter.unusedSimpArgs false
set_option linter.defProp false
set_option maxHeartbeats 8000000
set_option maxRecDepth 100000
open Go.RowKit Go.Proofs.Tryz
open Array renaming getElem?_eq_some_iff→Od
open Bool renaming false→N1,true→Oc
open Go renaming World→NY,Value→N2,undef→N7,wpOp_step→Ob,Calls→Of,maxLen→Ol,TypeId→Oo
open Go.AllReady renaming cons→Oj,nil→Oq
open Go.IntKind renaming i64→Oe
open Go.IntWalk renaming i64_in→Om
open Go.Lib renaming hid→NW
open Go.RowKit renaming intOf→Oh,Below→On
open Go.World renaming size_alloc→Oi
open List renaming getD_eq_getElem?_getD→N8,length_map→N9,getElem?_eq_getElem→Oa
open Nat renaming le_refl→NZ,mul_comm→Og,le_trans→Ok
open Option renaming none→N0,some→N3
open Go.Proofs.YtnpihidbkhehjaaGreatDoor
namespace Kp
def aQ(f:Nat→Int):Nat→Int
 |0=>0
 |n+1=>if aQ f n=0 then f n else aQ f n
theorem bW{f:Nat→Int}{n:Nat}(h:∀i,i<n→f i=0):aQ f n=0:=by
 induction n with
 |zero=>rfl
 |succ n ih=>rw[aQ,if_pos (ih fun i hi=>h i Ot)];exact h n Ot
theorem bS{f:Nat→Int}{n k:Nat}(hk:k<n)(h:∀i,i<k→f i=0)(hne:f k≠0):aQ f n=f k:=by
 induction n with
 |zero=>omega
 |succ n ih=>
  rw[aQ]
  by_cases hkn:k=n
  ·subst hkn;rw[if_pos (bW h)]
  ·rw[ih Ot,if_neg hne]
theorem nt{f:Nat→Int}{n:Nat}(h:aQ f n=0):∀i,i<n→f i=0:=by
 induction n with
 |zero=>intro i hi;omega
 |succ n ih=>
  rw[aQ] at h
  by_cases h0:aQ f n=0
  ·rw[if_pos h0] at h
   intro i hi
   by_cases hin:i=n
   ·subst hin;exact h
   ·exact ih h0 i Ot
  ·rw[if_neg h0] at h;exact absurd h h0
def dt(p:Nat→Bool):Nat→Bool
 |0=>N1
 |n+1=>dt p n||p n
theorem dJ{p:Nat→Bool}{n:Nat}(h:∀i,i<n→p i=N1):dt p n=N1:=by
 induction n with
 |zero=>rfl
 |succ n ih=>rw[dt,ih fun i hi=>h i Ot,h n Ot];rfl
theorem eX{p:Nat→Bool}{n k:Nat}(hk:k<n)(h:p k=Oc):dt p n=Oc:=by
 induction n with
 |zero=>omega
 |succ n ih=>
  rw[dt]
  by_cases hkn:k=n
  ·subst hkn;rw[h,Bool.or_true]
  ·rw[ih Ot,Bool.true_or]
theorem Fe{p:Nat→Bool}{n:Nat}:dt p n=Oc↔∃i,i<n∧p i=Oc:=by
 constructor
 ·intro h
  by_cases hx:∃i,i<n∧p i=Oc
  ·exact hx
  ·rw[dJ fun i hi=>by cases hp:p i with|false=>rfl|true=>exact absurd ⟨i,hi,hp⟩ hx] at h;cases h
 ·rintro⟨i,hi,hp⟩;exact eX hi hp
def oP(f:Nat→Int):Nat→Int
 |0=>0
 |n+1=>oP f n+f n
theorem yq{f:Nat→Int}{n:Nat}{m:Int}(h:∀i,i<n→ -m≤f i∧f i≤m): -(n*m)≤oP f n∧oP f n≤n*m:=by
 induction n with
 |zero=>simp[oP]
 |succ n ih=>
  have h1:=ih fun i hi=>h i Ot
  have h2:=h n Ot
  have e:((n+1:Nat):Int)*m=n*m+m:=by rw[Int.natCast_add,Int.add_mul];simp
  rw[oP,e];omega
def xq(p:Nat→Bool):Nat→Bool
 |0=>N1
 |n+1=>if p n then !xq p n else xq p n
structure Sd where
 x:Int
 y:Int
 rise:Int
 run:Int
 gable:Bool
 plate:Int
 over:Int
deriving DecidableEq
def I8:Sd:=⟨0,0,0,0,N1,0,0⟩
def aF(n a b:Int):Bool:=decide (a≤n)&&decide (n≤b)
def aV(s:Sd):Bool:=
 (if s.gable then s.rise==0&&s.run==0 else aF s.rise 1 48&&aF s.run 1 48)&&aF s.x 0 65536&&aF s.y 0 65536&&aF s.plate 0 65536&&aF s.over 0 65536
def az(r:List Sd)(i:Nat):Sd:=r.getD i I8
def dL(r:List Sd)(i:Nat):Sd:=r.getD ((i+r.length-1)%r.length) I8
def bj(r:List Sd)(i:Nat):Sd:=r.getD ((i+1)%r.length) I8
def zg(r:List Sd)(i:Nat):Int:=(bj r i).x-(az r i).x
def Hy(r:List Sd)(i:Nat):Int:=(bj r i).y-(az r i).y
def Gx(r:List Sd)(i:Nat):Int:=(az r i).x-(dL r i).x
def LR(r:List Sd)(i:Nat):Int:=(az r i).y-(dL r i).y
def kO(r:List Sd)(i:Nat):Bool:=((zg r i==0)==(Hy r i==0))||((Gx r i==0)==(zg r i==0))
def cz(r:List Sd):Bool:=decide (4≤r.length)&& !dt (kO r) r.length
def Jk(r:List Sd)(i:Nat):Bool:=decide (0<Gx r i*Hy r i-LR r i*zg r i)
structure lN where
 lx:Int
 ly:Int
 hx:Int
 hy:Int
def yF(r:List Sd)(i:Nat):lN:=
 ⟨min (az r i).x (bj r i).x,min (az r i).y (bj r i).y,max (az r i).x (bj r i).x,max (az r i).y (bj r i).y⟩
def gx(a b:lN):Bool:=decide (a.lx≤b.hx)&&decide (b.lx≤a.hx)&&decide (a.ly≤b.hy)&&decide (b.ly≤a.hy)
def gR(r:Nat)(ring:List Sd)(n:Nat):List (Nat×Nat×lN):=(List.range n).map fun i=>(r,i,yF ring i)
def jE(rs:List (List Sd)):Nat→List (Nat×Nat×lN)
 |0=>[]
 |n+1=>jE rs n++gR n (rs.getD n []) (rs.getD n []).length
def nM:Nat×Nat×lN:=(0,0,⟨0,0,0,0⟩)
def s7(rs:List (List Sd))(a b:Nat×Nat×lN):Bool:=
 !(a.1==b.1&&((a.2.1:Int)-b.2.1==1||(a.2.1:Int)-b.2.1==((rs.getD a.1 []).length:Int)-1))&&gx a.2.2 b.2.2
def eB(rs:List (List Sd)):Bool:=
 dt (fun i=>dt (fun k=>s7 rs ((jE rs rs.length).getD i nM) ((jE rs rs.length).getD k nM)) i) (jE rs rs.length).length
def mW(r:List Sd):Int:=oP (fun i=>(az r i).x*(bj r i).y-(az r i).y*(bj r i).x) r.length
def jy(r:List Sd)(x y:Int)(i:Nat):Bool:=zg r i==0&&decide (x<(az r i).x)&&(decide (y<(az r i).y) !=decide (y<(bj r i).y))
def ik(r:List Sd)(x y:Int):Bool:=xq (jy r x y) r.length
def FR(rs:List (List Sd))(i:Nat):Bool:=
 (decide (0<mW (rs.getD i [])) !=(i==0))||dt (fun k=> !(k==i||i==0)&&(ik (rs.getD k []) (az (rs.getD i []) 0).x (az (rs.getD i []) 0).y !=(k==0))) rs.length
def eD(rs:List (List Sd)):Bool:= !dt (FR rs) rs.length
def qL(r:List Sd)(i:Nat):Bool:= !Jk r i&&((az r i).gable||(dL r i).gable||(az r i).plate !=(dL r i).plate)
def fN(rs:List (List Sd)):Bool:=
 !dt (fun k=>dt (qL (rs.getD k [])) (rs.getD k []).length) rs.length&&dt (fun k=>dt (fun i=> !(az (rs.getD k []) i).gable) (rs.getD k []).length) rs.length
def dk(rs:List (List Sd)):Int:=
 if rs.any (·.isEmpty)||rs.isEmpty then 5
 else if 24<rs.flatten.length then 4
 else if rs.flatten.any fun s=> !aV s then 2
 else if rs.any fun r=> !cz r then 14
 else if eB rs then 15
 else if !eD rs|| !fN rs then 14
 else 0
def fW(l:List Int):Int:=
 if 16<l.length then 4
 else aQ (fun i=>if !aF (l.getD i 0) 0 1048576 then 2 else if 0<i∧l.getD i 0≤l.getD (i-1) 0 then 10 else 0) l.length
structure Sz where
 kind:Int
 width:Int
 depth:Int
deriving DecidableEq
def kJ:Sz:=⟨0,0,0⟩
def oU(l:List Sz)(i:Nat):Int:=
 let s:=l.getD i kJ
 if s.kind<1∨13≤s.kind then 8 else if min s.width s.depth<1∨1000<max s.width s.depth then 2
 else if dt (fun k=>(l.getD k kJ).kind==s.kind) i then 7 else 0
def gk(l:List Sz):Int:=aQ (oU l) l.length
structure Tl where
 width:Int
 length:Int
 lap:Int
 tail:Int
deriving DecidableEq
def de(t:Tl):Int:=if aF t.width 1 2000&&aF t.length 1 2000&&aF t.lap 0 (t.length-1)&&aF t.tail 0 1000 then 0 else 2
structure Br where
 width:Int
 depth:Int
 length:Int
 count:Int
 cost:Int
 gaps:List (Int×Int)
deriving DecidableEq
def mA:Br:=⟨0,0,0,0,0,[]⟩
def yM(b:Br)(i:Nat):Int:=
 let g:=b.gaps.getD i (0,0)
 if g.1<0∨b.length<g.2∨g.2≤g.1 then 2 else if 0<i∧g.1≤(b.gaps.getD (i-1) (0,0)).2 then 10 else 0
def sN(b:Br):Int:=
 if !(aF b.width 1 1000&&aF b.depth 1 1000&&aF b.length 1 65536&&aF b.count 0 4096&&aF b.cost 0 1073741824) then 2
 else if 16<b.gaps.length then 4
 else aQ (yM b) b.gaps.length
def iu(l:List Br):Int:=if 64<l.length then 4 else aQ (fun i=>sN (l.getD i mA)) l.length
structure Aw where
 width:Int
 depth:Int
 spacing:Int
 load:Int
 span:Int
deriving DecidableEq
def mL:Aw:=⟨0,0,0,0,0⟩
def zH(a b c d:Int):Int:=if a≠0 then a else if b≠0 then b else if c≠0 then c else d
def BU(a b:Aw):Int:=zH (a.width-b.width) (a.depth-b.depth) (a.spacing-b.spacing) (a.load-b.load)
def jn(x:Aw):Bool:=aF x.width 1 1000&&aF x.depth 1 1000&&aF x.spacing 1 65536&&aF x.load 0 1048576&&aF x.span 1 65536
def mZ(l:List Aw)(i:Nat):Int:=if !jn (l.getD i mL) then 2 else if 0<i∧0≤BU (l.getD (i-1) mL) (l.getD i mL) then 10 else 0
def gi(l:List Aw):Int:=if 4096<l.length then 4 else aQ (mZ l) l.length
structure Ld where
 kind:Int
 side:Int
 weight:List UInt8
deriving DecidableEq
def mD:Ld:=⟨0,0,[]⟩
structure jD where
 side:Int
 left:List UInt8
 right:List UInt8
 low:List UInt8
 high:List UInt8
deriving DecidableEq
def fK:jD:=⟨0,[],[],[],[]⟩
end Kp
namespace Go.Proofs.YtnpihidbkhehjaaGreatDoor
section
open Kp
abbrev jF(s:Sd):List N2:=[.int .i64 s.x,.int .i64 s.y,.int .i64 s.rise,.int .i64 s.run,.bool s.gable,.int .i64 s.plate,.int .i64 s.over]
abbrev iE(x y:Int):List N2:=[.int .i64 x,.int .i64 y]
abbrev fZ(a b c:Sd):List N2:=[.int .i64 a.x,.int .i64 a.y,.int .i64 a.rise,.int .i64 a.run,.bool a.gable,.int .i64 a.plate,.int .i64 a.over,.int .i64 b.x,.int .i64 b.y,.int .i64 b.rise,.int .i64 b.run,.bool b.gable,.int .i64 b.plate,.int .i64 b.over,.int .i64 c.x,.int .i64 c.y,.int .i64 c.rise,.int .i64 c.run,.bool c.gable,.int .i64 c.plate,.int .i64 c.over]
abbrev qD(r:lN):List N2:=[.int .i64 r.lx,.int .i64 r.ly,.int .i64 r.hx,.int .i64 r.hy]
abbrev co(n:Int):Prop:=0≤n∧n≤65536
theorem dI(w:NY)(x y:Obj):Ext w ((w.alloc x).alloc y):=((Below.refl _ _).alloc (NZ _) _).alloc Ow _
theorem wK(w:NY)(x y z:Obj):Ext w (((w.alloc x).alloc y).alloc z):=(dI w x y).alloc OB _
theorem tT{a b m n:Int}(ha: -m≤a∧a≤m)(hb: -n≤b∧b≤n): -(m*n)≤a*b∧a*b≤m*n:=by
 have hm:0≤m:=Ot
 have hn:0≤n:=Ot
 have h1:(a*b).natAbs≤m.natAbs*n.natAbs:=by
  rw[Int.natAbs_mul]
  exact Nat.mul_le_mul Ot Ot
 have h2:m*n=((m.natAbs*n.natAbs:Nat):Int):=by
  rw[Int.natCast_mul,Int.natAbs_of_nonneg hm,Int.natAbs_of_nonneg hn]
 rw[h2];omega
theorem aU(s:Sd)(w:NY):Of prog 151 #[.agg (jF s).toArray] w fun e w'=>e= .returned (.agg (iE s.x s.y).toArray)∧Ext w w':=by
 go_enter func151,ntmps151
 go_wp2
 refine bodyPost_ret (v:= .agg (iE s.x s.y).toArray) ?_ rfl ⟨rfl,dI _ _ _⟩
 simp[results,results151,go_sem]
theorem o9(a b c d:Int)(w:NY)(ha:co a)(hb:co b)(hc:co c)(hd:co d):
  Of prog 152 #[.agg (iE a b).toArray,.agg (iE c d).toArray] w fun e w'=>e= .returned (.agg (iE (c-a) (d-b)).toArray)∧Ext w w':=by
 obtain⟨a1,a2⟩:=ha
 obtain⟨b1,b2⟩:=hb
 obtain⟨c1,c2⟩:=hc
 obtain⟨d1,d2⟩:=hd
 go_enter func152,ntmps152
 go_wp2
 refine bodyPost_ret (v:= .agg (iE (c-a) (d-b)).toArray) ?_ rfl ⟨rfl,wK _ _ _ _⟩
 simp[results,results152,go_sem]
theorem mX(a b c d:Int)(w:NY)(ha: -65536≤a∧a≤65536)(hb: -65536≤b∧b≤65536)(hc: -65536≤c∧c≤65536)(hd: -65536≤d∧d≤65536):
  Of prog 201 #[.agg (iE a b).toArray,.agg (iE c d).toArray] w fun e w'=>e= .returned (.int .i64 (a*d-b*c))∧Ext w w':=by
 have h1:=tT ha hd
 have h2:=tT hb hc
 simp only[Int.reduceMul,Int.reduceNeg] at h1 h2
 obtain⟨h11,h12⟩:=h1
 obtain⟨h21,h22⟩:=h2
 clear ha hb hc hd
 go_enter func201,ntmps201
 go_wp2
 go_ret
 exact⟨rfl,dI _ _ _⟩
theorem lY(n a b:Int)(w:NY):Of prog 148 #[.int .i64 n,.int .i64 a,.int .i64 b] w fun e w'=>e= .returned (.bool (aF n a b))∧w'=w:=by
 cases h:decide (a≤n)
 ·have HR:=NW (show aF n a b=N1 by unfold aF;rw[h];rfl)
  go_enter func148,ntmps148
  go_wp2
  go_ret
  exact⟨OA,rfl⟩
 ·have HR:=NW (show aF n a b=decide (n≤b) by unfold aF;rw[h];rfl)
  go_enter func148,ntmps148
  go_wp2
  go_ret
  exact⟨OA,rfl⟩
def af(w:NY)(b:Nat)(T:Oo)(l:List N2):Prop:=w.heap[b]?=N3 (.cells l.toArray T (0,0))
theorem af.ext{w w':NY}{b:Nat}{T:Oo}{l:List N2}(h:af w b T l)(hx:Ext w w'):af w' b T l:=(hx.block b (Od.1 h).1).trans h
theorem af.new(w:NY)(T:Oo)(l:List N2):af (w.alloc (.cells l.toArray T)) w.heap.size T l:=NY.alloc_heap_new w _
theorem af.cell{w:NY}{b:Nat}{T:Oo}{l:List N2}(h:af w b T l)(i:Nat):w.cell? ⟨b,i,N0⟩=l[i]?:=by unfold af at h;simp[World.cell?,h]
theorem af.lt{w:NY}{b:Nat}{T:Oo}{l:List N2}(h:af w b T l):b<w.heap.size:=(Od.1 h).1
theorem af.frozen{w:NY}{b:Nat}{T:Oo}{l:List N2}(h:af w b T l)(i:Nat):w.frozen? ⟨b,i,N0⟩=N1:=by unfold af at h;simp[World.frozen?,h]
theorem af.lU{w:NY}{b:Nat}{T:Oo}{x y:N2}(h:af w b T [x,y])(u v:N2):af ((w.setCell ⟨b,0,N0⟩ u).setCell ⟨b,1,N0⟩ v) b T [u,v]:=by
 unfold af at *;simp[World.setCell,Array.getElem?_modify,h]
theorem af.cI{w:NY}{b:Nat}{T:Oo}{l:List N2}(h:af w b T l){p:Addr}(hp:p.block≠b)(v:N2):af (w.setCell p v) b T l:=(Below.heap_setCell _ _ _ _ (Ne.symm hp)).trans h
theorem af.drew{w:NY}{b:Nat}{T:Oo}{l:List N2}(h:af w b T l):af w.drew b T l:=h
theorem fX(a b c:Sd)(w:NY)(hbx:co b.x)(hby:co b.y)(hcx:co c.x)(hcy:co c.y):
  Of prog 153 #[.agg (fZ a b c).toArray] w fun e w'=>e= .returned (.agg (iE (c.x-b.x) (c.y-b.y)).toArray)∧Ext w w':=by
 have R1:=(af.new w 190 (fZ a b c)).ext ((Below.refl _ _).alloc (NZ _) (.cells (iE 0 0).toArray 192))
 have R2:=af.new (w.alloc (.cells (fZ a b c).toArray 190)) 192 (iE 0 0)
 have L0:=NW (dI w (.cells (fZ a b c).toArray 190) (.cells (iE 0 0).toArray 192))
 rw[Oi] at R2
 go_enter func153,ntmps153
 go_wp2
 obtain⟨W0,hW0⟩:∃W0,(w.alloc (.cells (fZ a b c).toArray 190)).alloc (.cells (iE 0 0).toArray 192)=W0:=⟨_,rfl⟩
 simp only[hW0] at R1 R2 L0⊢
 clear hW0
 have cA:=fun(w':NY) (h:On (w.heap.size+1) W0 w') (i:Nat)=>af.cell ((h.block _ (Nat.lt_succ_self _)).trans R1:af w' w.heap.size 190 (fZ a b c)) i
 have cB:=fun(w':NY) (h:Ext W0 w') (i:Nat)=>(R2.ext h).cell i
 have fB:=fun(w':NY) (h:Ext W0 w') (i:Nat)=>(R2.ext h).frozen i
 have hz:w.heap.size+1≤W0.heap.size:=Nat.le_of_lt R2.lt
 go_region_held3(fun w'=>On (w.heap.size+1) W0 w') (first|exact hx3.mono hz|exact hx2.mono hz|exact hx1.mono hz|exact((Below.refl _ _).drew).mono hz|exact((hx3.mono hz).setCell (p:=⟨w.heap.size+1,0,N0⟩) (NZ _) _).setCell (p:=⟨w.heap.size+1,1,N0⟩) (NZ _) _) (first
  |(go_at_call 152;go_must(refine(o9 _ _ _ _ _ hbx hby hcx hcy).mono ?_);rintro e W3 ⟨rfl,hX3⟩;have hx3:Ext W0 W3:=hx2.trans (hX3.mono hx2.size))
  |(go_at_call 151;(refine(aU c _).mono ?_);rintro e W2 ⟨rfl,hX2⟩;have hx2:Ext W0 W2:=hx1.trans (hX2.mono hx1.size))
  |(go_at_call 151;go_must(refine(aU b _).mono ?_);rintro e W1 ⟨rfl,hX1⟩;have hx1:Ext W0 W1:=((Below.refl _ _).drew).trans (hX1.mono (NZ _))))
 go_wp2
 have R3:=(R2.ext hx3).lU (.int .i64 (c.x-b.x)) (.int .i64 (c.y-b.y))
 have q0:=R3.cell 0
 have q1:=R3.cell 1
 refine bodyPost_ret (v:= .agg (iE (c.x-b.x) (c.y-b.y)).toArray) ?_ rfl ⟨rfl,?_⟩
 ·simp[results,results153,go_sem,q0,q1]
 ·exact((L0.out.trans (hx3.mono L0.out.size)).setCell (p:=⟨w.heap.size+1,0,N0⟩) Ow _).setCell (p:=⟨w.heap.size+1,1,N0⟩) Ow _
theorem zP(a b:lN)(w:NY):Of prog 155 #[.agg (qD a).toArray,.agg (qD b).toArray] w fun e w'=>e= .returned (.bool (gx a b))∧Ext w w':=by
 cases h1:decide (a.lx≤b.hx)
 ·have HR:=NW (show gx a b=N1 by unfold gx;rw[h1];rfl)
  go_enter func155,ntmps155
  go_wp2
  go_ret
  exact⟨OA,dI _ _ _⟩
 cases h2:decide (b.lx≤a.hx)
 ·have HR:=NW (show gx a b=N1 by unfold gx;rw[h1,h2];rfl)
  go_enter func155,ntmps155
  go_wp2
  go_ret
  exact⟨OA,dI _ _ _⟩
 cases h3:decide (a.ly≤b.hy)
 ·have HR:=NW (show gx a b=N1 by unfold gx;rw[h1,h2,h3];rfl)
  go_enter func155,ntmps155
  go_wp2
  go_ret
  exact⟨OA,dI _ _ _⟩
 ·have HR:=NW (show gx a b=decide (b.ly≤a.hy) by unfold gx;rw[h1,h2,h3];rfl)
  go_enter func155,ntmps155
  go_wp2
  go_ret
  exact⟨OA,dI _ _ _⟩
end
section
open Kp
def nW(a b c:Sd)(blk:Nat):Nat→N2
 |0=> .pointer (N3 ⟨blk,0,N0⟩)
 |1=> .agg (jF a).toArray
 |2=> .agg (iE a.x a.y).toArray
 |3=> .pointer (N3 ⟨blk,7,N0⟩)
 |4=> .agg (jF b).toArray
 |5=> .agg (iE b.x b.y).toArray
 |6=> .agg (iE (b.x-a.x) (b.y-a.y)).toArray
 |7=> .agg (fZ a b c).toArray
 |8=> .agg (iE (c.x-b.x) (c.y-b.y)).toArray
 |9=> .int .i64 ((b.x-a.x)*(c.y-b.y)-(b.y-a.y)*(c.x-b.x))
 |_=> .bool (decide (0<(b.x-a.x)*(c.y-b.y)-(b.y-a.y)*(c.x-b.x)))
theorem BH(a b c:Sd)(w:NY)(hax:co a.x)(hay:co a.y)(hbx:co b.x)(hby:co b.y)(hcx:co c.x)(hcy:co c.y):
  Of prog 158 #[.agg (fZ a b c).toArray] w fun e w'=>e= .returned (.bool (decide (0<(b.x-a.x)*(c.y-b.y)-(b.y-a.y)*(c.x-b.x))))∧Ext w w':=by
 have R1:=af.new w 190 (fZ a b c)
 have L0:=NW (show Ext w (w.alloc (.cells (fZ a b c).toArray 190)) from(Below.refl _ _).alloc (NZ _) _)
 go_enter func158,ntmps158
 go_wp2
 obtain⟨W0,hW0⟩:∃W0,w.alloc (.cells (fZ a b c).toArray 190)=W0:=⟨_,rfl⟩
 simp only[hW0] at R1 L0⊢
 clear hW0
 refine wp_region_any Ou (bA 11 (fun vs=>⟨#[.agg (fZ a b c).toArray,.pointer (N3 ⟨w.heap.size,0,N0⟩),.bool N1,vs 0,vs 1,vs 2,vs 3,vs 4,vs 5,vs 6,vs 7,vs 8,vs 9,vs 10],[]⟩)
  (fun w'=>Ext W0 w') (fun i v _=>v=nW a b c w.heap.size i) (fun _=>N1) Ou (fun _ _ h k=>h.tr k) (fun _ _ _ _ h _=>h) (fun _ _ _ _ h=>Ox) ?step ?tail (fun _=>N7) _ (Ext.dr W0))
 case tail=>
  intro vs w' hD hv _
  have v10:=hv 10 Ov
  clear hv
  simp only[List.drop_succ_cons,List.drop_zero]
  simp only[nW] at v10
  go_wp2
  go_ret
  exact⟨by rw[v10];rfl,L0.out.tr hD⟩
 case step=>
  intro i vs w' hi hD hd
  have cA:=fun i=>(R1.ext hD).cell i
  rcases(show i=0∨i=1∨i=2∨i=3∨i=4∨i=5∨i=6∨i=7∨i=8∨i=9∨i=10 by omega) with rfl|rfl|rfl|rfl|rfl|rfl|rfl|rfl|rfl|rfl|rfl<;>clear hi
  ·refine Ob rfl (fun K hK=> ?_)
   go_simp
   exact hK _ _ ⟨_,rfl,Ext.an _,rfl,fun h=>Ox⟩
  ·refine Ob rfl (fun K hK=> ?_)
   have d0:=hd 0 Ou
   simp only[nW] at d0
   go_simp
   exact hK _ _ ⟨nW a b c w.heap.size _,by simp[d0,nW],Ext.an _,rfl,fun h=>Ox⟩
  ·refine Ob rfl (fun K hK=> ?_)
   have d0:=hd 1 Ou
   simp only[nW] at d0
   go_simp
   refine(aU a _).mono ?_
   rintro e W1 ⟨rfl,hX⟩
   exact hK _ _ ⟨nW a b c w.heap.size _,by simp[d0,nW],hX,rfl,fun h=>Ox⟩
  ·refine Ob rfl (fun K hK=> ?_)
   go_simp
   exact hK _ _ ⟨_,rfl,Ext.an _,rfl,fun h=>Ox⟩
  ·refine Ob rfl (fun K hK=> ?_)
   have d0:=hd 3 Ou
   simp only[nW] at d0
   go_simp
   exact hK _ _ ⟨nW a b c w.heap.size _,by simp[d0,nW],Ext.an _,rfl,fun h=>Ox⟩
  ·refine Ob rfl (fun K hK=> ?_)
   have d0:=hd 4 Ou
   simp only[nW] at d0
   go_simp
   refine(aU b _).mono ?_
   rintro e W1 ⟨rfl,hX⟩
   exact hK _ _ ⟨nW a b c w.heap.size _,by simp[d0,nW],hX,rfl,fun h=>Ox⟩
  ·refine Ob rfl (fun K hK=> ?_)
   have d0:=hd 2 Ou
   have d1:=hd 5 Ou
   simp only[nW] at d0 d1
   go_simp
   refine(o9 _ _ _ _ _ hax hay hbx hby).mono ?_
   rintro e W1 ⟨rfl,hX⟩
   exact hK _ _ ⟨nW a b c w.heap.size _,by simp[d0,d1,nW],hX,rfl,fun h=>Ox⟩
  ·refine gQ rfl rfl ?_
   exact wp_load_row 190 (.tmp 1) rfl w.heap.size rfl 190 (fZ a b c).toArray (0,0) _ (R1.ext hD) underlying190 rfl Ou ⟨_,rfl,Ext.an _,rfl,fun h=>Ox⟩
  ·refine Ob rfl (fun K hK=> ?_)
   have d0:=hd 7 Ou
   simp only[nW] at d0
   go_simp
   refine(fX a b c _ hbx hby hcx hcy).mono ?_
   rintro e W1 ⟨rfl,hX⟩
   exact hK _ _ ⟨nW a b c w.heap.size _,by simp[d0,nW],hX,rfl,fun h=>Ox⟩
  ·refine Ob rfl (fun K hK=> ?_)
   have d0:=hd 6 Ou
   have d1:=hd 8 Ou
   simp only[nW] at d0 d1
   go_simp
   refine(mX (b.x-a.x) (b.y-a.y) (c.x-b.x) (c.y-b.y) _ Ot Ot Ot Ot).mono ?_
   rintro e W1 ⟨rfl,hX⟩
   exact hK _ _ ⟨nW a b c w.heap.size _,by simp[d0,d1,nW],hX,rfl,fun h=>Ox⟩
  ·refine Ob rfl (fun K hK=> ?_)
   have d0:=hd 9 Ou
   simp only[nW] at d0
   go_simp
   refine hK _ _ ⟨.bool (decide ((b.y-a.y)*(c.x-b.x)<(b.x-a.x)*(c.y-b.y))),by simp[d0],Ext.an _,?_,fun h=>Ox⟩
   show N2.bool _=N2.bool _
   congr 1
   rw[decide_eq_decide];omega
end
section
open Kp
def fe(lo:Nat)(v:N2)(w:NY):Prop:=∃b,v= .pointer (N3 ⟨b,0,N0⟩)∧lo≤b∧af w b 192 (iE 0 0)
theorem fe.ext{lo:Nat}{v:N2}{w w':NY}(h:fe lo v w)(hx:Ext w w'):fe lo v w':=by
 obtain⟨b,e,hl,hr⟩:=h
 exact⟨b,e,hl,hr.ext hx⟩
theorem fe.lt{lo:Nat}{v:N2}{w:NY}(h:fe lo v w):∃b,v= .pointer (N3 ⟨b,0,N0⟩)∧b<w.heap.size:=by
 obtain⟨b,e,hl,hr⟩:=h
 exact⟨b,e,hr.lt⟩
def B9(b c:Sd)(blk lo:Nat):Nat→N2→NY→Prop
 |0,v,_=>v= .pointer (N3 ⟨blk,7,N0⟩)
 |1,v,_=>v= .agg (jF b).toArray
 |2,v,_=>v= .agg (iE b.x b.y).toArray
 |3,v,_=>v= .pointer (N3 ⟨blk,14,N0⟩)
 |4,v,_=>v= .agg (jF c).toArray
 |5,v,_=>v= .agg (iE c.x c.y).toArray
 |_,v,w=>fe lo v w
theorem Hs{b c:Sd}{blk lo i:Nat}{v:N2}{w w':NY}(h:B9 b c blk lo i v w)(hx:Ext w w'):B9 b c blk lo i v w':=by
 unfold B9 at *
 split at h<;>first|exact h|exact fe.ext h hx
theorem Ii{w W:NY}{a:Act}{blk:Nat}{lx ly hx hy:Int}{b c:Sd}(h2:a.tmps[2]?=N3 (.pointer (N3 ⟨blk,0,N0⟩)))(hd:a.defers=[])(hR:af W blk 199 (qD ⟨0,0,0,0⟩))
  (e1:lx=min b.x c.x)(e2:ly=min b.y c.y)(e3:hx=max b.x c.x)(e4:hy=max b.y c.y)(hL:Ext w W)(hb:w.heap.size≤blk):
  bodyPost prog f154 (fun e w'=>e= .returned (.agg (qD ⟨min b.x c.x,min b.y c.y,max b.x c.x,max b.y c.y⟩).toArray)∧Ext w w') .ret a
   ((((W.setCell ⟨blk,0,N0⟩ (.int .i64 lx)).setCell ⟨blk,1,N0⟩ (.int .i64 ly)).setCell ⟨blk,2,N0⟩ (.int .i64 hx)).setCell ⟨blk,3,N0⟩ (.int .i64 hy)):=by
 subst e1 e2 e3 e4
 have R3:af ((((W.setCell ⟨blk,0,N0⟩ (.int .i64 (min b.x c.x))).setCell ⟨blk,1,N0⟩ (.int .i64 (min b.y c.y))).setCell ⟨blk,2,N0⟩ (.int .i64 (max b.x c.x))).setCell ⟨blk,3,N0⟩ (.int .i64 (max b.y c.y))) blk 199 (qD ⟨min b.x c.x,min b.y c.y,max b.x c.x,max b.y c.y⟩):=by
  unfold af at *;simp[World.setCell,Array.getElem?_modify,hR]
 have q:=fun i=>R3.cell i
 refine bodyPost_ret (v:= .agg (qD ⟨min b.x c.x,min b.y c.y,max b.x c.x,max b.y c.y⟩).toArray) ?_ hd ⟨rfl,?_⟩
 ·simp[results,results154,go_sem,h2,q]
 ·exact(((hL.setCell (p:=⟨blk,0,N0⟩) hb _).setCell (p:=⟨blk,1,N0⟩) hb _).setCell (p:=⟨blk,2,N0⟩) hb _).setCell (p:=⟨blk,3,N0⟩) hb _
theorem Ch(a b c:Sd)(w:NY):
  Of prog 154 #[.agg (fZ a b c).toArray] w fun e w'=>e= .returned (.agg (qD ⟨min b.x c.x,min b.y c.y,max b.x c.x,max b.y c.y⟩).toArray)∧Ext w w':=by
 have R1:=(af.new w 190 (fZ a b c)).ext ((Below.refl _ _).alloc (NZ _) (.cells (qD ⟨0,0,0,0⟩).toArray 199))
 have R2:=af.new (w.alloc (.cells (fZ a b c).toArray 190)) 199 (qD ⟨0,0,0,0⟩)
 have L0:=NW (dI w (.cells (fZ a b c).toArray 190) (.cells (qD ⟨0,0,0,0⟩).toArray 199))
 rw[Oi] at R2
 go_enter func154,ntmps154
 go_wp2
 obtain⟨W0,hW0⟩:∃W0,(w.alloc (.cells (fZ a b c).toArray 190)).alloc (.cells (qD ⟨0,0,0,0⟩).toArray 199)=W0:=⟨_,rfl⟩
 simp only[hW0] at R1 R2 L0⊢
 have hz:w.heap.size+2≤W0.heap.size:=R2.lt
 clear hW0
 refine wp_region_any Ou (bA 8 (fun vs=>⟨#[.agg (fZ a b c).toArray,.pointer (N3 ⟨w.heap.size,0,N0⟩),.pointer (N3 ⟨w.heap.size+1,0,N0⟩),vs 6,vs 7,vs 0,vs 1,vs 2,vs 3,vs 4,vs 5,N7,N7,N7,N7,N7,N7,N7,N7,N7,N7,N7,N7,N7,N7,N7,N7,N7,N7,N7,N7,N7,N7,N7],[]⟩)
  (fun w'=>Ext W0 w') (B9 b c w.heap.size W0.heap.size) (fun i=>i==6||i==7) Ou (fun _ _ h k=>h.tr k) (fun _ _ _ _ h k=>Hs h k) ?fr ?step ?tail (fun _=>N7) _ (Ext.dr W0))
 case fr=>
  intro i v w' hi hf hv
  simp only[Bool.or_eq_true,beq_iff_eq] at hf
  rcases hf with rfl|rfl<;>exact fe.lt hv
 case step=>
  intro i vs w' hi hD hd
  have cA:=fun i=>(R1.ext hD).cell i
  rcases(show i=0∨i=1∨i=2∨i=3∨i=4∨i=5∨i=6∨i=7 by omega) with rfl|rfl|rfl|rfl|rfl|rfl|rfl|rfl<;>clear hi
  ·refine Ob rfl (fun K hK=> ?_)
   go_simp
   exact hK _ _ ⟨_,rfl,Ext.an _,rfl,fun h=>Ox⟩
  ·refine Ob rfl (fun K hK=> ?_)
   have d0:=hd 0 Ou
   simp only[B9] at d0
   go_simp
   exact hK _ _ ⟨_,by simp[d0,B9],Ext.an _,rfl,fun h=>Ox⟩
  ·refine Ob rfl (fun K hK=> ?_)
   have d1:=hd 1 Ou
   simp only[B9] at d1
   go_simp
   refine(aU b _).mono ?_
   rintro e W1 ⟨rfl,hX⟩
   exact hK _ _ ⟨_,by simp[d1,B9],hX,rfl,fun h=>Ox⟩
  ·refine Ob rfl (fun K hK=> ?_)
   go_simp
   exact hK _ _ ⟨_,rfl,Ext.an _,rfl,fun h=>Ox⟩
  ·refine Ob rfl (fun K hK=> ?_)
   have d3:=hd 3 Ou
   simp only[B9] at d3
   go_simp
   exact hK _ _ ⟨_,by simp[d3,B9],Ext.an _,rfl,fun h=>Ox⟩
  ·refine Ob rfl (fun K hK=> ?_)
   have d4:=hd 4 Ou
   simp only[B9] at d4
   go_simp
   refine(aU c _).mono ?_
   rintro e W1 ⟨rfl,hX⟩
   exact hK _ _ ⟨_,by simp[d4,B9],hX,rfl,fun h=>Ox⟩
  ·refine Ob rfl (fun K hK=> ?_)
   go_simp
   exact hK _ _ ⟨_,rfl,(Below.refl _ _).alloc (NZ _) _,⟨_,rfl,hD.size,af.new _ _ _⟩,fun _=>⟨_,rfl,NZ _⟩⟩
  ·refine Ob rfl (fun K hK=> ?_)
   go_simp
   exact hK _ _ ⟨_,rfl,(Below.refl _ _).alloc (NZ _) _,⟨_,rfl,hD.size,af.new _ _ _⟩,fun _=>⟨_,rfl,NZ _⟩⟩
 case tail=>
  intro vs w' hD hv hne
  have v2:=hv 2 Ov
  have v5:=hv 5 Ov
  obtain⟨p,e6,l6,r6⟩:=hv 6 Ov
  obtain⟨q,e7,l7,r7⟩:=hv 7 Ov
  have hpq:=hne 6 7 Ov Ov Ov rfl rfl
  simp only[B9] at v2 v5
  clear hv hne
  rw[e6,e7] at hpq
  have hpq':p≠q:=fun h=>hpq (by rw[h])
  clear hpq
  have R2':=R2.ext hD
  have cp:=fun i=>r6.cell i
  have cq:=fun i=>r7.cell i
  have fp:=fun i=>r6.frozen i
  have fq:=fun i=>r7.frozen i
  have cr:=fun i=>R2'.cell i
  have fr:=fun i=>R2'.frozen i
  have n1:¬q=p:=fun h=>hpq' h.symm
  have n2:¬w.heap.size+1=p:=Ot
  have n3:¬w.heap.size+1=q:=Ot
  have n4:¬p=w.heap.size+1:=Ot
  have n5:¬q=w.heap.size+1:=Ot
  simp only[List.drop_succ_cons,List.drop_zero,e6,e7,v2,v5]
  clear e6 e7 v2 v5
  go_wp2
  all_goals clear cp cq fp fq cr fr r6 r7 R2 R1
  all_goals refine Ii (blk:=w.heap.size+1) (b:=b) (c:=c) ?_ ?_ ((((R2'.cI (p:=⟨p,0,N0⟩) n4 (.int .i64 b.x)).cI (p:=⟨p,1,N0⟩) n4 (.int .i64 b.y)).cI (p:=⟨q,0,N0⟩) n5 (.int .i64 c.x)).cI (p:=⟨q,1,N0⟩) n5 (.int .i64 c.y)) ?_ ?_ ?_ ?_ (((((L0.out.tr hD).setCell (p:=⟨p,0,N0⟩) OB (.int .i64 b.x)).setCell (p:=⟨p,1,N0⟩) OB (.int .i64 b.y)).setCell (p:=⟨q,0,N0⟩) OB (.int .i64 c.x)).setCell (p:=⟨q,1,N0⟩) OB (.int .i64 c.y)) (Nat.le_succ _)
  all_goals first|(with_reducible rfl)|(clear R2' L0 hD;omega)|rfl
end
end Go.Proofs.YtnpihidbkhehjaaGreatDoor
