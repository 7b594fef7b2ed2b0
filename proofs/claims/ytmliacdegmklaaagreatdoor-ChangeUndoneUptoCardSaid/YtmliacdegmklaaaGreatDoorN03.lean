/- ChangeUndone of kingpostlaw58: part 3 of its proof (merged and shortened by program). -/
import Derived.Deep.RegionHeld3
import Derived.Deep.DeepMust
import Derived.Laws.AppendOwnNone
import Derived.Lib.MinMax
import Derived.Laws.BytesArg
import Derived.Test.YtmliacdegmklaaaGreatDoorN01
set_option linter.unusedVariables false
set_option linter.unusedSimpArgs false
set_option linter.defProp false
set_option maxHeartbeats 8000000
set_option maxRecDepth 100000
open Go.RowKit Go.Shelf Go.Proofs.Tryz
open Array renaming getElem?_eq_some_iff→VF
open Bool renaming false→Vw,true→VD
open Go renaming World→Vt,Value→Vy,undef→VB,wpOp_step→VE,Calls→VJ,maxLen→VP,TypeId→VR,Addr→VT
open Go.AllReady renaming cons→VO,nil→VU
open Go.Ending renaming returned→V0
open Go.IntKind renaming i64→VH
open Go.IntWalk renaming i64_in→VQ
open Go.Lib renaming hid→Vs
open Go.RowKit renaming intOf→VN,Below→VS
open Go.Value renaming slice→VV,string→VW,bool→VX,pointer→VY,int→VZ,agg→V5,tuple→V6
open Go.World renaming alloc_heap_new→VG,size_alloc→VK
open List renaming getD_eq_getElem?_getD→Vv,getElem?_eq_getElem→VA,length_map→VC,length_append→VM,length→ln
open Nat renaming le_refl→Vu,le_trans→VI,mul_comm→VL
open Option renaming none→Vx,some→Vz
open Go.Proofs.YtmliacdegmklaaaGreatDoor
variable{s m1 m2 mm:Bool}{m:Int}{a xs:List Nat}{n k b x lo blk i z d g b0 j:Nat}{T:VR}{p:VT}{w w' wr w0:Vt}{v1 v2:Vy}
namespace Kp
def aV(f:Nat->Int):Nat->Int
 |0=>0
 |n+1=>if aV f n=0 then f n else aV f n
theorem be{f:Nat->Int}(h:∀i,i<n->f i=0):aV f n=0:=by
 induction n with
 |zero=>rfl
 |succ n ih=>rw[aV,if_pos (ih λi hi=>h i V7)];exact h n V7
theorem bS{f:Nat->Int}(hk:k<n)(h:∀i,i<k->f i=0)(hne:f k≠0):aV f n=f k:=by
 induction n with
 |zero=>omega
 |succ n ih=>
  rw[aV];by_cases hkn:k=n
  ·subst hkn;rw[if_pos (be h)]
  ·rw[ih V7,if_neg hne]
theorem rF{f:Nat->Int}(h:aV f n=0):∀i,i<n->f i=0:=by
 induction n with
 |zero=>intro i hi;omega
 |succ n ih=>
  rw[aV] at h;by_cases h0:aV f n=0
  ·rw[if_pos h0] at h;intro i hi;by_cases hin:i=n
   ·subst hin;exact h
   ·exact ih h0 i V7
  ·rw[if_neg h0] at h;exact absurd h h0
def cz(p:Nat->Bool):Nat->Bool
 |0=>Vw
 |n+1=>cz p n||p n
theorem bh{p:Nat->Bool}(h:∀i,i<n->p i=Vw):cz p n=Vw:=by
 induction n with
 |zero=>rfl
 |succ n ih=>rw[cz,ih λi hi=>h i V7,h n V7];rfl
theorem dI{p:Nat->Bool}(hk:k<n)(h:p k=VD):cz p n=VD:=by
 induction n with
 |zero=>omega
 |succ n ih=>
  rw[cz];by_cases hkn:k=n
  ·subst hkn;rw[h,Bool.or_true]
  ·rw[ih V7,Bool.true_or]
theorem pz{p:Nat->Bool}(h:cz p n=Vw):∀i,i<n->p i=Vw:=λi hi=>by
 cases hp:p i with
 |false=>rfl
 |true=>rw[dI hi hp] at h;cases h
theorem Nu{p:Nat->Bool}:cz p n=VD↔∃i,i<n/\p i=VD:=by
 constructor
 ·intro h;by_cases hx:∃i,i<n/\p i=VD
  ·exact hx
  ·rw[bh λi hi=>by cases hp:p i with|false=>rfl|true=>exact absurd ⟨i,hi,hp⟩ hx] at h;cases h
 ·rintro⟨i,hi,hp⟩;exact dI hi hp
theorem vD{p q:Nat->Bool}(h:∀i,i<n->p i=q i):cz p n=cz q n:=by
 induction n with
 |zero=>rfl
 |succ n ih=>rw[cz,cz,ih λi hi=>h i V7,h n V7]
def rj(f:Nat->Int):Nat->Int
 |0=>0
 |n+1=>rj f n+f n
theorem Fv{f:Nat->Int}(h:∀i,i<n-> -m<=f i/\f i<=m): -(n*m)<=rj f n/\rj f n<=n*m:=by
 induction n with
 |zero=>simp[rj]
 |succ n ih=>
  have h1:=ih λi hi=>h i V7
  have h2:=h n V7;have e:((n+1:Nat):Int)*m=n*m+m:=by rw[Int.natCast_add,Int.add_mul];simp
  rw[rj,e];omega
def nf(p:Nat->Bool):Nat->Bool
 |0=>Vw
 |n+1=>if p n then !nf p n else nf p n
theorem Fz{p q:Nat->Bool}(h:∀i,i<n->p i=q i):nf p n=nf q n:=by
 induction n with
 |zero=>rfl
 |succ n ih=>rw[nf,nf,ih λi hi=>h i V7,h n V7]
structure Sd where
 x:Int
 y:Int
 rise:Int
 run:Int
 gable:Bool
 plate:Int
 over:Int
deriving DecidableEq
def Qp:Sd:=⟨0,0,0,0,Vw,0,0⟩
def aP(n a b:Int):Bool:=decide (a<=n)&&decide (n<=b)
def aJ(s:Sd):Bool:=
 (if s.gable then s.rise==0&&s.run==0 else aP s.rise 1 48&&aP s.run 1 48)&&aP s.x 0 65536&&aP s.y 0 65536&&aP s.plate 0 65536&&aP s.over 0 65536
def aq(r:List Sd)(i:Nat):Sd:=r.getD i Qp
def eL(r:List Sd)(i:Nat):Sd:=r.getD ((i+ln r-1)%ln r) Qp
def aQ(r:List Sd)(i:Nat):Sd:=r.getD ((i+1)%ln r) Qp
def mT(r:List Sd)(i:Nat):Int:=(aQ r i).x-(aq r i).x
def pF(r:List Sd)(i:Nat):Int:=(aQ r i).y-(aq r i).y
def uX(r:List Sd)(i:Nat):Int:=(aq r i).x-(eL r i).x
def zD(r:List Sd)(i:Nat):Int:=(aq r i).y-(eL r i).y
def nW(r:List Sd)(i:Nat):Bool:=((mT r i==0)==(pF r i==0))||((uX r i==0)==(mT r i==0))
def cH(r:List Sd):Bool:=decide (4<=ln r)&& !cz (nW r) (ln r)
def GR(r:List Sd)(i:Nat):Bool:=decide (0<uX r i*pF r i-zD r i*mT r i)
structure pq where
 lx:Int
 ly:Int
 hx:Int
 hy:Int
def lv(r:List Sd)(i:Nat):pq:=
 ⟨min (aq r i).x (aQ r i).x,min (aq r i).y (aQ r i).y,max (aq r i).x (aQ r i).x,max (aq r i).y (aQ r i).y⟩
def eo(a b:pq):Bool:=decide (a.lx<=b.hx)&&decide (b.lx<=a.hx)&&decide (a.ly<=b.hy)&&decide (b.ly<=a.hy)
def iJ(r:Nat)(ring:List Sd)(n:Nat):List (Nat×Nat×pq):=(List.range n).map λi=>(r,i,lv ring i)
def ky(rs:List (List Sd)):Nat->List (Nat×Nat×pq)
 |0=>[]
 |n+1=>ky rs n++iJ n (rs.getD n []) (rs.getD n []).length
def sL:Nat×Nat×pq:=(0,0,⟨0,0,0,0⟩)
def uC(rs:List (List Sd))(a b:Nat×Nat×pq):Bool:=
 !(a.1==b.1&&((a.2.1:Int)-b.2.1==1||(a.2.1:Int)-b.2.1==((rs.getD a.1 []).length:Int)-1))&&eo a.2.2 b.2.2
def ff(rs:List (List Sd)):Bool:=
 cz (λi=>cz (λk=>uC rs ((ky rs (ln rs)).getD i sL) ((ky rs (ln rs)).getD k sL)) i) (ky rs (ln rs)).length
def qx(r:List Sd):Int:=rj (λi=>(aq r i).x*(aQ r i).y-(aq r i).y*(aQ r i).x) (ln r)
def kS(r:List Sd)(x y:Int)(i:Nat):Bool:=mT r i==0&&decide (x<(aq r i).x)&&(decide (y<(aq r i).y) !=decide (y<(aQ r i).y))
def jY(r:List Sd)(x y:Int):Bool:=nf (kS r x y) (ln r)
def Ib(rs:List (List Sd))(i:Nat):Bool:=
 (decide (0<qx (rs.getD i [])) !=(i==0))||cz (λk=> !(k==i||i==0)&&(jY (rs.getD k []) (aq (rs.getD i []) 0).x (aq (rs.getD i []) 0).y !=(k==0))) (ln rs)
def fD(rs:List (List Sd)):Bool:= !cz (Ib rs) (ln rs)
def sE(r:List Sd)(i:Nat):Bool:= !GR r i&&((aq r i).gable||(eL r i).gable||(aq r i).plate !=(eL r i).plate)
def gC(rs:List (List Sd)):Bool:=
 !cz (λk=>cz (sE (rs.getD k [])) (rs.getD k []).length) (ln rs)&&cz (λk=>cz (λi=> !(aq (rs.getD k []) i).gable) (rs.getD k []).length) (ln rs)
def dv(rs:List (List Sd)):Int:=
 if rs.any (·.isEmpty)||rs.isEmpty then 5
 else if 24<ln rs.flatten then 4
 else if rs.flatten.any λs=> !aJ s then 2
 else if rs.any λr=> !cH r then 14
 else if ff rs then 15
 else if !fD rs|| !gC rs then 14
 else 0
def iT(l:List Int):Int:=
 if 16<ln l then 4
 else aV (λi=>if !aP (l.getD i 0) 0 1048576 then 2 else if 0<i/\l.getD i 0<=l.getD (i-1) 0 then 10 else 0) (ln l)
structure Sz where
 kind:Int
 width:Int
 depth:Int
deriving DecidableEq
def iI:Sz:=⟨0,0,0⟩
def jT(l:List Sz)(i:Nat):Int:=
 let s:=l.getD i iI
 if s.kind<1\/13<=s.kind then 8 else if min s.width s.depth<1\/1000<max s.width s.depth then 2
 else if cz (λk=>(l.getD k iI).kind==s.kind) i then 7 else 0
def fW(l:List Sz):Int:=aV (jT l) (ln l)
structure Tl where
 width:Int
 length:Int
 lap:Int
 tail:Int
deriving DecidableEq
def dM(t:Tl):Int:=if aP t.width 1 2000&&aP t.length 1 2000&&aP t.lap 0 (t.length-1)&&aP t.tail 0 1000 then 0 else 2
structure Br where
 width:Int
 depth:Int
 length:Int
 count:Int
 cost:Int
 gaps:List (Int×Int)
deriving DecidableEq
def oN:Br:=⟨0,0,0,0,0,[]⟩
def uO(b:Br)(i:Nat):Int:=
 let g:=b.gaps.getD i (0,0)
 if g.1<0\/b.length<g.2\/g.2<=g.1 then 2 else if 0<i/\g.1<=(b.gaps.getD (i-1) (0,0)).2 then 10 else 0
def qH(b:Br):Int:=
 if !(aP b.width 1 1000&&aP b.depth 1 1000&&aP b.length 1 65536&&aP b.count 0 4096&&aP b.cost 0 1073741824) then 2
 else if 16<ln b.gaps then 4
 else aV (uO b) (ln b.gaps)
def iM(l:List Br):Int:=if 64<ln l then 4 else aV (λi=>qH (l.getD i oN)) (ln l)
structure Aw where
 width:Int
 depth:Int
 spacing:Int
 load:Int
 span:Int
deriving DecidableEq
def nI:Aw:=⟨0,0,0,0,0⟩
def DK(a b c d:Int):Int:=if a≠0 then a else if b≠0 then b else if c≠0 then c else d
def qF(a b:Aw):Int:=DK (a.width-b.width) (a.depth-b.depth) (a.spacing-b.spacing) (a.load-b.load)
def jZ(x:Aw):Bool:=aP x.width 1 1000&&aP x.depth 1 1000&&aP x.spacing 1 65536&&aP x.load 0 1048576&&aP x.span 1 65536
def jM(l:List Aw)(i:Nat):Int:=if !jZ (l.getD i nI) then 2 else if 0<i/\0<=qF (l.getD (i-1) nI) (l.getD i nI) then 10 else 0
def gG(l:List Aw):Int:=if 4096<ln l then 4 else aV (jM l) (ln l)
structure Ld where
 kind:Int
 side:Int
 weight:List UInt8
deriving DecidableEq
def po:Ld:=⟨0,0,[]⟩
structure kN where
 side:Int
 left:List UInt8
 right:List UInt8
 low:List UInt8
 high:List UInt8
deriving DecidableEq
def eB:kN:=⟨0,[],[],[],[]⟩
end Kp
namespace Go.Proofs.YtmliacdegmklaaaGreatDoor
section
open Kp
abbrev ni(s:Sd):List Vy:=[VZ VH s.x,VZ VH s.y,VZ VH s.rise,VZ VH s.run,VX s.gable,VZ VH s.plate,VZ VH s.over]
abbrev lF(x y:Int):List Vy:=[VZ VH x,VZ VH y]
abbrev jz(a b c:Sd):List Vy:=[VZ VH a.x,VZ VH a.y,VZ VH a.rise,VZ VH a.run,VX a.gable,VZ VH a.plate,VZ VH a.over,VZ VH b.x,VZ VH b.y,VZ VH b.rise,VZ VH b.run,VX b.gable,VZ VH b.plate,VZ VH b.over,VZ VH c.x,VZ VH c.y,VZ VH c.rise,VZ VH c.run,VX c.gable,VZ VH c.plate,VZ VH c.over]
abbrev wP(r:pq):List Vy:=[VZ VH r.lx,VZ VH r.ly,VZ VH r.hx,VZ VH r.hy]
abbrev co(n:Int):Prop:=0<=n/\n<=65536
def fh(w:Vt)(x y:Obj):Ext w ((w.alloc x).alloc y):=((Below.refl _ _).alloc (Vu _) _).alloc Wa _
def AU(w:Vt)(x y z:Obj):Ext w (((w.alloc x).alloc y).alloc z):=(fh w x y).alloc Wf _
def zE{a b m n:Int}(ha: -m<=a/\a<=m)(hb: -n<=b/\b<=n): -(m*n)<=a*b/\a*b<=m*n:=by
 have hm:0<=m:=V7;have hn:0<=n:=V7;have h1:(a*b).natAbs<=m.natAbs*n.natAbs:=by
  rw[Int.natAbs_mul];exact Nat.mul_le_mul V7 V7
 have h2:m*n=((m.natAbs*n.natAbs:Nat):Int):=by
  rw[Int.natCast_mul,Int.natAbs_of_nonneg hm,Int.natAbs_of_nonneg hn]
 rw[h2];omega
def bE(s:Sd)(w:Vt):VJ prog 193 #[V5 (ni s).toArray] w λe w'=>e=V0 (V5 (lF s.x s.y).toArray)/\Ext w w':=by
 go_enter func193,ntmps193;go_wp2;refine bodyPost_ret (v:= V5 (lF s.x s.y).toArray) ?_ rfl ⟨rfl,fh _ _ _⟩;simp[results,results193,go_sem]
def uS(a b c d:Int)(w:Vt)(ha:co a)(hb:co b)(hc:co c)(hd:co d):
  VJ prog 194 #[V5 (lF a b).toArray,V5 (lF c d).toArray] w λe w'=>e=V0 (V5 (lF (c-a) (d-b)).toArray)/\Ext w w':=by
 obtain⟨a1,a2⟩:=ha;obtain⟨b1,b2⟩:=hb;obtain⟨c1,c2⟩:=hc;obtain⟨d1,d2⟩:=hd;go_enter func194,ntmps194;go_wp2;refine bodyPost_ret (v:= V5 (lF (c-a) (d-b)).toArray) ?_ rfl ⟨rfl,AU _ _ _ _⟩;simp[results,results194,go_sem]
def rD(a b c d:Int)(w:Vt)(ha: -65536<=a/\a<=65536)(hb: -65536<=b/\b<=65536)(hc: -65536<=c/\c<=65536)(hd: -65536<=d/\d<=65536):
  VJ prog 239 #[V5 (lF a b).toArray,V5 (lF c d).toArray] w λe w'=>e=V0 (VZ VH (a*d-b*c))/\Ext w w':=by
 have h1:=zE ha hd;have h2:=zE hb hc;simp only[Int.reduceMul,Int.reduceNeg] at h1 h2;obtain⟨h11,h12⟩:=h1;obtain⟨h21,h22⟩:=h2;clear ha hb hc hd;go_enter func239,ntmps239;go_wp2;go_ret;exact⟨rfl,fh _ _ _⟩
def pZ(n a b:Int)(w:Vt):VJ prog 190 #[VZ VH n,VZ VH a,VZ VH b] w λe w'=>e=V0 (VX (aP n a b))/\w'=w:=by
 cases h:decide (a<=n)
 ·have HR:=Vs (show aP n a b=Vw by unfold aP;rw[h];rfl);go_enter func190,ntmps190;exact YT
 ·have HR:=Vs (show aP n a b=decide (n<=b) by unfold aP;rw[h];rfl);go_enter func190,ntmps190;exact YT
def ai(w:Vt)(b:Nat)(T:VR)(l:List Vy):Prop:=w.heap[b]?=Vz (.cells l.toArray T (0,0))
theorem ai.ext{l:List Vy}(h:ai w b T l)(hx:Ext w w'):ai w' b T l:=(hx.block b (VF.1 h).1).trans h
def ai.new(w:Vt)(T:VR)(l:List Vy):ai (w.alloc (.cells l.toArray T)) w.heap.size T l:=VG w _
theorem ai.cell{l:List Vy}(h:ai w b T l)(i:Nat):w.cell? ⟨b,i,Vx⟩=l[i]?:=by unfold ai at h;simp[World.cell?,h]
theorem ai.lt{l:List Vy}(h:ai w b T l):b<w.heap.size:=(VF.1 h).1
theorem ai.frozen{l:List Vy}(h:ai w b T l)(i:Nat):w.frozen? ⟨b,i,Vx⟩=Vw:=by unfold ai at h;simp[World.frozen?,h]
theorem ai.fV{x y:Vy}(h:ai w b T [x,y])(u v:Vy):ai ((w.setCell ⟨b,0,Vx⟩ u).setCell ⟨b,1,Vx⟩ v) b T [u,v]:=by
 exact YU
theorem ai.dz{l:List Vy}(h:ai w b T l)(hp:p.block≠b)(v:Vy):ai (w.setCell p v) b T l:=(Below.heap_setCell _ _ _ _ (Ne.symm hp)).trans h
theorem ai.drew{l:List Vy}(h:ai w b T l):ai w.drew b T l:=h
def jm(a b c:Sd)(w:Vt)(hbx:co b.x)(hby:co b.y)(hcx:co c.x)(hcy:co c.y):
  VJ prog 195 #[V5 (jz a b c).toArray] w λe w'=>e=V0 (V5 (lF (c.x-b.x) (c.y-b.y)).toArray)/\Ext w w':=by
 have R1:=(ai.new w 227 (jz a b c)).ext ((Below.refl _ _).alloc (Vu _) (.cells (lF 0 0).toArray 229));have R2:=ai.new (w.alloc (.cells (jz a b c).toArray 227)) 229 (lF 0 0);have L0:=Vs (fh w (.cells (jz a b c).toArray 227) (.cells (lF 0 0).toArray 229));rw[VK] at R2;go_enter func195,ntmps195;go_wp2;obtain⟨W0,hW0⟩:∃W0,(w.alloc (.cells (jz a b c).toArray 227)).alloc (.cells (lF 0 0).toArray 229)=W0:=⟨_,rfl⟩;simp only[hW0] at R1 R2 L0⊢;clear hW0;have cA:=λ(w':Vt) (h:VS (w.heap.size+1) W0 w') (i:Nat)=>ai.cell ((h.block _ (Nat.lt_succ_self _)).trans R1:ai w' w.heap.size 227 (jz a b c)) i
 have cB:=λ(w':Vt) (h:Ext W0 w') (i:Nat)=>(R2.ext h).cell i
 have fB:=λ(w':Vt) (h:Ext W0 w') (i:Nat)=>(R2.ext h).frozen i
 have hz:w.heap.size+1<=W0.heap.size:=Nat.le_of_lt R2.lt
 go_region_held3(λw'=>VS (w.heap.size+1) W0 w') (first|exact hx3.mono hz|exact hx2.mono hz|exact hx1.mono hz|exact((Below.refl _ _).drew).mono hz|exact((hx3.mono hz).setCell (p:=⟨w.heap.size+1,0,Vx⟩) (Vu _) _).setCell (p:=⟨w.heap.size+1,1,Vx⟩) (Vu _) _) (first
  |(go_at_call 194;go_must(refine(uS _ _ _ _ _ hbx hby hcx hcy).mono ?_);rintro e W3 ⟨rfl,hX3⟩;have hx3:Ext W0 W3:=hx2.trans (hX3.mono hx2.size))
  |(go_at_call 193;(refine(bE c _).mono ?_);rintro e W2 ⟨rfl,hX2⟩;have hx2:Ext W0 W2:=hx1.trans (hX2.mono hx1.size))
  |(go_at_call 193;go_must(refine(bE b _).mono ?_);rintro e W1 ⟨rfl,hX1⟩;have hx1:Ext W0 W1:=((Below.refl _ _).drew).trans (hX1.mono (Vu _))))
 go_wp2;have R3:=(R2.ext hx3).fV (VZ VH (c.x-b.x)) (VZ VH (c.y-b.y));have q0:=R3.cell 0;have q1:=R3.cell 1;refine bodyPost_ret (v:= V5 (lF (c.x-b.x) (c.y-b.y)).toArray) ?_ rfl ⟨rfl,?_⟩
 ·simp[results,results195,go_sem,q0,q1]
 ·exact((L0.o.trans (hx3.mono L0.o.size)).setCell (p:=⟨w.heap.size+1,0,Vx⟩) Wa _).setCell (p:=⟨w.heap.size+1,1,Vx⟩) Wa _
def Eb(a b:pq)(w:Vt):VJ prog 197 #[V5 (wP a).toArray,V5 (wP b).toArray] w λe w'=>e=V0 (VX (eo a b))/\Ext w w':=by
 cases h1:decide (a.lx<=b.hx)
 ·have HR:=Vs (show eo a b=Vw by unfold eo;rw[h1];rfl);exact YV
 cases h2:decide (b.lx<=a.hx)
 ·have HR:=Vs (show eo a b=Vw by unfold eo;rw[h1,h2];rfl);exact YV
 cases h3:decide (a.ly<=b.hy)
 ·have HR:=Vs (show eo a b=Vw by unfold eo;rw[h1,h2,h3];rfl);exact YV
 ·have HR:=Vs (show eo a b=decide (b.ly<=a.hy) by unfold eo;rw[h1,h2,h3];rfl);exact YV
end
section
open Kp
def tL(a b c:Sd)(blk:Nat):Nat->Vy
 |0=> VY (Vz ⟨blk,0,Vx⟩)
 |1=> V5 (ni a).toArray
 |2=> V5 (lF a.x a.y).toArray
 |3=> VY (Vz ⟨blk,7,Vx⟩)
 |4=> V5 (ni b).toArray
 |5=> V5 (lF b.x b.y).toArray
 |6=> V5 (lF (b.x-a.x) (b.y-a.y)).toArray
 |7=> V5 (jz a b c).toArray
 |8=> V5 (lF (c.x-b.x) (c.y-b.y)).toArray
 |9=> VZ VH ((b.x-a.x)*(c.y-b.y)-(b.y-a.y)*(c.x-b.x))
 |_=> VX (decide (0<(b.x-a.x)*(c.y-b.y)-(b.y-a.y)*(c.x-b.x)))
def Jy(a b c:Sd)(w:Vt)(hax:co a.x)(hay:co a.y)(hbx:co b.x)(hby:co b.y)(hcx:co c.x)(hcy:co c.y):
  VJ prog 200 #[V5 (jz a b c).toArray] w λe w'=>e=V0 (VX (decide (0<(b.x-a.x)*(c.y-b.y)-(b.y-a.y)*(c.x-b.x))))/\Ext w w':=by
 have R1:=ai.new w 227 (jz a b c);have L0:=Vs (show Ext w (w.alloc (.cells (jz a b c).toArray 227)) from(Below.refl _ _).alloc (Vu _) _);go_enter func200,ntmps200;go_wp2;obtain⟨W0,hW0⟩:∃W0,w.alloc (.cells (jz a b c).toArray 227)=W0:=⟨_,rfl⟩;simp only[hW0] at R1 L0⊢;clear hW0;refine wp_region_any V8 (bO 11 (λvs=>⟨#[V5 (jz a b c).toArray,VY (Vz ⟨w.heap.size,0,Vx⟩),VX Vw,vs 0,vs 1,vs 2,vs 3,vs 4,vs 5,vs 6,vs 7,vs 8,vs 9,vs 10],[]⟩)
  (λw'=>Ext W0 w') (λi v _=>v=tL a b c w.heap.size i) (λ_=>Vw) V8 (λ_ _ h k=>h.tr k) (λ_ _ _ _ h _=>h) (λ_ _ _ _ h=>Wb) ?step ?tail (λ_=>VB) _ (Ext.dr W0))
 case tail=>
  intro vs w' hD hv _;have v10:=hv 10 V9;clear hv;simp only[List.drop_succ_cons,List.drop_zero];simp only[tL] at v10;go_wp2;go_ret;exact⟨by rw[v10];rfl,L0.o.tr hD⟩
 case step=>
  intro i vs w' hi hD hd;have cA:=λi=>(R1.ext hD).cell i
  rcases(show i=0\/i=1\/i=2\/i=3\/i=4\/i=5\/i=6\/i=7\/i=8\/i=9\/i=10 by omega) with rfl|rfl|rfl|rfl|rfl|rfl|rfl|rfl|rfl|rfl|rfl<;>clear hi
  ·exact YZ
  ·refine VE rfl (λK hK=> ?_);have d0:=hd 0 V8;exact YY
  ·refine VE rfl (λK hK=> ?_);have d0:=hd 1 V8;simp only[tL] at d0;go_simp;refine(bE a _).mono ?_;exact YX
  ·exact YZ
  ·refine VE rfl (λK hK=> ?_);have d0:=hd 3 V8;exact YY
  ·refine VE rfl (λK hK=> ?_);have d0:=hd 4 V8;simp only[tL] at d0;go_simp;refine(bE b _).mono ?_;exact YX
  ·refine VE rfl (λK hK=> ?_);have d0:=hd 2 V8;have d1:=hd 5 V8;simp only[tL] at d0 d1;go_simp;refine(uS _ _ _ _ _ hax hay hbx hby).mono ?_;exact YW
  ·refine kG rfl rfl ?_;exact wp_load_row 227 (.tmp 1) rfl w.heap.size rfl 227 (jz a b c).toArray (0,0) _ (R1.ext hD) underlying227 rfl V8 ⟨_,rfl,Ext.aC _,rfl,λh=>Wb⟩
  ·refine VE rfl (λK hK=> ?_);have d0:=hd 7 V8;simp only[tL] at d0;go_simp;refine(jm a b c _ hbx hby hcx hcy).mono ?_;exact YX
  ·refine VE rfl (λK hK=> ?_);have d0:=hd 6 V8;have d1:=hd 8 V8;simp only[tL] at d0 d1;go_simp;refine(rD (b.x-a.x) (b.y-a.y) (c.x-b.x) (c.y-b.y) _ V7 V7 V7 V7).mono ?_;exact YW
  ·refine VE rfl (λK hK=> ?_);have d0:=hd 9 V8;simp only[tL] at d0;go_simp;refine hK _ _ ⟨VX (decide ((b.y-a.y)*(c.x-b.x)<(b.x-a.x)*(c.y-b.y))),by simp[d0],Ext.aC _,?_,λh=>Wb⟩;show Vy.bool _=Vy.bool _
   congr 1
   rw[decide_eq_decide];omega
end
section
open Kp
def gZ(lo:Nat)(v:Vy)(w:Vt):Prop:=∃b,v=VY (Vz ⟨b,0,Vx⟩)/\lo<=b/\ai w b 229 (lF 0 0)
theorem gZ.ext{v:Vy}(h:gZ lo v w)(hx:Ext w w'):gZ lo v w':=by
 obtain⟨b,e,hl,hr⟩:=h;exact⟨b,e,hl,hr.ext hx⟩
theorem gZ.lt{v:Vy}(h:gZ lo v w):∃b,v=VY (Vz ⟨b,0,Vx⟩)/\b<w.heap.size:=by
 obtain⟨b,e,hl,hr⟩:=h;exact⟨b,e,hr.lt⟩
def Jv(b c:Sd)(blk lo:Nat):Nat->Vy->Vt->Prop
 |0,v,_=>v=VY (Vz ⟨blk,7,Vx⟩)
 |1,v,_=>v=V5 (ni b).toArray
 |2,v,_=>v=V5 (lF b.x b.y).toArray
 |3,v,_=>v=VY (Vz ⟨blk,14,Vx⟩)
 |4,v,_=>v=V5 (ni c).toArray
 |5,v,_=>v=V5 (lF c.x c.y).toArray
 |_,v,w=>gZ lo v w
theorem PM{b c:Sd}{v:Vy}(h:Jv b c blk lo i v w)(hx:Ext w w'):Jv b c blk lo i v w':=by
 unfold Jv at *;split at h<;>first|exact h|exact gZ.ext h hx
theorem OR{w W:Vt}{a:Act}{lx ly hx hy:Int}{b c:Sd}(h2:a.tmps[2]?=Vz (VY (Vz ⟨blk,0,Vx⟩)))(hd:a.defers=[])(hR:ai W blk 236 (wP ⟨0,0,0,0⟩))
  (e1:lx=min b.x c.x)(e2:ly=min b.y c.y)(e3:hx=max b.x c.x)(e4:hy=max b.y c.y)(hL:Ext w W)(hb:w.heap.size<=blk):
  bodyPost prog f196 (λe w'=>e=V0 (V5 (wP ⟨min b.x c.x,min b.y c.y,max b.x c.x,max b.y c.y⟩).toArray)/\Ext w w') .ret a
   ((((W.setCell ⟨blk,0,Vx⟩ (VZ VH lx)).setCell ⟨blk,1,Vx⟩ (VZ VH ly)).setCell ⟨blk,2,Vx⟩ (VZ VH hx)).setCell ⟨blk,3,Vx⟩ (VZ VH hy)):=by
 subst e1 e2 e3 e4;have R3:ai ((((W.setCell ⟨blk,0,Vx⟩ (VZ VH (min b.x c.x))).setCell ⟨blk,1,Vx⟩ (VZ VH (min b.y c.y))).setCell ⟨blk,2,Vx⟩ (VZ VH (max b.x c.x))).setCell ⟨blk,3,Vx⟩ (VZ VH (max b.y c.y))) blk 236 (wP ⟨min b.x c.x,min b.y c.y,max b.x c.x,max b.y c.y⟩):=by
  unfold ai at *;simp[World.setCell,Array.getElem?_modify,hR]
 have q:=λi=>R3.cell i
 refine bodyPost_ret (v:= V5 (wP ⟨min b.x c.x,min b.y c.y,max b.x c.x,max b.y c.y⟩).toArray) ?_ hd ⟨rfl,?_⟩
 ·simp[results,results196,go_sem,h2,q]
 ·exact(((hL.setCell (p:=⟨blk,0,Vx⟩) hb _).setCell (p:=⟨blk,1,Vx⟩) hb _).setCell (p:=⟨blk,2,Vx⟩) hb _).setCell (p:=⟨blk,3,Vx⟩) hb _
def Ja(a b c:Sd)(w:Vt):
  VJ prog 196 #[V5 (jz a b c).toArray] w λe w'=>e=V0 (V5 (wP ⟨min b.x c.x,min b.y c.y,max b.x c.x,max b.y c.y⟩).toArray)/\Ext w w':=by
 have R1:=(ai.new w 227 (jz a b c)).ext ((Below.refl _ _).alloc (Vu _) (.cells (wP ⟨0,0,0,0⟩).toArray 236));have R2:=ai.new (w.alloc (.cells (jz a b c).toArray 227)) 236 (wP ⟨0,0,0,0⟩);have L0:=Vs (fh w (.cells (jz a b c).toArray 227) (.cells (wP ⟨0,0,0,0⟩).toArray 236));rw[VK] at R2;go_enter func196,ntmps196;go_wp2;obtain⟨W0,hW0⟩:∃W0,(w.alloc (.cells (jz a b c).toArray 227)).alloc (.cells (wP ⟨0,0,0,0⟩).toArray 236)=W0:=⟨_,rfl⟩;simp only[hW0] at R1 R2 L0⊢;have hz:w.heap.size+2<=W0.heap.size:=R2.lt;clear hW0;refine wp_region_any V8 (bO 8 (λvs=>⟨#[V5 (jz a b c).toArray,VY (Vz ⟨w.heap.size,0,Vx⟩),VY (Vz ⟨w.heap.size+1,0,Vx⟩),vs 6,vs 7,vs 0,vs 1,vs 2,vs 3,vs 4,vs 5,VB,VB,VB,VB,VB,VB,VB,VB,VB,VB,VB,VB,VB,VB,VB,VB,VB,VB,VB,VB,VB,VB,VB],[]⟩)
  (λw'=>Ext W0 w') (Jv b c w.heap.size W0.heap.size) (λi=>i==6||i==7) V8 (λ_ _ h k=>h.tr k) (λ_ _ _ _ h k=>PM h k) ?fr ?step ?tail (λ_=>VB) _ (Ext.dr W0))
 case fr=>
  intro i v w' hi hf hv;simp only[Bool.or_eq_true,beq_iff_eq] at hf;rcases hf with rfl|rfl<;>exact gZ.lt hv
 case step=>
  intro i vs w' hi hD hd;have cA:=λi=>(R1.ext hD).cell i
  rcases(show i=0\/i=1\/i=2\/i=3\/i=4\/i=5\/i=6\/i=7 by omega) with rfl|rfl|rfl|rfl|rfl|rfl|rfl|rfl<;>clear hi
  ·exact YZ
  ·refine VE rfl (λK hK=> ?_);have d0:=hd 0 V8;simp only[Jv] at d0;go_simp;exact hK _ _ ⟨_,by simp[d0,Jv],Ext.aC _,rfl,λh=>Wb⟩
  ·refine VE rfl (λK hK=> ?_);have d1:=hd 1 V8;simp only[Jv] at d1;go_simp;refine(bE b _).mono ?_;rintro e W1 ⟨rfl,hX⟩;exact hK _ _ ⟨_,by simp[d1,Jv],hX,rfl,λh=>Wb⟩
  ·exact YZ
  ·refine VE rfl (λK hK=> ?_);have d3:=hd 3 V8;simp only[Jv] at d3;go_simp;exact hK _ _ ⟨_,by simp[d3,Jv],Ext.aC _,rfl,λh=>Wb⟩
  ·refine VE rfl (λK hK=> ?_);have d4:=hd 4 V8;simp only[Jv] at d4;go_simp;refine(bE c _).mono ?_;rintro e W1 ⟨rfl,hX⟩;exact hK _ _ ⟨_,by simp[d4,Jv],hX,rfl,λh=>Wb⟩
  ·exact Y1
  ·exact Y1
 case tail=>
  intro vs w' hD hv hne;have v2:=hv 2 V9;have v5:=hv 5 V9;obtain⟨p,e6,l6,r6⟩:=hv 6 V9;obtain⟨q,e7,l7,r7⟩:=hv 7 V9;have hpq:=hne 6 7 V9 V9 V9 rfl rfl;simp only[Jv] at v2 v5;clear hv hne;rw[e6,e7] at hpq;have hpq':p≠q:=λh=>hpq (by rw[h])
  clear hpq;have R2':=R2.ext hD;have cp:=λi=>r6.cell i
  have cq:=λi=>r7.cell i
  have fp:=λi=>r6.frozen i
  have fq:=λi=>r7.frozen i
  have cr:=λi=>R2'.cell i
  have fr:=λi=>R2'.frozen i
  have n1:¬q=p:=λh=>hpq' h.symm
  have n2:¬w.heap.size+1=p:=V7;have n3:¬w.heap.size+1=q:=V7;have n4:¬p=w.heap.size+1:=V7;have n5:¬q=w.heap.size+1:=V7;simp only[List.drop_succ_cons,List.drop_zero,e6,e7,v2,v5];clear e6 e7 v2 v5;go_wp2;all_goals clear cp cq fp fq cr fr r6 r7 R2 R1
  all_goals refine OR (blk:=w.heap.size+1) (b:=b) (c:=c) ?_ ?_ ((((R2'.dz (p:=⟨p,0,Vx⟩) n4 (VZ VH b.x)).dz (p:=⟨p,1,Vx⟩) n4 (VZ VH b.y)).dz (p:=⟨q,0,Vx⟩) n5 (VZ VH c.x)).dz (p:=⟨q,1,Vx⟩) n5 (VZ VH c.y)) ?_ ?_ ?_ ?_ (((((L0.o.tr hD).setCell (p:=⟨p,0,Vx⟩) Wf (VZ VH b.x)).setCell (p:=⟨p,1,Vx⟩) Wf (VZ VH b.y)).setCell (p:=⟨q,0,Vx⟩) Wf (VZ VH c.x)).setCell (p:=⟨q,1,Vx⟩) Wf (VZ VH c.y)) (Nat.le_succ _)
  all_goals first|(with_reducible rfl)|(clear R2' L0 hD;omega)|rfl
end
section
open Kp
def j2 {p : Prop} (h : p := by
    go_enter func131, ntmps131;go_wp2_with (go_at_call 190; go_must (refine (pZ _ _ _ _).mono ?_); rintro e W1 ⟨rfl, rfl⟩; first | rw [h1] | rw [h2] | rw [t1] | rw [t2] | rw [t3] | rw [t4] | skip)
    iterate 6 try (first
      | (go_ret; exact ⟨by rw [HR.o]; rfl, by first | exact fh _ _ _ | exact (Below.refl _ _).alloc (Vu _) _⟩)
      | (first | rw [rounds_succ] | (refine wp_loop_rounds 5 ?_; rw [rounds_succ])
         go_wp2_with (go_at_call 190; go_must (refine (pZ _ _ _ _).mono ?_); rintro e W1 ⟨rfl, rfl⟩; first | rw [h1] | rw [h2] | rw [t1] | rw [t2] | rw [t3] | rw [t4] | skip)))) : p := h
def Sy{p:Prop}(h:p:=by
  cases t1:aP s.x 0 65536
  ·have HR:=Vs (show aJ s=Vw by rw[HQ,t1];simp);clear HQ;exact j2
  cases t2:aP s.y 0 65536
  ·have HR:=Vs (show aJ s=Vw by rw[HQ,t2];simp);clear HQ;exact j2
  cases t3:aP s.plate 0 65536
  ·have HR:=Vs (show aJ s=Vw by rw[HQ,t3];simp);clear HQ;exact j2
  cases t4:aP s.over 0 65536
  ·have HR:=Vs (show aJ s=Vw by rw[HQ,t4];simp);clear HQ;exact j2
  have HR:=Vs (show aJ s=VD by rw[HQ,t1,t2,t3,t4];simp);clear HQ;exact j2):p:=h
def CM(s:Sd)(w:Vt):VJ prog 131 #[V5 (ni s).toArray] w λe w'=>e=V0 (VX (aJ s))/\Ext w w':=by
 cases hg:s.gable
 ·cases h1:aP s.rise 1 48
  ·have HR:=Vs (show aJ s=Vw by unfold aJ;rw[hg];rw[h1];rfl);exact j2
  cases h2:aP s.run 1 48
  ·have HR:=Vs (show aJ s=Vw by unfold aJ;rw[hg];rw[h1,h2];rfl);exact j2
  have HQ:aJ s=(aP s.x 0 65536&&aP s.y 0 65536&&aP s.plate 0 65536&&aP s.over 0 65536):=by
   unfold aJ;rw[hg];rw[h1,h2];simp[Bool.and_assoc]
  exact Sy
 ·cases h1:(s.rise !=0)
  case true=>
   have HR:=Vs (show aJ s=Vw by unfold aJ;rw[hg];simp only[if_true];rw[show(s.rise==0)=Vw by simpa using h1];rfl);exact j2
  cases h2:(s.run !=0)
  case true=>
   have HR:=Vs (show aJ s=Vw by unfold aJ;rw[hg];simp only[if_true];rw[show(s.run==0)=Vw by simpa using h2];simp);exact j2
  have HQ:aJ s=(aP s.x 0 65536&&aP s.y 0 65536&&aP s.plate 0 65536&&aP s.over 0 65536):=by
   unfold aJ;rw[hg];rw[show(s.rise==0)=VD by simpa using h1,show(s.run==0)=VD by simpa using h2];simp[Bool.and_assoc]
  exact Sy
end
section
open Kp
def gM(n a b:Int)(w:Vt):VJ prog 64 #[VZ VH n,VZ VH a,VZ VH b] w λe w'=>e=V0 (VX (aP n a b))/\w'=w:=by
 cases h:decide (a<=n)
 ·have HR:=Vs (show aP n a b=Vw by unfold aP;rw[h];rfl);go_enter func64,ntmps64;exact YT
 ·have HR:=Vs (show aP n a b=decide (n<=b) by unfold aP;rw[h];rfl);go_enter func64,ntmps64;exact YT
def gN(n a b:Int)(w:Vt):VJ prog 146 #[VZ VH n,VZ VH a,VZ VH b] w λe w'=>e=V0 (VX (aP n a b))/\w'=w:=by
 cases h:decide (a<=n)
 ·have HR:=Vs (show aP n a b=Vw by unfold aP;rw[h];rfl);go_enter func146,ntmps146;exact YT
 ·have HR:=Vs (show aP n a b=decide (n<=b) by unfold aP;rw[h];rfl);go_enter func146,ntmps146;exact YT
def eF(n a b:Int)(w:Vt):VJ prog 204 #[VZ VH n,VZ VH a,VZ VH b] w λe w'=>e=V0 (VX (aP n a b))/\w'=w:=by
 cases h:decide (a<=n)
 ·have HR:=Vs (show aP n a b=Vw by unfold aP;rw[h];rfl);go_enter func204,ntmps204;exact YT
 ·have HR:=Vs (show aP n a b=decide (n<=b) by unfold aP;rw[h];rfl);go_enter func204,ntmps204;exact YT
def ji(n a b:Int)(w:Vt):VJ prog 143 #[VZ VH n,VZ VH a,VZ VH b] w λe w'=>e=V0 (VX (aP n a b))/\w'=w:=by
 cases h:decide (a<=n)
 ·have HR:=Vs (show aP n a b=Vw by unfold aP;rw[h];rfl);go_enter func143,ntmps143;exact YT
 ·have HR:=Vs (show aP n a b=decide (n<=b) by unfold aP;rw[h];rfl);go_enter func143,ntmps143;exact YT
def gS(n a b:Int)(w:Vt):VJ prog 47 #[VZ VH n,VZ VH a,VZ VH b] w λe w'=>e=V0 (VX (!aP n a b))/\w'=w:=by
 cases h:decide (n<a)
 ·have HR:=Vs (show(!aP n a b)=decide (b<n) by
   unfold aP;rw[decide_eq_false_iff_not] at h;rw[show decide (a<=n)=VD by rw[decide_eq_true_eq];omega,Bool.true_and,<-decide_not,decide_eq_decide];omega)
  go_enter func47,ntmps47;exact YT
 ·have HR:=Vs (show(!aP n a b)=VD by
   unfold aP;rw[decide_eq_true_eq] at h;rw[show decide (a<=n)=Vw by rw[decide_eq_false_iff_not];omega];rfl)
  go_enter func47,ntmps47;exact YT
def GX(n a b:Int)(w:Vt):VJ prog 169 #[VZ VH n,VZ VH a,VZ VH b] w λe w'=>e=V0 (VX (!aP n a b))/\w'=w:=by
 cases h:decide (n<a)
 ·have HR:=Vs (show(!aP n a b)=decide (b<n) by
   unfold aP;rw[decide_eq_false_iff_not] at h;rw[show decide (a<=n)=VD by rw[decide_eq_true_eq];omega,Bool.true_and,<-decide_not,decide_eq_decide];omega)
  go_enter func169,ntmps169;exact YT
 ·have HR:=Vs (show(!aP n a b)=VD by
   unfold aP;rw[decide_eq_true_eq] at h;rw[show decide (a<=n)=Vw by rw[decide_eq_false_iff_not];omega];rfl)
  go_enter func169,ntmps169;exact YT
def qZ(n a b:Int)(w:Vt):VJ prog 177 #[VZ VH n,VZ VH a,VZ VH b] w λe w'=>e=V0 (VX (!aP n a b))/\w'=w:=by
 cases h:decide (n<a)
 ·have HR:=Vs (show(!aP n a b)=decide (b<n) by
   unfold aP;rw[decide_eq_false_iff_not] at h;rw[show decide (a<=n)=VD by rw[decide_eq_true_eq];omega,Bool.true_and,<-decide_not,decide_eq_decide];omega)
  go_enter func177,ntmps177;exact YT
 ·have HR:=Vs (show(!aP n a b)=VD by
   unfold aP;rw[decide_eq_true_eq] at h;rw[show decide (a<=n)=Vw by rw[decide_eq_false_iff_not];omega];rfl)
  go_enter func177,ntmps177;exact YT
def km(n a b:Int)(w:Vt):VJ prog 116 #[VZ VH n,VZ VH a,VZ VH b] w λe w'=>e=V0 (VX (!aP n a b))/\w'=w:=by
 cases h:decide (n<a)
 ·have HR:=Vs (show(!aP n a b)=decide (b<n) by
   unfold aP;rw[decide_eq_false_iff_not] at h;rw[show decide (a<=n)=VD by rw[decide_eq_true_eq];omega,Bool.true_and,<-decide_not,decide_eq_decide];omega)
  go_enter func116,ntmps116;exact YT
 ·have HR:=Vs (show(!aP n a b)=VD by
   unfold aP;rw[decide_eq_true_eq] at h;rw[show decide (a<=n)=Vw by rw[decide_eq_false_iff_not];omega];rfl)
  go_enter func116,ntmps116;exact YT
end
section
open Kp
def sI(s l:Int)(w:Vt):VJ prog 207 #[VZ VH s,VZ VH l] w λe w'=>e=V0 (VX (aP s 1 65536&&aP l 0 1048576))/\w'=w:=by
 cases t1:aP s 1 65536
 ·go_enter func207,ntmps207;exact Zt
 cases t2:aP l 0 1048576;all_goals
  go_enter func207,ntmps207;go_wp2_with(go_at_call 146;go_must(refine(gN _ _ _ _).mono ?_);rintro e W1 ⟨rfl,rfl⟩;first|rw[t1]|rw[t2])
  go_ret;exact⟨rfl,rfl⟩
def CO(a b s l:Int)(w:Vt):VJ prog 145 #[VZ VH a,VZ VH b,VZ VH s,VZ VH l] w λe w'=>e=V0 (VX (aP a 1 1000&&aP b 1 1000&&(aP s 1 65536&&aP l 0 1048576)))/\w'=w:=by
 cases t1:aP a 1 1000
 ·go_enter func145,ntmps145;exact Zt
 cases t2:aP b 1 1000
 ·go_enter func145,ntmps145;go_wp2_with(go_at_call 146;go_must(refine(gN _ _ _ _).mono ?_);rintro e W1 ⟨rfl,rfl⟩;first|rw[t1]|rw[t2])
  go_ret;exact⟨rfl,rfl⟩
 obtain⟨c,hc⟩:∃c,(aP s 1 65536&&aP l 0 1048576)=c:=⟨_,rfl⟩;rw[hc];have cc:=Vs (sI s l w);rw[hc] at cc;clear hc;cases c;all_goals
  go_enter func145,ntmps145;go_wp2_with(first
   |(go_at_call 207;go_must(refine cc.o.mono ?_);rintro e W1 ⟨rfl,rfl⟩)
   |(go_at_call 146;go_must(refine(gN _ _ _ _).mono ?_);rintro e W1 ⟨rfl,rfl⟩;first|rw[t1]|rw[t2]))
  go_ret;exact⟨rfl,rfl⟩
end
section
open Kp
def xh(w:Vt)(k cap:Nat)(T:VR)(a b c d:Int)(hr:ai w k T [VZ VH a,VZ VH b,VZ VH c,VZ VH d]):
  VJ prog 208 #[VV (Vz ⟨k,0,Vx⟩) 4 cap] w λe w'=>e=V0 (VZ VH (DK a b c d))/\w'=w:=by
 have c0:=hr.cell 0;have c1:=hr.cell 1;have c2:=hr.cell 2;have c3:=hr.cell 3;clear hr;cases t0:(a !=0)
 case true=>
  have HR:=Vs (show DK a b c d=a by unfold DK;rw[if_pos (by simpa using t0)]);go_enter func208,ntmps208;go_wp2;refine wp_loop_rounds 5 ?_;exact Zw
 cases t1:(b !=0)
 case true=>
  have HR:=Vs (show DK a b c d=b by unfold DK;rw[if_neg (by simpa using t0)];rw[if_pos (by simpa using t1)]);go_enter func208,ntmps208;go_wp2;refine wp_loop_rounds 5 ?_;exact Zv
 cases t2:(c !=0)
 case true=>
  have HR:=Vs (show DK a b c d=c by unfold DK;rw[if_neg (by simpa using t0)];rw[if_neg (by simpa using t1)];rw[if_pos (by simpa using t2)]);go_enter func208,ntmps208;go_wp2;refine wp_loop_rounds 5 ?_;exact Zu
 cases t3:(d !=0)
 case true=>
  have HR:=Vs (show DK a b c d=d by unfold DK;rw[if_neg (by simpa using t0)];rw[if_neg (by simpa using t1)];rw[if_neg (by simpa using t2)]);go_enter func208,ntmps208;go_wp2;refine wp_loop_rounds 5 ?_;rw[rounds_succ];go_wp2;exact Zu
 have HR:=Vs (show DK a b c d=0 by unfold DK;rw[if_neg (by simpa using t0)];rw[if_neg (by simpa using t1)];(first|(rw[if_neg (by simpa using t2)];done)|(rw[if_neg (by simpa using t2)];simpa using t3)));go_enter func208,ntmps208;go_wp2;refine wp_loop_rounds 5 ?_;rw[rounds_succ];go_wp2;rw[rounds_succ];go_wp2;rw[rounds_succ];go_wp2;rw[rounds_succ];go_wp2;rw[rounds_succ];go_wp2;go_ret;exact⟨We,rfl⟩
end
section
open Kp
def CP(z:Nat)(v:Vy):Prop:=∀A n c,v=VV A n c->(A=Vx->c=0)/\∀ad,A=Vz ad->z<=ad.block
theorem CP.tr{v:Vy}(h:CP z v)(l:List Nat):CP z (Mn v l):=by
 intro A n c e;cases v with
 |slice A' n' c'=>unfold Mn at e;injection e with e1 e2 e3;subst e1 e3;exact h _ _ _ rfl
 |_=>cases e
theorem DL{base n s:Nat}{t:VR}{v:Vy}{xs:List Vy}(h:w.ownsRow base t s v n xs):CP base v:=by
 obtain⟨_,⟨rfl,_⟩|⟨g,cap,cur,rfl,hb,_⟩⟩:=h
 ·intro A n c e;injection e with e1 _ e3;subst e1 e3;exact⟨λ_=>rfl,λ_ h=>Wb⟩
 ·intro A n c e;injection e with e1 _ e3;subst e1 e3;exact⟨λh=>Wb,λ_ h=>(by injection h with h;subst h;exact hb)⟩
def xq(P:List Nat->Prop)(w:Vt)(e:Ending)(w':Vt):Prop:=∃v l,e=V0 v/\bB w' w'.heap.size v l/\aY l/\P l/\Ext w w'/\CP w.heap.size v
def pA{f:Nat->Nat×Nat}(h:∀k,(f (k+1)).1<1000000)(n:Nat):kL (bV f n):=by
 intro d hd;unfold bV at hd;obtain⟨i,_,rfl⟩:=List.mem_map.1 hd;exact h i
def pE{a b:List Nat}(ha:kL a)(hb:kL b)(hl:ln b<=ln a)(hv:al b<=al a):al (aA (bV (cW a b) (ln a)))=al a-al b:=by
 have h:=LQ ha hb (ln a);rw[eH];have e1:S6 (fv (bV (cW a b) (ln a))) (ln a)=al (bV (cW a b) (ln a)):=fJ (Nat.le_of_eq (bn _ _));have e2:S6 (fv b) (ln a)=al b:=fJ hl;have e3:S6 (fv a) (ln a)=al a:=rfl;rw[e1,e2,e3] at h;have h1:=tj (pA (λk=>(qM ha hb k).2) (ln a));rw[bn] at h1;have h2:=(qM ha hb (ln a)).1;rcases Nat.lt_or_ge (cW a b (ln a)).2 1 with h3|h3
 ·rw[show(cW a b (ln a)).2=0 by omega,Nat.zero_mul] at h;omega
 ·rw[show(cW a b (ln a)).2=1 by omega,Nat.one_mul] at h;omega
def xk(w:Vt)(t:VR):(w.alloc (.cells #[] t)).ownsRow w.heap.size t 1 (VV (Vz ⟨w.heap.size,0,Vx⟩) 0 0) 0 []:=
 ⟨rfl,.inr ⟨w.heap.size,0,#[],rfl,Vu _,VG w _,Vu _,Wh,rfl,rfl⟩⟩
def n8(w:Vt)(a b:List Nat)(va vb:Vy)(ha:bB w w.heap.size va a)(hb:bB w w.heap.size vb b)(hsa:kL a)(hsb:kL b)(hla:ln a<=1000000):
  VJ prog 314 #[va,vb] w (xq (λl=>l=aA (bV (cW a b) (ln a))) w):=by
 obtain⟨i0,hi0,hz0,hz1,hz2⟩:=info_parts eA;have I0:=Vs hi0;have I1:=Vs hz0;have I2:=Vs hz1;have I3:=Vs hz2;have HA:=Vs ha;have HB:=Vs hb;obtain⟨A,ca,rfl,ha1,ha2,_⟩:=id ha;have HC:=Vs (dq (pA (λk=>(qM hsa hsb k).2) (ln a)));have HM:=Vs (λk=>qM hsa hsb k);unfold VP at ha2;obtain⟨n,hn⟩:∃n,ln a=n:=⟨_,rfl⟩;have HN:=Vs hn;rw[hn];rw[hn] at hla ha1 HC HA;clear ha hb hi0 hz0 hz1 hz2 hn;go_enter func314,ntmps314;go_wp2;go_loopw [5,6,7] (λv c i wr=>Uf w (cW a b) n v c i wr) (λ_ _ i _=>((n:Int)-VN i).toNat)
 case atStart=>exact⟨0,V7,rfl,rfl,xk _ _,(Below.refl _ _).alloc (Vu _) _⟩
 case round=>
  obtain⟨k,hk,rfl,rfl,hown,hX⟩:=hrel;have HO:=Vs hown;have HX:=Vs hX;have hs1:=(HA.o.below hX);have hs2:=(HB.o.below hX);have hbase:=hX.size;clear hown hX;by_cases hlt:k<n
  ·have C2:=Vs (λm=>uy (wr.drewN m) _ _ b k hs2 V7);obtain⟨_,_,e,_,_,q⟩:=hs1;injection e with e1 e2 e3
   clear e2;subst e1 e3;obtain⟨b1,o1,rfl,_,c1⟩:=q WG
   replace c1:=c1 k WG
   have HR:=Vs (en (cW a b) k);have hx1:(cW a b (k+1)).1=if fv b k+(cW a b k).2<=fv a k then fv a k-(fv b k+(cW a b k).2) else fv a k+1000000-(fv b k+(cW a b k).2):=rfl;have hx2:(cW a b (k+1)).2=if fv b k+(cW a b k).2<=fv a k then 0 else 1:=rfl;have hxa:fv a k<1000000:=aH hsa k;have hxb:fv b k<1000000:=aH hsb k;have hxc:=(HM.o k).1;obtain⟨p,hp⟩:∃x,fv a k=x:=⟨_,rfl⟩;obtain⟨r,hr⟩:∃x,fv b k=x:=⟨_,rfl⟩;obtain⟨c,hc⟩:∃x,(cW a b k).2=x:=⟨_,rfl⟩;obtain⟨x,hx⟩:∃x,(cW a b (k+1)).1=x:=⟨_,rfl⟩;obtain⟨y,hy⟩:∃y,(cW a b (k+1)).2=y:=⟨_,rfl⟩;rw[hx,hp,hr,hc] at hx1;rw[hy,hp,hr,hc] at hx2;rw[hp] at c1 hxa;rw[hr] at C2 hxb;rw[hc] at hxc;rw[hc];rw[hx] at HR;have HY:=Vs hy;have hbase1:w.heap.size<=(wr.alloc (.cells #[VZ VH (x:Int)] 3)).heap.size:=Wf;have hbase2:∀m,w.heap.size<=((wr.drewN m).alloc (.cells #[VZ VH (x:Int)] 3)).heap.size:=by intro m;simp;omega
   have HB2:=Vs hbase2;have HOX:=Vs (λm=>aO HO.o ((below_drewN (Below.refl wr.heap.size wr) m).alloc Wa (.cells #[VZ VH (x:Int)] 3)));obtain⟨vs,hvs⟩:∃vs,sZ (bV (cW a b) k)=vs:=⟨_,rfl⟩;rw[hvs] at HO HOX;have HVS:=Vs hvs;have w1:VH.wrap ((p:Int)-(r:Int))=(p:Int)-r:=VQ _ V7;have w2:VH.wrap ((p:Int)-(r:Int)-(c:Int))=(p:Int)-r-c:=VQ _ V7;have w3:VH.wrap ((p:Int)-(r:Int)-(c:Int)+1000000)=(p:Int)-r-c+1000000:=VQ _ V7;clear hs2 hp hr hc hx hy q hvs hbase2 hbase1;have HXK:=Vs hk;have HRW:=Vs (λ(m j:Nat) (u:Vy) (hj:[Value.int .i64 (x:Int)][j]?=Vz u)=>show((wr.drewN m).alloc (.cells #[VZ VH (x:Int)] 3)).cell? ((⟨wr.heap.size,0,Vx⟩:VT).add j)=Vz u by rw[Addr.add_lit,Nat.zero_add];exact((ai.new (wr.drewN m) 3 [VZ VH (x:Int)]).cell j).trans hj);have ARM:=Vs (show∀(y':Nat) (v':Vy) (m:Nat) (w':Vt),(cW a b (k+1)).2=y'->w'.ownsRow w.heap.size 3 1 v' (k+1) (vs++[VZ VH (x:Int)])->((wr.drewN m).alloc (.cells #[VZ VH (x:Int)] 3)).grownBy w' u5.ownBlock->Uf w (cW a b) n v' (VZ VH (y':Int)) (VZ VH ((k:Int)+1)) w' fromλy' v' m w' hy' hown' hgr'=>by
    refine⟨k+1,V7,Wa,by rw[hy'],?_,ei (((below_drewN HX.o m)).alloc (by have:=HX.o.size;simp;omega) _) hgr' (λq hq=>(az HO.o q hq).1)⟩;have e:sZ (bV (cW a b) (k+1))=vs++[VZ VH (x:Int)]:=Xk;rw[e];exact hown')
   clear HVS HR;by_cases hneg:r+c<=p
   ·rw[if_pos hneg] at hx1 hx2;have t1:¬(p:Int)-r-c<0:=V7;have e1:(p:Int)-r-c=(x:Int):=V7;have t2:¬(x:Int)<0:=V7;clear hx1 hneg;subst hx2;go_wp2_with fail
    go_quiet ((go_at_call 313;exact Calls.quiet_of_same (C2.o _)))
    go_wp2_with(at_builtin;(refine wpList_append_own _ rfl _ _ _ rfl w.heap.size 3 i0 _ 1 8 underlying25 I0.o I1.o I2.o I3.o rfl V7 _ _ _ rfl (HOX.o _) ⟨wr.heap.size,0,Vx⟩ 1 1 [VZ VH (x:Int)] rfl Wl (HRW.o _) WR Wh V7 (HB2.o _) ?_);intro v' w' hown' hgr' hnil)
    go_round
    case rel=>exact ARM.o 0 _ _ _ HY.o hown' hgr'
    case measure=>simp[VN];omega
   ·rw[if_neg hneg] at hx1 hx2;have t1:(p:Int)-r-c<0:=V7;have e1:(p:Int)-r-c+1000000=(x:Int):=V7;clear hx1 hneg;subst hx2;go_wp2_with fail
    go_quiet ((go_at_call 313;exact Calls.quiet_of_same (C2.o _)))
    go_wp2_with(at_builtin;(refine wpList_append_own _ rfl _ _ _ rfl w.heap.size 3 i0 _ 1 8 underlying25 I0.o I1.o I2.o I3.o rfl V7 _ _ _ rfl (HOX.o _) ⟨wr.heap.size,0,Vx⟩ 1 1 [VZ VH (x:Int)] rfl Wl (HRW.o _) WR Wh V7 (HB2.o _) ?_);intro v' w' hown' hgr' hnil)
    go_round
    case rel=>exact ARM.o 1 _ _ _ HY.o hown' hgr'
    case measure=>simp[VN];omega
  ·obtain rfl:k=n:=V7;have hlt':¬(k:Int)<(k:Int):=V7;have hsn:=dd HO.o (bn (cW a b) k);have CT:=Vs (dF wr wr.heap.size u5 (bV (cW a b) k) hsn);have HS:=Vs (show xq (λl=>l=aA (bV (cW a b) k)) w (V0 (Mn u5 (bV (cW a b) k))) wr from⟨_,_,rfl,hsn.trimmed,HC.o,rfl,HX.o,(DL HO.o).tr _⟩);clear hsn hs1 hs2;exact a0a
end
section
open Kp
def Rn(w1:Vt)(g:Nat)(a b:List Nat)(i k:Nat)(c:Vy)(w':Vt):Prop:=
 ∃(cN:Nat) (out:List Nat),c=VZ VH (cN:Int)/\Row w' g (ln a+ln b+1) out/\FU a b i k cN out/\dO g w1 w'
def QB(w1:Vt)(g:Nat)(a b:List Nat)(i:Vy)(w':Vt):Prop:=∃k:Nat,k<=ln a/\i=VZ VH (k:Int)/\Rn w1 g a b k 0 (VZ VH 0) w'
def QI(w1:Vt)(g:Nat)(a b:List Nat)(i:Nat)(c k:Vy)(w':Vt):Prop:=∃n:Nat,n<=ln a+ln b+1/\k=VZ VH (n:Int)/\Rn w1 g a b i n c w'
def rK(w:Vt)(a b:List Nat)(va vb:Vy)(ha:bB w w.heap.size va a)(hb:bB w w.heap.size vb b)(hsa:kL a)(hfb:NI b)(hla:ln a<=1000000)(hlb:ln b<=1000000):
  VJ prog 315 #[va,vb] w (xq (λl=>al l=al a*al b/\ln l<=ln a+ln b+1) w):=by
 obtain⟨A,ca,rfl,ha1,ha2,hac⟩:=id ha;obtain⟨A',cb,rfl,hb1,hb2,hbc⟩:=id hb;unfold VP at ha2 hb2;obtain⟨i0,hi,hz0,hz1,hz2⟩:=info_parts eA;have FB:=Vs hfb;go_enter func315,ntmps315;go_wp2_with(at_make;refine wpList_make_full _ rfl _ _ 25 rfl w.heap.size 3 i0 (VZ VH 0) 1 underlying25 hi hz0 hz1 .i64 .i64 _ _ (ln a+ln b+1) rfl rfl V7 V7 XE Wh (Vu _) ?_;intro w1 hown hgrow)
 have hrow:=lh hown;have hbel:VS w.heap.size w w1:=(Below.refl _ w).grown hgrow (Vu _) Wa;have sa1:=ha.below hbel;have sb1:=hb.below hbel;have HS:=Vs (show Rn w1 w.heap.size a b 0 0 (VZ VH 0) w1 from⟨0,_,rfl,hrow,FU.start a b,dO.refl _ _⟩);have HBEL:=Vs hbel;clear hown hgrow hrow ha hb hi hz0 hz1 hz2 hac hbc hbel hfb;go_loopw [6] (λi wr=>QB w1 w.heap.size a b i wr) (λi _=>ln a-(VN i).toNat)
 case atStart=>exact⟨0,V7,rfl,HS.o⟩
 case round=>
  obtain⟨i,hi,rfl,cN,out,e0,hR,hT,hO⟩:=hrel;have HR:=Vs hR;have HT:=Vs hT;have HO:=Vs hO;obtain⟨cN0,hcN0⟩:∃c:Nat,c=0:=⟨0,rfl⟩;obtain rfl:cN=0:=by injection e0 with _ e;omega
  clear hT hR e0 cN0 hcN0;by_cases hlt:i<ln a
  ·clear hO;go_wp2_with fail
   go_loopw [7,8] (λc k wi=>QI w1 w.heap.size a b i c k wi) (λ_ k _=>ln a+ln b+2-(VN k).toNat)
   case atStart=>exact⟨0,V7,rfl,0,out,rfl,HR.o,HT.o,HO.o⟩
   case round=>
    obtain⟨k,hk,rfl,c,u',rfl,hR,hT,hO⟩:=hrel;have hc12:=hT.carry;have HT2:=Vs hT;by_cases hgo:k<ln b\/0<c
    ·have hin:i+k<ln a+ln b+1:=by
      by_cases h:k<ln b
      ·omega
      ·exact HT2.o.inside hsa FB.o hlt V7 V7
     have sa:=hO.sl sa1 (Vu _);have sb:=hO.sl sb1 (Vu _);have hxa:fv a i<1000000:=aH hsa i;obtain⟨_,_,e,_,_,hac⟩:=sa;injection e with e1 e2 e3
     clear e2;subst e1 e3;obtain⟨ba,oa,rfl,_,hcell⟩:=hac V7;have hc:=hcell i hlt;have hx:=hR.cell (j:=i+k) (by rw[hT.len];omega);have hfr:=hR.frozen (i+k);have hub:fv u' (i+k)<1000000:=aH hT.small (i+k);have hvb:=FB.o.limb k;have hq:fv a i*fv b k<=999999*999999999999:=Nat.mul_le_mul V7 V7;have hqi:0<=(fv a i:Int)*(fv b k:Int)/\(fv a i:Int)*(fv b k:Int)<=999998999999000001:=by
      rw[show(fv a i:Int)*(fv b k:Int)=((fv a i*fv b k:Nat):Int) by simp];omega
     obtain⟨hp0,lA⟩:=hqi;have HN:=Vs (λm=>(⟨k+1,V7,rfl,_,_,rfl,(hR.drewN m).set (j:=i+k) (by rw[hT.len];omega) _,hT.next hsa FB.o hin,(hO.drewN m).set _ _⟩:QI w1 w.heap.size a b i _ (VZ VH ((k+1:Nat):Int)) _));have w1:VH.wrap ((i:Int)+k)=i+k:=cC V7 V7;have w1a:0<=(i:Int)+k:=V7;have w1b:((i:Int)+k).toNat=i+k:=V7;have w1c:(i:Int)+k<ln a+ln b+1:=V7;have w3:VH.wrap ((fv a i:Int)*(fv b k:Int))=fv a i*fv b k:=cC V7 V7;have w2:VH.wrap ((fv u' (i+k):Int)+(fv a i:Int)*(fv b k:Int))=fv u' (i+k)+fv a i*fv b k:=cC V7 V7;have w4:VH.wrap ((fv u' (i+k):Int)+(fv a i:Int)*(fv b k:Int)+c)=fv u' (i+k)+fv a i*fv b k+c:=cC V7 V7;have hkb:k<=4000000:=V7;clear hcell hac hR hT hO hin HT2 hq;obtain⟨tb,htb⟩:∃t,decide (k<ln b)=t:=⟨_,rfl⟩;have htc:tb=Vw->decide (0<c)=VD:=by
      intro h1;subst h1;rw[decide_eq_false_iff_not] at htb;rw[decide_eq_true_eq];omega
     have HTC:=Vs htc;clear htc hgo;cases tb with
     |false=>
      have tc:=HTC.o rfl;have tc2:decide (0<(c:Int))=VD:=by rw[decide_eq_true_eq] at tc⊢;omega
      exact a0b
     |true=>
      exact a0b
    ·obtain rfl:c=0:=V7;have HNX:=Vs (⟨i+1,V7,rfl,0,u',rfl,hR,hT.row V7,hO⟩:QB w1 w.heap.size a b (VZ VH ((i+1:Nat):Int)) wr);have g1:¬k<ln b:=V7;clear hgo hT hR hO;go_wp2_with fail
     exact⟨HNX.o,Wc⟩
  ·obtain rfl:i=ln a:=V7;have hl:=HT.o.len;have hfin:xq (λl=>al l=al a*al b/\ln l<=ln a+ln b+1) w (V0 (Mn (VV (Vz ⟨w.heap.size,0,Vx⟩) (ln out) (ln a+ln b+1)) out)) wr:=by
    have hsl:=HR.o.sl HR.o.lt;exact⟨_,aA out,rfl,hsl.trimmed,dq HT.o.small,⟨by rw[eH];exact HT.o.done,VI (aR _) V7⟩,HBEL.o.trans (hO.below (Vu _)),CP.tr (λA n c e=>by injection e with e1 _ e3;subst e1;exact⟨λh=>Wb,λ_ h=>(by injection h with h;subst h;exact Vu _)⟩) _⟩
   have HF:=Vs hfin;have CT:=Vs (dF wr _ _ out (HR.o.sl HR.o.lt));rw[hl] at CT HF;clear hfin hO hl;go_wp2_with(go_at_call 311;refine CT.o.mono ?_;rintro e w' ⟨rfl,rfl⟩)
   go_ret;exact HF.o
end
section
open Kp
def AM(X V:Nat)(w:Vt)(e:Ending)(w':Vt):Prop:=∃vq vr l,e=V0 (V6 #[vq,vr])/\bB w' w'.heap.size vr l/\aY l/\al l=X%V/\Ext w w'
def QS(a:List Nat)(k:Nat):Nat:=al (a.drop k)
theorem BO(h:k<ln a):QS a k=fv a k+1000000*QS a (k+1):=by
 unfold QS;rw[List.drop_eq_getElem_cons h,oH,lT h]
def FH(a:List Nat):QS a (ln a)=0:=by unfold QS;rw[List.drop_length];rfl
def CG(x h d:Nat):
  (h%d*1000000+x)%d=(x+1000000*h)%d:=by
 rw[Nat.add_comm,Nat.add_mod,Nat.mod_mul_mod,VL h,<-Nat.add_mod]
def Rq(w1:Vt)(a:List Nat)(g n d:Nat)(r i:Vy)(w':Vt):Prop:=∃(k rN:Nat) (q:List Nat),k<=n/\i=VZ VH ((k:Int)-1)/\r=VZ VH (rN:Int)/\rN<d/\rN=QS a k%d/\ln q=n/\Row w' g n q/\dO g w1 w'
def nl(r:Nat):al [r]=r:=by simp[al,S6,fv]
def TI{a r d:Nat}(h1:a<1000000)(h2:r<1000000)(h3:1<=d):VH.wrap (((r:Int)*1000000+(a:Int)).tdiv d)=(((r*1000000+a)/d:Nat):Int):=by
 rw[IntWalk.i64_quo _ _ ⟨V7,V7,V7⟩];simp
def Tw{a r d:Nat}:((r:Int)*1000000+(a:Int)).tmod d=(((r*1000000+a)%d:Nat):Int):=by
 rw[IntWalk.rem_in _ _ V7];simp
def BY(w:Vt)(a:List Nat)(va:Vy)(d:Nat)(ha:bB w w.heap.size va a)(hsa:kL a)(hd0:1<=d)(hd1:d<1000000)(hla:ln a<=1000000):
  VJ prog 312 #[va,VZ VH (d:Int)] w (AM (al a) d w):=by
 obtain⟨A,ca,rfl,ha1,ha2,hac⟩:=id ha;unfold VP at ha2;obtain⟨i0,hi,hz0,hz1,hz2⟩:=info_parts eA;obtain⟨n,hn⟩:∃n,ln a=n:=⟨_,rfl⟩;rw[hn] at ha1 hla⊢;go_enter func312,ntmps312;go_wp2_with(at_make;refine wpList_make_full _ rfl _ _ 25 rfl w.heap.size 3 i0 (VZ VH 0) 1 underlying25 hi hz0 hz1 .i64 .i64 _ _ n rfl rfl V7 V7 XE Wh (Vu _) ?_;intro w1 hown hgrow)
 have hrow:=lh hown;have hbel:VS w.heap.size w w1:=(Below.refl _ w).grown hgrow (Vu _) Wa;have sa1:=ha.below hbel;have HN:=Vs hn;have HS:=Vs (show Rq w1 a w.heap.size n d (VZ VH 0) (VZ VH ((n:Int)-1)) w1 from⟨n,0,_,Vu _,rfl,rfl,V7,by rw[<-hn,FH,Nat.zero_mod],Wa,hrow,dO.refl _ _⟩);have HBEL:=Vs hbel;clear hown hgrow hrow ha hi hz0 hz1 hz2 hac hbel hn;go_loopw [7,8] (λr i wr=>Rq w1 a w.heap.size n d r i wr) (λ_ i _=>(VN i+1).toNat)
 case atStart=>exact HS.o
 case round=>
  obtain⟨k,r,q,hk,rfl,rfl,hr,hrv,hql,hR,hO⟩:=hrel;have HRV:=Vs hrv;clear hrv;have HR:=Vs hR;have HO:=Vs hO;have HQL:=Vs hql;rcases k with _|k
  ·have hr1:kL [r]:=by
    intro x hx;have e:x=r:=by simpa using hx
    rw[e];show r<1000000;omega
   have CT1:=Vs (dF wr wr.heap.size _ q (hR.sl hR.lt));rw[hql] at CT1;have r1:=row_one wr r;have CT2:=Vs (show VJ prog 311 #[VV (Vz ⟨wr.heap.size,0,Vx⟩) 1 1] (wr.alloc (.cells #[VZ VH (r:Int)] 3)) _ from dF _ _ _ [r] (r1.sl r1.lt));have HP:=Vs (show∀vq,AM (al a) d w (V0 (V6 #[vq,Mn (VV (Vz ⟨wr.heap.size,0,Vx⟩) 1 1) [r]])) (wr.alloc (.cells #[VZ VH (r:Int)] 3)) fromλvq=>
    ⟨vq,_,aA [r],rfl,(r1.sl r1.lt).trimmed,dq hr1,by rw[eH,nl];exact HRV.o,(HBEL.o.trans (hO.below (Vu _))).alloc (HBEL.o.trans (hO.below (Vu _))).size _⟩)
   clear hR hO hql r1 hr1;go_wp2_with(go_at_call 311;first|((with_reducible refine CT1.o.mono ?_);rintro e W1 ⟨rfl,rfl⟩)|((with_reducible refine CT2.o.mono ?_);rintro e W1 ⟨rfl,rfl⟩))
   go_ret2;exact HP.o _
  ·have sa:=hO.sl sa1 (Vu _);have hxa:fv a k<1000000:=aH hsa k;obtain⟨_,_,e,_,_,hac⟩:=sa;injection e with e1 e2 e3
   clear e2;subst e1 e3;obtain⟨ba,oa,rfl,_,hcell⟩:=hac WG;have hc:=hcell k WG;have hx:=hR.cell (j:=k) V7;have hfr:=hR.frozen k;have hrb:r<1000000:=V7;obtain⟨x,hxx⟩:∃x,fv a k=x:=⟨_,rfl⟩;obtain⟨y,hyy⟩:∃y,fv q k=y:=⟨_,rfl⟩;rw[hxx] at hc hxa;have HXX:=Vs hxx;rw[hyy] at hx;have ek:((k+1:Nat):Int)-1=(k:Int):=V7;rw[ek];have hrd:r*1000000<1000000000000:=V7;have hnz:¬d=0:=V7;have w6:=TI (a:=x) hxa hrb hd0;have w7:=Tw (a:=x) (r:=r) (d:=d);have HP:=Vs (show∀z m,(r*1000000+x)%d=m->Rq w1 a w.heap.size n d (VZ VH (m:Int)) (VZ VH ((k:Int)-1)) (wr.setCell ⟨w.heap.size,k,Vx⟩ (VZ VH (z:Nat))) fromλz m e=>⟨k,m,_,V7,rfl,rfl,by rw[<-e];exact Nat.mod_lt _ V7,by rw[<-e,HRV.o,CG,BO (a:=a) (k:=k) WG,HXX.o],by rw[List.length_set];exact HQL.o,HR.o.set (by have:=HQL.o;omega) z,HO.o.set _ _⟩);obtain⟨m,hm⟩:∃m,(r*1000000+x)%d=m:=⟨_,rfl⟩;obtain⟨z,hz⟩:∃m,(r*1000000+x)/d=m:=⟨_,rfl⟩;rw[hz] at w6;rw[hm] at w7;have HP2:=Vs (HP.o z m hm);clear hcell hac hR hO hql hxx hyy hm hz HP;go_wp2;exact⟨HP2.o,by simp[VN]⟩
end
section
open Kp
theorem Hg.ext{v:Vy}{l:List Nat}(h:Hg w g v l)(hx:Ext w w'):Hg w' g v l:=by
 obtain⟨A,cap,rfl,h1,h2,hc⟩:=h;refine⟨A,cap,rfl,h1,h2,λhn=> ?_⟩;obtain⟨b,off,e,hb,hcell⟩:=hc hn;exact⟨b,off,e,hb,λj hj=>(hx.cell (zq (hcell j hj))).trans (hcell j hj)⟩
theorem bB.fresh{v:Vy}{l:List Nat}(h:bB w b0 v l)(hf:CP z v)(hg:g<z):Hg w g v l:=by
 obtain⟨A,cap,rfl,h1,h2,hc⟩:=h;refine⟨A,cap,rfl,h1,h2,λhn=> ?_⟩;obtain⟨b,off,e,hb,hcell⟩:=hc hn;exact⟨b,off,e,by have:=(hf _ _ _ rfl).2 _ e;simp at this;omega,hcell⟩
structure J8(g n:Nat)(v:Vy)(l:List Nat)(w:Vt):Prop where
 sl:Hg w g v l
 canon:aY l
 len:ln l<=n
 nil:∀m c,v=VV Vx m c->c=0
theorem J8.ext{v:Vy}{l:List Nat}(h:J8 g n v l w)(hx:Ext w w'):J8 g n v l w':=⟨h.sl.ext hx,h.canon,h.len,h.nil⟩
def ES(w:Vt)(g n:Nat)(wr:Vt):Prop:=∃q:List Nat,ln q=n/\Row wr g n q/\VS w.heap.size w wr
theorem ES.ext(h:ES w g n wr)(hx:Ext wr w'):ES w g n w':=by
 obtain⟨q,h1,h2,h3⟩:=h;exact⟨q,h1,h2.below hx h2.lt,h3.trans (hx.mono h3.size)⟩
theorem ES.lt(h:ES w g n wr):g<wr.heap.size:=by
 obtain⟨q,_,h2,_⟩:=h;exact h2.lt
def Tr(w:Vt)(a:List Nat)(g n m V:Nat)(r i:Vy)(wr:Vt):Prop:=∃(k:Nat) (l:List Nat),k<=n/\i=VZ VH ((k:Int)-1)/\J8 g m r l wr/\al l=QS a k%V/\ES w g n wr
def QC(w:Vt)(g n m V R:Nat)(r z:Vy)(wr:Vt):Prop:=∃(zN:Nat) (l:List Nat),z=VZ VH (zN:Int)/\J8 g (m+1) r l wr/\al l+zN*V=R/\ES w g n wr
def Gu(v:Vy)(w:Vt):Nat:=
 match v with
 | VV (Vz a) n _=>S6 (λj=>match w.cell? ⟨a.block,a.off+j,Vx⟩ with|some (.int _ x)=>x.toNat|_=>0) n
 |_=>0
theorem qf{v:Vy}{l:List Nat}(h:bB w b0 v l):Gu v w=al l:=by
 obtain⟨A,cap,rfl,_,_,hc⟩:=h;by_cases hl:0<ln l
 ·obtain⟨b,off,rfl,_,hcell⟩:=hc hl;unfold Gu al;refine jx (λj hj=> ?_);simp only;rw[hcell j hj];simp
 ·have:l=[]:=XI;subst this;cases A<;>rfl
def UC{t u z:Nat}(h1:u<1000000000000000000)(h3:1<=t)(hz:u/t=z):VH.wrap ((u:Int).tdiv (t:Int))=(z:Int):=by
 rw[IntWalk.i64_quo _ _ ⟨V7,V7,V7⟩,<-hz];simp
def OT(w:Vt)(x:Nat):(w.alloc (.cells #[VZ VH (x:Int)] 3)).ownsRow w.heap.size 3 1 (VV (Vz ⟨w.heap.size,0,Vx⟩) 1 1) 1 [VZ VH (x:Int)]:=
 ⟨rfl,.inr ⟨w.heap.size,1,#[VZ VH (x:Int)],rfl,Vu _,VG w _,Vu _,Wh,rfl,rfl⟩⟩
theorem TF(W:Vt){ops:Array Oper}{rest:List Oper}{o:Oper}{a:Act}{Q:Exit->Act->Vt->Prop}(hgd:o.guard=Vx)(s x:Operand)(ho:o.op= .call {callee:= .builtin .append,args:=#[s,x],argTypes:=#[25,25]})
  (wr:Vt)(d:Nat)(hW:W=wr.alloc (.cells #[VZ VH (d:Int)] 3))(hs:a.eval s=VV (Vz ⟨wr.heap.size,0,Vx⟩) 1 1){vx:Vy}{l:List Nat}(hx:a.eval x=vx)(hl:bB W b0 vx l)(hnil:∀m c,vx=VV Vx m c->c=0)(hn:ln l<=10000000)
  (h:∀v' w',bB w' w'.heap.size v' (d::l)->CP wr.heap.size v'->Ext wr w'->wpList prog ops Q rest (a.put o.dst v') w'):wpList prog ops Q (o::rest) a W:=by
 subst hW;obtain⟨i0,hi,hz0,hz1,hz2⟩:=info_parts eA;have hown:=OT wr d;have hxw:Ext wr (wr.alloc (.cells #[VZ VH (d:Int)] 3)):=(Below.refl _ _).alloc (Vu _) _;have fin:∀v' w',w'.ownsRow wr.heap.size 3 1 v' (1+ln l) ([VZ VH (d:Int)]++sZ l)->(wr.alloc (.cells #[VZ VH (d:Int)] 3)).grownBy w' (Vz wr.heap.size)->wpList prog ops Q rest (a.put o.dst v') w':=by
  intro v' w' ho hg;exact h v' w' (dd (l:=d::l) ho Wf) (DL ho) (ei hxw hg (λk e=>by injection e with e;omega))
 obtain⟨A,cap,rfl,h1,h2,hc⟩:=hl;cases A with
 |none=>
  have e0:=hnil _ _ rfl;obtain rfl:l=[]:=by
   cases l with
   |nil=>rfl
   |cons y l=>obtain⟨_,_,e,_⟩:=hc Wa;cases e
  subst e0;exact wpList_append_own_none hgd s x 25 ho wr.heap.size 3 i0 1 underlying25 hi _ 1 _ hs hown hx (fin _ _ hown (Vt.grownBy.refl _ _))
 |some ad=>
  refine wpList_append_own _ hgd s x 25 ho wr.heap.size 3 i0 (VZ VH 0) 1 8 underlying25 hi hz0 hz1 hz2 rfl V7 _ 1 _ hs hown ad (ln l) cap (sZ l) hx (by unfold sZ;simp) ?_ ?_ Wh V7 Wa (λv' w' h1 h2 _=>fin v' w' h1 h2)
  ·intro j u hj;have hlt:j<ln l:=by
    have:=(List.getElem?_eq_some_iff.1 hj).1;unfold sZ at this;simpa using this
   obtain⟨b,off,e,_,hcell⟩:=hc V7;obtain rfl:ad=⟨b,off,Vx⟩:=Option.some.inj e;rw[Addr.add_lit,hcell j hlt];rw[<-hj];unfold sZ;rw[List.getElem?_map,VA hlt,lT hlt];rfl
  ·intro u hu;unfold sZ at hu;obtain⟨y,_,rfl⟩:=List.mem_map.1 hu
   rfl
def uz(w:Vt)(b0:Nat)(v:Vy)(l:List Nat)(z:Int)(i p:Nat)(h:bB w b0 v l)(hp:fv l i=p)(hz:z=i)(hi:i<=4611686018427387904):
  VJ prog 313 #[v,VZ VH z] w λe w'=>e=V0 (VZ VH p)/\w=w':=by
 subst hz hp;exact mW w b0 v l i h hi
theorem bB.eq{v v':Vy}{l:List Nat}(h:bB w b0 v l)(e:v=v'):bB w b0 v' l:=e▸h
def wE(w:Vt)(a b:List Nat)(va vb:Vy)(ha:bB w w.heap.size va a)(hb:bB w w.heap.size vb b)(hsa:kL a)(hcb:aY b)(hla:ln a<=100000)(hlb:ln b<=100000)(m:Nat)(hm:ln b=m+2):
  VJ prog 283 #[va,vb] w (AM (al a) (al b) w):=by
 obtain⟨A,ca,rfl,ha1,ha2,hac⟩:=id ha;obtain⟨A',cb,rfl,hb1,hb2,hbc⟩:=id hb;obtain⟨bb,ob,rfl,_,hbcell⟩:=hbc V7;unfold VP at ha2 hb2;obtain⟨i0,hi,hz0,hz1,hz2⟩:=info_parts eA;have I0:=Vs hi;have I1:=Vs hz0;have I2:=Vs hz1;have I3:=Vs hz2;obtain⟨n,hn⟩:∃n,ln a=n:=⟨_,rfl⟩;rw[hn] at ha1 hla⊢;rw[hm];rw[hm] at hb1 hlb;have hy0:=hbcell m V7;have hy1:=hbcell (m+1) V7;have hs0:fv b m<1000000:=aH hcb.small m;have hs1:fv b (m+1)<1000000:=aH hcb.small (m+1);have HA:=Vs ha;have HB:=Vs (hb.eq (v':= VV (Vz ⟨bb,ob,Vx⟩) (m+2) cb) (by rw[hm]));have hy1p:1<=fv b (m+1):=Nat.pos_of_ne_zero (hcb.trim _ (by rw[List.getLast?_eq_getElem?,hm];show b[m+1]?=_;rw[VA V7,lT V7]));have HN:=Vs hn;have HM:=Vs hm;have HE:=Vs (λr (h:ln r<=m+3)=>UO (r:=r) hcb.small hm h);have HV0:=Vs (nQ hcb.trim (by intro h;rw[h] at hm;simp at hm));obtain⟨y0,hyy0⟩:∃y,fv b m=y:=⟨_,rfl⟩;obtain⟨y1,hyy1⟩:∃y,fv b (m+1)=y:=⟨_,rfl⟩;simp only[hyy0,hyy1] at hy0 hy1 hs0 hs1 hy1p HE;have e1:((m+2:Nat):Int)-1=((m+1:Nat):Int):=V7;have e2:((m+2:Nat):Int)-2=(m:Int):=V7;clear ha hb hac hbc hbcell hn hm hi hz0 hz1 hz2 hyy0 hyy1;go_enter func283,ntmps283;go_wp2_with fail
 go_quiet (fail)
 go_wp2_with(at_make;refine wpList_make_full _ rfl _ _ 25 rfl w.heap.size 3 i0 (VZ VH 0) 1 underlying25 I0.o I1.o I2.o .i64 .i64 _ _ n rfl rfl V7 V7 (by rw[I3.o];omega) Wh (Vu _) ?_;intro w1 hown hgrow)
 have hbel:VS w.heap.size w w1:=(below_drewN (Below.refl w.heap.size w) nq).grown hgrow (Vu _) (λ_ h=>Wb);simp only[Vt.heap_drewN] at hown⊢;have hrow:=lh hown;have HS:=Vs (show Tr w a w.heap.size n (m+2) (al b) (VV (Vz ⟨w1.heap.size,0,Vx⟩) 0 0) (VZ VH ((n:Int)-1)) (w1.alloc (.cells #[] 3)) from
  ⟨n,[],Vu _,rfl,⟨⟨_,0,rfl,Wa,Wh,λh=>by simp at h⟩,⟨λ_ h=>by simp at h,qQ⟩,Wa,λ_ _ h=>by simp at h⟩,by rw[<-HN.o,FH,Nat.zero_mod];rfl,⟨_,Wa,hrow.alloc _,hbel.alloc hbel.size _⟩⟩)
 clear hown hgrow hrow hbel;go_loopw [9,10] (λr i wr=>Tr w a w.heap.size n (m+2) (al b) r i wr) (λ_ i _=>(VN i+1).toNat)
 case atStart=>exact HS.o
 case round=>
  obtain⟨k,l,hk,rfl,hR,hlv,hQ⟩:=hrel;have hlt:al l<al b:=by rw[hlv];exact Nat.mod_lt _ HV0.o
  have HLV:=Vs hlv;have HR:=Vs hR;have HQ:=Vs hQ;have HLT:=Vs hlt;obtain⟨q,hql,hrow,hbel⟩:=hQ;rcases k with _|k
  ·have CT:=Vs (dF wr wr.heap.size _ q (hrow.sl hrow.lt));rw[hql] at CT;obtain⟨Ar,cr,hv,_⟩:=id hR.sl;subst hv;have HP:=Vs (show∀vq,AM (al a) (al b) w (V0 (V6 #[vq,VV Ar (ln l) cr])) wr fromλvq=>⟨vq,_,l,rfl,hR.sl.all,hR.canon,hlv,hbel⟩);clear hR hlt hlv hrow hbel hql;go_wp2_with(go_at_call 311;go_must(refine CT.o.mono ?_);rintro e W1 ⟨rfl,rfl⟩)
   go_ret2;exact HP.o _
  ·have sa:=HA.o.below hbel;have hxa:fv a k<1000000:=aH hsa k;obtain⟨_,_,e,_,_,hac⟩:=sa;injection e with e1 e2 e3
   clear e2;subst e1 e3;obtain⟨ba,oa,rfl,_,hcell⟩:=hac WG;have hc:=hcell k WG;obtain⟨x,hxx⟩:∃x,fv a k=x:=⟨_,rfl⟩;rw[hxx] at hc hxa;have HMD:=Vs (show al (aA (x::l))%al b=QS a k%al b by rw[eH,oH,hlv,Nat.add_comm,VL,CG,BO (a:=a) (k:=k) WG,hxx]);clear hlv;have ek:((k+1:Nat):Int)-1=(k:Int):=V7;rw[ek];obtain⟨Ar,cr,hv,_⟩:=id hR.sl;subst hv;have hxc:∀y∈x::l,y<B6:=λy hy=>by
    rcases List.mem_cons.1 hy with h|h
    ·rw[h];exact hxa
    ·exact hR.canon.small y h
   have HC:=Vs (dq (l:=x::l) hxc);have HLL:=Vs (show(aA (x::l)).length<=m+3 from VI (aR _) (by rw[List.length_cons];have:=hR.len;omega));have HV:=Vs (show al (aA (x::l))<1000000*al b by rw[eH,oH];omega);have hlen10:ln l<=10000000:=by have:=hR.len;omega
   obtain⟨r1,hr1⟩:∃r1,aA (x::l)=r1:=⟨_,rfl⟩;rw[hr1] at HC HLL HV HMD;have HR1:=Vs hr1;have HSL:=Vs (hR.sl.all);have HNIL:=Vs hR.nil;have HBW:=Vs ((HB.o.below hbel).more hbel.size);have HQS:=Vs hbel.size;have hp2s:fv r1 (m+2)<1000000:=aH HC.o.small _;have hp1s:fv r1 (m+1)<1000000:=aH HC.o.small _;have hp0s:fv r1 m<1000000:=aH HC.o.small _;have hest:=HE.o r1 HLL.o;obtain⟨p2,qw⟩:∃p,fv r1 (m+2)=p:=⟨_,rfl⟩;obtain⟨p1,lA⟩:∃p,fv r1 (m+1)=p:=⟨_,rfl⟩;obtain⟨p0,hp0⟩:∃p,fv r1 m=p:=⟨_,rfl⟩;rw[qw,lA,hp0] at hest;rw[qw] at hp2s;rw[lA] at hp1s;rw[hp0] at hp0s;have P2:=Vs qw;have P1:=Vs lA;have P0:=Vs hp0;obtain⟨u,hu⟩:∃u,(p2*1000000+p1)*1000000+p0=u:=⟨_,rfl⟩;obtain⟨t,ht⟩:∃t,y1*1000000+y0+1=t:=⟨_,rfl⟩;obtain⟨g,hg⟩:∃g,u/t=g:=⟨_,rfl⟩;have w6:VH.wrap ((((p2:Int)*1000000+p1)*1000000+p0).tdiv ((y1:Int)*1000000+y0+1))=(g:Int):=by
    have:=UC (t:=t) (u:=u) V7 V7 hg;rw[<-this,<-hu,<-ht];simp
   have hgs:g<1000000000000:=by
    rw[<-hg];exact(Nat.div_lt_iff_lt_mul V7).2 V7
   have HEST:=Vs (show g*al b<=al r1 by rw[<-hg,<-hu,<-ht];exact hest);have hnz:¬((y1:Int)*1000000+y0+1=0):=V7;have HFG:=Vs (On hgs);have HSB:=Vs hcb.small;have HR1L:=Vs (show ln r1<=1000000 by have:=HLL.o;omega);have HBL:=Vs (show ln b<=1000000 by have:=HM.o;omega);clear hR hlt hrow hbel hql hcell hac hxx hxc hr1 hest qw lA hp0 hu ht hg;go_wp2_with(first
    |(go_at_call 314;go_loud (refine(n8 w3 r1 l3 _ _ HS4.o HS5.o HC.o.small HS6.o HR1L.o).mono ?_);rintro e w4 ⟨v4,l4,rfl,hs7,hc7,hl7,hx7,hf7⟩)
    |(go_at_call 315;go_loud (refine(rK _ b [g] _ _ ((HBW.o.grow hx2).new _) (show bB _ _ (VV (Vz ⟨w2.heap.size,0,Vx⟩) 1 1) [g] from(row_one w2 g).sl (row_one w2 g).lt) HSB.o HFG.o HBL.o Wa).mono ?_);rintro e w3 ⟨v3,l3,rfl,hs3,hc3,⟨hv3,hl3⟩,hx3,hf3⟩;have HS4:=Vs (show bB w3 w3.heap.size (Mn v2 (x::l)) r1 from(HS3.o.new _).grow hx3);have HS5:=Vs hs3;have HS6:=Vs hc3.small)
    |(go_at_call 313;first|(refine(uz w2 _ _ r1 _ (m+2) p2 HS3.o P2.o V7 V7).mono ?_;rintro e W1 ⟨rfl,rfl⟩)|(refine(uz w2 _ _ r1 _ (m+1) p1 HS3.o P1.o V7 V7).mono ?_;rintro e W1 ⟨rfl,rfl⟩)|(go_loud (refine(uz w2 _ _ r1 _ m p0 HS3.o P0.o V7 V7).mono ?_);rintro e W1 ⟨rfl,rfl⟩))
    |(go_at_call 311;go_loud (refine(dF w2 _ v2 (x::l) HS2.o).mono ?_);rintro e W1 ⟨rfl,rfl⟩)
    |(at_builtin;refine TF _ rfl _ _ rfl wr x rfl rfl rfl (HSL.o.new _) HNIL.o hlen10 ?_;intro v2 w2 hs2 hf2 hx2;have HS2:=Vs hs2;have HS3:=Vs (show bB w2 w2.heap.size (Mn v2 (x::l)) r1 from HR1.o▸hs2.trimmed)))
   have hxt:Ext wr w3:=hx2.trans (((Below.refl _ _).alloc (Vu _) _).trans (hx3.mono Wa) |>.mono hx2.size);have hxw:Ext wr w4:=hxt.trans (hx7.mono hxt.size);have hv3':al l3=g*al b:=by rw[hv3,nl,VL]
   have hle3:al l3<=al r1:=by rw[hv3'];exact HEST.o
   have hll3:=kq hc3 HC.o.small hle3;have hv4:al l4=al r1-al l3:=by rw[hl7];exact pE HC.o.small HS6.o hll3 hle3
   have hl4:ln l4<=m+3:=by rw[hl7];exact VI (aR _) (by rw[bn];exact HLL.o)
   have HI:=Vs (show QC w w.heap.size n (m+2) (al b) (al r1) v4 (VZ VH (g:Int)) w4 from
    ⟨g,l4,rfl,⟨hs7.fresh hf7 (Nat.lt_of_lt_of_le HQ.o.lt hxt.size),hc7,hl4,λm' c e=>(hf7 _ _ _ e).1 rfl⟩,by rw[hv4,hv3'];have:=HEST.o;omega,HQ.o.ext hxw⟩)
   clear hxt hxw hv3' hle3 hll3 hv4 hl4 hs7 hc7 hl7 hx7 hf7 hs3 hc3 hv3 hl3 hx3 hf3;go_loopw [9,11] (λr z wi=>QC w w.heap.size n (m+2) (al b) (al r1) r z wi) (λr _ wi=>Gu r wi)
   case atStart=>exact HI.o
   case round=>
    obtain⟨z,l5,rfl,hR5,he5,hQ5⟩:=hrel;have hz6:=Rt he5 HV.o;obtain⟨A5,c5,hv5,_⟩:=id hR5.sl;subst hv5;have S5:=Vs hR5.sl.all;have hxw5:Ext w wr:=by obtain⟨_,_,_,h⟩:=hQ5;exact h
    have B5:=Vs ((HB.o.below hxw5).more hxw5.size);have CS:=Vs (uj wr l5 b _ _ S5.o B5.o hR5.canon hcb);have Q5:=Vs hQ5;have R5:=Vs hR5;have E5:=Vs he5;have hL5:ln l5<=1000000:=by have:=hR5.len;omega
    by_cases hge:al b<=al l5
    ·have HGE:=Vs hge;clear hR5 hQ5 he5 hxw5 hge;go_wp2_with(first
      |(go_at_call 314;go_loud (refine(n8 w6 l5 b _ _ (S5.o.grow X6.o) (B5.o.grow X6.o) R5.o.canon.small HSB.o hL5).mono ?_);rintro e w7 ⟨v7,l7,rfl,hs7,hc7,hl7,hx7,hf7⟩)
      |(go_at_call 316;go_loud (refine CS.o.mono ?_);rintro e w6 ⟨⟨c,rfl,h1,h2⟩,hx6⟩;have X6:=Vs hx6;have hc0:0<=c:=Int.not_lt.1 (λh=>absurd (h1 h) (Nat.not_lt.2 HGE.o));clear h1 h2 hx6))
     have hb5:=kq hcb R5.o.canon.small HGE.o;have hv7:al l7=al l5-al b:=by rw[hl7];exact pE R5.o.canon.small HSB.o hb5 HGE.o
     have hx67:Ext wr w7:=X6.o.trans (hx7.mono X6.o.size);refine⟨⟨z+1,l7,Wa,⟨hs7.fresh hf7 (Nat.lt_of_lt_of_le Q5.o.lt X6.o.size),hc7,by rw[hl7];exact VI (aR _) (by rw[bn];exact R5.o.len),λm' c e=>(hf7 _ _ _ e).1 rfl⟩,?_,Q5.o.ext hx67⟩,?_⟩
     ·have:=E5.o;have:=HGE.o;rw[hv7,Nat.add_mul,Nat.one_mul];omega
     ·rw[qf hs7,qf S5.o,hv7];have:=HV0.o;have:=HGE.o;omega
    ·have HGE:=Vs hge;have HL5:=Vs (show ln l5<=m+2 by have:=kq R5.o.canon HSB.o V7;rw[HM.o] at this;exact this);clear hR5 hQ5 he5 hxw5 hge;go_wp2_with(go_at_call 316;go_loud (refine CS.o.mono ?_);rintro e w6 ⟨⟨c,rfl,h1,h2⟩,hx6⟩;have X6:=Vs hx6;have hc0:¬0<=c:=(λh=>absurd (h2 V7).1 HGE.o);obtain⟨q6,hq6,hr6,hb6⟩:=Q5.o.ext hx6;have Q6:=Vs hq6;have R6:=Vs hr6;have B6':=Vs hb6;have hx:=hr6.cell (j:=k) V7;have hfr:=hr6.frozen k;obtain⟨y,hyy⟩:∃y,fv q6 k=y:=⟨_,rfl⟩;rw[hyy] at hx;clear h1 h2 hx6 hq6 hr6 hb6 hyy)
     have ho:=(dO.refl w.heap.size w6).set k (VZ VH (z:Int));refine⟨⟨k,l5,V7,rfl,⟨ho.Sl (R5.o.sl.ext X6.o),R5.o.canon,HL5.o,R5.o.nil⟩,by rw[<-HMD.o,<-E5.o,Nat.add_mul_mod_self_right,Nat.mod_eq_of_lt (by have:=HGE.o;omega)],⟨q6.set k z,by rw[List.length_set];exact Q6.o,R6.o.set (by have:=Q6.o;omega) z,B6'.o.setCell (p:=⟨w.heap.size,k,Vx⟩) (Vu _) _⟩⟩,?_⟩;simp[VN]
end
section
open Kp
def zQ(w:Vt)(a b:List Nat)(va vb:Vy)(ha:bB w w.heap.size va a)(hb:bB w w.heap.size vb b)(hsa:kL a)(hcb:aY b)(hla:ln a<=100000)(hlb:ln b<=100000)(hne:b≠[]):
  VJ prog 283 #[va,vb] w (AM (al a) (al b) w):=by
 rcases b with _|⟨d,_|⟨d2,b⟩⟩
 ·exact absurd rfl hne
 ·have hd1:d<1000000:=hcb.small d Wa;have hd0:1<=d:=Nat.pos_of_ne_zero (hcb.trim d rfl);have HC:=Vs (BY w a va d ha hsa hd0 hd1 V7);obtain⟨A',cb,rfl,hb1,hb2,hbc⟩:=id hb;obtain⟨bb,ob,rfl,_,hcell⟩:=hbc Wa;have hx:w.cell? ⟨bb,ob,Vx⟩=Vz (VZ VH d):=hcell 0 Wa;obtain⟨A,ca,rfl,_,_,_⟩:=ha;rw[nl];clear hb hbc hcell;go_enter func283,ntmps283;go_wp2_with(go_at_call 312;go_loud (refine HC.o.mono ?_);rintro e w1 ⟨vq,vr,l,rfl,h1,h2,h3,h4⟩)
  go_ret2;exact⟨_,_,l,rfl,h1,h2,h3,h4⟩
 ·exact wE w a (d::d2::b) va vb ha hb hsa hcb hla hlb (ln b) Wa
end
section
open Kp
theorem ai.p8{x y:Vy}(h:ai w b T [x,y])(v:Vy):ai (w.setCell ⟨b,1,Vx⟩ v) b T [x,v]:=by
 exact YU
theorem ai.mD{x y:Vy}(h:ai w b T [x,y])(v:Vy):ai (w.setCell ⟨b,0,Vx⟩ v) b T [v,y]:=by
 exact YU
theorem ai.below{B:Nat}{l:List Vy}(h:ai w b T l)(hx:VS B w w')(hb:b<B):ai w' b T l:=(hx.block b hb).trans h
def Qo(n:Nat)(w:Vt)(e:Ending)(w':Vt):Prop:=∃s v l,e=V0 (V5 #[VX s,v])/\bB w' w'.heap.size v l/\aY l/\ln l<=n/\Ext w w'
def Eo(z:ByteArray)(w:Vt)(e:Ending)(w':Vt):Prop:=∃s v l,e=V0 (V5 #[VX s,v])/\bB w' w'.heap.size v l/\aY l/\ln l<=51/\Ext w w'/\(Sp z 0 z.size->al l=cJ z z.size)
theorem rd_val{y:ByteArray}(h:cJ y j=cJ y b*10^(j-b)+x)(hs:cJ y (j+1)=10*cJ y j+g)(hk:b<=j):cJ y (j+1)=cJ y b*10^(j+1-b)+(10*x+g):=by
 have e:(10:Nat)^(j+1-b)=10^(j-b)*10:=by rw[show j+1-b=(j-b)+1 by omega,Nat.pow_succ]
 rw[hs,h,e,<-Nat.mul_assoc,VL _ 10];omega
theorem zZ{y:ByteArray}(hb:j-6=b)(h:cJ y j=cJ y b*10^(j-b)+x):cJ y j=cJ y b*1000000+x:=by
 by_cases h6:6<=j
 ·rw[h,show j-b=6 by omega]
 ·obtain rfl:b=0:=V7;rw[h];simp[cJ]
def tG{L V x nb nj N:Nat}(h1:V+B6^L*nj=N)(h2:nj=nb*1000000+x):V+x*B6^L+B6^(L+1)*nb=N:=by
 have e:B6^L*(nb*1000000)=B6^(L+1)*nb:=by rw[Nat.pow_succ,Nat.mul_assoc,VL nb]
 rw[<-h1,h2,Nat.mul_add,e,VL x];omega
structure R9(w:Vt)(s:Bool)(v:Vy)(l:List Nat)(wr:Vt):Prop where
 res:ai wr w.heap.size 308 [VX Vw,VV Vx 0 0]
 num:ai wr (w.heap.size+1) 308 [VX s,v]
 own:wr.ownsRow (w.heap.size+2) 3 1 v (ln l) (sZ l)
 small:kL l
 ext:Ext w wr
def xA(w:Vt)(s:Bool)(y:ByteArray)(e:Vy)(wr:Vt):Prop:=∃(k:Int) (v:Vy) (l:List Nat),e=VZ VH k/\k+6*(ln l:Int)=y.size/\ -6<k/\al l+B6^ln l*cJ y k.toNat=cJ y y.size/\R9 w s v l wr
def GA(y:ByteArray)(W:Vt)(s e:Nat)(n i:Vy)(wi:Vt):Prop:=∃x k:Nat,n=VZ VH (x:Int)/\i=VZ VH (k:Int)/\s<=k/\k<=e/\x<10^(k-s)/\cJ y k=cJ y s*10^(k-s)+x/\wi=W
def zF{x k s c:Nat}(h:x<10^(k-s))(hk:s<=k)(hc:c<=9):10*x+c<10^(k+1-s):=by
 have:(10:Nat)^(k+1-s)=10^(k-s)*10:=by rw[<-Nat.pow_succ];congr 1;omega
 omega
theorem nL(h:x<10^d)(hd:d<=6):x<1000000:=
 Nat.lt_of_lt_of_le h (VI (Nat.pow_le_pow_right V9 hd) V9)
theorem oq{v:Vy}{l:List Nat}(h:R9 w s v l wr)(hx:x<1000000)(v':Vy)(w':Vt)
  (ho:w'.ownsRow (w.heap.size+2) 3 1 v' (ln l+1) (sZ l++[VZ VH (x:Int)]))(hg:(wr.alloc (.cells #[VZ VH (x:Int)] 3)).grownBy w' v.ownBlock):
  w'.cell? ⟨w.heap.size+1,1,Vx⟩=Vz v/\w'.frozen? ⟨w.heap.size+1,1,Vx⟩=Vw/\R9 w s v' (l++[x]) (w'.setCell ⟨w.heap.size+1,1,Vx⟩ v'):=by
 have b1:VS (w.heap.size+2) wr w':=((Below.refl _ _).alloc (by have:=h.num.lt;omega) _).grown hg (by have:=h.num.lt;simp;omega) (λk e=>(az h.own k e).1);have n1:=h.num.below b1 V7;have hne:=az ho;refine⟨n1.cell 1,n1.frozen 1,((h.res.below b1 V7).dz Wa _),n1.p8 _,?_,?_,(h.ext.trans (b1.mono V7)).setCell (p:=⟨w.heap.size+1,1,Vx⟩) Wa _⟩
 ·rw[VM];have e:sZ (l++[x])=sZ l++[VZ VH (x:Int)]:=by unfold sZ;rw[List.map_append];rfl
  rw[e];exact bP ho (λh=>Xz) _
 ·intro d hd;rcases List.mem_append.1 hd with h1|h1
  ·exact h.small d h1
  ·rw[List.mem_singleton.1 h1];exact hx
def tP(w:Vt)(z:ByteArray)(hz:Kh z):VJ prog 282 #[VW z] w (Eo z w):=by
 obtain⟨i0,hi,hz0,hz1,hz2⟩:=info_parts eA;have I0:=Vs hi;have I1:=Vs hz0;have I2:=Vs hz1;have I3:=Vs hz2;obtain⟨f,hf1,hfz,hd,h300,h45⟩:=hz.ex;have hp:0<z.size:=V7;obtain⟨y,hy⟩:∃y:ByteArray,z.extract f z.size=y:=⟨_,rfl⟩;have hys:y.size=z.size-f:=by rw[<-hy,ByteArray.size_extract,Nat.min_self]
 have hyd:Sp y 0 y.size:=by
  exact a0k
 obtain⟨p,hpp⟩:∃p,(((z[0]'hp).toNat:Int)==45)=p:=⟨_,rfl⟩;have hpf:p=decide (f=1):=by
  exact a0j
 have hfy:f=0->z=y:=by
  intro e;subst e;rw[<-hy];simp[ByteArray.extract_zero_size]
 clear hi hz0 hz1 hz2 hz h45;have YD:=Vs hyd;have HYS:=Vs hys;have hyl:y.size<=300:=V7;have hy0:0<y.size:=V7;have HFY:=Vs hfy;have START:=Vs (show∀s,xA w s y (VZ VH (y.size:Int)) ((w.alloc (Obj.cells #[VX Vw,VV Vx 0 0] 308)).alloc (Obj.cells #[VX s,VV Vx 0 0] 308)) fromλs=>
  ⟨_,_,[],rfl,Wa,V7,by simp[al,S6],(ai.new w _ _).ext ((Below.refl _ _).alloc (Vu _) _),Xa,⟨rfl,.inl ⟨rfl,rfl⟩⟩,(λ_ h=>Wb),((Below.refl _ _).alloc (Vu _) _).alloc Wa _⟩)
 clear hyd hfy;clear hys;cases p with
 |true=>
  obtain rfl:f=1:=by simpa using hpf.symm
  have HY:=Vs hy;clear hpf hy h300 hd;go_enter func282,ntmps282;go_wp2_with fail
  rw[HY.o,<-HYS.o];have ST:=Vs (START.o VD);go_loopw [4] (λe wr=>xA w VD y e wr) (λe _=>(VN e+6).toNat)
  case atStart=>exact ST.o
  case round=>
   obtain⟨k,v,l,rfl,hk,hk6,hV,hM⟩:=hrel;have HVV:=Vs hV;clear hV;have HM:=Vs hM;have HK:=Vs hk;have HYL:=Vs hyl;by_cases hpos:0<k
   ·exact a0i
   ·have hM2:=HM.o;obtain⟨A4,n4,c4,e4⟩:=ng.of hM2.own;subst e4;have hsl:=dd hM2.own rfl;have CT:=Vs (show VJ prog 311 #[VV A4 n4 c4] wr λe w'=>e=V0 (VV A4 (aA l).length c4)/\wr=w' from dF wr _ _ l hsl);have hst:=hsl.trimmed;obtain⟨q,hq⟩:∃q,(aA l).length=q:=⟨_,rfl⟩;have hl51:(aA l).length<=51:=VI (aR _) XA;have hcl:=hM2.num.cell 1;have r1:=hM2.num.p8 (VV A4 q c4);have r2:=hM2.res.dz (p:=⟨w.heap.size+1,1,Vx⟩) Wa (VV A4 q c4);have f1:=hM2.num.frozen 1;have c0:=r1.cell 0;have c1:=r1.cell 1;have d0:=r2.cell 0;have d1:=r2.cell 1;have g0:=r2.frozen 0;have g1:=r2.frozen 1;have r3:=r2.fV (VX VD) (VV A4 q c4);have HQ0:=Vs (r3.cell 0);have HQ1:=Vs (r3.cell 1);have hxx:Ext w (((wr.setCell ⟨w.heap.size+1,1,Vx⟩ (VV A4 q c4)).setCell ⟨w.heap.size,0,Vx⟩ (VX VD)).setCell ⟨w.heap.size,1,Vx⟩ (VV A4 q c4)):=((hM2.ext.setCell (p:=⟨w.heap.size+1,1,Vx⟩) Wa _).setCell (p:=⟨w.heap.size,0,Vx⟩) Wa _).setCell (p:=⟨w.heap.size,1,Vx⟩) Wa _;have hfin:Eo z w (V0 (V5 #[VX VD,VV A4 q c4])) (((wr.setCell ⟨w.heap.size+1,1,Vx⟩ (VV A4 q c4)).setCell ⟨w.heap.size,0,Vx⟩ (VX VD)).setCell ⟨w.heap.size,1,Vx⟩ (VV A4 q c4)):=by
     refine⟨_,_,aA l,rfl,?_,dq hM2.small,hl51,hxx,λh=>absurd (h 0 (Vu _) hp hp) (by have:=beq_iff_eq.1 hpp;omega)⟩;exact a0h
    exact a0g
 |false=>
  have h0:f=0:=by
   have:¬f=1:=by simpa using hpf.symm
   omega
  obtain rfl:=HFY.o h0;clear hpf hy h300 hd HFY;have ST:=Vs (START.o Vw);go_enter func282,ntmps282;go_wp2_with fail
  go_loopw [4] (λe wr=>xA w Vw z e wr) (λe _=>(VN e+6).toNat)
  case atStart=>exact ST.o
  case round=>
   obtain⟨k,v,l,rfl,hk,hk6,hV,hM⟩:=hrel;have HVV:=Vs hV;clear hV;have HM:=Vs hM;have HK:=Vs hk;have HYL:=Vs hyl;by_cases hpos:0<k
   ·exact a0f
   ·have hM2:=HM.o;obtain⟨A4,n4,c4,e4⟩:=ng.of hM2.own;subst e4;have hsl:=dd hM2.own rfl;have CT:=Vs (show VJ prog 311 #[VV A4 n4 c4] wr λe w'=>e=V0 (VV A4 (aA l).length c4)/\wr=w' from dF wr _ _ l hsl);have hst:=hsl.trimmed;obtain⟨q,hq⟩:∃q,(aA l).length=q:=⟨_,rfl⟩;have hl51:(aA l).length<=51:=VI (aR _) XA;have hcl:=hM2.num.cell 1;have r1:=hM2.num.p8 (VV A4 q c4);have r2:=hM2.res.dz (p:=⟨w.heap.size+1,1,Vx⟩) Wa (VV A4 q c4);have f1:=hM2.num.frozen 1;have c0:=r1.cell 0;have c1:=r1.cell 1;have d0:=r2.cell 0;have d1:=r2.cell 1;have g0:=r2.frozen 0;have g1:=r2.frozen 1;have r3:=r2.fV (VX Vw) (VV A4 q c4);have HQ0:=Vs (r3.cell 0);have HQ1:=Vs (r3.cell 1);have hxx:Ext w (((wr.setCell ⟨w.heap.size+1,1,Vx⟩ (VV A4 q c4)).setCell ⟨w.heap.size,0,Vx⟩ (VX Vw)).setCell ⟨w.heap.size,1,Vx⟩ (VV A4 q c4)):=((hM2.ext.setCell (p:=⟨w.heap.size+1,1,Vx⟩) Wa _).setCell (p:=⟨w.heap.size,0,Vx⟩) Wa _).setCell (p:=⟨w.heap.size,1,Vx⟩) Wa _;have hfin:Eo z w (V0 (V5 #[VX Vw,VV A4 q c4])) (((wr.setCell ⟨w.heap.size+1,1,Vx⟩ (VV A4 q c4)).setCell ⟨w.heap.size,0,Vx⟩ (VX Vw)).setCell ⟨w.heap.size,1,Vx⟩ (VV A4 q c4)):=by
     refine⟨_,_,aA l,rfl,?_,dq hM2.small,hl51,hxx,λ_=>by rw[eH];have h:=HVV.o;rw[show k.toNat=0 by omega] at h;simpa[cJ] using h⟩;exact a0e
    exact a0d
end
section
open Kp
def GO:(prog.info? 5).map (λi=>(i.zero,i.size,i.bytes))=Vz (Vz (VZ .u8 0),1,1):=V8
def uv(w:Vt)(g:Nat)(l:List Nat):Prop:=
 ∃cur:Array Vy,w.heap[g]?=Vz (.cells cur 5 (0,0))/\cur.size=ln l/\∀j,j<ln l->cur[j]?=Vz (VZ .u8 (fv l j))
theorem uv.lt{l:List Nat}(h:uv w g l):g<w.heap.size:=by
 obtain⟨cur,hh,_⟩:=h;exact(VF.1 hh).1
theorem uv.cell{l:List Nat}(h:uv w g l)(hj:j<ln l):w.cell? ⟨g,j,Vx⟩=Vz (VZ .u8 (fv l j)):=by
 obtain⟨cur,hh,_,hc⟩:=h;simp[World.cell?,hh,hc j hj]
theorem uv.frozen{l:List Nat}(h:uv w g l)(j:Nat):w.frozen? ⟨g,j,Vx⟩=Vw:=by
 obtain⟨cur,hh,_⟩:=h;simp[World.frozen?,hh]
theorem uv.set{l:List Nat}(h:uv w g l)(hj:j<ln l)(x:Nat):uv (w.setCell ⟨g,j,Vx⟩ (VZ .u8 x)) g (l.set j x):=by
 obtain⟨cur,hh,h1,hc⟩:=h;refine⟨cur.setIfInBounds j (VZ .u8 x),?_,by simp[h1],λk hk=> ?_⟩
 ·exact XR
 ·exact XQ
theorem xc{base g n:Nat}(h:w.ownsRow base 5 1 (VV (Vz ⟨g,0,Vx⟩) n n) n (madeCells (Value.int .u8 0).cells (n*1)).toList):uv w g (List.replicate n 0):=by
 obtain⟨hl,h|⟨g',cap',cur,e,hb,hh,h1,h2,h3,h4⟩⟩:=h
 ·obtain⟨h,_⟩:=h;cases h
 ·injection e with e1 e2 e3
  injection e1 with e1
  injection e1 with e1
  subst e1 e3;refine⟨cur,hh,Wf,λj hj=> ?_⟩;simp at hj;have:(madeCells (Value.int .u8 0).cells (n*1)).toList[j]?=Vz (VZ .u8 (fv (List.replicate n 0) j)):=by
   rw[lG];simp[madeCells,Value.cells,hj,Nat.mod_one]
  rw[<-h4,List.getElem?_take,if_pos V7] at this;exact XY
def iG(l:List Nat)(q:Nat):Nat:=
 fv l (q/6)/10^(q%6)
  %10
structure yL(w0:Vt)(g:Nat)(l:List Nat)(d:Nat)(xs:List Nat)(wr:Vt):Prop where
 row:uv wr g xs
 len:ln xs=6*ln l
 iL:∀q,q<d->fv xs (6*ln l-1-q)=48+iG l q
 ext:VS g w0 wr
theorem yL.next{l:List Nat}(h:yL w0 g l d xs wr)(hd:d<6*ln l)(hx:x=48+iG l d)(hj:j=6*ln l-1-d):
  yL w0 g l (d+1) (xs.set j x) (wr.setCell ⟨g,j,Vx⟩ (VZ .u8 (x:Int))):=by
 have hl:=h.len;refine⟨h.row.set V7 x,by rw[List.length_set];exact hl,λq hq=> ?_,h.ext.setCell (p:=⟨g,j,Vx⟩) (Vu _) _⟩;rw[iw V7];by_cases e:q=d
 ·rw[if_pos V7,hx,e]
 ·rw[if_neg V7];exact h.iL q V7
def mC(l:List Nat)(k j:Nat)(hj:j<6):iG l (6*k+j)=fv l k/10^j%10:=by
 unfold iG;rw[show(6*k+j)/6=k by omega,Nat.mul_add_mod,Nat.mod_eq_of_lt hj]
def GI{l:List Nat}(hc:aY l)(hl:0<ln l):∃q,q<6*ln l/\iG l q≠0:=by
 have ht:fv l (ln l-1)≠0:=hc.trim _ (by rw[List.getLast?_eq_getElem?,VA V7,lT V7]);have hs:fv l (ln l-1)<1000000:=aH hc.small _;obtain⟨t,e⟩:∃t,fv l (ln l-1)=t:=⟨_,rfl⟩;rw[e] at ht hs;have key:∃r,r<6/\t/10^r%10≠0:=by
  apply Classical.byContradiction;intro h;have f:∀r,r<6->t/10^r%10=0:=λr hr=>Classical.byContradiction λh2=>h ⟨r,hr,h2⟩
  have f0:=f 0 V9;have f1:=f 1 V9;have f2:=f 2 V9;have f3:=f 3 V9;have f4:=f 4 V9;have f5:=f 5 V9;simp at f0 f1 f2 f3 f4 f5;omega
 obtain⟨r,hr,h⟩:=key;refine⟨6*(ln l-1)+r,V7,?_⟩;rw[mC _ _ _ hr,e];exact h
def SV{t:Nat}(ht:t<1000000)(h:∀r,1<=r->r<6->t/10^r%10=0):t=t/10^0%10:=by
 have f1:=h 1 V9 V9;have f2:=h 2 V9 V9;have f3:=h 3 V9 V9;have f4:=h 4 V9 V9;have f5:=h 5 V9 V9;simp at f1 f2 f3 f4 f5⊢;omega
def Sa{l xs:List Nat}{o:Nat}(hc:aY l)(hd:∀q,q<6*ln l->fv xs (6*ln l-1-q)=48+iG l q)(hb:∀j,j<o->fv xs j=48)(ho:o<6*ln l)(hne:fv xs o≠48):
  (strOfNums ((List.range (6*ln l-o)).map λj=>((fv xs (o+j):Nat):Int))).toList=[49]↔al l=1:=by
 rw[ByteArray.toList_eq,strOfNums_data,List.map_map];constructor
 ·intro h;have hz:6*ln l-o=1:=by simpa using congrArg List.length h
  have h0:=hd 0 V7;rw[show 6*ln l-1-0=o by omega] at h0;rw[hz] at h;have hlt:iG l 0<10:=Nat.mod_lt _ V9;have h1:iG l 0=1:=by
   have h2:UInt8.ofNat (fv xs o)=49:=by simpa[List.range_succ] using h
   have h3:=congrArg UInt8.toNat h2;simp at h3;omega
  have hq:∀q,1<=q->q<6*ln l->iG l q=0:=by
   intro q hq1 hq2;have h2:=hd q hq2;rw[hb _ V7] at h2;omega
  have hlen:ln l=1:=by
   apply Classical.byContradiction;intro hl;have ht:fv l (ln l-1)≠0:=hc.trim _ (by rw[List.getLast?_eq_getElem?,VA V7,lT V7]);apply ht;rw[SV (aH hc.small _) (λr _ hr=>by rw[<-mC l (ln l-1) r hr];exact hq _ V7 V7),<-mC l (ln l-1) 0 V9];exact hq _ V7 V7
  have h2:fv l 0=1:=by
   rw[SV (aH hc.small 0) (λr hr1 hr=>by rw[<-mC l 0 r hr];exact hq _ V7 V7),<-mC l 0 0 V9];exact h1
  match l,hlen with
  |[x],_=>rw[nl];exact h2
 ·intro h;have hlen:ln l=1:=by
   have hne:l≠[]:=by rintro rfl;cases h
   have h1:=sQ hc.trim hne;rw[h] at h1;rcases Nat.lt_or_ge (ln l) 2 with h2|h2
   ·have:=List.length_pos_iff.2 hne;omega
   ·have:B6^1<=B6^(ln l-1):=Nat.pow_le_pow_right V9 V7;have h3:B6^1=1000000:=V9;omega
  match l,hlen with
  |[x],_=>
   rw[nl] at h;subst h;have h5:=hd (5-o) (by show 5-o<6;omega);have ho6:o<6:=ho;rw[show 6*([1]:List Nat).length-1-(5-o)=o from(by show 6-1-(5-o)=o;omega)] at h5;have h6:o=5:=by
    rcases(show o=0\/o=1\/o=2\/o=3\/o=4\/o=5 by omega) with rfl|rfl|rfl|rfl|rfl|rfl
    ·exact absurd h5 (by rw[show iG [1] (5-0)=0 by decide];exact hne)
    ·exact absurd h5 (by rw[show iG [1] (5-1)=0 by decide];exact hne)
    ·exact absurd h5 (by rw[show iG [1] (5-2)=0 by decide];exact hne)
    ·exact absurd h5 (by rw[show iG [1] (5-3)=0 by decide];exact hne)
    ·exact absurd h5 (by rw[show iG [1] (5-4)=0 by decide];exact hne)
    ·rfl
   subst h6;rw[show iG [1] (5-5)=1 by decide] at h5;simp[List.range_succ,h5]
def T2(n:Nat)(s:Bool)(l:List Nat)(w:Vt)(e:Ending)(w':Vt):Prop:=∃t:ByteArray,e=V0 (VW t)/\0<t.size/\t.size<=n/\Ext w w'/\(s=Vw->(t.toList=[49]↔al l=1))
def B4(w:Vt)(s:Bool)(v:Vy)(l:List Nat)(hs:bB w w.heap.size v l)(hc:aY l)(hl:ln l<=100000):
  VJ prog 284 #[V5 #[VX s,v]] w (T2 (6*ln l+1) s l w):=by
 obtain⟨A,ca,rfl,ha1,ha2,hac⟩:=id hs;unfold VP at ha2;by_cases h0:ln l=0
 ·rw[h0];clear hac;go_enter func284,ntmps284;go_wp2_with fail
  go_ret;obtain rfl:l=[]:=List.length_eq_zero_iff.1 h0;exact⟨_,rfl,V9,V9,(Below.refl _ _).alloc (Vu _) _,λ_=>⟨λh=>absurd h (by rw[ByteArray.toList_eq];decide),λh=>Wb⟩⟩
 obtain⟨b,off,rfl,hbw,_⟩:=hac V7;obtain⟨i0,hi,hz0,hz1,hz2⟩:=info_parts GO;obtain⟨p,hp,hpd⟩:=GI hc V7;obtain⟨n,hn⟩:∃n,ln l=n:=⟨_,rfl⟩;have HN:=Vs hn;have HPD:=Vs hpd;have HP:=Vs hp;rw[hn] at ha1 hl h0⊢;have HS:=Vs hs;clear hs hn hpd hp hac;go_enter func284,ntmps284;go_wp2_with(at_make;refine wpList_make_full _ rfl _ _ 119 rfl (w.heap.size+1) 5 i0 (VZ .u8 0) 1 underlying119 hi hz0 hz1 .i64 .i64 _ _ (6*n) rfl rfl V7 V7 XE Wh Wa ?_;intro w1 hown hgrow)
 have hrow:=ai.new w 308 [VX s,VV (Vz ⟨b,off,Vx⟩) n ca];have hb1:VS (w.heap.size+1) (w.alloc (Obj.cells #[VX s,VV (Vz ⟨b,off,Vx⟩) n ca] 308)) w1:=(Below.refl _ _).grown hgrow Wa (λ_ h=>Wb);simp only[VK] at hown⊢;have HBX:=Vs (show ai (w.alloc (Obj.cells #[VX s,VV (Vz ⟨b,off,Vx⟩) n ca] 308)) w.heap.size 308 [VX s,VV (Vz ⟨b,off,Vx⟩) n ca] from hrow);have HX0:=Vs (show VS w.heap.size w (w.alloc (Obj.cells #[VX s,VV (Vz ⟨b,off,Vx⟩) n ca] 308)) from(Below.refl _ _).alloc (Vu _) _);obtain⟨w0,hw0⟩:∃w0,w.alloc (Obj.cells #[VX s,VV (Vz ⟨b,off,Vx⟩) n ca] 308)=w0:=⟨_,rfl⟩;rw[hw0] at hb1 HBX HX0;have ST:=Vs (show yL w0 (w.heap.size+1) l (6*0) (List.replicate (6*n) 0) w1 from⟨xc hown,by rw[List.length_replicate,HN.o],λq hq=>V7,hb1⟩);clear hown hgrow hrow hb1 hw0 hi hz0 hz1 hz2;go_loopw [4] (λi wr=>∃(k:Nat) (xs:List Nat),k<=n/\i=VZ VH (k:Int)/\yL w0 (w.heap.size+1) l (6*k) xs wr) (λi _=>n-(VN i).toNat)
 case atStart=>exact⟨0,_,V7,rfl,ST.o⟩
 case round=>
  obtain⟨i,xs,hi,rfl,hW⟩:=hrel;have hbx:=HBX.o.below hW.ext (Nat.lt_succ_self _);have hc1:=hbx.cell 1;have HW:=Vs hW;by_cases hlt:i<n
  ·exact a0m
  ·obtain rfl:i=n:=V7;have hc0:=hbx.cell 0;have hxw:Ext w wr:=HX0.o.trans (hW.ext.mono V7);have HXW:=Vs hxw;obtain⟨P,hP⟩:∃P,6*i-1-p=P:=⟨_,rfl⟩;have hPl:P<6*i:=by have:=HP.o;rw[HN.o] at this;omega
   have HPV:=Vs (show fv xs P≠48 by
    have:=hW.iL p (by have:=HP.o;rwa[HN.o] at this);rw[HN.o,hP] at this;rw[this];have:=HPD.o;omega)
   clear hW hbx hxw hP;go_wp2_with fail
   go_loopw [3] (λv wi=>∃o:Nat,o<=P/\v=VV (Vz ⟨w.heap.size+1,o,Vx⟩) (6*i-o) (6*i-o)/\(∀j,j<o->fv xs j=48)/\wi=wr) (λv _=>Jh v)
   case atStart=>exact⟨0,V7,rfl,λj hj=>V7,rfl⟩
   case round=>
    obtain⟨o,ho,rfl,hbo,rfl⟩:=hrel;have HBO:=Vs hbo;clear hbo;have hol:o<ln xs:=by rw[HW.o.len,HN.o];omega
    have hco:=HW.o.row.cell hol;obtain⟨y,hy⟩:∃y,fv xs o=y:=⟨_,rfl⟩;rw[hy] at hco;have HO:=Vs hy;obtain⟨z,hz⟩:∃z,6*i-o=z:=⟨_,rfl⟩;have HZ:=Vs hz;rw[hz];have hz1:1<=z:=V7;clear hol hy;by_cases h48:y=48
    ·exact a0l
    ·obtain⟨ns,hns⟩:∃ns,(List.range z).map (λj=>((fv xs (o+j):Nat):Int))=ns:=⟨_,rfl⟩;have hnl:ln ns=z:=by rw[<-hns];simp
     have hcv:=run_convert_bytes_arg (P:=prog) wr 119 5 underlying119 underlying5 (w.heap.size+1) o z z ns hnl (λj hj=>by
      rw[HW.o.row.cell (by rw[HW.o.len,HN.o];omega),<-hns];simp[List.getD,hj]) 9 underlying9
     obtain⟨S,hS⟩:∃S,strOfNums ns=S:=⟨_,rfl⟩;have HSZ:=Vs (show S.size=z by rw[<-hS,strOfNums_size,hnl]);rw[hS] at hcv;have HZB:=Vs (show z<=6*i by omega);have HON:=Vs (show S.toList=[49]↔al l=1 by
      have h:=Sa (o:=o) hc (λq hq=>HW.o.iL q (by rwa[HN.o] at hq)) HBO.o (by rw[HN.o];omega) (by rw[HO.o];exact h48);rw[HN.o,hz,hns,hS] at h;exact h)
     clear hz hns hnl hS;cases s with
     |false=>
      go_wp2;refine bodyPost_ret (v:= VW S) (by simp[results,results284,go_sem]) rfl ?_;exact⟨S,rfl,by rw[HSZ.o];exact hz1,by rw[HSZ.o];have:=HZB.o;omega,HXW.o,λ_=>HON.o⟩
     |true=>
      have hsz:=HSZ.o;have hzb:z<=600000:=by have:=HZB.o;omega
      go_wp2;refine bodyPost_ret (v:= VW (⟨#[45]⟩++S)) (by simp[results,results284,go_sem]) rfl ?_;exact⟨_,rfl,by rw[ByteArray.size_append,HSZ.o];omega,by rw[ByteArray.size_append,HSZ.o];have:=HZB.o;show 1+z<=_;omega,HXW.o,λh=>Wb⟩
end
section
open Kp
def U5(w:Vt)(a b:List Nat)(v c i:Vy)(wr:Vt):Prop:=
 ∃k:Nat,k<=max (ln a) (ln b)+1/\i=VZ VH (k:Int)/\c=VZ VH ((dJ a b k).2:Int)/\wr.ownsRow w.heap.size 3 1 v k (sZ (bV (dJ a b) k))/\Ext w wr
def Mv{a b:List Nat}(ha:kL a)(hb:kL b):(dJ a b (max (ln a) (ln b)+1)).2=0:=by
 show(fv a (max (ln a) (ln b))+fv b (max (ln a) (ln b))+(dJ a b (max (ln a) (ln b))).2)/1000000=0;rw[mL V7,mL V7];have:=(yU ha hb (max (ln a) (ln b))).1;omega
end
section
open Kp
theorem Qo.of{v:Vy}{l:List Nat}(h1:bB w' w'.heap.size v l)(h2:aY l)(h3:ln l<=n)(h4:Ext w w'):Qo n w (V0 (V5 #[VX s,v])) w':=⟨s,v,l,rfl,h1,h2,h3,h4⟩
theorem lY{l:List Nat}{v v0:Vy}(h:bB w w.heap.size v l)(hr:ai w b 308 [VX s,v0])(hv:∀x,v0≠ VZ VH x)(i:Nat)(x:Vy):
  bB (w.setCell ⟨b,i,Vx⟩ x) (w.setCell ⟨b,i,Vx⟩ x).heap.size v l:=by
 obtain⟨A,cap,rfl,h1,h2,hc⟩:=h;refine⟨A,cap,rfl,h1,h2,λhn=> ?_⟩;obtain⟨b',off,e,hb,hcell⟩:=hc hn;refine⟨b',off,e,by simpa[World.setCell] using hb,λj hj=> ?_⟩;by_cases hbb:b'=b
 ·exfalso;subst hbb;have h5:=hcell j hj;rw[hr.cell] at h5;rcases(show off+j=0\/off+j=1\/2<=off+j by omega) with h6|h6|h6
  ·rw[h6] at h5;simp at h5
  ·rw[h6] at h5;simp at h5;exact hv _ h5
  ·rw[List.getElem?_eq_none (by simpa using h6)] at h5;cases h5
 ·rw[World.cell?_of_block (w:=w) (Below.heap_setCell _ _ _ _ hbb)];exact hcell j hj
def gK(A:Option VT)(n c:Nat):∀x,Value.slice A n c≠ VZ VH x:=λ_ h=>Wb
end
section
open Kp
def MD(a b:List Nat)(k:Nat):S6 (fv (bV (dJ a b) k)) k+(dJ a b k).2*B6^k=S6 (fv a) k+S6 (fv b) k:=by
 induction k with
 |zero=>rfl
 |succ k ih=>
  have e:S6 (fv (bV (dJ a b) (k+1))) k=S6 (fv (bV (dJ a b) k)) k:=jx λi hi=>by
   exact YS
  have e2:fv (bV (dJ a b) (k+1)) k=(dJ a b (k+1)).1:=by
   exact YR
  rw[cP,cP,cP,e,e2,Nat.pow_succ];have h:(dJ a b (k+1)).1+(dJ a b (k+1)).2*1000000=fv a k+fv b k+(dJ a b k).2:=by
   show(fv a k+fv b k+(dJ a b k).2)%1000000+(fv a k+fv b k+(dJ a b k).2)/1000000*1000000=_;omega
  have h3:=congrArg (· *B6^k) h;simp only[Nat.add_mul] at h3;have h4:(dJ a b (k+1)).2*(B6^k*B6)=(dJ a b (k+1)).2*1000000*B6^k:=by
   show _=(dJ a b (k+1)).2*B6*B6^k;rw[VL (B6^k) B6,<-Nat.mul_assoc]
  rw[h4];generalize(dJ a b (k+1)).2*1000000*B6^k=u at *;generalize(dJ a b (k+1)).1*B6^k=v at *;generalize fv a k*B6^k=p at *;generalize fv b k*B6^k=q at *;generalize(dJ a b k).2*B6^k=r at *;omega
theorem IJ{a b:List Nat}(h1:ln a<=k)(h2:ln b<=k)(h3:(dJ a b k).2=0):al (aA (bV (dJ a b) k))=al a+al b:=by
 have h:=MD a b k;rw[eH];have e1:S6 (fv (bV (dJ a b) k)) k=al (bV (dJ a b) k):=fJ (Nat.le_of_eq (bn _ _));rw[e1,fJ h1,fJ h2,h3] at h;omega
def kO(s:Bool)(l:List Nat):Int:=if s then -(al l:Int) else al l
def OP{m:Bool}{a b l:List Nat}(h:al l=al a+al b):kO m l=kO m a+kO m b:=by
 cases m<;>simp[kO]<;>omega
def OK{mx my:Bool}{x y l:List Nat}(hm:mx≠my)(hv:al y<=al x)(h:al l=al x-al y):kO mx l=kO mx x+kO my y:=by
 cases mx<;>cases my<;>simp[kO] at hm⊢ <;>omega
theorem Og{a b l:List Nat}(hm:(m1==m2)= !mm)(h:al l=al a*al b):kO mm l=kO m1 a*kO m2 b:=by
 cases m1<;>cases m2<;>cases mm<;>simp[kO] at hm⊢ <;>rw[h]<;>simp[Int.neg_mul,Int.mul_neg]
def pO(z:Int)(n:Nat)(w:Vt)(e:Ending)(w':Vt):Prop:=∃s v l,e=V0 (V5 #[VX s,v])/\bB w' w'.heap.size v l/\aY l/\ln l<=n/\kO s l=z/\Ext w w'
theorem pO.of{z:Int}{v:Vy}{l:List Nat}(h1:bB w' w'.heap.size v l)(h2:aY l)(h3:ln l<=n)(h5:kO s l=z)(h4:Ext w w'):pO z n w (V0 (V5 #[VX s,v])) w':=⟨s,v,l,rfl,h1,h2,h3,h5,h4⟩
def I4(w:Vt)(a b:List Nat)(va vb:Vy)(ha:bB w w.heap.size va a)(hb:bB w w.heap.size vb b)(hsa:kL a)(hsb:kL b)(hla:ln a<=1000000)(hlb:ln b<=1000000):
  VJ prog 341 #[va,vb] w (xq (λl=>ln l<=max (ln a) (ln b)+1/\al l=al a+al b) w):=by
 obtain⟨i0,hi0,hz0,hz1,hz2⟩:=info_parts eA;have I0:=Vs hi0;have I1:=Vs hz0;have I2:=Vs hz1;have I3:=Vs hz2;have HA:=Vs ha;have HB:=Vs hb;obtain⟨A,ca,rfl,ha1,ha2,_⟩:=id ha;obtain⟨B',cb,rfl,hb1,hb2,_⟩:=id hb;have HC:=Vs (λn=>dq (pA (λk=>(yU hsa hsb k).2) n));have HM:=Vs (λk=>yU hsa hsb k);have HE:=Vs (Mv hsa hsb);have HSA:=Vs hsa;have HSB:=Vs hsb;unfold VP at ha2 hb2;clear ha hb hi0 hz0 hz1 hz2 hsa hsb;go_enter func341,ntmps341;go_wp2;go_loopw [5,6,7] (λv c i wr=>U5 w a b v c i wr) (λ_ _ i _=>((max (ln a) (ln b)+1:Nat)-VN i).toNat)
 case atStart=>exact⟨0,V7,rfl,rfl,xk _ _,(Below.refl _ _).alloc (Vu _) _⟩
 case round=>
  obtain⟨k,hk,rfl,rfl,hown,hX⟩:=hrel;have HO:=Vs hown;have HX:=Vs hX;have hs1:=(HA.o.below hX);have hs2:=(HB.o.below hX);have hbase:=hX.size;clear hown hX;by_cases hgo:k<ln a\/k<ln b\/0<(dJ a b k).2
  ·have C1:=Vs (mW wr _ _ a k hs1 V7);have C2:=Vs (mW wr _ _ b k hs2 V7);have hkn:k+1<=max (ln a) (ln b)+1:=by
    rcases Nat.lt_or_ge k (max (ln a) (ln b)+1) with h|h
    ·omega
    ·have e:k=max (ln a) (ln b)+1:=V7;rw[e,HE.o] at hgo;omega
   have HR:=Vs (en (dJ a b) k);have hx1:(dJ a b (k+1)).1=(fv a k+fv b k+(dJ a b k).2)%1000000:=rfl;have hx2:(dJ a b (k+1)).2=(fv a k+fv b k+(dJ a b k).2)/1000000:=rfl;have hxa:fv a k<1000000:=aH HSA.o k;have hxb:fv b k<1000000:=aH HSB.o k;have hxc:=(HM.o k).1;obtain⟨p,hp⟩:∃x,fv a k=x:=⟨_,rfl⟩;obtain⟨r,hr⟩:∃x,fv b k=x:=⟨_,rfl⟩;obtain⟨c,hc⟩:∃x,(dJ a b k).2=x:=⟨_,rfl⟩;obtain⟨x,hx⟩:∃x,(dJ a b (k+1)).1=x:=⟨_,rfl⟩;obtain⟨y,hy⟩:∃y,(dJ a b (k+1)).2=y:=⟨_,rfl⟩;rw[hx,hp,hr,hc] at hx1;rw[hy,hp,hr,hc] at hx2;rw[hp] at C1 hxa;rw[hr] at C2 hxb;rw[hc] at hxc hgo;rw[hc];rw[hx] at HR;have HY:=Vs hy;have hbase1:w.heap.size<=(wr.alloc (.cells #[VZ VH (x:Int)] 3)).heap.size:=Wf;have HOX:=Vs (aO HO.o ((Below.refl _ _).alloc (Vu _) (.cells #[VZ VH (x:Int)] 3)));obtain⟨vs,hvs⟩:∃vs,sZ (bV (dJ a b) k)=vs:=⟨_,rfl⟩;rw[hvs] at HO HOX;have HVS:=Vs hvs;have e1:((p:Int)+r+c)%1000000=(x:Int):=V7;have e2:((p:Int)+r+c)/1000000=(y:Int):=V7;have HK:=Vs hkn;have ARM:=Vs (show∀(v':Vy) (w':Vt),w'.ownsRow w.heap.size 3 1 v' (k+1) (vs++[VZ VH (x:Int)])->(wr.alloc (.cells #[VZ VH (x:Int)] 3)).grownBy w' u5.ownBlock->U5 w a b v' (VZ VH (y:Int)) (VZ VH ((k:Int)+1)) w' fromλv' w' hown' hgr'=>by
    refine⟨k+1,HK.o,Wa,by rw[HY.o],?_,ei (HX.o.alloc HX.o.size _) hgr' (λq hq=>(az HO.o q hq).1)⟩;have e:sZ (bV (dJ a b) (k+1))=vs++[VZ VH (x:Int)]:=Xk;rw[e];exact hown')
   have hkb:k<=1000000:=V7;have hmx:((max (ln a) (ln b)+1:Nat):Int)-k>=1:=V7;clear hs1 hs2 hp hr hc hx hy hvs hx1 hx2 HR hkn hk;have ga:∃t,decide (k<ln a)=t:=⟨_,rfl⟩;obtain⟨ta,hta⟩:=ga;obtain⟨tb,htb⟩:∃t,decide (k<ln b)=t:=⟨_,rfl⟩;have htc:ta=Vw->tb=Vw->decide (0<c)=VD:=by
    intro h1 h2;subst h1 h2;rw[decide_eq_false_iff_not] at hta htb;rw[decide_eq_true_eq];omega
   have HTC:=Vs htc;clear htc hgo;cases ta
   ·cases tb
    ·have tc:=HTC.o rfl rfl;have tc2:decide (0<(c:Int))=VD:=by rw[decide_eq_true_eq] at tc⊢;omega
     exact a0I
    ·exact a0I
   ·exact a0I
  ·have g1:¬k<ln a:=V7;have g2:¬k<ln b:=V7;have hsn:=dd HO.o (bn (dJ a b) k);have CT:=Vs (dF wr wr.heap.size u5 (bV (dJ a b) k) hsn);have HS:=Vs (show xq (λl=>ln l<=max (ln a) (ln b)+1/\al l=al a+al b) w (V0 (Mn u5 (bV (dJ a b) k))) wr from⟨_,_,rfl,hsn.trimmed,HC.o _,⟨VI (aR _) (by rw[bn];exact hk),IJ V7 V7 V7⟩,HX.o,(DL HO.o).tr _⟩);obtain⟨c,hc⟩:∃x,(dJ a b k).2=x:=⟨_,rfl⟩;rw[hc] at hgo;rw[hc];have g3:¬0<(c:Int):=V7;clear hsn hs1 hs2 hc hgo;exact a0a
def wk(w:Vt)(s:Bool)(v:Vy)(l:List Nat)(n:Nat)(hs:bB w w.heap.size v l)(hc:aY l)(hl:ln l<=n):
  VJ prog 308 #[V5 #[VX s,v]] w (pO (-(kO s l)) n w):=by
 obtain⟨A,ca,rfl,ha1,ha2,hac⟩:=id hs;have HS:=Vs (λo1 o2=>(hs.new o1).new o2);clear hac hs;by_cases h0:ln l=0
 ·obtain rfl:l=[]:=List.length_eq_zero_iff.1 h0;go_enter func308,ntmps308;go_wp2_with fail
  exact bodyPost_ret (v:= V5 #[VX s,VV A 0 ca]) (by simp[results,results308,go_sem]) rfl (pO.of (HS.o _ _) hc hl (by cases s<;>rfl) (fh _ _ _))
 ·go_enter func308,ntmps308;go_wp2_with fail
  exact bodyPost_ret (v:= V5 #[VX !s,VV A (ln l) ca]) (by simp[results,results308,go_sem]) rfl (pO.of (HS.o _ _) hc hl (by cases s<;>simp[kO]) (fh _ _ _))
def nG(p0 q1 q2:Nat)(m:Bool)(v1 v2:Vy)(P:List Nat->Prop):Nat->Vy->Vt->Prop
 |0,v,_=>v=VY (Vz ⟨p0,0,Vx⟩)
 |1,v,_=>v=VX m
 |2,v,_=>v=VY (Vz ⟨q1,1,Vx⟩)
 |3,v,_=>v=v1
 |4,v,_=>v=VY (Vz ⟨q2,1,Vx⟩)
 |5,v,_=>v=v2
 |6,v,w=>∃l,bB w w.heap.size v l/\aY l/\P l
 |7,v,w=>∃A c l,v=V5 #[VX m,VV A (List.length l) c]/\bB w w.heap.size (VV A (ln l) c) l/\aY l/\P l
 |_,v,w=>∃b,v=VY (Vz ⟨b,0,Vx⟩)/\q2+1<b/\ai w b 308 [VX Vw,VV Vx 0 0]
theorem uL{p0 q1 q2:Nat}{m:Bool}{P:List Nat->Prop}{v:Vy}(h:nG p0 q1 q2 m v1 v2 P i v w)(hx:Ext w w'):nG p0 q1 q2 m v1 v2 P i v w':=by
 match i,h with
 |0,h|1,h|2,h|3,h|4,h|5,h=>exact h
 |6,h=>obtain⟨l,h1,h2⟩:=h;exact⟨l,h1.grow hx,h2⟩
 |7,h=>obtain⟨A,c,l,e,h1,h2⟩:=h;exact⟨A,c,l,e,h1.grow hx,h2⟩
 |_+8,h=>obtain⟨b,e,hb,h⟩:=h;exact⟨b,e,hb,h.ext hx⟩
def Bh (w : Vt) (m : Bool) (a b : List Nat) (va vb : Vy) (n : Nat) (ha : bB w w.heap.size va a) (hb : bB w w.heap.size vb b) (hca : aY a) (hcb : aY b) (hla : ln a <= n) (hlb : ln b <= n) (hn : n <= 400000) :
    VJ prog 307 #[V5 #[VX m, va], V5 #[VX m, vb]] w (pO (kO m a + kO m b) (n + 1) w) := by
  have HA := Vs ha;have HB := Vs hb;have E3 := Vs (AU w (.cells #[VX m, va] 308) (.cells #[VX m, vb] 308) (.cells #[VX Vw, VV Vx 0 0] 308));have R1 := (ai.new w 308 [VX m, va]).ext (fh _ (.cells #[VX m, vb] 308) (.cells #[VX Vw, VV Vx 0 0] 308));have R2 := (ai.new (w.alloc (.cells #[VX m, va] 308)) 308 [VX m, vb]).ext ((Below.refl _ _).alloc (Vu _) (.cells #[VX Vw, VV Vx 0 0] 308));have R3 := ai.new ((w.alloc (.cells #[VX m, va] 308)).alloc (.cells #[VX m, vb] 308)) 308 [VX Vw, VV Vx 0 0];rw [VK] at R2;rw [VK, VK] at R3;obtain ⟨A, ca, rfl, _, _, _⟩ := id ha;obtain ⟨A', cb, rfl, _, _, _⟩ := id hb;obtain ⟨W0, hW0⟩ : ∃ W0, ((w.alloc (.cells #[VX m, VV A (ln a) ca] 308)).alloc (.cells #[VX m, VV A' (ln b) cb] 308)).alloc (.cells #[VX Vw, VV Vx 0 0] 308) = W0 := ⟨_, rfl⟩;rw [hW0] at E3 R1 R2 R3;have KC := Vs (λ(W : Vt) (h : Ext w W) => (I4 W a b (VV A (ln a) ca) (VV A' (ln b) cb) (HA.o.grow h) (HB.o.grow h) hca.small hcb.small V7 V7).mono (λe w' ⟨v, l, h1, h2, h3, h4, h5, _⟩ => (⟨v, l, h1, h2, h3, ⟨VI h4.1 V7, h4.2⟩, h5⟩ : ∃ v l, e = Ending.returned v /\ bB w' w'.heap.size v l /\ aY l /\ (ln l <= n + 1 /\ al l = al a + al b) /\ Ext W w')));have tm : (m == m) = VD := Wa;have HW0 := Vs hW0;clear hW0 ha hb hca hcb hla hlb;go_enter func307, ntmps307;go_wp2;simp only [HW0.o];refine wp_region_any V8 (bO 8 (λvs => ⟨#[V5 #[VX m, VV A (ln a) ca], V5 #[VX m, VV A' (ln b) cb], VY (Vz ⟨w.heap.size, 0, Vx⟩), VY (Vz ⟨w.heap.size + 1, 0, Vx⟩), VY (Vz ⟨w.heap.size + 1 + 1, 0, Vx⟩), VB, VY (Vz ⟨w.heap.size, 0, Vx⟩), VX m, VY (Vz ⟨w.heap.size + 1, 0, Vx⟩), VX m, VX VD, vs 0, vs 1, vs 2, vs 3, vs 4, vs 5, vs 6, vs 7, VB, VB, VB, VB, VB, VB, VB, VB, VB, VB, VB, VB, VB, VB, VB, VB, VB, VB, VB, VB, VB, VB], []⟩)
    (λw' => Ext W0 w') (nG (w.heap.size) (w.heap.size) (w.heap.size + 1) m (VV A (ln a) ca) (VV A' (ln b) cb) (λl => ln l <= n + 1 /\ al l = al a + al b)) (λ_ => Vw) V8 (λ_ _ h k => h.tr k) (λi v _ _ h k => uL h k) (λ_ _ _ _ h => Wb) ?step ?tail (λ_ => VB) _ (Ext.dr W0))
  case step =>
    intro i vs w' hi hD hd;have hw0 : Ext W0 w' := hD;have cA := λi => (R1.ext hw0).cell i
    have cB := λi => (R2.ext hw0).cell i
    rcases (show i = 0 \/ i = 1 \/ i = 2 \/ i = 3 \/ i = 4 \/ i = 5 \/ i = 6 \/ i = 7 by omega) with rfl | rfl | rfl | rfl | rfl | rfl | rfl | rfl <;> clear hi
    all_goals refine VE rfl (λK hK => ?_)
    all_goals try (have d0 := hd 0 Wu; simp only [nG] at d0)
    all_goals try (have d1 := hd 1 Wu; simp only [nG] at d1)
    all_goals try (have d2 := hd 2 Wu; simp only [nG] at d2)
    all_goals try (have d3 := hd 3 Wu; simp only [nG] at d3)
    all_goals try (have d4 := hd 4 Wu; simp only [nG] at d4)
    all_goals try (have d5 := hd 5 Wu; simp only [nG] at d5)
    all_goals try (have x6 := hd 6 Wu; obtain ⟨l6, h6, hc6, hl6⟩ := x6; obtain ⟨A6, c6, e6, _, _, _⟩ := id h6; have H6 := Vs h6)
    all_goals clear hd
    all_goals go_simp
    all_goals first
      | exact hK _ _ ⟨_, WZ, Ext.aC _, rfl, λh => Wb⟩
      | (refine (KC.o _ (E3.o.tr hw0)).mono ?_
         rintro e W4 ⟨v, l4, rfl, hs, hc, hl, hX⟩;exact hK _ _ ⟨v, WZ, hX, ⟨l4, hs, hc, hl⟩, λh => Wb⟩)
      | exact hK _ _ ⟨V5 #[VX m, VV A6 (ln l6) c6], WZ, Ext.aC _, ⟨A6, c6, l6, rfl, e6 ▸ H6.o, hc6, hl6⟩, λh => Wb⟩
  case tail =>
    intro vs w' hD hv _;have hw0 : Ext W0 w' := hD;obtain ⟨A7, c7, l7, e7, hs, hc7, hl7⟩ := hv 7 V9;have HS := Vs hs;have r3 := R3.ext hw0;have c0 := r3.cell 0;have c1 := r3.cell 1;have f0 := r3.frozen 0;have f1 := r3.frozen 1;have HR3 := Vs r3;clear hv hs r3;simp only [List.drop_succ_cons, List.drop_zero];go_wp2;have r4 := HR3.o.fV (VX m) (VV A7 (ln l7) c7);have q0 := r4.cell 0;have q1 := r4.cell 1;exact bodyPost_ret (v := V5 #[VX m, VV A7 (ln l7) c7]) (by simp [results, results307, go_sem, q0, q1]) rfl (pO.of (lY (lY HS.o HR3.o (gK _ _ _) _ _) (HR3.o.mD _) (gK _ _ _) _ _) hc7 hl7.1 (OP hl7.2) (((E3.o.tr hw0).setCell (p := ⟨w.heap.size + 1 + 1, 0, Vx⟩) Wp _).setCell (p := ⟨w.heap.size + 1 + 1, 1, Vx⟩) Wp _))
def TR(w W:Vt)(n:Nat)(z:Int):Prop:=∃(mx my:Bool) (x y:List Nat) (Ax Ay:Option VT) (cx cy:Nat),ai W w.heap.size 308 [VX mx,VV Ax (ln x) cx]/\ai W (w.heap.size+1) 308 [VX my,VV Ay (ln y) cy]/\
 ai W (w.heap.size+1+1) 308 [VX Vw,VV Vx 0 0]/\Ext w W/\bB w w.heap.size (VV Ax (ln x) cx) x/\bB w w.heap.size (VV Ay (ln y) cy) y/\kL x/\kL y/\ln x<=n/\al y<=al x/\ln y<=ln x/\mx≠my/\kO mx x+kO my y=z
def AF (w : Vt) (m1 m2 : Bool) (a b : List Nat) (va vb : Vy) (n : Nat) (ha : bB w w.heap.size va a) (hb : bB w w.heap.size vb b) (hca : aY a) (hcb : aY b) (hla : ln a <= n) (hlb : ln b <= n) (hn : n <= 400000) (hm : m1 ≠ m2) :
    VJ prog 307 #[V5 #[VX m1, va], V5 #[VX m2, vb]] w (pO (kO m1 a + kO m2 b) (n + 1) w) := by
  have HA := Vs ha;have HB := Vs hb;have E3 := Vs (AU w (.cells #[VX m1, va] 308) (.cells #[VX m2, vb] 308) (.cells #[VX Vw, VV Vx 0 0] 308));have R1 := (ai.new w 308 [VX m1, va]).ext (fh _ (.cells #[VX m2, vb] 308) (.cells #[VX Vw, VV Vx 0 0] 308));have R2 := (ai.new (w.alloc (.cells #[VX m1, va] 308)) 308 [VX m2, vb]).ext ((Below.refl _ _).alloc (Vu _) (.cells #[VX Vw, VV Vx 0 0] 308));have R3 := ai.new ((w.alloc (.cells #[VX m1, va] 308)).alloc (.cells #[VX m2, vb] 308)) 308 [VX Vw, VV Vx 0 0];rw [VK] at R2;rw [VK, VK] at R3;obtain ⟨A, ca, rfl, _, _, _⟩ := id ha;obtain ⟨A', cb, rfl, _, _, _⟩ := id hb;obtain ⟨W0, hW0⟩ : ∃ W0, ((w.alloc (.cells #[VX m1, VV A (ln a) ca] 308)).alloc (.cells #[VX m2, VV A' (ln b) cb] 308)).alloc (.cells #[VX Vw, VV Vx 0 0] 308) = W0 := ⟨_, rfl⟩;rw [hW0] at E3 R1 R2 R3;have KS := Vs (uj W0 a b _ _ (HA.o.grow E3.o) (HB.o.grow E3.o) hca hcb);have tm : (m1 == m2) = Vw := by rw [beq_eq_false_iff_ne]; exact hm
  have HW0 := Vs hW0;have HCA := Vs hca;have HCB := Vs hcb;have HM := Vs hm;have HR1 := Vs R1;have HR2 := Vs R2;have HR3 := Vs R3;clear hW0 ha hb hca hcb hm R1 R2 R3;go_enter func307, ntmps307;go_wp2_with (go_at_call 316; rw [HW0.o]; go_must (refine KS.o.mono ?_); rintro e X0 ⟨⟨c, rfl, hc1, hc2⟩, hX0⟩; have HC1 := Vs hc1; have HC2 := Vs hc2; clear hc1 hc2; have HX0 := Vs hX0; have cA0 := (HR1.o.ext hX0).cell 0; have cA1 := (HR1.o.ext hX0).cell 1; have cB0 := (HR2.o.ext hX0).cell 0; have cB1 := (HR2.o.ext hX0).cell 1; have fA := λi => (HR1.o.ext hX0).frozen i; have fB := λi => (HR2.o.ext hX0).frozen i; clear hX0)
  case' _ =>
    have KEY : TR w (((((X0.setCell ⟨w.heap.size, 0, Vx⟩ (VX m2)).setCell ⟨w.heap.size, 1, Vx⟩ (VV A' (ln b) cb)).setCell ⟨w.heap.size + 1, 0, Vx⟩ (VX m1)).setCell ⟨w.heap.size + 1, 1, Vx⟩ (VV A (ln a) ca))) n (kO m1 a + kO m2 b) := by
      have hlt := HC1.o Xg;have x1 := HR1.o.ext HX0.o;have x2 := HR2.o.ext HX0.o;have x3 := HR3.o.ext HX0.o;exact ⟨m2, m1, b, a, A', A, cb, ca, ((x1.fV _ _).dz Wa _).dz Wa _, ((x2.dz Wa _).dz Wa _).fV _ _, (((x3.dz Wp _).dz Wp _).dz Wa _).dz Wa _,
        ((((E3.o.tr HX0.o).setCell (p := ⟨w.heap.size, 0, Vx⟩) Wa _).setCell (p := ⟨w.heap.size, 1, Vx⟩) Wa _).setCell (p := ⟨w.heap.size + 1, 0, Vx⟩) Wa _).setCell (p := ⟨w.heap.size + 1, 1, Vx⟩) Wa _, HB.o, HA.o, HCB.o.small, HCA.o.small, hlb, Nat.le_of_lt hlt, kq HCA.o HCB.o.small (Nat.le_of_lt hlt), HM.o.symm, Int.add_comm _ _⟩
    generalize (((X0.setCell ⟨w.heap.size, 0, Vx⟩ (VX m2)).setCell ⟨w.heap.size, 1, Vx⟩ (VV A' (ln b) cb)).setCell ⟨w.heap.size + 1, 0, Vx⟩ (VX m1)).setCell ⟨w.heap.size + 1, 1, Vx⟩ (VV A (ln a) ca) = W1 at KEY ⊢
  rotate_left
  case' _ =>
    have KEY : TR w X0 n (kO m1 a + kO m2 b) := have hge := HC2.o Xg
      ⟨m1, m2, a, b, A, A', ca, cb, HR1.o.ext HX0.o, HR2.o.ext HX0.o, HR3.o.ext HX0.o, E3.o.tr HX0.o, HA.o, HB.o, HCA.o.small, HCB.o.small, hla, hge.1, hge.2, HM.o, rfl⟩
    generalize X0 = W1 at KEY ⊢
  all_goals
    obtain ⟨mx, my, x, y, Ax, Ay, cx, cy, R1, R2, R3, hW1, hx, hy, hsx, hsy, hlx, hvyx, hlyx, hmne, hsum⟩ := KEY;have HX := Vs hx;have HY := Vs hy;have E1 := Vs hW1;have KC := Vs (λ(W : Vt) (h : Ext w W) => (n8 W x y (VV Ax (ln x) cx) (VV Ay (ln y) cy) (HX.o.grow h) (HY.o.grow h) hsx hsy V7).mono (λe w' ⟨v, l, h1, h2, h3, h4, h5, _⟩ => (⟨v, l, h1, h2, h3, ⟨by rw [h4]; exact VI (aR _) (by rw [bn]; omega), by rw [h4]; exact pE hsx hsy hlyx hvyx⟩, h5⟩ : ∃ v l, e = Ending.returned v /\ bB w' w'.heap.size v l /\ aY l /\ (ln l <= n + 1 /\ al l = al x - al y) /\ Ext W w')));have HSM := Vs (λ(l : List Nat) (h : al l = al x - al y) => (show kO mx l = kO m1 a + kO m2 b by rw [<- hsum]; exact OK hmne hvyx h));clear hx hy hsx hsy hvyx hlyx hmne hsum hW1 hlx hla hlb KS HA HB HR1 HR2 HR3 HCA HCB HW0 E3
    first
      | refine wp_region_any V8 (bO 9 (λvs => ⟨#[V5 #[VX m1, VV A (ln a) ca], V5 #[VX m2, VV A' (ln b) cb], VY (Vz ⟨w.heap.size, 0, Vx⟩), VY (Vz ⟨w.heap.size + 1, 0, Vx⟩), VY (Vz ⟨w.heap.size + 1 + 1, 0, Vx⟩), vs 8, VY (Vz ⟨w.heap.size, 0, Vx⟩), VX m1, VY (Vz ⟨w.heap.size + 1, 0, Vx⟩), VX m2, VX Vw, VB, VB, VB, VB, VB, VB, VB, VB, VY (Vz ⟨w.heap.size, 1, Vx⟩), VV A (ln a) ca, VY (Vz ⟨w.heap.size + 1, 1, Vx⟩), VV A' (ln b) cb, VZ VH c, VX (decide (c < 0)), VB, VB, vs 0, vs 1, vs 2, vs 3, vs 4, vs 5, vs 6, vs 7, VB, VB, VB, VB, VB, VB], []⟩)
          (λw' => Ext W1 w') (nG (w.heap.size) (w.heap.size) (w.heap.size + 1) mx (VV Ax (ln x) cx) (VV Ay (ln y) cy) (λl => ln l <= n + 1 /\ al l = al x - al y)) (λi => i == 8) V8 (λ_ _ h k => h.tr k) (λi v _ _ h k => uL h k) ?fr ?step ?tail (λ_ => VB) _ (Ext.dr W1))
      | refine wp_region_any V8 (bO 9 (λvs => ⟨#[V5 #[VX m1, VV A (ln a) ca], V5 #[VX m2, VV A' (ln b) cb], VY (Vz ⟨w.heap.size, 0, Vx⟩), VY (Vz ⟨w.heap.size + 1, 0, Vx⟩), VY (Vz ⟨w.heap.size + 1 + 1, 0, Vx⟩), vs 8, VY (Vz ⟨w.heap.size, 0, Vx⟩), VX m1, VY (Vz ⟨w.heap.size + 1, 0, Vx⟩), VX m2, VX Vw, VB, VB, VB, VB, VB, VB, VB, VB, VY (Vz ⟨w.heap.size, 1, Vx⟩), VV A (ln a) ca, VY (Vz ⟨w.heap.size + 1, 1, Vx⟩), VV A' (ln b) cb, VZ VH c, VX (decide (c < 0)), V5 #[VX m2, VV A' (ln b) cb], V5 #[VX m1, VV A (ln a) ca], vs 0, vs 1, vs 2, vs 3, vs 4, vs 5, vs 6, vs 7, VB, VB, VB, VB, VB, VB], []⟩)
          (λw' => Ext W1 w') (nG (w.heap.size) (w.heap.size) (w.heap.size + 1) mx (VV Ax (ln x) cx) (VV Ay (ln y) cy) (λl => ln l <= n + 1 /\ al l = al x - al y)) (λi => i == 8) V8 (λ_ _ h k => h.tr k) (λi v _ _ h k => uL h k) ?fr ?step ?tail (λ_ => VB) _ (Ext.dr W1))
    case fr =>
      intro i v w' _ hf hv;obtain rfl : i = 8 := by simpa using hf
      obtain ⟨b, e, _, h⟩ := hv;exact ⟨b, e, h.lt⟩
    case step =>
      intro i vs w' hi hD hd;have hw0 : Ext W1 w' := hD;have cA := λi => (R1.ext hw0).cell i
      have cB := λi => (R2.ext hw0).cell i
      have h3 := (R3.ext hw0).lt;rcases (show i = 0 \/ i = 1 \/ i = 2 \/ i = 3 \/ i = 4 \/ i = 5 \/ i = 6 \/ i = 7 \/ i = 8 by omega) with rfl | rfl | rfl | rfl | rfl | rfl | rfl | rfl | rfl <;> clear hi
      all_goals refine VE rfl (λK hK => ?_)
      all_goals try (have d0 := hd 0 Wu; simp only [nG] at d0)
      all_goals try (have d1 := hd 1 Wu; simp only [nG] at d1)
      all_goals try (have d2 := hd 2 Wu; simp only [nG] at d2)
      all_goals try (have d3 := hd 3 Wu; simp only [nG] at d3)
      all_goals try (have d4 := hd 4 Wu; simp only [nG] at d4)
      all_goals try (have d5 := hd 5 Wu; simp only [nG] at d5)
      all_goals try (have x6 := hd 6 Wu; obtain ⟨l6, h6, hc6, hl6⟩ := x6; obtain ⟨A6, c6, e6, _, _, _⟩ := id h6; have H6 := Vs h6)
      all_goals clear hd
      all_goals go_simp
      all_goals first
        | exact hK _ _ ⟨_, WZ, Ext.aC _, rfl, λh => Wb⟩
        | (refine (KC.o _ (E1.o.tr hw0)).mono ?_
           rintro e W4 ⟨v, l4, rfl, hs, hc, hl, hX⟩;exact hK _ _ ⟨v, WZ, hX, ⟨l4, hs, hc, hl⟩, λh => Wb⟩)
        | exact hK _ _ ⟨V5 #[VX mx, VV A6 (ln l6) c6], WZ, Ext.aC _, ⟨A6, c6, l6, rfl, e6 ▸ H6.o, hc6, hl6⟩, λh => Wb⟩
        | exact hK _ _ ⟨VY (Vz ⟨w'.heap.size, 0, Vx⟩), WZ, (Below.refl _ _).alloc (Vu _) _, ⟨_, rfl, V7, ai.new _ _ _⟩, λ_ => ⟨_, rfl, Vu _⟩⟩
    case tail =>
      intro vs w' hD hv _;have hw0 : Ext W1 w' := hD;obtain ⟨A7, c7, l7, e7, hs, hc7, hl7⟩ := hv 7 V9;obtain ⟨b8, e8, hb8, r8⟩ := hv 8 V9;have HS := Vs hs;have r3 := R3.ext hw0;have f8 := λi => r8.frozen i
      have c80 := r8.cell 0;have c81 := r8.cell 1;have c30 := r3.cell 0;have c31 := r3.cell 1;have f3 := λi => r3.frozen i
      have r9 := r8.fV (VX mx) (VV A7 (ln l7) c7);have r10 := r9.mD (VX Vw);have c90 := r9.cell 0;have c91 := r9.cell 1;have c100 := r10.cell 0;have c101 := r10.cell 1;have f9 := λi => r9.frozen i
      have f10 := λi => r10.frozen i
      have hne : ¬ w.heap.size + 1 + 1 = b8 := V7;have k3 := (r3.dz (p := ⟨b8, 0, Vx⟩) Wp (VX mx)).dz (p := ⟨b8, 1, Vx⟩) Wp (VV A7 (ln l7) c7);have k4 := k3.dz (p := ⟨b8, 0, Vx⟩) Wp (VX Vw);have g3 := λi => k3.frozen i
      have k30 := k3.cell 0;have k31 := k3.cell 1;have k40 := k4.cell 0;have k41 := k4.cell 1;have g4 := λi => k4.frozen i
      clear hv hs;simp only [List.drop_succ_cons, List.drop_zero];have HW := Vs hw0;have HR8 := Vs r8;have HR9 := Vs r9;have HK3 := Vs k3;have HK4 := Vs k4;clear r8 r9 r10 k3 k4 r3 hw0;by_cases hz : ln l7 = 0
      · obtain rfl : l7 = [] := List.length_eq_zero_iff.1 hz
        go_wp2;have s3 := lY (lY (lY HS.o HR8.o (gK _ _ _) 0 (VX mx)) (HR8.o.mD _) (gK _ _ _) 1 (VV A7 0 c7)) HR9.o (gK _ _ _) 0 (VX Vw);have j4 := HK4.o.fV (VX Vw) (VV A7 0 c7);have q0 := j4.cell 0;have q1 := j4.cell 1;refine bodyPost_ret (v := V5 #[VX Vw, VV A7 0 c7]) (by simp at q0 q1; simp [results, results307, go_sem, q0, q1]) rfl (pO.of (lY (lY s3 HK4.o (gK _ _ _) 0 (VX Vw)) (HK4.o.mD _) (gK _ _ _) 1 (VV A7 0 c7)) hc7 hl7.1 (by rw [<- HSM.o _ hl7.2]; cases mx <;> rfl) ?_);exact (((((E1.o.tr HW.o).setCell (p := ⟨b8, 0, Vx⟩) Wp _).setCell (p := ⟨b8, 1, Vx⟩) Wp _).setCell (p := ⟨b8, 0, Vx⟩) Wp _).setCell (p := ⟨w.heap.size + 1 + 1, 0, Vx⟩) Wp _).setCell (p := ⟨w.heap.size + 1 + 1, 1, Vx⟩) Wp _
      · go_wp2
        have s2 := lY (lY HS.o HR8.o (gK _ _ _) 0 (VX mx)) (HR8.o.mD _) (gK _ _ _) 1 (VV A7 (ln l7) c7);have j3 := HK3.o.fV (VX mx) (VV A7 (ln l7) c7);have q0 := j3.cell 0;have q1 := j3.cell 1;refine bodyPost_ret (v := V5 #[VX mx, VV A7 (ln l7) c7]) (by simp [results, results307, go_sem, q0, q1]) rfl (pO.of (lY (lY s2 HK3.o (gK _ _ _) 0 (VX mx)) (HK3.o.mD _) (gK _ _ _) 1 (VV A7 (ln l7) c7)) hc7 hl7.1 (HSM.o _ hl7.2) ?_);exact ((((E1.o.tr HW.o).setCell (p := ⟨b8, 0, Vx⟩) Wp _).setCell (p := ⟨b8, 1, Vx⟩) Wp _).setCell (p := ⟨w.heap.size + 1 + 1, 0, Vx⟩) Wp _).setCell (p := ⟨w.heap.size + 1 + 1, 1, Vx⟩) Wp _
def M0(w:Vt)(m1 m2:Bool)(a b:List Nat)(va vb:Vy)(n:Nat)(ha:bB w w.heap.size va a)(hb:bB w w.heap.size vb b)(hca:aY a)(hcb:aY b)(hla:ln a<=n)(hlb:ln b<=n)(hn:n<=400000):
  VJ prog 307 #[V5 #[VX m1,va],V5 #[VX m2,vb]] w (pO (kO m1 a+kO m2 b) (n+1) w):=by
 by_cases hm:m1=m2
 ·subst hm;exact Bh w m1 a b va vb n ha hb hca hcb hla hlb hn
 ·exact AF w m1 m2 a b va vb n ha hb hca hcb hla hlb hn hm
def sH(p q:Nat)(m1 m2 mm:Bool)(v1 v2:Vy)(P:List Nat->Prop):Nat->Vy->Vt->Prop
 |0,v,_=>v=VY (Vz ⟨p,0,Vx⟩)
 |1,v,_=>v=VX m1
 |2,v,_=>v=VY (Vz ⟨q,0,Vx⟩)
 |3,v,_=>v=VX m2
 |4,v,_=>v=VX mm
 |5,v,_=>v=VY (Vz ⟨p,1,Vx⟩)
 |6,v,_=>v=v1
 |7,v,_=>v=VY (Vz ⟨q,1,Vx⟩)
 |8,v,_=>v=v2
 |9,v,w=>∃l,bB w w.heap.size v l/\aY l/\P l
 |10,v,w=>∃A c l,v=V5 #[VX mm,VV A (List.length l) c]/\bB w w.heap.size (VV A (ln l) c) l/\aY l/\P l
 |_,v,w=>∃b,v=VY (Vz ⟨b,0,Vx⟩)/\q+1<b/\ai w b 308 [VX Vw,VV Vx 0 0]
theorem Ka{p q:Nat}{P:List Nat->Prop}{v:Vy}(h:sH p q m1 m2 mm v1 v2 P i v w)(hx:Ext w w'):sH p q m1 m2 mm v1 v2 P i v w':=by
 match i,h with
 |0,h|1,h|2,h|3,h|4,h|5,h|6,h|7,h|8,h=>exact h
 |9,h=>obtain⟨l,h1,h2⟩:=h;exact⟨l,h1.grow hx,h2⟩
 |10,h=>obtain⟨A,c,l,e,h1,h2⟩:=h;exact⟨A,c,l,e,h1.grow hx,h2⟩
 |_+11,h=>obtain⟨b,e,hb,h⟩:=h;exact⟨b,e,hb,h.ext hx⟩
def K7 (w : Vt) (m1 m2 : Bool) (a b : List Nat) (va vb : Vy) (n : Nat) (ha : bB w w.heap.size va a) (hb : bB w w.heap.size vb b) (hca : aY a) (hcb : aY b) (hla : ln a <= n) (hlb : ln b <= n) (hn : n <= 400000) :
    VJ prog 340 #[V5 #[VX m1, va], V5 #[VX m2, vb]] w (pO (kO m1 a * kO m2 b) (2 * n + 1) w) := by
  have HA := Vs ha;have HB := Vs hb;have E3 := Vs (AU w (.cells #[VX m1, va] 308) (.cells #[VX m2, vb] 308) (.cells #[VX Vw, VV Vx 0 0] 308));have R1 := (ai.new w 308 [VX m1, va]).ext (fh _ (.cells #[VX m2, vb] 308) (.cells #[VX Vw, VV Vx 0 0] 308));have R2 := (ai.new (w.alloc (.cells #[VX m1, va] 308)) 308 [VX m2, vb]).ext ((Below.refl _ _).alloc (Vu _) (.cells #[VX Vw, VV Vx 0 0] 308));have R3 := ai.new ((w.alloc (.cells #[VX m1, va] 308)).alloc (.cells #[VX m2, vb] 308)) 308 [VX Vw, VV Vx 0 0];rw [VK] at R2;rw [VK, VK] at R3;obtain ⟨A, ca, rfl, _, _, _⟩ := id ha;obtain ⟨A', cb, rfl, _, _, _⟩ := id hb;obtain ⟨W0, hW0⟩ : ∃ W0, ((w.alloc (.cells #[VX m1, VV A (ln a) ca] 308)).alloc (.cells #[VX m2, VV A' (ln b) cb] 308)).alloc (.cells #[VX Vw, VV Vx 0 0] 308) = W0 := ⟨_, rfl⟩;rw [hW0] at E3 R1 R2 R3;have KC := Vs (λ(W : Vt) (h : Ext w W) => (rK W a b (VV A (ln a) ca) (VV A' (ln b) cb) (HA.o.grow h) (HB.o.grow h) hca.small hcb.small.Vi V7 V7).mono (λe w' ⟨v, l, h1, h2, h3, ⟨h40, h4⟩, h5, _⟩ => (⟨v, l, h1, h2, h3, ⟨VI h4 V7, h40⟩, h5⟩ : ∃ v l, e = Ending.returned v /\ bB w' w'.heap.size v l /\ aY l /\ (ln l <= 2 * n + 1 /\ al l = al a * al b) /\ Ext W w')));obtain ⟨mm, hmm⟩ : ∃ mm, (m1 == m2) = !mm := ⟨!(m1 == m2), Wa⟩;have HSM := Vs (λ(l : List Nat) (h : al l = al a * al b) => Og (l := l) hmm h);have HW0 := Vs hW0;clear hW0 ha hb hca hcb hla hlb;go_enter func340, ntmps340;go_wp2;simp only [HW0.o];refine wp_region_any V8 (bO 12 (λvs => ⟨#[V5 #[VX m1, VV A (ln a) ca], V5 #[VX m2, VV A' (ln b) cb], VY (Vz ⟨w.heap.size, 0, Vx⟩), VY (Vz ⟨w.heap.size + 1, 0, Vx⟩), VY (Vz ⟨w.heap.size + 1 + 1, 0, Vx⟩), vs 11, vs 0, vs 1, vs 2, vs 3, vs 4, vs 5, vs 6, vs 7, vs 8, vs 9, vs 10, VB, VB, VB, VB, VB, VB], []⟩)
    (λw' => Ext W0 w') (sH (w.heap.size) (w.heap.size + 1) m1 m2 mm (VV A (ln a) ca) (VV A' (ln b) cb) (λl => ln l <= 2 * n + 1 /\ al l = al a * al b)) (λi => i == 11) V8 (λ_ _ h k => h.tr k) (λi v _ _ h k => Ka h k) ?fr ?step ?tail (λ_ => VB) _ (Ext.dr W0))
  case fr =>
    intro i v w' _ hf hv;obtain rfl : i = 11 := by simpa using hf
    obtain ⟨b, e, _, h⟩ := hv;exact ⟨b, e, h.lt⟩
  case step =>
    intro i vs w' hi hD hd;have hw0 : Ext W0 w' := hD;have cA := λi => (R1.ext hw0).cell i
    have cB := λi => (R2.ext hw0).cell i
    have h3 := (R3.ext hw0).lt;rcases (show i = 0 \/ i = 1 \/ i = 2 \/ i = 3 \/ i = 4 \/ i = 5 \/ i = 6 \/ i = 7 \/ i = 8 \/ i = 9 \/ i = 10 \/ i = 11 by omega) with rfl | rfl | rfl | rfl | rfl | rfl | rfl | rfl | rfl | rfl | rfl | rfl <;> clear hi
    all_goals refine VE rfl (λK hK => ?_)
    all_goals try (have d0 := hd 0 Wu; simp only [sH] at d0)
    all_goals try (have d1 := hd 1 Wu; simp only [sH] at d1)
    all_goals try (have d2 := hd 2 Wu; simp only [sH] at d2)
    all_goals try (have d3 := hd 3 Wu; simp only [sH] at d3)
    all_goals try (have d4 := hd 4 Wu; simp only [sH] at d4)
    all_goals try (have d5 := hd 5 Wu; simp only [sH] at d5)
    all_goals try (have d6 := hd 6 Wu; simp only [sH] at d6)
    all_goals try (have d7 := hd 7 Wu; simp only [sH] at d7)
    all_goals try (have d8 := hd 8 Wu; simp only [sH] at d8)
    all_goals try (have x6 := hd 9 Wu; obtain ⟨l6, h6, hc6, hl6⟩ := x6; obtain ⟨A6, c6, e6, _, _, _⟩ := id h6; have H6 := Vs h6)
    all_goals clear hd
    all_goals go_simp
    all_goals first
      | exact hK _ _ ⟨_, WZ, Ext.aC _, rfl, λh => Wb⟩
      | (refine (KC.o _ (E3.o.tr hw0)).mono ?_
         rintro e W4 ⟨v, l4, rfl, hs, hc, hl, hX⟩;exact hK _ _ ⟨v, WZ, hX, ⟨l4, hs, hc, hl⟩, λh => Wb⟩)
      | exact hK _ _ ⟨V5 #[VX mm, VV A6 (ln l6) c6], WZ, Ext.aC _, ⟨A6, c6, l6, rfl, e6 ▸ H6.o, hc6, hl6⟩, λh => Wb⟩
      | exact hK _ _ ⟨VY (Vz ⟨w'.heap.size, 0, Vx⟩), WZ, (Below.refl _ _).alloc (Vu _) _, ⟨_, rfl, V7, ai.new _ _ _⟩, λ_ => ⟨_, rfl, Vu _⟩⟩
  case tail =>
    intro vs w' hD hv _;have hw0 : Ext W0 w' := hD;obtain ⟨A7, c7, l7, e7, hs, hc7, hl7⟩ := hv 10 V9;obtain ⟨b8, e8, hb8, r8⟩ := hv 11 V9;have HS := Vs hs;have r3 := R3.ext hw0;have f8 := λi => r8.frozen i
    have c80 := r8.cell 0;have c81 := r8.cell 1;have c30 := r3.cell 0;have c31 := r3.cell 1;have f3 := λi => r3.frozen i
    have r9 := r8.fV (VX mm) (VV A7 (ln l7) c7);have r10 := r9.mD (VX Vw);have c90 := r9.cell 0;have c91 := r9.cell 1;have c100 := r10.cell 0;have c101 := r10.cell 1;have f9 := λi => r9.frozen i
    have f10 := λi => r10.frozen i
    have hne : ¬ w.heap.size + 1 + 1 = b8 := V7;have k3 := (r3.dz (p := ⟨b8, 0, Vx⟩) Wp (VX mm)).dz (p := ⟨b8, 1, Vx⟩) Wp (VV A7 (ln l7) c7);have k4 := k3.dz (p := ⟨b8, 0, Vx⟩) Wp (VX Vw);have g3 := λi => k3.frozen i
    have k30 := k3.cell 0;have k31 := k3.cell 1;have k40 := k4.cell 0;have k41 := k4.cell 1;have g4 := λi => k4.frozen i
    clear hv hs;simp only [List.drop_succ_cons, List.drop_zero];have HW := Vs hw0;have HR8 := Vs r8;have HR9 := Vs r9;have HK3 := Vs k3;have HK4 := Vs k4;clear r8 r9 r10 k3 k4 r3 hw0;by_cases hz : ln l7 = 0
    · obtain rfl : l7 = [] := List.length_eq_zero_iff.1 hz
      go_wp2;have s3 := lY (lY (lY HS.o HR8.o (gK _ _ _) 0 (VX mm)) (HR8.o.mD _) (gK _ _ _) 1 (VV A7 0 c7)) HR9.o (gK _ _ _) 0 (VX Vw);have j4 := HK4.o.fV (VX Vw) (VV A7 0 c7);have q0 := j4.cell 0;have q1 := j4.cell 1;refine bodyPost_ret (v := V5 #[VX Vw, VV A7 0 c7]) (by simp at q0 q1; simp [results, results340, go_sem, q0, q1]) rfl (pO.of (lY (lY s3 HK4.o (gK _ _ _) 0 (VX Vw)) (HK4.o.mD _) (gK _ _ _) 1 (VV A7 0 c7)) hc7 hl7.1 (by rw [<- HSM.o _ hl7.2]; cases mm <;> rfl) ?_);exact (((((E3.o.tr HW.o).setCell (p := ⟨b8, 0, Vx⟩) Wp _).setCell (p := ⟨b8, 1, Vx⟩) Wp _).setCell (p := ⟨b8, 0, Vx⟩) Wp _).setCell (p := ⟨w.heap.size + 1 + 1, 0, Vx⟩) Wp _).setCell (p := ⟨w.heap.size + 1 + 1, 1, Vx⟩) Wp _
    · go_wp2
      have s2 := lY (lY HS.o HR8.o (gK _ _ _) 0 (VX mm)) (HR8.o.mD _) (gK _ _ _) 1 (VV A7 (ln l7) c7);have j3 := HK3.o.fV (VX mm) (VV A7 (ln l7) c7);have q0 := j3.cell 0;have q1 := j3.cell 1;refine bodyPost_ret (v := V5 #[VX mm, VV A7 (ln l7) c7]) (by simp [results, results340, go_sem, q0, q1]) rfl (pO.of (lY (lY s2 HK3.o (gK _ _ _) 0 (VX mm)) (HK3.o.mD _) (gK _ _ _) 1 (VV A7 (ln l7) c7)) hc7 hl7.1 (HSM.o _ hl7.2) ?_);exact ((((E3.o.tr HW.o).setCell (p := ⟨b8, 0, Vx⟩) Wp _).setCell (p := ⟨b8, 1, Vx⟩) Wp _).setCell (p := ⟨w.heap.size + 1 + 1, 0, Vx⟩) Wp _).setCell (p := ⟨w.heap.size + 1 + 1, 1, Vx⟩) Wp _
end
end Go.Proofs.YtmliacdegmklaaaGreatDoor
