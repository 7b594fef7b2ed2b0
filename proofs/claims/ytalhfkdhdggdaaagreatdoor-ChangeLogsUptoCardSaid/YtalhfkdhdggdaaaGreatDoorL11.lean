/- ChangeLogs of kingpostlaw58: part 11 of its proof (merged and shortened by program). -/
import Derived.Great.BuildSlice
import Derived.Test.YtalhfkdhdggdaaaGreatDoorL09
import Derived.Test.YtalhfkdhdggdaaaGreatDoorL10
set_option linter.unusedVariables false
set_option linter.unusedSimpArgs false
set_option linter.defProp false
set_option maxHeartbeats 8000000
set_option maxRecDepth 100000
open Go.RowKit Go.Shelf Go.Proofs.Tryz
open And renaming intro→Ci
open Array renaming replicate→E7
open Bool renaming false→AM,true→AL
open ByteArray renaming size→OY
open Decidable renaming decide→AQ
open Go renaming World→V,Value→AN,Calls→AZ,TypeId→Bb,Addr→An,maxLen→BM,undef→Ba,Ending→CI,wpList→CQ,MemPlace→Dw,KeepsOthers→GF,MapEntry→FG,DataW→D6,Operand→F0,Act→BV
open Go.Act renaming put→G7
open Go.Builtin renaming zeroCells→Is,append_→JN
open Go.DataW renaming trod→ET
open Go.Ending renaming returned→Ac
open Go.Fence renaming wide→Ha
open Go.IntKind renaming i64→G
open Go.Lib renaming hasPrefix→DH,cut→Bj,compareInt→Dv,itoa→CY,decDigits→ES,split→Da,byteCells→IV
open Go.MapKept renaming IsKey→MV
open Go.Proofs.Tryz renaming prog→AO,underlying54→Cc,underlying34→DV,underlying25→FD,underlying3→GQ
open Go.Region renaming wanted→Ir
open Go.RowKit renaming intOf→B8,Below→At
open Go.Value renaming agg→Ea,oneCell'→Ks,slice→FO,ownBlock→Hv,int→Gr,slice→AK,string→AT,bool→AU,pointer→Ap,int→M,agg→AW,tuple→BO
open Go.World renaming setCell→Di,cell?→Dx,setRow→F8,frozen?→Hb
open List renaming replicate→F7,range→G8,getD→Gs,length→ln
open Nat renaming gcd→DO,reduceAdd→Hw
open Option renaming none→O,some→Q,getD→FF
open Or renaming inl→Cf
open UInt8 renaming ofNat→GR
open Go.Proofs.YtalhfkdhdggdaaaGreatDoor
variable{cs ds args C ac cs':Array AN}{u:Bool}{E z:Int}{us:List Bool}{r xs ys:List AN}{i c m n b T k g q base s gc:Nat}{R L ga:Option An}{p:Prop}{α:Type}{ab lf v2 v5:AN}{w w' W wr y W0 W1:V}{t e:Bb}{x:CI}{j J JX:BG}{a a' aj:BU}
namespace Go.Proofs.YtalhfkdhdggdaaaGreatDoor
section
open Kp
theorem tC{o:Er}(h:UI o):RN o:=
 ⟨by have:=Lu h.a;omega,by have:=Lu h.b;omega,by have:=Lu h.c;omega,by have:=Lu h.d;omega⟩
theorem Nf.ops(h:Nf j):∀o∈j.Bi,RN o:=by
 intro o a;obtain⟨i,hi,rfl⟩:=JJ.1 a;have:=h.gr.Om h.o i hi
 grind [tC]
theorem Nf.Bt(h:Nf j):∀x∈j.Bt,ln x.La<=300000:=by
 intro x hx;obtain⟨i,hi,rfl⟩:=JJ.1 hx;have:=h.gr.l.w i hi
 grind
theorem Nf.sm(h:Nf j):Ll j:=
 ⟨by have:=h.gr.name;omega,by have:=h.gr.r.f;omega,λ_=>h.ops,h.Bt⟩
def b0R{rs:List (List Sd)}(k:Nat):(rs.getD k []).length<=ln rs.flatten:=by
 by_cases hk:k<ln rs
 .rw[CM,Bv hk];exact(WZ (Ey hk)).length_le
 grind
theorem Nf.ln(h:Nf j):RQ j:=
 ⟨by have:=h.gr.r.n;omega,λk=>by have:=b0R (rs:=j.BK) k;have:=h.gr.r.f;omega,by have:=h.o;omega,by have:=h.gr.z;omega,by have:=h.gr.b.n;omega,by have:=h.gr.l.n;omega,by have:=h.gr.s.n;omega,by have:=h.gr.u;omega⟩
theorem cV{l:List α}{i:Int}{x y:α}(h:y∈CC l i x):y∈l\/y=x:=by
 grind [CC]
theorem je(rs:List (List Sd))(n:Int)(s:Sd):(Ft rs n s).flatten.length=ln rs.flatten:=by
 rw[lk,lk]
 congr 1
 apply List.ext_getElem?
 grind [Ft,wN]
def a7d{e:Ed}(h:Gu e=AM):RN ⟨e.EL,e.E9,e.E8,e.EE,e.EK⟩:=by
 unfold Gu Mw at h;simp[QC] at h;obtain⟨⟨⟨h1,h2⟩,⟨⟨a,b⟩,c⟩,d⟩,f⟩:=h;exact⟨by have:=Lu a;grind,by have:=Lu b;grind,by have:=Lu c;grind,by have:=Lu d;grind⟩
def qx{e:Ed}(h:Gu e=AM):ln e.Ct<=40/\ln e.FH<=50:=by
 grind [Gu]
theorem iX{P:α->Prop}{c:Prop}[Decidable c]{a b:α}(h1:c->P a)(h2:¬c->P b):P (if c then a else b):=by
 grind
theorem Ll.RZ{e:Ed}(h:Ll j)(g:ln j.Bi<=32)(d:Gu e=AM):Ll (Cz j e):=by
 obtain⟨h1,h2,f,c⟩:=h;have b:=f g;have i:=qx d
 repeat' refine iX (λ_=> ?_) (λ_=> ?_)
 all_goals first
  |exact⟨Al,h2,λ_=>b,c⟩
  |exact⟨h1,by grind [je],λ_=>b,c⟩
  |exact⟨h1,h2,λ_ o a=>(cV a).elim (b o) (λq=>q▸a7d d),c⟩
  |exact⟨h1,h2,λ_=>b,λo a=>(cV a).elim (c o) (λq=>Al)⟩
  |exact⟨h1,h2,λ_ o a=>b o (ZC a),c⟩
  |exact⟨h1,h2,λ_=>b,λo a=>c o (ZC a)⟩
structure O0(n:Nat)(j:BG):Prop where
 r:ln j.BK<=1000
 rk:∀k,(j.BK.getD k []).length<=1000
 o:ln j.Bi<=n
 z:ln j.BT<=n
 b:ln j.CV<=n
 l:ln j.Bt<=n
 s:ln j.BW<=n
 u:ln j.BR<=n
theorem O0.mono(h:O0 m j)(hn:m<=n):O0 n j:=
 ⟨h.r,h.rk,BJ h.o hn,BJ h.z hn,BJ h.b hn,BJ h.l hn,BJ h.s hn,BJ h.u hn⟩
theorem O0.ln(h:O0 n j)(hn:n<=1000000):RQ j:=
 ⟨h.r,h.rk,BJ h.o hn,BJ h.z hn,BJ h.b hn,BJ h.l hn,BJ h.s hn,BJ h.u hn⟩
theorem Nf.l(h:Nf j):O0 4100 j:=
 ⟨h.ln.r,h.ln.rk,by have:=h.o;omega,by have:=h.gr.z;omega,by have:=h.gr.b.n;omega,by have:=h.gr.l.n;omega,by have:=h.gr.s.n;omega,by have:=h.gr.u;omega⟩
theorem dL(l:List α)(i:Int)(x:α):(CC l i x).length<=ln l+1:=by
 grind [CC]
theorem s8(l:List α)(i:Nat)(x:α):(DZ l i x).length<=ln l+1:=by
 grind [DZ]
theorem Vh(l:List α)(i:Nat):(l.eraseIdx i).length<=ln l:=by
 grind
def a8g(l:List Aw)(x:Aw):(Qw l x).length<=ln l+1:=by
 unfold Qw;split <;>first|grind [s8]
def O0.RZ{n:Nat}{j:BG}{e:Ed}(h:O0 n j):O0 (n+1) (Cz j e):=by
 obtain⟨r,rk,o,z,b,l,s,u⟩:=h.mono (Nat.le_succ n);have hn:=h
 repeat' refine iX (λ_=> ?_) (λ_=> ?_)
 all_goals first
  |exact⟨by grind [Ft],λk=>by
    by_cases hk:k<j.BK.length
    ·grind [ff,wN]
    ·rw[CM,eE (by grind [Rg])];grind,o,z,b,l,s,u⟩
  |exact⟨r,rk,o,z,b,l,s,BJ (s8 _ _ _) (Wo hn.u)⟩
  |exact⟨r,rk,BJ (dL _ _ _) (Wo hn.o),z,b,l,s,u⟩
  |exact⟨r,rk,o,BJ (dL _ _ _) (Wo hn.z),b,l,s,u⟩
  |exact⟨r,rk,o,z,BJ (dL _ _ _) (Wo hn.b),l,s,u⟩
  |exact⟨r,rk,o,z,b,BJ (dL _ _ _) (Wo hn.l),s,u⟩
  |exact⟨r,rk,o,z,b,l,BJ (a8g _ _) (Wo hn.s),u⟩
  |exact⟨r,rk,o,z,b,l,s,BJ (Vh _ _) u⟩
  |exact⟨r,rk,BJ (Vh _ _) o,z,b,l,s,u⟩
  |exact⟨r,rk,o,BJ (Vh _ _) z,b,l,s,u⟩
  |exact⟨r,rk,o,z,BJ (Vh _ _) b,l,s,u⟩
  |exact⟨r,rk,o,z,b,BJ (Vh _ _) l,s,u⟩
  |exact⟨r,rk,o,z,b,l,BJ (Vh _ _) s,u⟩
noncomputable def Ni(j:BG)(e:Ed)(u:Bool):BG:=if u=AL then j else if Hf j e=0 then IX j e else j
noncomputable def Fg(a:List Ed)(us:List Bool)(j:BG):Nat->BG
 |0=>j
 |n+1=>Ni (Fg a us j n) (a.getD n BZ) (us.getD n AM)
noncomputable def Xl(j:BG)(e:Ed)(u:Bool):Bool:= !u&&AQ (Hf j e≠0)
noncomputable def aO(a:List Ed)(us:List Bool)(j:BG):Nat->List Nat
 |0=>[]
 |n+1=>if Xl (Fg a us j n) (a.getD n BZ) (us.getD n AM)=AL then aO a us j n++[n] else aO a us j n
theorem iL{e:Ed}(h:Hf j e=0):Eh (IX j e)=0/\IX j e=Cz j e:=by
 have h2:IX j e=Cz j e:=by unfold IX;grind
 grind [Hf]
theorem sJ{a:List Ed}(h:Eh j=0):∀n,Eh (Fg a us j n)=0:=by
 intro n
 induction n with
 |zero=>exact h
 |succ n b=>
  show Eh (Ni _ _ _)=0;unfold Ni;split
  .exact b
  split
  .grind [iL]
  grind
theorem dQ(h:Eh j=0):ln j.Bi<=32:=by
 by_cases a:ln j.Bi<=32
 .grind
 have b:Ib j.BK j.Bi≠0:=by
  unfold Ib;have c:F4 j.Bi=(AM,4):=by unfold F4;grind
  grind
 unfold Eh at h
 grind
theorem iT{c:List Ed}(d:Eh j=0)(h1:Ll j)(h2:O0 m j)(e:∀i,i<ln c->Gu (c.getD i BZ)=AM):∀n,n<=ln c->Ll (Fg c us j n)/\O0 (m+n) (Fg c us j n):=by
 intro n
 induction n with
 |zero=>exactλ_=>⟨h1,h2⟩
 |succ n f=>
  intro hn;have⟨a,b⟩:=f D;have g:=b.mono (Nat.le_succ _);show Ll (Ni _ _ _)/\O0 _ (Ni _ _ _);unfold Ni;split
  .grind
  split
  .rename_i h3;rw[(iL h3).2];exact⟨a.RZ (dQ (sJ d n)) (e n D),b.RZ⟩
  grind
def Iq(w:V)(B:Nat)(R:Option An)(T:Nat)(l:List Ed):Prop:=
 ln l<=T/\T<=BM/\(0<ln l->∃b off,R=Q ⟨b,off,O⟩/\b<B/\∀i,i<ln l->∃ga gc,w.rangeAt b (off+37*i) (Ah (l.getD i BZ) (AK ga (l.getD i BZ).Aa.length gc)).toList/\C8 w B ga gc (l.getD i BZ).Aa)
theorem jB{B b o:Nat}{cs:List AN}(h:w.rangeAt b o cs)(c:At B w w')(a:b<B):w'.rangeAt b o cs:=
 λj v d=>(c.cell a).trans (h j v d)
theorem Iq.below{B:Nat}{l:List Ed}(h:Iq w B R T l)(c:At B w w'):Iq w' B R T l:=by
 refine⟨h.1,h.2.1,λd=> ?_⟩;have⟨b,off,e,a,f⟩:=h.2.2 d;refine⟨b,off,e,a,λi hi=> ?_⟩;have⟨ga,gc,h1,h2⟩:=f i hi;exact⟨ga,gc,jB h1 c a,h2.below c⟩
theorem Iq.more{B B':Nat}{l:List Ed}(h:Iq w B R T l)(c:B<=B'):Iq w B' R T l:=by
 refine⟨h.1,h.2.1,λa=> ?_⟩;have⟨b,off,e,f,d⟩:=h.2.2 a;refine⟨b,off,e,D,λi hi=> ?_⟩;have⟨ga,gc,h1,h2⟩:=d i hi;exact⟨ga,gc,h1,h2.more c⟩
theorem Iq.grow{l:List Ed}(h:Iq w w.1.size R T l)(hx:Ext w w'):Iq w' w'.1.size R T l:=(h.below hx).more hx.size
theorem Iq.at{B:Nat}{l:List Ed}(h:Iq w B R T l)(c:0<ln l):∃(b off:Nat) (f:Nat->Option An×Nat),R=Q ⟨b,off,O⟩/\b<B/\
  ∀i,i<ln l->w.rangeAt b (off+37*i) (Ah (l.getD i BZ) (AK (f i).1 (l.getD i BZ).Aa.length (f i).2)).toList/\C8 w B (f i).1 (f i).2 (l.getD i BZ).Aa:=by
 have⟨b,off,e,d,a⟩:=h.2.2 c;refine⟨b,off,λi=>if hi:i<ln l then(Classical.choose (a i hi),Classical.choose (Classical.choose_spec (a i hi))) else(O,0),e,d,λi hi=> ?_⟩
 grind
theorem getD_take{l:List α}{d:α}(h:i<n):(l.take n).getD i d=l.getD i d:=by
 grind
theorem getD_drop{l:List α}{d:α}:(l.drop n).getD i d=l.getD (n+i) d:=by
 grind
theorem Iq.take{B:Nat}{l:List Ed}(h:Iq w B R T l)(hn:n<=ln l):Iq w B R T (l.take n):=by
 have f:(l.take n).length=n:=Al;have h1:=h.1;refine⟨D,h.2.1,λa=> ?_⟩;have⟨b,off,e,c,d⟩:=h.2.2 D
 grind
abbrev GV(l:List Bool):List (List AN):=l.map λb=>[AU b]
structure Log where
 BI:BG
 BS:List Ed
 BP:List Bool
structure Cb where
 ja:BU
 ea:Option An
 ec:Nat
 ua:Option An
 uc:Nat
def BQ(l:Log)(a:Cb):Array AN:=#[AT (tx l.BI.name),AK a.ja.pa (ln l.BI.BK) a.ja.pc,M G l.BI.Ki,M G l.BI.CF,AK a.ja.ua (ln l.BI.BR) a.ja.uc,AK a.ja.oa (ln l.BI.Bi) a.ja.oc,AK a.ja.za (ln l.BI.BT) a.ja.zc,AK a.ja.ba (ln l.BI.CV) a.ja.bc,M G l.BI.Nj,M G l.BI.Fv.BX,M G l.BI.Fv.length,M G l.BI.Fv.It,M G l.BI.Fv.tail,AK a.ja.la (ln l.BI.Bt) a.ja.lc,AK a.ja.sa (ln l.BI.BW) a.ja.sc,AK a.ea (ln l.BS) a.ec,AK a.ua (ln l.BP) a.uc]
def Ty(l:Log)(a:Cb):(BQ l a).size=17:=rfl
def Qj(l:Log)(a:Cb):(BQ l a)[15]?=Q (AK a.ea (ln l.BS) a.ec):=rfl
def OH(l:Log)(a:Cb):(BQ l a)[16]?=Q (AK a.ua (ln l.BP) a.uc):=rfl
theorem b3m(l:Log)(a:Cb)(h:i<15):(BQ l a)[i]?=(P l.BI a.ja)[i]?:=by
 rcases(show i=0\/i=1\/i=2\/i=3\/i=4\/i=5\/i=6\/i=7\/i=8\/i=9\/i=10\/i=11\/i=12\/i=13\/i=14 by omega) with h|h|h|h|h|h|h|h|h|h|h|h|h|h|h<;>subst h<;>rfl
def LC(w:V)(c:Nat)(l:Log)(a:Cb):Prop:=w.1[c]?=Q (.cells (BQ l a) 38 (0,0))
theorem LC.ext{l:Log}{a:Cb}(h:LC w c l a)(hx:Ext w w'):LC w' c l a:=(hx.block c (Ee.1 h).1).trans h
theorem LC.lt{l:Log}{a:Cb}(h:LC w c l a):c<w.1.size:=(Ee.1 h).1
theorem LC.cell{l:Log}{a:Cb}(h:LC w c l a)(i:Nat):w.cell? ⟨c,i,O⟩=(BQ l a)[i]?:=by unfold LC at h;simp[Dx,h]
theorem LC.BI{l:Log}{a:Cb}(h:LC w c l a):w.rangeAt c 0 (P l.BI a.ja).toList:=by
 intro j v d;have b:=(Wb.1 d).1;rw[IU,h.cell,b3m l a b]
 grind
structure Dz(w:V)(B:Nat)(l:Log)(a:Cb):Prop where
 j:EP w B l.BI a.ja
 e:Iq w B a.ea a.ec l.BS
 u:BB 1 w B a.ua a.uc (GV l.BP)
theorem Dz.below{B:Nat}{l:Log}{a:Cb}(h:Dz w B l a)(b:At B w w'):Dz w' B l a:=⟨h.j.below b,h.e.below b,h.u.below b⟩
theorem Dz.more{B B':Nat}{l:Log}{a:Cb}(h:Dz w B l a)(b:B<=B'):Dz w B' l a:=⟨h.j.more b,h.e.more b,h.u.more b⟩
theorem Dz.grow{l:Log}{a:Cb}(h:Dz w w.1.size l a)(hx:Ext w w'):Dz w' w'.1.size l a:=(h.below hx).more hx.size
theorem j7{ops:Array Oper}{rest:List Oper}{o:Oper}{a:BV}{c:Exit->BV->V->Prop}(f:o.guard=O)(x:F0)(i:o.op= .load 54 x)
  (b p:Nat)(hx:a.eval x=Ap (Q ⟨b,p,O⟩))(e:Ed)(g:AN)(d:w.rangeAt b p (Ah e g).toList)
  (h:CQ AO ops c rest (a.put o.dst (AW (Ah e g))) w):CQ AO ops c (o::rest) a w:=
 wpList_load_mid f _ x i b p hx _ _ d Cc rfl U h
theorem Qd{ops:Array Oper}{rest:List Oper}{o:Oper}{a:BV}{c:Exit->BV->V->Prop}(hw:Ir o (yielded ops a.tmps)=AL)(x:F0)(g:o.op= .load 34 x)
  (b p:Nat)(hx:a.eval x=Ap (Q ⟨b,p,O⟩))(j:BG)(d:BU)(f:w.rangeAt b p (P j d).toList)
  (h:CQ AO ops c rest (a.put o.dst (AW (P j d))) w):CQ AO ops c (o::rest) a w:=
 Wt λ_ e=>by
  rw[Aj hw];exact wp_load_mid _ x g b p hx _ _ f DV F U (e _ _ h)
structure LK(a:List Ed)(us:List Bool)(j:BG)(m:Nat):Prop where
 sm:Ll j
 ln:O0 m j
 mx:m+a.length<=1000000
 gr:∀i,i<a.length->Gu (a.getD i BZ)=AM
 ix:∀i,i<a.length->(a.getD i BZ).Ae<=9223372036854775807
 ok:Eh j=0
 eq:us.length=a.length
 Om:a.length<=4096
def LK.ap{c:List Ed}{us:List Bool}{j:BG}{m:Nat}(h:LK c us j m){i:Nat}(hi:i<c.length):Tq (Fg c us j i) (c.getD i BZ):=by
 obtain⟨a,b⟩:=iT h.ok h.sm h.ln h.gr i (FM hi);have:=h.mx;exact⟨a,λ_=>b.ln D,λd=>a.RZ (dQ d) (h.gr i hi),h.ix i hi⟩
def LK.take{a:List Ed}{us:List Bool}{j:BG}{m:Nat}(h:LK a us j m){k:Nat}(hk:k<=a.length):LK (a.take k) (us.take k) j m:=by
 have c:(a.take k).length=k:=Al;have h1:=h.mx;have h2:=h.eq;have b:=h.Om;refine⟨h.sm,h.ln,D,λi hi=> ?_,λi hi=> ?_,h.ok,Al,D⟩
 ·rw[getD_take D];exact h.gr i D
 ·rw[getD_take D];exact h.ix i D
def LK.drop{c:List Ed}{us:List Bool}{j:BG}{m:Nat}(h:LK c us j m){k:Nat}(hk:k<=c.length):LK (c.drop k) (us.drop k) (Fg c us j k) (m+k):=by
 have e:(c.drop k).length=c.length-k:=SF;obtain⟨a,b⟩:=iT h.ok h.sm h.ln h.gr k hk;have h1:=h.mx;have h2:=h.eq;have d:=h.Om;refine⟨a,b,D,λi hi=> ?_,λi hi=> ?_,sJ h.ok k,Al,D⟩
 ·rw[getD_drop];exact h.gr _ D
 ·rw[getD_drop];exact h.ix _ D
structure lC(l:Log):Prop where
 j:PJ l.BI
 e:∀i,i<ln l.BS->Gu (l.BS.getD i BZ)=AM
 n:ln l.BS<=6
 u:ln l.BP<=6
structure Xf(l:Log):Prop where
 gr:lC l
 ok:Eh l.BI=0
 eq:ln l.BP=ln l.BS
def Xf.fi{l:Log}(h:Xf l):Nf l.BI:=⟨h.gr.j,dQ h.ok⟩
theorem Xf.rp{l:Log}(h:Xf l)(hx:∀e∈l.BS,Bh e.Ae):LK l.BS l.BP l.BI 4100:=by
 have:=h.gr.n;refine⟨h.fi.sm,h.fi.l,D,h.gr.e,λi hi=> ?_,h.ok,h.eq,D⟩;rw[CM,Bv hi];exact(hx _ (Ey hi)).2
noncomputable def Gk(a:List Ed)(us:List Bool)(j:BG)(n:Nat):List Int:=(aO a us j n).map (λ(i:Nat)=>(i:Int))
def cD:(AO.info? 54).map (λi=>(i.zero,i.size,i.bytes))=Q (Q (AW (Ah BZ (AK O 0 0))),37,360):=U
def pO:RW 36 54 37:=by
 intro w R T rows d hw h1 f;have⟨l,hi,g,i,k⟩:=DM cD;have e:=underlying35;go_enter func36,ntmps36;exact Rp
def bV:(AO.info? 4).map (λi=>(i.zero,i.size,i.bytes))=Q (Q (AU AM),1,1):=U
def qG:RW 37 4 1:=by
 intro w R T rows d hw h1 f;have⟨l,hi,g,i,k⟩:=DM bV;have e:=underlying36;go_enter func37,ntmps37;exact Rp
def Ih(w:V)(B:Nat)(rows:List (List AN))(l:List Ed):Prop:=
 ln rows=ln l/\∀i,i<ln l->∃ga gc,rows.getD i []=(Ah (l.getD i BZ) (AK ga (l.getD i BZ).Aa.length gc)).toList/\C8 w B ga gc (l.getD i BZ).Aa
theorem Ih.below{B:Nat}{rows:List (List AN)}{l:List Ed}(h:Ih w B rows l)(a:At B w w'):Ih w' B rows l:=
 ⟨h.1,λi hi=>by have⟨ga,gc,e,s⟩:=h.2 i hi;exact⟨ga,gc,e,s.below a⟩⟩
theorem Ih.more{B B':Nat}{rows:List (List AN)}{l:List Ed}(h:Ih w B rows l)(a:B<=B'):Ih w B' rows l:=
 ⟨h.1,λi hi=>by have⟨ga,gc,e,s⟩:=h.2 i hi;exact⟨ga,gc,e,s.more a⟩⟩
theorem Ih.at{B:Nat}{rows:List (List AN)}{l:List Ed}(h:Ih w B rows l)(a:r∈rows):∃e ga gc,r=(Ah e (AK ga (ln e.Aa) gc)).toList:=by
 exact zS
theorem Ih.wide{B:Nat}{rows:List (List AN)}{l:List Ed}(h:Ih w B rows l):DG 37 rows:=by
 intro r a;obtain⟨e,ga,gc,rfl⟩:=h.at a
 rfl
theorem Ih.one{B:Nat}{rows:List (List AN)}{l:List Ed}(h:Ih w B rows l):GL rows:=by
 intro r a u hu;obtain⟨e,ga,gc,rfl⟩:=h.at a;have:((Ah e (AK ga (ln e.Aa) gc)).all λx=>x.oneCell')=AL:=U
 grind [Array.all_eq_true_iff_forall_mem]
theorem cJ{B:Nat}{l:List Ed}(h:Iq w B R T l):∃rows,Ih w B rows l/\BB 37 w B R T rows:=by
 have n:∀i,∃p:Option An×Nat,i<ln l->C8 w B p.1 p.2 (l.getD i BZ).Aa/\∀b off,R=Q ⟨b,off,O⟩->w.rangeAt b (off+37*i) (Ah (l.getD i BZ) (AK p.1 (l.getD i BZ).Aa.length p.2)).toList:=by
  intro i;by_cases hi:i<ln l
  .have⟨b,off,e,_,hc⟩:=h.2.2 D;have⟨ga,gc,h1,h2⟩:=hc i hi;refine⟨(ga,gc),λ_=>⟨h2,λq t r=> ?_⟩⟩
   grind
  exact⟨(O,0),λh=>absurd h hi⟩
 have⟨f,c⟩:=eB n;have a:∀i,i<ln l->((G8 (ln l)).map λi=>(Ah (l.getD i BZ) (AK (f i).1 (l.getD i BZ).Aa.length (f i).2)).toList).getD i []=(Ah (l.getD i BZ) (AK (f i).1 (l.getD i BZ).Aa.length (f i).2)).toList:=by
  grind
 refine⟨(G8 _).map _,⟨AV,λi hi=>⟨(f i).1,(f i).2,a i hi,(c i hi).1⟩⟩,by simpa using h.1,h.2.1,λs=> ?_⟩;have k:0<ln l:=Al;have⟨b,off,e,m,_⟩:=h.2.2 k;refine⟨b,off,e,m,λi hi j o=> ?_⟩;have d:i<ln l:=Al;rw[a i d];have g:=o;rw[Bv g];exact(c i d).2 b off e j _ (Bv g)
theorem Zo{B:Nat}{rows:List (List AN)}{l:List Ed}(h:Ih w B rows l)(d:BB 37 w B R T rows):Iq w B R T l:=by
 obtain⟨h1,h2,a⟩:=d;rw[h.1] at h1;refine⟨h1,h2,λhn=> ?_⟩;have⟨b,off,e,c,k⟩:=a (by rw[h.1];exact hn);refine⟨b,off,e,c,λi hi=> ?_⟩;have⟨ga,gc,n,g⟩:=h.2 i hi;refine⟨ga,gc,λj v f=> ?_,g⟩;have m:j<37:=(Wb.1 f).1
 grind
theorem j8{P:Program}(w:V)(base:Nat)(t ty e:Bb)(i:TypeInfo)(z:AN)(size f:Nat)(r:P.underlying t=Q (.slice e))(hi:P.info? e=Q i)(B:i.zero=Q z)
  (q:i.size=size)(E:i.bytes=f)(K:z.cells.size=size)(J:0<size)(v:AN)(n:Nat)(xs:List AN)(o:w.ownsRow base e size v n xs)
  (a:An)(m c:Nat)(b:List AN)(y:b.length=m*size)(l:∀j u,b[j]?=Q u→w.cell? (a.add j)=Q u)(h1:∀u∈b,u.oneCell'=AL)
  (x:n+m≤BM)(H:(n+m)*f≤140737488355328)(R:base≤w.heap.size):
  ∃v' w',(JN #[t,t] ty #[v,.slice (Q a) m c]).run P w= .ok v' w'∧w'.ownsRow base e size v' (n+m) (xs++b)∧w.grownBy w' v.ownBlock∧∀k,v'.ownBlock=Q k→v.ownBlock=Q k∨w.heap.size≤k:=by
 obtain⟨v',w',A,h2,L,_⟩:=mP w base t ty e i z size f r hi B q E K J v n xs o a m c b y l h1 x H R
 refine⟨v',w',A,h2,L,fun k hk=> ?_⟩
 rcases o.2 with⟨rfl,rfl⟩|⟨g,T,cur,rfl,X,U,Z,Y,S,aa⟩
 ·obtain⟨v2,w2,d,h22,_⟩:=mP w _ t ty e i z size f r hi B q E K J _ 0 [] (Qz w _ e size) a m c b y l h1 x H (AS _)
  rw[A] at d
  injection d with s C
  subst s C
  exact .inr (h22.lt k hk).1
 ·by_cases I:n+m≤T
  ·have hfit:n*i.size+b.length≤cur.size:=by rw[y,S,q,←Kq];exact Gz _ I
   have d:=run_append_room w t ty e i r hi g n T cur U a m c b (by grind) l h1 I hfit
   rw[A] at d
   injection d with s C
   subst s
   exact .inl hk
  ·have W:=o.cells rfl
   have N:=x
   simp[BM] at N
   have d:=run_append_grow w t ty e i z r hi B _ n T xs (by rw[q];exact o.1) W a m c b (by grind) l (by omega) (by omega) (mO (by omega) (by grind))
   grind [Hv]
theorem uy{P:Program}{w:V}{ops:Array Oper}{rest:List Oper}{o:Oper}{a:BV}{g:Exit→BV→V→Prop}(C:o.guard=O)(s x:F0)(t:Bb)
  (F:o.op= .call {callee:= .builtin .append,args:=#[s,x],argTypes:=#[t,t]})
  (base:Nat)(e:Bb)(i:TypeInfo)(z:AN)(size f:Nat)(N:P.underlying t=Q (.slice e))(hi:P.info? e=Q i)(R:i.zero=Q z)
  (K:i.size=size)(A:i.bytes=f)(S:z.cells.size=size)(L:0<size)
  (v:AN)(n:Nat)(xs:List AN)(J:a.eval s=v)(H:w.ownsRow base e size v n xs)
  (d:An)(m c:Nat)(b:List AN)(hx:a.eval x= .slice (Q d) m c)(D:b.length=m*size)(E:∀j u,b[j]?=Q u→w.cell? (d.add j)=Q u)(h1:∀u∈b,u.oneCell'=AL)
  (q:n+m≤BM)(B:(n+m)*f≤140737488355328)(y:base≤w.heap.size)
  (h:∀v' w',w'.ownsRow base e size v' (n+m) (xs++b)→w.grownBy w' v.ownBlock→(∀k,v'.ownBlock=Q k→v.ownBlock=Q k∨w.heap.size≤k)→CQ P ops g rest (a.put o.dst v') w'):CQ P ops g (o::rest) a w:=by
 obtain⟨v',w',I,h2,l,p⟩:=j8 w base t o.type e i z size f N hi R K A S L v n xs H d m c b D E h1 q B y
 refine eZ C fun _ r=> ?_
 unfold Oper.wp execOp
 simp[F,resolve,invoke,builtin,Ug,Uh,Ul,Z5,SN,Wu,J,hx,I]
 exact r _ _ (h v' w' h2 l p)
theorem YT(h:(FO (Q ⟨g,0,O⟩) n c).ownBlock=Q q):g=q:=by grind [Hv]
theorem Bc.fresh{S:Nat->Prop}(h:Bc S w w.1.size j a)(hx:Ext w w'):Bc (λq=>S q\/w.1.size<=q) w' w'.1.size j a:=
 ⟨h.toEP.grow hx,λW c=>h.av W ⟨BJ hx.size c.1,λb d hn=>(c.2 b (Dj d hx.size) (λq=>q.elim hn (λ_=>D))).trans (hx.block b d)⟩⟩
theorem Bc.row{S:Nat->Prop}(h:Bc S W W.1.size j a)(f:S c)(cs:Array AN):Bc S (W.setRow c cs) (W.setRow c cs).1.size j a:=by
 have g:=size_setRow W c cs;have hn:∀b,¬S b->(W.setRow c cs).1[b]?=W.1[b]?:=by grind [Hc]
 exact⟨h.av _ ⟨D,λb _ e=>hn b e⟩,λab d=>h.av ab ⟨by have:=d.1;omega,λb e hx=>(d.2 b D hx).trans (hn b hx)⟩⟩
theorem Bc.grown{S:Nat->Prop}{v v':AN}(h:Bc (λb=>S b\/v.ownBlock=Q b) w w.1.size j a)(d:w.grownBy w' v.ownBlock)(i:∀k,v'.ownBlock=Q k->v.ownBlock=Q k\/w.1.size<=k):
  Bc (λb=>S b\/v'.ownBlock=Q b) w' w'.1.size j a:=by
 have g:=d.size;refine⟨h.av w' ⟨g,λb c hn=>d.block b c (λe=>hn (.inr e.symm))⟩,λW f=>h.av W ⟨BJ g f.1,λb c hn=>(f.2 b D (λq=> ?_)).trans (d.block b c (λe=>hn (.inr e.symm)))⟩⟩
 grind
theorem JC.row(h:JC W b j a)(d:b≠c)(cs:Array AN):JC (W.setRow c cs) b j a:=(Hc W cs d).trans h
theorem pM{B n k q:Nat}{t a:Bb}(h:w.ownsRow B t k ab n xs)(c:w.1[q]?=Q (.cells ds a (0,0)))(b:t≠a)(cs:Array AN):(w.setRow q cs).ownsRow B t k ab n xs:=
 by grind [ka,YG]
theorem JC.grown(h:JC w b j a){v:AN}(f:w.ownsRow base e s v n xs)(c:w.grownBy w' v.ownBlock)(d:e≠34):JC w' b j a:=
 (c.block b h.lt (λq=>YG f h d q.symm)).trans h
theorem OI{v:AN}(h:w.ownsRow base e s v n xs)(f:∀g,v.ownBlock=Q g->W.1[g]?=w.1[g]?):W.ownsRow base e s v n xs:=by
 obtain⟨a,b|⟨g,T,cur,rfl,c,d,h1⟩⟩:=h
 .exact TZ
 exact⟨a,.inr ⟨g,T,cur,F,c,(f g F).trans d,h1⟩⟩
end
section
open Kp
attribute [local go_sem] Hj Iz J3 Ka Kb Kc J8 Jp Kd Ke JD JE JF Kf Kg Kh
def b4A{rs:List (List Sd)}(h:Lh rs=0):∀r∈rs,r≠[]:=by
 rintro r a rfl;unfold Lh at h;rw[Aj (by rw[QJ];exact .inl (QD.2 ⟨[],a,F⟩))] at h;cases h
def b5l(rs:List (List Sd))(x:CI):Prop:=∃(R:Option An) (n c:Nat) (k:Int),x=Ac (BO #[AK R n c,M G k])/\n<=1000000/\(Lh rs=0->n=ln rs.flatten)
def a47(w:V)(R:Option An)(T:Nat)(rs:List (List Sd))(c:Ew w w.1.size R T rs)(j:ln rs.flatten<=1000000):
  AZ AO 151 #[AW #[AK R (ln rs) T]] w λx w'=>b5l rs x/\Ext w w':=by
 have⟨i0,N,ab,ac,ad⟩:=DM jz;have I0:=A N;have I1:=A ab;have I2:=A ac;have I3:=A ad;have h1:=c.1;have h2:=c.2.1;unfold BM at h2;have g:=A (show Ext w (w.alloc (.cells #[AK R (ln rs) T] 24)) from(Ad _ _).alloc (AS _) _);have y:=A (Bx.new w 24 (AK R (ln rs) T));have t:=(c.below g).more g.size;have⟨l,I⟩:=AP (w.alloc (.cells #[AK R (ln rs) T] 24));rw[I] at g y t;have KC:=A (wK l R T rs t j);have HR:=A t;have ag:=A I;have HB:=A (λW (h:Ext l W)=>(y.below h y.lt).cell);have J:=A j;clear c t j N ab ac ad I;go_enter func151,ntmps151;go_wp2_with(go_at_call 79;fail)
 rw[ag.o];refine KC.mono ?_;have⟨k,m⟩:=AP (Lh rs);rw[m];have ae:=A m;have hk:k=0->∀r∈rs,r≠[]:=λe=>b4A (m.trans e)
 clear m;rintro e W1 ⟨rfl,B⟩;have K:=A B;by_cases C:k=0
 .subst C;have S:=hk F;have af:=A S;clear hk B S;go_wp2_with fail
  have ST:=A (show W1.ownsRow l.1.size 40 7 (AK O 0 0) 0 [] from⟨F,.inl ⟨F,F⟩⟩);go_loopw [4,5] (λv i wr=>xg l rs v i wr) (λ_ i _=>((ln rs:Int)-B8 i).toNat)
  case atStart=>exact⟨0,D,rfl,by simpa using ST.o,K⟩
  obtain⟨k,hk,rfl,U,z⟩:=hrel;have n:=A U;have a:=A z;have c0:=HB _ z;clear U z;by_cases o:k<ln rs
  .obtain⟨b,off,rfl,hB,hcell⟩:=(HR.below a).2.2 D;have⟨Ai,ci,c1,d⟩:=hcell k o;have H:rs.getD k []≠[]:=by
    have e:rs.getD k []=rs[k]:=by rw[CM,Bv o];rfl
    rw[e];exact af _ (Ey o)
   have f:=Tz o;have P:=U2 rs (k+1);have⟨ring,Y⟩:=AP (rs.getD k []);rw[Y] at c1 d H f;have al:0<ln ring:=MW.2 H;obtain⟨ba,oa,rfl,_,_⟩:=id (d.2.2 (by rw[BL];exact al));have aj:=A (d.cells (JW ring) Z);have j:=A (show(Cg ring).flatten.length=ln ring*7 by rw[LF (JW ring),BL]);have am:(rs.take k).flatten.length+ln ring<=1000000:=by rw[f,FN] at P;have:=J.o;omega
   have ak:=A (show∀u∈(Cg ring).flatten,u.oneCell'=AL by
    intro u hu;have⟨r,c,aa⟩:=S8.1 hu;obtain⟨s,_,rfl⟩:=Jg.1 c;simp only[Kt,PW,Nq] at aa;rcases aa with rfl|rfl|rfl|rfl|rfl|rfl|rfl<;>rfl)
   have HQ:=A f;have ai:=a.size;clear hcell d H f P Y;go_wp2_with(at_builtin;(refine Ln _ F _ _ _ F l.1.size 40 i0 _ 7 56 underlying117 I0 I1 I2 I3 F D _ _ _ F n ⟨ba,oa,O⟩ (ln ring) ci (Cg ring).flatten F j aj ak Fp D ai ?_);intro v' w' X L an)
   exact zq
  obtain rfl:k=ln rs:=D;have E:=n.o;rw[Nk] at E;obtain⟨A',ah,rfl,d⟩:=F1 E (by rw[BL]) (JW _);clear E d;go_wp2;go_ret2;exact⟨⟨A',_,ah,_,F,J,λ_=>rfl⟩,g.tr a⟩
 have t0:(k !=0)=AL:=Cd.2 C;clear hk B;go_wp2_with fail
 go_ret2;exact⟨⟨O,0,0,_,F,D,λh=>absurd (ae.symm.trans h) C⟩,g.tr K⟩
def a0b(w:V)(R:Option An)(T:Nat)(rs:List (List Sd))(hr:Ew w w.1.size R T rs)(ag:ln rs.flatten<=1000000)(u:Option An)(co:Nat)(l:List Er)(B:BB 5 w w.1.size u co (Fa l))(d:ln l<=32->∀i,i<ln l->Rv (l.getD i Bu))(ht:CA w)(af:Lh rs=0)(aj:Fe rs=0):
  AZ AO 82 #[AW #[AK R (ln rs) T],AK u (ln l) co] w λx w'=>x=Ac (M G (Ib rs l))/\Ext w w':=by
 have v:Ib rs l=if(F4 l).2≠0 then(F4 l).2 else if l.any (λo=> !N o.Ei 0 ((ln rs.flatten:Int)-1)) then 2 else if(F4 l).1 then 0 else 28:=by
  unfold Ib;rw[aj,Af (show¬((0:Int)≠0) by simp)]
 have r:=λ(k:Nat) (hk:k<ln l) (h:N (l.getD k Bu).Ei 0 ((ln rs.flatten:Int)-1)=AM)=>show l.any (λo=> !N o.Ei 0 ((ln rs.flatten:Int)-1))=AL by
  rw[QD];refine⟨l.getD k Bu,?_,by rw[h];rfl⟩;rw[CM,Bv hk];exact Ey hk
 have z:=λ(h:∀j,j<ln l->N (l.getD j Bu).Ei 0 ((ln rs.flatten:Int)-1)=AL)=>show l.any (λo=> !N o.Ei 0 ((ln rs.flatten:Int)-1))=AM by
  rw[Wr];intro o ho;obtain⟨i,hi,rfl⟩:=JJ.1 ho;have:=h i hi;rw[CM,Bv hi] at this;simp only[Um] at this;rw[this];simp
 have⟨f,S⟩:=AP (ln rs.flatten);rw[S] at v r z;have HF:=A S;have h1:=B.1;have h2:=B.2.1;rw[BL] at h1;unfold BM at h2;have a:=A (show Ext w (w.alloc (.cells #[AK R (ln rs) T] 24)) from(Ad _ _).alloc (AS _) _);have J:=A (Bx.new w 24 (AK R (ln rs) T));have⟨Z,Y⟩:=AP (w.alloc (.cells #[AK R (ln rs) T] 24));rw[Y] at a J;have an:=A Y;have HB:=A (λW (h:Ext Z W)=>(J.below h J.lt).cell);have HL:=A (λ(W:V) (hx:Ext w W)=>((B.below hx).more hx.size:BB 5 W W.1.size u co (Fa l)));have KD:=A (a0h Z u co l (HL _ a) d (ht.below a (AS _)));have KS:=A (λW (h:Ext w W)=>a47 W R T rs ((hr.below h).more h.size) ag);have⟨b,t⟩:=AP ((F4 l).1);have⟨k,hk⟩:=AP ((F4 l).2);have⟨E,L⟩:=AP (Ib rs l);have⟨q,C⟩:=AP (l.any (λo=> !N o.Ei 0 ((f:Int)-1)));rw[t,hk] at KD;rw[L,t,hk,C] at v;rw[L];rw[C] at z;have r:=λk hk h=>C.symm.trans (r k hk h)
 have g:=A v;have al:=A r;have ak:=A z;have am:=A af;clear hr ag Y B d ht v r z af t hk L C aj S;go_enter func82,ntmps82;go_wp2_with(go_at_call 150;fail)
 rw[an.o];refine KD.q λW1 P=>?_;have K:=A P;have c0:=HB _ P;clear P;by_cases U:k=0
 .subst U;have g:=A (show E=if q then 2 else if b then 0 else 28 by rw[g.o,Af AV]);go_wp2_with(go_at_call 151;fail)
  refine(KS _ (a.tr K)).mono ?_;rintro e W2 ⟨⟨As,n,c,k2,rfl,hn,ai⟩,ad⟩;obtain rfl:n=f:=(ai am).trans HF;clear ai;have X2:=A (K.tr ad);clear ad c0;go_wp2_with fail
  go_loopw [9] (λi wr=>∃k:Nat,i=M G (k:Int)/\k<=ln l/\(∀j,j<k->N (l.getD j Bu).Ei 0 ((n:Int)-1)=AL)/\Ext Z wr) (λi _=>((ln l:Int)-B8 i).toNat)
  case atStart=>exact⟨0,F,D,λj hj=>D,X2⟩
  obtain⟨m,rfl,hm,ae,y⟩:=hrel;have aa:=A ae;clear ae;have I:=A y;by_cases ah:m<ln l
  .obtain⟨b',off,rfl,t,hc⟩:=cL (HL _ (a.tr y)) D;have y0:=(hc m ah).1;have⟨s,d⟩:=AP ((l.getD m Bu).Ei);rw[d] at y0;have ac:=A d;have w1:G.wrap ((n:Int)-1)=(n:Int)-1:=DF _ D;have e1:(m:Int)<(ln l:Int):=D;clear y hc t d;go_wp2_with(go_at_call 80;fail)
   refine(U5 _ _ _ _).mono ?_;rintro e W3 ⟨rfl,rfl⟩;have⟨p,X⟩:=AP (!N s 0 ((n:Int)-1));rw[X];have ab:=A X;clear X;cases p
   .go_wp2_with fail
    exact⟨⟨m+1,by go_num,D,λj hj=>(by
     by_cases e:j=m
     .rw[e,ac.o];simpa using ab.o
     exact aa j D),I⟩,Bm⟩
   have H:=A (show E=2 by rw[g.o,al.o m ah (by rw[ac.o];simpa using ab.o),Aj rfl]);go_wp2_with fail
   go_ret;exact⟨MY,a.tr I⟩
  obtain rfl:m=ln l:=D;clear y;have H:=A (show E=if b then 0 else 28 by rw[g.o,ak.o aa.o,Af AV]);cases b;all_goals
   go_wp2_with fail
   go_ret;exact⟨MY,a.tr I⟩
 have t0:(k !=0)=AL:=Cd.2 U;go_wp2_with fail
 go_ret;exact⟨by rw[g.o,Aj U];rfl,a.tr K⟩
def YA(w:V)(j:BG)(a:BU)(hb:EP w w.1.size j a)(o:kq j)(D:ln j.BK.flatten<=8\/24<ln j.BK.flatten)(ht:CA w):
  AZ AO 43 #[AW (P j a)] w λx w'=>x=Ac (M G (Eh j))/\Ext w w':=by
 have b:Eh j=if IY j.name=AM then 13 else if Lh j.BK≠0 then Lh j.BK else if(!N j.Ki 0 65536)=AL then 2 else if(!N j.CF 1 65536)=AL then 2
  else if Fi j.BR≠0 then Fi j.BR else if Ib j.BK j.Bi≠0 then Ib j.BK j.Bi else if JZ j.BT≠0 then JZ j.BT else if Kk j.CV≠0 then Kk j.CV
  else if(!N j.Nj 0 100)=AL then 2 else if GI j.Fv≠0 then GI j.Fv else if J7 j.Bt≠0 then J7 j.Bt else Ip j.BW:=by
  unfold Eh;rw[sE D];simp only[S9]
 have ad:Lh j.BK=0->Fe j.BK=0:=λh=>(sE D).symm.trans h
 have⟨E,K⟩:=AP (Eh j);rw[K] at b⊢;clear K;have c:=A (show Ext w (w.alloc (.cells (P j a) 34)) from(Ad _ _).alloc (AS _) _);have C:JC (w.alloc (.cells (P j a) 34)) w.1.size j a:=Bq w _;have⟨d,I⟩:=AP (w.alloc (.cells (P j a) 34));rw[I] at c C;have af:=A I;have l:=A (λW (h:Ext d W) i=>(JC.ext C h).cell i);have g:=A (λW (h:Ext d W)=>hb.grow (c.tr h));have J:=A (λW (h:Ext d W)=>ht.below (c.tr h) (AS _));have KN:=A (λW=>wC j.name W o.name);have KP:=A (λW (h:Ext d W)=>wK W a.pa a.pc j.BK (g W h).p o.BK);have KU:=A (λW (h:Ext d W)=>a1A W a.ua a.uc j.BR (g W h).u);have KO:=A (λW (h:Ext d W)=>λac=>a0b W a.pa a.pc j.BK (g W h).p o.BK a.oa a.oc j.Bi (g W h).o o.ops (J W h) ac (ad ac));have KZ:=A (λW (h:Ext d W)=>a4Z W a.za a.zc j.BT (g W h).z);have KB:=A (λW (h:Ext d W)=>a4q W a.ba a.bc j.CV (g W h).b);have KT:=A (λW=>a0t j.Fv W);have KL:=A (λW (h:Ext d W)=>a4F W a.la a.lc j.Bt (g W h).l o.Bt (J W h));have KS:=A (λW (h:Ext d W)=>a3o W a.sa a.sc j.BW (g W h).s);have f:=A b;clear hb o ht I C b ad D;go_enter func43,ntmps43;go_wp2_with(go_at_call 78;fail)
 rw[af.o];have X0:=A (Ext.B9 d);refine(KN _).mono ?_;have⟨b1,aa⟩:=AP (IY j.name);have b:=f.o;rw[aa] at b⊢;clear aa;rintro e W1 ⟨rfl,F⟩;have L:Ext d W1:=by first|(rw[F];exact Ext.B9 _)|(rw[<-F];exact Ext.B9 _)
 clear F;have r:=A (X0.tr L);have c1:=l _ r;clear L;cases b1
 case false=>
  have H:=A (show E=13 by rw[b,Aj rfl]);clear b;go_wp2_with fail
  go_ret;exact⟨MY,c.tr r⟩
 rw[Af AV] at b;have f:=A b;clear b;go_wp2_with(go_at_call 79;fail)
 refine(KP _ r).q λW2 R=>?_;have q:=A (r.tr R);have c2:=l _ q;clear R c1;have⟨k,hk⟩:=AP (Lh j.BK);have b:=f.o;rw[hk] at b⊢;have n:=A hk;clear hk;by_cases h:k=0
 case neg=>
  have t:(k !=0)=AL:=Cd.2 h;have H:=A (show E=k by rw[b,Aj h]);clear b;go_wp2_with fail
  go_ret;exact⟨MY,c.tr q⟩
 subst h;rw[Af AV] at b;have f:=A b;have ae:=n;clear b;go_wp2_with(go_at_call 80;fail)
 refine(U5 _ _ _ _).mono ?_;rintro e ab ⟨rfl,rfl⟩;have⟨p,m⟩:=AP (!N j.Ki 0 65536);have b:=f.o;rw[m] at b⊢;clear m;cases p
 case true=>
  exact a0M
 rw[Af AV] at b;have f:=A b;clear b;go_wp2_with(go_at_call 80;fail)
 refine(U5 _ _ _ _).mono ?_;rintro e ab ⟨rfl,rfl⟩;have⟨p,m⟩:=AP (!N j.CF 1 65536);have b:=f.o;rw[m] at b⊢;clear m;cases p
 case true=>
  exact a0M
 rw[Af AV] at b;have f:=A b;clear b;go_wp2_with(go_at_call 81;fail)
 refine(KU _ q).q λW3 S=>?_;have s:=A (q.tr S);have c3:=l _ s;clear S c2;have⟨k,hk⟩:=AP (Fi j.BR);have b:=f.o;rw[hk] at b⊢;have n:=A hk;clear hk;by_cases h:k=0
 case neg=>
  have t:(k !=0)=AL:=Cd.2 h;have H:=A (show E=k by rw[b,Aj h]);clear b;go_wp2_with fail
  go_ret;exact⟨MY,c.tr s⟩
 subst h;rw[Af AV] at b;have f:=A b;clear b;go_wp2_with(go_at_call 82;fail)
 refine(KO _ s ae).q λW4 T=>?_;have u:=A (s.tr T);have c4:=l _ u;clear T c3;have⟨k,hk⟩:=AP (Ib j.BK j.Bi);have b:=f.o;rw[hk] at b⊢;have n:=A hk;clear hk;by_cases h:k=0
 case neg=>
  have t:(k !=0)=AL:=Cd.2 h;have H:=A (show E=k by rw[b,Aj h]);clear b;go_wp2_with fail
  go_ret;exact⟨MY,c.tr u⟩
 subst h;rw[Af AV] at b;have f:=A b;clear b;go_wp2_with(go_at_call 83;fail)
 refine(KZ _ u).q λW5 U=>?_;have v:=A (u.tr U);have c5:=l _ v;clear U c4;have⟨k,hk⟩:=AP (JZ j.BT);have b:=f.o;rw[hk] at b⊢;have n:=A hk;clear hk;by_cases h:k=0
 case neg=>
  have t:(k !=0)=AL:=Cd.2 h;have H:=A (show E=k by rw[b,Aj h]);clear b;go_wp2_with fail
  go_ret;exact⟨MY,c.tr v⟩
 subst h;rw[Af AV] at b;have f:=A b;clear b;go_wp2_with(go_at_call 84;fail)
 refine(KB _ v).q λW6 X=>?_;have y:=A (v.tr X);have c6:=l _ y;clear X c5;have⟨k,hk⟩:=AP (Kk j.CV);have b:=f.o;rw[hk] at b⊢;have n:=A hk;clear hk;by_cases h:k=0
 case neg=>
  have t:(k !=0)=AL:=Cd.2 h;have H:=A (show E=k by rw[b,Aj h]);clear b;go_wp2_with fail
  go_ret;exact⟨MY,c.tr y⟩
 subst h;rw[Af AV] at b;have f:=A b;clear b;go_wp2_with(go_at_call 80;fail)
 refine(U5 _ _ _ _).mono ?_;rintro e ab ⟨rfl,rfl⟩;have⟨p,m⟩:=AP (!N j.Nj 0 100);have b:=f.o;rw[m] at b⊢;clear m;cases p
 case true=>
  have H:=A (show E=2 by rw[b,Aj rfl]);clear b;go_wp2_with fail
  go_ret;exact⟨MY,c.tr y⟩
 rw[Af AV] at b;have f:=A b;clear b;go_wp2_with(go_at_call 85;fail)
 refine(KT _).q λW7 Y=>?_;have z:=A (y.tr Y);have c7:=l _ z;clear Y c6;have⟨k,hk⟩:=AP (GI j.Fv);have b:=f.o;rw[hk] at b⊢;have n:=A hk;clear hk;by_cases h:k=0
 case neg=>
  have t:(k !=0)=AL:=Cd.2 h;have H:=A (show E=k by rw[b,Aj h]);clear b;go_wp2_with fail
  go_ret;exact⟨MY,c.tr z⟩
 subst h;rw[Af AV] at b;have f:=A b;clear b;go_wp2_with(go_at_call 86;fail)
 refine(KL _ z).q λW8 Z=>?_;have B:=A (z.tr Z);have c8:=l _ B;clear Z c7;have⟨k,hk⟩:=AP (J7 j.Bt);have b:=f.o;rw[hk] at b⊢;have n:=A hk;clear hk;by_cases h:k=0
 case neg=>
  have t:(k !=0)=AL:=Cd.2 h;have H:=A (show E=k by rw[b,Aj h]);clear b;go_wp2_with fail
  go_ret;exact⟨MY,c.tr B⟩
 subst h;rw[Af AV] at b;have f:=A b;clear b;go_wp2_with(go_at_call 87;refine(KS _ B).q λW9 ag=>?_;have X9:=A (B.tr ag))
 go_ret;exact⟨Kw,c.tr X9⟩
section
theorem vC{P:Program}{op:Oper}{a:BV}{K:BV->Prop}(ty:Bb)(x:F0)(f:op.op= .load ty x)
  (b o:Nat)(hx:a.eval x=Ap (Q ⟨b,o,O⟩))(cs:List AN)(d:TypeDesc)(c:w.rangeAt b o cs)
  (hu:P.underlying ty=Q d)(e:d.isRow=AL)(hi:(P.info? ty).map (·.size)=Q (ln cs))
  (h:K (a.put op.dst (AW cs.toArray))):op.still P a w K:=by
 unfold Oper.still execOp;simp only[f,hx,Instr.loadAt,Instr.sureAddr,Ug,Uh,Ul,run_loadVar_mid w b o ty cs d c hu e hi];exact⟨F,h⟩
attribute [local go_sem] Ty Qj OH Eb
def jq(w:V)(l:Log)(a a':Cb)(r:Dz w w.1.size l a)(s:Dz w w.1.size l a'):
  AZ AO 14 #[AW (BQ l a),AW (BQ l a')] w λe w'=>e=Ac (AU AL)/\Ext w w':=by
 have⟨W0,d⟩:=AP ((w.alloc (.cells (BQ l a) 38)).alloc (.cells (BQ l a') 38));have I:Ext w W0:=mR;have E0:=A I;have k:=A (λ(W:V) (h:Ext W0 W)=>(show LC W w.1.size l a from LC.ext (by rw[<-d];exact LC.ext (Bq w _) ((Ad _ _).alloc (AS _) _)) h));have o:=A (λ(W:V) (h:Ext W0 W)=>(show LC W (w.1.size+1) l a' from LC.ext (by
  have h:=(Bq (w.alloc (.cells (BQ l a) 38)) (.cells (BQ l a') 38));rw[D5] at h;rw[<-d];exact h) h))
 have P:=A (λ(W:V) (h:Ext W0 W)=>r.grow (I.tr h));have R:=A (λ(W:V) (h:Ext W0 W)=>s.grow (I.tr h));have HW:=A d;have K0:=A (kC W0 l.BI a.ja a'.ja (P _ (Ext.B9 _)).j (R _ (Ext.B9 _)).j);have h1:=r.e.1;have h2:=r.e.2.1;have al:=s.e.1;have ah:=s.e.2.1;have g1:=r.u.1;have g2:=r.u.2.1;have af:=s.u.1;have ag:=s.u.2.1;rw[BL] at g1 af;unfold BM at h2 ah g2 ag;clear d I r s;go_enter func14,ntmps14;go_upto_region 1 with(fail)
 rw[HW.o];go_wp2_with(first
  |(go_at_call 9;fail)
  |(refine Qd BE _ rfl _ _ rfl _ _ (k _ (Ext.B9 _)).BI ?_)
  |(refine Qd BE _ rfl _ _ rfl _ _ (o _ (Ext.B9 _)).BI ?_))
 refine K0.q λW1 q=>?_;have X1:=A q;have p5:=(k _ q).cell 15;have p6:=(k _ q).cell 16;have q5:=(o _ q).cell 15;have q6:=(o _ q).cell 16;clear q;go_wp2;go_loopw [5] (λi wr=>UU W0 (ln l.BS) i wr) (λi _=>((ln l.BS:Int)-B8 i).toNat)
 case atStart=>exact⟨0,D,rfl,X1⟩
 obtain⟨m,hm,rfl,L⟩:=hrel;have HX:=A L;have p5:=(k _ L).cell 15;have q5:=(o _ L).cell 15;clear L;by_cases ae:m<ln l.BS
 .have aj:AQ ((m:Int)<(ln l.BS:Int))=AL:=CP D;have e3:(m:Int)<(ln l.BS:Int):=D;go_wp2_with fail
  refine On 10 U U (λW3 ac=> ?_);have t:=A (HX.tr ac);have p5:=(k _ t).cell 15;have q5:=(o _ t).cell 15;obtain⟨b,off,f,u,-,B⟩:=(P _ t).e.at D;obtain⟨S,ab,J,y,-,E⟩:=(R _ t).e.at D;have⟨c,g⟩:=B m ae;have⟨j,T⟩:=E m ae;have⟨ed,ad⟩:=AP (l.BS.getD m BZ);rw[ad] at c j g T;have K:=A (kQ W3 ed (f m).1 (J m).1 (f m).2 (J m).2 g T);have⟨v,Y⟩:=AP (FO (f m).1 (ln ed.Aa) (f m).2);have⟨v',aa⟩:=AP (FO (J m).1 (ln ed.Aa) (J m).2);rw[Y,aa] at K;rw[Y] at c;rw[aa] at j;rw[Qj,u] at p5;rw[Qj,y] at q5;rw[DL] at c j;have C:=A c;have C':=A j;clear B E g T c j ac ad Y aa u y;simp only[S7,RC,FV,FY];iterate 4 still_step
  refine Wv (λK z=> ?_);rw[Aj BE];refine vC 54 _ F b (off+m*37) F (Ah ed v).toList _ C Cc F U ?_;refine z _ ?_;clear z K;iterate 4 still_step
  refine Wv (λK z=> ?_);rw[Aj BE];refine vC 54 _ F S (ab+m*37) F (Ah ed v').toList _ C' Cc F U ?_;refine z _ ?_;clear z K;refine TM ?_;go_wp2_with(go_at_call 22;refine K.q λW4 ai=>?_)
  exact⟨⟨m+1,D,AV,t.tr ai⟩,Bm⟩
 have aj:AQ ((m:Int)<(ln l.BS:Int))=AM:=Bw D;go_wp2;go_loopw [6] (λi wr=>UU W0 (ln l.BP) i wr) (λi _=>((ln l.BP:Int)-B8 i).toNat)
 case atStart=>exact⟨0,D,rfl,HX⟩
 obtain⟨n,hn,rfl,N⟩:=hrel;have H:=A N;have p6:=(k _ N).cell 16;have q6:=(o _ N).cell 16;clear N;by_cases X:n<ln l.BP
 .obtain⟨b,off,u,-,B⟩:=(P _ H).u.2.2 QM;obtain⟨S,ab,y,-,E⟩:=(R _ H).u.2.2 QM;have c:=B n (by rw[BL];exact X) 0 Z;have j:=E n (by rw[BL];exact X) 0 Z;rw[H7,Dh,CM,Ku,Bv X] at c j;have d0:wr.cell? ⟨b,off+n,O⟩=Q (AU l.BP[n]):=c;have d1:wr.cell? ⟨S,ab+n,O⟩=Q (AU l.BP[n]):=j;have⟨x,hx⟩:=AP (l.BP[n]);rw[hx] at d0 d1;rw[OH,u] at p6;rw[OH,y] at q6;have ak:AQ ((n:Int)<(ln l.BP:Int))=AL:=CP D;have e4:(n:Int)<(ln l.BP:Int):=D;clear B E c j hx u y;cases x;all_goals
   go_wp2_with fail
   go_quiet (fail)
   go_wp2;exact⟨⟨n+1,D,AV,below_drewN H _⟩,Bm⟩
 have ak:AQ ((n:Int)<(ln l.BP:Int))=AM:=Bw D;go_wp2;go_ret;exact⟨F,E0.tr H⟩
end
end
section
open Kp Go.ChangeShapes Go.WideShapes Go.Deep
section
def a5Z:AO.cellsOf 38=17:=U
def a5A:AO.cellsOf 35=1:=U
def a5T:AO.cellsOf 36=1:=U
section
variable {H : Type} {ad : Bb × AN → H} {w : V} {base : Nat} {sp : Nat → Bool} {ae : Bool}
theorem a3V{c:AN}{x:D6 H×List Dw}(h:ET ad AO w base sp ae n 36 [c]=Q x):
  ∃(R:Option An) (T:Nat) (l:List Bool),c= .slice R (ln l) T/\BB 1 w w.1.size R T (GV l):=by
 have⟨R,T,l,h1,h2,_⟩:=Qi underlying36 qi Z (λb=>[Value.bool b]) AM (λ_ _=>True) (λn cs y a d=>by
  match cs,a with
  |[c],_=>grind [wj]) h
 grind
theorem a4S{c:AN}{x:D6 H×List Dw}(h:ET ad AO w base sp ae n 35 [c]=Q x):
  ∃(R:Option An) (T:Nat) (l:List Ed),c= .slice R (ln l) T/\Iq w w.1.size R T l/\∀e∈l,Bh e.Ae:=by
 obtain⟨R,T,l,h1,⟨h2,g,k⟩,ds,u,_,d⟩:=Qi underlying35 oT Z (λt=>(Ah t.1 (.slice t.2.1 (ln t.1.Aa) t.2.2)).toList) (BZ,O,0) (λt _=>C8 w _ t.2.1 t.2.2 t.1.Aa/\Bh t.1.Ae) (λn cs y o q=>by
  obtain⟨e,ga,gc,a,m,_,hi⟩:=wQ o q;exact⟨(e,ga,gc),a,m,hi⟩) h
 have f:∀i,i<ln l->(l.map (·.1)).getD i BZ=(l.getD i (BZ,O,0)).1:=Al;refine⟨R,T,l.map (·.1),Al,⟨Al,g,λs=> ?_⟩,λe a=> ?_⟩
 .obtain⟨b,off,e,hb,hc⟩:=k Al;refine⟨b,off,e,hb,λi hi=> ?_⟩;rw[BL] at hi;refine⟨(l.getD i (BZ,O,0)).2.1,(l.getD i (BZ,O,0)).2.2,λj v r=> ?_,?_⟩
  .have hj:j<37:=(Wb.1 r).1
   grind
  rw[f i hi];exact(d i _ (Bv D)).1
 obtain⟨i,hi,rfl⟩:=JJ.1 a;rw[BL] at hi;have:=(d i _ (Bv D)).2
 grind
def a7j{r:Reach}{i:Nat}{v:AN}{d:D6 H}{p:List Dw}(J:Value.okWide AO w r i 38 v)(h:DataW.Trod ad AO w base sp ae 38 v d p):
  ∃(l:Log) (a:Cb),v= .agg (BQ l a)/\Dz w w.1.size l a/\ln l.BI.BK.flatten<=Rows.uptoBulk d/\∀e∈l.BS,Bh e.Ae:=by
 obtain⟨cs,rfl,E⟩:=okWide_struct underlying38 J;obtain⟨l⟩:=cs;have S:ln l=17:=E.trans a5Z;obtain⟨N,y⟩:=h;have⟨xs,m,_,hx,_,c,b⟩:=PT underlying38 y;have⟨g,K,k⟩:=Cw c b 0 a54 F F;have⟨V,T,n⟩:=Cw c b 1 a5A F F;have⟨W,U,s⟩:=Cw c b 2 a5T F F;have k1:(l.drop 15).take 1=[l[15]' D]:=by
  grind [List.drop_eq_getElem_cons]
 have k2:(l.drop 16).take 1=[l[16]' D]:=by
  grind [List.drop_eq_getElem_cons]
 have⟨j,a,A,B,R⟩:=a6Z Al k;have o:=k1▸n;have t:=k2▸s;have⟨ea,ec,f,u,x,z⟩:=a4S o;have⟨ua,uc,us,hu,I⟩:=a3V t;have C:l=(BQ ⟨j,f,us⟩ ⟨a,ea,ec,ua,uc⟩).toList:=by
  have q:=(WY 15 l).symm;rw[lT D,lT D,List.drop_of_length_le D,u,hu] at q;rw[q,show l.take 15=(P j a).toList from A]
  rfl
 refine⟨⟨j,f,us⟩,⟨a,ea,ec,ua,uc⟩,by rw[C],⟨B,x,I⟩,?_,z⟩;have L:=kU (Jg.2 ⟨g,SH K,F⟩:g.1∈xs.map _)
 grind [Rows.uptoBulk]
end
end
end
section
open Kp
attribute [local go_sem] Eb Hj Ty OH Qj
def jJ{fn:Func}{p u v:Tmp}(h:fn.results=#[.cell p 34,.tmp u,.tmp v])(tmps:Array AN)(w:V)(g:Nat)(cs:Array AN)
  (c:tmps.getD p Ba=Ap (Q ⟨g,0,O⟩))(a:w.1[g]?=Q (.cells cs 34 (0,0)))(hi:(AO.info? 34).map (·.size)=Q cs.size):
  (results fn tmps).run AO w= .ok (BO #[AW cs,tmps.getD u Ba,tmps.getD v Ba]) w:=by
 have d:tmps[p]?.getD Ba=Ap (Q ⟨g,0,O⟩):=by simpa using c
 have b:=eJ (P:=AO) w g 34 34 cs (0,0) _ a DV F hi;simp[results,h,d,asAddr,b,Result.andThen]
def fm(a:List Ed)(us:List Bool)(j:BG)(k:Nat):Gk a us j (k+1)=if Xl (Fg a us j k) (a.getD k BZ) (us.getD k AM)=AL then Gk a us j k++[(k:Int)] else Gk a us j k:=by
 unfold Gk;show(if _ then _ else _:List Nat).map _=_;split <;>simp_all
def pQ(a:List Ed)(us:List Bool)(j:BG):∀k,(aO a us j k).length<=k:=by
 intro k
 induction k with
 |zero=>exact AS _
 |succ k b=>
  show(if _ then _ else _:List Nat).length<=_;split
  .rw[FN,eD];omega
  omega
def WW(X:Nat->Prop)(c:Nat)(b:Nat):Prop:=X b\/b=c\/b=c+1
structure LQ(X:Nat->Prop)(w:V)(a:List Ed)(us:List Bool)(j:BG)(k:Nat)(lf:AN)(wr:V):Prop where
 ext:Ext w wr
 Pk:w.1.size+2<=wr.1.size
 mem:∃aj,JC wr w.1.size (Fg a us j k) aj/\Bc (λb=>WW X w.1.size b\/lf.ownBlock=Q b) wr wr.1.size (Fg a us j k) aj
 res:JC wr (w.1.size+1) CG Cl
 Ag:wr.ownsRow (w.1.size+2) 3 1 lf (Gk a us j k).length (Cy (Gk a us j k)).flatten
theorem LQ.same{X:Nat->Prop}{a:List Ed}(h:LQ X w a us j k lf wr)(hx:Ext wr W)(hu:us.getD k AM=AL):LQ X w a us j (k+1) lf W:=by
 have b:Fg a us j (k+1)=Fg a us j k:=by show Ni _ _ _=_;unfold Ni;rw[Aj hu]
 have c:Gk a us j (k+1)=Gk a us j k:=by rw[fm];unfold Xl;rw[hu];rfl
 obtain⟨aj,h1,h2⟩:=h.mem;exact⟨h.ext.tr hx,BJ h.Pk hx.size,⟨aj,by rw[b];exact JC.ext h1 hx,by rw[b];exact h2.grow hx⟩,JC.ext h.res hx,by rw[c];exact EV h.Ag hx⟩
theorem LQ.IL{X:Nat->Prop}{a:List Ed}(h:LQ X w a us j k lf wr)(hx:Ext wr W)(hu:us.getD k AM=AM)(e:Hf (Fg a us j k) (a.getD k BZ)=0)
  (g:Bc (λb=>WW X w.1.size b\/lf.ownBlock=Q b) W W.1.size (IX (Fg a us j k) (a.getD k BZ)) a'):LQ X w a us j (k+1) lf (W.setRow w.1.size (P (IX (Fg a us j k) (a.getD k BZ)) a')):=by
 have c:Fg a us j (k+1)=IX (Fg a us j k) (a.getD k BZ):=by show Ni _ _ _=_;unfold Ni;rw[hu,Af Z,Aj e]
 have f:Gk a us j (k+1)=Gk a us j k:=by rw[fm];unfold Xl;rw[hu,e];rfl
 obtain⟨aj,h1,h2⟩:=h.mem;have d:=JC.ext h1 hx;refine⟨CL (h.ext.tr hx) (AS _) _,?_,⟨a',?_,?_⟩,?_,?_⟩
 .rw[size_setRow];exact BJ h.Pk hx.size
 .rw[c];exact setRow_heap d _
 .rw[c];exact g.row (.inl (.inr (.inl F))) _
 .exact(JC.ext h.res hx).row D _
 rw[f];exact pM (EV h.Ag hx) d Z _
theorem LQ.xc{X:Nat->Prop}{a:List Ed}{lf e:AN}(h:LQ X w a us j k lf wr)(hx:Ext wr W)(hu:us.getD k AM=AM)(g:Hf (Fg a us j k) (a.getD k BZ)≠0)
  (n:y.ownsRow (w.1.size+2) 3 1 e ((Gk a us j k).length+1) ((Cy (Gk a us j k)).flatten++[M G (k:Int)]))(c:W.grownBy y lf.ownBlock)(m:∀b,e.ownBlock=Q b->lf.ownBlock=Q b\/W.1.size<=b):LQ X w a us j (k+1) e y:=by
 have f:Fg a us j (k+1)=Fg a us j k:=by show Ni _ _ _=_;unfold Ni;rw[hu,Af Z,Af g]
 have i:Gk a us j (k+1)=Gk a us j k++[(k:Int)]:=by rw[fm];unfold Xl;rw[hu,CP g];rfl
 obtain⟨aj,h1,h2⟩:=h.mem;have l:=JC.ext h1 hx;have d:=EV h.Ag hx;refine⟨KY (h.ext.tr hx) c (λq o=>BJ D (DS d q o).1),BJ h.Pk (BJ hx.size c.size),⟨aj,?_,?_⟩,?_,?_⟩
 .rw[f];exact l.grown d c Z
 .rw[f];exact(h2.grow hx).grown c m
 .exact(JC.ext h.res hx).grown d c Z
 rw[i,FN,show Cy (Gk a us j k++[(k:Int)])=Cy (Gk a us j k)++Cy [(k:Int)] from PU,QB];exact n
def iD(X:Nat->Prop)(w:V)(a:List Ed)(us:List Bool)(j:BG)(x:CI)(w':V):Prop:=
 ∃a' L lc,x=Ac (BO #[AW (P (Fg a us j (ln a)) a'),AK L (Gk a us j (ln a)).length lc,M G 0])/\Ext w w'/\Bc (λb=>X b\/(FO L (Gk a us j (ln a)).length lc).ownBlock=Q b) w' w'.1.size (Fg a us j (ln a)) a'/\w'.ownsRow w.1.size 3 1 (AK L (Gk a us j (ln a)).length lc) (Gk a us j (ln a)).length (Cy (Gk a us j (ln a))).flatten
theorem LQ.done{X:Nat->Prop}{a:List Ed}{m lc:Nat}(h:LQ X w a us j n (AK L m lc) wr)(c:Bc (λb=>WW X w.1.size b\/(FO L m lc).ownBlock=Q b) wr wr.1.size (Fg a us j n) aj):
  m=(Gk a us j n).length/\Ext w (wr.setRow (w.1.size+1) (P (Fg a us j n) aj))/\Bc (λb=>X b\/(FO L m lc).ownBlock=Q b) (wr.setRow (w.1.size+1) (P (Fg a us j n) aj)) (wr.setRow (w.1.size+1) (P (Fg a us j n) aj)).1.size (Fg a us j n) aj
   /\(wr.setRow (w.1.size+1) (P (Fg a us j n) aj)).ownsRow w.1.size 3 1 (AK L m lc) (Gk a us j n).length (Cy (Gk a us j n)).flatten:=by
 have d:=pM h.Ag h.res Z (P (Fg a us j n) aj);have⟨g,k,e,i⟩:=F1 d (BL _) (G9 (f:=λn=>[M G n]) (λ_=>rfl) _);exact⟨by injection e,CL h.ext D _,(c.row (.inl (.inr (.inr rfl))) _).mono (λb _ c=>c.imp .inl id),Lv d D⟩
def Zl(w:V)(j:BG)(a:BU):∃W0,Hid ((w.alloc (.cells (P j a) 34)).alloc (.cells #[AT {data:=#[]},AK O 0 0,M G 0,M G 0,AK O 0 0,AK O 0 0,AK O 0 0,AK O 0 0,M G 0,M G 0,M G 0,M G 0,M G 0,AK O 0 0,AK O 0 0] 34)=W0)/\W0.1.size=w.1.size+2/\Ext w W0/\JC W0 w.1.size j a/\JC W0 (w.1.size+1) CG Cl:=by
 refine⟨_,A F,AV,((Ad _ _).alloc (AS _) _).alloc AV _,JC.ext (Bq w _) ((Ad _ _).alloc (AS _) _),?_⟩;have:=Bq (w.alloc (.cells (P j a) 34)) (.cells (P CG Cl) 34);exact XE
def a4B (w : V) (j : BG) (a : BU) (e : List Ed) (us : List Bool) (R : Option An) (T : Nat) (A' : Option An) (aq m B : Nat) {X : Nat -> Prop} (hb : Bc X w w.heap.size j a) (hX : ∀ b, X b -> b < w.heap.size)
    (he : Iq w B R T e) (hu : BB 1 w B A' aq (GV us)) (hB : B <= w.heap.size) (ar : ∀ b, b < B -> ¬ X b) (J : LK e us j m) (hm : En w) (ht : CA w) :
    AZ AO 17 #[AW (P j a), AK R e.length T, AK A' us.length aq] w (iD X w e us j) := by
  obtain ⟨W0, HW, aS, n, hJ, hR⟩ := Zl w j a;have HJ := A hJ;have aU := A n;have HX := A hX;have HR := A J;have HE := A he;have HU := A hu;have l := A hB;have aJ := A ar;have HM := A (λ(W : V) (h : Ext w W) => hm.below h (AS _));have HT := A (λ(W : V) (h : Ext w W) => ht.below h (AS _));have N := A (show LQ X w e us j 0 (AK O 0 0) W0 from ⟨n, D, ⟨a, hJ, ⟨hb.toEP.grow n, λW E => hb.av W ⟨BJ n.size E.1, λb h1 h2 => (E.2 b D (by
    rintro ((q | q | q) | q)
    · exact h2 q
    · omega
    · omega
    · cases q)).trans (n.block b h1)⟩⟩⟩, hR, Qz _ _ _ _⟩)
  have KJ := A (VR W0 j a (hb.toEP.grow n) J.sm (HM.o _ n) (HT.o _ n));rw [J.ok] at KJ;have aG := J.eq;have h4 := J.Om;rw [aG];obtain ⟨i0, aE, K, aH, aI⟩ := DM OG;have I0 := A aE;have I1 := A K;have I2 := A aH;have I3 := A aI;clear hJ hR hb hX he hu hB ar J hm ht aE K aH aI aS n aG;go_enter func17, ntmps17;go_upto_region 1 with (fail)
  rw [HW.o];go_wp2_with (first
    | (go_at_call 41; refine KJ.o.mono ?_; rintro x1 W1 ⟨rfl, au⟩; have v := A au; clear au)
    | (refine Ce rfl 34 _ rfl _ rfl 34 _ (0, 0) _ HJ.o DV rfl U ?_))
  have H1 := A (show LQ X w e us j 0 (AK O 0 0) W1 by
    obtain ⟨aj, s, t⟩ := N.o.mem;exact ⟨N.o.ext.tr v.o, BJ N.o.Pk v.o.size, ⟨aj, JC.ext s v.o, t.grow v.o⟩, JC.ext N.o.res v.o, EV N.o.Ag v.o⟩)
  go_loopw [9, 33] (λlf i wr => ∃ k : Nat, i =M G (k : Int) /\ k <= e.length /\ LQ X w e us j k lf wr) (λ_ i _ => ((e.length : Int) - B8 i).toNat)
  case atStart => exact ⟨0, F, D, H1.o⟩
  case round =>
    obtain ⟨k, rfl, hk, hI⟩ := hrel;obtain ⟨L, ln, lc, aR⟩ := Fx.of hI.Ag;subst aR;have c := A hI;clear hI;by_cases aF : k < e.length
    · obtain ⟨b, off, f, hA, ax, hc⟩ := HE.o.at D
      obtain ⟨ai, aC⟩ := hc k aF;obtain ⟨b', aT, aO, ay, az⟩ := HU.o.2.2 (by rw [BL, HR.o.eq]; omega);subst hA aO;have aA : w.cell? ⟨b', aT + k, O⟩ = Q (AU (us.getD k AM)) := by
        have q := az k (by rw [BL, HR.o.eq]; omega) 0 Z;rw [H7, Dh] at q;rw [q, CM, Ku, CM, Bv (show k < us.length by rw [HR.o.eq]; omega)]
        rfl
      rw [DL] at ai;have aP : b < w.heap.size := Dj ax l.o;have aQ : b' < w.heap.size := Dj ay l.o;have aa := A (λ(W : V) (h : Ext w W) => jB ai h aP);have ae := A (λ(W : V) (h : Ext w W) => (Below.cell h aQ).trans aA);have af := A aC;obtain ⟨u, hu⟩ : ∃ u, us.getD k AM = u := ⟨_, F⟩;rw [hu] at ae;have ag := A hu;obtain ⟨ed, ad⟩ : ∃ ed, e.getD k BZ = ed := ⟨_, F⟩;have S := A ad;rw [ad] at aa;rw [ad] at af;obtain ⟨g, hg⟩ : ∃ g, FO (f k).1 ed.Aa.length (f k).2 = g := ⟨_, F⟩;have HG := A hg;have ap := A (show ((Ah ed g).all λx => x.oneCell') = AL by rw [<- hg]; kernel_rfl);rw [hg] at aa;clear hc ai aC az aA ax ay hu ad hg;cases u with
      | true =>
        go_wp2_with (first
          | (refine j7 rfl _ rfl b (off + k * 37) rfl _ _ (aa.o _ c.o.ext) ?_)
          | (refine C7 rfl 54 _ _ rfl _ _ rfl rfl 54 _ (Bq _ _) U U ap.o ?_
             generalize H : F8 _ _ (Ah ed g) = W2;have d := A (show Ext _ W2 from by rw [<- H]; exact CL ((Ad _ _).alloc (AS _) _) (AS _) _);have cu := ae.o _ (c.o.ext.tr d.o);clear H))
        exact ⟨⟨k + 1, by go_num, D, c.o.same d.o ag.o⟩, MX⟩
      | false =>
        obtain ⟨aj, s, t⟩ := c.o.mem;have Y := A s;have V1 := A t;have ah := HR.o.ap aF;rw [S.o] at ah;have an := A ah;obtain ⟨jk, al⟩ : ∃ x, Fg e us j k = x := ⟨_, F⟩;have ab := A al;rw [al] at Y V1 an;clear s t ah al;go_wp2_with (first
          | (go_at_call 42; fail)
          | (refine j7 rfl _ rfl b (off + k * 37) rfl _ _ (aa.o _ c.o.ext) ?_)
          | (refine Ce rfl 34 _ rfl _ rfl 34 _ (0, 0) _ J2.o DV rfl U ?_)
          | (refine Ce rfl 54 _ rfl _ rfl 54 _ (0, 0) _ D2.o Cc rfl U ?_)
          | (refine C7 rfl 54 _ _ rfl _ _ rfl rfl 54 _ (Bq _ _) U U ap.o ?_
             generalize H : F8 _ _ (Ah ed g) = W2;have d := A (show Ext wr W2 from by rw [<- H]; exact CL ((Ad _ _).alloc (AS _) _) (AS _) _);have D2 := A (show EC W2 wr.heap.size (Ah ed g) from by rw [<- H]; exact setRow_heap (Bq _ _) _);have J2 := A (JC.ext Y.o d.o);have cu := ae.o _ (c.o.ext.tr d.o);clear H))
        have KA := A (ng W2 jk aj ed (f k).1 (f k).2 (V1.o.grow d.o) ((af.o.below ((c.o.ext.tr d.o).mono l.o)).more (BJ l.o (c.o.ext.tr d.o).size))
          (λW E => (af.o.off (BJ (c.o.ext.tr d.o).size E.1) (λq r => (E.2 q (Dj r (BJ l.o (c.o.ext.tr d.o).size)) (by
            rintro ((h1 | h1 | h1) | h1)
            · exact aJ.o q r h1
            · have := l.o; omega
            · have := l.o; omega
            · have h2 := (DS c.o.Ag q h1).1
              have := l.o;omega)).trans ((c.o.ext.tr d.o).block q (Dj r l.o)))).more (BJ l.o (BJ (c.o.ext.tr d.o).size E.1)))
          (λq r => by
            have h3 := c.o.Pk;have h4 := d.o.size;rcases r with (h1 | h1 | h1) | h1
            · have := HX.o q h1; omega
            · omega
            · omega
            · have h2 := (DS c.o.Ag q h1).2; omega) an.o (HM.o _ (c.o.ext.tr d.o)) (HT.o _ (c.o.ext.tr d.o)))
        rw [HG.o] at KA;obtain ⟨z, hz⟩ : ∃ z, Hf jk ed = z := ⟨_, F⟩;obtain ⟨j', ak⟩ : ∃ z, IX jk ed = z := ⟨_, F⟩;have HZ := A hz;have ao := A ak;unfold XN at KA;rw [hz, ak] at KA;clear hz ak;refine KA.o.mono ?_;rintro x3 o ⟨a', rfl, av, aw⟩;have X3 := A (d.o.tr av);have B3 := A aw;clear av aw;by_cases K : z = 0
        · subst K
          go_wp2_with (first
            | (refine C7 rfl 34 _ _ rfl _ _ rfl rfl 34 _ (Bq o _) U U U ?_
               generalize I : F8 _ o.heap.size (P j' a') = y;have ac := A (show Ext o y by rw [<- I]; exact CL ((Ad _ _).alloc (AS _) _) (AS _) _);have N4 := A (show JC y o.heap.size j' a' by unfold JC; rw [<- I]; exact setRow_heap (Bq o _) _);have C := A (X3.o.tr ac.o);have J4 := A (JC.ext Y.o C.o);clear I)
            | (refine Ce rfl 34 _ rfl _ rfl 34 _ (0, 0) _ N4.o DV rfl U ?_)
            | (refine C7 rfl 34 _ _ rfl _ _ rfl rfl 34 _ J4.o U U U ?_))
          refine ⟨⟨k + 1, by go_num, D, ?_⟩, MX⟩;have q := c.o.IL C.o ag.o (a' := a') (by rw [S.o, ab.o]; exact HZ.o) (by rw [S.o, ab.o, ao.o]; exact B3.o.grow ac.o);rw [S.o, ab.o, ao.o] at q;exact q
        · have tz : (z == 0) = AM := by simpa using K
          have aV : (Gk e us j k).length <= k := by unfold Gk; rw [BL]; exact pQ _ _ _ _
          go_wp2_with (first
            | (refine C7 rfl 34 _ _ rfl _ _ rfl rfl 34 _ (Bq o _) U U U ?_
               generalize I : F8 _ o.heap.size (P j' a') = y;have ac := A (show Ext o y by rw [<- I]; exact CL ((Ad _ _).alloc (AS _) _) (AS _) _);have C := A (X3.o.tr ac.o);have aM := A (EV c.o.Ag C.o);clear I)
            | (at_builtin; (refine uy F _ _ _ F (w.heap.size + 2) 3 i0 _ 1 8 FD I0.o I1.o I2.o I3.o F D _ _ _ F (EV aM.o ((Ad _ _).alloc (AS _) (.cells #[M G (k : Int)] 3))) ⟨y.heap.size, 0, O⟩ 1 1 [M G (k : Int)] F BE (λq u r => by rw [OV, IU, (Az.new y 3 [M G (k : Int)]).cell]; exact r) (by simp [Ks]) (by unfold BM; omega) D (by have := c.o.Pk; have := C.o.size; simp; omega) ?_); intro v' w' am aD aB; have aN := A am; have aL := A aD; have aK := A aB; obtain ⟨A4, n4, c4, e4⟩ := Fx.of am; subst e4; clear am aD aB))
          exact ⟨⟨k + 1, by go_num, D, c.o.xc (C.o.tr ((Ad _ _).alloc (AS _) _)) ag.o (by rw [S.o, ab.o, HZ.o]; exact K) aN.o aL.o aK.o⟩, MX⟩
    · obtain rfl : k = e.length := by omega
      obtain ⟨aj, s, t⟩ := c.o.mem;have Y := A s;have V1 := A t;clear s t;go_wp2_with (first
        | (refine Ce rfl 34 _ rfl _ rfl 34 _ (0, 0) _ Y.o DV rfl U ?_)
        | (refine C7 rfl 34 _ _ rfl _ _ rfl rfl 34 _ c.o.res U U U ?_))
      refine Bp (jJ F _ _ _ _ F (setRow_heap c.o.res _) U) F ?_;obtain ⟨e1, h1, h2, h3⟩ := c.o.done V1.o;subst e1;exact ⟨aj, _, _, F, h1, h2, h3⟩
def Po{fn:Func}{p u:Tmp}(h:fn.results=#[.cell p 38,.tmp u])(tmps:Array AN)(w:V)(g:Nat)(cs:Array AN)
  (c:tmps.getD p Ba=Ap (Q ⟨g,0,O⟩))(a:w.1[g]?=Q (.cells cs 38 (0,0)))(hi:(AO.info? 38).map (·.size)=Q cs.size):
  (results fn tmps).run AO w= .ok (BO #[AW cs,tmps.getD u Ba]) w:=by
 have d:=by simpa using c
 have b:=eJ w g 38 38 cs _ _ a underlying38 F hi;simp[results,h,d,asAddr,b]
theorem a2x(w:V)(l:Log)(a:Cb)(n:Dz w w.1.size l a)(c:LK l.BS l.BP l.BI m)(hm:En w)(o:CA w):
  AZ AO 63 #[AW (BQ l a)] w λx w'=>x=Ac (AU AL)/\Ext w w':=by
 have b:=A (show Ext w (w.alloc (.cells (BQ l a) 38)) from(Ad _ _).alloc (AS _) _);have e:LC _ _ l a:=Bq w _;have⟨q,g⟩:=AP (w.alloc (.cells (BQ l a) 38));rw[g] at b e;have r:=A g;have d:=A (λW (h:Ext q W)=>LC.ext e h);have K:=VR q _ a.ja (n.grow b).j c.sm (hm.below b (AS _)) (o.below b (AS _));rw[c.ok] at K;have s:=A K;have u:=c.eq;have v:=c.Om;have i:((ln l.BS:Int)==(ln l.BP))=AL:=Al;have j:AQ ((ln l.BS:Int)<=4096)=AL:=CP D;have k:=A (Ci i j);clear n c hm o K g e i j u v;go_enter func63,ntmps63;go_wp2_with(first
  |(rw[r.o];refine Qd BE _ F _ _ F _ _ (d _ (Ext.B9 _)).BI ?_))
 refine s.q λW1 f=>?_;have t:=A f;have y:=(d _ f).cell 15;have z:=(d _ f).cell 16;have i:=k.1;have j:=k.2;go_wp2;go_ret;exact⟨F,b.tr t⟩
def gT(l:List Bool):(GV l).flatten=l.map (λb=>Value.bool b):=by
 induction l<;>grind
def Oq(l:List Bool):DG 1 (GV l):=G9 (f:=λb=>[Value.bool b]) (λ_=>rfl) l
def ZX(l:List Bool):GL (GV l):=λr a u hu=>by
 obtain⟨s,_,rfl⟩:=Jg.1 a;simp at hu;subst hu;rfl
theorem LC.frozen{l:Log}{a:Cb}(h:LC w c l a)(i:Nat):w.frozen? ⟨c,i,O⟩=AM:=by unfold LC at h;simp[Hb,h]
theorem oB{l:List Bool}(h:w.ownsRow base t 1 (AK (Q ⟨g,0,O⟩) (ln l) T) (ln l) (GV l).flatten)(hi:i<ln l)(b:Bool):
  (w.setCell ⟨g,i,O⟩ (AU b)).ownsRow base t 1 (AK (Q ⟨g,0,O⟩) (ln l) T) (l.set i b).length (GV (l.set i b)).flatten:=by
 obtain⟨r,⟨f,_⟩|⟨o,m,cur,e,j,k,h1,h2,q,c⟩⟩:=h
 .cases f
 injection e with a n d
 injection a with a
 injection a with a
 subst a d;rw[Nl];refine⟨by rw[gT];simp,.inr ⟨g,T,cur.setIfInBounds i (AU b),rfl,j,?_,h1,h2,Al,?_⟩⟩
 .simp[Di,IT,k]
 rw[gT] at c⊢;rw[Array.toList_setIfInBounds,List.take_set,c,eK]
def TG(B c:Nat)(l:Log)(a:Cb)(n:Nat)(xs:List AN):Nat->AN->V->Prop
 |0,v,_=>v=Ap (Q ⟨c,15,O⟩)
 |1,v,_=>v=AK a.ea (ln l.BS) a.ec
 |2,v,W=>W.ownsRow B 54 37 v n xs
 |3,v,_=>v=Ap (Q ⟨c,16,O⟩)
 |4,v,_=>v=AK a.ua (ln l.BP) a.uc
 |5,v,W=>W.ownsRow B 4 1 v (ln l.BP) (GV l.BP).flatten
 |6,v,_=>v=Ap (Q ⟨c,15,O⟩)
 |_,_,_=>True
theorem b11{B c:Nat}{l:Log}{a:Cb}:∀i v w w',TG B c l a n xs i v w->Ext w w'->TG B c l a n xs i v w':=by
 intro i v w w' h hx
 match i with
 |0=>exact h
 |1=>exact h
 |2=>exact EV h hx
 |3=>exact h
 |4=>exact h
 |5=>exact EV h hx
 |6=>exact h
 |_+7=>trivial
def Qa(X:Nat->Prop)(w:V)(l:Log)(a:Cb):Prop:=∀W,Cu X w.1.size w W->Dz W W.1.size l a
theorem Qa.at_{X:Nat->Prop}{l:Log}{a:Cb}(h:Qa X w l a):Dz w w.1.size l a:=h w ⟨AS _,λ_ _ _=>rfl⟩
theorem Qa.row{X:Nat->Prop}{l:Log}{a:Cb}(h:Qa X w l a)(f:X c)(cs:Array AN):Qa X (w.setRow c cs) l a:=by
 have i:=size_setRow w c cs;exactλab d=>h ab ⟨by have:=d.1;omega,λb g hx=>(d.2 b D hx).trans (Hc w cs (λe=>hx (e▸f)))⟩
def Ov(B:Nat)(w:V)(l:Log)(x:CI)(w':V):Prop:=∃a',x=Ac (BO #[AW (BQ l a'),M G 0])/\Ext w w'/\Qa (λb=>B<=b/\b<w.1.size+2) w' l a'
def Jc(l:Log)(i:Nat)(u:Bool):Log:={l with BP:=l.BP.set i u}
def IM:Log:=⟨CG,[],[]⟩
def IJ:Cb:=⟨Cl,O,0,O,0⟩
theorem Ih.off{B:Nat}{rows:List (List AN)}{l:List Ed}(h:Ih w B rows l)(c:w.1.size<=W.1.size)(a:∀b,b<B->W.1[b]?=w.1[b]?):Ih W B rows l:=
 ⟨h.1,λi hi=>by have⟨ga,gc,e,s⟩:=h.2 i hi;exact⟨ga,gc,e,s.off c a⟩⟩
def GJ(W:V)(c:Nat)(v2 v5:AN):V:=(W.setCell ⟨c,15,O⟩ v2).setCell ⟨c,16,O⟩ v5
theorem cz{v:AN}(h:W.ownsRow base e s v n xs)(a:c<base)(v2 v5:AN):(GJ W c v2 v5).ownsRow base e s v n xs:=by
 have q:∀m,v.ownBlock≠Q (⟨c,m,O⟩:An).block:=λm e=>by
  have:=(DS h c e).1;omega
 exact Jo (Jo h (q 15) _) (q 16) _
theorem kM(v2 v5:AN)(h:g≠c):(GJ W c v2 v5).1[g]?=W.1[g]?:=(Gp _ _ _ _ h).trans (Gp _ _ _ _ h)
theorem qS(h:Ext w W)(a:w.1.size<=c)(v2 v5:AN):Ext w (GJ W c v2 v5):=(h.setCell a _).setCell a _
theorem LC.aR{l b:Log}{a a':Cb}(h:LC W c l a)(d:((BQ l a).setIfInBounds 15 v2).setIfInBounds 16 v5=BQ b a'):LC (GJ W c v2 v5) c b a':=by
 unfold LC at *;rw[<-d];simp[GJ,Di,IT,h]
def V8(W:V)(c g i:Nat)(v2 v5:AN)(u:Bool):V:=(GJ W c v2 v5).setCell ⟨g,i,O⟩ (AU u)
theorem a9s{B:Nat}{l:Log}{a:Cb}{rows:List (List AN)}(hb:Dz w B l a)(hB:B<=w.1.size)(m:Ih w B rows l.BS)(h0:Ext w W0)(hs:W0.1.size=w.1.size+2)
  (hL:LC W0 w.1.size l a)(hR:LC W0 (w.1.size+1) IM IJ)(hx:Ext W0 W)(s:W.ownsRow W0.1.size 54 37 v2 n rows.flatten)(hn:ln rows=n)(t:W.ownsRow W0.1.size 4 1 v5 (ln l.BP) (GV l.BP).flatten)(hi:i<ln l.BP):
  ∃(d:Option An) (c2 g c5:Nat) (a':Cb),v2=AK d n c2/\v5=AK (Q ⟨g,0,O⟩) (ln l.BP) c5/\ln l.BP<=c5/\c5<=BM/\w.1.size+2<=g/\
   (GJ W w.1.size v2 v5).cell? ⟨g,i,O⟩=Q (AU (l.BP.getD i AM))/\(GJ W w.1.size v2 v5).frozen? ⟨g,i,O⟩=AM/\BQ (Jc l i u) a'=BQ l a'/\LC (V8 W w.1.size g i v2 v5 u) w.1.size l a'/\LC (V8 W w.1.size g i v2 v5 u) (w.1.size+1) IM IJ/\
   Ext w ((V8 W w.1.size g i v2 v5 u).setRow (w.1.size+1) (BQ l a'))/\Qa (λb=>B<=b/\b<w.1.size+2) ((V8 W w.1.size g i v2 v5 u).setRow (w.1.size+1) (BQ l a')) (Jc l i u) a':=by
 obtain⟨d,c2,rfl,s2⟩:=F1 s hn m.wide;obtain⟨g,c5,cur,rfl,hg,I,k1,k2,k3,k4⟩:=Pr t D;have⟨A5,ah,V,s5⟩:=F1 t (BL _) (Oq _);injection V with X _ Y
 subst X Y;have N:=DS s;have⟨a',H⟩:=AP ({a with ea:=d,ec:=c2,ua:=Q ⟨g,0,O⟩,uc:=c5});have hl:((BQ l a).setIfInBounds 15 (AK d n c2)).setIfInBounds 16 (AK (Q ⟨g,0,O⟩) (ln l.BP) c5)=BQ l a':=by rw[<-H,<-hn,m.1];rfl
 have ad:BQ (Jc l i u) a'=BQ l a':=by
  show BQ {l with BP:=l.BP.set i u} _=_
  grind [BQ]
 have v:=cz s (c:=w.1.size) D (AK d n c2) (AK (Q ⟨g,0,O⟩) (ln l.BP) c5);have K:=cz t (c:=w.1.size) D (AK d n c2) (AK (Q ⟨g,0,O⟩) (ln l.BP) c5);have j:=kM (W:=W) (c:=w.1.size) (g:=g) (AK d n c2) (AK (Q ⟨g,0,O⟩) (ln l.BP) c5) D;have ae:=kM (W:=W) (c:=w.1.size) (g:=w.1.size+1) (AK d n c2) (AK (Q ⟨g,0,O⟩) (ln l.BP) c5) D;have o:=LC.aR (LC.ext hL hx) hl;have z:=qS (h0.tr hx) (AS _) (AK d n c2) (AK (Q ⟨g,0,O⟩) (ln l.BP) c5);unfold V8;generalize GJ W _ _ _=y at v K j ae o z⊢;rw[I] at j;have af:=Jo v (p:=⟨g,i,O⟩) (YG v j Z) (AU u);have ag:=oB K hi u;have A:=z.setCell (p:=⟨g,i,O⟩) Al (AU u);refine⟨d,c2,g,c5,a',F,F,k1,k2,D,?_,by simp[Hb,j],ad,?_,?_,CL A D _,?_⟩
 .have⟨b,off,e,_,o⟩:=s5.2.2 Al;injection e with e
  injection e with P R
  subst P R;have h2:=o i Al 0 Z;rw[CM,Ku,Bv hi] at h2;rw[CM,Bv hi];refine Eq.trans ?_ h2;simp[Dx,j,I]
 .grind [LC,Below.heap_setCell]
 .have hRW:=LC.ext hR hx
  grind [LC,Below.heap_setCell]
 have r:=CL A (n:=w.1.size+1) D (BQ l a');have J:∀(q:Nat),W0.1.size<=q->((y.setCell ⟨g,i,O⟩ (AU u)).setRow (w.1.size+1) (BQ l a')).1[q]?=(y.setCell ⟨g,i,O⟩ (AU u)).1[q]?:=by grind [Hc]
 have r2:=OI af (λq f=>J q (N _ f).1);have L:=OI ag (λq f=>J q (by grind [YT]));intro ab k;have E:∀b,b<B->ab.1[b]?=w.1[b]?:=λb h=>(k.2 b (by have:=r.size;omega) (λq=>D)).trans (r.block b D)
 have C:=BJ r.size k.1;have v2:=OI r2 (λq f=>k.2 q (DS r2 q f).2 (λx=>Al));have v5:=OI L (λq f=>k.2 q (DS L q f).2 (λx=>by grind [YT]));have⟨A3,c3,S,s3⟩:=F1 v2 hn m.wide;have⟨A6,c6,e6,s6⟩:=F1 v5 Al (Oq _);injection S with T _ U
 injection e6 with aa _ ac
 subst T U aa ac H;exact⟨(hb.j.off C E).more D,Zo ((m.off C E).more D) s3,s6⟩
def dX(w:V)(l:Log)(a:Cb):∃W0,(w.alloc (.cells (BQ l a) 38)).alloc (.cells #[AT {data:=#[]},AK O 0 0,M G 0,M G 0,AK O 0 0,AK O 0 0,AK O 0 0,AK O 0 0,M G 0,M G 0,M G 0,M G 0,M G 0,AK O 0 0,AK O 0 0,AK O 0 0,AK O 0 0] 38)=W0/\Ext w W0/\W0.1.size=w.1.size+2/\LC W0 w.1.size l a/\LC W0 (w.1.size+1) IM IJ:=by
 refine⟨_,F,((Ad _ _).alloc (AS _) _).alloc AV _,AV,LC.ext (Bq w _) ((Ad _ _).alloc (AS _) _),?_⟩;have:=Bq (w.alloc (.cells (BQ l a) 38)) (.cells (BQ IM IJ) 38);exact XE
def a6e(w:V)(l:Log)(a:Cb)(i:Nat)(u:Bool){m B:Nat}(L:Dz w B l a)(o:B<=w.1.size)(f:LK l.BS l.BP l.BI m)(hi:i<ln l.BS)(hu:l.BP.getD i AM= !u)(hm:En w)(ht:CA w):
  AZ AO 39 #[AW (BQ l a),M G (i:Int),AU u] w (Ov B w (Jc l i u)):=by
 have J:=L.more o;have⟨W0,ag,b,aa,z,hR⟩:=dX w l a;have HW:=A ag;have E0:=A b;have HS:=A aa;have d:=A (λW (h:Ext W0 W)=>LC.ext z h);have aj:=A z;have HR:=A hR;have KR:=A (a2x W0 l a (J.grow b) f (hm.below b (AS _)) (ht.below b (AS _)));have⟨rows,s,ai⟩:=cJ L.e;have hn:=s.1;have ab:i<ln l.BP:=by rw[f.eq];exact hi
 have KE:=A (λW (h:Ext W0 W)=>pO W a.ea a.ec rows ((ai.below ((b.tr h).mono o)).more (BJ o (b.tr h).size)) s.wide s.one (by have:=f.Om;omega));have KB:=A (λW (h:Ext W0 W)=>qG W a.ua a.uc (GV l.BP) ((J.u.below (b.tr h)).more (b.tr h).size) (Oq _) (ZX _) (by have:=f.Om;have:=f.eq;rw[BL];omega));rw[hn] at KE;rw[BL] at KB;have HE:=A (λW v2 v5 (hx:Ext W0 W) o2 o5=>a9s (u:=u) (i:=i) (n:=ln l.BS) (W:=W) (v2:=v2) (v5:=v5) L o s b aa z hR hx o2 hn o5 ab);have t0:AQ ((i:Int)<0)=AM:=Bw D;have t1:AQ (ln l.BS<=i)=AM:=Bw D;have t2:(!u==u)=AM:=by cases u<;>rfl
 have⟨bu,P,ad,ae,ah⟩:=J.u.2.2 QM;have S:w.cell? ⟨bu,P+i,O⟩=Q (AU (!u)):=by
  have q:=ah i (by rw[BL];exact ab) 0 Z;rw[H7,Dh] at q;rw[q,CM,Ku,<-hu,CM,Bv ab]
  rfl
 have CU:=A (λW (h:Ext W0 W)=>((b.tr h).cell (p:=⟨bu,P+i,O⟩) ae).trans S);have HA:=A ad;have R:=A (Ci t0 (Ci t1 t2));clear ag b z hR J L o f hm ht s ai ah S ad ae hu t0 t1 t2 hn aa;go_enter func39,ntmps39;go_upto_region 1 with(fail)
 rw[HW.o];go_wp2_with(first
  |(go_at_call 63;fail)
  |(refine Ce rfl 38 _ rfl _ rfl 38 _ (0,0) _ aj underlying38 rfl U ?_))
 refine KR.q λW1 r=>?_;have X1:=A r;have an:=(d _ r).cell 15;have am:=(d _ r).cell 16;have S:=CU _ r;rw[OH,HA.o] at am;have t0:=R.1;have t1:=R.2.1;have t2:=R.2.2;clear r;go_wp2_with fail
 refine Fz U (VV 7 (λI=>⟨#[AW (BQ l a),M G (i:Int),AU u,Ap (Q ⟨w.1.size,0,O⟩),Ba,Ba,Ap (Q ⟨w.1.size+1,0,O⟩),M G 0,AU AM,AW (BQ l a),AU AL,AU AM,Ba,AU AM,M G (i:Int),AU AM,AU AM,M G (i:Int),Ap (Q ⟨w.1.size,15,O⟩),AK a.ea (ln l.BS) a.ec,M G (ln l.BS:Int),AU AM,AU AM,Ba,AU AM,Ap (Q ⟨w.1.size,16,O⟩),AK (Q ⟨bu,P,O⟩) (ln l.BP) a.uc,M G (i:Int),Ap (Q ⟨bu,P+i,O⟩),AU (!u),AU u,AU AM,Ba,I 0,I 1,I 2,I 3,I 4,I 5,I 6,Ba,Ba,Ba,Ba,Ba,Ba,Ba],[]⟩)
   (λw'=>Ext W0 w') (TG W0.1.size w.1.size l a (ln l.BS) rows.flatten) (λ_=>AM) U (λ_ _ h k=>h.tr k) b11 (λ_ _ _ _ h=>Aq) ?step ?tail (λ_=>Ba) _ (X1.tr (Ext.dr _)))
 case step=>
  intro j I w' hj c N;have aq:=(d _ c).cell 15;have ar:=(d _ c).cell 16;have t:=A c;clear c;rcases(show j=0\/j=1\/j=2\/j=3\/j=4\/j=5\/j=6 by omega) with rfl|rfl|rfl|rfl|rfl|rfl|rfl<;>clear hj<;>refine DC rfl (λK hK=> ?_)
  .exact Ek
  .have d0:=N 0 U;simp only[TG] at d0;exact zm
  .have d1:=N 1 U;simp only[TG] at d1;go_simp;refine(KE _ t).mono ?_;rintro x W2 ⟨v,rfl,ho,e⟩;exact hK _ _ ⟨v,by simp[d1],e,Lv ho t.size,λh=>Aq⟩
  .exact Ek
  .have d3:=N 3 U;simp only[TG] at d3;go_simp;exact hK _ _ ⟨_,by simp[d3],Ext.B9 _,rfl,λh=>Aq⟩
  .have d4:=N 4 U;simp only[TG] at d4;go_simp;refine(KB _ t).mono ?_;rintro x W2 ⟨v,rfl,ho,e⟩;exact hK _ _ ⟨v,by simp[d4],e,Lv ho t.size,λh=>Aq⟩
  exact Ek
 case tail=>
  intro I w' c H _;have⟨A2,c2,g,c5,a',T,X,k1,k2,k3,q1,q2,hl,C,E,y,e⟩:=HE w' _ _ c (H 2 D) (H 5 D);rw[T,X] at q1 q2 C E y e;unfold V8 GJ at C E y e;unfold GJ at q1 q2;have af:=H 6 D;have au:=(d _ c).cell 15;have av:=(d _ c).cell 16;have ao:=LC.frozen (d _ c) 15;have ap:=LC.frozen (d _ c) 16;have HF:=A (Ci y e);have ak:=A C;have ac:=A E;have al:=A hl;clear H c hl C E y e;have Y:=af;simp only[TG] at Y;simp only[T,X,Y,FV,FY];clear T X Y af;go_wp2_with(first
   |(refine Ce rfl 38 _ rfl _ rfl 38 _ (0,0) _ ak underlying38 rfl U ?_)
   |(refine C7 rfl 38 _ _ rfl _ _ rfl rfl 38 _ ac U U U ?_))
  refine Bp (Po F _ _ _ _ F (setRow_heap ac _) U) F ?_;exact⟨a',by rw[al.o];rfl,HF.1,HF.2⟩
theorem Ov.step{B:Nat}{l:Log}(d:Ext w W0)(k:W0.1.size=w.1.size+2)(j:B<=w.1.size)(e:LC W0 (w.1.size+1) IM IJ)(h:Ov B W0 l x W):
  ∃a',x=Ac (BO #[AW (BQ l a'),M G 0])/\LC W (w.1.size+1) IM IJ/\∃y,y=W.setRow (w.1.size+1) (BQ l a')/\LC y (w.1.size+1) l a'/\Ov B w l (Ac (BO #[AW (BQ l a'),M G 0])) y:=by
 obtain⟨a',rfl,hx,g⟩:=h;have r1:=LC.ext e hx;refine⟨a',F,r1,_,F,setRow_heap r1 _,a',F,CL (d.tr hx) D _,?_⟩;have i:=Qa.row g (c:=w.1.size+1) (by constructor <;>omega) (BQ l a');exactλab a=>i ab ⟨a.1,λb f hn=>a.2 b f (λq=>hn ⟨q.1,D⟩)⟩
end
section
open Kp
section
theorem aa{P:Program}{w:V}{o:Oper}{a:BV}{K:BV→V→Prop}{g:Exit→BV→V→Prop}(s x:F0)(t:Bb)
  (B:o.op= .call {callee:= .builtin .append,args:=#[s,x],argTypes:=#[t,t]})
  (base:Nat)(e:Bb)(i:TypeInfo)(z:AN)(size f:Nat)(I:P.underlying t=Q (.slice e))(hi:P.info? e=Q i)(J:i.zero=Q z)
  (F:i.size=size)(q:i.bytes=f)(L:z.cells.size=size)(H:0<size)
  (v:AN)(n:Nat)(xs:List AN)(E:a.eval s=v)(C:w.ownsRow base e size v n xs)
  (d:An)(m c:Nat)(b:List AN)(hx:a.eval x= .slice (Q d) m c)(y:b.length=m*size)(A:∀j u,b[j]?=Q u→w.cell? (d.add j)=Q u)(h1:∀u∈b,u.oneCell'=AL)
  (l:n+m≤BM)(r:(n+m)*f≤140737488355328)(p:base≤w.heap.size)
  (h:∀v' w',w'.ownsRow base e size v' (n+m) (xs++b)→w.grownBy w' v.ownBlock→K (a.put o.dst v') w'):o.wp P a w K g:=by
 obtain⟨v',w',D,h2,k,N⟩:=j8 w base t o.type e i z size f I hi J F q L H v n xs C d m c b y A h1 l r p
 unfold Oper.wp execOp
 simp[B,resolve,invoke,builtin,Ug,Uh,Ul,Z5,SN,Wu,E,hx,D]
 exact h v' w' h2 k
structure IS(B:Nat)(t:Bb)(k n:Nat)(xs x:List AN)(p q r:Nat)(L:Nat->Bool)(I:Nat->AN)(W:V):Prop where
 Ag:L r=AM->L p=AL->W.ownsRow B t k (I p) n xs
 Nw:L r=AM->L q=AL->∃a,I q=AK (Q ⟨a,0,O⟩) 1 1/\Az W a t x/\(L p=AL->(I p).ownBlock≠Q a)
 app:L r=AL->W.ownsRow B t k (I r) (n+1) (xs++x)
section
variable {B : Nat} {t : Bb} {k n : Nat} {xs x : List AN} {p q r : Nat} {L : Nat → Bool} {I : Nat → AN} {W : V}
theorem IS.ext(h:IS B t k n xs x p q r L I W)(hx:Ext W y):IS B t k n xs x p q r L I y:=
 ⟨λa b=>EV (h.Ag a b) hx,λa b=>by have⟨c,e,h1,h2⟩:=h.Nw a b;exact⟨c,e,h1.ext hx,h2⟩,λa=>EV (h.app a) hx⟩
theorem IS.grown(h:IS B t k n xs x p q r L I W){v:AN}(f:W.ownsRow base e s v m ys)(c:W.grownBy y v.ownBlock)(d:t≠e):IS B t k n xs x p q r L I y:=
 ⟨λa b=>VO (h.Ag a b) f c d,λa b=>by have⟨g,e,h1,h2⟩:=h.Nw a b;exact⟨g,e,h1.grown f c d,h2⟩,λa=>VO (h.app a) f c d⟩
theorem IS.other(h:IS B t k n xs x p q r L I W)(a:p≠i)(c:q≠i)(b:r≠i)(v:AN):IS B t k n xs x p q r (Cn L i) (B7 I i v) W:=by
 constructor
 .rw[Bz b,Bz a,DP a];exact h.Ag
 .rw[Bz b,Bz c,Bz a,DP a,DP c];exact h.Nw
 rw[Bz b,DP b];exact h.app
theorem IS.clone(h:IS B t k n xs x p q r L I W)(c:q≠p)(i:r≠p)(l:L r=AM)(hx:Ext W y){v:AN}(g:y.ownsRow W.1.size t k v n xs)(j:B<=W.1.size):IS B t k n xs x p q r (Cn L p) (B7 I p v) y:=by
 constructor
 .grind [Lv]
 .rw[Bz i,Bz c,DP c,Iw];intro a b;have⟨d,e,h1,_⟩:=h.Nw a b;refine⟨d,e,h1.ext hx,λ_ f=> ?_⟩;have:=(DS g d f).1;have:=h1.lt;omega
 grind
theorem IS.build(h:IS B t k n xs x p q r L I W)(c:p≠q)(d:r≠q)(g:L r=AM)(f:cs.toList=x):IS B t k n xs x p q r (Cn L q) (B7 I q (AK (Q ⟨W.1.size,0,O⟩) 1 1)) (W.alloc (.cells cs t)):=by
 have hx:Ext W (W.alloc (.cells cs t)):=(Ad _ _).alloc (AS _) _;constructor
 .rw[Bz d,Bz c,DP c];exactλa b=>EV (h.Ag a b) hx
 .rw[Bz d,Bz c,DP c,Iw];refineλa _=>⟨W.1.size,rfl,?_,λb e=> ?_⟩
  .subst f;exact Az.new W t _
  have:=(DS (h.Ag a b) _ e).2;omega
 grind
theorem IS.append(b:p≠r)(c:q≠r){v:AN}(a:y.ownsRow B t k v (n+1) (xs++x)):IS B t k n xs x p q r (Cn L r) (B7 I r v) y:=by
 constructor
 .grind
 .grind
 grind
end
def Od(c:Nat)(l:Log)(a:Cb)(ev:AN):Nat->AN
 |0=> Ap (Q ⟨c,15,O⟩)
 |1=> AK a.ea (ln l.BS) a.ec
 |3=>ev
 |6=> Ap (Q ⟨c,16,O⟩)
 |11=> Ap (Q ⟨c,15,O⟩)
 |7=> AK a.ua (ln l.BP) a.uc
 |_=>Ba
def di(L:Nat->Bool):Prop:=(L 5=AL->L 2=AL/\L 4=AL)/\(L 10=AL->L 8=AL/\L 9=AL)
theorem di.up{L:Nat->Bool}(h:di L)(b:q=5->L 2=AL/\L 4=AL)(a:q=10->L 8=AL/\L 9=AL):di (Cn L q):=by
 refine⟨λh1=> ?_,λh1=> ?_⟩
 .have h2:L 2=AL/\L 4=AL:=by
   by_cases e:q=5
   .grind
   rw[Bz (Ej e)] at h1;exact h.1 h1
  grind
 have h2:L 8=AL/\L 9=AL:=by
  by_cases e:q=10
  .grind
  rw[Bz (Ej e)] at h1;exact h.2 h1
 grind
structure NJ(W0:V)(c:Nat)(l:Log)(a:Cb)(ev:Array AN)(xs:List AN)(L:Nat->Bool)(I:Nat->AN)(W:V):Prop where
 ext:Ext W0 W
 Bg:∀q,L q=AL->q≠2->q≠4->q≠5->q≠8->q≠9->q≠10->I q=Od c l a (AW ev) q
 ord:di L
 ed:IS W0.1.size 54 37 (ln l.BS) xs ev.toList 2 4 5 L I W
 bl:IS W0.1.size 4 1 (ln l.BP) (GV l.BP).flatten [AU AM] 8 9 10 L I W
section
variable {W0 : V} {c : Nat} {l : Log} {a : Cb} {ev : Array AN} {xs : List AN} {L : Nat → Bool} {I : Nat → AN} {W : V}
def NJ.BI(h:Ext W0 W):NJ W0 c l a ev xs (λ_=>AM) (λ_=>Ba) W:=
 ⟨h,λ_ h=>Aq,⟨λh=>Aq,λh=>Aq⟩,⟨λ_ h=>Aq,λ_ h=>Aq,λh=>Aq⟩,⟨λ_ h=>Aq,λ_ h=>Aq,λh=>Aq⟩⟩
theorem NJ.pure(h:NJ W0 c l a ev xs L I W)(k:q=0\/q=1\/q=3\/q=6\/q=7\/q=11){v:AN}(n:v=Od c l a (AW ev) q):NJ W0 c l a ev xs (Cn L q) (B7 I q v) W:=by
 refine⟨h.ext,λm hm b d f g i j=> ?_,h.ord.up D D,h.ed.other D D D v,h.bl.other D D D v⟩;by_cases e:m=q
 .grind
 rw[DP e];rw[Bz e] at hm;exact h.Bg m hm b d f g i j
theorem NJ.up(h:NJ W0 c l a ev xs L I W)(o:q=2\/q=4\/q=5\/q=8\/q=9\/q=10){v:AN}(hx:Ext W0 y)(n:q=5->L 2=AL/\L 4=AL)(k:q=10->L 8=AL/\L 9=AL)(h1:IS W0.1.size 54 37 (ln l.BS) xs ev.toList 2 4 5 (Cn L q) (B7 I q v) y)(h2:IS W0.1.size 4 1 (ln l.BP) (GV l.BP).flatten [AU AM] 8 9 10 (Cn L q) (B7 I q v) y):NJ W0 c l a ev xs (Cn L q) (B7 I q v) y:=by
 refine⟨hx,λm hm b d f g i j=> ?_,h.ord.up n k,h1,h2⟩;have e:m≠q:=D;rw[DP e];rw[Bz e] at hm;exact h.Bg m hm b d f g i j
def NJ.xr(h:NJ W0 c l a ev xs L I W)(d:L 2=AM\/L 4=AM):L 5=AM:=by
 cases q:L 5 with
 |false=>rfl
 |true=>have⟨h2,b⟩:=h.ord.1 q;grind
def NJ.xO(h:NJ W0 c l a ev xs L I W)(d:L 8=AM\/L 9=AM):L 10=AM:=by
 cases q:L 10 with
 |false=>rfl
 |true=>have⟨h2,b⟩:=h.ord.2 q;grind
end
end
theorem bf(h:Eh j=0):Fe j.BK=0/\Fi j.BR=0/\Ib j.BK j.Bi=0/\JZ j.BT=0/\Ip j.BW=0:=by
 unfold Eh at h
 repeat' split at h
 all_goals grind
structure Tf(j:BG):Prop where
 fw:kq j
 e:ln j.BK.flatten<=8\/24<ln j.BK.flatten
theorem PJ.rf(h:PJ j):Tf j:=⟨h.fw,h.r.e⟩
def a4G{e:Ed}(h:Gu e=AM):Rv ⟨e.EL,e.E9,e.E8,e.EE,e.EK⟩:=by
 unfold Gu Mw at h;simp[QC] at h;obtain⟨⟨⟨h1,h2⟩,⟨⟨a,b⟩,c⟩,d⟩,f⟩:=h;exact⟨by exact Lu a,by exact Lu b,by exact Lu c,by exact Lu d⟩
structure Q1(j:BG):Prop where
 name:ln j.name<=1000000
 ops:∀o∈j.Bi,Rv o
 Bt:∀x∈j.Bt,ln x.La<=50
 r:ln j.BK.flatten<=40
 e:ln j.BK.flatten<=8\/24<ln j.BK.flatten
theorem pT{l:List α}{d:α}(h:i<ln l):l.getD i d∈l:=Al
theorem cZ{l:List α}(d:α){x:α}(h:x∈l):∃i,i<ln l/\l.getD i d=x:=by
 obtain⟨i,hi,rfl⟩:=JJ.1 h;exact⟨i,hi,dF hi⟩
theorem Q1.rf(h:Q1 j):Tf j:=⟨⟨h.name,by have:=h.r;omega,λ_ i hi=>h.ops _ (pT hi),λi hi=>h.Bt _ (pT hi)⟩,h.e⟩
theorem Nf.all(h:Nf j):Q1 j:=by
 refine⟨h.gr.fw.name,λo a=> ?_,λx hx=> ?_,h.gr.r.f,h.gr.r.e⟩
 .obtain⟨i,hi,rfl⟩:=cZ Bu a;exact h.gr.fw.ops h.o i hi
 obtain⟨i,hi,rfl⟩:=cZ Fl hx;exact h.gr.fw.Bt i hi
theorem Q1.RZ{e:Ed}(h:Q1 j)(f:Gu e=AM):Q1 (Cz j e):=by
 obtain⟨h1,h2,b,c,d⟩:=h;have g:=qx f
 repeat' refine iX (λ_=> ?_) (λ_=> ?_)
 all_goals first
  |exact⟨Al,h2,b,c,d⟩
  |exact⟨h1,h2,b,by grind [je],by grind [je]⟩
  |exact⟨h1,λo a=>(cV a).elim (h2 o) (λq=>q▸a4G f),b,c,d⟩
  |exact⟨h1,h2,λo a=>(cV a).elim (b o) (λq=>Al),c,d⟩
  |exact⟨h1,λo a=>h2 o (ZC a),b,c,d⟩
  |exact⟨h1,h2,λo a=>b o (ZC a),c,d⟩
theorem wh(h:PJ j):Ll j:=
 ⟨by have:=h.name;omega,by have:=h.r.f;omega,λa o b=>by obtain⟨i,hi,rfl⟩:=cZ Bu b;exact tC (h.Om a i hi),
  λx hx=>by obtain⟨i,hi,rfl⟩:=cZ Fl hx;have:=h.l.w i hi;omega⟩
theorem we(h:PJ j)(a:Eh j=0):Nf j:=by
 refine⟨h,eA λc=> ?_⟩;have h1:=(bf a).2.2.1;have b:F4 j.Bi=(AM,4):=by unfold F4;rw[Aj D]
 unfold Ib at h1;rw[b,Aj Z] at h1;exact absurd h1 Z
theorem LK.set{l:Log}(h:LK l.BS l.BP l.BI m)(i:Nat)(u:Bool):LK (Jc l i u).BS (Jc l i u).BP (Jc l i u).BI m:=
 ⟨h.sm,h.ln,h.mx,h.gr,h.ix,h.ok,(Nl ..).trans h.eq,h.Om⟩
def CH{R B:V}{P:V->Prop}(h:Hid (∀W,Ext R W->P W))(y:Hid (Ext R B)):Hid (∀W,Ext B W->P W):=A (λW k=>h W (y.tr k))
theorem K8{ops:Array Oper}{rest:List Oper}{o:Oper}{b:BV}{c:Exit->BV->V->Prop}(hw:Ir o (yielded ops b.tmps)=AL)(x:F0)(f:o.op= .load 38 x)
  (g:Nat)(hx:b.eval x=Ap (Q ⟨g,0,O⟩))(l:Log){a:Cb}(e:LC w g l a)(h:CQ AO ops c rest (b.put o.dst (AW (BQ l a))) w):CQ AO ops c (o::rest) b w:=
 Wt λ_ d=>by
  rw[Aj hw];exact NA 38 x f g hx 38 _ (0,0) _ e underlying38 F U (d _ _ h)
theorem T2{ops:Array Oper}{rest:List Oper}{o:Oper}{b:BV}{a:Exit->BV->V->Prop}{x y:F0}(d:o.guard=O)(e:o.op= .store t x y)(hx:b.eval x=Ap (Q ⟨w.1.size,0,O⟩))(hy:b.eval y=AW cs)
  (hi:(AO.info? t).map (·.size)=Q cs.size)(c:ac.size=cs.size)(h1:cs.all (λx=>x.oneCell')=AL)
  (h:∀W,Hid (Ext w W)->Hid (W.1[w.1.size]?=Q (.cells cs t (0,0)))->CQ AO ops a rest (b.put o.dst Ba) W):CQ AO ops a (o::rest) b (w.alloc (.cells ac t)):=
 C7 d t x y e _ cs hx hy t ac (Bq w _) hi c h1 (h _ (A (CL ((Ad _ _).alloc (AS _) _) (AS _) _)) (A (setRow_heap (Bq w _) _)))
end
section
open Kp
attribute [local go_sem] Eb Hj Ty OH Qj
def Jd(l:Log)(e:Ed):Log:=⟨l.BI,l.BS++[e],l.BP++[AM]⟩
def Tq.rp{l:Log}{m:Nat}(h:LK l.BS l.BP l.BI m){e:Ed}(d:Gu e=AM)(hx:e.Ae<=9223372036854775807):Tq (Fg l.BS l.BP l.BI l.BS.length) e:=by
 obtain⟨a,b⟩:=iT h.ok h.sm h.ln h.gr _ (AS _);have:=h.mx;exact⟨a,λ_=>b.ln D,λc=>a.RZ (dQ c) d,hx⟩
theorem Ih.snoc{B:Nat}{rows:List (List AN)}{l:List Ed}(h:Ih w B rows l){e:Ed}(b:C8 w B ga gc e.Aa):Ih w B (rows++[(Ah e (AK ga (ln e.Aa) gc)).toList]) (l++[e]):=by
 refine⟨by simp[h.1],λi hi=> ?_⟩;have h1:=h.1;by_cases a:i<ln l
 .have⟨ga',gc',q1,q2⟩:=h.2 i a
  grind
 grind
theorem b3q{B:Nat}{l:Log}{a:Cb}{e:Ed}{rows:List (List AN)}(J:Dz w B l a)(g:B<=w.1.size)(s:Ih w B rows l.BS)(K:C8 w B ga gc e.Aa)(H:Ext w W0)(T:w.1.size+3<=W0.1.size)
  (hx:Ext W0 W)(i:W.ownsRow W0.1.size 54 37 v2 (ln l.BS+1) (rows.flatten++(Ah e (AK ga (ln e.Aa) gc)).toList))(j:W.ownsRow W0.1.size 4 1 v5 (ln l.BP+1) ((GV l.BP).flatten++[AU AM])):
  ∃a',((BQ l a).setIfInBounds 15 v2).setIfInBounds 16 v5=BQ (Jd l e) a'/\Ext w ((GJ W w.1.size v2 v5).setRow (w.1.size+2) (BQ (Jd l e) a'))/\Dz ((GJ W w.1.size v2 v5).setRow (w.1.size+2) (BQ (Jd l e) a')) ((GJ W w.1.size v2 v5).setRow (w.1.size+2) (BQ (Jd l e) a')).1.size (Jd l e) a':=by
 have m:=s.snoc K;have hn:(rows++[(Ah e (AK ga (ln e.Aa) gc)).toList]).length=ln l.BS+1:=by simp[s.1]
 rw[show rows.flatten++(Ah e _).toList=(rows++[(Ah e (AK ga (ln e.Aa) gc)).toList]).flatten by simp] at i;rw[show(GV _).flatten++[AU AM]=(GV (l.BP++[AM])).flatten by grind] at j;obtain⟨b,c2,rfl,s2⟩:=F1 i hn m.wide;obtain⟨d,c5,rfl,U⟩:=F1 j AV (Oq _);have v:=cz i (c:=w.1.size) D (AK b (ln l.BS+1) c2) (AK d (ln l.BP+1) c5);have x:=cz j (c:=w.1.size) D (AK b (ln l.BS+1) c2) (AK d (ln l.BP+1) c5);have I:=qS (H.tr hx) (AS _) (AK b (ln l.BS+1) c2) (AK d (ln l.BP+1) c5);have t:((BQ l a).setIfInBounds 15 (AK b (ln l.BS+1) c2)).setIfInBounds 16 (AK d (ln l.BP+1) c5)=BQ (Jd l e) {a with ea:=b,ec:=c2,ua:=d,uc:=c5}:=by
  unfold BQ Jd;simp
 have⟨a',r⟩:=AP ({a with ea:=b,ec:=c2,ua:=d,uc:=c5});rw[r] at t;have f:=CL I (n:=w.1.size+2) D (BQ (Jd l e) a');generalize GJ W _ _ _=o at v x f⊢;have u:∀(q:Nat),W0.1.size<=q->(o.setRow (w.1.size+2) (BQ (Jd l e) a')).1[q]?=o.1[q]?:=by grind [Hc]
 have r2:=OI v (λq k=>u q (DS i _ k).1);have L:=OI x (λq k=>u q (DS j _ k).1);refine⟨a',t,f,?_⟩;have⟨P,c3,y,s3⟩:=F1 r2 hn m.wide;have⟨R,S,C,N⟩:=F1 L AV (Oq _);injection y with z _ A
 injection C with E _ F
 subst z A E F r;exact⟨((J.j.below (f.mono g)).more (BJ g f.size)),Zo ((m.below (f.mono g)).more (BJ g f.size)) s3,N⟩
end
section
open Kp
attribute [local go_sem] Eb Hj Iy Iz J3 Ka Kb Kc J8 J9 Jp Kd Ke JD JE JF Kf Kg Kh
theorem b2o(h:p:=by
  have HB:=A (HBD.o hlow);obtain⟨p,t1⟩:=AP (AQ (e.Ae<0));have t2:p=AM->AQ (e.Ae>=(n:Int))=AL:=λh=>CP (by rw[h] at t1;have:=Ij t1;omega)
  have qe:=(HC0.o _ (Ext.B9 W0)).2;clear hlow;cases p
  case' false=>have t3:=t2 F
  all_goals
   clear t2;go_wp2_with(first
    |(go_at_call 100;refine(KG.o _).mono ?_;rintro ee Wg ⟨rfl,rfl⟩)
    |(go_at_call 233;refine(KL.o _).mono ?_;rintro ee Wl ⟨rfl,hX1⟩;have HXL:=A hX1;obtain⟨ql,qel⟩:=HC0.o _ hX1;clear hX1)
    |(refine Ce rfl 34 _ rfl _ rfl 34 _ (0,0) _ HJ.o DV rfl U ?_)
    |(refine VI BE _ rfl _ rfl _ HJ.o U ?_)
    |(refine JL rfl 34 _ rfl U ?_;rw[show Ea (FF (AO.built 34 _) #[])=AW (P CG Cl) from U])
    |(refine C7 rfl 34 _ _ rfl _ _ rfl rfl 34 _ HR.o U U U ?_)
    |(refine C7 rfl 34 _ _ rfl _ _ rfl rfl 34 _ (HR.o.ext HXL.o) U U U ?_))
   first
    |refine Bp (Iu rfl _ _ _ _ rfl (setRow_heap HR.o _) U) rfl ?_
     exact HB.o _ (Ext.B9 _)
    |refine Bp (Iu rfl _ _ _ _ rfl (setRow_heap (HR.o.ext HXL.o) _) U) rfl ?_
     exact HB.o _ HXL.o):p:=h
abbrev Tw{W0:V}{E T:Bb}{k B a n c:Nat}{R:Option An}{rows:List (List AN)}{b:Nat->Option AN}(_:Hid (∀W,Ext W0 W->W.cell? ⟨B,a,O⟩=Q (AK R n c)/\∀i,W.cell? ⟨B+1,i,O⟩=b i))(_:Hid (JO T E k))(_:Hid (ln rows=n))(i:Nat):=Rb W0 E k B a R n c i rows
theorem a7C(h:p:=by
  intro q I w' hq hD hd;have hX:=HXL.o.tr hD;rcases(show q=0\/q=1\/q=2\/q=3\/q=4\/q=5\/q=6\/q=7\/q=8\/q=9\/q=10 by omega) with rfl|rfl|rfl|rfl|rfl|rfl|rfl|rfl|rfl|rfl|rfl<;>clear hq<;>refine DC rfl (λK hK=> ?_)
  .go_simp;exact hK _ _ ⟨AK (Q ⟨w'.1.size,0,O⟩) 0 0,F,(Ad _ _).alloc (AS _) _,⟨_,F,hX.size,Bq w' _⟩,λh=>Aq⟩
  .exact Ek
  .have d1:=hd 1 Z U;simp only[Tw,Rb,Pn] at d1;have m:=(HC0.o _ hX).1;go_simp;exact hK _ _ ⟨_,by simp[d1,B7,Pn],Ext.B9 _,rfl,λh=>Aq⟩
  .exact Ek
  .have d2:=hd 2 Z U;have d3:=hd 3 Z U;simp only[Tw,Rb,Pn] at d2 d3;obtain⟨A',hr,hs⟩:=a7W s.o w' (HSL.o _ hX) d.o (i:=i) D;go_simp;exact hK _ _ ⟨_,by simp[d2,d3,B7,Pn],Ext.B9 _,⟨A',rfl,hs⟩,λh=>Aq⟩
  .obtain⟨g0,d0,hg0,hh0⟩:=hd 0 Z U;obtain⟨A',d4,hs⟩:=hd 4 Z U;exact a6E s.o _ _ F (base:=W0.1.size) d0 hh0 hg0 d4 hs (by rw[QA,d.o];omega) (λr hr=>u.o r (SE hr)) (λr hr=>t.o r (SE hr)) D (λv' w2 l hx=>hK _ _ ⟨v',rfl,hx,l,λh=>Aq⟩)
  .exact Ek
  .have d6:=hd 6 Z U;simp only[Tw,Rb,Pn] at d6;have m:=(HC0.o _ hX).1;go_simp;exact hK _ _ ⟨_,by simp[d6,B7,Pn],Ext.B9 _,rfl,λh=>Aq⟩
  .exact Ek
  .have d8:=hd 8 Z U;simp only[Tw,Rb,Pn] at d8;have w1:G.wrap ((i:Int)+1)=(i:Int)+1:=DF _ D;go_simp;exact hK _ _ ⟨_,by simp[d8,B7,Pn],Ext.B9 _,rfl,λh=>Aq⟩
  have d7:=hd 7 Z U;have d9:=hd 9 Z U;simp only[Tw,Rb,Pn] at d7 d9;obtain⟨A',hr,hs⟩:=qc s.o w' (HSL.o _ hX) d.o (i:=i+1) D;rw[show((i+1:Nat):Int)=(i:Int)+1 by omega] at hr;go_simp;exact hK _ _ ⟨_,by simp[d7,d9,B7,Pn],Ext.B9 _,⟨A',rfl,hs⟩,λh=>Aq⟩):p:=h
theorem b0q(h:p:=by
  intro I w' hD hV _;have h5:=hV 5 Z;obtain⟨A',e10,s10⟩:=hV 10 Z;have HX:=A (HXL.o.tr hD);have H5:=A (show w'.ownsRow W0.1.size _ _ (I 5) i _ from h5);have S10:=A s10;have HRL:=A (show i+(n-(i+1))<=4000000 by omega);clear hV hD h5 s10;simp only[e10,FV,FY];go_wp2_with(first
   |(refine Ce rfl 34 _ rfl _ rfl 34 _ (0,0) _ HJC.o DV rfl U ?_)
   |(refine C7 rfl 34 _ _ rfl _ _ rfl rfl 34 _ (XP (B:=B) HX2.o HR.o D) U U U ?_)
   |(at_builtin;refine dP s.o F _ _ F W0.1.size F H5.o F S10.o (by rw[SF,d.o]) (λr hr=>u.o r (SI hr)) (λr hr=>t.o r (SI hr)) HRL.o HX.o.size ?_;intro v2 W2 ho2 hg2;obtain⟨A2,n2,c2,rfl⟩:=NT ho2;have HX2:=A (KY HX.o hg2 (λq hq=>(DS H5.o q hq).1));have q2:=(HC0.o _ HX2.o).1;have fz2:=HFZ.o _ HX2.o;obtain⟨a',hjc,hpo⟩:=HF.o _ _ HX2.o (by rw[yK,FN,QA,SF,d.o,QB,yO D];exact ho2);have HJC:=A hjc;have HPO:=A hpo;clear ho2 hg2 hjc hpo))
  refine Bp (Iu F _ _ _ _ F (setRow_heap (XP (B:=B) HX2.o HR.o D) _) U) F ?_;exact HPO.o):p:=h
theorem WJ{e:Ed}{g:AN}{X:Nat->Prop}{E:Bb}{k d n c:Nat}{rows:List (List AN)}(q:Int)(hk:e.Av=q)(S:(AQ (4<=q)&&AQ (q<=7)||q==10||q==11)=AL)(y:∀b,X b->b<w.1.size)(z:Bc X w w.1.size j a)
  (C:(P j a)[d]?=Q (AK R n c))(L:BB k w w.1.size R c rows)(H:V7 j q=n)
  (D:∀{W0 W1 v},Ext w W0->JC W0 w.1.size j a->Bc X W0 w.1.size j a->Ext W0 W1->W1.ownsRow W0.1.size E k v (rows.eraseIdx e.Ae.toNat).length (rows.eraseIdx e.Ae.toNat).flatten->∃a',Dl X w.1.size W0 (W1.setCell ⟨w.1.size,d,O⟩ v) J a'):
  ∃B W0 l,B=w.1.size/\Gg X w (Ec n e.Ae) J=l/\Hid (((w.alloc (.cells (P j a) 34)).alloc (.cells (Ah e g) 54)).alloc (.cells (P CG Cl) 34)=W0)/\Hid (JC W0 B j a)/\Hid (JC W0 (B+1+1) CG Cl)/\Hid (W0.1.size=B+3)
  /\Hid (∀W,Ext W0 W->W.cell? ⟨B,d,O⟩=Q (AK R n c)/\∀i,W.cell? ⟨B+1,i,O⟩=(Ah e g)[i]?)/\Hid (∀W,Ext W0 W->BB k W W.1.size R c rows)/\Hid (∀W,Ext W0 W->W.frozen? ⟨B,d,O⟩=AM)
  /\Hid (∀W,AZ AO 233 #[AW (P j a),M G e.Av] W λx w'=>x=Ac (M G (n:Nat))/\Ext W w')
  /\Hid (¬(e.Ae<0\/(n:Int)<=e.Ae)->∀W1 v,Ext W0 W1->W1.ownsRow W0.1.size E k v (rows.eraseIdx e.Ae.toNat).length (rows.eraseIdx e.Ae.toNat).flatten->∃a',JC (W1.setCell ⟨B,d,O⟩ v) B J a'/\l (Ac (BO #[AW (P J a'),M G 0])) ((W1.setCell ⟨B,d,O⟩ v).setRow (B+1+1) (P J a')))
  /\Hid ((e.Ae<0\/(n:Int)<=e.Ae)->∀W1,Ext W0 W1->l (Ac (BO #[AW (P CG Cl),M G 6])) (W1.setRow (B+1+1) (P CG Cl)))
  /\Hid (∀W,AZ AO 100 #[M G e.Av] W λx w'=>x=Ac (AU AL)/\W=w')/\Hid (∀m:Int,(e.Av==m)=(q==m)):=by
 subst hk;obtain⟨B,W0,rfl,f,N,t,o,s,r,h⟩:=ue z C L H;refine⟨_,W0,_,F,F,t,o,s,r,h.1,h.2.1,h.2.2.1,h.2.2.2,A (λK W1 v h I=> ?_),A (λK W1 h=> ?_),A (λW=>(jY _ W).mono λx w' h=>⟨Al,h.2.symm⟩),A (λ_=>rfl)⟩
 .have⟨a',hc'⟩:=D f o N h I;exact⟨a',hc'.2.1,UC y F r f (by unfold Ec;grind) hc'⟩
 have u:Ec n e.Ae=6:=by unfold Ec;grind
 rw[u];exact WI Z F (f.tr h) _
theorem WK(h:p:=by
  obtain⟨B,W0,post,hB,hpost,HW,HJ,HR,HZ,HC0,HSL,HFZ,KL,HF,HBD,KG,HN⟩:=o;rw[hpost];clear c hpost hk;go_enter func163,ntmps163;go_upto_region 1 with(fail)
  rw[<-hB];rw[Qo HW];clear hB;have hN:=HN.o;by_cases hlow:e.Ae<0\/(n:Int)<=e.Ae
  .exact b2o
  obtain⟨i,hm⟩:∃i:Nat,e.Ae=i:=⟨e.Ae.toNat,D⟩;have hin:i<n:=D;have HF:=A (by have:=HF.o hlow;rwa[show e.Ae.toNat=i by omega] at this);have qe:=(HC0.o _ (Ext.B9 W0)).2;have t5:AQ (n<=i)=AM:=Bw D;have t6:AQ ((i:Int)<0)=AM:=Bw D;have t7:AQ ((i:Int)>=(n:Int))=AM:=Bw D;clear hlow;go_wp2_with(first
    |(go_at_call 100;refine(KG.o _).mono ?_;rintro ee Wg ⟨rfl,rfl⟩)
    |(go_at_call 233;refine(KL.o _).mono ?_;rintro ee Wl ⟨rfl,hX1⟩;have HXL:=A hX1;obtain⟨ql,qel⟩:=HC0.o _ hX1;clear hX1)
    |(refine Ce rfl 34 _ rfl _ rfl 34 _ (0,0) _ HJ.o DV rfl U ?_)
    |(refine VI BE _ rfl _ rfl _ HJ.o U ?_))
  refine Fz U (al 11 (λw'=>Ext Wl w') (λq v w=>Tw HC0 s d i q v w) (λ_=>AM) U (λ_ _ h k=>h.tr k) (λ_ _ _ _ h k=>b0Z h k) (λ_ _ _ _ h=>Aq) ?step ?tail _ (Ext.dr _))
  case step=>exact a7C
  case tail=>exact b0q):p:=h
def a8P(w:V)(j:BG)(a:BU)(e:Ed)(g:AN){X:Nat->Prop}(y:∀b,X b->b<w.1.size)(c:Bc X w w.1.size j a)(hk:e.Av=4)(z:ln j.BR<=1000000):
  AZ AO 163 #[AW (P j a),AW (Ah e g)] w (Gg X w (Ec (ln j.BR) e.Ae) {j with BR:=j.BR.eraseIdx e.Ae.toNat}):=by
 have o:=WJ (g:=g) 4 hk F y c (J8 j a) c.u F (λ_ x C h l=>aH x C h (by rw[Cy,<-Qh _];exact l));have d:=A ((BL _:(Cy j.BR).length=_));generalize ln j.BR=n at o d z⊢;have s:=A T3;have u:=A (G9 (f:=λn=>([M G n])) (λ_=>rfl) j.BR);have t:=A (XM j.BR);exact WK
def a7n(w:V)(j:BG)(a:BU)(e:Ed)(g:AN){X:Nat->Prop}(x:∀b,X b->b<w.1.size)(c:Bc X w w.1.size j a)(hk:e.Av=5)(y:ln j.Bi<=1000000):
  AZ AO 163 #[AW (P j a),AW (Ah e g)] w (Gg X w (Ec (ln j.Bi) e.Ae) {j with Bi:=j.Bi.eraseIdx e.Ae.toNat}):=by
 have o:=WJ (g:=g) 5 hk F x c (JD j a) c.o F (λ_ f z h l=>Zz f z h (by rw[Fa,<-Qh Hs];exact l));have d:=A ((BL _:(Fa j.Bi).length=_));generalize ln j.Bi=n at o d y⊢;have s:=A xM;have u:=A (T0 j.Bi);have t:=A (Zm j.Bi);exact WK
def a71(w:V)(j:BG)(a:BU)(e:Ed)(g:AN){X:Nat->Prop}(x:∀b,X b->b<w.1.size)(c:Bc X w w.1.size j a)(hk:e.Av=6)(y:ln j.BT<=1000000):
  AZ AO 163 #[AW (P j a),AW (Ah e g)] w (Gg X w (Ec (ln j.BT) e.Ae) {j with BT:=j.BT.eraseIdx e.Ae.toNat}):=by
 have o:=WJ (g:=g) 6 hk F x c (JF j a) c.z F (λ_ f z h l=>aE f z h (by rw[Fq,<-Qh JT];exact l));have d:=A ((BL _:(Fq j.BT).length=_));generalize ln j.BT=n at o d y⊢;have s:=A Zy;have u:=A (rz j.BT);have t:=A (iQ j.BT);exact WK
def a7K(w:V)(j:BG)(a:BU)(e:Ed)(g:AN){X:Nat->Prop}(x:∀b,X b->b<w.1.size)(c:Bc X w w.1.size j a)(hk:e.Av=10)(y:ln j.Bt<=1000000):
  AZ AO 163 #[AW (P j a),AW (Ah e g)] w (Gg X w (Ec (ln j.Bt) e.Ae) {j with Bt:=j.Bt.eraseIdx e.Ae.toNat}):=by
 have o:=WJ (g:=g) 10 hk F x c (Iz j a) c.l F (λ_ f z h l=>aD f z h (by rw[I6,<-Qh Oh];exact l));have d:=A ((BL _:(I6 j.Bt).length=_));generalize ln j.Bt=n at o d y⊢;have s:=A wv;have u:=A (UJ j.Bt);have t:=A (Zp j.Bt);exact WK
def a7V(w:V)(j:BG)(a:BU)(e:Ed)(g:AN){X:Nat->Prop}(x:∀b,X b->b<w.1.size)(c:Bc X w w.1.size j a)(hk:e.Av=11)(y:ln j.BW<=1000000):
  AZ AO 163 #[AW (P j a),AW (Ah e g)] w (Gg X w (Ec (ln j.BW) e.Ae) {j with BW:=j.BW.eraseIdx e.Ae.toNat}):=by
 have o:=WJ (g:=g) 11 hk F x c (J3 j a) c.s F (λ_ f z h l=>XQ f z h (by rw[Em,<-Qh D4];exact l));have d:=A ((BL _:(Em j.BW).length=_));generalize ln j.BW=n at o d y⊢;have s:=A Uz;have u:=A (rj j.BW);have t:=A (Zi j.BW);exact WK
def a8o(w:V)(j:BG)(a:BU)(e:Ed)(g:AN){X:Nat->Prop}(C:∀b,X b->b<w.1.size)(c:Bc X w w.1.size j a)(hk:e.Av=7)(E:ln j.CV<=1000000):
  AZ AO 163 #[AW (P j a),AW (Ah e g)] w (Gg X w (Ec (ln j.CV) e.Ae) {j with CV:=j.CV.eraseIdx e.Ae.toNat}):=by
 have⟨rows,f,H,J⟩:=au c (AS _);have o:=WJ (g:=g) 7 hk F C c (JE j a) H F (λx z L h l=>Zu z L h ((f.below x).erase _) (λW y=>(J W ⟨BJ x.size y.1,λb c hx=>(y.2 b c hx).trans (x.block b c)⟩).erase _) l);have d:=A (f.1);generalize ln j.CV=n at o d E⊢;have s:=A wk;have u:=A (f.wide);have t:=A (f.one);exact WK
theorem a7G(w:V)(j:BG)(a:BU)(e:Ed)(g:AN){X:Nat->Prop}(I:∀b,X b->b<w.1.size)(r:Bc X w w.1.size j a)(y:e.Av≠4)(z:e.Av≠5)(C:e.Av≠6)(D:e.Av≠7)(u:e.Av≠10)(v:e.Av≠11)(J:BG):
  AZ AO 163 #[AW (P j a),AW (Ah e g)] w (Gg X w 8 J):=by
 have⟨B,c⟩:=Lc w.1.size;have⟨W0,o,K,m,H,q,n,L⟩:=T4 w j a (Ah e g) r c;have f:=A (WI (X:=X) (E:=8) (J:=J) Z c m (P CG Cl));have l:=A (λW=>((jY e.Av W).mono λx w' h=>⟨by
  have:=h.1;rw[this]
  congr 2
  grind,h.2.symm⟩:AZ _ 100 _ W λx w'=>x=Ac (AU AM)/\W=w'))
 have k:=A o;have d:=A n;have N:=λi=>q.cell i
 go_enter func163,ntmps163;go_upto_region 1 with(fail)
 rw[<-c];rw[Qo k];clear c;go_wp2_with(first
  |(go_at_call 100;refine(l _).mono ?_;rintro t s ⟨rfl,rfl⟩)
  |(refine C7 rfl 34 _ _ rfl _ _ rfl rfl 34 _ d U U U ?_))
 refine Bp (Iu F _ _ _ _ F (setRow_heap d _) U) F ?_;exact f
def a3N(w:V)(j:BG)(a:BU)(e:Ed)(g:AN){X:Nat->Prop}(c:∀b,X b->b<w.1.size)(d:Bc X w w.1.size j a)(f:RQ j):AZ AO 163 #[AW (P j a),AW (Ah e g)] w (Gg X w (QS j e) (SS j e)):=by
 unfold QS SS;by_cases k:e.Av=4
 .simp[k];exact a8P w j a e g c d k f.u
 by_cases l:e.Av=5
 .simp[l];exact a7n w j a e g c d l f.o
 by_cases m:e.Av=6
 .simp[m];exact a71 w j a e g c d m f.z
 by_cases n:e.Av=7
 .simp[n];exact a8o w j a e g c d n f.b
 by_cases h:e.Av=10
 .simp[h];exact a7K w j a e g c d h f.l
 by_cases i:e.Av=11
 .simp[i];exact a7V w j a e g c d i f.s
 grind [a7G]
end
section
open Kp
attribute [local go_sem] Eb Hj Iy Iz LW J3 Hk Ka NU NV NW NY Kb Kc J8 J9 Jp Kd Ke JD JE JF Kf Kg Kh
def T9(X:Nat->Prop)(B:Nat)(b:Nat):Prop:=X b\/B<=b/\b<B+3
theorem Bc.boxes{X:Nat->Prop}{B:Nat}(h:Bc X W0 B j a)(d:W0.1.size=B+3):Bc (T9 X B) W0 W0.1.size j a:=
 (h.mono (λb c hx=>hx.elim id (λq=>D))).more D
theorem Bc.over{X:Nat->Prop}{B:Nat}(h:Bc (T9 X B) W W.1.size J a)(f:B<=q/\q<B+3)(C:Array AN):Bc X (W.setRow q C) (W.setRow q C).1.size J a:=by
 have g:(W.setRow q C).1.size=W.1.size:=size_setRow _ _ _;refine Bc.off (λc h1 h2=>h.av c ⟨D,λb d hn=>(h2 b D (λhx=>hn (.inl hx))).trans (Hc _ _ (λe=>hn (.inr D)))⟩)
theorem CE.drew(h:CE c w W):CE c w W.drew:=⟨h.below.drew,h.Gi⟩
theorem Sv{X:Nat->Prop}{B:Nat}(d:B=w.1.size)(a:Ext w W0)(c:Ext W0 W1)(b:(if E=0 then J else CG)=JX)(h:Bc (T9 X B) W1 W1.1.size JX a')(C:Array AN):
  Gg X w E J (Ac (BO #[AW (P JX a'),M G E])) (W1.setRow (B+1+1) C):=by
 subst b;exact⟨a',F,CL (a.tr c) D _,h.over ⟨D,D⟩ _⟩
theorem pw{X:Nat->Prop}{B:Nat}(b:B=w.1.size)(a:Ext w W0)(c:Ext W0 W1)(h:Bc (T9 X B) W1 W1.1.size J a')(C:Array AN):
  Gg X w 0 J (Ac (BO #[AW (P J a'),M G 0])) (W1.setRow (B+1+1) C):=by grind [Sv]
theorem Td{Y:Nat->Prop}{f:FuncId}(h:AZ AO f args W0 (Gg Y W0 E J))(a:(if E=0 then J else CG)=JX):
  AZ AO f args W0 λx w'=>∃a',x=Ac (BO #[AW (P JX a'),M G E])/\Ext W0 w'/\Bc Y w' w'.1.size JX a':=by
 subst a;exact h
theorem jO{X:Nat->Prop}{B:Nat}(h1:CE B W0 W1)(h2:JC W1 B J a)(c:B<W0.1.size)(d:Bc X W0 B j a)(h:∀W n,EP W n j a->EP W n J a):Dl X B W0 W1 J a:=
 ⟨h1,h2,λW b=>h _ _ (d.to c h1.below b)⟩
theorem vA(h:p:=by
  go_enter func89,ntmps89;go_upto_region 1 with(fail)
  rw[<-HB.o];rw[Qo HW];go_wp2_with(first
   |(go_at_call 159;refine n.mono ?_;rintro ee W1 ⟨a',rfl,hX1,hj1⟩;have HP:=A (m W1 a' hX1 hj1);have r:=A (I.ext hX1);clear hX1 hj1)
   |(go_at_call 160;refine n.mono ?_;rintro ee W1 ⟨a',rfl,hX1,hj1⟩;have HP:=A (m W1 a' hX1 hj1);have r:=A (I.ext hX1);clear hX1 hj1)
   |(go_at_call 161;refine n.mono ?_;rintro ee W1 ⟨a',rfl,hX1,hj1⟩;have HP:=A (m W1 a' hX1 hj1);have r:=A (I.ext hX1);clear hX1 hj1)
   |(go_at_call 162;refine n.mono ?_;rintro ee W1 ⟨a',rfl,hX1,hj1⟩;have HP:=A (m W1 a' hX1 hj1);have r:=A (I.ext hX1);clear hX1 hj1)
   |(go_at_call 163;refine n.mono ?_;rintro ee W1 ⟨a',rfl,hX1,hj1⟩;have HP:=A (m W1 a' hX1 hj1);have r:=A (I.ext hX1);clear hX1 hj1)
   |(go_at_call 164;refine n.mono ?_;rintro ee W1 ⟨a',rfl,hX1,hj1⟩;have HP:=A (m W1 a' hX1 hj1);have r:=A (I.ext hX1);clear hX1 hj1)
   |(refine Ce rfl 34 _ rfl _ rfl 34 _ (0,0) _ HJ DV rfl U ?_)
   |(refine Ce rfl 54 _ rfl _ rfl 54 _ (0,0) _ HZ Cc rfl U ?_)
   |(refine C7 rfl 34 _ _ rfl _ _ rfl rfl 34 _ r U U U ?_))
  refine Bp (Iu F _ _ _ _ F (setRow_heap r _) U) F ?_;exact HP _):p:=h
theorem pH(h:p:=by
  go_enter func89,ntmps89;go_upto_region 1 with(fail)
  rw[<-HB.o];rw[Qo HW];go_upto_region 21 with(first
   |(go_region)
   |(refine OD rfl 30 _ _ rfl _ 9 _ rfl rfl 34 _ HJ U (PO U) U ?_))
  all_goals
   go_wp2_with(first
    |(refine Ce rfl 34 _ rfl _ rfl 34 _ (0,0) _ (by first|exact ab|exact ae) DV rfl U ?_)
    |(refine C7 rfl 34 _ _ rfl _ _ rfl rfl 34 _ (by first|exact r|exact ad) U U U ?_))
   refine Bp (Iu F _ _ _ _ F (setRow_heap (by first|exact r|exact ad) _) U) F ?_
   first
    |exact ac
    |exact af):p:=h
def a3M(w:V)(j:BG)(a:BU)(e:Ed)(ga:Option An)(gc:Nat){X:Nat->Prop}(z:∀b,X b->b<w.1.size)(R:Bc X w w.1.size j a)(S:C8 w w.1.size ga gc e.Aa)(Y:∀W,Cu X w.1.size w W->C8 W W.1.size ga gc e.Aa)
  (hk:1<=e.Ab/\e.Ab<=12)(u:RQ j)(Z:Fi j.BR=0)(hz:JZ j.BT=0)(aa:Ip j.BW=0)(hn:e.Ae<=9223372036854775807):
  AZ AO 89 #[AW (P j a),AW (Ah e (AK ga (ln e.Aa) gc))] w (Gg X w (FQ j e) (Cz j e)):=by
 have⟨B,l⟩:=Lc w.1.size;have⟨W0,L,C,k,s,H,y,E⟩:=T4 w j a (Ah e (AK ga (ln e.Aa) gc)) R l;have t:∀b,T9 X B b->b<W0.1.size:=λb h=>h.elim (λq=>by have:=z b q;omega) (λq=>D)
 have x:=E.boxes C;have K:=λhk=>a3t W0 j a e t x hk u.b ga gc ((S.below k).more k.size) (λW hO=>Y W ⟨BJ k.size hO.1,λb h1 h2=>(hO.2 b (Dj h1 k.size) (λq=>q.elim h2 (λq=>D))).trans (k.block b h1)⟩)
 have⟨g,T⟩:=AP (FO ga (ln e.Aa) gc);rw[T] at L H K⊢;have HW:=A L;have I:=A y;have HJ:=A s;have HZ:=A H;have qe:=λi=>H.cell i
 have qj:=λi=>s.cell i
 have fj:=λi=>s.frozen i
 have HB:=A l;have v:=s.lt;rcases(show e.Ab=1\/e.Ab=2\/e.Ab=3\/e.Ab=4\/e.Ab=5\/e.Ab=6\/e.Ab=7\/e.Ab=8\/e.Ab=9\/e.Ab=10\/e.Ab=11\/e.Ab=12 by omega) with h|h|h|h|h|h|h|h|h|h|h|h
 .have c:FQ j e=0:=Pc;have d:Cz j e={j with name:=e.Ct}:=Ns;rw[c,d];have h1:CE B W0 (W0.setCell ⟨B,0,O⟩ (AT (tx e.Ct))):=(CE.ext (Ext.B9 _) v).put _ _;have h2:JC (W0.setCell ⟨B,0,O⟩ (AT (tx e.Ct))) B {j with name:=e.Ct} a:=s.put _ F;have ab:=A h2;have r:=A (show(W0.setCell ⟨B,0,O⟩ (AT (tx e.Ct))).1[B+1+1]?=_ from(h1.Gi _ D D).trans y);exact mo
 .have c:FQ j e=Le j.BK e.Ae:=Pc;have d:Cz j e={j with BK:=Ft j.BK e.Ae (EH e)}:=Ns;rw[c,d];have⟨JX,f⟩:=AP (if Le j.BK e.Ae=0 then{j with BK:=Ft j.BK e.Ae (EH e)} else CG);have n:=Td (a61 W0 j a e g t x u.r u.rk hn) f;have m:=λW1 (a':BU) (o:Ext W0 W1) h=>Sv (X:=X) (a':=a') l k o f h
  clear f c;have⟨N,c⟩:=AP (Le j.BK e.Ae);exact XG
 .have c:FQ j e=0:=Pc;have d:Cz j e={j with Ki:=e.Ae,CF:=e.Av}:=Ns;rw[c,d];have h1:CE B W0 (((W0.setCell ⟨B,2,O⟩ (M G e.Ae)).setCell ⟨B,3,O⟩ (M G e.Av)).drew):=CE.drew (((CE.ext (Ext.B9 _) v).put _ _).put _ _);have h2:JC (((W0.setCell ⟨B,2,O⟩ (M G e.Ae)).setCell ⟨B,3,O⟩ (M G e.Av)).drew) B {j with Ki:=e.Ae,CF:=e.Av} a:=(show JC ((W0.setCell ⟨B,2,O⟩ (M G e.Ae)).setCell ⟨B,3,O⟩ (M G e.Av)) B {j with Ki:=e.Ae,CF:=e.Av} a from(s.put (j':={j with Ki:=e.Ae}) _ F).put _ F);have ab:=A h2;have r:=A (show(((W0.setCell ⟨B,2,O⟩ (M G e.Ae)).setCell ⟨B,3,O⟩ (M G e.Av)).drew).1[B+1+1]?=_ from(h1.Gi _ D D).trans y);have ac:=A (UC (X:=X) z l C k F (jO h1 h2 v E (λ_ _ q=>⟨q.p,q.u,q.o,q.z,q.b,q.l,q.s⟩)));have d1:CE B W0 (((W0.setCell ⟨B,3,O⟩ (M G e.Av)).setCell ⟨B,2,O⟩ (M G e.Ae)).drew):=CE.drew (((CE.ext (Ext.B9 _) v).put _ _).put _ _);have d2:JC (((W0.setCell ⟨B,3,O⟩ (M G e.Av)).setCell ⟨B,2,O⟩ (M G e.Ae)).drew) B {j with Ki:=e.Ae,CF:=e.Av} a:=(show JC ((W0.setCell ⟨B,3,O⟩ (M G e.Av)).setCell ⟨B,2,O⟩ (M G e.Ae)) B {j with Ki:=e.Ae,CF:=e.Av} a from(s.put (j':={j with CF:=e.Av}) _ F).put _ F);have ae:=A d2;have ad:=A (show(((W0.setCell ⟨B,3,O⟩ (M G e.Av)).setCell ⟨B,2,O⟩ (M G e.Ae)).drew).1[B+1+1]?=_ from(d1.Gi _ D D).trans y);have af:=A (UC (X:=X) z l C k F (jO d1 d2 v E (λ_ _ q=>⟨q.p,q.u,q.o,q.z,q.b,q.l,q.s⟩)));clear d1 d2;clear h1 h2 L C k s H y E R u Z hz aa hn t x c d S Y z hk K T l v;exact pH
 .have c:FQ j e=(if j.BR.contains e.Av then 7 else 0:Int):=Pc;have d:Cz j e={j with BR:=DZ j.BR (j.BR.countP (· <e.Av)) e.Av}:=Ns;rw[c,d];have⟨JX,f⟩:=AP (if(if j.BR.contains e.Av then 7 else 0:Int)=0 then{j with BR:=DZ j.BR (j.BR.countP (· <e.Av)) e.Av} else CG);have n:=Td (a2E W0 j a e g t x Z) f;have m:=λW1 (a':BU) (o:Ext W0 W1) h=>Sv (X:=X) (a':=a') l k o f h
  clear f c;have⟨N,c⟩:=AP (if j.BR.contains e.Av then 7 else 0:Int);exact XG
 .have c:FQ j e=DU (ln j.Bi) e.Ae:=Pc;have d:Cz j e={j with Bi:=CC j.Bi e.Ae ⟨e.EL,e.E9,e.E8,e.EE,e.EK⟩}:=Ns;rw[c,d];have⟨JX,f⟩:=AP (if DU (ln j.Bi) e.Ae=0 then{j with Bi:=CC j.Bi e.Ae ⟨e.EL,e.E9,e.E8,e.EE,e.EK⟩} else CG);have n:=Td (a3e W0 j a e g t x h u.o) f;have m:=λW1 (a':BU) (o:Ext W0 W1) h=>Sv (X:=X) (a':=a') l k o f h
  clear f c;have⟨N,c⟩:=AP (DU (ln j.Bi) e.Ae);exact XG
 .have c:FQ j e=0:=Pc;have d:Cz j e={j with BT:=CC j.BT (NG j.BT e.Be) ⟨e.Be,e.Eg,e.Ef⟩}:=Ns;rw[c,d];have n:=A (a5K W0 j a e g t x hz u.z);have m:=A (λW1 (a':BU) (o:Ext W0 W1) h=>pw (X:=X) (J:={j with BT:=CC j.BT (NG j.BT e.Be) ⟨e.Be,e.Eg,e.Ef⟩}) (a':=a') l k o h);exact a0F
 .have c:FQ j e=DU (ln j.CV) e.Ae:=Pc;have d:Cz j e={j with CV:=CC j.CV e.Ae ⟨e.Ch,e.Ck,e.Co,e.Cp,e.Cr,e.Aa⟩}:=Ns;rw[c,d];have⟨JX,f⟩:=AP (if DU (ln j.CV) e.Ae=0 then{j with CV:=CC j.CV e.Ae ⟨e.Ch,e.Ck,e.Co,e.Cp,e.Cr,e.Aa⟩} else CG);have n:=Td (K h) f;have m:=λW1 (a':BU) (o:Ext W0 W1) h=>Sv (X:=X) (a':=a') l k o f h
  clear f c;have⟨N,c⟩:=AP (DU (ln j.CV) e.Ae);exact XG
 .have c:FQ j e=0:=Pc;have d:Cz j e={j with Nj:=e.Av}:=Ns;rw[c,d];have h1:CE B W0 (W0.setCell ⟨B,8,O⟩ (M G e.Av)):=(CE.ext (Ext.B9 _) v).put _ _;have h2:JC (W0.setCell ⟨B,8,O⟩ (M G e.Av)) B {j with Nj:=e.Av} a:=s.put _ F;have ab:=A h2;have r:=A (show(W0.setCell ⟨B,8,O⟩ (M G e.Av)).1[B+1+1]?=_ from(h1.Gi _ D D).trans y);exact mo
 .have c:FQ j e=0:=Pc;have d:Cz j e={j with Fv:=⟨e.GW,e.GU,e.Gb,e.GY⟩}:=Ns;rw[c,d];have h1:CE B W0 (W0.setRow B (putAt (P j a) 9 #[M G e.GW,M G e.GU,M G e.Gb,M G e.GY])):=(CE.ext (Ext.B9 _) v).row _;have h2:JC (W0.setRow B (putAt (P j a) 9 #[M G e.GW,M G e.GU,M G e.Gb,M G e.GY])) B {j with Fv:=⟨e.GW,e.GU,e.Gb,e.GY⟩} a:=setRow_heap s _;have ab:=A h2;have r:=A (show(W0.setRow B (putAt (P j a) 9 #[M G e.GW,M G e.GU,M G e.Gb,M G e.GY])).1[B+1+1]?=_ from(h1.Gi _ D D).trans y);exact mo
 .have c:FQ j e=DU (ln j.Bt) e.Ae:=Pc;have d:Cz j e={j with Bt:=CC j.Bt e.Ae ⟨e.FJ,e.FI,e.FH⟩}:=Ns;rw[c,d];have⟨JX,f⟩:=AP (if DU (ln j.Bt) e.Ae=0 then{j with Bt:=CC j.Bt e.Ae ⟨e.FJ,e.FI,e.FH⟩} else CG);have n:=Td (a43 W0 j a e g t x h u.l) f;have m:=λW1 (a':BU) (o:Ext W0 W1) h=>Sv (X:=X) (a':=a') l k o f h
  clear f c;have⟨N,c⟩:=AP (DU (ln j.Bt) e.Ae);exact XG
 .have c:FQ j e=0:=Pc;have d:Cz j e={j with BW:=Qw j.BW (Ex e)}:=Ns;rw[c,d];have n:=A (a6h W0 j a e g t x aa u.s);have m:=A (λW1 (a':BU) (o:Ext W0 W1) h=>pw (X:=X) (J:={j with BW:=Qw j.BW (Ex e)}) (a':=a') l k o h);exact a0F
 have c:FQ j e=QS j e:=Pc;have d:Cz j e=SS j e:=Ns;rw[c,d];have⟨JX,f⟩:=AP (if QS j e=0 then SS j e else CG);have n:=Td (a3N W0 j a e g t x u) f;have m:=λW1 (a':BU) (o:Ext W0 W1) h=>Sv (X:=X) (a':=a') l k o f h
 clear f c;have⟨N,c⟩:=AP (QS j e);exact XG
end
section
open Kp
attribute [local go_sem] Eb Hj Iz J3 Hk Ka Kb Kc J8 Jp Kd Ke JD JE JF Kf Kg Kh
theorem Yi(h:p:=by
  go_enter func44,ntmps44;go_upto_region 1 with(fail)
  rw[<-HB.o];rw[Qo HW];go_wp2_with(first
   |(go_at_call 43;refine(I _ a' HX4 HJ4).q λW5 hX5=>?_;have HX5:=A (HX4.tr hX5);have HR5:=A (o.ext HX5);have HC5:=A (HC4.ext hX5);have HJ5:=A (HV4.grow hX5);clear hX5)
   |(go_at_call 89;refine(KD _ HX2).mono ?_;rintro ee W3 ⟨a',rfl,hX3,hj3⟩;have HX3:=A (HX2.tr hX3);have HR3:=A (o.ext HX3);have hX4:Ext W3 ((W3.alloc (.cells (P CG Cl) 34)).setRow W3.1.size (P JX a')):=CL ((Ad _ _).alloc (AS _) _) (AS _) _;have HC4:=A (show JC ((W3.alloc (.cells (P CG Cl) 34)).setRow W3.1.size (P JX a')) W3.1.size JX a' from setRow_heap (Bq W3 _) _);have HX4:=A (HX3.tr hX4);have HV4:=A (hj3.grow hX4);have HJ4:=A (hj3.grow hX4).toEP;have HR4:=A (o.ext HX4);clear hX3 hj3 hX4)
   |(go_at_call 88;refine(N _ HX1).q λW2 s=>?_;have HX2:=A (HX1.tr s);have HR2:=A (o.ext HX2);have HJ2:=A (HJ.ext HX2);have HZ2:=A (HZ.ext HX2);clear s)
   |(go_at_call 43;refine C.q λW1 hX1=>?_;have HX1:=A hX1;have HR1:=A (o.ext hX1);have HZ1:=A (HZ.ext hX1);clear hX1)
   |(refine Ce rfl 34 _ rfl _ rfl 34 _ (0,0) _ (by first|exact HJ|exact HJ2|exact HC4|exact HC5) DV rfl U ?_)
   |(refine Ce rfl 54 _ rfl _ rfl 54 _ (0,0) _ (by first|exact HZ1|exact HZ2) Cc rfl U ?_)
   |(refine JL rfl 34 _ rfl U ?_;rw[show Ea (FF (AO.built 34 _) #[])=AW (P CG Cl) from U])
   |(refine C7 rfl 34 _ _ rfl _ _ rfl rfl 34 (P CG Cl) (by first|exact HR1|exact HR2|exact HR4|exact HR5|exact Bq _ _) U U U ?_))
  refine Bp (Iu F _ _ _ _ F (setRow_heap (by first|exact HR1|exact HR2|exact HR4|exact HR5) _) U) F ?_
  first
   |exact i _ HX1
   |exact i _ HX2
   |exact i _ HX4
   |exact i _ HX5
   |exact ai _ a' HX5 HJ5):p:=h
def nW(w:V)(j:BG)(a:BU)(e:Ed)(ga:Option An)(gc:Nat){X:Nat->Prop}(ae:∀b,X b->b<w.1.size)(hb:Bc X w w.1.size j a)(hg:C8 w w.1.size ga gc e.Aa)(ag:∀W,Cu X w.1.size w W->C8 W W.1.size ga gc e.Aa)
  (hr:Tf j)(hl:Eh j=0->RQ j)(aa:Eh j=0->Tf (Cz j e))(hn:e.Ae<=9223372036854775807)(ht:CA w):
  AZ AO 44 #[AW (P j a),AW (Ah e (AK ga (ln e.Aa) gc))] w (Gg X w (Hf j e) (Cz j e)):=by
 have⟨B,r⟩:=Lc w.1.size;have⟨W0,R,hs,d,hJ,S,hR,hv⟩:=T4 w j a (Ah e (AK ga (ln e.Aa) gc)) hb r;have s:∀W,Ext W0 W->∀b,T9 X B b->b<W.1.size:=λW h b q=>by have:=h.size;exact q.elim (λq=>by have:=ae b q;omega) (λq=>D)
 have ad:=hv.boxes hs;have T:∀W,Ext W0 W->C8 W W.1.size ga gc e.Aa:=λW h=>(hg.below (d.tr h)).more (d.tr h).size
 have ah:∀W,Ext W0 W->∀ab,Cu (T9 X B) W.1.size W ab->C8 ab ab.1.size ga gc e.Aa:=λW h ab hO=>ag ab ⟨BJ (d.tr h).size hO.1,λb h1 h2=>(hO.2 b (Dj h1 (d.tr h).size) (λq=>q.elim h2 (λq=>D))).trans ((d.tr h).block b h1)⟩
 have ac:∀W,Ext W0 W->CA W:=λW h=>ht.below (d.tr h) (AS _)
 have N:=A (λW (h:Ext W0 W)=>jU W e ga gc (T W h));have C:=YA W0 j a (ad.toEP) hr.fw hr.e (ac W0 (Ext.B9 _));have H:=λ(k:Eh j=0) W (a':BU) (h:Ext W0 W) (Y:EP W W.1.size (Cz j e) a')=>YA W (Cz j e) a' Y (aa k).fw (aa k).e (ac W h)
 have l:=λ(k:Eh j=0) (hf:Fs e=0) W (h:Ext W0 W)=>a3M W j a e ga gc (s W h) (ad.grow h) (T W h) (ah W h) (nd hf) (hl k) (bf k).2.1 (bf k).2.2.2.1 (bf k).2.2.2.2 hn
 have⟨g,af⟩:=AP (FO ga (ln e.Aa) gc);rw[af] at R S N l⊢;have HW:=A R;have o:=A hR;have HJ:=A hJ;have HZ:=A S;have HB:=A r;have c:=λ(E:Int) (hE:E≠0) W (h:Ext W0 W)=>(WI (X:=X) (J:=Cz j e) hE r (d.tr h) (P CG Cl):Gg X w E (Cz j e) (Ac (BO #[AW (P CG Cl),M G E])) (W.setRow (B+1+1) (P CG Cl)))
 have f:=λW (a':BU) (h:Ext W0 W) (Y:Bc (T9 X B) W W.1.size (Cz j e) a')=>Sv (X:=X) (E:=0) (J:=Cz j e) (a':=a') r d h rfl Y (P (Cz j e) a')
 unfold Hf;have⟨x,hx⟩:=AP (Eh j);have⟨y,hy⟩:=AP (Fs e);have⟨z,n⟩:=AP (FQ j e);have⟨u,hu⟩:=AP (Eh (Cz j e));simp only[hx,hy,n,hu] at C N H l⊢;have C:=A C;clear R hs hJ S hR hv hb hr hl aa hn ht s ad T ah ac hg ag ae af r d;by_cases L:x=0
 .subst L;rw[Af Z];have I:=A (H F);clear H;by_cases t:y=0
  .subst t;rw[Af Z];have⟨JX,m⟩:=AP (if z=0 then Cz j e else CG);have KD:=A (λW h=>Td (l rfl rfl W h) m);clear l;by_cases v:z=0
   .subst v;rw[Af Z];rw[Aj rfl] at m;rw[m] at I f c⊢;by_cases K:u=0
    .subst K;have ai:=A f;clear hx hy n hu m c f;exact Yi
    have tu:(u !=0)=AL:=Cd.2 K;have i:=A (c u K);clear hx hy n hu m c f K;exact Yi
   have tz:(z !=0)=AL:=Cd.2 v;rw[Aj v];have i:=A (c z v);clear hx hy n hu m c f v I;exact Yi
  have ty:(y !=0)=AL:=Cd.2 t;rw[Aj t];have i:=A (c y t);clear hx hy n hu c f t I l;exact Yi
 have tx:(x !=0)=AL:=Cd.2 L;rw[Aj L];have i:=A (c 1 Z);clear hx hy n hu c f L H l;exact Yi
end
section
open Kp
attribute [local go_sem] Eb Hj Ty OH Qj
section
theorem qY{b:List Ed}(h:Q1 j)(c:∀i,i<ln b->Gu (b.getD i BZ)=AM):∀n,n<=ln b->Q1 (Fg b us j n):=by
 intro n
 induction n with
 |zero=>exactλ_=>h
 |succ n d=>
  intro hn;have a:=d D;show Q1 (Ni _ _ _);unfold Ni;split
  .exact a
  split
  .rename_i h3;rw[(iL h3).2];exact a.RZ (c n D)
  exact a
def lR(a:BG)(aj:BU)(ed:Ed)(g:AN)(b off k n T:Nat):Nat->AN
 |0=> AW (P a aj)
 |1=> AK (Q ⟨b,off,O⟩) n T
 |2=> M G (k:Int)
 |3=> Ap (Q ⟨b,off+k*37,O⟩)
 |_=> AW (Ah ed g)
def Oj(j':BG)(z:Int)(a':BU):AN:= BO #[AW (P j' a'),M G z]
def TF(c:Nat->AN)(j':BG)(z:Int)(I:Nat->AN):Nat->Prop
 |5=>True
 |6=>I 6=I 5
 |7=>∀a',I 5=Oj j' z a'->I 7=AW (P j' a')
 |8=>I 8=M G z
 |9=>True
 |10=>True
 |q=>I q=c q
def Yz(L:Nat->Bool)(I:Nat->AN)(q:Nat):Prop:=L 9=AL/\I 9=Ap (Q ⟨q,0,O⟩)
structure L8(S:Nat->Prop)(wr:V)(j':BG)(z:Int)(c:Nat->AN)(L:Nat->Bool)(I:Nat->AN)(W:V):Prop where
 ext:Ext wr W
 val:∀q,L q=AL->TF c j' z I q
 box:L 9=AL->∃p,I 9=Ap (Q ⟨p,0,O⟩)/\wr.1.size<=p/\((L 10=AM/\JC W p CG Cl)\/L 10=AL/\∃a',I 5=Oj j' z a'/\JC W p j' a')
 o:L 5=AL->∃a',I 5=Oj j' z a'/\Bc (λq=>S q\/Yz L I q) W W.1.size j' a'
 ord:(L 6=AL->L 5=AL)/\(L 7=AL->L 6=AL)/\(L 8=AL->L 6=AL)/\(L 10=AL->L 5=AL/\L 9=AL)
section
variable {S : Nat → Prop} {wr W y : V} {j' : BG} {z : Int} {c : Nat → AN} {L : Nat → Bool} {I : Nat → AN}
def L8.BI(h:Ext wr W):L8 S wr j' z c (λ_=>AM) I W:=⟨h,λ_ h=>Aq,λh=>Aq,λh=>Aq,⟨λh=>Aq,λh=>Aq,λh=>Aq,λh=>Aq⟩⟩
theorem L8.nw(h:L8 S wr j' z c L I W)(a:Yz L I q):wr.1.size<=q/\q<W.1.size:=by
 obtain⟨p,e,h1,h2⟩:=h.box a.1;have:=a.2;rw[e] at this;injection this with this
 injection this with this
 injection this with this
 exact⟨this▸h1,this▸h2.elim (λh=>h.2.lt) (λ⟨_,_,_,h⟩=>h.lt)⟩
theorem iI{v:AN}(h:TF c j' z I q)(b:i≠5)(a:q≠i):TF c j' z (B7 I i v) q:=by
 unfold TF at *;split at h<;>(try trivial)
 .rw[DP a,DP (Ej b)];exact h
 .rw[DP a,DP (Ej b)];exact h
 .rw[DP a];exact h
 rw[DP a];exact h
theorem L8.up(h:L8 S wr j' z c L I W){v:AN}(a:i≠5)(b:i≠9)(f:i≠10)(k:TF c j' z (B7 I i v) i)(d:(i=6->L 5=AL)/\(i=7\/i=8->L 6=AL)):L8 S wr j' z c (Cn L i) (B7 I i v) W:=by
 refine⟨h.ext,λq g=> ?_,?_,?_,?_⟩
 .by_cases e:q=i
  .subst e;exact k
  rw[Bz e] at g;exact iI (h.val q g) a e
 .rw[Bz (Ej b),DP (Ej b),Bz (Ej f),DP (Ej a)];exact h.box
 .unfold Yz;rw[Bz (Ej a),DP (Ej a),Bz (Ej b),DP (Ej b)];exact h.o
 obtain⟨l,m,n,j⟩:=h.ord;refine⟨λe=>Mp ?_,λe=>Mp ?_,λe=>Mp ?_,λe=>by rw[Bz (Ej f)] at e;exact⟨Mp (j e).1,Mp (j e).2⟩⟩
 .by_cases q:i=6
  .exact d.1 q
  rw[Bz (Ej q)] at e;exact l e
 .by_cases q:i=7
  .exact d.2 (.inl q)
  rw[Bz (Ej q)] at e;exact m e
 by_cases q:i=8
 .exact d.2 (.inr q)
 rw[Bz (Ej q)] at e;exact n e
theorem L8.call(h:L8 S wr j' z c L I W)(b:L 5=AM)(hx:Ext W y)(n:Bc (λq=>S q\/Yz L I q) y y.1.size j' a'):L8 S wr j' z c (Cn L 5) (B7 I 5 (BO #[AW (P j' a'),M G z])) y:=by
 obtain⟨o,j,k,r⟩:=h.ord;have i:L 6≠AL:=λe=>by rw[o e] at b;cases b
 have f:L 10≠AL:=λe=>by rw[(r e).1] at b;cases b
 refine⟨h.ext.tr hx,λq d=> ?_,?_,λ_=>⟨a',Iw,n⟩,⟨λ_=>Vb,λe=>Mp (j RH),λe=>Mp (k RH),λe=>absurd RH f⟩⟩
 .by_cases e:q=5
  .subst e;trivial
  rw[Bz e] at d;have g:=h.val q d;unfold TF at *;split at g<;>first|trivial|exact absurd (j d) i|exact absurd (k d) i|(rw[DP e];exact g)
 rw[Bz Z,DP Z];intro e;obtain⟨p,l,m,a⟩:=h.box e;refine⟨p,l,m,.inl ⟨by rw[Bz Z];exact mE.2 f,?_⟩⟩;rcases a with⟨_,a⟩|⟨a,_⟩
 .exact JC.ext a hx
 exact absurd a f
theorem L8.new(h:L8 S wr j' z c L I W)(b:L 9=AM):L8 S wr j' z c (Cn L 9) (B7 I 9 (Ap (Q ⟨W.1.size,0,O⟩))) (W.alloc (.cells (P CG Cl) 34)):=by
 have hx:Ext W (W.alloc (.cells (P CG Cl) 34)):=(Ad _ _).alloc (AS _) _;obtain⟨i,j,k,l⟩:=h.ord;have d:L 10≠AL:=λe=>by rw[(l e).2] at b;cases b
 refine⟨h.ext.tr hx,λq a=> ?_,λ_=>⟨_,Iw,h.ext.size,.inl ⟨by rw[Bz Z];exact mE.2 d,Bq W _⟩⟩,?_,⟨λe=>Mp (i RH),λe=>Mp (j RH),λe=>Mp (k RH),λe=>absurd RH d⟩⟩
 .by_cases e:q=9
  .subst e;trivial
  rw[Bz e] at a;exact iI (h.val q a) Z e
 rw[Bz Z,DP Z];intro e;obtain⟨a',f,g⟩:=h.o e;refine⟨a',f,(g.fresh hx).mono (λq _ a=>a.imp (λh=> .inl h) (λhn=> ?_))⟩;have:=hn.2;rw[Iw] at this;injection this with this
 injection this with this
 injection this with this
 exact Uf this
theorem L8.store(h:L8 S wr j' z c L I W)(b:L 5=AL)(d:L 9=AL)(k:I 5=Oj j' z a'){p:Nat}(a:I 9=Ap (Q ⟨p,0,O⟩))(f:wr.1.size<=p)(l:W.1[p]?=Q (.cells C 34 (0,0))):L8 S wr j' z c (Cn L 10) (B7 I 10 Ba) (W.setRow p (P j' a')):=by
 obtain⟨n,o,r,s⟩:=h.ord;refine⟨CL h.ext f _,λq g=> ?_,λ_=>⟨p,by rw[DP Z];exact a,f,.inr ⟨Vb,a',by rw[DP Z];exact k,setRow_heap l _⟩⟩,λ_=> ?_,⟨λe=>Mp (n RH),λe=>Mp (o RH),λe=>Mp (r RH),λ_=>⟨Mp b,Mp d⟩⟩⟩
 .by_cases e:q=10
  .subst e;trivial
  rw[Bz e] at g;exact iI (h.val q g) Z e
 obtain⟨i,j,m⟩:=h.o b;refine⟨i,by rw[DP Z];exact j,?_⟩;unfold Yz;rw[Bz Z,DP Z];exact m.row (.inr ⟨d,a⟩) _
end
def a45(w:V)(j:BG)(a:BU)(n:List Ed)(us:List Bool)(R:Option An)(T:Nat)(A':Option An)(aA m B:Nat){X:Nat->Prop}(hb:Bc X w w.heap.size j a)(hX:∀b,X b->b<w.heap.size)
  (he:Iq w B R T n)(hu:BB 1 w B A' aA (GV us))(hB:B<=w.heap.size)(aD:∀b,b<B->¬X b)(hr:LK n us j m)(ae:Q1 j)(ht:CA w):
  AZ AO 18 #[AW (P j a),AK R n.length T,AK A' us.length aA] w (iD X w n us j):=by
 obtain⟨W0,HW,a1,v,hJ,hR⟩:=Zl w j a;have HJ:=A hJ;have a4:=A v;have HX:=A hX;have HR:=A hr;have HE:=A he;have HU:=A hu;have t:=A hB;have aR:=A aD;have aQ:=A (λk (hk:k<=n.length)=>qY (us:=us) ae hr.gr k hk);have HT:=A (λ(W:V) (h:Ext w W)=>ht.below h (AS _));have H0:=A (show LQ X w n us j 0 (AK O 0 0) W0 from⟨v,D,⟨a,hJ,⟨hb.toEP.grow v,λW hO=>hb.av W ⟨BJ v.size hO.1,λb h1 h2=>(hO.2 b D (by
  rintro((q|q|q)|q)
  ·exact h2 q
  ·omega
  ·omega
  ·cases q)).trans (v.block b h1)⟩⟩⟩,hR,Qz _ _ _ _⟩)
 have KJ:=A (YA W0 j a (hb.toEP.grow v) ae.rf.fw ae.rf.e (HT.o _ v));rw[hr.ok] at KJ;have aO:=hr.eq;have h4:=hr.Om;rw[aO];obtain⟨i0,aM,y,ax,aP⟩:=DM OG;have I0:=A aM;have I1:=A y;have I2:=A ax;have I3:=A aP;clear hJ hR hb hX he hu hB aD hr ae ht aM y ax aP a1 v aO;go_enter func18,ntmps18;go_upto_region 1 with(fail)
 rw[HW.o];go_wp2_with(first
  |(go_at_call 43;refine KJ.o.mono ?_;rintro x1 W1 ⟨rfl,aE⟩;have ap:=A aE;clear aE)
  |(refine Ce rfl 34 _ rfl _ rfl 34 _ (0,0) _ HJ.o DV rfl U ?_))
 have ax:=ap.o.size;have y:=H0.o.Pk;have H1:=A (show LQ X w n us j 0 (AK (Q ⟨W1.heap.size,0,O⟩) 0 0) (W1.alloc (.cells #[] 3)) by
  obtain⟨aj,J,S⟩:=H0.o.mem;have hx:Ext W1 (W1.alloc (.cells #[] 3)):=(Ad _ _).alloc (AS _) _;have ai:Ext W0 (W1.alloc (.cells #[] 3)):=Ext.tr ap.o hx;exact⟨H0.o.ext.tr ai,BJ H0.o.Pk ai.size,⟨aj,JC.ext J ai,((S.grow ap.o).fresh hx).mono (λb _ h=>h.imp (λe=> .inl e) (λe=>by have:=YT e;omega))⟩,JC.ext H0.o.res ai,Si W1 _ _ _ D⟩)
 go_loopw [9,10] (λlf i wr=>∃k:Nat,i=M G (k:Int)/\k<=n.length/\LQ X w n us j k lf wr) (λ_ i _=>((n.length:Int)-B8 i).toNat)
 case atStart=>exact⟨0,F,D,H1.o⟩
 case round=>
  obtain⟨k,rfl,hk,c⟩:=hrel;obtain⟨L,ln,lc,a0⟩:=Fx.of c.Ag;subst a0;have d:=A c;clear c;by_cases ag:k<n.length
  ·obtain⟨b,off,f,hA,hbB,hc⟩:=HE.o.at D;obtain⟨ar,aK⟩:=hc k ag;obtain⟨b',a3,aW,aG,aH⟩:=HU.o.2.2 (by rw[BL,HR.o.eq];omega);subst hA aW;have aI:w.cell? ⟨b',a3+k,O⟩=Q (AU (us.getD k AM)):=by
    have q:=aH k (by rw[BL,HR.o.eq];omega) 0 Z;rw[H7,Dh] at q;rw[q,CM,Ku,CM,Bv (show k<us.length by rw[HR.o.eq];omega)]
    rfl
   rw[DL] at ar;have aY:b<w.heap.size:=Dj hbB t.o;have aZ:b'<w.heap.size:=Dj aG t.o;have am:=A (λ(W:V) (h:Ext w W)=>jB ar h aY);have ay:=A (λ(W:V) (h:Ext w W)=>(Below.cell h aZ).trans aI);have an:=A aK;obtain⟨u,hu⟩:=AP (us.getD k AM);rw[hu] at ay;have ao:=A hu;obtain⟨ed,af⟩:=AP (n.getD k BZ);have aa:=A af;rw[af] at am;rw[af] at an;obtain⟨g,hg⟩:=AP (FO (f k).1 ed.Aa.length (f k).2);have HG:=A hg;have a5:=A (show((Ah ed g).all λx=>x.oneCell')=AL by rw[<-hg];kernel_rfl);rw[hg] at am;clear hc ar aK aH aI hbB aG hu af hg;have cu:=ay.o _ d.o.ext;cases u with
   |true=>
    go_wp2;exact⟨⟨k+1,by go_num,D,d.o.same (Ext.B9 _) ao.o⟩,Bm⟩
   |false=>
    obtain⟨aj,J,S⟩:=d.o.mem;have J1:=A J;have V1:=A S;have aq:=HR.o.ap ag;rw[aa.o] at aq;have al:=A aq;have ad:=Ci (aQ.o k (FM ag)) (HR.o.gr k ag);rw[aa.o] at ad;obtain⟨jk,av⟩:=AP (Fg n us j k);have ac:=A av;rw[av] at J1 V1 al ad;have ak:=A ad;clear ad;clear J S aq av;go_wp2_with fail
    have KA:=λW2 (o:Ext wr W2) (N:Nat->Prop) (hN:∀q,N q->wr.heap.size<=q/\q<W2.heap.size)=>nW W2 jk aj ed (f k).1 (f k).2 (X:=λb=>(WW X w.heap.size b\/(FO L ln lc).ownBlock=Q b)\/N b)
     (λq H=>by
      have h3:=d.o.Pk;have h4:=o.size;rcases H with((h1|h1|h1)|h1)|h1
      ·have:=HX.o q h1;omega
      ·omega
      ·omega
      ·have h2:=(DS d.o.Ag q h1).2;omega
      ·exact(hN q h1).2)
     ((V1.o.fresh o).mono (λq _ h=>h.imp id (λh=>(hN q h).1))) ((an.o.below ((d.o.ext.tr o).mono t.o)).more (BJ t.o (d.o.ext.tr o).size))
     (λW hO=>(an.o.off (BJ (d.o.ext.tr o).size hO.1) (λq H=>(hO.2 q (Dj H (BJ t.o (d.o.ext.tr o).size)) (by
      have h3:=d.o.Pk;have:=t.o;rintro(((h1|h1|h1)|h1)|h1)
      ·exact aR.o q H h1
      ·omega
      ·omega
      ·have h2:=(DS d.o.Ag q h1).1;omega
      ·have:=(hN q h1).1;omega)).trans ((d.o.ext.tr o).block q (Dj H t.o)))).more (BJ t.o (BJ (d.o.ext.tr o).size hO.1)))
     ak.o.1.rf al.o.ln (λ_=>(ak.o.1.RZ ak.o.2).rf) al.o.idx (HT.o _ (d.o.ext.tr o))
    rw[HG.o] at KA;obtain⟨z,hz⟩:=AP (Hf jk ed);obtain⟨j',au⟩:=AP (IX jk ed);have HZ:=A hz;have az:=A au;have aN:(if z=0 then Cz jk ed else CG)=j':=by rw[<-au,<-hz];rfl
    unfold Gg at KA;simp only[hz,aN] at KA;have KA:=A KA;clear hz au aN;refine Fz U (Qf 11 (L8 (λb=>WW X w.heap.size b\/(FO L ln lc).ownBlock=Q b) wr j' z (lR jk aj ed g b off k n.length T)) U ?step ?tail _ (λI=>L8.BI (Ext.dr wr)))
    case step=>
     intro i L' I w' hi hL c s;have hX:=d.o.ext.tr c.ext;have E:=λq h=>c.val q (s q h)
     have a8:=c.ext.size;rcases(show i=0\/i=1\/i=2\/i=3\/i=4\/i=5\/i=6\/i=7\/i=8\/i=9\/i=10 by omega) with rfl|rfl|rfl|rfl|rfl|rfl|rfl|rfl|rfl|rfl|rfl<;>clear hi<;>refine DC rfl (λK r=> ?_)
     ·exact NA 34 (.tmp 3) F w.heap.size F 34 _ (0,0) _ (JC.ext J1.o c.ext) DV F U (r _ _ ⟨_,F,c.up Z Z Z (by exact Iw) AV⟩)
     ·exact a0N
     ·exact a0N
     ·have d1:=E 1 U;have d2:=E 2 U;simp only[TF,lR] at d1 d2;go_simp;exact r _ _ ⟨Ap (Q ⟨b,off+k*37,O⟩),by simp[d1,d2,B7],c.up Z Z Z (by exact Iw) AV⟩
     ·have d3:=E 3 U;exact wp_load_mid _ _ F b (off+k*37) d3 (Ah ed g).toList _ (am.o _ hX) Cc F U (r _ _ ⟨_,F,c.up Z Z Z (by exact Iw) AV⟩)
     ·have d0:=E 0 U;have d4:=E 4 U;simp only[TF,lR] at d0 d4;go_simp;refine(KA.o w' c.ext _ (λq=>c.nw)).mono ?_;rintro x W2 ⟨a',rfl,o,aX⟩;exact r _ _ ⟨Oj j' z a',by simp[d0,d4,B7,Oj],c.call hL o aX⟩
     ·obtain⟨a',l,hv⟩:=c.o (s 5 U);go_simp;exact r _ _ ⟨Oj j' z a',by simp[l,B7,Oj],c.up Z Z Z (by show B7 I 6 _ 6=B7 I 6 _ 5;rw[Iw,DP Z,l]) (by simp[s 5 U])⟩
     ·obtain⟨a',l,hv⟩:=c.o (c.ord.1 (s 6 U));have d6:I 6=_:=(E 6 U:I 6=I 5).trans l;go_simp;exact r _ _ ⟨AW (P j' a'),by simp[l,d6,B7,Oj,G7],c.up Z Z Z (λa2 e=>by rw[DP Z,l] at e;unfold Oj at e;injection e with e;simp at e;rw[Iw,e]) (by simp[s 6 U])⟩
     ·obtain⟨a',l,hv⟩:=c.o (c.ord.1 (s 6 U));have d6:I 6=_:=(E 6 U:I 6=I 5).trans l;go_simp;exact r _ _ ⟨M G z,by simp[l,d6,B7,Oj,G7],c.up Z Z Z (by exact Iw) (by simp[s 6 U])⟩
     ·go_simp;exact r _ _ ⟨Ap (Q ⟨w'.heap.size,0,O⟩),F,c.new hL⟩
     ·have aB:=s 5 U;have aC:=s 9 U;obtain⟨a',l,hv⟩:=c.o aB;have d7:=(c.val 7 (s 7 U):∀a',I 5=_->_) a' l;obtain⟨p,d9,ah,ab⟩:=c.box aC;obtain⟨C,hC⟩:∃C,w'.heap[p]?=Q (.cells C 34 (0,0))/\C.size=15:=ab.elim (λh=>⟨_,h.2,rfl⟩) (λ⟨_,_,_,h⟩=>⟨_,h,rfl⟩);exact wp_store_row 34 _ _ F p (P j' a') d9 d7 34 _ hC.1 U hC.2 U (r _ _ ⟨Ba,by simp[G7,B7],c.store aB aC l d9 ah hC.1⟩)
    intro L' I W3 hl c;obtain⟨a',l,aF⟩:=c.o (hl 5 Z);have d7:=(c.val 7 (hl 7 Z):∀a',I 5=_->_) a' l;have d8:I 8=_:=c.val 8 (hl 8 Z);obtain⟨p,d9,ah,ab⟩:=c.box (hl 9 Z);have ab:JC W3 p j' a':=by
     rcases ab with⟨h,_⟩|⟨-,a2,e,h⟩
     ·rw[hl 10 Z] at h;cases h
     ·rw[l] at e;unfold Oj at e;injection e with e
      simp at e;unfold JC at h⊢;rw[e];exact h
    simp only[d7,d8,d9,FV,FY];have X3:=A c.ext;have B3:=A (aF.mono (Y:=λq=>WW X w.heap.size q\/(FO L ln lc).ownBlock=Q q) (λq _ h=> .inl h));have J4:=A (JC.ext J1.o c.ext);have aU:=A (EV d.o.Ag c.ext);have N3:=A ab;have a6:=A ah;clear hl c aF l d7 d8 d9 ab ah;by_cases y:z=0
    ·subst y;go_wp2_with(first
      |(refine Ce rfl 34 _ rfl _ rfl 34 _ (0,0) _ N3.o DV rfl U ?_)
      |(refine C7 rfl 34 _ _ rfl _ _ rfl rfl 34 _ J4.o U U U ?_))
     refine⟨⟨k+1,by go_num,D,?_⟩,Bm⟩;have q:=d.o.IL X3.o ao.o (a':=a') (by rw[aa.o,ac.o];exact HZ.o) (by rw[aa.o,ac.o,az.o];exact B3.o);rw[aa.o,ac.o,az.o] at q;exact q
    ·have tz:(z==0)=AM:=by simpa using y
     have tn:(z !=0)=AL:=Cd.2 y;have a7:(Gk n us j k).length<=k:=by unfold Gk;rw[BL];exact pQ _ _ _ _
     go_wp2_with(first
      |(at_builtin;(refine uy F _ _ _ F (w.heap.size+2) 3 i0 _ 1 8 FD I0.o I1.o I2.o I3.o F D _ _ _ F (EV aU.o ((Ad _ _).alloc (AS _) (.cells #[M G (k:Int)] 3))) ⟨W3.heap.size,0,O⟩ 1 1 [M G (k:Int)] F BE (λq u H=>by rw[OV,IU,(Az.new W3 3 [M G (k:Int)]).cell];exact H) QP Fp D (by have:=d.o.Pk;have:=X3.o.size;simp;omega) ?_);intro v' w' aw aL aJ;have aV:=A aw;have aT:=A aL;have aS:=A aJ;obtain⟨A4,n4,c4,e4⟩:=Fx.of aw;subst e4;clear aw aL aJ))
     exact⟨⟨k+1,by go_num,D,d.o.xc (X3.o.tr ((Ad _ _).alloc (AS _) _)) ao.o (by rw[aa.o,ac.o,HZ.o];exact y) aV.o aT.o aS.o⟩,Bm⟩
  ·obtain rfl:k=n.length:=D;obtain⟨aj,J,S⟩:=d.o.mem;have J1:=A J;have V1:=A S;clear J S;go_wp2_with(first
    |(refine Ce rfl 34 _ rfl _ rfl 34 _ (0,0) _ J1.o DV rfl U ?_)
    |(refine C7 rfl 34 _ _ rfl _ _ rfl rfl 34 _ d.o.res U U U ?_))
   refine Bp (jJ F _ _ _ _ F (setRow_heap d.o.res _) U) F ?_;obtain⟨e1,h1,h2,h3⟩:=d.o.done V1.o;subst e1;exact⟨aj,_,_,F,h1,h2,h3⟩
end
noncomputable def FC(j:BG)(a:List Ed)(us:List Bool):Int:=if Eh j≠0 then 1 else if ln a≠ln us then 9 else 0
noncomputable def NH(j:BG)(a:List Ed)(us:List Bool):BG:=if FC j a us=0 then Fg a us j (ln a) else CG
noncomputable def UX(j:BG)(a:List Ed)(us:List Bool):List Int:=if FC j a us=0 then Gk a us j (ln a) else []
def Ky(X:Nat->Prop)(w:V)(j:BG)(a:List Ed)(us:List Bool)(x:CI)(w':V):Prop:=
 ∃a' L lc,x=Ac (BO #[AW (P (NH j a us) a'),AK L (UX j a us).length lc,M G (FC j a us)])/\Ext w w'/\Bc X w' w'.1.size (NH j a us) a'/\∀W,Cu X w'.1.size w' W->BB 1 W W.1.size L lc (Cy (UX j a us))
def b0A{X:Nat->Prop}(w:V):Bc X w w.1.size CG Cl:=Rl X w _
theorem tW{B:Nat}:BB k w B L 0 []:=⟨AS _,Fp,λh=>absurd h AV⟩
theorem Ky.of{X:Nat->Prop}{a:List Ed}(p:∀b,X b->b<w.1.size)(m:FC j a us=0)(h:iD X w a us j x w'):Ky X w j a us x w':=by
 obtain⟨a',L,lc,e,hx,s,c⟩:=h;unfold Ky NH UX;rw[m,Aj rfl,Aj rfl];refine⟨a',L,lc,e,hx,s.mono (λ_ _ h=> .inl h),λW o=> ?_⟩;have⟨t,u,i,r⟩:=F1 (OI c (λg d=>o.2 g (DS c g d).2 (λq=>by have:=(DS c g d).1;have:=p g q;omega))) (BL _) (G9 (f:=λn=>[M G n]) (λ_=>rfl) _);injection i with k _ l
 rw[k,l];exact r
theorem Ky.bad{X:Nat->Prop}{a:List Ed}(c:FC j a us=z)(b:z≠0)(hx:Ext w W)(L:Option An):Ky X w j a us (Ac (BO #[AW (P CG Cl),AK L 0 0,M G z])) (W.setRow (w.1.size+1) (P CG Cl)):=by
 unfold Ky NH UX;rw[c,Af b,Af b];exact⟨Cl,L,0,F,CL hx D _,b0A _,λ_ _=>tW⟩
theorem uQ{p:Prop}(h:p:=by
  go_upto_region 1 with(fail)
  rw[m.out]
  go_wp2_with(first
   |((first|go_at_call 41|go_at_call 43);refine f.out.mono ?_;rintro x1 W1 ⟨rfl,hX1⟩;have HX1:=A hX1;clear hX1)
   |(refine Ce rfl 34 _ rfl _ rfl 34 _ (0,0) _ l.out DV rfl (by kernel_rfl) ?_)
   |(refine JL rfl 34 _ rfl (by kernel_rfl) ?_;rw[show Ea (FF (AO.built 34 _) #[])= .agg (P CG Cl) from by kernel_rfl])
   |(refine C7 rfl 34 _ _ rfl _ _ rfl rfl 34 _ (by first|exact JC.ext i.out HX1.out|exact JC.ext i.out (Ext.tr HX1.out ((Ad _ _).alloc (AS _) _))) (by kernel_rfl) (by kernel_rfl) (by kernel_rfl) ?_))
  refine Bp (jJ rfl _ _ _ _ rfl (setRow_heap (by first|exact JC.ext i.out HX1.out|exact JC.ext i.out (Ext.tr HX1.out ((Ad _ _).alloc (AS _) _))) _) (by kernel_rfl)) rfl ?_
  first
   |exact e.out _ HX1.out _
   |exact e.out _ (Ext.tr HX1.out ((Ad _ _).alloc (AS _) _)) _):p:=h
theorem a3r(w:V)(j:BG)(a:BU)(b:List Ed)(us:List Bool)(R u:Option An)(T v:Nat){X:Nat→Prop}(q:EP w w.heap.size j a)(k:FC j b us≠0)(r:Ll j)(hm:En w)(s:CA w):
  AZ AO 17 #[.agg (P j a),.slice R b.length T,.slice u us.length v] w (Ky X w j b us):=by
 obtain⟨W0,m,x,c,n,o⟩:=Zl w j a
 have l:=A n
 have i:=A o
 have f:=A (VR W0 j a (q.grow c) r (hm.below c (AS _)) (s.below c (AS _)))
 obtain⟨g,d⟩:=AP (Eh j)
 rw[d] at f
 by_cases h1:g=0
 case' neg=>
  have t:(g !=0)=AL:=Cd.2 h1
  have e:=A (fun W (h:Ext W0 W) L=>Ky.bad (X:=X) (L:=L) (show FC j b us=1 by unfold FC;rw[d,Aj h1]) (by decide) (c.tr h))
 case' pos=>
  subst h1
  have h2:b.length≠us.length:=fun h=>k (by unfold FC;rw[d,Af (by simp),Af (by simp[h])])
  have t:((b.length:Int) !=(us.length:Int))=AL:=Cd.2 (by omega)
  have e:=A (fun W (h:Ext W0 W) L=>Ky.bad (X:=X) (L:=L) (show FC j b us=9 by unfold FC;rw[d,Af (by simp),Aj h2]) (by decide) (c.tr h))
  have y:(b.length:Int)≠(us.length:Int):=by omega
  clear h2
 all_goals
  clear q k r hm s x c n o d
  go_enter func17,ntmps17
  exact uQ
theorem a39(w:V)(j:BG)(a:BU)(b:List Ed)(us:List Bool)(R u:Option An)(T v:Nat){X:Nat→Prop}(r:EP w w.heap.size j a)(n:FC j b us≠0)(k:Tf j)(s:CA w):
  AZ AO 18 #[.agg (P j a),.slice R b.length T,.slice u us.length v] w (Ky X w j b us):=by
 obtain⟨W0,m,x,c,o,q⟩:=Zl w j a
 have l:=A o
 have i:=A q
 have f:=A (YA W0 j a (r.grow c) k.fw k.e (s.below c (AS _)))
 obtain⟨g,d⟩:=AP (Eh j)
 rw[d] at f
 by_cases h1:g=0
 case' neg=>
  have t:(g !=0)=AL:=Cd.2 h1
  have e:=A (fun W (h:Ext W0 W) L=>Ky.bad (X:=X) (L:=L) (show FC j b us=1 by unfold FC;rw[d,Aj h1]) (by decide) (c.tr h))
 case' pos=>
  subst h1
  have h2:b.length≠us.length:=fun h=>n (by unfold FC;rw[d,Af (by simp),Af (by simp[h])])
  have t:((b.length:Int) !=(us.length:Int))=AL:=Cd.2 (by omega)
  have e:=A (fun W (h:Ext W0 W) L=>Ky.bad (X:=X) (L:=L) (show FC j b us=9 by unfold FC;rw[d,Af (by simp),Aj h2]) (by decide) (c.tr h))
  clear h2
 all_goals
  clear r n k s x c o q d
  go_enter func18,ntmps18
  exact uQ
structure Ig(l:Log):Prop where
 gr:lC l
 ix:∀e∈l.BS,Bh e.Ae
noncomputable def WX(l:Log):Int:=if FC l.BI l.BS l.BP=0 then 0 else 1
noncomputable abbrev Oi(l:Log):BG:=NH l.BI l.BS l.BP
theorem Yo{a:List Ed}(h:FC j a us=0):Eh j=0/\ln us=ln a:=by
 unfold FC at h;split at h
 .exact absurd h Z
 split at h
 .exact absurd h Z
 exact⟨D,D⟩
def Ig.rp{l:Log}(h:Ig l)(a:FC l.BI l.BS l.BP=0):LK l.BS l.BP l.BI 4100:=Xf.rp ⟨h.gr,(Yo a).1,(Yo a).2⟩ h.ix
def qA(w:V)(l:Log)(a:Cb){B:Nat}{X:Nat->Prop}(e:Bc X w w.1.size l.BI a.ja)(d:∀b,X b->b<w.1.size)(k:Iq w B a.ea a.ec l.BS)(hu:BB 1 w B a.ua a.uc (GV l.BP))(i:B<=w.1.size)(j:∀b,b<B->¬X b)(f:Ig l)(hm:En w)(g:CA w):AZ AO 17 #[AW (P l.BI a.ja),AK a.ea (ln l.BS) a.ec,AK a.ua (ln l.BP) a.uc] w (Ky X w l.BI l.BS l.BP):=by
 by_cases c:FC l.BI l.BS l.BP=0
 .exact(a4B w l.BI a.ja l.BS l.BP a.ea a.ec a.ua a.uc 4100 B e d k hu i j (f.rp c) hm g).mono λ_ _ h=>Ky.of d c h
 exact a3r w l.BI a.ja l.BS l.BP a.ea a.ua a.ec a.uc e.toEP c (wh f.gr.j) hm g
def p9(w:V)(l:Log)(a:Cb){B:Nat}{X:Nat->Prop}(f:Bc X w w.1.size l.BI a.ja)(e:∀b,X b->b<w.1.size)(k:Iq w B a.ea a.ec l.BS)(hu:BB 1 w B a.ua a.uc (GV l.BP))(i:B<=w.1.size)(j:∀b,b<B->¬X b)(d:Ig l)(g:CA w):AZ AO 18 #[AW (P l.BI a.ja),AK a.ea (ln l.BS) a.ec,AK a.ua (ln l.BP) a.uc] w (Ky X w l.BI l.BS l.BP):=by
 by_cases c:FC l.BI l.BS l.BP=0
 .exact(a45 w l.BI a.ja l.BS l.BP a.ea a.ec a.ua a.uc 4100 B f e k hu i j (d.rp c) (we d.gr.j (Yo c).1).all g).mono λ_ _ h=>Ky.of e c h
 exact a39 w l.BI a.ja l.BS l.BP a.ea a.ua a.ec a.uc f.toEP c d.gr.j.rf g
def UT(X:Nat->Prop)(w:V)(l:Log)(x:CI)(w':V):Prop:=∃a',x=Ac (BO #[AW (P (Oi l) a'),M G (WX l)])/\Ext w w'/\Bc X w' w'.1.size (Oi l) a'
def uN(w:V)(l:Log)(a:Cb):∃W0,(w.alloc (.cells (BQ l a) 38)).alloc (.cells #[AT {data:=#[]},AK O 0 0,M G 0,M G 0,AK O 0 0,AK O 0 0,AK O 0 0,AK O 0 0,M G 0,M G 0,M G 0,M G 0,M G 0,AK O 0 0,AK O 0 0] 34)=W0/\W0.1.size=w.1.size+2/\Ext w W0/\LC W0 w.1.size l a/\JC W0 (w.1.size+1) CG Cl:=by
 refine⟨_,F,AV,((Ad _ _).alloc (AS _) _).alloc AV _,LC.ext (Bq w _) ((Ad _ _).alloc (AS _) _),?_⟩;have:=Bq (w.alloc (.cells (BQ l a) 38)) (.cells (P CG Cl) 34);exact XE
def rV (w : V) (l : Log) (a : Cb) {B : Nat} {X : Nat -> Prop} (i : Dz w B l a) (d : B <= w.1.size) (g : ∀ b, X b -> b < w.1.size /\ B <= b) (E : Ig l) (hm : En w) (I : CA w) : AZ AO 7 #[AW (BQ l a)] w (UT X w l) := by
  obtain ⟨W0, y, H, c, f, v⟩ := uN w l a;have O := A y;have M := A f;have N := A v;have r := A c;have s := A H;have m := A (qA W0 l a (B := B) (X := λb => X b \/ b = w.1.size + 1) ((((i.j.v d (X := λb => X b \/ b = w.1.size + 1) (λb h1 h2 => by
    rcases h2 with h2 | h2
    . have := (g b h2).2; omega
    . omega)).more d)).grow c) (λb h => by
    rcases h with h | h
    . have := (g b h).1; omega
    . omega) (i.e.below (c.mono d)) (i.u.below (c.mono d)) (BJ d c.size) (λb h1 h2 => by
    rcases h2 with h2 | h2
    . have := (g b h2).2; omega
    omega) E (hm.below c (AS _)) (I.below c (AS _)))
  have S := f.cell 15;have T := f.cell 16;unfold UT WX;obtain ⟨j', j⟩ : ∃ x, NH l.BI l.BS l.BP = x := ⟨_, F⟩;obtain ⟨li, G⟩ : ∃ x, UX l.BI l.BS l.BP = x := ⟨_, F⟩;obtain ⟨z, k⟩ : ∃ x, FC l.BI l.BS l.BP = x := ⟨_, F⟩;have J : z ≠ 0 -> j' = CG := λh => by rw [<- j]; unfold NH; rw [k, Af h]
  have Q := A J;unfold Ky at m;rw [j, G, k] at m;rw [show Oi l = j' from j, k];clear f v i E hm I c j G H g d k J y;go_enter func7, ntmps7;go_upto_region 1 with (fail)
  rw [O.o];go_wp2_with (first
    | (go_at_call 17; fail)
    | (refine Qd BE _ rfl _ _ rfl _ _ M.BI ?_))
  refine m.mono ?_;rintro x1 W1 ⟨a', L, lc, rfl, C, D, _⟩;have n := A C;have K := A D;clear C D;by_cases o : z = 0
  case' neg => have W : (z != 0) = AL := Cd.2 o
  case' pos => subst o
  all_goals
    go_wp2_with (first
      | (refine C7 rfl 34 _ _ rfl _ _ rfl rfl 34 _ (Bq W1 _) U U U ?_
         generalize q : F8 _ W1.1.size (P j' a') = u;have e := A (show Ext W1 u by rw [<- q]; exact CL ((Ad _ _).alloc (AS _) _) (AS _) _);have R := A (show JC u W1.1.size j' a' by unfold JC; rw [<- q]; exact setRow_heap (Bq W1 _) _);have t := A (JC.ext N (n.tr e));clear q)
      | (refine JL rfl 34 _ rfl U ?_; rw [show Ea (FF (AO.built 34 _) #[]) =AW (P CG Cl) from U])
      | (refine Ce rfl 34 _ rfl _ rfl 34 _ (0, 0) _ R DV rfl U ?_)
      | (refine C7 rfl 34 _ _ rfl _ _ rfl rfl 34 _ t U U U ?_))
    refine Bp (Iu F _ _ _ _ F (setRow_heap t _) U) F ?_
  . exact ⟨a', F, CL (r.tr (n.tr e)) (by have := s.o; omega) _, ((K.grow e).row (.inr F) _).mono (λb _ h => .inl h)⟩
  rw [Q.o o]
  exact ⟨Cl, F, CL (r.tr (n.tr e)) (by have := s.o; omega) _, Rl _ _ _⟩
def uv(w:V)(l:Log)(a:Cb)(x:Array AN):∃W0,((w.alloc (.cells (BQ l a) 38)).alloc (.cells x 54)).alloc (.cells #[AT {data:=#[]},AK O 0 0,M G 0,M G 0,AK O 0 0,AK O 0 0,AK O 0 0,AK O 0 0,M G 0,M G 0,M G 0,M G 0,M G 0,AK O 0 0,AK O 0 0,AK O 0 0,AK O 0 0] 38)=W0/\Ext w W0/\W0.1.size=w.1.size+3/\LC W0 w.1.size l a/\EC W0 (w.1.size+1) x/\LC W0 (w.1.size+2) IM IJ:=by
 refine⟨_,F,(((Ad _ _).alloc (AS _) _).alloc AV _).alloc Bk _,AV,LC.ext (Bq w _) (((Ad _ _).alloc (AS _) _).alloc AV _),?_,?_⟩
 .have:=EC.new (w.alloc (.cells (BQ l a) 38)) x;rw[D5] at this;exact EC.ext this ((Ad _ _).alloc (AS _) _)
 have:=Bq ((w.alloc (.cells (BQ l a) 38)).alloc (.cells x 54)) (.cells (BQ IM IJ) 38);rw[D5,D5] at this;exact this
def qu{b:BV}{a:TypeInfo}{z:AN}(h1:a.size=37){x:F0}{e:Ed}{v:AN}(hx:b.eval x=AW (Ah e v)):
  Instr.fill (λi=>Q (i*a.size,a.size)) ((Array.range (1*a.size)).map (z.cells[· %z.cells.size]!)) ((#[(0,x)]:Array (Nat×F0)).map λ(i,x)=>(i,b.eval x)).toList=Q (Ah e v):=by
 rw[h1,show((#[(0,x)]:Array (Nat×F0)).map λ(i,x)=>(i,b.eval x)).toList=[(0,AW (Ah e v))] by simp[hx]]
 kernel_rfl
def Zq(w:V)(l:Log)(e:Ed)(z:Int)(x:CI)(w':V):Prop:=
 Ext w w'/\if z=0 then∃a',x=Ac (BO #[AW (BQ (Jd l e) a'),M G 0])/\Dz w' w'.1.size (Jd l e) a' else x=Ac (BO #[AW (BQ IM IJ),M G z])
noncomputable def Re(l:Log)(e:Ed):Int:=if FC l.BI l.BS l.BP=0 then Hf (Oi l) e else 1
def Ig.ap{l:Log}(h:Ig l)(a:FC l.BI l.BS l.BP=0){e:Ed}(b:Gu e=AM)(hx:e.Ae<=9223372036854775807):Tq (Oi l) e:=by
 unfold Oi NH;rw[Aj a];exact Tq.rp (h.rp a) b hx
def a9c (w : V) (l : Log) (a : Cb) (e : Ed) (ga : Option An) (gc : Nat) {B : Nat} (hb : Dz w B l a) (n : B <= w.1.size) (ah : C8 w B ga gc e.Aa) (C : Ig l) (E : Gu e = AM) (hx : e.Ae <= 9223372036854775807) (hm : En w) (ht : CA w) :
    AZ AO 10 #[AW (BQ l a), AW (Ah e (AK ga (ln e.Aa) gc))] w (Zq w l e (Re l e)) := by
  obtain ⟨v, S⟩ : ∃ v, FO ga (ln e.Aa) gc = v := ⟨_, F⟩;have HV := A S;obtain ⟨W0, al, g, au, f, hZ, hR⟩ := uv w l a (Ah e v);have HW := A al;have E0 := A g;have o := A (λW (h : Ext W0 W) => LC.ext f h);have HZ := A (λW (h : Ext W0 W) => EC.ext hZ h);have T := A (λW (h : Ext W0 W) => LC.ext hR h);have KS := A (rV W0 l a (B := B) (X := λ_ => False) (hb.below (g.mono n)) (BJ n g.size) (λ_ h => h.elim) C (hm.below g (AS _)) (ht.below g (AS _)));have af := λN => C.ap N E hx
  unfold UT WX at KS;unfold Re;obtain ⟨j', ar⟩ : ∃ x, NH l.BI l.BS l.BP = x := ⟨_, F⟩;rw [show Oi l = j' from ar] at af KS ⊢;obtain ⟨z, hz⟩ : ∃ z, Hf j' e = z := ⟨_, F⟩;have KC := A (λN W (h : Ext W0 W) a' (hj : EP W W.1.size j' a') => a3Q W j' a' e ga gc hj ((ah.below ((g.tr h).mono n)).more (BJ n (g.tr h).size)) (af N) (hm.below (g.tr h) (AS _)) (ht.below (g.tr h) (AS _)));rw [S, hz] at KC;rw [hz, S];obtain ⟨rows, he, av⟩ := cJ hb.e;have hn := he.1;have ag := C.gr.n;have hu := C.gr.u;have KE := A (λW (h : Ext W0 W) => pO W a.ea a.ec rows ((av.below ((g.tr h).mono n)).more (BJ n (g.tr h).size)) he.wide he.one D);have KB := A (λW (h : Ext W0 W) => qG W a.ua a.uc (GV l.BP) ((hb.u.below ((g.tr h).mono n)).more (BJ n (g.tr h).size)) (Oq _) (ZX _) (by rw [BL]; omega));rw [hn] at KE;rw [BL] at KB;have HE := A (λW1 W v2 v5 (h1 : Ext W0 W1) (hx : Ext W1 W) o2 o5 => b3q (W0 := W1) (W := W) (v2 := v2) (v5 := v5) hb n he ah (g.tr h1) (by have := h1.size; omega) hx o2 o5);rw [S] at HE;have aD := A (show ((Ah e v).all λx => x.oneCell') = AL by rw [<- S]; kernel_rfl);have Y : ((ln l.BS : Int) == 4096) = AM := CK.2 D;have H4 := A (Ci Y (Ci hu ag));have HS := A au;obtain ⟨y, hy⟩ : ∃ y, (if FC l.BI l.BS l.BP = 0 then z else 1) = y := ⟨_, F⟩;obtain ⟨s, hs⟩ : ∃ s : Int, (if FC l.BI l.BS l.BP = 0 then 0 else 1) = s := ⟨_, F⟩;have HY := A (show (s ≠ 0 -> y = 1 /\ s = 1) /\ (s = 0 -> FC l.BI l.BS l.BP = 0 /\ z = y) by
    subst hy hs;by_cases q : FC l.BI l.BS l.BP = 0 <;> simp [q])
  rw [hy];rw [hs] at KS;clear al g f hZ hR hb n ah E hx hm ht af ar hz S he av hn Y hu au C ag hy hs;go_enter func10, ntmps10;go_upto_region 1 with (fail)
  rw [HW.o];go_wp2_with (first
    | (go_at_call 7; fail)
    | (refine Ce rfl 38 _ rfl _ rfl 38 _ (0, 0) _ (o.o _ (Ext.B9 _)) underlying38 rfl U ?_))
  refine KS.o.mono ?_;rintro x1 W1 ⟨a', rfl, am, ao⟩;have X1 := A am;have B1 := A ao.toEP;clear am ao;by_cases N : s = 0
  case neg =>
    obtain ⟨rfl, rfl⟩ := HY.o.1 N;go_wp2_with (first
      | (refine C7 rfl 34 _ _ rfl _ _ rfl rfl 34 _ (Bq W1 _) U U U ?_
         generalize R : F8 _ W1.1.size (P j' a') = W2;have ac := A (show Ext W1 W2 by rw [<- R]; exact CL ((Ad _ _).alloc (AS _) _) (AS _) _);have H := A (X1.o.tr ac.o);clear R)
      | (refine JL rfl 38 _ rfl U ?_; rw [show Ea (FF (AO.built 38 _) #[]) =AW (BQ IM IJ) from U])
      | (refine C7 rfl 38 _ _ rfl _ _ rfl rfl 38 _ (T.o _ H.o) U U U ?_))
    refine Bp (Po F _ _ _ _ F (setRow_heap (T.o _ H.o) _) U) F ?_;exact ⟨CL (E0.o.tr H.o) D _, by rw [Af Z]; rfl⟩
  obtain ⟨h1, rfl⟩ := HY.o.2 N;subst N;have H0 := A h1;clear h1;go_wp2_with (first
    | (go_at_call 35; fail)
    | (refine C7 rfl 34 _ _ rfl _ _ rfl rfl 34 _ (Bq W1 _) U U U ?_
       generalize R : F8 _ W1.1.size (P j' a') = W2;have ac := A (show Ext W1 W2 by rw [<- R]; exact CL ((Ad _ _).alloc (AS _) _) (AS _) _);have N2 := A (show JC W2 W1.1.size j' a' by unfold JC; rw [<- R]; exact setRow_heap (Bq W1 _) _);have H := A (X1.o.tr ac.o);clear R)
    | (refine Ce rfl 34 _ rfl _ rfl 34 _ (0, 0) _ N2.o DV rfl U ?_)
    | (refine Ce rfl 54 _ rfl _ rfl 54 _ (0, 0) _ (HZ.o _ H.o) Cc rfl U ?_))
  refine (KC.o H0.o _ H.o a' (B1.o.grow ac.o)).mono ?_;rintro x3 W3 ⟨rfl, an⟩;have J := A (H.o.tr an);clear an;by_cases ai : z = 0
  case neg =>
    have t0 : (z != 0) = AL := Cd.2 ai;go_wp2_with (first
      | (refine JL rfl 38 _ rfl U ?_; rw [show Ea (FF (AO.built 38 _) #[]) =AW (BQ IM IJ) from U])
      | (refine C7 rfl 38 _ _ rfl _ _ rfl rfl 38 _ (T.o _ J.o) U U U ?_))
    refine Bp (Po F _ _ _ _ F (setRow_heap (T.o _ J.o) _) U) F ?_;exact ⟨CL (E0.o.tr J.o) D _, by rw [Af ai]; rfl⟩
  subst ai;have aI := (o.o _ J.o).cell 15;have Y := H4.o.1;go_wp2_with fail
  have ag := H4.o.2.2;obtain ⟨ie, aq, az, aA, aB⟩ := DM cD;obtain ⟨ib, ap, aw, ax, ay⟩ := DM bV;have r := A (Ci aq (Ci az (Ci aA aB)));have IB := A (Ci ap (Ci aw (Ci ax ay)));have UE := underlying35;have UB := underlying36;clear aq az aA aB ap aw ax ay;refine Fz U (bF 12 (λI => ⟨#[AW (BQ l a), AW (Ah e v), Ap (Q ⟨w.1.size, 0, O⟩), Ap (Q ⟨w.1.size + 1, 0, O⟩), Ap (Q ⟨w.1.size + 1 + 1, 0, O⟩), M G 0, Ap (Q ⟨W1.1.size, 0, O⟩), M G 0, M G 0, BO #[AW (P j' a'), M G 0], AW (BQ l a), BO #[AW (P j' a'), M G 0], AW (P j' a'), M G 0, M G 0, AU AM, Ba, Ba, AW (P j' a'), AW (Ah e v), M G 0, M G 0, AU AM, Ba, Ba, Ap (Q ⟨w.1.size, 15, O⟩), AK a.ea (ln l.BS) a.ec, M G (ln l.BS : Int), AU AM, Ba, I 0, I 1, I 2, I 3, I 4, I 5, I 6, I 7, I 8, I 9, I 10, I 11, Ba, Ba], []⟩)
    (λL I W => NJ W3 w.1.size l a (Ah e v) rows.flatten L I W) U ?step ?tail (λ_ => Ba) _ (NJ.BI (Ext.dr _)))
  case step =>
    intro i L I W hi f j hd;have b := A j;have X := A (J.o.tr j.ext);have ab := λq h1 h2 h3 Y h5 h6 h7 => j.Bg q (hd q h1) h2 h3 Y h5 h6 h7
    clear j;rcases (show i = 0 \/ i = 1 \/ i = 2 \/ i = 3 \/ i = 4 \/ i = 5 \/ i = 6 \/ i = 7 \/ i = 8 \/ i = 9 \/ i = 10 \/ i = 11 by omega) with rfl | rfl | rfl | rfl | rfl | rfl | rfl | rfl | rfl | rfl | rfl | rfl <;> clear hi
    .exact mh
    . refine DC F (λK c => ?_)
      have d0 := ab 0 U Z Z Z Z Z Z;simp only [Od] at d0;have m := (o.o _ X.o).cell 15;go_simp;exact c _ _ ⟨_, by simp [B7, d0, Od], b.o.pure D rfl⟩
    . refine DC F (λK c => ?_)
      have d1 := ab 1 U Z Z Z Z Z Z;simp only [Od] at d1;have h5 := b.o.xr (.inl f);go_simp;refine (KE.o _ X.o).mono ?_;rintro x W4 ⟨y, rfl, k, d⟩;exact c _ _ ⟨y, by simp [B7, d1], b.o.up D (b.o.ext.tr d) D D (b.o.ed.clone Z Z h5 d k b.o.ext.size) ((b.o.bl.ext d).other Z Z Z _)⟩
    . refine DC F (λK c => ?_)
      exact NA 54 (.tmp 3) F (w.1.size + 1) F 54 _ (0, 0) _ (HZ.o _ X.o) Cc F U (c _ _ ⟨_, by simp [G7, B7, Od], b.o.pure D rfl⟩)
    . refine DC F (λK c => ?_)
      have d3 := ab 3 U Z Z Z Z Z Z;simp only [Od] at d3;have h5 := b.o.xr (.inr f);have d : Ext W (W.alloc (.cells (Ah e v) 54)) := (Ad _ _).alloc (AS _) _;exact wp_buildSlice 35 54 1 _ F (Ah e v) ie _ UE r.o.1 r.o.2.1 (by rw [r.o.2.2.1]; decide) (by rw [r.o.2.2.1]; decide) (qu r.o.2.2.1 d3)
        (c _ _ ⟨_, by simp [G7, B7], b.o.up D (b.o.ext.tr d) D D (b.o.ed.build Z Z h5 rfl) ((b.o.bl.ext d).other Z Z Z _)⟩)
    . refine DC F (λK c => ?_)
      have l2 := hd 2 U;have l4 := hd 4 U;have k := b.o.ed.Ag f l2;obtain ⟨vb, aG, aE, -⟩ := b.o.ed.Nw f l4;refine aa _ _ 35 F W3.1.size 54 ie _ 37 360 UE r.o.1 r.o.2.1 r.o.2.2.1 r.o.2.2.2 U Z (I 2) (ln l.BS) rows.flatten F k ⟨vb, 0, O⟩ 1 1 (Ah e v).toList aG U (V.news_of_block (t := _) (fr := (0, 0)) aE) (λu hu => dw.1 aD.o u (by simpa using hu)) (by unfold BM; omega) D b.o.ext.size ?_;intro y W4 hw E;exact c _ _ ⟨y, by simp [G7, B7], b.o.up D (KY b.o.ext E (λq hq => (DS k q hq).1)) (λ_ => ⟨l2, l4⟩) D (IS.append Z Z hw) ((b.o.bl.grown k E Z).other Z Z Z _)⟩
    .exact mh
    . refine DC F (λK c => ?_)
      have d6 := ab 6 U Z Z Z Z Z Z;simp only [Od] at d6;have m := (o.o _ X.o).cell 16;go_simp;exact c _ _ ⟨_, by simp [B7, d6, Od], b.o.pure D rfl⟩
    . refine DC F (λK c => ?_)
      have d7 := ab 7 U Z Z Z Z Z Z;simp only [Od] at d7;have ae := b.o.xO (.inl f);go_simp;refine (KB.o _ X.o).mono ?_;rintro x W4 ⟨y, rfl, k, d⟩;exact c _ _ ⟨y, by simp [B7, d7], b.o.up D (b.o.ext.tr d) D D ((b.o.ed.ext d).other Z Z Z _) (b.o.bl.clone Z Z ae d k b.o.ext.size)⟩
    . refine DC F (λK c => ?_)
      have ae := b.o.xO (.inr f);have d : Ext W (W.alloc (.cells #[AU AM] 4)) := (Ad _ _).alloc (AS _) _;go_simp;exact c _ _ ⟨_, by simp [B7], b.o.up D (b.o.ext.tr d) D D ((b.o.ed.ext d).other Z Z Z _) (b.o.bl.build Z Z ae rfl)⟩
    . refine DC F (λK c => ?_)
      have l8 := hd 8 U;have l9 := hd 9 U;have k := b.o.bl.Ag f l8;obtain ⟨vb, aH, aF, -⟩ := b.o.bl.Nw f l9;have aL := H4.o.2.1;refine aa _ _ 36 F W3.1.size 4 ib _ 1 1 UB IB.o.1 IB.o.2.1 IB.o.2.2.1 IB.o.2.2.2 F Z (I 8) (ln l.BP) (GV l.BP).flatten F k ⟨vb, 0, O⟩ 1 1 [AU AM] aH F (V.news_of_block (t := _) (fr := (0, 0)) aF) (λu hu => by simp at hu; subst hu; rfl) (by unfold BM; omega) D b.o.ext.size ?_;intro y W4 hw E;exact c _ _ ⟨y, by simp [G7, B7], b.o.up D (KY b.o.ext E (λq hq => (DS k q hq).1)) D (λ_ => ⟨l8, l9⟩) ((b.o.ed.grown k E Z).other Z Z Z _) (IS.append Z Z hw)⟩
    exact mh
  case tail =>
    intro L I W f j;have o5 := j.ed.app (f 5 Z);have aj := j.bl.app (f 10 Z);have ad := j.Bg 11 (f 11 Z) Z Z Z Z Z Z;simp only [Od] at ad;obtain ⟨a', C, hE, d⟩ := HE.o W3 W _ _ J.o j.ext o5 aj;obtain ⟨A5, n5, c5, e5⟩ := Fx.of o5;obtain ⟨A6, n6, c6, e6⟩ := Fx.of aj;rw [e5, e6] at C hE d;have hx := J.o.tr j.ext;have aM := (o.o _ hx).cell 15;have aN := (o.o _ hx).cell 16;have aJ := LC.frozen (o.o _ hx) 15;have aK := LC.frozen (o.o _ hx) 16;have hc := LC.aR (o.o _ hx) C;have hr := (kM (AK A5 n5 c5) (AK A6 n6 c6) (show w.1.size + 2 ≠ w.1.size by omega)).trans (T.o _ hx);unfold GJ at hc hr hE d;have aC := A hc;have ak := A hr;have HF := A (Ci hE d);clear j f C hE d o5 aj hx hc hr;simp only [e5, e6, ad, FV, FY];clear e5 e6 ad;go_wp2_with (first
      | (refine Ce rfl 38 _ rfl _ rfl 38 _ (0, 0) _ aC.o underlying38 rfl U ?_)
      | (refine C7 rfl 38 _ _ rfl _ _ rfl rfl 38 _ ak.o U U U ?_))
    refine Bp (Po F _ _ _ _ F (setRow_heap ak.o _) U) F ?_;exact ⟨HF.o.1, by rw [Aj rfl]; exact ⟨a', F, HF.o.2⟩⟩
noncomputable def NK(l:Log):Bool:=AQ (FC l.BI l.BS l.BP=0)
def b2U(l:Log):NK l=(AQ (Eh l.BI=0)&&AQ ((ln l.BS:Int)=(ln l.BP:Int))):=by
 unfold NK FC;by_cases h1:Eh l.BI=0<;>by_cases h2:(ln l.BS:Int)=(ln l.BP:Int)<;>simp[h1,h2]<;>omega
theorem wT(h:p:=by
  have⟨e1,he1⟩:=AP (Eh l.BI);rw[b2U,he1];rw[he1] at K;have KJ:=A K;have hn:=b.gr.n;have t2:AQ ((ln l.BS:Int)<=4096)=AL:=CP D;have HT:=A t2;clear f b g K i e t2 hn he1;go_wp2_with(first
   |(go_at_call 41;fail)
   |(go_at_call 43;fail)
   |(rw[k.o];refine Qd BE _ F _ _ F _ _ (d _ (Ext.B9 _)).BI ?_))
  refine KJ.q λW1 hX1=>?_;have X1:=A hX1;have c15:=(d _ hX1).cell 15;have c16:=(d _ hX1).cell 16;have t2:=HT.o;clear hX1;by_cases q1:e1=0
  case' neg=>have q2:(e1==0)=AM:=by simpa using q1
  case' pos=>
   subst q1;by_cases q1:(ln l.BS:Int)=(ln l.BP:Int)
  case' neg=>have q2:((ln l.BS:Int)==(ln l.BP:Int))=AM:=by simpa using q1
  case' pos=>have q2:((ln l.BS:Int)==(ln l.BP:Int))=AL:=by simpa using q1
  all_goals
   go_wp2;go_ret;exact⟨by simp[q1]<;>(have:=Jh t2;omega),j.tr X1⟩):p:=h
def tK(w:V)(l:Log)(a:Cb):∃b,w.alloc (.cells (BQ l a) 38)=b/\Ext w b/\LC b w.1.size l a:=⟨_,rfl,(Ad _ _).alloc (AS _) _,Bq w _⟩
def a6o(w:V)(l:Log)(a:Cb)(f:Dz w w.1.size l a)(b:Ig l)(hm:En w)(g:CA w):AZ AO 63 #[AW (BQ l a)] w λx w'=>x=Ac (AU (NK l))/\Ext w w':=by
 have⟨m,i,c,e⟩:=tK w l a;have j:=A c;have k:=A i;have d:=A (λW (h:Ext m W)=>LC.ext e h);have K:=VR m l.BI a.ja (f.grow c).j (wh b.gr.j) (hm.below c (AS _)) (g.below c (AS _));clear hm c;go_enter func63,ntmps63;exact wT
def kb(w:V)(l:Log)(a:Cb)(f:Dz w w.1.size l a)(b:Ig l)(g:CA w):AZ AO 27 #[AW (BQ l a)] w λx w'=>x=Ac (AU (NK l))/\Ext w w':=by
 have⟨m,i,c,e⟩:=tK w l a;have j:=A c;have k:=A i;have d:=A (λW (h:Ext m W)=>LC.ext e h);have K:=YA m l.BI a.ja (f.grow c).j b.gr.j.rf.fw b.gr.j.rf.e (g.below c (AS _));clear c;go_enter func27,ntmps27;exact wT
def qF(w:V)(l:Log)(a:Cb){B:Nat}{X:Nat->Prop}(g:Dz w B l a)(d:B<=w.1.size)(n:∀b,X b->b<w.1.size/\B<=b)(v:Ig l)(x:CA w):AZ AO 8 #[AW (BQ l a)] w (UT X w l):=by
 have⟨W0,R,Z,c,K,N⟩:=uN w l a;have HW:=A R;have j:=A (λW (h:Ext W0 W)=>LC.ext K h);have C:=A (λW (h:Ext W0 W)=>JC.ext N h);have y:=A c;have HS:=A Z;have r:=A (kb W0 l a ((g.below (c.mono d)).more (BJ d c.size)) v (x.below c (AS _)));have q:=A (λW (h:Ext W0 W)=>p9 W l a (B:=B) (X:=λb=>X b\/b=w.1.size+1) ((((g.j.v d (X:=λb=>X b\/b=w.1.size+1) (λb h1 h2=>by
  rcases h2 with h2|h2
  .have:=(n b h2).2;omega
  .omega)).more d)).grow (c.tr h)) (λb k=>by
  have:=h.size;rcases k with k|k
  .have:=(n b k).1;omega
  .omega) (g.e.below ((c.tr h).mono d)) (g.u.below ((c.tr h).mono d)) (BJ d (c.tr h).size) (λb h1 h2=>by
  rcases h2 with h2|h2
  .have:=(n b h2).2;omega
  omega) v (x.below (c.tr h) (AS _)))
 unfold NK at r;unfold UT WX;have⟨j',o⟩:=AP (NH l.BI l.BS l.BP);have⟨li,Y⟩:=AP (UX l.BI l.BS l.BP);have⟨z,i⟩:=AP (FC l.BI l.BS l.BP);have aa:z≠0->j'=CG:=λh=>by rw[<-o];unfold NH;rw[i,Af h]
 have HZ:=A aa;unfold Ky at q;rw[o,Y,i] at q;rw[i] at r;rw[show Oi l=j' from o,i];clear K N g v x c o Y Z n d i aa R;go_enter func8,ntmps8;go_upto_region 1 with(fail)
 rw[HW.o];go_wp2_with(first
  |(go_at_call 27;fail)
  |(refine K8 BE _ rfl _ rfl _ (j _ (Ext.B9 _)) ?_))
 refine r.q λW1 e=>?_;have s:=A e;have L1:=A (j _ e);have E:=A (C _ e);have ab:=(j _ e).cell 15;have ac:=(j _ e).cell 16;clear e;by_cases m:z=0
 case neg=>
  have t0:AQ (z=0)=AM:=Bw m;rw[t0];go_wp2_with(first
   |(refine JL rfl 34 _ rfl U ?_;rw[show Ea (FF (AO.built 34 _) #[])=AW (P CG Cl) from U])
   |(refine C7 rfl 34 _ _ rfl _ _ rfl rfl 34 _ E U U U ?_))
  refine Bp (Iu F _ _ _ _ F (setRow_heap E _) U) F ?_;rw[HZ.o m];exact⟨Cl,by simp[m],CL (y.tr s) D _,Rl _ _ _⟩
 subst m;go_wp2_with(first
  |(go_at_call 18;fail)
  |(refine Qd BE _ rfl _ _ rfl _ _ L1.BI ?_))
 refine(q _ s).mono ?_;rintro x2 f ⟨a',L,lc,rfl,S,T,_⟩;have J:=A (s.tr S);have B1:=A T;clear S T;go_wp2_with(first
  |(refine C7 rfl 34 _ _ rfl _ _ rfl rfl 34 _ (Bq f _) U U U ?_;generalize u:F8 _ f.1.size (P j' a')=I;have t:=A (show Ext f I by rw[<-u];exact CL ((Ad _ _).alloc (AS _) _) (AS _) _);have N4:=A (show JC I f.1.size j' a' by unfold JC;rw[<-u];exact setRow_heap (Bq f _) _);have H:=A (C _ (J.tr t));clear u)
  |(refine Ce rfl 34 _ rfl _ rfl 34 _ (0,0) _ N4 DV rfl U ?_)
  |(refine C7 rfl 34 _ _ rfl _ _ rfl rfl 34 _ H U U U ?_))
 refine Bp (Iu F _ _ _ _ F (setRow_heap H _) U) F ?_;exact⟨a',F,CL (y.tr (J.tr t)) (by have:=HS.o;omega) _,((B1.grow t).row (.inr F) _).mono (λb _ h=> .inl h)⟩
noncomputable def Gw(l:Log)(i:Int)(u:Bool):Int:=if NK l=AM then 1 else if i<0\/(ln l.BS:Int)<=i then 6 else if l.BP.getD i.toNat AM=u then 7 else 0
def XS(w:V)(z:Int)(x:CI)(w':V):Prop:=x=Ac (BO #[AW (BQ IM IJ),M G z])/\Ext w w'
theorem rX(h:p:=by
  have⟨W0,hW0,e0,hs0,hL,hR⟩:=dX w l a;have HW:=A hW0;have E0:=A e0;have HS:=A hs0;have HL:=A (λW (h:Ext W0 W)=>LC.ext hL h);have HR:=A (λW (h:Ext W0 W)=>LC.ext hR h);have KR:=A (e W0 e0);have HU:=A (λW (h:Ext W0 W)=>(c.u.below (e0.tr h)).more (e0.tr h).size);have⟨z,hz'⟩:=AP (Gw l i u);rw[hz'] at d⊢;have HZ:=A (Ci hz' d);have hiu:=hu;clear hW0 e0 hs0 hL hR c d hz' hu;go_upto_region 1 with(fail)
  rw[HW.o];go_wp2_with(first
   |(go_at_call 63;fail)
   |(go_at_call 27;fail)
   |(refine K8 BE _ rfl _ rfl _ (HL _ (Ext.B9 _)) ?_))
  refine KR.q λW1 hX1=>?_;have X1:=A hX1;have R1:=A (HR _ hX1);have c15:=(HL _ hX1).cell 15;have c16:=(HL _ hX1).cell 16;have⟨b,c⟩:=AP (NK l);have HU1:=HU _ hX1;clear hX1;by_cases q1:b=AM
  case' pos=>
   subst q1;obtain rfl:z=1:=by rw[<-HZ.1];unfold Gw;rw[Aj c]
   rw[c]
  case' neg=>
   have q1':¬NK l=AM:=by rw[c];exact q1
   obtain rfl:b=AL:=by simpa using q1
   rw[c];by_cases q2:i<0
  case' pos=>
   obtain rfl:z=6:=by rw[<-HZ.1];unfold Gw;rw[Af q1',Aj (.inl q2)]
   have t0:AQ (i<0)=AL:=CP q2
  case' neg=>
   have t0:AQ (i<0)=AM:=Bw q2;by_cases q3:(ln l.BS:Int)<=i
  case' pos=>
   obtain rfl:z=6:=by rw[<-HZ.1];unfold Gw;rw[Af q1',Aj (.inr q3)]
   have t1:AQ ((ln l.BS:Int)<=i)=AL:=CP q3
  case' neg=>
   have t1:AQ ((ln l.BS:Int)<=i)=AM:=Bw q3;by_cases q4:l.BP.getD i.toNat AM=u
  case' neg=>exact absurd (by rw[<-HZ.1];unfold Gw;rw[Af q1',Af D,Af q4]) HZ.2
  case' pos=>
   obtain rfl:z=7:=by rw[<-HZ.1];unfold Gw;rw[Af q1',Af D,Aj q4]
   have⟨k,hk⟩:=Int.eq_ofNat_of_zero_le (show 0<=i by omega);have hkn:k<ln l.BP:=by rw[hiu q1'];omega
   have⟨bu,offu,hAu,hBu,hcu⟩:=HU1.2.2 QM;have cu:W1.cell? ⟨bu,offu+k,O⟩=Q (AU u):=by
    have q:=hcu k (by rw[BL];exact hkn) 0 Z;rw[H7,Dh] at q;rw[q,<-q4,hk,CM,Ku,CM,eQ,Bv hkn]
    rfl
   rw[OH,hAu] at c16;subst hk;have t2:(u==u)=AL:=Rz u;clear hcu
  all_goals
   clear HU1
   try clear hiu
   go_wp2_with(first
    |(refine JL rfl 38 _ rfl U ?_;rw[show Ea (FF (AO.built 38 _) #[])=AW (BQ IM IJ) from U])
    |(refine C7 rfl 38 _ _ rfl _ _ rfl rfl 38 _ R1 U U U ?_))
   refine Bp (Po F _ _ _ _ F (setRow_heap R1 _) U) F ?_;exact⟨F,CL (E0.tr X1) D _⟩):p:=h
def gh{l:Log}(h:¬NK l=AM):ln l.BP=ln l.BS:=by
 have h2:NK l=AL:=Oa;exact(Yo (Jh h2)).2
def a6q(w:V)(l:Log)(a:Cb)(i:Int)(u:Bool)(c:Dz w w.1.size l a)(f:Ig l)(d:Gw l i u≠0)(hm:En w)(g:CA w):AZ AO 39 #[AW (BQ l a),M G i,AU u] w (XS w (Gw l i u)):=by
 have e:=A (λW (h:Ext w W)=>a6o W l a (c.grow h) f (hm.below h (AS _)) (g.below h (AS _)));have hu:¬NK l=AM->ln l.BP=ln l.BS:=gh;clear hm g f;go_enter func39,ntmps39;exact rX
def a8F(w:V)(l:Log)(a:Cb)(i:Int)(u:Bool)(c:Dz w w.1.size l a)(f:Ig l)(d:Gw l i u≠0)(g:CA w):AZ AO 40 #[AW (BQ l a),M G i,AU u] w (XS w (Gw l i u)):=by
 have e:=A (λW (h:Ext w W)=>kb W l a (c.grow h) f (g.below h (AS _)));have hu:¬NK l=AM->ln l.BP=ln l.BS:=gh;clear g f;go_enter func40,ntmps40;exact rX
end
section
open Kp
section
theorem fh{B g:Nat}(h:Az w g t [])(a:B<=g):w.ownsRow B t k (AK (Q ⟨g,0,O⟩) 0 0) 0 []:=
 ⟨AV,.inr ⟨g,0,#[],rfl,a,h,AS _,D8 _,AV,AV⟩⟩
theorem aZ{P:Program}{w:V}{o:Oper}{a:BV}{K:BV→V→Prop}{m:Exit→BV→V→Prop}(s x:F0)(t:Bb)
  (E:o.op= .call {callee:= .builtin .append,args:=#[s,x],argTypes:=#[t,t]})
  (base:Nat)(e:Bb)(i:TypeInfo)(z:AN)(size b:Nat)(l:P.underlying t=Q (.slice e))(hi:P.info? e=Q i)(L:i.zero=Q z)
  (J:i.size=size)(B:i.bytes=b)(N:z.cells.size=size)(k:0<size)
  (g:Nat)(f:Az w g e [])(y:base≤g)(I:a.eval s= .slice (Q ⟨g,0,O⟩) 0 0)(R:Option An)(T n:Nat)(rows:List (List AN))(hn:rows.length=n)(hx:a.eval x= .slice R n T)
  (j:BB size w w.heap.size R T rows)(hw:DG size rows)(h1:GL rows)(C:n≤1000)(A:b≤1000)
  (h:∀v' w',w'.ownsRow base e size v' n rows.flatten→w.grownBy w' (Q g)→(∀q,v'.ownBlock=Q q→q=g∨w.heap.size≤q)→K (a.put o.dst v') w'):o.wp P a w K m:=by
 subst hn
 have d:w.ownsRow base e size _ 0 []:=fh f y
 obtain⟨v',w',H,S,U,W⟩:∃v' w',(JN #[t,t] o.type #[.slice (Q ⟨g,0,O⟩) 0 0,.slice R rows.length T]).run P w= .ok v' w'∧w'.ownsRow base e size v' rows.length rows.flatten∧w.grownBy w' _∧(∀q,v'.ownBlock=Q q→q=g∨w.heap.size≤q):=by
  cases R with
  |none=>
   have:=j.qR
   subst this
   refine⟨_,_,?_,d,⟨rfl,rfl,rfl,AS _,fun _ _ _=>rfl⟩,fun q c=> .inl (YT c).symm⟩
   simp[JN,QE l,sizeOf,typeInfo,hi,Builtin.lenOf,Builtin.firstCells,storeCells]
  |some p=>
   obtain⟨v',w',r,X,u,v⟩:=j8 w base t _ e i z size b l hi L J B N k _ 0 [] d p _ T _ (LF hw) (j.ZW hw k) h1.flat (by grind [BM]) (by rw[IU];exact BJ (OZ C A) (by omega)) (by have:=f.lt;omega)
   exact⟨v',w',r,by grind,u,fun q c=>(v q c).imp (fun h=>(YT h).symm) id⟩
 unfold Oper.wp execOp
 simp[E,resolve,invoke,builtin,Ug,Uh,Ul,Z5,SN,Wu,I,hx,H]
 exact h v' w' S U W
structure Fk(B:Nat)(t:Bb)(k n:Nat)(xs x:List AN)(p0 p q r:Nat)(L:Nat->Bool)(I:Nat->AN)(W:V):Prop where
 c:IS B t k n xs x p q r L I W
 em:L p=AM->L p0=AL->∃g,I p0=AK (Q ⟨g,0,O⟩) 0 0/\B<=g/\Az W g t []
 ord:(L r=AL->L p=AL/\L q=AL)/\(L p=AL->L p0=AL)
section
variable {B : Nat} {t : Bb} {k n : Nat} {xs x : List AN} {p0 p q r : Nat} {L : Nat → Bool} {I : Nat → AN} {W : V}
def Fk.BI:Fk B t k n xs x p0 p q r (λ_=>AM) I W:=⟨⟨λ_ h=>Aq,λ_ h=>Aq,λh=>Aq⟩,λ_ h=>Aq,λh=>Aq,λh=>Aq⟩
theorem Fk.ext(h:Fk B t k n xs x p0 p q r L I W)(hx:Ext W y):Fk B t k n xs x p0 p q r L I y:=
 ⟨h.c.ext hx,λa b=>by have⟨g,e,h1,h2⟩:=h.em a b;exact⟨g,e,h1,h2.ext hx⟩,h.ord⟩
theorem Fk.grown(h:Fk B t k n xs x p0 p q r L I W){v:AN}(f:W.ownsRow base e s v m ys)(c:W.grownBy y v.ownBlock)(d:t≠e):Fk B t k n xs x p0 p q r L I y:=
 ⟨h.c.grown f c d,λa b=>by have⟨g,e,h1,h2⟩:=h.em a b;exact⟨g,e,h1,h2.grown f c d⟩,h.ord⟩
theorem Xb(h:(L r=AL->L p=AL/\L q=AL)/\(L p=AL->L p0=AL))(b:i=r->L p=AL/\L q=AL)(a:i=p->L p0=AL):(Cn L i r=AL->Cn L i p=AL/\Cn L i q=AL)/\(Cn L i p=AL->Cn L i p0=AL):=by
 grind
theorem Fk.other(h:Fk B t k n xs x p0 p q r L I W)(b:p0≠i)(a:p≠i)(d:q≠i)(c:r≠i)(v:AN):Fk B t k n xs x p0 p q r (Cn L i) (B7 I i v) W:=
 ⟨h.c.other a d c v,by rw[Bz b,Bz a,DP b];exact h.em,Xb h.ord (λe=>absurd e.symm c) (λe=>absurd e.symm a)⟩
def Fk.made(h:Fk B t k n xs x p0 p q r L I W)(a:p≠p0)(c:q≠p0)(b:r≠p0)(d:B<=W.1.size):Fk B t k n xs x p0 p q r (Cn L p0) (B7 I p0 (AK (Q ⟨W.1.size,0,O⟩) 0 0)) (W.alloc (.cells #[] t)):=
 ⟨(h.c.ext ((Ad _ _).alloc (AS _) _)).other a c b _,by grind [Az.new],Xb h.ord (λe=>absurd e.symm b) (λe=>absurd e.symm a)⟩
def Fk.no(h:Fk B t k n xs x p0 p q r L I W)(b:L p=AM\/L q=AM):L r=AM:=by
 cases e:L r with
 |false=>rfl
 |true=>have⟨h2,a⟩:=h.ord.1 e;grind
theorem Fk.first(h:Fk B t k n xs x p0 p q r L I W)(i:q≠p)(c:r≠p)(j:L p=AM)(l:L p0=AL)(z:x≠[])(m:W.grownBy y (Q g))(s:Az W g t []){v:AN}(u:y.ownsRow B t k v n xs)(w:∀q,v.ownBlock=Q q->q=g\/W.1.size<=q):Fk B t k n xs x p0 p q r (Cn L p) (B7 I p v) y:=by
 refine⟨⟨?_,?_,?_⟩,?_,Xb h.ord (λe=>absurd e.symm c) (λ_=>l)⟩
 .grind
 .rw[Bz c,Bz i,DP i];intro a b;have⟨d,e,h1,_⟩:=h.c.Nw a b;have o:d≠g:=by grind [Az]
  refine⟨d,e,(m.block d h1.lt (λf=>o (Kr f))).trans h1,λ_ f=> ?_⟩;have:=h1.lt
  grind
 .rw[Bz c,h.no (.inl j)];grind
 grind
theorem Fk.build(h:Fk B t k n xs x p0 p q r L I W)(b:p0≠q)(a:p≠q)(c:r≠q)(d:L q=AM)(f:cs.toList=x):Fk B t k n xs x p0 p q r (Cn L q) (B7 I q (AK (Q ⟨W.1.size,0,O⟩) 1 1)) (W.alloc (.cells cs t)):=by
 refine⟨h.c.build a c (h.no (.inr d)) f,?_,Xb h.ord (λe=>absurd e.symm c) (λe=>absurd e.symm a)⟩;rw[Bz b,Bz a,DP b];exact(h.ext ((Ad _ _).alloc (AS _) _)).em
theorem Fk.append(h:Fk B t k n xs x p0 p q r L I W)(a:p≠r)(f:q≠r)(b:L p=AL)(c:L q=AL){v:AN}(d:y.ownsRow B t k v (n+1) (xs++x)):Fk B t k n xs x p0 p q r (Cn L r) (B7 I r v) y:=
 ⟨IS.append a f d,Al,Xb h.ord (λ_=>⟨b,c⟩) (λe=>absurd e.symm a)⟩
end
def Oc(c:Nat)(l:Log)(a:Cb)(ev:AN):Nat->AN
 |0=> Ap (Q ⟨c,0,O⟩)
 |1=> AW (P l.BI a.ja)
 |3=> Ap (Q ⟨c,15,O⟩)
 |4=> AK a.ea (ln l.BS) a.ec
 |6=>ev
 |10=> Ap (Q ⟨c,16,O⟩)
 |11=> AK a.ua (ln l.BP) a.uc
 |_=>Ba
structure QU(W0:V)(c:Nat)(l:Log)(a:Cb)(ev:Array AN)(xs:List AN)(L:Nat->Bool)(I:Nat->AN)(W:V):Prop where
 ext:Ext W0 W
 Bg:∀q,L q=AL->q∈[0,1,3,4,6,10,11]->I q=Oc c l a (AW ev) q
 ed:Fk W0.1.size 54 37 (ln l.BS) xs ev.toList 2 5 7 8 L I W
 bl:Fk W0.1.size 4 1 (ln l.BP) (GV l.BP).flatten [AU AM] 9 12 13 14 L I W
section
variable {W0 : V} {c : Nat} {l : Log} {a : Cb} {ev : Array AN} {xs : List AN} {L : Nat → Bool} {I : Nat → AN} {W : V}
def QU.BI(h:Ext W0 W):QU W0 c l a ev xs (λ_=>AM) I W:=⟨h,λ_ h=>Aq,Fk.BI,Fk.BI⟩
theorem QU.pure(h:QU W0 c l a ev xs L I W)(b:q∈[0,1,3,4,6,10,11]){v:AN}(d:v=Oc c l a (AW ev) q):QU W0 c l a ev xs (Cn L q) (B7 I q v) W:=by
 have hn:=by simp at b;omega
 refine⟨h.ext,λm hm h1=> ?_,h.ed.other D D D D v,h.bl.other D D D D v⟩;by_cases e:m=q
 .grind
 rw[DP e];rw[Bz e] at hm;exact h.Bg m hm h1
theorem QU.up(h:QU W0 c l a ev xs L I W)(d:q∉[0,1,3,4,6,10,11]){v:AN}(hx:Ext W0 y)(h1:Fk W0.1.size 54 37 (ln l.BS) xs ev.toList 2 5 7 8 (Cn L q) (B7 I q v) y)(h2:Fk W0.1.size 4 1 (ln l.BP) (GV l.BP).flatten [AU AM] 9 12 13 14 (Cn L q) (B7 I q v) y):QU W0 c l a ev xs (Cn L q) (B7 I q v) y:=by
 refine⟨hx,λm hm b=> ?_,h1,h2⟩;have e:m≠q:=Al;rw[DP e];rw[Bz e] at hm;exact h.Bg m hm b
end
theorem b2i{B:Nat}{l:Log}{a:Cb}{e:Ed}{rows:List (List AN)}(C:Dz w B l a)(c:B<=w.1.size)(o:Ih w B rows l.BS)(E:C8 w B ga gc e.Aa)(A:Ext w W0)(L:w.1.size+3<=W0.1.size)
  (hx:Ext W0 W)(d:W.ownsRow W0.1.size 54 37 v2 (ln l.BS+1) (rows.flatten++(Ah e (AK ga (ln e.Aa) gc)).toList))(f:W.ownsRow W0.1.size 4 1 v5 (ln l.BP+1) ((GV l.BP).flatten++[AU AM])):
  ∃a',((BQ l a).setIfInBounds 15 v2).setIfInBounds 16 v5=BQ (Jd l e) a'/\Ext w (W.setRow (w.1.size+2) (BQ (Jd l e) a'))/\Dz (W.setRow (w.1.size+2) (BQ (Jd l e) a')) (W.setRow (w.1.size+2) (BQ (Jd l e) a')).1.size (Jd l e) a':=by
 have k:=o.snoc E;have hn:(rows++[(Ah e (AK ga (ln e.Aa) gc)).toList]).length=ln l.BS+1:=by simp[o.1]
 rw[show rows.flatten++(Ah e _).toList=(rows++[(Ah e (AK ga (ln e.Aa) gc)).toList]).flatten by simp] at d;rw[show(GV _).flatten++[AU AM]=(GV (l.BP++[AM])).flatten by grind] at f;obtain⟨g,c2,rfl,s2⟩:=F1 d hn k.wide;obtain⟨i,c5,rfl,N⟩:=F1 f AV (Oq _);have r:((BQ l a).setIfInBounds 15 (AK g (ln l.BS+1) c2)).setIfInBounds 16 (AK i (ln l.BP+1) c5)=BQ (Jd l e) {a with ea:=g,ec:=c2,ua:=i,uc:=c5}:=by
  unfold BQ Jd;simp
 have⟨a',m⟩:=AP ({a with ea:=g,ec:=c2,ua:=i,uc:=c5});rw[m] at r;have b:=CL (A.tr hx) (n:=w.1.size+2) D (BQ (Jd l e) a');have s:∀(q:Nat),W0.1.size<=q->(W.setRow (w.1.size+2) (BQ (Jd l e) a')).1[q]?=W.1[q]?:=by grind [Hc]
 have r2:=OI d (λq j=>s q (DS d _ j).1);have F:=OI f (λq j=>s q (DS f _ j).1);refine⟨a',r,b,?_⟩;have⟨I,c3,t,s3⟩:=F1 r2 hn k.wide;have⟨J,K,x,H⟩:=F1 F AV (Oq _);injection t with u _ v
 injection x with y _ z
 subst u v y z m;exact⟨((C.j.below (b.mono c)).more (BJ c b.size)),Zo ((k.below (b.mono c)).more (BJ c b.size)) s3,H⟩
end
end
section
open Kp
attribute [local go_sem] Eb Hj Ty OH Qj
section
theorem b2H{P:Program}{w:V}{ops:Array Oper}{rest:List Oper}{o:Oper}{a:BV}{c:Exit→BV→V→Prop}(m:o.guard=O)(s x:F0)(t:Bb)
  (v:o.op= .call {callee:= .builtin .append,args:=#[s,x],argTypes:=#[t,t]})
  (base:Nat)(e:Bb)(i:TypeInfo)(z:AN)(size b:Nat)(D:P.underlying t=Q (.slice e))(hi:P.info? e=Q i)(E:i.zero=Q z)
  (B:i.size=size)(k:i.bytes=b)(F:z.cells.size=size)(C:0<size)
  (g:Nat)(l:Az w g e [])(f:base≤g)(A:a.eval s= .slice (Q ⟨g,0,O⟩) 0 0)(R:Option An)(T n:Nat)(rows:List (List AN))(hn:rows.length=n)(hx:a.eval x= .slice R n T)
  (y:BB size w w.heap.size R T rows)(hw:DG size rows)(h1:GL rows)(u:n≤1000)(j:b≤1000)
  (h:∀v' w',w'.ownsRow base e size v' n rows.flatten→w.grownBy w' (Q g)→(∀q,v'.ownBlock=Q q→q=g∨w.heap.size≤q)→CQ P ops c rest (a.put o.dst v') w'):CQ P ops c (o::rest) a w:=
 eZ m fun _ d=>aZ s x t v base e i z size b D hi E B k F C g l f A R T n rows hn hx y hw h1 u j fun v' w' p q r=>d _ _ (h v' w' p q r)
def Sb(c:Nat)(l:Log)(a:Cb)(v8:AN):Nat->AN
 |0=> Ap (Q ⟨c,0,O⟩)
 |1=> AW (P l.BI a.ja)
 |3=> Ap (Q ⟨c,15,O⟩)
 |4=> AK a.ea (ln l.BS) a.ec
 |6=>v8
 |_=>Ba
structure QX(W0:V)(c:Nat)(l:Log)(a:Cb)(v8:AN)(xs:List AN)(L:Nat->Bool)(I:Nat->AN)(W:V):Prop where
 ext:Ext W0 W
 Bg:∀q,L q=AL->q∈[0,1,3,4,6]->I q=Sb c l a v8 q
 ed:Fk W0.1.size 54 37 (ln l.BS) xs [Ba] 2 5 8 9 L I W
 no:L 9=AM
section
variable {W0 : V} {c : Nat} {l : Log} {a : Cb} {v8 : AN} {xs : List AN} {L : Nat → Bool} {I : Nat → AN} {W : V}
def QX.BI(h:Ext W0 W):QX W0 c l a v8 xs (λ_=>AM) I W:=⟨h,λ_ h=>Aq,Fk.BI,rfl⟩
theorem QX.pure(h:QX W0 c l a v8 xs L I W)(b:q∈[0,1,3,4,6]){v:AN}(d:v=Sb c l a v8 q):QX W0 c l a v8 xs (Cn L q) (B7 I q v) W:=by
 have hn:q≠2/\q≠5/\q≠8/\q≠9:=by simp at b;omega
 refine⟨h.ext,λm hm h1=> ?_,h.ed.other D D D D v,by rw[Bz D];exact h.no⟩;by_cases e:m=q
 .subst e;rw[Iw];exact d
 rw[DP e];rw[Bz e] at hm;exact h.Bg m hm h1
theorem QX.up(h:QX W0 c l a v8 xs L I W)(d:q=2\/q=5){v:AN}(hx:Ext W0 y)(h1:Fk W0.1.size 54 37 (ln l.BS) xs [Ba] 2 5 8 9 (Cn L q) (B7 I q v) y):QX W0 c l a v8 xs (Cn L q) (B7 I q v) y:=by
 refine⟨hx,λm hm b=> ?_,h1,by rw[Bz D];exact h.no⟩;have e:m≠q:=by simp at b;omega
 rw[DP e];rw[Bz e] at hm;exact h.Bg m hm b
end
theorem b3Q{B K:Nat}{l:Log}{a:Cb}{rows:List (List AN)}(L:Dz w B l a)(V:B<=w.1.size)(f:Ih w B rows l.BS)(X:w.1.size+2<=K)(hx:Ext w W)
  (g:W.ownsRow K 54 37 v2 n rows.flatten)(hn:ln rows=n)(j:W.ownsRow (w.1.size+2) 4 1 v5 (l.BP.set i u).length (GV (l.BP.set i u)).flatten):
  ∃a',((BQ l a).setIfInBounds 15 v2).setIfInBounds 16 v5=BQ (Jc l i u) a'/\Ov B w (Jc l i u) (Ac (BO #[AW (BQ (Jc l i u) a'),M G 0])) (W.setRow (w.1.size+1) (BQ (Jc l i u) a')):=by
 obtain⟨m,c2,rfl,s2⟩:=F1 g hn f.wide;obtain⟨o,c5,rfl,Y⟩:=F1 j (BL _) (Oq _);have r:=DS g;have s:=DS j;have⟨a',y⟩:=AP ({a with ea:=m,ec:=c2,ua:=o,uc:=c5}:Cb);have N:((BQ l a).setIfInBounds 15 (AK m n c2)).setIfInBounds 16 (AK o (l.BP.set i u).length c5)=BQ (Jc l i u) a':=by rw[<-y,<-hn,f.1];rfl
 have d:=CL hx (n:=w.1.size+1) D (BQ (Jc l i u) a');have z:∀(q:Nat),w.1.size+2<=q->(W.setRow (w.1.size+1) (BQ (Jc l i u) a')).1[q]?=W.1[q]?:=λq h=>Hc _ _ D
 have r2:=OI g (λq c=>z q (by have:=(r q c).1;omega));have k:=OI j (λq c=>z q (s q c).1);refine⟨a',N,a',F,d,?_⟩;generalize W.setRow (w.1.size+1) (BQ (Jc l i u) a')=T at r2 k d⊢;intro ab e;have v:∀b,b<B->ab.1[b]?=w.1[b]?:=λb h=>(e.2 b (by have:=d.size;omega) (λq=>D)).trans (d.block b D)
 have t:w.1.size<=ab.1.size:=BJ d.size e.1;have v2:=OI (W:=ab) r2 (λq c=>e.2 q (DS r2 q c).2 (λx=>by have:=(r q c).1;omega));have v5:=OI (W:=ab) k (λq c=>e.2 q (DS k q c).2 (λx=>by have:=(s q c).1;omega));have⟨R,c3,A,s3⟩:=F1 v2 hn f.wide;have⟨S,U,H,P⟩:=F1 v5 (by rw[BL]) (Oq _);injection A with C _ E
 injection H with I _ J
 subst C E I J y;exact⟨(L.j.off t v).more D,Zo ((f.off t v).more D) s3,P⟩
theorem b0G (w : V) (l : Log) (a : Cb) (i : Nat) (u : Bool) {B : Nat} (Y : Dz w B l a) (z : B ≤ w.heap.size) (k : Ig l) (h0 : NK l = AL) (hi : i < l.BS.length) (hu : l.BP.getD i AM = !u) (ht : CA w) :
    AZ AO 40 #[.agg (BQ l a), .int .i64 (i : Int), .bool u] w (Ov B w (Jc l i u)) := by
  have T := Y.more z
  obtain ⟨W0, ak, f, aq, j, hR⟩ := dX w l a
  have HW := A ak
  have E0 := A f
  have HS := A aq
  have r := A (fun W (h : Ext W0 W) => LC.ext j h)
  have HR := A (fun W (h : Ext W0 W) => LC.ext hR h)
  have KR := A (kb W0 l a (T.grow f) k (ht.below f (AS _)))
  rw [h0] at KR
  have ag : l.BP.length = l.BS.length := gh (by rw [h0]; decide)
  obtain ⟨rows, C, ar⟩ := cJ Y.e
  have hn := C.1
  have t : i < l.BP.length := by rw [ag]; exact hi
  have h6 := k.gr.n
  have KE := A (fun W (h : Ext W0 W) => (ar.below ((f.tr h).mono z)).more (BJ z (f.tr h).size))
  have KB := A (fun W (h : Ext W0 W) => (T.u.below (f.tr h)).more (f.tr h).size)
  have ad := A (Ci C.wide (Ci C.one hn))
  have HE := A (fun W K v2 v5 (o : w.heap.size + 2 ≤ K) (hx : Ext W0 W) o2 H => b3Q (i := i) (u := u) (n := l.BS.length) (W := W) (K := K) (v2 := v2) (v5 := v5) Y z C o (f.tr hx) o2 hn H)
  have t0 : decide ((i : Int) < 0) = AM := Bw (by omega)
  have t1 : decide (l.BS.length ≤ i) = AM := Bw (by omega)
  have t2 : (!u == u) = AM := by cases u <;> rfl
  obtain ⟨bu, ac, ae, aj, al⟩ := T.u.2.2 (by rw [BL]; omega)
  have S : w.cell? ⟨bu, ac + i, O⟩ = Q (.bool (!u)) := by
    have q := al i (by rw [BL]; exact t) 0 (by decide)
    rw [H7, Dh] at q
    rw [q, CM, Ku, ← hu, CM, Bv t]
    rfl
  have CU := A (fun W (h : Ext W0 W) => ((f.tr h).cell (p := ⟨bu, ac + i, O⟩) aj).trans S)
  have HA := A ae
  rw [ae] at KB
  have aB := A hu
  have HT := A (Ci t0 (Ci t1 t2))
  have H6 := A (Ci h6 (Ci ag t))
  obtain ⟨ie, ap, ax, ay, az⟩ := DM cD
  obtain ⟨ib, ao, au, av, aw⟩ := DM bV
  have N := A (Ci ap (Ci ax (Ci ay az)))
  have J := A (Ci ao (Ci au (Ci av aw)))
  have UE := underlying35
  have UB := underlying36
  clear ap ax ay az ao au av aw
  clear ak f j hR T Y z ht k C ar al S ae aj hu t0 t1 t2 hn aq h0 h6 ag
  go_enter func40, ntmps40
  go_upto_region 1 with (fail)
  rw [HW.out]
  go_wp2_with (first
    | (go_at_call 27; fail)
    | (refine K8 (by rfl) _ rfl _ rfl _ (r.out _ (Ext.B9 _)) ?_))
  refine KR.out.mono ?_
  rintro x1 W1 ⟨rfl, s⟩
  have R := A s
  have aG := (r.out _ s).cell 15
  have aC := (r.out _ s).cell 16
  have S := CU.out _ s
  rw [OH, HA.out] at aC
  have t0 := HT.out.1
  have t1 := HT.out.2.1
  have t2 := HT.out.2.2
  have af : Ext W1 (W1.alloc (.cells #[] 4)) := (Ad _ _).alloc (AS _) _
  have X2 := A af
  have aH : (W1.alloc (.cells #[] 4)).cell? ⟨w.heap.size, 16, O⟩ = Q (.slice (Q ⟨bu, ac, O⟩) l.BP.length a.uc) := by
    rw [(r.out _ (s.tr af)).cell 16, OH, HA.out]
  clear s af
  go_wp2_with (at_builtin; refine b2H rfl _ _ 36 rfl (w.heap.size + 2) 4 ib _ 1 1 UB J.out.1 J.out.2.1 J.out.2.2.1 J.out.2.2.2 rfl (by decide) W1.heap.size (Az.new W1 _ []) (by have := R.out.size; have := HS.out; omega) rfl (Q ⟨bu, ac, O⟩) a.uc l.BP.length (GV l.BP) (BL _) rfl (KB.out _ (R.out.tr X2.out)) (Oq _) (ZX _) (by have := H6.out.1; have := H6.out.2.1; omega) (by omega) ?_
               intro v4 v aa am aE
               obtain ⟨g, c5, cur, rfl, aF, hh, k1, k2, k3, k4⟩ := Pr aa (by omega)
               have ah := aB.out
               have q1 : v.cell? ⟨g, i, O⟩ = Q (.bool (!u)) := by
                 rw [aa.cellAt i (by omega), gT, Ku, Bv t]
                 rw [CM, Bv t] at ah
                 exact QL (fun b => Q (Value.bool b)) ah
               have q2 : v.frozen? ⟨g, i, O⟩ = AM := by simp [Hb, hh]
               have O4 := A aa
               have X4 := A (show Ext W0 v from KY (R.out.tr X2.out) am (fun q E => by injection E with E; have := R.out.size; omega))
               have G4 := A aF
               clear aa am aE hh k3 k4 ah)
  have O5 := A (oB O4.out t u)
  have x := A (show Ext W0 (v.setCell ⟨g, i, O⟩ (.bool u)) from X4.out.setCell (p := ⟨g, i, O⟩) (by have := HS.out; show W0.heap.size ≤ g; omega) (.bool u))
  generalize v.setCell ⟨g, i, O⟩ (.bool u) = W5 at O5 x ⊢
  clear q1 q2 X4 O4 S
  refine Fz (by kernel_rfl) (Qf 7 (fun L I W => QX W5 w.heap.size l a (.slice (Q ⟨g, 0, O⟩) l.BP.length c5) rows.flatten L I W) (by kernel_rfl) ?step ?tail _ (fun I => QX.BI (Ext.dr _)))
  case step =>
    intro q L I W hi j c hd
    have e := A c
    have X := A (x.out.tr c.ext)
    have SZ := c.ext.size
    have ab := fun q h1 h2 => c.Bg q (hd q h1) h2
    clear c
    rcases (show q = 0 ∨ q = 1 ∨ q = 2 ∨ q = 3 ∨ q = 4 ∨ q = 5 ∨ q = 6 by omega) with rfl | rfl | rfl | rfl | rfl | rfl | rfl <;> clear hi <;> refine DC rfl (fun K o => ?_)
    · go_simp
      exact o _ _ ⟨_, by simp [B7, Sb], e.out.pure (by decide) rfl⟩
    · have d := ab 0 (by kernel_rfl) (by decide)
      simp only [Sb] at d
      refine wp_load_mid 34 (.tmp 39) rfl w.heap.size 0 d (P l.BI a.ja).toList _ (r.out _ X.out).BI DV rfl (by kernel_rfl) ?_
      exact o _ _ ⟨.agg (P l.BI a.ja), rfl, e.out.pure (by decide) rfl⟩
    · go_simp
      exact o _ _ ⟨_, by simp [B7], e.out.up (by decide) (e.out.ext.tr ((Ad _ _).alloc (AS _) _)) (e.out.ed.made (by decide) (by decide) (by decide) SZ)⟩
    · go_simp
      exact o _ _ ⟨_, by simp [B7, Sb], e.out.pure (by decide) rfl⟩
    · have d := ab 3 (by kernel_rfl) (by decide)
      simp only [Sb] at d
      have m := (r.out _ X.out).cell 15
      go_simp
      exact o _ _ ⟨_, by simp [B7, d, Sb], e.out.pure (by decide) rfl⟩
    · have d := ab 4 (by kernel_rfl) (by decide)
      simp only [Sb] at d
      obtain ⟨g2, e2, aD, hg⟩ := e.out.ed.em j (hd 2 (by kernel_rfl))
      refine aZ _ _ 35 rfl W5.heap.size 54 ie _ 37 360 UE N.out.1 N.out.2.1 N.out.2.2.1 N.out.2.2.2 (by kernel_rfl) (by decide) g2 hg aD e2 a.ea a.ec l.BS.length rows ad.out.2.2 d (KE.out _ X.out) ad.out.1 ad.out.2.1 (by have := H6.out.1; omega) (by omega) ?_
      intro y W6 hw an hf
      exact o _ _ ⟨y, by simp [G7, B7], e.out.up (by decide) (KY e.out.ext an (fun q E => by injection E with E; omega)) (e.out.ed.first (by decide) (by decide) j (hd 2 (by kernel_rfl)) (by simp) an hg hw hf)⟩
    · go_simp
      exact o _ _ ⟨_, by simp [B7, Sb], e.out.pure (by decide) rfl⟩
  case tail =>
    intro L I W j c
    have H := c.ed.c.Ag c.no (j 5 (by decide))
    have d1 := c.Bg 1 (j 1 (by decide)) (by decide)
    have d6 := c.Bg 6 (j 6 (by decide)) (by decide)
    simp only [Sb] at d1 d6
    obtain ⟨a', k, hP⟩ := HE.out W W5.heap.size _ _ (by have := x.out.size; have := HS.out; omega) (x.out.tr c.ext) H (EV O5.out c.ext)
    try rw [Nl] at k
    obtain ⟨A5, n5, c6, e5⟩ := Fx.of H
    rw [e5] at k
    have ai := A (HR.out _ (x.out.tr c.ext))
    have HF := A hP
    have aA := A k
    clear c j k hP H
    simp only [e5, d1, d6, FV, FY]
    clear e5 d1 d6
    go_wp2_with (first
      | (refine JL rfl 38 _ rfl (by kernel_rfl) ?_; rw [show Ea (FF (AO.built 38 _) #[]) = .agg (((BQ l a).setIfInBounds 15 (.slice A5 n5 c6)).setIfInBounds 16 (.slice (Q ⟨g, 0, O⟩) l.BP.length c5)) from by kernel_rfl, aA.out])
      | (refine C7 rfl 38 _ _ rfl _ _ rfl rfl 38 _ ai.out (by kernel_rfl) (by kernel_rfl) (by kernel_rfl) ?_))
    refine Bp (Po rfl _ _ _ _ rfl (setRow_heap ai.out _) (by kernel_rfl)) rfl ?_
    exact HF.out
end
def Lk(B:Nat)(w:V)(l:Log)(i:Int)(u:Bool)(x:CI)(w':V):Prop:=
 (Gw l i u=0->Ov B w (Jc l i.toNat u) x w')/\(Gw l i u≠0->XS w (Gw l i u) x w')
theorem Lk.IL{B:Nat}{l:Log}{i:Int}(h:Gw l i u=0)(a:Ov B w (Jc l i.toNat u) x w'):Lk B w l i u x w':=⟨λ_=>a,λhn=>absurd h hn⟩
theorem Lk.split{B:Nat}{l:Log}{i:Int}(h:Lk B w l i u x w'):Gw l i u=0/\Ov B w (Jc l i.toNat u) x w'\/Gw l i u≠0/\XS w (Gw l i u) x w':=by
 by_cases q:Gw l i u=0
 .exact .inl ⟨q,h.1 q⟩
 exact .inr ⟨q,h.2 q⟩
theorem Lk.of{B:Nat}{l:Log}{i:Int}{f:FuncId}{xs:Array AN}(b:Gw l i u=0->AZ AO f xs w (Ov B w (Jc l i.toNat u)))(h1:Gw l i u≠0->AZ AO f xs w (XS w (Gw l i u))):AZ AO f xs w (Lk B w l i u):=by
 by_cases h:Gw l i u=0
 .exact(b h).mono λ_ _ a=>⟨λ_=>a,λhn=>absurd h hn⟩
 exact(h1 h).mono λ_ _ a=>⟨λhn=>absurd hn h,λ_=>a⟩
theorem sH{l:Log}{i:Int}(h:Gw l i u=0):NK l=AL/\∃k:Nat,i=k/\k<ln l.BS/\l.BP.getD k AM= !u:=by
 unfold Gw at h;split at h
 .exact absurd h Z
 split at h
 .exact absurd h Z
 split at h
 .exact absurd h Z
 rename_i h1 h2 a;refine⟨by simpa using h1,i.toNat,D,D,?_⟩;generalize l.BP.getD i.toNat AM=b at a⊢;cases b<;>cases u<;>simp_all
def sO(w:V)(l:Log)(a:Cb)(i:Int)(u:Bool){B:Nat}(c:Dz w B l a)(b:B<=w.1.size)(d:Ig l)(e:CA w)(hm:En w):AZ AO 39 #[AW (BQ l a),M G i,AU u] w (Lk B w l i u):=Lk.of (λh=>by
 obtain⟨h1,k,rfl,h2,f⟩:=sH h;exact a6e w l a k u c b (d.rp (Jh h1)) h2 f hm e) (λh=>a6q w l a i u (c.more b) d h hm e)
def uL(w:V)(l:Log)(a:Cb)(i:Int)(u:Bool){B:Nat}(c:Dz w B l a)(b:B<=w.1.size)(d:Ig l)(e:CA w):AZ AO 40 #[AW (BQ l a),M G i,AU u] w (Lk B w l i u):=Lk.of (λh=>by
 obtain⟨h1,k,rfl,h2,f⟩:=sH h;exact b0G w l a k u c b d h1 h2 f e) (λh=>a8F w l a i u (c.more b) d h e)
theorem aT(h:p:=by
  have⟨W0,hW0,e0,hs0,hL,hR⟩:=dX w l a;have HW:=A hW0;have HL0:=A hL;have HR:=A (λW (h:Ext W0 W)=>LC.ext hR h);have E0:=A e0;have HS:=A (λ(l':Log) (x:CI) (W:V) (h:Ov B W0 l' x W)=>Ov.step e0 hs0 b hR h);have KS:=A (c W0 e0);clear hW0 e0 hs0 hL hR b;go_upto_region 1 with(fail)
  rw[HW.o];go_wp2_with(first
   |(go_at_call 39;fail)
   |(go_at_call 40;fail)
   |(refine Ce rfl 38 _ rfl _ rfl 38 _ (0,0) _ HL0 underlying38 rfl U ?_))
  refine KS.mono ?_;intro x1 W1 hp;rcases hp.split with⟨hz,hg⟩|⟨hz,rfl,hX1⟩
  .obtain⟨a',rfl,r1,W2,hW2,n2,hP⟩:=HS _ _ _ hg;have R1:=A r1;have N2:=A n2;have HP:=A (Lk.IL hz hP);have HW2:=A hW2;clear hp r1 n2 hP hW2 hz hg;go_wp2_with(refine C7 rfl 38 _ _ rfl _ _ rfl rfl 38 _ R1 U U U ?_;rw[<-HW2.o])
   refine Bp (Po F _ _ _ _ F N2 U) F ?_;exact HP
  have R1:=A (HR _ hX1);have X1:=A hX1;have HZ:=A hz;clear hp hX1 hz;go_wp2_with(refine C7 rfl 38 _ _ rfl _ _ rfl rfl 38 _ R1 U U U ?_)
  refine Bp (Po F _ _ _ _ F (setRow_heap R1 _) U) F ?_;exact⟨λh=>absurd h HZ,λ_=>⟨rfl,CL (E0.tr X1) D _⟩⟩):p:=h
theorem b2c(w:V)(l:Log)(a:Cb)(i:Int){B:Nat}(d:Dz w B l a)(b:B<=w.1.size)(e:Ig l)(f:CA w)(hm:En w)(g:u=AL):AZ AO 12 #[AW (BQ l a),M G i] w (Lk B w l i u):=by
 have c:=A (λW (h:Ext w W)=>sO W l a i u (d.below (h.mono b)) (BJ b h.size) e (f.below h (AS _)) (hm.below h (AS _)));subst g;clear d e f hm;go_enter func12,ntmps12;exact aT
theorem b2m(w:V)(l:Log)(a:Cb)(i:Int){B:Nat}(d:Dz w B l a)(b:B<=w.1.size)(e:Ig l)(f:CA w)(hm:En w)(g:u=AM):AZ AO 15 #[AW (BQ l a),M G i] w (Lk B w l i u):=by
 have c:=A (λW (h:Ext w W)=>sO W l a i u (d.below (h.mono b)) (BJ b h.size) e (f.below h (AS _)) (hm.below h (AS _)));subst g;clear d e f hm;go_enter func15,ntmps15;exact aT
theorem b1X(w:V)(l:Log)(a:Cb)(i:Int){B:Nat}(d:Dz w B l a)(b:B<=w.1.size)(e:Ig l)(f:CA w)(g:u=AL):AZ AO 13 #[AW (BQ l a),M G i] w (Lk B w l i u):=by
 have c:=A (λW (h:Ext w W)=>uL W l a i u (d.below (h.mono b)) (BJ b h.size) e (f.below h (AS _)));subst g;clear d e f;go_enter func13,ntmps13;exact aT
theorem b0F(w:V)(l:Log)(a:Cb)(i:Int){B:Nat}(d:Dz w B l a)(b:B<=w.1.size)(e:Ig l)(f:CA w)(g:u=AM):AZ AO 16 #[AW (BQ l a),M G i] w (Lk B w l i u):=by
 have c:=A (λW (h:Ext w W)=>uL W l a i u (d.below (h.mono b)) (BJ b h.size) e (f.below h (AS _)));subst g;clear d e f;go_enter func16,ntmps16;exact aT
def b3i(w:V)(j:BG)(a:BU)(x:Array AN):∃W0,(w.alloc (.cells (P j a) 34)).alloc (.cells x 54)=W0/\Ext w W0/\JC W0 w.1.size j a/\EC W0 (w.1.size+1) x:=by
 refine⟨_,F,((Ad _ _).alloc (AS _) _).alloc AV _,JC.ext (Bq w _:JC (w.alloc (.cells (P j a) 34)) w.1.size j a) ((Ad _ _).alloc (AS _) _),?_⟩;have:=EC.new (w.alloc (.cells (P j a) 34)) x;exact XE
def a3c(w:V)(j:BG)(a:BU)(e:Ed)(ga:Option An)(gc:Nat)(o:EP w w.1.size j a)(f:C8 w w.1.size ga gc e.Aa)
  (t:Tf j)(s:Eh j=0->RQ j)(u:Eh j=0->Tf (Cz j e))(hn:e.Ae<=9223372036854775807)(y:CA w):
  AZ AO 38 #[AW (P j a),AW (Ah e (AK ga (ln e.Aa) gc))] w λx w'=>x=Ac (M G (Hf j e))/\Ext w w':=by
 have⟨v,g⟩:=AP (FO ga (ln e.Aa) gc);rw[g];have⟨W0,k,b,i,n⟩:=b3i w j a (Ah e v);have E:=A k;have C:=A b;have D:=A i;have H:=A n;have c:=A (nW W0 j a e ga gc (X:=λ_=>False) (λ_ h=>h.elim) ((o.grow b).v (AS _) (λ_ _ h=>h)) ((f.below b).more b.size) (λW d=>(((f.below b).more b.size).off d.1 (λq L=>d.2 q L (λh=>h))).more d.1) t s u hn (y.below b (AS _)));rw[g] at c;have⟨z,B⟩:=AP (Hf j e);have⟨j',r⟩:=AP (if z=0 then Cz j e else CG);unfold Gg at c;rw[B] at c⊢;rw[r] at c;clear k b i n o f t s u hn y g B r;go_enter func38,ntmps38;go_upto_region 1 with(fail)
 rw[E.o];go_wp2_with(first
  |(go_at_call 44;fail)
  |(refine Ce rfl 34 _ rfl _ rfl 34 _ (0,0) _ D DV rfl U ?_)
  |(refine Ce rfl 54 _ rfl _ rfl 54 _ (0,0) _ H Cc rfl U ?_))
 refine c.mono ?_;rintro x1 W1 ⟨a',rfl,m,_⟩;have J:=A m;clear m;go_wp2_with(refine C7 rfl 34 _ _ rfl _ _ rfl rfl 34 _ (Bq W1 _) U U U ?_;generalize l:F8 _ W1.1.size (P j' a')=I;have K:=A (show Ext W1 I by rw[<-l];exact CL ((Ad _ _).alloc (AS _) _) (AS _) _);clear l)
 go_ret;exact⟨F,C.tr (J.tr K)⟩
def Ig.all{l:Log}(h:Ig l)(a:FC l.BI l.BS l.BP=0):Q1 (Oi l):=by
 unfold Oi NH;rw[Aj a];exact qY (we h.gr.j (Yo a).1).all h.gr.e _ (AS _)
def a9x(w:V)(l:Log)(a:Cb)(e:Ed)(ga:Option An)(gc:Nat){B:Nat}(hb:Dz w B l a)(H:B<=w.1.size)(aj:C8 w B ga gc e.Aa)(J:Ig l)(E:Gu e=AM)(hx:e.Ae<=9223372036854775807)(ht:CA w):
  AZ AO 11 #[AW (BQ l a),AW (Ah e (AK ga (ln e.Aa) gc))] w (Zq w l e (Re l e)):=by
 have⟨v,hv⟩:=AP (FO ga (ln e.Aa) gc);have HV:=A hv;have⟨W0,an,j,aw,c,hZ,hR⟩:=uv w l a (Ah e v);have HW:=A an;have E0:=A j;have HL:=A (λW (h:Ext W0 W)=>LC.ext c h);have HZ:=A (λW (h:Ext W0 W)=>EC.ext hZ h);have HR:=A (λW (h:Ext W0 W)=>LC.ext hR h);have KS:=A (qF W0 l a (B:=B) (X:=λ_=>False) (hb.below (j.mono H)) (BJ H j.size) (λ_ h=>h.elim) J (ht.below j (AS _)));have ah:=λC=>(J.ap C E hx).ln
 have af:=λC=>J.all C
 unfold UT WX at KS;unfold Re;have⟨j',av⟩:=AP (NH l.BI l.BS l.BP);rw[show Oi l=j' from av] at ah af KS⊢;have⟨z,hz⟩:=AP (Hf j' e);have KC:=A (λC W (h:Ext W0 W) a' (hj:EP W W.1.size j' a')=>a3c W j' a' e ga gc hj ((aj.below ((j.tr h).mono H)).more (BJ H (j.tr h).size)) (af C).rf (ah C) (λ_=>((af C).RZ E).rf) hx (ht.below (j.tr h) (AS _)));rw[hv,hz] at KC;rw[hz,hv];have⟨rows,he,ax⟩:=cJ hb.e;have hn:=he.1;have ai:=J.gr.n;have hu:=J.gr.u;have KE:=A (λW (h:Ext W0 W)=>(ax.below ((j.tr h).mono H)).more (BJ H (j.tr h).size));have KB:=A (λW (h:Ext W0 W)=>(hb.u.below ((j.tr h).mono H)).more (BJ H (j.tr h).size));have ag:=A (Ci he.wide (Ci he.one hn));have HE:=A (λW1 W v2 v5 (h1:Ext W0 W1) (hx:Ext W1 W) o2 o5=>b2i (W0:=W1) (W:=W) (v2:=v2) (v5:=v5) hb H he aj (j.tr h1) (by have:=h1.size;omega) hx o2 o5);rw[hv] at HE;have aH:=A (show((Ah e v).all λx=>x.oneCell')=AL by rw[<-hv];kernel_rfl);have h4:((ln l.BS:Int)==4096)=AM:=CK.2 D;have H4:=A (Ci h4 (Ci hu ai));have HS:=A aw;have⟨y,hy⟩:=AP (if FC l.BI l.BS l.BP=0 then z else 1);have⟨s,hs⟩:=AP ((if FC l.BI l.BS l.BP=0 then 0 else 1):Int);have HY:=A (show(s≠0->y=1/\s=1)/\(s=0->FC l.BI l.BS l.BP=0/\z=y) by
  subst hy hs;by_cases q:FC l.BI l.BS l.BP=0<;>simp[q])
 rw[hy];rw[hs] at KS;clear an j c hZ hR hb H aj E hx ht ah af av hz hv he ax hn h4 hu aw J ai hy hs;go_enter func11,ntmps11;go_upto_region 1 with(fail)
 rw[HW.o];go_wp2_with(first
  |(go_at_call 8;fail)
  |(refine K8 BE _ rfl _ rfl _ (HL _ (Ext.B9 _)) ?_))
 refine KS.mono ?_;rintro x1 W1 ⟨a',rfl,ao,aq⟩;have X1:=A ao;have B1:=A aq.toEP;clear ao aq;by_cases C:s=0
 case neg=>
  obtain⟨rfl,rfl⟩:=HY.1 C;go_wp2_with(first
   |(refine C7 rfl 34 _ _ rfl _ _ rfl rfl 34 _ (Bq W1 _) U U U ?_;generalize ac:F8 _ W1.1.size (P j' a')=W2;have ae:=A (show Ext W1 W2 by rw[<-ac];exact CL ((Ad _ _).alloc (AS _) _) (AS _) _);have T:=A (X1.tr ae);clear ac)
   |(refine JL rfl 38 _ rfl U ?_;rw[show Ea (FF (AO.built 38 _) #[])=AW (BQ IM IJ) from U])
   |(refine C7 rfl 38 _ _ rfl _ _ rfl rfl 38 _ (HR _ T) U U U ?_))
  refine Bp (Po F _ _ _ _ F (setRow_heap (HR _ T) _) U) F ?_;exact⟨CL (E0.tr T) D _,by rw[Af Z];rfl⟩
 obtain⟨h1,rfl⟩:=HY.2 C;subst C;have H0:=A h1;clear h1;go_wp2_with(first
  |(go_at_call 38;fail)
  |(refine C7 rfl 34 _ _ rfl _ _ rfl rfl 34 _ (Bq W1 _) U U U ?_;generalize ac:F8 _ W1.1.size (P j' a')=W2;have ae:=A (show Ext W1 W2 by rw[<-ac];exact CL ((Ad _ _).alloc (AS _) _) (AS _) _);have N2:=A (show JC W2 W1.1.size j' a' by unfold JC;rw[<-ac];exact setRow_heap (Bq W1 _) _);have T:=A (X1.tr ae);clear ac)
  |(refine Ce rfl 34 _ rfl _ rfl 34 _ (0,0) _ N2 DV rfl U ?_)
  |(refine Ce rfl 54 _ rfl _ rfl 54 _ (0,0) _ (HZ _ T) Cc rfl U ?_))
 refine(KC H0 _ T a' (B1.grow ae)).q λW3 ap=>?_;have Y:=A (T.tr ap);clear ap;by_cases ak:z=0
 case neg=>
  have t0:(z !=0)=AL:=Cd.2 ak;go_wp2_with(first
   |(refine JL rfl 38 _ rfl U ?_;rw[show Ea (FF (AO.built 38 _) #[])=AW (BQ IM IJ) from U])
   |(refine C7 rfl 38 _ _ rfl _ _ rfl rfl 38 _ (HR _ Y) U U U ?_))
  refine Bp (Po F _ _ _ _ F (setRow_heap (HR _ Y) _) U) F ?_;exact⟨CL (E0.tr Y) D _,by rw[Af ak];rfl⟩
 subst ak;have aM:=(HL _ Y).cell 15;have h4:=H4.1;go_wp2_with fail
 have ai:=H4.2.2;have aN:=H4.2.1;have⟨ie,au,aD,aE,aF⟩:=DM cD;have⟨ib,ar,aA,aB,aC⟩:=DM bV;have f:=A (Ci au (Ci aD (Ci aE aF)));have S:=A (Ci ar (Ci aA (Ci aB aC)));have UE:=underlying35;have UB:=underlying36;clear au aD aE aF ar aA aB aC;refine Fz U (Qf 15 (λL I W=>QU W3 w.1.size l a (Ah e v) rows.flatten L I W) U ?step ?tail _ (λI=>QU.BI (Ext.dr _)))
 case step=>
  intro i L I W hi c o N;have b:=A o;have X:=A (Y.tr o.ext);have SZ:=o.ext.size;have ab:=λq h1 h2=>o.Bg q (N q h1) h2
  clear o;rcases(show i=0\/i=1\/i=2\/i=3\/i=4\/i=5\/i=6\/i=7\/i=8\/i=9\/i=10\/i=11\/i=12\/i=13\/i=14 by omega) with rfl|rfl|rfl|rfl|rfl|rfl|rfl|rfl|rfl|rfl|rfl|rfl|rfl|rfl|rfl<;>clear hi<;>refine DC rfl (λK r=> ?_)
  .exact mj
  .have d:=ab 0 U Z;simp only[Oc] at d;refine wp_load_mid 34 (.tmp 30) F w.1.size 0 d (P l.BI a.ja).toList _ (HL _ X).BI DV F U ?_;exact r _ _ ⟨AW (P l.BI a.ja),F,b.pure Z F⟩
  .go_simp;exact r _ _ ⟨_,by simp[B7],b.up Z (b.ext.tr ((Ad _ _).alloc (AS _) _)) (b.ed.made Z Z Z SZ) ((b.bl.ext ((Ad _ _).alloc (AS _) _)).other Z Z Z Z _)⟩
  .exact mj
  .have d:=ab 3 U Z;simp only[Oc] at d;have m:=(HL _ X).cell 15;exact a06
  .have d:=ab 4 U Z;simp only[Oc] at d;have⟨g,e2,ad,E⟩:=b.ed.em c (N 2 U);refine aZ _ _ 35 F W3.1.size 54 ie _ 37 360 UE f.1 f.2.1 f.2.2.1 f.2.2.2 U Z g E ad e2 a.ea a.ec (ln l.BS) rows ag.2.2 d (KE _ X) ag.1 ag.2.1 D D ?_;intro y W4 hw n hf;exact r _ _ ⟨y,by simp[G7,B7],b.up Z (KY b.ext n (λq R=>by injection R with R;omega)) (b.ed.first Z Z c (N 2 U) (List.ne_nil_of_length_pos (Nat.lt_of_lt_of_eq (by decide:0<37) rfl)) n E hw hf) ((b.bl.grown (fh (k:=37) E ad) n Z).other Z Z Z Z _)⟩
  .exact NA 54 (.tmp 3) F (w.1.size+1) F 54 _ (0,0) _ (HZ _ X) Cc F U (r _ _ ⟨_,by simp[G7,B7,Oc],b.pure Z rfl⟩)
  .have d:=ab 6 U Z;simp only[Oc] at d;exact wp_buildSlice 35 54 1 _ F (Ah e v) ie _ UE f.1 f.2.1 (by rw[f.2.2.1];decide) (by rw[f.2.2.1];decide) (qu f.2.2.1 d)
    (r _ _ ⟨_,by simp[G7,B7],b.up Z (b.ext.tr ((Ad _ _).alloc (AS _) _)) (b.ed.build Z Z Z c rfl) ((b.bl.ext ((Ad _ _).alloc (AS _) _)).other Z Z Z Z _)⟩)
  .have l5:=N 5 U;have l7:=N 7 U;have ho:=b.ed.c.Ag c l5;obtain⟨vb,aK,aI,-⟩:=b.ed.c.Nw c l7;refine aa _ _ 35 F W3.1.size 54 ie _ 37 360 UE f.1 f.2.1 f.2.2.1 f.2.2.2 U Z (I 5) (ln l.BS) rows.flatten F ho ⟨vb,0,O⟩ 1 1 (Ah e v).toList aK U (V.news_of_block (t:=_) (fr:=(0,0)) aI) (λu hu=>dw.1 aH u (by simpa using hu)) Fp D SZ ?_;intro y W4 hw n;exact r _ _ ⟨y,by simp[G7,B7],b.up Z (KY b.ext n (λq R=>(DS ho q R).1)) (b.ed.append Z Z l5 l7 hw) ((b.bl.grown ho n Z).other Z Z Z Z _)⟩
  .go_simp;exact r _ _ ⟨_,by simp[B7],b.up Z (b.ext.tr ((Ad _ _).alloc (AS _) _)) ((b.ed.ext ((Ad _ _).alloc (AS _) _)).other Z Z Z Z _) (b.bl.made Z Z Z SZ)⟩
  .exact mj
  .have d:=ab 10 U Z;simp only[Oc] at d;have m:=(HL _ X).cell 16;exact a06
  .have d:=ab 11 U Z;simp only[Oc] at d;have⟨g,e2,ad,E⟩:=b.bl.em c (N 9 U);refine aZ _ _ 36 F W3.1.size 4 ib _ 1 1 UB S.1 S.2.1 S.2.2.1 S.2.2.2 F Z g E ad e2 a.ua a.uc (ln l.BP) (GV l.BP) (BL _) d (KB _ X) (Oq _) (ZX _) D D ?_;intro y W4 hw n hf;exact r _ _ ⟨y,by simp[G7,B7],b.up Z (KY b.ext n (λq R=>by injection R with R;omega)) ((b.ed.grown (fh (k:=1) E ad) n Z).other Z Z Z Z _) (b.bl.first Z Z c (N 9 U) AV n E hw hf)⟩
  .go_simp;exact r _ _ ⟨_,by simp[B7],b.up Z (b.ext.tr ((Ad _ _).alloc (AS _) _)) ((b.ed.ext ((Ad _ _).alloc (AS _) _)).other Z Z Z Z _) (b.bl.build Z Z Z c rfl)⟩
  have ay:=N 12 U;have az:=N 13 U;have ho:=b.bl.c.Ag c ay;obtain⟨vb,aL,aJ,-⟩:=b.bl.c.Nw c az;refine aa _ _ 36 F W3.1.size 4 ib _ 1 1 UB S.1 S.2.1 S.2.2.1 S.2.2.2 F Z (I 12) (ln l.BP) (GV l.BP).flatten F ho ⟨vb,0,O⟩ 1 1 [AU AM] aL F (V.news_of_block (t:=_) (fr:=(0,0)) aJ) (λu hu=>by simp at hu;subst hu;rfl) Fp D SZ ?_;intro y W4 hw n;exact r _ _ ⟨y,by simp[G7,B7],b.up Z (KY b.ext n (λq R=>(DS ho q R).1)) ((b.ed.grown ho n Z).other Z Z Z Z _) (b.bl.append Z Z ay az hw)⟩
 case tail=>
  intro L I W c o;have o8:=o.ed.c.app (c 8 Z);have al:=o.bl.c.app (c 14 Z);have d1:=o.Bg 1 (c 1 Z) Z;simp only[Oc] at d1;have⟨a',J,hE,hX⟩:=HE W3 W _ _ Y o.ext o8 al;have⟨A5,n5,c5,e5⟩:=Fx.of o8;have⟨A6,n6,c6,e6⟩:=Fx.of al;rw[e5,e6] at J;have am:=A (HR _ (Y.tr o.ext));have HF:=A (Ci hE hX);have aG:=A J;clear o c J hE hX o8 al;simp only[e5,e6,d1,FV,FY];clear e5 e6 d1;go_wp2_with(first
   |(refine JL rfl 38 _ rfl U ?_;rw[show Ea (FF (AO.built 38 _) #[])=AW (((BQ l a).setIfInBounds 15 (AK A5 n5 c5)).setIfInBounds 16 (AK A6 n6 c6)) from U,aG.o])
   |(refine C7 rfl 38 _ _ rfl _ _ rfl rfl 38 _ am U U U ?_))
  refine Bp (Po F _ _ _ _ F (setRow_heap am _) U) F ?_;exact⟨HF.1,by rw[Aj rfl];exact⟨a',F,HF.2⟩⟩
end
section
open Kp
theorem b1L{B:Nat}:Iq w B R 0 []:=⟨AS _,D8 _,λh=>absurd h AV⟩
theorem xY{X:Nat->Prop}:Qa X w IM IJ:=λW _=>⟨(Rl (λ_=>False) W _).toEP,b1L,tW⟩
theorem Dz.off{B:Nat}{l:Log}{a:Cb}(h:Dz w B l a)(d:w.1.size<=W.1.size)(c:∀b,b<B->W.1[b]?=w.1[b]?):Dz W B l a:=by
 have q:Dz {w with heap:=W.1} B l a:=h.below ⟨F,F,F,d,c⟩;exact⟨h.j.off d c,q.e,q.u⟩
def Ys(X:Nat->Prop)(w:V)(l:Log)(z:Int)(x:CI)(w':V):Prop:=∃a',x=Ac (BO #[AW (BQ l a'),M G z])/\Ext w w'/\Qa X w' l a'
noncomputable def lL(l:Log)(e:Ed):Log:=if Re l e=0 then Jd l e else IM
noncomputable def aS(l:Log)(i:Int)(u:Bool):Log:=if Gw l i u=0 then Jc l i.toNat u else IM
theorem Zq.UR{l:Log}{e:Ed}(h:Zq w l e (Re l e) x w'):Ys (λ_=>False) w (lL l e) (Re l e) x w':=by
 obtain⟨hx,h⟩:=h;unfold lL;by_cases q:Re l e=0
 .rw[Aj q] at h⊢;obtain⟨a',f,d⟩:=h;exact⟨a',Al,hx,λW a=>(d.off a.1 λb c=>a.2 b c (λh=>h)).more a.1⟩
 rw[Af q] at h⊢;exact⟨IJ,h,hx,xY⟩
theorem Lk.UR{B:Nat}{l:Log}{i:Int}(h:Lk B w l i u x w'):Ys (λb=>B<=b/\b<w.1.size+2) w (aS l i u) (Gw l i u) x w':=by
 unfold aS;rcases h.split with⟨q,a',a,hx,c⟩|⟨q,a,hx⟩
 .rw[q];exact⟨a',a,hx,c⟩
 rw[Af q];exact⟨IJ,a,hx,xY⟩
def Cu.tr{X:Nat->Prop}{R B C:V}(h:Cu X R.1.size R B)(k:Cu X B.1.size B C):Cu X R.1.size R C:=
 ⟨BJ h.1 k.1,λb h1 h2=>(k.2 b (Dj h1 h.1) h2).trans (h.2 b h1 h2)⟩
theorem Cu.ext{X:Nat->Prop}{R B:V}(h:Ext R B):Cu X R.1.size R B:=⟨h.size,λb h1 _=>h.block b h1⟩
def Cu.row{X:Nat->Prop}{R:V}{p:Nat}(h:X p)(cs:Array AN):Cu X R.1.size R (R.setRow p cs):=⟨by rw[size_setRow];grind,λb _ h2=>Hc _ _ (λe=>h2 (e▸h))⟩
def Hr{X:Nat->Prop}{R B:V}{P:V->Prop}(h:Hid (∀W,Cu X R.1.size R W->P W))(y:Cu X R.1.size R B):Hid (∀W,Cu X B.1.size B W->P W):=A (λW k=>h W (y.tr k))
theorem Of{R:V}{p q:Nat}(h:Hid (∀W,Ext R W->W.1[p]?=Q (.cells cs t (0,0))))(a:p≠q):Hid (∀W,Ext (R.setRow q cs') W->W.1[p]?=Q (.cells cs t (0,0))):=
 A (λW k=>by
  have h1:=h R (Ext.B9 _);exact(k.block p (by grind [size_setRow])).trans ((Hc _ _ a).trans h1))
theorem Zx{p:Nat}{o:Obj}(h:w.1[p]?=Q o):p<w.1.size:=Al
theorem ZY{R:V}{p:Nat}(h:R.1[p]?=Q (.cells cs' t (0,0))):Hid (∀W,Ext (R.setRow p cs) W->W.1[p]?=Q (.cells cs t (0,0))):=
 A (λW k=>(k.block p (by grind [size_setRow])).trans (setRow_heap h _))
end
section
open Kp
attribute [local go_sem] Eb Ty OH Qj
def a1Y(w:V)(l:Log)(a:Cb)(y:Dz w w.1.size l a)(X:ln l.BI.BK.flatten<=4000000000):
  AZ AO 4 #[AW (BQ l a)] w λx w'=>Lg (lC l) x/\Ext w w':=by
 have o:=A (show Ext w (w.alloc (.cells (BQ l a) 38)) from(Ad _ _).alloc (AS _) _);have C:LC (w.alloc (.cells (BQ l a) 38)) w.1.size l a:=Bq w _;have⟨z,K⟩:=AP (w.alloc (.cells (BQ l a) 38));rw[K] at o C;have ad:=A K;have j:=A (λW (h:Ext z W)=>LC.ext C h);have L:=A (λW (h:Ext z W)=>y.grow (o.tr h));have P:=A (λW (h:Ext z W)=>a1q W l.BI a.ja (L W h).j X);have H1:=y.e.1;have H2:=y.e.2.1;unfold BM at H2;clear y X K C;have⟨p,tp⟩:=AP (AQ ((ln l.BS:Int)<=6));have⟨q,tq⟩:=AP (AQ ((ln l.BS:Int)>6));have⟨r,tr⟩:=AP (AQ ((ln l.BP:Int)>6));have t:=A (Ci tp (Ci tq tr));go_enter func4,ntmps4;go_wp2_with fail
 rw[ad.o];go_loopw [3] (λi wr=>∃k:Nat,i=M G (k:Int)/\k<=ln l.BS/\Ext z wr/\∀m,m<k->Gu (l.BS.getD m BZ)=AM) (λi _=>((ln l.BS:Int)-B8 i).toNat)
 case atStart=>exact⟨0,F,D,Ext.B9 _,λm hm=>absurd hm D⟩
 obtain⟨k,rfl,hk,u,U⟩:=hrel;have c:=A u;have N:=A U;have H:=(j _ u).cell 15;have R:=(j _ u).cell 16;clear u U;by_cases ae:k<ln l.BS
 .have tlt:AQ ((k:Int)<(ln l.BS:Int))=AL:=CP D;cases p with
  |true=>
   have⟨b,off,f,T,hB,Y⟩:=(L _ c).e.at D;have⟨s,_⟩:=Y k ae;have⟨ed,I⟩:=AP (l.BS.getD k BZ);have ab:=A I;rw[I] at s;have⟨g,J⟩:=AP (Gu ed);have ac:=A J;have B:=A (λW=>vI W ed (f k).1 (f k).2);rw[J] at B;have⟨v,Z⟩:=AP (FO (f k).1 (ln ed.Aa) (f k).2);rw[Z] at B s;rw[Qj,T] at H;rw[DL] at s;have aa:=A s;clear Y s hB J I Z T;cases g<;>
    go_wp2_with(first
     |(go_at_call 5;refine(B _).q λW1 d=>?_;have n:=A d;clear d)
     |(refine j7 rfl _ rfl b (off+k*37) rfl _ _ aa ?_))
   .exact⟨⟨k+1,by go_num,D,c.tr n,λm hm=>by
     by_cases e:m=k
     .rw[e,ab.o];exact ac
     exact N m D⟩,Bm⟩
   go_ret;exact⟨⟨_,F,λh=>Aq⟩,o.tr (c.tr n)⟩
  |false=>
   cases r<;>
    go_wp2_with(first
     |(go_at_call 23;refine(P _ c).mono ?_;rintro x1 W1 ⟨⟨E,rfl,h1⟩,d⟩;have n:=A d;have H:=(j _ (c.tr d)).cell 15;have R:=(j _ (c.tr d)).cell 16;clear d;cases E)
     |(refine Qd BE _ rfl _ _ rfl _ _ (j _ c).BI ?_))
   all_goals
    go_ret;refine⟨⟨_,F,λh=> ?_⟩,o.tr (c.tr n)⟩;have h6:=Ij t.1;have h7:=t.2.1;have S:q=AL:=by rw[<-h7];exact CP D
    first
     |exact absurd S DI
     |(simp[S] at h;done)
 obtain rfl:k=ln l.BS:=D;cases q<;>cases r<;>
  go_wp2_with(first
   |(go_at_call 23;refine(P _ c).mono ?_;rintro x1 W1 ⟨⟨E,rfl,h1⟩,d⟩;have n:=A d;have G1:=A h1;have H:=(j _ (c.tr d)).cell 15;have R:=(j _ (c.tr d)).cell 16;clear d h1;cases E)
   |(refine Qd BE _ rfl _ _ rfl _ _ (j _ c).BI ?_))
 all_goals
  go_ret;refine⟨⟨_,F,λh=> ?_⟩,o.tr (c.tr n)⟩
  first
   |(cases h;done)
   |exact⟨G1 TR,N,by have:=Ij t.2.1;omega,by have:=Ij t.2.2;omega⟩
end
section
open Kp
attribute [local go_sem] Eb Hj Ty OH Qj
def b3K(w:V)(l:Log)(a:Cb)(x:Array AN):∃b,(w.alloc (.cells (BQ l a) 38)).alloc (.cells x 54)=b/\Ext w b/\LC b w.1.size l a/\EC b (w.1.size+1) x/\b.1.size=w.1.size+2:=by
 refine⟨_,F,((Ad _ _).alloc (AS _) _).alloc AV _,LC.ext (Bq w _) ((Ad _ _).alloc (AS _) _),?_,AV⟩;have:=EC.new (w.alloc (.cells (BQ l a) 38)) x;exact XE
set_option maxHeartbeats 40000000 in
def a3a (w : V) (l : Log) (a : Cb) (e : Ed) (ga : Option An) (gc : Nat) (i : Int) (s : By) (hb : Dz w w.1.size l a) (aZ : C8 w w.1.size ga gc e.Aa) (aY : ln l.BI.BK.flatten <= 4000000000) (a2 : ∀ e ∈ l.BS, Bh e.Ae) (bh : e.Ae <= 9223372036854775807) (hg : Gl w) (hB : 9 <= w.1.size) :
    AZ AO 3 #[AW (BQ l a), AW (Ah e (AK ga (ln e.Aa) gc)), M G i, AT (tx s)] w λr w' => r =Ac (AU AL) /\ Ext w w' := by
  obtain ⟨v, hv⟩ : ∃ v, FO ga (ln e.Aa) gc = v := ⟨_, F⟩;have bn := A hv;rw [hv];obtain ⟨m, bg, E0, L0, D0, S0⟩ := b3K w l a (Ah e v);have aK := A bg;have aj := A S0;have E0 := A E0;have L := A (λW (h : Ext m W) => LC.ext L0 h);have ND := A (λW (h : Ext m W) => (EC.ext D0 h : EC W (w.1.size + 1) (Ah e v)));have K := A (λW (h : Ext m W) => hb.below (E0.o.tr h));have GP := A (λW (h : Ext m W) => aZ.below (E0.o.tr h));have z := A (λW (h : Ext m W) => hg.keep (E0.o.tr h) hB);have O := A (λW (h : Ext m W) => (E0.o.tr h).size);have KR := A (a1Y m l a (K.now.more O.now) aY);have KE := A (λW => vI W e ga gc);rw [hv] at KE;have KA := A (λW (h : Ext m W) => a55 W (z.o W h) (BJ hB (E0.o.tr h).size));have bk := A a2;have aL := A bh;have H9 := A hB;clear hb aZ hg bg aY a2 L0 D0 hv bh S0 hB;go_enter func3, ntmps3;go_wp2_with (first
    | (go_at_call 4; fail)
    | (rw [aK.o]; refine K8 BE _ F _ F _ (L.now) ?_))
  try rw [aK.o]
  refine KR.o.mono ?_;rintro r1 W1 ⟨⟨b1, rfl, h1⟩, aX⟩;have X1 := A aX;have H1 := A h1;clear aX h1;cases b1
  case true =>
    go_wp2_with (go_at_call 6; refine (KA.o _ X1.o).mono ?_; rintro r2 W2 ⟨rfl, an⟩)
    go_ret;exact ⟨F, E0.o.tr (X1.o.tr an)⟩
  have HL := A (show Ig l from ⟨H1.o (by first | rfl | trivial), bk.o⟩);go_wp2_with (first
    | (go_at_call 5; fail)
    | (refine VH BE _ rfl _ rfl _ (ND.o _ X1.o) U ?_))
  refine (KE.o _).mono ?_;rintro r2 W2 ⟨rfl, an⟩;have X2 := A (X1.o.tr an);clear an;obtain ⟨g, aH⟩ : ∃ g, Gu e = g := ⟨_, F⟩;rw [aH];have aJ := A aH;clear aH;cases g
  case true =>
    go_wp2_with (go_at_call 6; refine (KA.o _ X2.o).mono ?_; rintro r3 W3 ⟨rfl, aG⟩)
    go_ret;exact ⟨F, E0.o.tr (X2.o.tr aG)⟩
  by_cases hs : 200 < ln s
  . have bL : AQ (200 < (ln s : Int)) = AL := by rw [Cx]; omega
    go_wp2_with (go_at_call 6; refine (KA.o _ X2.o).mono ?_; rintro r3 W3 ⟨rfl, aG⟩)
    go_ret;exact ⟨F, E0.o.tr (X2.o.tr aG)⟩
  have bL : AQ (200 < (ln s : Int)) = AM := by rw [CX]; omega
  have aI : ln s <= 200 := D;clear hs;have HS := A aI;have X := X2;have au := A (rV W2 l a (B := w.1.size) (X := λ_ => False) (K.o _ X2.o) (O.o _ X2.o) (λ_ h => h.elim) HL.o (z.o _ X2.o).Tj (z.o _ X2.o).pow);have av := A (λW (h : Ext m W) => qF W l a (B := w.1.size) (X := λ_ => False) (K.o _ h) (O.o _ h) (λ_ h => h.elim) HL.o (z.o _ h).pow);have ak := A (λW (h : Ext m W) => (a9c W l a e ga gc (K.o _ h) (O.o _ h) (GP.o _ h) HL.o aJ.o aL.o (z.o _ h).Tj (z.o _ h).pow).mono λ_ _ p => p.UR);have al := A (λW (h : Ext m W) => (a9x W l a e ga gc (K.o _ h) (O.o _ h) (GP.o _ h) HL.o aJ.o aL.o (z.o _ h).pow).mono λ_ _ p => p.UR);have ax := A (λW (h : Ext m W) => (b2c W l a i (K.o _ h) (O.o _ h) HL.o (z.o _ h).pow (z.o _ h).Tj rfl).mono λ_ _ p => p.UR);have ay := A (λW (h : Ext m W) => (b1X W l a i (K.o _ h) (O.o _ h) HL.o (z.o _ h).pow rfl).mono λ_ _ p => p.UR);have az := A (λW (h : Ext m W) => (b2m W l a i (K.o _ h) (O.o _ h) HL.o (z.o _ h).pow (z.o _ h).Tj rfl).mono λ_ _ p => p.UR);have aA := A (λW (h : Ext m W) => (b0F W l a i (K.o _ h) (O.o _ h) HL.o (z.o _ h).pow rfl).mono λ_ _ p => p.UR);have JX := A (λN W (h : Ext m W) => (((K.o _ h).j.v (O.o _ h) (X := λb => w.1.size <= b /\ b < N) (λb h1 h2 => D)).more (O.o _ h)));have aq := A (λN W (hN : N <= W.1.size) (h : Ext m W) => qA W l a (B := w.1.size) (X := λb => w.1.size <= b /\ b < N) (JX.o N W h) (λb h1 => D) (K.o _ h).e (K.o _ h).u (O.o _ h) (λb h1 h2 => D) HL.o (z.o _ h).Tj (z.o _ h).pow);have ar := A (λN W (hN : N <= W.1.size) (h : Ext m W) => p9 W l a (B := w.1.size) (X := λb => w.1.size <= b /\ b < N) (JX.o N W h) (λb h1 => D) (K.o _ h).e (K.o _ h).u (O.o _ h) (λb h1 h2 => D) HL.o (z.o _ h).pow);have aw := A (λW (h : Ext m W) => nu s W D (λx hx => by have := cG _ s (AS _) x hx; omega) (z.o _ h) (BJ H9.o (O.o _ h)));have am := A (λW (h : Ext m W) => a3b s W aI (z.o _ h).pow (by have := H9.o; have := O.o _ h; omega));rw [bn.o] at ak al;rw [b1u nK s D] at am;obtain ⟨j1, a3⟩ : ∃ x, Oi l = x := ⟨_, F⟩;obtain ⟨s1, bb⟩ : ∃ x, WX l = x := ⟨_, F⟩;unfold UT at au av;rw [a3, bb] at au av;obtain ⟨l1, a5⟩ : ∃ x, lL l e = x := ⟨_, F⟩;obtain ⟨s2, bc⟩ : ∃ x, Re l e = x := ⟨_, F⟩;unfold Ys at ak al;rw [a5, bc] at ak al;obtain ⟨l2, a6⟩ : ∃ x, aS l i AL = x := ⟨_, F⟩;obtain ⟨s3, bd⟩ : ∃ x, Gw l i AL = x := ⟨_, F⟩;unfold Ys at ax ay;rw [a6, bd] at ax ay;obtain ⟨u, ba⟩ : ∃ x, aS l i AM = x := ⟨_, F⟩;obtain ⟨s4, be⟩ : ∃ x, Gw l i AM = x := ⟨_, F⟩;unfold Ys at az aA;rw [ba, be] at az aA;obtain ⟨n, a4⟩ : ∃ x, NH l.BI l.BS l.BP = x := ⟨_, F⟩;obtain ⟨xs, bi⟩ : ∃ x, UX l.BI l.BS l.BP = x := ⟨_, F⟩;obtain ⟨s5, bf⟩ : ∃ x, FC l.BI l.BS l.BP = x := ⟨_, F⟩;unfold Ky at aq ar;rw [a4, bi, bf] at aq ar;obtain ⟨e1, s6, hp⟩ : ∃ x y, QZ BF s = (x, y) := ⟨_, _, F⟩;rw [hp] at aw am;unfold iS at aw am;clear a3 bb a5 bc a6 bd ba be a4 bi bf hp X1 X2 aI KR KE K GP;have ts : (s1 != s1) = AM := AV;have b6 : (s2 != s2) = AM := AV;have b7 : (s3 != s3) = AM := AV;have b3 : (s4 == s4) = AL := AV;have b4 : (s5 == s5) = AL := AV;have b5 : (s6 == s6) = AL := AV;go_wp2_with (first
    | (go_at_call 7; fail)
    | (refine K8 BE _ rfl _ rfl _ (L.o _ X.o) ?_))
  refine au.o.mono ?_;rintro r3 W3 ⟨bD, rfl, c, hx⟩;have X := A (X.o.tr c);have B1 := A (λW (h : Ext W3 W) => hx.toEP.grow h);have Z9 := A X.o.size;clear c hx;go_wp2_with (first
    | (go_at_call 8; fail)
    | (refine T2 BE BE BE BE U U U ?_; intro W4 Y o; have X := A (X.o.tr Y.o))
    | (refine K8 BE _ rfl _ rfl _ (L.o _ X.o) ?_))
  have d := A (λW (h : Ext W4 W) => JC.ext o.o h);have B1 := CH B1 Y;clear o;refine (av.o _ X.o).mono ?_;rintro r5 W5 ⟨bE, rfl, c, hx⟩;have Y := A c;have X := A (X.o.tr c);have B2 := A (λW (h : Ext W5 W) => hx.toEP.grow h);have B1 := CH B1 Y;have d := CH d Y;have ag := A (Zx d.now);clear c hx;go_wp2_with (first
    | (go_at_call 9; fail)
    | (refine T2 BE BE BE BE U U U ?_; intro W6 Y o; have X := A (X.o.tr Y.o))
    | (refine VI BE _ rfl _ rfl _ (d.o _ Y.o) U ?_)
    | (refine VI BE _ rfl _ rfl _ o.o U ?_))
  have f := A (λW (h : Ext W6 W) => JC.ext o.o h);have d := CH d Y;refine (kC W6 j1 bD bE (B1.o _ Y.o) (B2.o _ Y.o)).mono ?_;rintro r7 W7 ⟨rfl, c⟩;have Y := A c;have X := A (X.o.tr c);have d := CH d Y;have f := CH f Y;clear c o B1 B2;go_wp2_with (first
    | (go_at_call 10; fail)
    | (refine K8 BE _ rfl _ rfl _ (L.o _ X.o) ?_)
    | (refine VH BE _ rfl _ rfl _ (ND.o _ X.o) U ?_))
  refine (ak.o _ X.o).mono ?_;rintro r8 W8 ⟨bF, rfl, c, hx⟩;have Y := A c;have X := A (X.o.tr c);have I := A (λW (h : Ext W8 W) => hx.at_.grow h);have d := CH d Y;have f := CH f Y;have ah := A (Zx f.now);clear c hx;go_wp2_with (first
    | (go_at_call 11; fail)
    | (refine T2 BE BE BE BE U U U ?_; intro W9 Y o; have X := A (X.o.tr Y.o))
    | (refine K8 BE _ rfl _ rfl _ (L.o _ X.o) ?_)
    | (refine VH BE _ rfl _ rfl _ (ND.o _ X.o) U ?_))
  have j := A (λW (h : Ext W9 W) => LC.ext o.o h);have I := CH I Y;have d := CH d Y;have f := CH f Y;clear o;refine (al.o _ X.o).mono ?_;rintro bR aa ⟨bG, rfl, c, hx⟩;have Y := A c;have X := A (X.o.tr c);have T := A (λW (h : Ext aa W) => hx.at_.grow h);have I := CH I Y;have d := CH d Y;have f := CH f Y;have j := CH j Y;have ai := A (Zx j.now);clear c hx;go_wp2_with (first
    | (go_at_call 12; fail)
    | (refine T2 BE BE BE BE U U U ?_; intro bs Y o; have X := A (X.o.tr Y.o))
    | (refine K8 BE _ rfl _ rfl _ (L.o _ X.o) ?_))
  have k := A (λW (h : Ext bs W) => LC.ext o.o h);have I := CH I Y;have T := CH T Y;have d := CH d Y;have f := CH f Y;have j := CH j Y;clear o;refine (ax.o _ X.o).mono ?_;rintro bS bt ⟨bH, rfl, c, hx⟩;have Y := A c;have X := A (X.o.tr c);have L3 := A (λW (h : Ext bt W) => hx.at_.grow h);have I := CH I Y;have T := CH T Y;have d := CH d Y;have f := CH f Y;have j := CH j Y;have k := CH k Y;clear c hx;go_wp2_with (first
    | (go_at_call 13; fail)
    | (refine T2 BE BE BE BE U U U ?_; intro bu Y o; have X := A (X.o.tr Y.o))
    | (refine K8 BE _ rfl _ rfl _ (L.o _ X.o) ?_))
  have ab := A (λW (h : Ext bu W) => LC.ext o.o h);have I := CH I Y;have T := CH T Y;have L3 := CH L3 Y;have d := CH d Y;have f := CH f Y;have j := CH j Y;have k := CH k Y;clear o;refine (ay.o _ X.o).mono ?_;rintro bT bv ⟨bI, rfl, c, hx⟩;have Y := A c;have X := A (X.o.tr c);have L4 := A (λW (h : Ext bv W) => hx.at_.grow h);have I := CH I Y;have T := CH T Y;have L3 := CH L3 Y;have d := CH d Y;have f := CH f Y;have j := CH j Y;have k := CH k Y;have ab := CH ab Y;clear c hx;go_wp2_with (first
    | (go_at_call 14; fail)
    | (refine T2 BE BE BE BE U U U ?_; intro aO Y o; have X := A (X.o.tr Y.o))
    | (refine K8 BE _ rfl _ rfl _ (j.o _ Y.o) ?_)
    | (refine K8 BE _ rfl _ rfl _ (k.o _ Y.o) ?_))
  have aM := A (λW (h : Ext aO W) => LC.ext o.o h);have I := CH I Y;have T := CH T Y;have L3 := CH L3 Y;have L4 := CH L4 Y;have d := CH d Y;have f := CH f Y;have j := CH j Y;have k := CH k Y;have ab := CH ab Y;clear o;refine (jq aO l1 bF bG I.now T.now).mono ?_;rintro r16 bw ⟨rfl, c⟩;have Y := A c;have X := A (X.o.tr c);clear c I T;go_wp2_with (first
    | (go_at_call 14; fail)
    | (refine K8 BE _ rfl _ rfl _ (ab.o _ Y.o) ?_)
    | (refine K8 BE _ rfl _ rfl _ (aM.o _ Y.o) ?_))
  refine (jq bw l2 bH bI (L3.o _ Y.o) (L4.o _ Y.o)).mono ?_;rintro r17 bx ⟨rfl, c⟩;have X := A (X.o.tr c);have Y := A (Y.o.tr c);have d := CH d Y;have f := CH f Y;have j := CH j Y;have k := CH k Y;clear c L3 L4 ab aM;go_wp2_with (first
    | (go_at_call 15; fail)
    | (refine K8 BE _ rfl _ rfl _ (L.o _ X.o) ?_))
  have ZE := A (Zx k.now);refine (az.o _ X.o).mono ?_;rintro bU ad ⟨a7, rfl, c, hx⟩;have Y := A c;have X := A (X.o.tr c);obtain ⟨Q, hM⟩ : ∃ Q, bx.1.size = Q := ⟨_, F⟩;rw [hM] at hx ZE;have H := A (show Q <= ad.1.size by rw [<- hM]; exact c.size);have P9 := A (show w.1.size <= W3.1.size /\ W3.1.size < Q by have := aj.o; have := Z9.o; have := ag.o; have := ah.o; have := ai.o; have := ZE.o; omega);have ac := A (show w.1.size <= W5.1.size /\ W5.1.size < Q by have := aj.o; have := Z9.o; have := ag.o; have := ah.o; have := ai.o; have := ZE.o; omega);have br := A (show w.1.size <= W8.1.size /\ W8.1.size < Q by have := aj.o; have := Z9.o; have := ag.o; have := ah.o; have := ai.o; have := ZE.o; omega);have aN := A (show w.1.size <= aa.1.size /\ aa.1.size < Q by have := aj.o; have := Z9.o; have := ag.o; have := ah.o; have := ai.o; have := ZE.o; omega);have J := A (show (m.1.size <= W3.1.size /\ m.1.size <= W5.1.size /\ m.1.size <= W8.1.size /\ m.1.size <= aa.1.size) /\ (W3.1.size ≠ W5.1.size /\ W3.1.size ≠ W8.1.size /\ W3.1.size ≠ aa.1.size /\ W5.1.size ≠ W8.1.size /\ W5.1.size ≠ aa.1.size /\ W8.1.size ≠ aa.1.size) by have := Z9.o; have := ag.o; have := ah.o; have := ai.o; omega);have t := A (show ∀ W, Cu (λb => w.1.size <= b /\ b < Q) ad.1.size ad W -> Dz W W.1.size u a7 fromλW hO => hx W ⟨hO.1, λb h1 h2 => hO.2 b h1 (λq => h2 ⟨q.1, D⟩)⟩);have d := CH d Y;have f := CH f Y;have j := CH j Y;have k := CH k Y;clear c hx hM;go_wp2_with (first
    | (go_at_call 16; fail)
    | (refine C7 rfl 38 _ _ rfl _ _ rfl rfl 38 _ j.now U U U ?_
       have X := A (show Ext m (ad.setRow W8.1.size (BQ u a7)) from CL X.o J.o.1.2.2.1 (BQ u a7));have t := Hr t (Cu.row br.o (BQ u a7));have d := Of (cs' := BQ u a7) d J.o.2.2.1;have f := Of (cs' := BQ u a7) f J.o.2.2.2.2.1;have k := Of (cs' := BQ u a7) k J.o.2.2.2.2.2.2.symm;have j := ZY (cs := BQ u a7) j.now;have H := A (show Q <= (ad.setRow W8.1.size (BQ u a7)).1.size by rw [size_setRow]; exact H.o);generalize F8 ad _ _ = bM at X t d f j k H ⊢)
    | (refine K8 BE _ rfl _ rfl _ (L.o _ X.o) ?_))
  refine (aA.o _ X.o).mono ?_;rintro bV af ⟨a8, rfl, c, hx⟩;have Y := A c;have X := A (X.o.tr c);have C := A (show ∀ W, Cu (λb => w.1.size <= b /\ b < Q) af.1.size af W -> Dz W W.1.size u a8 fromλW hO => hx W ⟨hO.1, λb h1 h2 => hO.2 b h1 (λq => h2 ⟨q.1, by have := H.o; omega⟩)⟩);have t := Hr t (Cu.ext c);have H := A (BJ H.o c.size);have d := CH d Y;have f := CH f Y;have j := CH j Y;have k := CH k Y;clear c hx;go_wp2_with (first
    | (go_at_call 17; fail)
    | (refine C7 rfl 38 _ _ rfl _ _ rfl rfl 38 _ k.now U U U ?_
       have X := A (show Ext m (af.setRow aa.1.size (BQ u a8)) from CL X.o J.o.1.2.2.2 (BQ u a8));have t := Hr t (Cu.row aN.o (BQ u a8));have C := Hr C (Cu.row aN.o (BQ u a8));have d := Of (cs' := BQ u a8) d J.o.2.2.2.1;have f := Of (cs' := BQ u a8) f J.o.2.2.2.2.2.1;have j := Of (cs' := BQ u a8) j J.o.2.2.2.2.2.2;have k := ZY (cs := BQ u a8) k.now;have H := A (show Q <= (af.setRow aa.1.size (BQ u a8)).1.size by rw [size_setRow]; exact H.o);generalize F8 af _ _ = bN at X t C d f j k H ⊢;have aE := (L.o _ X.o).cell 15;have aF := (L.o _ X.o).cell 16)
    | (refine Qd BE _ rfl _ _ rfl _ _ (L.o _ X.o).BI ?_))
  refine (aq.o Q _ H.o X.o).mono ?_;rintro bW aB ⟨a9, A9, c9, rfl, c, hv, hs⟩;have Y := A c;have X := A (X.o.tr c);have S := A hv.av;have Z := A hs;have t := Hr t (Cu.ext c);have C := Hr C (Cu.ext c);have H := A (BJ H.o c.size);have d := CH d Y;have f := CH f Y;have j := CH j Y;have k := CH k Y;clear c hv hs aE aF;go_wp2_with (first
    | (go_at_call 18; fail)
    | (refine C7 rfl 34 _ _ rfl _ _ rfl rfl 34 _ d.now U U U ?_
       have X := A (show Ext m (aB.setRow W3.1.size (P n a9)) from CL X.o J.o.1.1 (P n a9));have t := Hr t (Cu.row P9.o (P n a9));have C := Hr C (Cu.row P9.o (P n a9));have S := Hr S (Cu.row P9.o (P n a9));have Z := Hr Z (Cu.row P9.o (P n a9));have f := Of (cs' := P n a9) f J.o.2.1.symm;have j := Of (cs' := P n a9) j J.o.2.2.1.symm;have k := Of (cs' := P n a9) k J.o.2.2.2.1.symm;have d := ZY (cs := P n a9) d.now;have H := A (show Q <= (aB.setRow W3.1.size (P n a9)).1.size by rw [size_setRow]; exact H.o);generalize F8 aB _ _ = bO at X t C S Z d f j k H ⊢;have aE := (L.o _ X.o).cell 15;have aF := (L.o _ X.o).cell 16)
    | (refine Qd BE _ rfl _ _ rfl _ _ (L.o _ X.o).BI ?_))
  refine (ar.o Q _ H.o X.o).mono ?_;rintro bX aP ⟨R, bj, bJ, rfl, c, hv, hs⟩;have Y := A c;have X := A (X.o.tr c);have B6 := A hv.av;have S6 := A hs;have S := Hr S (Cu.ext c);have Z := Hr Z (Cu.ext c);have t := Hr t (Cu.ext c);have C := Hr C (Cu.ext c);have d := CH d Y;have f := CH f Y;have j := CH j Y;have k := CH k Y;clear c hv hs aE aF;go_wp2_with (first
    | (go_at_call 19; fail)
    | (refine C7 rfl 34 _ _ rfl _ _ rfl rfl 34 _ f.now U U U ?_
       have X := A (show Ext m (aP.setRow W5.1.size (P n R)) from CL X.o J.o.1.2.1 (P n R));have t := Hr t (Cu.row ac.o (P n R));have C := Hr C (Cu.row ac.o (P n R));have S := Hr S (Cu.row ac.o (P n R));have Z := Hr Z (Cu.row ac.o (P n R));have B6 := Hr B6 (Cu.row ac.o (P n R));have S6 := Hr S6 (Cu.row ac.o (P n R));have d := Of (cs' := P n R) d J.o.2.1;have j := Of (cs' := P n R) j J.o.2.2.2.2.1.symm;have k := Of (cs' := P n R) k J.o.2.2.2.2.2.1.symm;have f := ZY (cs := P n R) f.now;generalize F8 aP _ _ = bz at X t C S Z B6 S6 d f j k ⊢))
  refine (aw.o _ X.o).mono ?_;rintro bY aC ⟨aT, aV, rfl, a0, c⟩;have X := A (X.o.tr c);have G1 := A (λW (h : Ext aC W) => (a0.below h).more h.size);have E := A (show Ext bz aC from c);obtain ⟨v1, ao⟩ : ∃ v1, FO aT (ln e1.Aa) aV = v1 := ⟨_, F⟩;have bl := A ao;simp only [ao];clear c a0;have bp := A (show ((Ah e1 v1).all λx => x.oneCell') = AL by rw [<- ao]; kernel_rfl);clear ao;go_wp2_with (first
    | (go_at_call 20; fail)
    | (refine T2 BE BE BE BE U U bp.o ?_; intro aQ Y o; have X := A (X.o.tr Y.o)))
  have ae := A (λW (h : Ext aQ W) => (EC.ext o.o h : EC W aC.1.size (Ah e1 v1)));have G1 := CH G1 Y;have E := A (E.o.tr Y.o);clear o;refine (am.o _ X.o).mono ?_;rintro bZ aD ⟨aU, aW, rfl, a1, c⟩;have Y := A (show Ext aQ aD from c);have X := A (X.o.tr c);have G2 := A (λW (h : Ext aD W) => (a1.below h).more h.size);have E := A (E.o.tr Y.o);have G1 := CH G1 Y;have ae := CH ae Y;obtain ⟨v2, ap⟩ : ∃ v2, FO aU (ln e1.Aa) aW = v2 := ⟨_, F⟩;have bm := A ap;simp only [ap];clear c a1;have bq := A (show ((Ah e1 v2).all λx => x.oneCell') = AL by rw [<- ap]; kernel_rfl);clear ap;go_wp2_with (first
    | (go_at_call 14; fail)
    | (refine T2 BE BE BE BE U U bq.o ?_; intro aR Y o; have X := A (X.o.tr Y.o); have E := A (E.o.tr Y.o))
    | (refine K8 BE _ rfl _ rfl _ (j.o _ E.o) ?_)
    | (refine K8 BE _ rfl _ rfl _ (k.o _ E.o) ?_))
  have bo := A (λW (h : Ext aR W) => (EC.ext o.o h : EC W aD.1.size (Ah e1 v2)));have G1 := CH G1 Y;have G2 := CH G2 Y;have ae := CH ae Y;have t := Hr t (Cu.ext E.o);have C := Hr C (Cu.ext E.o);have S := Hr S (Cu.ext E.o);have B6 := Hr B6 (Cu.ext E.o);have Z := Hr Z (Cu.ext E.o);have S6 := Hr S6 (Cu.ext E.o);have d := CH d E;have f := CH f E;clear o j k E;refine (jq aR u a7 a8 (t.o _ (Cu.ext (Ext.B9 _))) (C.o _ (Cu.ext (Ext.B9 _)))).mono ?_;rintro r30 bA ⟨rfl, c⟩;have Y := A c;have X := A (X.o.tr c);clear c t C;go_wp2_with (first
    | (go_at_call 9; fail)
    | (refine VI BE _ rfl _ rfl _ (d.o _ Y.o) U ?_)
    | (refine VI BE _ rfl _ rfl _ (f.o _ Y.o) U ?_))
  refine (kC bA n a9 R (S.o _ (Cu.ext Y.o)) (B6.o _ (Cu.ext Y.o))).mono ?_;rintro r31 bB ⟨rfl, c⟩;have X := A (X.o.tr c);have Y := A (Y.o.tr c);clear c S B6;go_wp2_with (go_at_call 21; fail)
  refine (a7P bB A9 bj c9 bJ xs (Z.o _ (Cu.ext Y.o)) (S6.o _ (Cu.ext Y.o))).mono ?_;rintro r32 bC ⟨rfl, c⟩;have X := A (X.o.tr c);have Y := A (Y.o.tr c);clear c Z S6;go_wp2_with (first
    | (go_at_call 22; fail)
    | (refine VH BE _ rfl _ rfl _ (ae.o _ Y.o) U ?_)
    | (refine VH BE _ rfl _ rfl _ (bo.o _ Y.o) U ?_))
  have KQ := kQ bC e1 aT aU aV aW (G1.o _ Y.o) (G2.o _ Y.o);rw [bl.o, bm.o] at KQ;refine KQ.mono ?_;clear KQ;rintro b0 bP ⟨rfl, c⟩;have X := A (X.o.tr c);clear c;go_wp2_with (go_at_call 6; refine (KA.o _ X.o).mono ?_; rintro b2 bQ ⟨rfl, bK⟩)
  go_ret;exact ⟨F, E0.o.tr (X.o.tr bK)⟩
end
end Go.Proofs.YtalhfkdhdggdaaaGreatDoor
