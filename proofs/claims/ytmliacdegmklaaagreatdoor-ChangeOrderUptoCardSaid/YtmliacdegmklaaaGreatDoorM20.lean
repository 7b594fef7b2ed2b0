/- ChangeReplays of kingpostlaw58: part 20 of its proof (merged and shortened by program). -/
import Derived.Deep.MidRow
import Derived.Test.YtmliacdegmklaaaGreatDoorM18
import Derived.Test.YtmliacdegmklaaaGreatDoorM19
set_option linter.unusedVariables false
set_option linter.unusedSimpArgs false
set_option linter.defProp false
set_option maxHeartbeats 8000000
set_option maxRecDepth 100000
open Go.RowKit Go.Shelf Go.Proofs.Tryz
open Array renaming getElem?_eq_some_iff→Vz
open Bool renaming false→Vp,true→Vv,and_eq_true_iff→Vw
open Go renaming World→Vl,Value→Vr,undef→Vs,wpOp_step→Vx,Calls→VC,maxLen→VJ,TypeId→VK,Addr→VM,Rows→VP
open Go.AllReady renaming cons→VH,nil→VO
open Go.Ending renaming returned→VV
open Go.IntKind renaming i64→VA
open Go.IntWalk renaming i64_in→VI
open Go.Lib renaming hid→Vk
open Go.RowKit renaming intOf→VG,Below→VL
open Go.Value renaming slice→VQ,string→VR,bool→VS,pointer→VT,int→VU,agg→VW,tuple→VX
open Go.World renaming alloc_heap_new→Vy,size_alloc→VF
open List renaming getD_eq_getElem?_getD→Vn,getElem?_eq_getElem→Vt,length_map→Vu,length_append→VD
open Nat renaming le_refl→Vm,le_trans→VB,mul_comm→VE
open Option renaming none→Vo,some→Vq
open Option.some renaming inj→VN
open Go.Proofs.YtmliacdegmklaaaGreatDoor
namespace Go.Proofs.YtmliacdegmklaaaGreatDoor
section
open Kp
def Qc{o:kR}(h:mT o):zG o:=
 ⟨by have:=dQ h.a;omega,by have:=dQ h.b;omega,by have:=dQ h.c;omega,by have:=dQ h.d;omega⟩
def uH.ops{j:bC}(h:uH j):∀o∈j.openings,zG o:=by
 intro o ho;obtain⟨i,hi,rfl⟩:=List.mem_iff_getElem.1 ho;have:=h.gr.Oy h.o i hi;rw[Vn,Vt hi] at this;exact Qc this
def uH.aH{j:bC}(h:uH j):∀x∈j.aH,x.weight.length<=300000:=by
 intro x hx;obtain⟨i,hi,rfl⟩:=List.mem_iff_getElem.1 hx;have:=h.gr.l.w i hi;rw[Vn,Vt hi] at this;exact VB this V0
def uH.sm{j:bC}(h:uH j):nL j:=
 ⟨by have:=h.gr.name;omega,by have:=h.gr.r.f;omega,h.ops,h.aH⟩
def Po{rs:List (List Sd)}(k:Nat):(rs.getD k []).length<=rs.flatten.length:=by
 by_cases hk:k<rs.length
 ·rw[Vn,Vt hk];exact(List.sublist_flatten_of_mem (List.getElem_mem hk)).length_le
 ·exact a0e
def uH.ln{j:bC}(h:uH j):Mn j:=
 ⟨by have:=h.gr.r.n;omega,λk=>by have:=Po (rs:=j.rings) k;have:=h.gr.r.f;omega,by have:=h.o;omega,by have:=h.gr.z;omega,by have:=h.gr.b.n;omega,by have:=h.gr.l.n;omega,by have:=h.gr.s.n;omega,by have:=h.gr.u;omega⟩
def DU{α:Type}{l:List α}{i:Int}{x y:α}(h:y∈cG l i x):y∈l\/y=x:=by
 unfold cG at h;split at h
 ·rcases List.mem_append.1 h with h|h
  ·exact .inl h
  ·exact .inr (List.mem_singleton.1 h)
 ·exact List.mem_or_eq_of_mem_set h
def EH(rs:List (List Sd))(n:Int)(s:Sd):(fh rs n s).flatten.length=rs.flatten.length:=by
 rw[List.length_flatten,List.length_flatten]
 congr 1
 apply List.ext_getElem?;intro k;rw[List.getElem?_map,List.getElem?_map];by_cases hk:k<rs.length
 ·have h1:=tY rs n s hk;have hl:k<(fh rs n s).length:=by unfold fh;simpa using hk
  rw[Vn,Vt hl] at h1;rw[Vt hl,Vt hk];have h2:=tW rs n s k;rw[Vn,Vt hk] at h2;simp only[Option.getD_some] at h1 h2;simp only[Option.map_some,h1,h2]
 ·have hl:¬k<(fh rs n s).length:=by unfold fh;simpa using hk
  rw[List.getElem?_eq_none VY,List.getElem?_eq_none VY]
def Kq{e:Ed}(h:dA e=Vp):zG ⟨e.oside,e.oleft,e.oright,e.olow,e.ohigh⟩:=by
 unfold dA kU at h;simp only[Bool.or_eq_false_iff,decide_eq_false_iff_not] at h;obtain⟨⟨⟨h1,h2⟩,⟨⟨h3,h4⟩,h5⟩,h6⟩,h7⟩:=h;exact⟨by have:=dQ h3;show e.oleft.length<=_;omega,by have:=dQ h4;show e.oright.length<=_;omega,by have:=dQ h5;show e.olow.length<=_;omega,by have:=dQ h6;show e.ohigh.length<=_;omega⟩
def Oj{e:Ed}(h:dA e=Vp):e.text.length<=40/\e.lweight.length<=50:=by
 unfold dA at h;simp only[Bool.or_eq_false_iff,decide_eq_false_iff_not] at h;omega
def Ri{α:Type}{P:α->Prop}{c:Prop}[Decidable c]{a b:α}(h1:c->P a)(h2:¬c->P b):P (if c then a else b):=by
 by_cases h:c
 ·rw[if_pos h];exact h1 h
 ·rw[if_neg h];exact h2 h
def nL.TH{j:bC}{e:Ed}(h:nL j)(hg:dA e=Vp):nL (dK j e):=by
 obtain⟨h1,h2,h3,h4⟩:=h;have ht:=Oj hg;have hb:nL j:=⟨h1,h2,h3,h4⟩;unfold dK Is
 repeat' refine Ri (P:=nL) (λ_=> ?_) (λ_=> ?_)
 all_goals first
  |exact hb
  |exact⟨h1,h2,h3,h4⟩
  |exact⟨by show e.text.length<=_;omega,h2,h3,h4⟩
  |exact⟨h1,by show(fh _ _ _).flatten.length<=_;rw[EH];exact h2,h3,h4⟩
  |exact⟨h1,h2,λo ho=>(DU ho).elim (h3 o) (λq=>q▸Kq hg),h4⟩
  |exact⟨h1,h2,h3,λo ho=>(DU ho).elim (h4 o) (λq=>by rw[q];show e.lweight.length<=_;omega)⟩
  |exact⟨h1,h2,λo ho=>h3 o (List.mem_of_mem_eraseIdx ho),h4⟩
  |exact⟨h1,h2,h3,λo ho=>h4 o (List.mem_of_mem_eraseIdx ho)⟩
end
section
open Kp
structure Fa(n:Nat)(j:bC):Prop where
 r:j.rings.length<=1000
 rk:∀k,(j.rings.getD k []).length<=1000
 o:j.openings.length<=n
 z:j.sizes.length<=n
 b:j.bars.length<=n
 l:j.aH.length<=n
 s:j.spans.length<=n
 u:j.purlins.length<=n
def Fa.mono{m n:Nat}{j:bC}(h:Fa m j)(hn:m<=n):Fa n j:=
 ⟨h.r,h.rk,VB h.o hn,VB h.z hn,VB h.b hn,VB h.l hn,VB h.s hn,VB h.u hn⟩
def Fa.ln{n:Nat}{j:bC}(h:Fa n j)(hn:n<=1000000):Mn j:=
 ⟨h.r,h.rk,VB h.o hn,VB h.z hn,VB h.b hn,VB h.l hn,VB h.s hn,VB h.u hn⟩
def uH.l{j:bC}(h:uH j):Fa 4100 j:=
 ⟨h.ln.r,h.ln.rk,by have:=h.o;omega,by have:=h.gr.z;omega,by have:=h.gr.b.n;omega,by have:=h.gr.l.n;omega,by have:=h.gr.s.n;omega,by have:=h.gr.u;omega⟩
def sR{α:Type}(l:List α)(i:Int)(x:α):(cG l i x).length<=l.length+1:=by
 unfold cG;split <;>simp
def Gt{α:Type}(l:List α)(i:Nat)(x:α):(dt l i x).length<=l.length+1:=by
 unfold dt;simp;omega
def mg{α:Type}(l:List α)(i:Nat):(l.eraseIdx i).length<=l.length:=by
 rw[List.length_eraseIdx];split <;>omega
def MJ(l:List Aw)(x:Aw):(yF l x).length<=l.length+1:=by
 unfold yF;split <;>first|(simp;done)|(exact Gt _ _ _)|(simp;omega)
def Fa.TH{n:Nat}{j:bC}{e:Ed}(h:Fa n j):Fa (n+1) (dK j e):=by
 obtain⟨r,rk,o,z,b,l,s,u⟩:=h.mono (Nat.le_succ n);have hn:=h;have hj:Fa (n+1) j:=⟨r,rk,o,z,b,l,s,u⟩;unfold dK Is
 repeat' refine Ri (P:=Fa (n+1)) (λ_=> ?_) (λ_=> ?_)
 all_goals first
  |exact hj
  |exact⟨r,rk,o,z,b,l,s,u⟩
  |exact⟨by show(fh _ _ _).length<=_;rw[j8];exact r,λk=>by
    show((fh _ _ _).getD k []).length<=_;by_cases hk:k<j.rings.length
    ·rw[tY _ _ _ hk,tW];exact rk k
    ·rw[Vn,List.getElem?_eq_none (by rw[j8];omega)];exact Nat.zero_le _,o,z,b,l,s,u⟩
  |exact⟨r,rk,o,z,b,l,s,VB (Gt _ _ _) (Nat.succ_le_succ hn.u)⟩
  |exact⟨r,rk,VB (sR _ _ _) (Nat.succ_le_succ hn.o),z,b,l,s,u⟩
  |exact⟨r,rk,o,VB (sR _ _ _) (Nat.succ_le_succ hn.z),b,l,s,u⟩
  |exact⟨r,rk,o,z,VB (sR _ _ _) (Nat.succ_le_succ hn.b),l,s,u⟩
  |exact⟨r,rk,o,z,b,VB (sR _ _ _) (Nat.succ_le_succ hn.l),s,u⟩
  |exact⟨r,rk,o,z,b,l,VB (MJ _ _) (Nat.succ_le_succ hn.s),u⟩
  |exact⟨r,rk,o,z,b,l,s,VB (mg _ _) u⟩
  |exact⟨r,rk,VB (mg _ _) o,z,b,l,s,u⟩
  |exact⟨r,rk,o,VB (mg _ _) z,b,l,s,u⟩
  |exact⟨r,rk,o,z,VB (mg _ _) b,l,s,u⟩
  |exact⟨r,rk,o,z,b,VB (mg _ _) l,s,u⟩
  |exact⟨r,rk,o,z,b,l,VB (mg _ _) s,u⟩
noncomputable def mi(j:bC)(e:Ed)(u:Bool):bC:=if u=Vv then j else if wL j e=0 then wh j e else j
noncomputable def bT(es:List Ed)(us:List Bool)(j:bC):Nat->bC
 |0=>j
 |n+1=>mi (bT es us j n) (es.getD n dM) (us.getD n Vp)
noncomputable def ue(j:bC)(e:Ed)(u:Bool):Bool:= !u&&decide (wL j e≠0)
noncomputable def qE(es:List Ed)(us:List Bool)(j:bC):Nat->List Nat
 |0=>[]
 |n+1=>if ue (bT es us j n) (es.getD n dM) (us.getD n Vp)=Vv then qE es us j n++[n] else qE es us j n
def Nr{j:bC}{e:Ed}(h:wL j e=0):mO (wh j e)=0/\wh j e=dK j e:=by
 have h2:wh j e=dK j e:=by unfold wh;rw[if_pos h]
 refine⟨?_,h2⟩;rw[h2];unfold wL at h;split at h
 ·cases h
 ·split at h
  ·rename_i h3;exact absurd h h3
  ·split at h
   ·rename_i h3;exact absurd h h3
   ·exact h
def Qx{es:List Ed}{us:List Bool}{j:bC}(h:mO j=0):∀n,mO (bT es us j n)=0:=by
 intro n
 induction n with
 |zero=>exact h
 |succ n ih=>
  show mO (mi _ _ _)=0;unfold mi;split
  ·exact ih
  ·split
   ·rename_i h2;exact(Nr h2).1
   ·exact ih
def FV{es:List Ed}{us:List Bool}{j:bC}{m:Nat}(h1:nL j)(h2:Fa m j)(hg:∀i,i<es.length->dA (es.getD i dM)=Vp):∀n,n<=es.length->nL (bT es us j n)/\Fa (m+n) (bT es us j n):=by
 intro n
 induction n with
 |zero=>exactλ_=>⟨h1,h2⟩
 |succ n ih=>
  intro hn;obtain⟨a,b⟩:=ih VY;have hb:=b.mono (Nat.le_succ (m+n));show nL (mi _ _ _)/\Fa (m+n+1) (mi _ _ _);unfold mi;split
  ·exact⟨a,hb⟩
  ·split
   ·rename_i h3;rw[(Nr h3).2];exact⟨a.TH (hg n VY),b.TH⟩
   ·exact⟨a,hb⟩
def Cr(es:List Ed)(us:List Bool)(j:bC)(k:Nat):∀m,bT es us j (k+m)=bT (es.drop k) (us.drop k) (bT es us j k) m:=by
 intro m
 induction m with
 |zero=>rfl
 |succ m ih=>
  show mi (bT es us j (k+m)) (es.getD (k+m) dM) (us.getD (k+m) Vp)=mi (bT (es.drop k) (us.drop k) (bT es us j k) m) _ _;rw[ih];simp only[Vn,List.getElem?_drop]
def LI(es:List Ed)(us:List Bool)(j:bC)(k:Nat):∀m,qE es us j (k+m)=qE es us j k++(qE (es.drop k) (us.drop k) (bT es us j k) m).map (λi=>i+k):=by
 intro m
 induction m with
 |zero=>simp[qE]
 |succ m ih=>
  have e1:ue (bT (es.drop k) (us.drop k) (bT es us j k) m) ((es.drop k).getD m dM) ((us.drop k).getD m Vp)=ue (bT es us j (k+m)) (es.getD (k+m) dM) (us.getD (k+m) Vp):=by
   rw[Cr];simp only[Vn,List.getElem?_drop]
  show(if ue (bT es us j (k+m)) (es.getD (k+m) dM) (us.getD (k+m) Vp)=Vv then qE es us j (k+m)++[k+m] else qE es us j (k+m))=_++List.map _ (if ue (bT (es.drop k) (us.drop k) (bT es us j k) m) ((es.drop k).getD m dM) ((us.drop k).getD m Vp)=Vv then qE (es.drop k) (us.drop k) (bT es us j k) m++[m] else qE (es.drop k) (us.drop k) (bT es us j k) m);rw[e1,ih];split
  ·rw[List.map_append,List.append_assoc,List.map_singleton,Nat.add_comm k m]
  ·rfl
def xu{es:List Ed}{us:List Bool}{j:bC}{k:Nat}:∀n,n<=k->bT (es.take k) (us.take k) j n=bT es us j n/\qE (es.take k) (us.take k) j n=qE es us j n:=by
 intro n
 induction n with
 |zero=>exactλ_=>⟨rfl,rfl⟩
 |succ n ih=>
  intro hn;obtain⟨a,b⟩:=ih VY;have e1:(es.take k).getD n dM=es.getD n dM:=by simp only[Vn,List.getElem?_take,if_pos (show n<k by omega)]
  have e2:(us.take k).getD n Vp=us.getD n Vp:=by simp only[Vn,List.getElem?_take,if_pos (show n<k by omega)]
  constructor
  ·show mi _ _ _=mi _ _ _;rw[a,e1,e2]
  ·show(if ue _ _ _=Vv then _ else _)=(if ue _ _ _=Vv then _ else _);rw[a,b,e1,e2]
end
section
open Kp
def eU(w:Vl)(B:Nat)(A:Option VM)(cap:Nat)(l:List Ed):Prop:=
 l.length<=cap/\cap<=VJ/\(0<l.length->∃b off,A=Vq ⟨b,off,Vo⟩/\b<B/\∀i,i<l.length->∃ga gc,w.rangeAt b (off+37*i) (aL (l.getD i dM) (VQ ga (l.getD i dM).gaps.length gc)).toList/\cj w B ga gc (l.getD i dM).gaps)
def oZ{w w':Vl}{B b o:Nat}{cs:List Vr}(h:w.rangeAt b o cs)(hb:VL B w w')(hB:b<B):w'.rangeAt b o cs:=
 λj v hv=>(hb.cell hB).trans (h j v hv)
def eU.below{w w':Vl}{B:Nat}{A:Option VM}{cap:Nat}{l:List Ed}(h:eU w B A cap l)(hb:VL B w w'):eU w' B A cap l:=by
 refine⟨h.1,h.2.1,λh0=> ?_⟩;obtain⟨b,off,e,hB,hc⟩:=h.2.2 h0;refine⟨b,off,e,hB,λi hi=> ?_⟩;obtain⟨ga,gc,h1,h2⟩:=hc i hi;exact⟨ga,gc,oZ h1 hb hB,h2.below hb⟩
def eU.more{w:Vl}{B B':Nat}{A:Option VM}{cap:Nat}{l:List Ed}(h:eU w B A cap l)(hb:B<=B'):eU w B' A cap l:=by
 refine⟨h.1,h.2.1,λh0=> ?_⟩;obtain⟨b,off,e,hB,hc⟩:=h.2.2 h0;refine⟨b,off,e,VY,λi hi=> ?_⟩;obtain⟨ga,gc,h1,h2⟩:=hc i hi;exact⟨ga,gc,h1,h2.more hb⟩
def eU.grow{w w':Vl}{A:Option VM}{cap:Nat}{l:List Ed}(h:eU w w.heap.size A cap l)(hx:Ext w w'):eU w' w'.heap.size A cap l:=(h.below hx).more hx.size
def eU.at{w:Vl}{B:Nat}{A:Option VM}{cap:Nat}{l:List Ed}(h:eU w B A cap l)(h0:0<l.length):∃(b off:Nat) (f:Nat->Option VM×Nat),A=Vq ⟨b,off,Vo⟩/\b<B/\
  ∀i,i<l.length->w.rangeAt b (off+37*i) (aL (l.getD i dM) (VQ (f i).1 (l.getD i dM).gaps.length (f i).2)).toList/\cj w B (f i).1 (f i).2 (l.getD i dM).gaps:=by
 obtain⟨b,off,e,hB,hc⟩:=h.2.2 h0;refine⟨b,off,λi=>if hi:i<l.length then(Classical.choose (hc i hi),Classical.choose (Classical.choose_spec (hc i hi))) else(Vo,0),e,hB,λi hi=> ?_⟩;simp only[dif_pos hi];exact Classical.choose_spec (Classical.choose_spec (hc i hi))
def getD_take{α:Type}{l:List α}{n i:Nat}{d:α}(h:i<n):(l.take n).getD i d=l.getD i d:=by
 rw[Vn,List.getElem?_take_of_lt h,<-Vn]
def getD_drop{α:Type}{l:List α}{n i:Nat}{d:α}:(l.drop n).getD i d=l.getD (n+i) d:=by
 rw[Vn,List.getElem?_drop,<-Vn]
def eU.take{w:Vl}{B:Nat}{A:Option VM}{cap:Nat}{l:List Ed}(h:eU w B A cap l){n:Nat}(hn:n<=l.length):eU w B A cap (l.take n):=by
 have hl:(l.take n).length=n:=WK;have h1:=h.1;refine⟨VY,h.2.1,λh0=> ?_⟩;obtain⟨b,off,e,hB,hc⟩:=h.2.2 VY;refine⟨b,off,e,hB,λi hi=> ?_⟩;rw[getD_take VY];exact hc i VY
abbrev cU(l:List Bool):List (List Vr):=l.map λb=>[VS b]
structure Log where
 start:bC
 edits:List Ed
 undone:List Bool
structure kT where
 ja:dq
 ea:Option VM
 ec:Nat
 ua:Option VM
 uc:Nat
def cW(l:Log)(a:kT):Array Vr:=#[VR (tx l.start.name),VQ a.ja.pa l.start.rings.length a.ja.pc,VU VA l.start.origin,VU VA l.start.spacing,VQ a.ja.ua l.start.purlins.length a.ja.uc,VQ a.ja.oa l.start.openings.length a.ja.oc,VQ a.ja.za l.start.sizes.length a.ja.zc,VQ a.ja.ba l.start.bars.length a.ja.bc,VU VA l.start.kerf,VU VA l.start.tile.width,VU VA l.start.tile.length,VU VA l.start.tile.lap,VU VA l.start.tile.tail,VQ a.ja.la l.start.aH.length a.ja.lc,VQ a.ja.sa l.start.spans.length a.ja.sc,VQ a.ea l.edits.length a.ec,VQ a.ua l.undone.length a.uc]
def fT(l:Log)(a:kT):(cW l a).size=17:=rfl
def iP(l:Log)(a:kT):(cW l a)[15]?=Vq (VQ a.ea l.edits.length a.ec):=rfl
def iw(l:Log)(a:kT):(cW l a)[16]?=Vq (VQ a.ua l.undone.length a.uc):=rfl
def Su(l:Log)(a:kT){i:Nat}(h:i<15):(cW l a)[i]?=(bZ l.start a.ja)[i]?:=by
 rcases(show i=0\/i=1\/i=2\/i=3\/i=4\/i=5\/i=6\/i=7\/i=8\/i=9\/i=10\/i=11\/i=12\/i=13\/i=14 by omega) with h|h|h|h|h|h|h|h|h|h|h|h|h|h|h<;>subst h<;>rfl
def LC(w:Vl)(c:Nat)(l:Log)(a:kT):Prop:=w.heap[c]?=Vq (.cells (cW l a) 38 (0,0))
def LC.ext{w w':Vl}{c:Nat}{l:Log}{a:kT}(h:LC w c l a)(hx:Ext w w'):LC w' c l a:=(hx.block c (Vz.1 h).1).trans h
def LC.lt{w:Vl}{c:Nat}{l:Log}{a:kT}(h:LC w c l a):c<w.heap.size:=(Vz.1 h).1
def LC.cell{w:Vl}{c:Nat}{l:Log}{a:kT}(h:LC w c l a)(i:Nat):w.cell? ⟨c,i,Vo⟩=(cW l a)[i]?:=by unfold LC at h;simp[World.cell?,h]
def LC.start{w:Vl}{c:Nat}{l:Log}{a:kT}(h:LC w c l a):w.rangeAt c 0 (bZ l.start a.ja).toList:=by
 intro j v hv;have hj:j<15:=(List.getElem?_eq_some_iff.1 hv).1;rw[Nat.zero_add,h.cell,Su l a hj];simpa using hv
structure gT(w:Vl)(B:Nat)(l:Log)(a:kT):Prop where
 j:eC w B l.start a.ja
 e:eU w B a.ea a.ec l.edits
 u:bK 1 w B a.ua a.uc (cU l.undone)
def gT.below{w w':Vl}{B:Nat}{l:Log}{a:kT}(h:gT w B l a)(hb:VL B w w'):gT w' B l a:=⟨h.j.below hb,h.e.below hb,h.u.below hb⟩
def gT.more{w:Vl}{B B':Nat}{l:Log}{a:kT}(h:gT w B l a)(hb:B<=B'):gT w B' l a:=⟨h.j.more hb,h.e.more hb,h.u.more hb⟩
def gT.grow{w w':Vl}{l:Log}{a:kT}(h:gT w w.heap.size l a)(hx:Ext w w'):gT w' w'.heap.size l a:=(h.below hx).more hx.size
def jD{ops:Array Oper}{rest:List Oper}{o:Oper}{a:Act}{w:Vl}{Q:Exit->Act->Vl->Prop}(hgd:o.guard=Vo)(x:Operand)(ho:o.op= .load 68 x)
  (b p:Nat)(hx:a.eval x=VT (Vq ⟨b,p,Vo⟩))(e:Ed)(g:Vr)(hc:w.rangeAt b p (aL e g).toList)
  (h:wpList prog ops Q rest (a.put o.dst (VW (aL e g))) w):wpList prog ops Q (o::rest) a w:=
 wpList_load_mid hgd _ x ho b p hx (aL e g).toList _ hc underlying68 rfl VZ h
def cz{ops:Array Oper}{rest:List Oper}{o:Oper}{a:Act}{w:Vl}{Q:Exit->Act->Vl->Prop}(hw:Region.wanted o (yielded ops a.tmps)=Vv)(x:Operand)(ho:o.op= .load 34 x)
  (b p:Nat)(hx:a.eval x=VT (Vq ⟨b,p,Vo⟩))(j:bC)(d:dq)(hc:w.rangeAt b p (bZ j d).toList)
  (h:wpList prog ops Q rest (a.put o.dst (VW (bZ j d))) w):wpList prog ops Q (o::rest) a w:=
 wpList_step λ_ hK=>by
  rw[if_pos hw];exact wp_load_mid _ x ho b p hx (bZ j d).toList _ hc underlying34 rfl VZ (hK _ _ h)
end
section
open Kp Go.ChangeShapes Go.WideShapes Go.Deep
def Ic:prog.cellsOf 38=17:=VZ
def Iy:prog.cellsOf 35=1:=VZ
def Jk:prog.cellsOf 36=1:=VZ
section
variable {H : Type} {enc : VK × Vr → H} {w : Vl} {base : Nat} {sp : Nat → Bool} {held : Bool}
def CX{n:Nat}{c:Vr}{x:DataW H×List MemPlace}(h:DataW.trod enc prog w base sp held n 36 [c]=Vq x):
  ∃(A:Option VM) (cap:Nat) (l:List Bool),c= .slice A l.length cap/\bK 1 w w.heap.size A cap (cU l):=by
 obtain⟨A,cap,l,h1,h2,_⟩:=eF underlying36 B9 V0 (λb:Bool=>[Vr.bool b]) Vp (λ_ _=>True) (λn cs y hl ht=>by
  match cs,hl with
  |[c],_=>obtain⟨k,rfl⟩:=Rk ht;exact⟨k,rfl,trivial⟩) h
 exact⟨A,cap,l,h1,h2⟩
def Fs{n:Nat}{c:Vr}{x:DataW H×List MemPlace}(h:DataW.trod enc prog w base sp held n 35 [c]=Vq x):
  ∃(A:Option VM) (cap:Nat) (l:List Ed),c= .slice A l.length cap/\eU w w.heap.size A cap l/\∀e∈l,bj e.index:=by
 obtain⟨A,cap,l,h1,⟨h2,h3,h4⟩,ds,h5,_,h7⟩:=eF underlying35 xK V0 (λt:Ed×Option VM×Nat=>(aL t.1 (.slice t.2.1 t.1.gaps.length t.2.2)).toList) (dM,Vo,0) (λt _=>cj w w.heap.size t.2.1 t.2.2 t.1.gaps/\bj t.1.index) (λn cs y hl ht=>by
  obtain⟨e,ga,gc,he,hg,_,hi⟩:=vk hl ht;exact⟨(e,ga,gc),he,hg,hi⟩) h
 have e1:∀i,i<l.length->(l.map (·.1)).getD i dM=(l.getD i (dM,Vo,0)).1:=λi hi=>by
  rw[Vn,Vn,List.getElem?_map,Vt hi];rfl
 refine⟨A,cap,l.map (·.1),by rw[Vu];exact h1,⟨by rw[Vu];simpa using h2,h3,λh0=> ?_⟩,λe he=> ?_⟩
 ·rw[Vu] at h0;obtain⟨b,off,e,hb,hc⟩:=h4 XE;refine⟨b,off,e,hb,λi hi=> ?_⟩;rw[Vu] at hi;refine⟨(l.getD i (dM,Vo,0)).2.1,(l.getD i (dM,Vo,0)).2.2,λj v hv=> ?_,?_⟩
  ·rw[e1 i hi] at hv;have hj:j<37:=(List.getElem?_eq_some_iff.1 hv).1;rw[hc i Xi j hj,<-hv]
   congr 1
   rw[Vn,Vn,List.getElem?_map,Vt hi];rfl
  ·rw[e1 i hi];exact(h7 i (ds[i]'VY) (Vt VY)).1
 ·obtain⟨i,hi,rfl⟩:=List.mem_iff_getElem.1 he;rw[Vu] at hi;have:=(h7 i (ds[i]'VY) (Vt VY)).2;rw[<-e1 i hi,Vn,Vt Xi] at this;exact this
def ur{r:Reach}{b0:Nat}{v:Vr}{d:DataW H}{p:List MemPlace}(hv:Vr.okWide prog w r b0 38 v)(h:DataW.Trod enc prog w base sp held 38 v d p):
  ∃(l:Log) (a:kT),v= .agg (cW l a)/\gT w w.heap.size l a/\l.start.rings.flatten.length<=Rows.uptoBulk d/\∀e∈l.edits,bj e.index:=by
 obtain⟨cs,rfl,hsz⟩:=okWide_struct underlying38 hv;obtain⟨l⟩:=cs;have hl:l.length=17:=hsz.trans Ic;clear hsz hv;obtain⟨fuel,hf⟩:=h;obtain⟨xs,m,_,hx,_,hlen,hg⟩:=DataW.trod_struct underlying38 hf;obtain⟨y0,hy0,g0⟩:=gK hlen hg 0 Js rfl rfl;obtain⟨y1,hy1,g1⟩:=gK hlen hg 1 Iy rfl rfl;obtain⟨y2,hy2,g2⟩:=gK hlen hg 2 Jk rfl rfl;have k1:(l.drop 15).take 1=[l[15]'VY]:=by
  rw[List.drop_eq_getElem_cons VY];rfl
 have k2:(l.drop 16).take 1=[l[16]'VY]:=by
  rw[List.drop_eq_getElem_cons VY];rfl
 obtain⟨j,a,hj,hja,hb⟩:=Iw (l:=l.take 15) WK g0;have g1':DataW.trod enc prog w base sp held m 35 [l[15]'VY]=Vq y1:=k1▸g1;have g2':DataW.trod enc prog w base sp held m 36 [l[16]'VY]=Vq y2:=k2▸g2;obtain⟨ea,ec,es,he,hea,hix⟩:=Fs g1';obtain⟨ua,uc,us,hu,hua⟩:=CX g2';have hl2:l=(cW ⟨j,es,us⟩ ⟨a,ea,ec,ua,uc⟩).toList:=by
  have q:l=l.take 15++(l.drop 15):=(List.take_append_drop 15 l).symm;rw[List.drop_eq_getElem_cons VY,List.drop_eq_getElem_cons VY,List.drop_of_length_le VY,he,hu] at q;rw[q,show l.take 15=(bZ j a).toList from hj]
  rfl
 refine⟨⟨j,es,us⟩,⟨a,ea,ec,ua,uc⟩,by rw[hl2,Hp],⟨hja,hea,hua⟩,?_,hix⟩;have b1:=vS (List.mem_map.2 ⟨y0,List.mem_of_getElem? hy0,rfl⟩:y0.1∈xs.map (·.1));have d2:d= .agg (xs.map (·.1)):=(Prod.mk.inj hx).1;rw[d2];simp only[Rows.uptoBulk];show j.rings.flatten.length<=_;omega
end
end
section
open Kp
def Qy{j:bC}(h:mO j=0):j.openings.length<=32:=by
 by_cases h32:j.openings.length<=32
 ·exact h32
 ·exfalso;have hc:nW j.rings j.openings≠0:=by
   unfold nW;have hd:lE j.openings=(Vp,4):=by unfold lE;rw[if_pos VY]
   rw[hd,if_pos V0];decide
  unfold mO at h
  repeat' split at h
  all_goals first|contradiction|omega
structure jC(es:List Ed)(us:List Bool)(j:bC)(m:Nat):Prop where
 sm:nL j
 ln:Fa m j
 mx:m+es.length<=1000000
 gr:∀i,i<es.length->dA (es.getD i dM)=Vp
 ix:∀i,i<es.length->(es.getD i dM).index<=9223372036854775807
 ok:mO j=0
 eq:us.length=es.length
 Oy:es.length<=4096
def jC.ap{es:List Ed}{us:List Bool}{j:bC}{m:Nat}(h:jC es us j m){i:Nat}(hi:i<es.length):Je (bT es us j i) (es.getD i dM):=by
 obtain⟨a,b⟩:=FV (us:=us) h.sm h.ln h.gr i (Nat.le_of_lt hi);have:=h.mx;exact⟨a,b.ln VY,a.TH (h.gr i hi),h.ix i hi⟩
def jC.take{es:List Ed}{us:List Bool}{j:bC}{m:Nat}(h:jC es us j m){k:Nat}(hk:k<=es.length):jC (es.take k) (us.take k) j m:=by
 have hl:(es.take k).length=k:=WK;have h1:=h.mx;have h2:=h.eq;have h3:=h.Oy;refine⟨h.sm,h.ln,VY,λi hi=> ?_,λi hi=> ?_,h.ok,WK,VY⟩
 ·rw[getD_take VY];exact h.gr i VY
 ·rw[getD_take VY];exact h.ix i VY
def jC.drop{es:List Ed}{us:List Bool}{j:bC}{m:Nat}(h:jC es us j m){k:Nat}(hk:k<=es.length):jC (es.drop k) (us.drop k) (bT es us j k) (m+k):=by
 have hl:(es.drop k).length=es.length-k:=List.length_drop;obtain⟨a,b⟩:=FV (us:=us) h.sm h.ln h.gr k hk;have h1:=h.mx;have h2:=h.eq;have h3:=h.Oy;refine⟨a,b,VY,λi hi=> ?_,λi hi=> ?_,Qx h.ok k,by rw[List.length_drop];omega,VY⟩
 ·rw[getD_drop];exact h.gr _ VY
 ·rw[getD_drop];exact h.ix _ VY
structure S8(l:Log):Prop where
 j:yQ l.start
 e:∀i,i<l.edits.length->dA (l.edits.getD i dM)=Vp
 n:l.edits.length<=6
 u:l.undone.length<=6
structure Nu(l:Log):Prop where
 gr:S8 l
 ok:mO l.start=0
 eq:l.undone.length=l.edits.length
def Nu.fi{l:Log}(h:Nu l):uH l.start:=⟨h.gr.j,Qy h.ok⟩
def Nu.rp{l:Log}(h:Nu l)(hx:∀e∈l.edits,bj e.index):jC l.edits l.undone l.start 4100:=by
 have:=h.gr.n;refine⟨h.fi.sm,h.fi.l,VY,h.gr.e,λi hi=> ?_,h.ok,h.eq,VY⟩;rw[Vn,Vt hi];exact(hx _ (List.getElem_mem hi)).2
noncomputable def eG(es:List Ed)(us:List Bool)(j:bC)(n:Nat):List Int:=(qE es us j n).map (λ(i:Nat)=>(i:Int))
end
section
open Kp
theorem mu{P:Program}(w:Vl)(base:Nat)(t ty e:VK)(i:TypeInfo)(z:Vr)(size bytes:Nat)(ht:P.underlying t=Vq (.slice e))(hi:P.info? e=Vq i)(hz:i.zero=Vq z)
  (hsize:i.size=size)(hby:i.bytes=bytes)(hzs:z.cells.size=size)(hsz:0<size)(v:Vr)(n:Nat)(xs:List Vr)(hown:w.ownsRow base e size v n xs)
  (a:VM)(m c:Nat)(news:List Vr)(hl:news.length=m*size)(hnews:∀j u,news[j]?=Vq u→w.cell? (a.add j)=Vq u)(h1:∀u∈news,u.oneCell'=Vv)
  (h63:n+m≤VJ)(hbytes:(n+m)*bytes≤140737488355328)(hbase:base≤w.heap.size):
  ∃v' w',(Builtin.append_ #[t,t] ty #[v,.slice (Vq a) m c]).run P w= .ok v' w'∧w'.ownsRow base e size v' (n+m) (xs++news)∧w.grownBy w' v.ownBlock∧∀k,v'.ownBlock=Vq k→v.ownBlock=Vq k∨w.heap.size≤k:=by
 obtain⟨v',w',hr,h2,h3,_⟩:=run_append_own (P:=P) w base t ty e i z size bytes ht hi hz hsize hby hzs hsz v n xs hown a m c news hl hnews h1 h63 hbytes hbase
 refine⟨v',w',hr,h2,h3,fun k hk=> ?_⟩
 rcases hown.2 with⟨rfl,rfl⟩|⟨g,cap,cur,rfl,hbg,hg,hnc,hcm,hcs,htake⟩
 ·obtain⟨v2,w2,hr2,h22,_⟩:=run_append_own (P:=P) w w.heap.size t ty e i z size bytes ht hi hz hsize hby hzs hsz (.slice Vo 0 0) 0 [] (World.ownsRow_nil w _ e size) a m c news hl hnews h1 h63 hbytes (Vm _)
  rw[hr] at hr2
  injection hr2 with e1 e2
  subst e1 e2
  exact .inr (h22.lt k hk).1
 ·by_cases hroom:n+m≤cap
  ·have hfit:n*i.size+news.length≤cur.size:=by rw[hl,hcs,hsize,←Nat.add_mul];exact Nat.mul_le_mul_right _ hroom
   have hr2:=run_append_room (P:=P) w t ty e i ht hi g n cap cur hg a m c news (by rw[hsize];exact hl) hnews h1 hroom hfit
   rw[hr] at hr2
   injection hr2 with e1 e2
   subst e1
   exact .inl hk
  ·have holds:∀j u,xs[j]?=Vq u→w.cell? ((⟨g,0,Vo⟩:VM).add j)=Vq u:=hown.cells (g:=g) rfl
   have h63':=h63
   simp only[VJ] at h63'
   have hr2:=run_append_grow (P:=P) w t ty e i z ht hi hz ⟨g,0,Vo⟩ n cap xs (by rw[hsize];exact hown.1) holds a m c news (by rw[hsize];exact hl) hnews (by omega) (by omega) (growslice_fits (by omega) (by rw[hby];exact hbytes))
   rw[hr] at hr2
   injection hr2 with e1 e2
   subst e1
   simp[Value.ownBlock] at hk
   exact .inr (by omega)
theorem jJ{P:Program}{w:Vl}{ops:Array Oper}{rest:List Oper}{o:Oper}{a:Act}{Q:Exit→Act→Vl→Prop}(hgd:o.guard=Vo)(s x:Operand)(t:VK)
  (ho:o.op= .call {callee:= .builtin .append,args:=#[s,x],argTypes:=#[t,t]})
  (base:Nat)(e:VK)(i:TypeInfo)(z:Vr)(size bytes:Nat)(ht:P.underlying t=Vq (.slice e))(hi:P.info? e=Vq i)(hz:i.zero=Vq z)
  (hsize:i.size=size)(hby:i.bytes=bytes)(hzs:z.cells.size=size)(hsz:0<size)
  (v:Vr)(n:Nat)(xs:List Vr)(hs:a.eval s=v)(hown:w.ownsRow base e size v n xs)
  (ad:VM)(m c:Nat)(news:List Vr)(hx:a.eval x= .slice (Vq ad) m c)(hl:news.length=m*size)(hnews:∀j u,news[j]?=Vq u→w.cell? (ad.add j)=Vq u)(h1:∀u∈news,u.oneCell'=Vv)
  (h63:n+m≤VJ)(hbytes:(n+m)*bytes≤140737488355328)(hbase:base≤w.heap.size)
  (h:∀v' w',w'.ownsRow base e size v' (n+m) (xs++news)→w.grownBy w' v.ownBlock→(∀k,v'.ownBlock=Vq k→v.ownBlock=Vq k∨w.heap.size≤k)→wpList P ops Q rest (a.put o.dst v') w'):wpList P ops Q (o::rest) a w:=by
 obtain⟨v',w',hr,h2,h3,h4⟩:=mu (P:=P) w base t o.type e i z size bytes ht hi hz hsize hby hzs hsz v n xs hown ad m c news hl hnews h1 h63 hbytes hbase
 refine wpList_plain hgd fun _ hK=> ?_
 unfold Oper.wp execOp
 simp only[ho,resolve,invoke,builtin,Sem.run_bind,Sem.run_pure,Result.andThen_ok,List.map_toArray,List.map_cons,List.map_nil,hs,hx,hr]
 exact hK _ _ (h v' w' h2 h3 h4)
def size_setRow(W:Vl)(c:Nat)(cs:Array Vr):(W.setRow c cs).heap.size=W.heap.size:=by simp[World.setRow]
def mn(W:Vl){c b:Nat}(cs:Array Vr)(h:b≠c):(W.setRow c cs).heap[b]?=W.heap[b]?:=by
 simp only[World.setRow,Array.getElem?_modify];rw[if_neg (Ne.symm h)]
def eL.row{S:Nat->Prop}{W:Vl}{j:bC}{a:dq}(h:eL S W W.heap.size j a){c:Nat}(hc:S c)(cs:Array Vr):eL S (W.setRow c cs) (W.setRow c cs).heap.size j a:=by
 have hs:=size_setRow W c cs;have hn:∀b,¬S b->(W.setRow c cs).heap[b]?=W.heap[b]?:=λb hb=>mn W cs (λe=>hb (e▸hc))
 exact⟨h.av _ ⟨VY,λb _ hb=>hn b hb⟩,λV hO=>h.av V ⟨by have:=hO.1;omega,λb hb hx=>(hO.2 b VY hx).trans (hn b hx)⟩⟩
def eL.grown{S:Nat->Prop}{w w':Vl}{v v':Vr}{j:bC}{a:dq}(h:eL (λb=>S b\/v.ownBlock=Vq b) w w.heap.size j a)(hg:w.grownBy w' v.ownBlock)(hv:∀k,v'.ownBlock=Vq k->v.ownBlock=Vq k\/w.heap.size<=k):
  eL (λb=>S b\/v'.ownBlock=Vq b) w' w'.heap.size j a:=by
 have hs:=hg.size;refine⟨h.av w' ⟨hs,λb hb hn=>hg.block b hb (λe=>hn (.inr e.symm))⟩,λW hO=>h.av W ⟨VB hs hO.1,λb hb hn=>(hO.2 b VY (λq=> ?_)).trans (hg.block b hb (λe=>hn (.inr e.symm)))⟩⟩;rcases q with q|q
 ·exact hn (.inl q)
 ·rcases hv b q with e|e
  ·exact hn (.inr e)
  ·omega
def JC.row{W:Vl}{b c:Nat}{j:bC}{a:dq}(h:JC W b j a)(hne:b≠c)(cs:Array Vr):JC (W.setRow c cs) b j a:=(mn W cs hne).trans h
def uy{w:Vl}{B n k q:Nat}{t t':VK}{V:Vr}{xs:List Vr}{ds:Array Vr}(h:w.ownsRow B t k V n xs)(hq:w.heap[q]?=Vq (.cells ds t' (0,0)))(hne:t≠t')(cs:Array Vr):(w.setRow q cs).ownsRow B t k V n xs:=
 Du h (.inr (lZ h hq hne)) cs
def JC.grown{w w':Vl}{b:Nat}{j:bC}{a:dq}(h:JC w b j a){base n s:Nat}{e:VK}{v:Vr}{xs:List Vr}(ho:w.ownsRow base e s v n xs)(hg:w.grownBy w' v.ownBlock)(hne:e≠34):JC w' b j a:=
 (hg.block b h.lt (λq=>lZ ho h hne q.symm)).trans h
end
section
open Kp
attribute [local go_sem] bF aS fT iP iw
def AF{fn:Func}{p u v:Tmp}(h:fn.results=#[.cell p 34,.tmp u,.tmp v])(tmps:Array Vr)(w:Vl)(g:Nat)(cs:Array Vr)
  (hp:tmps.getD p Vs=VT (Vq ⟨g,0,Vo⟩))(hg:w.heap[g]?=Vq (.cells cs 34 (0,0)))(hi:(prog.info? 34).map (·.size)=Vq cs.size):
  (results fn tmps).run prog w= .ok (VX #[VW cs,tmps.getD u Vs,tmps.getD v Vs]) w:=by
 have hp':tmps[p]?.getD Vs=VT (Vq ⟨g,0,Vo⟩):=by simpa using hp
 have hl:=run_loadVar_row (P:=prog) w g 34 34 cs (0,0) _ hg underlying34 rfl hi;simp[results,h,hp',asAddr,hl,Result.andThen]
def qi(es:List Ed)(us:List Bool)(j:bC)(k:Nat):eG es us j (k+1)=if ue (bT es us j k) (es.getD k dM) (us.getD k Vp)=Vv then eG es us j k++[(k:Int)] else eG es us j k:=by
 unfold eG;show(if _ then _ else _:List Nat).map _=_;split <;>simp_all
def vm(es:List Ed)(us:List Bool)(j:bC):∀k,(qE es us j k).length<=k:=by
 intro k
 induction k with
 |zero=>exact Vm _
 |succ k ih=>
  show(if _ then _ else _:List Nat).length<=_;split
  ·rw[VD,List.length_singleton];omega
  ·omega
def UK(X:Nat->Prop)(c:Nat)(b:Nat):Prop:=X b\/b=c\/b=c+1
structure Gs(X:Nat->Prop)(w:Vl)(es:List Ed)(us:List Bool)(j:bC)(k:Nat)(lf:Vr)(wr:Vl):Prop where
 ext:Ext w wr
 big:w.heap.size+2<=wr.heap.size
 mem:∃aj,JC wr w.heap.size (bT es us j k) aj/\eL (λb=>UK X w.heap.size b\/lf.ownBlock=Vq b) wr wr.heap.size (bT es us j k) aj
 res:JC wr (w.heap.size+1) iM iO
 own:wr.ownsRow (w.heap.size+2) 3 1 lf (eG es us j k).length (aX (eG es us j k)).flatten
def Gs.same{X:Nat->Prop}{w:Vl}{es:List Ed}{us:List Bool}{j:bC}{k:Nat}{lf:Vr}{wr W:Vl}(h:Gs X w es us j k lf wr)(hx:Ext wr W)(hu:us.getD k Vp=Vv):Gs X w es us j (k+1) lf W:=by
 have e1:bT es us j (k+1)=bT es us j k:=by show mi _ _ _=_;unfold mi;rw[if_pos hu]
 have e2:eG es us j (k+1)=eG es us j k:=by rw[qi];unfold ue;rw[hu];rfl
 obtain⟨aj,h1,h2⟩:=h.mem;exact⟨h.ext.tr hx,VB h.big hx.size,⟨aj,by rw[e1];exact JC.ext h1 hx,by rw[e1];exact h2.grow hx⟩,JC.ext h.res hx,by rw[e2];exact aF h.own hx⟩
def Gs.pO{X:Nat->Prop}{w:Vl}{es:List Ed}{us:List Bool}{j:bC}{k:Nat}{lf:Vr}{wr W:Vl}{a':dq}(h:Gs X w es us j k lf wr)(hx:Ext wr W)(hu:us.getD k Vp=Vp)(hz:wL (bT es us j k) (es.getD k dM)=0)
  (hb:eL (λb=>UK X w.heap.size b\/lf.ownBlock=Vq b) W W.heap.size (wh (bT es us j k) (es.getD k dM)) a'):Gs X w es us j (k+1) lf (W.setRow w.heap.size (bZ (wh (bT es us j k) (es.getD k dM)) a')):=by
 have e1:bT es us j (k+1)=wh (bT es us j k) (es.getD k dM):=by show mi _ _ _=_;unfold mi;rw[hu,if_neg V0,if_pos hz]
 have e2:eG es us j (k+1)=eG es us j k:=by rw[qi];unfold ue;rw[hu,hz];rfl
 obtain⟨aj,h1,h2⟩:=h.mem;have h3:=JC.ext h1 hx;refine⟨af (h.ext.tr hx) (Vm _) _,?_,⟨a',?_,?_⟩,?_,?_⟩
 ·rw[size_setRow];exact VB h.big hx.size
 ·rw[e1];exact setRow_heap h3 _
 ·rw[e1];exact hb.row (.inl (.inr (.inl rfl))) _
 ·exact(JC.ext h.res hx).row VY _
 ·rw[e2];exact uy (aF h.own hx) h3 V0 _
def Gs.Us{X:Nat->Prop}{w:Vl}{es:List Ed}{us:List Bool}{j:bC}{k:Nat}{lf lf':Vr}{wr W W':Vl}(h:Gs X w es us j k lf wr)(hx:Ext wr W)(hu:us.getD k Vp=Vp)(hz:wL (bT es us j k) (es.getD k dM)≠0)
  (ho:W'.ownsRow (w.heap.size+2) 3 1 lf' ((eG es us j k).length+1) ((aX (eG es us j k)).flatten++[VU VA (k:Int)]))(hg:W.grownBy W' lf.ownBlock)(hf:∀b,lf'.ownBlock=Vq b->lf.ownBlock=Vq b\/W.heap.size<=b):Gs X w es us j (k+1) lf' W':=by
 have e1:bT es us j (k+1)=bT es us j k:=by show mi _ _ _=_;unfold mi;rw[hu,if_neg V0,if_neg hz]
 have e2:eG es us j (k+1)=eG es us j k++[(k:Int)]:=by rw[qi];unfold ue;rw[hu,decide_eq_true hz];rfl
 obtain⟨aj,h1,h2⟩:=h.mem;have h3:=JC.ext h1 hx;have ho1:=aF h.own hx;refine⟨eE (h.ext.tr hx) hg (λq hq=>VB VY (ak ho1 q hq).1),VB h.big (VB hx.size hg.size),⟨aj,?_,?_⟩,?_,?_⟩
 ·rw[e1];exact h3.grown ho1 hg V0
 ·rw[e1];exact(h2.grow hx).grown hg hf
 ·exact(JC.ext h.res hx).grown ho1 hg V0
 ·rw[e2,VD,show aX (eG es us j k++[(k:Int)])=aX (eG es us j k)++aX [(k:Int)] from List.map_append,List.flatten_append];exact ho
def tP(X:Nat->Prop)(w:Vl)(es:List Ed)(us:List Bool)(j:bC)(x:Ending)(w':Vl):Prop:=
 ∃a' L lc,x=VV (VX #[VW (bZ (bT es us j es.length) a'),VQ L (eG es us j es.length).length lc,VU VA 0])/\Ext w w'/\eL (λb=>X b\/(Value.slice L (eG es us j es.length).length lc).ownBlock=Vq b) w' w'.heap.size (bT es us j es.length) a'/\w'.ownsRow w.heap.size 3 1 (VQ L (eG es us j es.length).length lc) (eG es us j es.length).length (aX (eG es us j es.length)).flatten
def Gs.done{X:Nat->Prop}{w:Vl}{es:List Ed}{us:List Bool}{j:bC}{n:Nat}{L:Option VM}{m lc:Nat}{wr:Vl}{aj:dq}(h:Gs X w es us j n (VQ L m lc) wr)(hb:eL (λb=>UK X w.heap.size b\/(Value.slice L m lc).ownBlock=Vq b) wr wr.heap.size (bT es us j n) aj):
  m=(eG es us j n).length/\Ext w (wr.setRow (w.heap.size+1) (bZ (bT es us j n) aj))/\eL (λb=>X b\/(Value.slice L m lc).ownBlock=Vq b) (wr.setRow (w.heap.size+1) (bZ (bT es us j n) aj)) (wr.setRow (w.heap.size+1) (bZ (bT es us j n) aj)).heap.size (bT es us j n) aj
   /\(wr.setRow (w.heap.size+1) (bZ (bT es us j n) aj)).ownsRow w.heap.size 3 1 (VQ L m lc) (eG es us j n).length (aX (eG es us j n)).flatten:=by
 have ho:=uy h.own h.res V0 (bZ (bT es us j n) aj);obtain⟨L',lc',e,hs⟩:=aG ho (Vu _) (bw (f:=λn=>[VU VA n]) (λ_=>rfl) _);exact⟨by injection e,af h.ext VY _,(hb.row (.inl (.inr (.inr rfl))) _).mono (λb _ hb=>hb.imp .inl id),dz ho VY⟩
theorem mU (w : Vl) (j : bC) (a : dq) (es : List Ed) (us : List Bool) (A : Option VM) (cap : Nat) (A' : Option VM) (cap' m B : Nat) {X : Nat → Prop} (hb : eL X w w.heap.size j a) (hX : ∀ b, X b → b < w.heap.size)
    (he : eU w B A cap es) (hu : bK 1 w B A' cap' (cU us)) (hB : B ≤ w.heap.size) (hBX : ∀ b, b < B → ¬ X b) (hr : jC es us j m) (hm : eO w) (ht : aU w) :
    VC prog 8 #[.agg (bZ j a), .slice A es.length cap, .slice A' us.length cap'] w (tP X w es us j) := by
  obtain ⟨W0, hW0⟩ : ∃ W0, (w.alloc (.cells (bZ j a) 34)).alloc (.cells (bZ iM iO) 34) = W0 := ⟨_, rfl⟩
  have hs0 : W0.heap.size = w.heap.size + 2 := by rw [← hW0]; simp
  have e0 : Ext w W0 := by rw [← hW0]; exact ((Below.refl _ _).alloc (Vm _) _).alloc (by simp) _
  have hJ : JC W0 w.heap.size j a := by rw [← hW0]; exact JC.ext (Vy w _) ((Below.refl _ _).alloc (Vm _) _)
  have hR : JC W0 (w.heap.size + 1) iM iO := by
    rw [← hW0]
    have := Vy (w.alloc (.cells (bZ j a) 34)) (.cells (bZ iM iO) 34)
    rw [VF] at this
    exact this
  have HW := Vk (show ((w.alloc (.cells (bZ j a) 34)).alloc (.cells #[.string { data := #[] }, .slice Vo 0 0, .int .i64 0, .int .i64 0, .slice Vo 0 0, .slice Vo 0 0, .slice Vo 0 0, .slice Vo 0 0, .int .i64 0, .int .i64 0, .int .i64 0, .int .i64 0, .int .i64 0, .slice Vo 0 0, .slice Vo 0 0] 34)) = W0 from hW0)
  have HJ := Vk hJ
  have HE0 := Vk e0
  have HX := Vk hX
  have HR := Vk hr
  have HE := Vk he
  have HU := Vk hu
  have HB := Vk hB
  have HBX := Vk hBX
  have HM := Vk (fun (W : Vl) (h : Ext w W) => hm.below h (Vm _))
  have HT := Vk (fun (W : Vl) (h : Ext w W) => ht.below h (Vm _))
  have H0 := Vk (show Gs X w es us j 0 (.slice Vo 0 0) W0 from ⟨e0, by omega, ⟨a, hJ, ⟨hb.toeC.grow e0, fun W hO => hb.av W ⟨VB e0.size hO.1, fun b h1 h2 => (hO.2 b (by omega) (by
    rintro ((q | q | q) | q)
    · exact h2 q
    · omega
    · omega
    · cases q)).trans (e0.block b h1)⟩⟩⟩, hR, World.ownsRow_nil _ _ _ _⟩)
  have KJ := Vk (mJ W0 j a (hb.toeC.grow e0) hr.sm (HM.out _ e0) (HT.out _ e0))
  rw [hr.ok] at KJ
  have hlu := hr.eq
  have h4 := hr.Oy
  rw [hlu]
  obtain ⟨i0, hi0, hz0, hz1, hz2⟩ := info_parts dS
  have I0 := Vk hi0
  have I1 := Vk hz0
  have I2 := Vk hz1
  have I3 := Vk hz2
  clear hJ hR hb hX he hu hB hBX hr hm ht hW0 hi0 hz0 hz1 hz2 hs0 e0 hlu
  go_enter func8, ntmps8
  go_upto_region 1 with (fail)
  rw [HW.out]
  go_wp2_with (first
    | (go_at_call 25; go_must (refine KJ.out.mono ?_); rintro x1 W1 ⟨rfl, hX1⟩; have HX1 := Vk hX1; clear hX1)
    | (refine wpList_load_row rfl 34 _ rfl _ rfl 34 _ (0, 0) _ HJ.out underlying34 rfl (by kernel_rfl) ?_))
  have H1 := Vk (show Gs X w es us j 0 (.slice Vo 0 0) W1 by
    obtain ⟨aj, q1, q2⟩ := H0.out.mem
    exact ⟨H0.out.ext.tr HX1.out, VB H0.out.big HX1.out.size, ⟨aj, JC.ext q1 HX1.out, q2.grow HX1.out⟩, JC.ext H0.out.res HX1.out, aF H0.out.own HX1.out⟩)
  go_loopw [9, 33] (fun lf i wr => ∃ k : Nat, i = .int .i64 (k : Int) ∧ k ≤ es.length ∧ Gs X w es us j k lf wr) (fun _ i _ => ((es.length : Int) - VG i).toNat)
  case atStart => exact ⟨0, rfl, by omega, H1.out⟩
  case round =>
    obtain ⟨k, rfl, hk, hI⟩ := hrel
    obtain ⟨L, ln, lc, hlf⟩ := nk.of hI.own
    subst hlf
    have HI := Vk hI
    clear hI
    by_cases hlt : k < es.length
    · obtain ⟨b, off, f, hA, hbB, hc⟩ := HE.out.at (by omega)
      obtain ⟨hc1, hgp⟩ := hc k hlt
      obtain ⟨b', off', hA', hbB', hc'⟩ := HU.out.2.2 (by rw [Vu, HR.out.eq]; omega)
      subst hA hA'
      have hcu : w.cell? ⟨b', off' + k, Vo⟩ = Vq (.bool (us.getD k Vp)) := by
        have q := hc' k (by rw [Vu, HR.out.eq]; omega) 0 (by decide)
        rw [Nat.one_mul, Nat.add_zero] at q
        rw [q, Vn, List.getElem?_map, Vn, Vt (show k < us.length by rw [HR.out.eq]; omega)]
        rfl
      rw [VE] at hc1
      have hbz : b < w.heap.size := Nat.lt_of_lt_of_le hbB HB.out
      have hbz' : b' < w.heap.size := Nat.lt_of_lt_of_le hbB' HB.out
      have HC1 := Vk (fun (W : Vl) (h : Ext w W) => oZ hc1 h hbz)
      have HCU := Vk (fun (W : Vl) (h : Ext w W) => (VL.cell h hbz').trans hcu)
      have HGP := Vk hgp
      obtain ⟨u, hu⟩ : ∃ u, us.getD k Vp = u := ⟨_, rfl⟩
      rw [hu] at HCU
      have HUK := Vk hu
      obtain ⟨ed, hed⟩ : ∃ ed, es.getD k dM = ed := ⟨_, rfl⟩
      have HED := Vk hed
      rw [hed] at HC1
      rw [hed] at HGP
      obtain ⟨g, hg⟩ : ∃ g, Value.slice (f k).1 ed.gaps.length (f k).2 = g := ⟨_, rfl⟩
      have HG := Vk hg
      have HOC := Vk (show ((aL ed g).all fun x => x.oneCell') = Vv by rw [← hg]; kernel_rfl)
      rw [hg] at HC1
      clear hc hc1 hgp hc' hcu hbB hbB' hu hed hg
      cases u with
      | true =>
        go_wp2_with (first
          | (refine jD rfl _ rfl b (off + k * 37) rfl _ _ (HC1.out _ HI.out.ext) ?_)
          | (refine wpList_store_row rfl 68 _ _ rfl _ _ rfl rfl 68 _ (Vy _ _) (by kernel_rfl) (by kernel_rfl) HOC.out ?_
             generalize hW2 : World.setRow _ _ (aL ed g) = W2
             have X2 := Vk (show Ext _ W2 from by rw [← hW2]; exact af ((Below.refl _ _).alloc (Vm _) _) (Vm _) _)
             have cu := HCU.out _ (HI.out.ext.tr X2.out)
             clear hW2))
        exact ⟨⟨k + 1, by go_num, by omega, HI.out.same X2.out HUK.out⟩, by simp [VG]; omega⟩
      | false =>
        obtain ⟨aj, q1, q2⟩ := HI.out.mem
        have J1 := Vk q1
        have V1 := Vk q2
        have hap := HR.out.ap hlt
        rw [HED.out] at hap
        have HAP := Vk hap
        obtain ⟨jk, hjk⟩ : ∃ x, bT es us j k = x := ⟨_, rfl⟩
        have HJK := Vk hjk
        rw [hjk] at J1 V1 HAP
        clear q1 q2 hap hjk
        go_wp2_with (first
          | (go_at_call 19; fail)
          | (refine jD rfl _ rfl b (off + k * 37) rfl _ _ (HC1.out _ HI.out.ext) ?_)
          | (refine wpList_load_row rfl 34 _ rfl _ rfl 34 _ (0, 0) _ J2.out underlying34 rfl (by kernel_rfl) ?_)
          | (refine wpList_load_row rfl 68 _ rfl _ rfl 68 _ (0, 0) _ D2.out underlying68 rfl (by kernel_rfl) ?_)
          | (refine wpList_store_row rfl 68 _ _ rfl _ _ rfl rfl 68 _ (Vy _ _) (by kernel_rfl) (by kernel_rfl) HOC.out ?_
             generalize hW2 : World.setRow _ _ (aL ed g) = W2
             have X2 := Vk (show Ext wr W2 from by rw [← hW2]; exact af ((Below.refl _ _).alloc (Vm _) _) (Vm _) _)
             have D2 := Vk (show EC W2 wr.heap.size (aL ed g) from by rw [← hW2]; exact setRow_heap (Vy _ _) _)
             have J2 := Vk (JC.ext J1.out X2.out)
             have cu := HCU.out _ (HI.out.ext.tr X2.out)
             clear hW2))
        have KA := Vk (xO W2 jk aj ed (f k).1 (f k).2 (V1.out.grow X2.out) ((HGP.out.below ((HI.out.ext.tr X2.out).mono HB.out)).more (VB HB.out (HI.out.ext.tr X2.out).size))
          (fun W hO => (HGP.out.off (VB (HI.out.ext.tr X2.out).size hO.1) (fun q hq => (hO.2 q (Nat.lt_of_lt_of_le hq (VB HB.out (HI.out.ext.tr X2.out).size)) (by
            rintro ((h1 | h1 | h1) | h1)
            · exact HBX.out q hq h1
            · have := HB.out; omega
            · have := HB.out; omega
            · have h2 := (ak HI.out.own q h1).1
              have := HB.out
              omega)).trans ((HI.out.ext.tr X2.out).block q (Nat.lt_of_lt_of_le hq HB.out)))).more (VB HB.out (VB (HI.out.ext.tr X2.out).size hO.1)))
          (fun q hq => by
            have h3 := HI.out.big
            have h4 := X2.out.size
            rcases hq with (h1 | h1 | h1) | h1
            · have := HX.out q h1; omega
            · omega
            · omega
            · have h2 := (ak HI.out.own q h1).2; omega) HAP.out (HM.out _ (HI.out.ext.tr X2.out)) (HT.out _ (HI.out.ext.tr X2.out)))
        rw [HG.out] at KA
        obtain ⟨z, hz⟩ : ∃ z, wL jk ed = z := ⟨_, rfl⟩
        obtain ⟨j', hj'⟩ : ∃ z, wh jk ed = z := ⟨_, rfl⟩
        have HZ := Vk hz
        have HJ' := Vk hj'
        unfold vN at KA
        rw [hz, hj'] at KA
        clear hz hj'
        refine KA.out.mono ?_
        rintro x3 W3 ⟨a', rfl, hX3, hb3⟩
        have X3 := Vk (X2.out.tr hX3)
        have B3 := Vk hb3
        clear hX3 hb3
        by_cases hz0 : z = 0
        · subst hz0
          go_wp2_with (first
            | (refine wpList_store_row rfl 34 _ _ rfl _ _ rfl rfl 34 _ (Vy W3 _) (by kernel_rfl) (by kernel_rfl) (by kernel_rfl) ?_
               generalize hW4 : World.setRow _ W3.heap.size (bZ j' a') = W4
               have X34 := Vk (show Ext W3 W4 by rw [← hW4]; exact af ((Below.refl _ _).alloc (Vm _) _) (Vm _) _)
               have N4 := Vk (show JC W4 W3.heap.size j' a' by unfold JC; rw [← hW4]; exact setRow_heap (Vy W3 _) _)
               have X4 := Vk (X3.out.tr X34.out)
               have J4 := Vk (JC.ext J1.out X4.out)
               clear hW4)
            | (refine wpList_load_row rfl 34 _ rfl _ rfl 34 _ (0, 0) _ N4.out underlying34 rfl (by kernel_rfl) ?_)
            | (refine wpList_store_row rfl 34 _ _ rfl _ _ rfl rfl 34 _ J4.out (by kernel_rfl) (by kernel_rfl) (by kernel_rfl) ?_))
          refine ⟨⟨k + 1, by go_num, by omega, ?_⟩, by simp [VG]; omega⟩
          have q := HI.out.pO X4.out HUK.out (a' := a') (by rw [HED.out, HJK.out]; exact HZ.out) (by rw [HED.out, HJK.out, HJ'.out]; exact B3.out.grow X34.out)
          rw [HED.out, HJK.out, HJ'.out] at q
          exact q
        · have tz : (z == 0) = Vp := by simpa using hz0
          have hll : (eG es us j k).length ≤ k := by unfold eG; rw [Vu]; exact vm _ _ _ _
          go_wp2_with (first
            | (refine wpList_store_row rfl 34 _ _ rfl _ _ rfl rfl 34 _ (Vy W3 _) (by kernel_rfl) (by kernel_rfl) (by kernel_rfl) ?_
               generalize hW4 : World.setRow _ W3.heap.size (bZ j' a') = W4
               have X34 := Vk (show Ext W3 W4 by rw [← hW4]; exact af ((Below.refl _ _).alloc (Vm _) _) (Vm _) _)
               have X4 := Vk (X3.out.tr X34.out)
               have HO4 := Vk (aF HI.out.own X4.out)
               clear hW4)
            | (at_builtin; (refine jJ rfl _ _ _ rfl (w.heap.size + 2) 3 i0 _ 1 8 underlying25 I0.out I1.out I2.out I3.out rfl (by omega) _ _ _ rfl (aF HO4.out ((Below.refl _ _).alloc (Vm _) (.cells #[.int .i64 (k : Int)] 3))) ⟨W4.heap.size, 0, Vo⟩ 1 1 [.int .i64 (k : Int)] rfl (by rfl) (fun q u hq => by rw [Addr.add_lit, Nat.zero_add, (ah.new W4 3 [.int .i64 (k : Int)]).cell]; exact hq) (by simp [Value.oneCell']) (by unfold VJ; omega) (by omega) (by have := HI.out.big; have := X4.out.size; simp; omega) ?_); intro v' w' hown' hgr' hfr; have HOW := Vk hown'; have HGR := Vk hgr'; have HFR := Vk hfr; obtain ⟨A4, n4, c4, e4⟩ := nk.of hown'; subst e4; clear hown' hgr' hfr))
          exact ⟨⟨k + 1, by go_num, by omega, HI.out.Us (X4.out.tr ((Below.refl _ _).alloc (Vm _) _)) HUK.out (by rw [HED.out, HJK.out, HZ.out]; exact hz0) HOW.out HGR.out HFR.out⟩, by simp [VG]; omega⟩
    · obtain rfl : k = es.length := by omega
      obtain ⟨aj, q1, q2⟩ := HI.out.mem
      have J1 := Vk q1
      have V1 := Vk q2
      clear q1 q2
      go_wp2_with (first
        | (refine wpList_load_row rfl 34 _ rfl _ rfl 34 _ (0, 0) _ J1.out underlying34 rfl (by kernel_rfl) ?_)
        | (refine wpList_store_row rfl 34 _ _ rfl _ _ rfl rfl 34 _ HI.out.res (by kernel_rfl) (by kernel_rfl) (by kernel_rfl) ?_))
      refine bodyPost_ret (AF rfl _ _ _ _ rfl (setRow_heap HI.out.res _) (by kernel_rfl)) rfl ?_
      obtain ⟨e1, h1, h2, h3⟩ := HI.out.done V1.out
      subst e1
      exact ⟨aj, _, _, rfl, h1, h2, h3⟩
def yC (w : Vl) (l : Log) (a : kT) (m B : Nat) {X : Nat -> Prop} (hb : gT w B l a) (hB : B <= w.heap.size) (hX : ∀ b, X b -> b < w.heap.size /\ B <= b) (hr : jC l.edits l.undone l.start m) (hm : eO w) (ht : aU w) :
    VC prog 9 #[VW (cW l a)] w λx w' => ∃ a', x =VV (VX #[VW (bZ (bT l.edits l.undone l.start l.edits.length) a'), VU VA 0]) /\ Ext w w' /\ eL X w' w'.heap.size (bT l.edits l.undone l.start l.edits.length) a' := by
  obtain ⟨W0, hW0⟩ : ∃ W0, (w.alloc (.cells (cW l a) 38)).alloc (.cells (bZ iM iO) 34) = W0 := ⟨_, rfl⟩;have hs0 : W0.heap.size = w.heap.size + 2 := by rw [<- hW0]; simp
  have e0 : Ext w W0 := by rw [<- hW0]; exact ((Below.refl _ _).alloc (Vm _) _).alloc V5 _
  have hL : LC W0 w.heap.size l a := by rw [<- hW0]; exact LC.ext (Vy w _) ((Below.refl _ _).alloc (Vm _) _)
  have hR : JC W0 (w.heap.size + 1) iM iO := by
    rw [<- hW0];have := Vy (w.alloc (.cells (cW l a) 38)) (.cells (bZ iM iO) 34);rw [VF] at this;exact this
  have HW := Vk (show ((w.alloc (.cells (cW l a) 38)).alloc (.cells #[VR { data := #[] }, VQ Vo 0 0, VU VA 0, VU VA 0, VQ Vo 0 0, VQ Vo 0 0, VQ Vo 0 0, VQ Vo 0 0, VU VA 0, VU VA 0, VU VA 0, VU VA 0, VU VA 0, VQ Vo 0 0, VQ Vo 0 0] 34)) = W0 from hW0);have HL := Vk hL;have HR := Vk hR;have E0 := Vk e0;have c15 := hL.cell 15;have c16 := hL.cell 16;have KR := Vk (mU W0 l.start a.ja l.edits l.undone a.ea a.ec a.ua a.uc m B (X := λb => X b \/ b = w.heap.size + 1) ((((hb.j.v hB (X := λb => X b \/ b = w.heap.size + 1) (λb h1 h2 => by
    rcases h2 with h2 | h2
    · have := (hX b h2).2; omega
    · omega)).more hB)).grow e0) (λb h => by
    rcases h with h | h
    · have := (hX b h).1; omega
    · omega) (hb.e.below (e0.mono hB)) (hb.u.below (e0.mono hB)) (VB hB e0.size) (λb h1 h2 => by
    rcases h2 with h2 | h2
    · have := (hX b h2).2; omega
    · omega) hr (hm.below e0 (Vm _)) (ht.below e0 (Vm _)))
  obtain ⟨j', hj'⟩ : ∃ x, bT l.edits l.undone l.start l.edits.length = x := ⟨_, rfl⟩;obtain ⟨li, hli⟩ : ∃ x, eG l.edits l.undone l.start l.edits.length = x := ⟨_, rfl⟩;unfold tP at KR;rw [hj', hli] at KR;rw [hj'];clear hL hR hW0 hb hr hm ht e0 hj' hli hs0 hX hB;go_enter func9, ntmps9;go_upto_region 1 with (fail)
  rw [HW.o];go_wp2_with (first
    | (go_at_call 8; fail)
    | (refine cz Wn _ rfl _ _ rfl _ _ HL.o.start ?_))
  refine KR.o.mono ?_;rintro x1 W1 ⟨a', L, lc, rfl, hX1, hb1, _⟩;have X1 := Vk hX1;have B1 := Vk hb1;clear hX1 hb1;go_wp2_with (first
    | (refine wpList_store_row rfl 34 _ _ rfl _ _ rfl rfl 34 _ (Vy W1 _) VZ VZ VZ ?_
       generalize hW4 : World.setRow _ W1.heap.size (bZ j' a') = W4;have X14 := Vk (show Ext W1 W4 by rw [<- hW4]; exact af ((Below.refl _ _).alloc (Vm _) _) (Vm _) _);have N4 := Vk (show JC W4 W1.heap.size j' a' by unfold JC; rw [<- hW4]; exact setRow_heap (Vy W1 _) _);have R4 := Vk (JC.ext HR.o (X1.o.tr X14.o));clear hW4)
    | (refine wpList_load_row rfl 34 _ rfl _ rfl 34 _ (0, 0) _ N4.o underlying34 rfl VZ ?_)
    | (refine wpList_store_row rfl 34 _ _ rfl _ _ rfl rfl 34 _ R4.o VZ VZ VZ ?_))
  refine bodyPost_ret (eZ rfl _ _ _ _ rfl (setRow_heap R4.o _) VZ) rfl ?_;exact ⟨a', rfl, af (E0.o.tr (X1.o.tr X14.o)) VY _, ((B1.o.grow X14.o).row (.inl (.inr rfl)) _).mono (λb _ h => .inl (.inl h))⟩
end
section
open Kp
attribute [local go_sem] fT iP iw aS
def zt(w:Vl)(l:Log)(a:kT)(hb:gT w w.heap.size l a)(hbig:l.start.rings.flatten.length<=4000000000):
  VC prog 20 #[VW (cW l a)] w λx w'=>jm (S8 l) x/\Ext w w':=by
 have E0:=Vk (show Ext w (w.alloc (.cells (cW l a) 38)) from(Below.refl _ _).alloc (Vm _) _);have L0:LC (w.alloc (.cells (cW l a) 38)) w.heap.size l a:=Vy w _;obtain⟨w0,hw0⟩:∃w0,w.alloc (.cells (cW l a) 38)=w0:=⟨_,rfl⟩;rw[hw0] at E0 L0;have HW0:=Vk hw0;have HL:=Vk (λW (h:Ext w0 W)=>LC.ext L0 h);have HB:=Vk (λW (h:Ext w0 W)=>hb.grow (E0.o.tr h));have KG:=Vk (λW (h:Ext w0 W)=>Dd W l.start a.ja (HB.o W h).j hbig);have H1:=hb.e.1;have H2:=hb.e.2.1;unfold VJ at H2;clear hb hbig hw0 L0;obtain⟨p,tp⟩:∃p,decide ((l.edits.length:Int)<=6)=p:=⟨_,rfl⟩;obtain⟨q,tq⟩:∃q,decide ((l.edits.length:Int)>6)=q:=⟨_,rfl⟩;obtain⟨r,tr⟩:∃r,decide ((l.undone.length:Int)>6)=r:=⟨_,rfl⟩;have HR:=Vk (And.intro tp (And.intro tq tr));go_enter func20,ntmps20;go_wp2_with fail
 rw[HW0.o];go_loopw [3] (λi wr=>∃k:Nat,i=VU VA (k:Int)/\k<=l.edits.length/\Ext w0 wr/\∀m,m<k->dA (l.edits.getD m dM)=Vp) (λi _=>((l.edits.length:Int)-VG i).toNat)
 case atStart=>exact⟨0,rfl,VY,Ext.aB _,λm hm=>absurd hm VY⟩
 case round=>
  obtain⟨k,rfl,hk,hX,hG⟩:=hrel;have HX:=Vk hX;have HG:=Vk hG;have c15:=(HL.o _ hX).cell 15;have c16:=(HL.o _ hX).cell 16;clear hX hG;by_cases hlt:k<l.edits.length
  ·have tlt:decide ((k:Int)<(l.edits.length:Int))=Vv:=decide_eq_true VY;cases p with
   |true=>
    obtain⟨b,off,f,hA,hB,hc⟩:=(HB.o _ HX.o).e.at VY;obtain⟨hc1,_⟩:=hc k hlt;obtain⟨ed,hed⟩:∃x,l.edits.getD k dM=x:=⟨_,rfl⟩;have HED:=Vk hed;rw[hed] at hc1;obtain⟨g,hg⟩:∃g,dA ed=g:=⟨_,rfl⟩;have HGK:=Vk hg;have KE:=Vk (λW=>wR W ed (f k).1 (f k).2);rw[hg] at KE;obtain⟨v,hv⟩:∃v,Value.slice (f k).1 ed.gaps.length (f k).2=v:=⟨_,rfl⟩;rw[hv] at KE hc1;rw[iP,hA] at c15;rw[VE] at hc1;have HC1:=Vk hc1;clear hc hc1 hB hg hed hv hA;cases g<;>
     go_wp2_with(first
      |(go_at_call 16;go_must(refine(KE.o _).mono ?_);rintro x1 W1 ⟨rfl,hX1⟩;have HX1:=Vk hX1;clear hX1)
      |(refine jD rfl _ rfl b (off+k*37) rfl _ _ HC1.o ?_))
    ·exact⟨⟨k+1,by go_num,VY,HX.o.tr HX1.o,λm hm=>by
      by_cases e:m=k
      ·rw[e,HED.o];exact HGK.o
      ·exact HG.o m VY⟩,V7⟩
    ·go_ret;exact⟨⟨_,rfl,λh=>V6⟩,E0.o.tr (HX.o.tr HX1.o)⟩
   |false=>
    cases r<;>
     go_wp2_with(first
      |(go_at_call 44;go_must(refine(KG.o _ HX.o).mono ?_);rintro x1 W1 ⟨⟨b1,rfl,h1⟩,hX1⟩;have HX1:=Vk hX1;have c15:=(HL.o _ (HX.o.tr hX1)).cell 15;have c16:=(HL.o _ (HX.o.tr hX1)).cell 16;clear hX1;cases b1)
      |(refine cz Wn _ rfl _ _ rfl _ _ (HL.o _ HX.o).start ?_))
    all_goals
     go_ret;refine⟨⟨_,rfl,λh=> ?_⟩,E0.o.tr (HX.o.tr HX1.o)⟩;have h6:=of_decide_eq_false HR.o.1;have h7:=HR.o.2.1;have h8:q=Vv:=by rw[<-h7];exact decide_eq_true VY
     first
      |exact absurd h8 Wd
      |(simp[h8] at h;done)
  ·obtain rfl:k=l.edits.length:=VY;cases q<;>cases r<;>
    go_wp2_with(first
     |(go_at_call 44;go_must(refine(KG.o _ HX.o).mono ?_);rintro x1 W1 ⟨⟨b1,rfl,h1⟩,hX1⟩;have HX1:=Vk hX1;have G1:=Vk h1;have c15:=(HL.o _ (HX.o.tr hX1)).cell 15;have c16:=(HL.o _ (HX.o.tr hX1)).cell 16;clear hX1 h1;cases b1)
     |(refine cz Wn _ rfl _ _ rfl _ _ (HL.o _ HX.o).start ?_))
   all_goals
    go_ret;refine⟨⟨_,rfl,λh=> ?_⟩,E0.o.tr (HX.o.tr HX1.o)⟩
    first
     |(cases h;done)
     |exact⟨G1.o WV,HG.o,by have:=of_decide_eq_false HR.o.2.1;omega,by have:=of_decide_eq_false HR.o.2.2;omega⟩
def qt(w:Vl)(l:Log)(a:kT)(hb:gT w w.heap.size l a)(hbig:l.start.rings.flatten.length<=4000000000)(ht:aU w):
  VC prog 6 #[VW (cW l a)] w λx w'=>TZ (Nu l) x/\Ext w w':=by
 have E0:=Vk (show Ext w (w.alloc (.cells (cW l a) 38)) from(Below.refl _ _).alloc (Vm _) _);have L0:LC (w.alloc (.cells (cW l a) 38)) w.heap.size l a:=Vy w _;obtain⟨w0,hw0⟩:∃w0,w.alloc (.cells (cW l a) 38)=w0:=⟨_,rfl⟩;rw[hw0] at E0 L0;have HW0:=Vk hw0;have HL:=Vk (λW (h:Ext w0 W)=>LC.ext L0 h);have HL0:=Vk L0;have HB:=Vk (λW (h:Ext w0 W)=>hb.grow (E0.o.tr h));have KG:=Vk (zt w0 l a (HB.o _ (Ext.aB _)) hbig);have KC:=Vk (λW (h:Ext w0 W) (g:yQ l.start)=>EN W l.start a.ja (HB.o W h).j g.fw (ht.below (E0.o.tr h) (Vm _)));clear hb hbig hw0 L0 ht;go_enter func6,ntmps6;go_wp2_with(first
  |(go_at_call 20;fail)
  |(rw[HW0.o];refine wpList_load_row rfl 38 _ rfl _ rfl 38 _ (0,0) _ HL0.o underlying38 rfl VZ ?_))
 try rw[HW0.o]
 refine KG.o.mono ?_;rintro x1 W1 ⟨⟨b1,rfl,h1⟩,hX1⟩;have X1:=Vk hX1;have G1:=Vk h1;clear hX1 h1;cases b1 with
 |true=>
  go_wp2_with fail
  go_ret;exact⟨⟨_,rfl,λh=>V6⟩,E0.o.tr X1.o⟩
 |false=>
  have HG:=Vk (G1.o rfl);go_wp2_with(first
   |(go_at_call 21;fail)
   |(refine cz Wn _ rfl _ _ rfl _ _ (HL.o _ X1.o).start ?_))
  refine(KC.o _ X1.o HG.o.j).mono ?_;rintro x2 W2 ⟨⟨k,rfl,hk⟩,hX2⟩;have X2:=Vk (X1.o.tr hX2);have HK:=Vk hk;have c15:=(HL.o _ X2.o).cell 15;have c16:=(HL.o _ X2.o).cell 16;clear hX2 hk;by_cases hk0:k=0
  ·subst hk0;obtain⟨p,tp⟩:∃p,((l.edits.length:Int)==(l.undone.length:Int))=p:=⟨_,rfl⟩;have HP:=Vk tp;go_wp2_with fail
   go_ret;refine⟨⟨_,rfl,λh=>⟨HG.o,HK.o WV,?_⟩⟩,E0.o.tr X2.o⟩;have h2:(l.edits.length:Int)=(l.undone.length:Int):=by
    have:=HP.o
    first
     |(simp only[h] at this;simpa using this)
     |simpa using h
   omega
  ·have tk:(k==0)=Vp:=by simpa using hk0
   go_wp2_with fail
   go_ret;exact⟨⟨_,rfl,λh=>V6⟩,E0.o.tr X2.o⟩
end
section
open Kp
def zT(b o k:Nat):(⟨b,o,Vo⟩:VM).add k=⟨b,o+k,Vo⟩:=by unfold VM.add;split <;>simp_all
def qq(A:Option VM):A.map (λx=>x.add 0)=A:=by
 cases A with
 |none=>rfl
 |some x=>
  obtain⟨b,o,s⟩:=x;simp[VM.add]
def Mg{w:Vl}{B:Nat}{A:Option VM}{cap:Nat}{l:List Ed}(h:eU w B A cap l){k:Nat}(hk:k<=l.length):∃A' c',sliced A 0 k cap 37=VQ A' (l.take k).length c'/\eU w B A' c' (l.take k):=by
 have h1:=h.1;have hl:(l.take k).length=k:=WK;refine⟨_,cap,by rw[hl];rfl,VY,h.2.1,λh0=> ?_⟩;obtain⟨b,off,e,hB,hc⟩:=(h.take hk).2.2 h0;refine⟨b,off,?_,hB,hc⟩;exact a02
def Kj{w:Vl}{B:Nat}{A:Option VM}{cap:Nat}{l:List Ed}(h:eU w B A cap l){k:Nat}(hk:k<=l.length):∃A' c',sliced A k l.length cap 37=VQ A' (l.drop k).length c'/\eU w B A' c' (l.drop k):=by
 have h1:=h.1;have h2:=h.2.1;have hl:(l.drop k).length=l.length-k:=List.length_drop;refine⟨_,cap-k,by rw[hl];rfl,VY,VY,λh0=> ?_⟩;obtain⟨b,off,e,hB,hc⟩:=h.2.2 VY;refine⟨b,off+k*37,?_,hB,λi hi=> ?_⟩
 ·subst e;rw[if_neg VY];simp only[Option.map_some,zT]
 ·rw[getD_drop,show off+k*37+37*i=off+37*(k+i) by omega];exact hc (k+i) VY
def Lb{w:Vl}{B:Nat}{A:Option VM}{cap:Nat}{l:List Bool}(h:bK 1 w B A cap (cU l)){k:Nat}(hk:k<=l.length):∃A' c',sliced A 0 k cap 1=VQ A' (l.take k).length c'/\bK 1 w B A' c' (cU (l.take k)):=by
 obtain⟨h1,h2,h3⟩:=h;rw[Vu] at h1 h3;have hl:(l.take k).length=k:=WK;refine⟨_,cap,by rw[hl];rfl,by rw[Vu];omega,h2,λh0=> ?_⟩;rw[Vu] at h0;obtain⟨b,off,e,hB,hc⟩:=h3 VY;refine⟨b,off,?_,hB,λi hi j hj=> ?_⟩
 ·exact a02
 ·rw[Vu] at hi;rw[hc i VY j hj,show cU (l.take k)=(cU l).take k from List.map_take,getD_take VY]
def Oa{w:Vl}{B:Nat}{A:Option VM}{cap:Nat}{l:List Bool}(h:bK 1 w B A cap (cU l)){k:Nat}(hk:k<=l.length):∃A' c',sliced A k l.length cap 1=VQ A' (l.drop k).length c'/\bK 1 w B A' c' (cU (l.drop k)):=by
 obtain⟨h1,h2,h3⟩:=h;rw[Vu] at h1 h3;have hl:(l.drop k).length=l.length-k:=List.length_drop;refine⟨_,cap-k,by rw[hl];rfl,by rw[Vu];omega,VY,λh0=> ?_⟩;rw[Vu] at h0;obtain⟨b,off,e,hB,hc⟩:=h3 VY;refine⟨b,off+k*1,?_,hB,λi hi j hj=> ?_⟩
 ·subst e;rw[if_neg VY];simp only[Option.map_some,zT]
 ·rw[Vu] at hi;rw[show off+k*1+1*i+j=off+1*(k+i)+j by omega,hc (k+i) VY j hj,show cU (l.drop k)=(cU l).drop k from List.map_drop,getD_drop]
end
end Go.Proofs.YtmliacdegmklaaaGreatDoor
