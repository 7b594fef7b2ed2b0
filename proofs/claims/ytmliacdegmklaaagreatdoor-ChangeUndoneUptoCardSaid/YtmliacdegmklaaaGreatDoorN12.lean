/- ChangeUndone of kingpostlaw58: part 12 of its proof (merged and shortened by program). -/
import Derived.Test.YtmliacdegmklaaaGreatDoorN08
set_option linter.unusedVariables false
set_option linter.unusedSimpArgs false
set_option linter.defProp false
set_option maxHeartbeats 8000000
set_option maxRecDepth 100000
open Go.RowKit Go.Shelf Go.Proofs.Tryz
open Array renaming getElem?_eq_some_iff→VF
open Bool renaming false→Vw,true→VD
open Go renaming World→Vt,Value→Vy,undef→VB,wpOp_step→VE,Calls→VJ,maxLen→VP,TypeId→VR,Addr→VT
open Go.AllReady renaming cons→VO,nil→VU
open Go.Ending renaming returned→V0
open Go.IntKind renaming i64→VH
open Go.IntWalk renaming i64_in→VQ
open Go.Lib renaming hid→Vs
open Go.RowKit renaming intOf→VN,Below→VS
open Go.Value renaming slice→VV,string→VW,bool→VX,pointer→VY,int→VZ,agg→V5,tuple→V6
open Go.World renaming alloc_heap_new→VG,size_alloc→VK
open List renaming getD_eq_getElem?_getD→Vv,getElem?_eq_getElem→VA,length_map→VC,length_append→VM,length→ln
open Nat renaming le_refl→Vu,le_trans→VI,mul_comm→VL
open Option renaming none→Vx,some→Vz
open Go.Proofs.YtmliacdegmklaaaGreatDoor
variable{i cap b k c:Nat}{A:Option VT}{w w':Vt}
namespace Go.Proofs.YtmliacdegmklaaaGreatDoor
section
open Kp
abbrev Ub(g:Int×Int):List Vy:=[VZ VH g.1,VZ VH g.2]
abbrev di(l:List (Int×Int)):List (List Vy):=l.map Ub
theorem mb{l:List (Int×Int)}(hi:i<ln l):(di l).getD i []=Ub (l.getD i (0,0)):=by
 exact Y4
def PJ(l:List (Int×Int)):de 2 (di l):=bC (f:=Ub) (λ_=>rfl) l
abbrev qU(b:Br)(ga:Option VT)(gc:Nat):List Vy:=[VZ VH b.width,VZ VH b.depth,VZ VH b.length,VZ VH b.count,VZ VH b.cost,VV ga (ln b.gaps) gc]
def fT(w:Vt)(B:Nat)(A:Option VT)(cap:Nat)(l:List Br):Prop:=
 ln l<=cap/\cap<=VP/\(0<ln l->∃b off,A=Vz ⟨b,off,Vx⟩/\b<B/\∀i,i<ln l->∃ga gc,(∀j,j<6->w.cell? ⟨b,off+6*i+j,Vx⟩=(qU (l.getD i oN) ga gc)[j]?)/\bJ 2 w B ga gc (di (l.getD i oN).gaps))
theorem fT.below{B:Nat}{l:List Br}(h:fT w B A cap l)(hb:VS B w w'):fT w' B A cap l:=by
 obtain⟨h1,h2,h3⟩:=h;refine⟨h1,h2,λhn=> ?_⟩;obtain⟨b,off,e,hB,hc⟩:=h3 hn;refine⟨b,off,e,hB,λi hi=> ?_⟩;obtain⟨Ai,ci,h4,h5⟩:=hc i hi;exact⟨Ai,ci,λj hj=>(hb.cell hB).trans (h4 j hj),h5.below hb⟩
theorem fT.more{B B':Nat}{l:List Br}(h:fT w B A cap l)(hb:B<=B'):fT w B' A cap l:=by
 exact Za
def Ko{b:Br}(t:(aP b.width 1 1000&&aP b.depth 1 1000&&aP b.length 1 65536&&aP b.count 0 4096&&aP b.cost 0 1073741824)=VD)(h:¬16<ln b.gaps):qH b=aV (uO b) (ln b.gaps):=by
 unfold qH;rw[t,if_neg V9,if_neg h]
def Bg(b:Br)(ga:Option VT)(gc:Nat)(w:Vt)(t:(aP b.width 1 1000&&aP b.depth 1 1000&&aP b.length 1 65536&&aP b.count 0 4096&&aP b.cost 0 1073741824)=Vw):
  VJ prog 142 #[V5 (qU b ga gc).toArray] w λe w'=>e=V0 (VZ VH (qH b))/\Ext w w':=by
 have E0:=Vs (show Ext w (w.alloc (.cells (qU b ga gc).toArray 62)) from(Below.refl _ _).alloc (Vu _) _);have HR:=Vs (show qH b=2 by unfold qH;rw[t,if_pos V9]);obtain⟨n,hn⟩:∃n,ln b.gaps=n:=⟨_,rfl⟩;clear hn;cases t1:aP b.width 1 1000
 ·clear t;go_enter func142,ntmps142;go_wp2_with(go_at_call 204;go_must(refine(eF _ _ _ _).mono ?_);rintro e W1 ⟨rfl,rfl⟩;first|rw[t1]|skip)
  exact Zk
 cases t2:aP b.depth 1 1000
 ·clear t;go_enter func142,ntmps142;go_wp2_with(go_at_call 204;go_must(refine(eF _ _ _ _).mono ?_);rintro e W1 ⟨rfl,rfl⟩;first|rw[t1]|rw[t2]|skip)
  exact Zk
 cases t3:aP b.length 1 65536
 ·clear t;go_enter func142,ntmps142;go_wp2_with(go_at_call 204;go_must(refine(eF _ _ _ _).mono ?_);rintro e W1 ⟨rfl,rfl⟩;first|rw[t1]|rw[t2]|rw[t3]|skip)
  exact Zk
 cases t4:aP b.count 0 4096
 ·clear t;go_enter func142,ntmps142;go_wp2_with(go_at_call 204;go_must(refine(eF _ _ _ _).mono ?_);rintro e W1 ⟨rfl,rfl⟩;first|rw[t1]|rw[t2]|rw[t3]|rw[t4]|skip)
  exact Zk
 rw[t1,t2,t3,t4] at t;have t5:aP b.cost 0 1073741824=Vw:=by simpa using t
 clear t;go_enter func142,ntmps142;go_wp2_with(go_at_call 204;go_must(refine(eF _ _ _ _).mono ?_);rintro e W1 ⟨rfl,rfl⟩;first|rw[t1]|rw[t2]|rw[t3]|rw[t4]|rw[t5]|skip)
 go_ret;exact⟨We,E0.o⟩
def Vj(w:Vt)(b:Br)(i:Vy)(wr:Vt):Prop:=∃k:Nat,k<=ln b.gaps/\i=VZ VH (k:Int)/\Ext w wr/\∀j,j<k->uO b j=0
def CX(b:Br)(ga:Option VT)(gc:Nat)(w:Vt)(hg:bJ 2 w w.heap.size ga gc (di b.gaps)):
  VJ prog 142 #[V5 (qU b ga gc).toArray] w λe w'=>e=V0 (VZ VH (qH b))/\Ext w w':=by
 cases t:(aP b.width 1 1000&&aP b.depth 1 1000&&aP b.length 1 65536&&aP b.count 0 4096&&aP b.cost 0 1073741824)
 ·exact Bg b ga gc w t
 have E0:=Vs (show Ext w (w.alloc (.cells (qU b ga gc).toArray 62)) from(Below.refl _ _).alloc (Vu _) _);have HT:=Vs t;simp only[Bool.and_eq_true] at t;obtain⟨⟨⟨⟨t1,t2⟩,t3⟩,t4⟩,t5⟩:=t;obtain⟨h1,h2,h3⟩:=hg;rw[VC] at h1 h3;unfold VP at h2;by_cases h16:16<ln b.gaps
 ·have HR:=Vs (show qH b=4 by unfold qH;rw[HT.o,if_neg V9,if_pos h16]);clear h3;go_enter func142,ntmps142;go_wp2_with(go_at_call 204;go_must(refine(eF _ _ _ _).mono ?_);rintro e W1 ⟨rfl,rfl⟩;first|rw[t1]|rw[t2]|rw[t3]|rw[t4]|rw[t5]|skip)
  exact Zk
 have HR:=Vs (show qH b=aV (uO b) (ln b.gaps) from Ko HT.o h16);have H3:=Vs h3;have R0:=Vs (ai.new w 62 (qU b ga gc));clear h3;go_enter func142,ntmps142;go_wp2_with(go_at_call 204;go_must(refine(eF _ _ _ _).mono ?_);rintro e W1 ⟨rfl,rfl⟩;first|rw[t1]|rw[t2]|rw[t3]|rw[t4]|rw[t5]|skip)
 obtain⟨w0,hw0⟩:∃w0,w.alloc (.cells (qU b ga gc).toArray 62)=w0:=⟨_,rfl⟩;rw[hw0] at R0 E0;have Z0:=Vs (show w.heap.size<w0.heap.size by rw[<-hw0];simp);simp only[hw0];clear hw0;go_loopw [40] (λi wr=>Vj w0 b i wr) (λi _=>((ln b.gaps:Int)-VN i).toNat)
 case atStart=>exact⟨0,V7,rfl,Below.refl _ _,λj hj=>V7⟩
 case round=>
  obtain⟨k,hk,rfl,hX,hall⟩:=hrel;have HX:=Vs hX;have HA:=Vs hall;clear hX hall;have HRr:=Vs (R0.o.ext HX.o);have c2:=HRr.o.cell 2;have c5:=HRr.o.cell 5;have hzr:=HRr.o.lt;by_cases hlt:k<ln b.gaps
  ·obtain⟨bb,off,rfl,hB,hcell0⟩:=H3.o V7;have hbw:bb<wr.heap.size:=V7;have hcell:=λi hi j hj=>((HX.o.cell (p:=⟨bb,off+2*i+j,Vx⟩) (Nat.lt_trans hB Z0.o)).trans (E0.o.cell (p:=⟨bb,off+2*i+j,Vx⟩) hB)).trans (hcell0 i hi j hj)
   have c1:=hcell k hlt 0 V9;have c1':=hcell k hlt 1 V9;rw[mb hlt] at c1 c1';rw[Nat.add_zero] at c1;rw[VL 2 k] at c1 c1';have hpz:0<k->wr.cell? ⟨bb,off+(k-1)*2+1,Vx⟩=Vz (VZ VH (b.gaps.getD (k-1) (0,0)).2):=λh0=>by
    have:=hcell (k-1) V7 1 V9;rwa[mb V7,VL 2 (k-1)] at this
   have HF:=Vs (show uO b k=if(b.gaps.getD k (0,0)).1<0\/b.length<(b.gaps.getD k (0,0)).2\/(b.gaps.getD k (0,0)).2<=(b.gaps.getD k (0,0)).1 then 2 else if 0<k/\(b.gaps.getD k (0,0)).1<=(b.gaps.getD (k-1) (0,0)).2 then 10 else 0 from rfl);obtain⟨⟨x,y⟩,hx⟩:∃x,b.gaps.getD k (0,0)=x:=⟨_,rfl⟩;obtain⟨⟨z,u⟩,hy⟩:∃y,b.gaps.getD (k-1) (0,0)=y:=⟨_,rfl⟩;rw[hx] at c1 c1' HF;rw[hy] at hpz HF;have HPZ:=Vs hpz;clear hx hy hcell hcell0 hpz;dsimp only at HF;have EX:∀o,Ext w0 (wr.alloc o):=λo=>HX.o.alloc HX.o.size _
   have HEX:=Vs EX;clear EX;by_cases hbad:x<0\/b.length<y\/y<=x
   ·have HE:=Vs (show qH b=2 by rw[HR.o,bS hlt HA.o (by rw[HF.o,if_pos hbad];decide),HF.o,if_pos hbad]);by_cases hb1:x<0
    ·have d1:decide (x<0)=VD:=by rw[decide_eq_true_eq];exact hb1
     exact Zm
    have d1:decide (x<0)=Vw:=by rw[decide_eq_false_iff_not];exact hb1
    by_cases hb2:b.length<y
    ·have d2:decide (b.length<y)=VD:=by rw[decide_eq_true_eq];exact hb2
     exact Zm
    have d2:decide (b.length<y)=Vw:=by rw[decide_eq_false_iff_not];exact hb2
    have hb3:y<=x:=V7;have d3:decide (y<=x)=VD:=by rw[decide_eq_true_eq];exact hb3
    exact Zm
   have d1:decide (x<0)=Vw:=Wd;have d2:decide (b.length<y)=Vw:=Wd;have d3:decide (y<=x)=Vw:=Wd;have HB:=Vs hbad;clear hbad;by_cases h0:0<k
   ·have c3:=HPZ.o h0;have tk:decide (0<(k:Int))=VD:=Wn;have e1:((k:Int)-1).toNat=k-1:=V7;have e2:0<=(k:Int)-1:=V7;have e3:(k:Int)-1<(ln b.gaps:Int):=V7;have e4:(k:Int)<(ln b.gaps:Int):=V7;have e5:VH.wrap ((k:Int)-1)=(k:Int)-1:=VQ _ V7;by_cases hxu:x<=u
    ·have HE:=Vs (show qH b=10 by rw[HR.o,bS hlt HA.o (by rw[HF.o,if_neg HB.o,if_pos ⟨h0,hxu⟩];decide),HF.o,if_neg HB.o,if_pos ⟨h0,hxu⟩]);have d4:decide (x<=u)=VD:=by rw[decide_eq_true_eq];exact hxu
     go_wp2;go_quiet (fail)
     go_wp2;go_ret;exact⟨Wq,below_drewN (E0.o.tr (HEX.o _)) _⟩
    ·have d4:decide (x<=u)=Vw:=by rw[decide_eq_false_iff_not];exact hxu
     have HZ:=Vs (show uO b k=0 by rw[HF.o,if_neg HB.o,if_neg (λh=>hxu h.2)]);exact Zl
   ·have tk:decide (0<(k:Int))=Vw:=Wd;have HZ:=Vs (show uO b k=0 by rw[HF.o,if_neg HB.o,if_neg (λh=>h0 h.1)]);exact Zl
  ·have hlt':decide ((k:Int)<(ln b.gaps:Int))=Vw:=Wd;have HE:=Vs (show qH b=0 by rw[HR.o,be (λj hj=>HA.o j V7)]);go_wp2;go_ret;exact⟨Wq,E0.o.tr HX.o⟩
end
section
open Kp
def Ui(w:Vt)(l:List Br)(i:Vy)(wr:Vt):Prop:=∃k:Nat,k<=ln l/\i=VZ VH (k:Int)/\Ext w wr/\∀j,j<k->qH (l.getD j oN)=0
def Df(w:Vt)(A:Option VT)(cap:Nat)(l:List Br)(hl:fT w w.heap.size A cap l):
  VJ prog 72 #[VV A (ln l) cap] w λe w'=>e=V0 (VZ VH (iM l))/\Ext w w':=by
 have h1:=hl.1;have h2:=hl.2.1;unfold VP at h2;by_cases h16:64<ln l
 ·have HR:=Vs (show iM l=4 by unfold iM;rw[if_pos h16]);clear hl;go_enter func72,ntmps72;go_wp2;go_ret;exact⟨We,Ext.aC _⟩
 have HR:=Vs (show iM l=aV (λi=>qH (l.getD i oN)) (ln l) by unfold iM;rw[if_neg h16]);have HL:=Vs hl;clear hl;go_enter func72,ntmps72;go_wp2;go_loopw [11] (λi wr=>Ui w l i wr) (λi _=>((ln l:Int)-VN i).toNat)
 case atStart=>exact⟨0,V7,rfl,Below.refl _ _,λj hj=>V7⟩
 case round=>
  obtain⟨k,hk,rfl,hX,hall⟩:=hrel;have HX:=Vs hX;have HA:=Vs hall;have hlw:=HL.o.below hX;clear hX hall;by_cases hlt:k<ln l
  ·obtain⟨b,off,rfl,hB,hcell⟩:=hlw.2.2 V7;obtain⟨ga,gc,hc,hg⟩:=hcell k hlt;have hbw:b<wr.heap.size:=Nat.lt_of_lt_of_le hB HX.o.size;have c0:=hc 0 V9;have c1:=hc 1 V9;have c2:=hc 2 V9;have c3:=hc 3 V9;have c4:=hc 4 V9;have c5:=hc 5 V9;rw[VL] at c0 c1 c2 c3 c4 c5;rw[Nat.add_zero] at c0;obtain⟨x,hx⟩:∃x,l.getD k oN=x:=⟨_,rfl⟩;rw[hx] at c0 c1 c2 c3 c4 c5 hg;have EX:=Vs (λ(p:Obj)=>(HX.o.alloc HX.o.size p:Ext w (wr.alloc p)));have hzz:=HX.o.size;have KS:=Vs (λ(p:Obj)=>CX x ga gc (wr.alloc p) ((hg.below (((Below.refl _ _).alloc (Vu _) p).mono hzz)).more Wf));have HF:=Vs (show qH (l.getD k oN)=qH x by rw[hx]);obtain⟨c,hcc⟩:∃c,qH x=c:=⟨_,rfl⟩;rw[hcc] at HF;simp only[hcc] at KS;clear hlw hcell hc hg hx hcc;by_cases hc0:c=0
   ·have HZ:=Vs (show∀j,j<k+1->qH (l.getD j oN)=0 fromλj hj=>by
     by_cases hjk:j=k
     ·rw[hjk,HF.o];exact hc0
     ·exact HA.o j V7)
    subst hc0;go_wp2_with(go_at_call 142;go_must(refine(KS.o _).mono ?_);rintro e W1 ⟨rfl,hX1⟩)
    exact⟨⟨k+1,V7,Wa,Ext.tr (EX.o _) hX1,HZ.o⟩,Wc⟩
   ·have HV:=Vs (show iM l=c by rw[HR.o,bS hlt HA.o (by show qH (l.getD k oN)≠0;rw[HF.o];exact hc0)];exact HF.o);have tc:(c !=0)=VD:=XF;go_wp2_with(go_at_call 142;go_must(refine(KS.o _).mono ?_);rintro e W1 ⟨rfl,hX1⟩)
    go_ret;exact⟨Wy,Ext.tr (EX.o _) hX1⟩
  ·have hlt':decide ((k:Int)<(ln l:Int))=Vw:=Wd;have HE:=Vs (show iM l=0 by rw[HR.o,be (λj hj=>HA.o j V7)]);clear hlw;exact Zn
end
section
open Kp
abbrev GF(x:Sz):List Vy:=[VZ VH x.kind,VZ VH x.width,VZ VH x.depth]
abbrev bL(l:List Sz):List (List Vy):=l.map GF
theorem xV{l:List Sz}(hi:i<ln l):(bL l).getD i []=GF (l.getD i iI):=by
 exact Y4
def Af(l:List Sz):de 3 (bL l):=bC (f:=GF) (λ_=>rfl) l
def ph(l:List Sz)(k:Nat)(j:Nat):Bool:=cz (λi=>(l.getD i iI).kind==(j:Int)) k
def fY(w:Vt)(b:Nat)(l:List Sz)(k:Nat):Prop:=
 ∃cs:Array Vy,w.heap[b]?=Vz (.cells cs 176 (0,0))/\cs.size=13/\∀j,j<13->cs[j]?=Vz (VX (ph l k j))
theorem fY.cell{l:List Sz}{k j:Nat}(h:fY w b l k)(hj:j<13):w.cell? ⟨b,j,Vx⟩=Vz (VX (ph l k j)):=by
 obtain⟨cs,h1,h2,h3⟩:=h;simp[World.cell?,h1,h3 j hj]
theorem fY.frozen{l:List Sz}(h:fY w b l k)(j:Nat):w.frozen? ⟨b,j,Vx⟩=Vw:=by
 obtain⟨cs,h1,h2,h3⟩:=h;simp[World.frozen?,h1]
theorem fY.lt{l:List Sz}(h:fY w b l k):b<w.heap.size:=by
 obtain⟨cs,h1,_⟩:=h;exact(VF.1 h1).1
theorem fY.ext{l:List Sz}(h:fY w b l k)(hx:Ext w w'):fY w' b l k:=by
 obtain⟨cs,h1,h2⟩:=h;exact⟨cs,(hx.block b (VF.1 h1).1).trans h1,h2⟩
theorem fY.next{l:List Sz}{k d:Nat}(h:fY w b l k)(hd:d<13)(hk:(l.getD k iI).kind=(d:Int)):fY (w.setCell ⟨b,d,Vx⟩ (VX VD)) b l (k+1):=by
 obtain⟨cs,h1,h2,h3⟩:=h;refine⟨cs.setIfInBounds d (VX VD),?_,by simpa using h2,λj hj=> ?_⟩
 ·have hlt:=(VF.1 h1).1;simp[World.setCell,Array.getElem?_modify,h1]
 ·by_cases hjd:d=j
  ·subst hjd;rw[Array.getElem?_setIfInBounds_self_of_lt V7];have:ph l (k+1) d=VD:=by unfold ph;rw[cz,hk];simp
   rw[this]
  ·rw[Array.getElem?_setIfInBounds_ne hjd,h3 j hj];have:ph l (k+1) j=ph l k j:=by
    unfold ph;rw[cz,hk];have:((d:Int)==(j:Int))=Vw:=Wj;rw[this,Bool.or_false]
   rw[this]
def fY.start(w:Vt)(l:List Sz)(cs:Array Vy)(h:cs=#[VX Vw,VX Vw,VX Vw,VX Vw,VX Vw,VX Vw,VX Vw,VX Vw,VX Vw,VX Vw,VX Vw,VX Vw,VX Vw]):fY (w.alloc (.cells cs 176)) w.heap.size l 0:=by
 subst h;refine⟨_,VG w _,rfl,λj hj=> ?_⟩;rcases(show j=0\/j=1\/j=2\/j=3\/j=4\/j=5\/j=6\/j=7\/j=8\/j=9\/j=10\/j=11\/j=12 by omega) with rfl|rfl|rfl|rfl|rfl|rfl|rfl|rfl|rfl|rfl|rfl|rfl|rfl<;>rfl
structure Ve(w:Vt)(l:List Sz)(i:Vy)(wr:Vt):Prop where
 ex:∃k:Nat,k<=ln l/\i=VZ VH (k:Int)/\fY wr w.heap.size l k/\∀j,j<k->jT l j=0
 low:VS w.heap.size w wr
def El(w:Vt)(A:Option VT)(cap:Nat)(l:List Sz)(hl:bJ 3 w w.heap.size A cap (bL l)):
  VJ prog 70 #[VV A (ln l) cap] w λe w'=>e=V0 (VZ VH (fW l))/\Ext w w':=by
 obtain⟨h1,h2,h3⟩:=hl;rw[VC] at h1 h3;unfold VP at h2;have H3:=Vs h3;clear h3;go_enter func70,ntmps70;go_wp2;go_loopw [8] (λi wr=>Ve w l i wr) (λi _=>((ln l:Int)-VN i).toNat)
 case atStart=>exact⟨⟨0,V7,rfl,fY.start _ _ _ rfl,λj hj=>V7⟩,(Below.refl _ _).alloc (Vu _) _⟩
 case round=>
  obtain⟨⟨k,hk,rfl,hse,hall⟩,hX⟩:=hrel;have HX:=Vs hX;have HA:=Vs hall;have HSE:=Vs hse;clear hX hall hse;by_cases hlt:k<ln l
  ·obtain⟨b,off,rfl,hB,hcell0⟩:=H3.o V7;have hbw:b<wr.heap.size:=Nat.lt_of_lt_of_le hB HX.o.size;have HC:=Vs (λi hi j hj=>(HX.o.cell (p:=⟨b,off+3*i+j,Vx⟩) hB).trans (hcell0 i hi j hj));have c0:=HC.o k hlt 0 V9;have c1:=HC.o k hlt 1 V9;have c2:=HC.o k hlt 2 V9;rw[xV hlt,VL] at c0 c1 c2;rw[Nat.add_zero] at c0;have HF:=Vs (show jT l k=if(l.getD k iI).kind<1\/13<=(l.getD k iI).kind then 8 else if min (l.getD k iI).width (l.getD k iI).depth<1\/1000<max (l.getD k iI).width (l.getD k iI).depth then 2 else if cz (λm=>(l.getD m iI).kind==(l.getD k iI).kind) k then 7 else 0 from rfl);obtain⟨⟨kd,wd,dp⟩,hx⟩:∃x,l.getD k iI=x:=⟨_,rfl⟩;rw[hx] at c0 c1 c2 HF;dsimp only at HF;have HK:=Vs (show(l.getD k iI).kind=kd by rw[hx]);clear hx hcell0 HC;have EX:=Vs (λo=>(HX.o.alloc HX.o.size o:VS w.heap.size w (wr.alloc o)));have HG:=Vs (λ(h:jT l k=0)=>(show∀j,j<k+1->jT l j=0 fromλj hj=>by
    by_cases hjk:j=k
    ·rw[hjk];exact h
    ·exact HA.o j V7))
   have HV:=Vs (λ(c:Int) (h:jT l k=c) (h0:c≠0)=>(show fW l=c by unfold fW;rw[bS hlt HA.o (by rw[h];exact h0),h]));by_cases b1:kd<1
   ·exact Zr
   have d1:decide (kd<1)=Vw:=by rw[decide_eq_false_iff_not];exact b1
   by_cases b2:13<=kd
   ·have d2:decide (13<=kd)=VD:=by rw[decide_eq_true_eq];exact b2
    exact Zq
   have d2:decide (13<=kd)=Vw:=by rw[decide_eq_false_iff_not];exact b2
   by_cases b3:min wd dp<1
   ·have d3:decide (min wd dp<1)=VD:=by rw[decide_eq_true_eq];exact b3
    exact Zp
   have d3:decide (min wd dp<1)=Vw:=by rw[decide_eq_false_iff_not];exact b3
   by_cases b4:1000<max wd dp
   ·have d4:decide (1000<max wd dp)=VD:=by rw[decide_eq_true_eq];exact b4
    exact Zo
   have d4:decide (1000<max wd dp)=Vw:=by rw[decide_eq_false_iff_not];exact b4
   obtain⟨d,hd,rfl⟩:∃d:Nat,d<13/\kd=(d:Int):=⟨kd.toNat,V7,V7⟩;have hcs:=HSE.o.cell hd;have hfs:=HSE.o.frozen d;have hbz:=HSE.o.lt;have hd1:(d:Int)<13:=V7;have hd2:0<=(d:Int):=V7;have hd3:(d:Int).toNat=d:=V7;have HSN:=Vs (show ph l k d=cz (λm=>(l.getD m iI).kind==(d:Int)) k from rfl);have HW:=Vs (show jT l k=if ph l k d then 7 else 0 by rw[HF.o,if_neg V7,if_neg V7];rfl);obtain⟨s,hs⟩:∃s,ph l k d=s:=⟨_,rfl⟩;rw[hs] at hcs HW;clear hs;cases s
   ·have HZ:=Vs (HG.o (by rw[HW.o];rfl));go_wp2;refine⟨⟨⟨k+1,V7,Wa,?_,HZ.o⟩,?_⟩,Wc⟩
    ·exact(HSE.o.next hd HK.o).ext ((Below.refl _ _).alloc (Vu _) _)
    ·exact(HX.o.setCell (p:=⟨w.heap.size,d,Vx⟩) (Vu _) _).alloc (by simpa[World.setCell] using HX.o.size) _
   ·have HE:=Vs (HV.o 7 (by rw[HW.o];rfl) V9);go_wp2;go_ret;exact⟨Wq,EX.o _⟩
  ·have hlt':decide ((k:Int)<(ln l:Int))=Vw:=Wd;have HE:=Vs (show fW l=0 by unfold fW;rw[be (λj hj=>HA.o j V7)]);exact Zn
end
section
open Kp
abbrev Qr(x:Ld):List Vy:=[VZ VH x.kind,VZ VH x.side,VW (tx x.weight)]
abbrev bW(l:List Ld):List (List Vy):=l.map Qr
theorem Jm{l:List Ld}(hi:i<ln l):(bW l).getD i []=Qr (l.getD i po):=by
 exact Y4
def oJ(l:List Ld):de 3 (bW l):=bC (f:=Qr) (λ_=>rfl) l
def QN(a:List UInt8):Nat:=match dP a with|none=>0|some (n,d)=>max (own n).length (ln d)
noncomputable def CJ(a:List UInt8):Int:=if bU a≠0 then bU a else if 20<QN a then 4 else if Lib.hasPrefix a [45] then 2 else 0
noncomputable def mX(l:List Ld)(i:Nat):Int:=
 if(l.getD i po).kind<1\/3<(l.getD i po).kind then 8 else if(l.getD i po).side< -1\/24<=(l.getD i po).side then 2 else CJ (l.getD i po).weight
noncomputable def gm(l:List Ld):Int:=if 64<ln l then 4 else aV (mX l) (ln l)
def uG(s:List UInt8)(w:Vt):VJ prog 206 #[VW (tx s),VW ⟨#[45]⟩] w λe w'=>e=V0 (VX (Lib.hasPrefix s [45]))/\w'=w:=by
 have:=strings_HasPrefix (tx s) (tx [45]) w;rw[bf,bf] at this;exact this
def Da(a:List UInt8)(w:Vt)(hs:ln a<=300000)(hm:fG w)(ht:aW w)(h0:bU a=0):VJ prog 205 #[VW (tx a)] w λe w'=>e=V0 (VZ VH (QN a:Int))/\Ext w w':=by
 have cr:=Vs (vf a w hs hm ht);rw[h0] at cr;obtain⟨n,d,hnd⟩:∃n d,dP a=Vz (n,d):=by
  unfold bU at h0;cases hcu:dP a with
  |none=>rw[hcu] at h0;cases h0
  |some p=>exact⟨p.1,p.2,rfl⟩
 have HN:=Vs (show QN a=max (own n).length (ln d) by unfold QN;rw[hnd]);have HC:=Vs hnd;have hl:=qG hnd;have ho:=qI n;clear hm ht h0 hnd;obtain⟨o,hoo⟩:∃o,own n=o:=⟨_,rfl⟩;rw[hoo] at HN ho;have HO:=Vs hoo;clear hoo;go_enter func205,ntmps205;go_wp2_with(first
  |(go_at_call 242;go_must(refine cr.o.mono ?_);rintro e W1 ⟨x,y,rfl,hp,hX1⟩;obtain⟨n',d',e1,rfl,rfl⟩:=hp rfl;rw[HC.o] at e1;obtain⟨rfl,rfl⟩:n=n'/\d=d':=by{injection e1 with e1;injection e1 with e2 e3;exact⟨e2,e3⟩})
  |(go_at_call 243;go_must(refine(dC _ _).mono ?_);rintro e W2 ⟨rfl,rfl⟩;rw[HO.o]))
 go_ret;exact⟨by rw[HN.o];exact Az V7,hX1⟩
def BS(a:List UInt8)(w:Vt)(hs:ln a<=300000)(hm:fG w)(ht:aW w):VJ prog 144 #[VW (tx a)] w λe w'=>e=V0 (VZ VH (CJ a))/\Ext w w':=by
 have K1:=Vs (uD a w hs hm ht);have K3:=Vs (λW=>uG a W);by_cases h0:bU a=0
 ·have K2:=Vs (λ(W:Vt) (h:Ext w W)=>Da a W hs (hm.below h (Vu _)) (ht.below h (Vu _)) h0);have HW:=Vs (show CJ a=if 20<QN a then 4 else if Lib.hasPrefix a [45] then 2 else 0 by unfold CJ;rw[if_neg (λh=>h h0)]);rw[h0] at K1;clear hm ht h0;obtain⟨n,hn⟩:∃n,QN a=n:=⟨_,rfl⟩;rw[hn] at HW;simp only[hn] at K2;obtain⟨b,hb⟩:∃b,Lib.hasPrefix a [45]=b:=⟨_,rfl⟩;rw[hb] at HW;simp only[hb] at K3;clear hn hb;by_cases h20:20<n
  ·have HV:=Vs (show CJ a=4 by rw[HW.o,if_pos h20]);have t:decide (20<(n:Int))=VD:=Wn;go_enter func144,ntmps144;go_wp2_with(first
    |(go_at_call 183;go_must(refine K1.o.mono ?_);rintro e W1 ⟨rfl,hX1⟩)
    |(go_at_call 205;go_must(refine(K2.o _ hX1).mono ?_);rintro e W2 ⟨rfl,hX2⟩))
   go_ret;exact⟨Wy,Ext.tr hX1 hX2⟩
  ·have t:decide (20<(n:Int))=Vw:=Wd;cases b
   ·have HV:=Vs (show CJ a=0 by rw[HW.o,if_neg h20];rfl);exact Zs
   ·have HV:=Vs (show CJ a=2 by rw[HW.o,if_neg h20];rfl);exact Zs
 ·have HV:=Vs (show CJ a=bU a by unfold CJ;rw[if_pos h0]);obtain⟨c,hc⟩:∃c,bU a=c:=⟨_,rfl⟩;rw[hc] at K1 HV h0;have t:(c !=0)=VD:=by rw[bne_iff_ne];exact h0
  clear hm ht h0 hc;go_enter func144,ntmps144;go_wp2_with(go_at_call 183;go_must(refine K1.o.mono ?_);rintro e W1 ⟨rfl,hX1⟩)
  go_ret;exact⟨Wy,hX1⟩
def Vd(w:Vt)(l:List Ld)(i:Vy)(wr:Vt):Prop:=∃k:Nat,k<=ln l/\i=VZ VH (k:Int)/\Ext w wr/\∀j,j<k->mX l j=0
def DO(w:Vt)(A:Option VT)(cap:Nat)(l:List Ld)(hl:bJ 3 w w.heap.size A cap (bW l))(hs:∀x∈l,ln x.weight<=300000)(hm:fG w)(ht:aW w):
  VJ prog 74 #[VV A (ln l) cap] w λe w'=>e=V0 (VZ VH (gm l))/\Ext w w':=by
 obtain⟨h1,h2,h3⟩:=hl;rw[VC] at h1 h3;unfold VP at h2;by_cases h16:64<ln l
 ·have HR:=Vs (show gm l=4 by unfold gm;rw[if_pos h16]);clear h3 hs hm ht;go_enter func74,ntmps74;go_wp2;go_ret;exact⟨We,Ext.aC _⟩
 have HR:=Vs (show gm l=aV (mX l) (ln l) by unfold gm;rw[if_neg h16]);have H3:=Vs h3;have HS:=Vs hs;have HM:=Vs hm;have HT:=Vs ht;clear h3 hs hm ht;go_enter func74,ntmps74;go_wp2;go_loopw [11] (λi wr=>Vd w l i wr) (λi _=>((ln l:Int)-VN i).toNat)
 case atStart=>exact⟨0,V7,rfl,Below.refl _ _,λj hj=>V7⟩
 case round=>
  obtain⟨k,hk,rfl,hX,hall⟩:=hrel;have HX:=Vs hX;have HA:=Vs hall;clear hX hall;by_cases hlt:k<ln l
  ·obtain⟨b,off,rfl,hB,hcell0⟩:=H3.o V7;have hbw:b<wr.heap.size:=Nat.lt_of_lt_of_le hB HX.o.size;have HC:=Vs (λi hi j hj=>(HX.o.cell (p:=⟨b,off+3*i+j,Vx⟩) hB).trans (hcell0 i hi j hj));have c0:=HC.o k hlt 0 V9;have c1:=HC.o k hlt 1 V9;have c2:=HC.o k hlt 2 V9;rw[Jm hlt,VL] at c0 c1 c2;rw[Nat.add_zero] at c0;have HF:=Vs (show mX l k=if(l.getD k po).kind<1\/3<(l.getD k po).kind then 8 else if(l.getD k po).side< -1\/24<=(l.getD k po).side then 2 else CJ (l.getD k po).weight from rfl);have hwl:=HS.o (l.getD k po) (by rw[Vv,VA hlt];exact List.getElem_mem hlt);obtain⟨⟨kd,sd,wg⟩,hx⟩:∃x,l.getD k po=x:=⟨_,rfl⟩;rw[hx] at c0 c1 c2 HF hwl;dsimp only at HF hwl;clear hx hcell0 HC;have EX:=Vs (λo=>(HX.o.alloc HX.o.size o:Ext w (wr.alloc o)));have HG:=Vs (λ(h:mX l k=0)=>(show∀j,j<k+1->mX l j=0 fromλj hj=>by
    by_cases hjk:j=k
    ·rw[hjk];exact h
    ·exact HA.o j V7))
   have HV:=Vs (λ(c:Int) (h:mX l k=c) (h0:c≠0)=>(show gm l=c by rw[HR.o,bS hlt HA.o (by rw[h];exact h0),h]));by_cases b1:kd<1
   ·exact Zr
   have d1:decide (kd<1)=Vw:=by rw[decide_eq_false_iff_not];exact b1
   by_cases b2:3<kd
   ·have d2:decide (3<kd)=VD:=by rw[decide_eq_true_eq];exact b2
    exact Zq
   have d2:decide (3<kd)=Vw:=by rw[decide_eq_false_iff_not];exact b2
   by_cases b3:sd< -1
   ·have d3:decide (sd< -1)=VD:=by rw[decide_eq_true_eq];exact b3
    exact Zp
   have d3:decide (sd< -1)=Vw:=by rw[decide_eq_false_iff_not];exact b3
   by_cases b4:24<=sd
   ·have d4:decide (24<=sd)=VD:=by rw[decide_eq_true_eq];exact b4
    exact Zo
   have d4:decide (24<=sd)=Vw:=by rw[decide_eq_false_iff_not];exact b4
   have HW:=Vs (show mX l k=CJ wg by rw[HF.o,if_neg V7,if_neg V7]);have KW:=Vs (λ(o:Obj)=>BS wg (wr.alloc o) hwl (HM.o.below (EX.o o) (Vu _)) (HT.o.below (EX.o o) (Vu _)));obtain⟨c,hc⟩:∃c,CJ wg=c:=⟨_,rfl⟩;rw[hc] at HW;simp only[hc] at KW;clear hc hwl;by_cases hc0:c=0
   ·have HZ:=Vs (HG.o (by rw[HW.o,hc0]));subst hc0;go_wp2_with(go_at_call 144;go_must(refine(KW.o _).mono ?_);rintro e W2 ⟨rfl,hX2⟩)
    exact⟨⟨k+1,V7,Wa,Ext.tr (EX.o _) hX2,HZ.o⟩,Wc⟩
   ·have HE:=Vs (HV.o c HW.o hc0);have tc:(c !=0)=VD:=XF;go_wp2_with(go_at_call 144;go_must(refine(KW.o _).mono ?_);rintro e W2 ⟨rfl,hX2⟩)
    go_ret;exact⟨Wq,Ext.tr (EX.o _) hX2⟩
  ·have hlt':decide ((k:Int)<(ln l:Int))=Vw:=Wd;have HE:=Vs (show gm l=0 by rw[HR.o,be (λj hj=>HA.o j V7)]);exact Zn
end
section
open Kp
abbrev j9(x:Aw):List Vy:=[VZ VH x.width,VZ VH x.depth,VZ VH x.spacing,VZ VH x.load,VZ VH x.span]
abbrev bF(l:List Aw):List (List Vy):=l.map j9
theorem ow{l:List Aw}(hi:i<ln l):(bF l).getD i []=j9 (l.getD i nI):=by
 exact Y4
def Gm(l:List Aw):de 5 (bF l):=bC (f:=j9) (λ_=>rfl) l
structure ON(x:Aw):Prop where
 w1:0<=x.width
 w2:x.width<=1048576
 d1:0<=x.depth
 d2:x.depth<=1048576
 s1:0<=x.spacing
 s2:x.spacing<=1048576
 l1:0<=x.load
 l2:x.load<=1048576
def F6{x:Aw}(h:jZ x=VD):ON x:=by
 unfold jZ at h;simp only[Bool.and_eq_true,aP,decide_eq_true_eq] at h;obtain⟨⟨⟨⟨⟨_,_⟩,_,_⟩,_,_⟩,_,_⟩,_,_⟩:=h;constructor <;>omega
def E8(a b:Aw)(w:Vt)(ha:ON a)(hb:ON b):VJ prog 147 #[V5 (j9 a).toArray,V5 (j9 b).toArray] w λe w'=>e=V0 (VZ VH (qF a b))/\Ext w w':=by
 obtain⟨a1,a2,a3,a4,a5,a6,a7,a8⟩:=ha;obtain⟨b1,b2,b3,b4,b5,b6,b7,b8⟩:=hb;have E3:=Vs (AU w (.cells (j9 a).toArray 66) (.cells (j9 b).toArray 66) (.cells [VZ VH (a.width-b.width),VZ VH (a.depth-b.depth),VZ VH (a.spacing-b.spacing),VZ VH (a.load-b.load)].toArray 3));have r3:=(ai.new ((w.alloc (.cells (j9 a).toArray 66)).alloc (.cells (j9 b).toArray 66)) 3 [VZ VH (a.width-b.width),VZ VH (a.depth-b.depth),VZ VH (a.spacing-b.spacing),VZ VH (a.load-b.load)]);rw[VK,VK] at r3;have R3:=Vs r3;clear r3;have HR:=Vs (show qF a b=DK (a.width-b.width) (a.depth-b.depth) (a.spacing-b.spacing) (a.load-b.load) from rfl);go_enter func147,ntmps147;go_wp2_with(go_at_call 208;go_must((with_reducible refine(xh _ _ _ 3 _ _ _ _ R3.o).mono ?_));rintro e W1 ⟨rfl,rfl⟩)
 go_ret;exact⟨We,E3.o⟩
def Hh{l:List Aw}(h:¬4096<ln l):gG l=aV (jM l) (ln l):=by unfold gG;rw[if_neg h]
def DQ(x:Aw):jZ x=((aP x.width 1 1000&&aP x.depth 1 1000&&(aP x.spacing 1 65536&&aP x.load 0 1048576))&&aP x.span 1 65536):=by unfold jZ;simp only[Bool.and_assoc]
def Vq(w:Vt)(l:List Aw)(i:Vy)(wr:Vt):Prop:=∃k:Nat,k<=ln l/\i=VZ VH (k:Int)/\Ext w wr/\∀j,j<k->jM l j=0
def AH(w:Vt)(A:Option VT)(cap:Nat)(l:List Aw)(hl:bJ 5 w w.heap.size A cap (bF l)):
  VJ prog 75 #[VV A (ln l) cap] w λe w'=>e=V0 (VZ VH (gG l))/\Ext w w':=by
 obtain⟨h1,h2,h3⟩:=hl;rw[VC] at h1 h3;unfold VP at h2;by_cases h16:4096<ln l
 ·have HR:=Vs (show gG l=4 by unfold gG;rw[if_pos h16]);clear h3;go_enter func75,ntmps75;go_wp2;go_ret;exact⟨We,Ext.aC _⟩
 have HR:=Vs (Hh h16);have H3:=Vs h3;clear h3;go_enter func75,ntmps75;go_wp2;go_loopw [10] (λi wr=>Vq w l i wr) (λi _=>((ln l:Int)-VN i).toNat)
 case atStart=>exact⟨0,V7,rfl,Below.refl _ _,λj hj=>V7⟩
 case round=>
  obtain⟨k,hk,rfl,hX,hall⟩:=hrel;have HX:=Vs hX;have HA:=Vs hall;clear hX hall;by_cases hlt:k<ln l
  ·obtain⟨b,off,rfl,hB,hcell0⟩:=H3.o V7;have hbw:b<wr.heap.size:=Nat.lt_of_lt_of_le hB HX.o.size;have HC:=Vs (λi hi j hj=>(HX.o.cell (p:=⟨b,off+5*i+j,Vx⟩) hB).trans (hcell0 i hi j hj));have c0:=HC.o k hlt 0 V9;have c1:=HC.o k hlt 1 V9;have c2:=HC.o k hlt 2 V9;have c3:=HC.o k hlt 3 V9;have c4:=HC.o k hlt 4 V9;rw[ow hlt,VL] at c0 c1 c2 c3 c4;rw[Nat.add_zero] at c0;have HF:=Vs (show jM l k=if !jZ (l.getD k nI) then 2 else if 0<k/\0<=qF (l.getD (k-1) nI) (l.getD k nI) then 10 else 0 from rfl);obtain⟨x,hx⟩:∃x,l.getD k nI=x:=⟨_,rfl⟩;rw[hx] at c0 c1 c2 c3 c4 HF;have HXE:=Vs hx;clear hx hcell0;have RX:=Vs (ai.new wr 66 (j9 x));have EX:=Vs (λo=>(HX.o.alloc HX.o.size o:Ext w (wr.alloc o)));have HG:=Vs (λ(h:jM l k=0)=>(show∀j,j<k+1->jM l j=0 fromλj hj=>by
    by_cases hjk:j=k
    ·rw[hjk];exact h
    ·exact HA.o j V7))
   have HRA:=Vs (DQ x);obtain⟨r1,hr1⟩:∃r,(aP x.width 1 1000&&aP x.depth 1 1000&&(aP x.spacing 1 65536&&aP x.load 0 1048576))=r:=⟨_,rfl⟩;obtain⟨r2,hr2⟩:∃r,aP x.span 1 65536=r:=⟨_,rfl⟩;rw[hr1,hr2] at HRA;have K1:=Vs (λW=>CO x.width x.depth x.spacing x.load W);have K2:=Vs (λW=>gN x.span 1 65536 W);simp only[hr1] at K1;simp only[hr2] at K2;clear hr1 hr2;cases r1
   ·have HV:=Vs (show gG l=2 by rw[HR.o,bS hlt HA.o (by rw[HF.o,HRA.o,if_pos Wl];decide),HF.o,HRA.o,if_pos Wl]);go_wp2_with(go_at_call 145;go_must(refine(K1.o _).mono ?_);rintro e W1 ⟨rfl,rfl⟩)
    go_ret;exact⟨Wy,EX.o _⟩
   cases r2
   ·have HV:=Vs (show gG l=2 by rw[HR.o,bS hlt HA.o (by rw[HF.o,HRA.o,if_pos Wl];decide),HF.o,HRA.o,if_pos Wl]);go_wp2_with(first
     |(go_at_call 145;go_must(refine(K1.o _).mono ?_);rintro e W1 ⟨rfl,rfl⟩)
     |(go_at_call 146;go_must(refine(K2.o _).mono ?_);rintro e W1 ⟨rfl,rfl⟩))
    go_ret;exact⟨Wy,EX.o _⟩
   have HFX:=Vs (show jM l k=if 0<k/\0<=qF (l.getD (k-1) nI) x then 10 else 0 by rw[HF.o,HRA.o,if_neg V9]);have hokx:=F6 (x:=x) HRA.o;by_cases h0:0<k
   ·have tk:decide (0<(k:Int))=VD:=Wn;have e1:((k:Int)-1).toNat=k-1:=V7;have e2:0<=(k:Int)-1:=V7;have e3:(k:Int)-1<(ln l:Int):=V7;have e4:(k:Int)<(ln l:Int):=V7;have e6:1<=(k:Int):=V7;have e5:VH.wrap ((k:Int)-1)=(k:Int)-1:=VQ _ V7;have hz:=HA.o (k-1) V7;have hokp:ON (l.getD (k-1) nI):=by
     refine F6 ?_;cases hra:jZ (l.getD (k-1) nI)
     ·unfold jM at hz;rw[hra] at hz;simp at hz
     ·rfl
    have p0:=HC.o (k-1) V7 0 V9;have p1:=HC.o (k-1) V7 1 V9;have p2:=HC.o (k-1) V7 2 V9;have p3:=HC.o (k-1) V7 3 V9;have p4:=HC.o (k-1) V7 4 V9;rw[ow V7,VL] at p0 p1 p2 p3 p4;rw[Nat.add_zero] at p0;obtain⟨y,hy⟩:∃y,l.getD (k-1) nI=y:=⟨_,rfl⟩;rw[hy] at p0 p1 p2 p3 p4 HFX hokp;have KO:=Vs (λW=>E8 y x W hokp hokx);obtain⟨c,hc⟩:∃c,qF y x=c:=⟨_,rfl⟩;rw[hc] at HFX;simp only[hc] at KO;clear hy hz hokp hokx hc;go_wp2_with(first
     |(go_at_call 145;go_must(refine(K1.o _).mono ?_);rintro e W1 ⟨rfl,rfl⟩)
     |(go_at_call 146;go_must(refine(K2.o _).mono ?_);rintro e W1 ⟨rfl,rfl⟩))
    refine dx 9 V8 V8 (λW2 hW2=> ?_);have rx:ai W2 wr.heap.size 66 (j9 x):=RX.o.ext hW2;have hw2:Ext wr W2:=Fs hW2;have q0:=(hw2.cell (p:=⟨b,off+(k-1)*5,Vx⟩) hbw).trans p0;have q1:=(hw2.cell (p:=⟨b,off+(k-1)*5+1,Vx⟩) hbw).trans p1;have q2:=(hw2.cell (p:=⟨b,off+(k-1)*5+2,Vx⟩) hbw).trans p2;have q3:=(hw2.cell (p:=⟨b,off+(k-1)*5+3,Vx⟩) hbw).trans p3;have q4:=(hw2.cell (p:=⟨b,off+(k-1)*5+4,Vx⟩) hbw).trans p4;have y0:=rx.cell 0;have y1:=rx.cell 1;have y2:=rx.cell 2;have y3:=rx.cell 3;have y4:=rx.cell 4;have HW2:=Vs hw2;clear rx hw2 hW2 c0 c1 c2 c3 c4 p0 p1 p2 p3 p4;simp only[List.take_succ_cons,List.take_zero,List.drop_succ_cons,List.drop_zero]
    repeat still_step
    refine wpStill_nil ?_;by_cases hc0:0<=c
    ·have tc:decide (0<=c)=VD:=by rw[decide_eq_true_eq];exact hc0
     have HV:=Vs (show gG l=10 by rw[HR.o,bS hlt HA.o (by rw[HFX.o,if_pos ⟨h0,hc0⟩];decide),HFX.o,if_pos ⟨h0,hc0⟩]);go_wp2_with(go_at_call 147;go_must(refine(KO.o _).mono ?_);rintro e W3 ⟨rfl,hX3⟩)
     go_ret;exact⟨Wy,(HX.o.tr HW2.o).tr hX3⟩
    ·have tc:decide (0<=c)=Vw:=by rw[decide_eq_false_iff_not];exact hc0
     have HZ:=Vs (HG.o (by rw[HFX.o,if_neg (λh=>hc0 h.2)]));go_wp2_with(go_at_call 147;go_must(refine(KO.o _).mono ?_);rintro e W3 ⟨rfl,hX3⟩)
     exact⟨⟨k+1,V7,Wa,(HX.o.tr HW2.o).tr hX3,HZ.o⟩,Wc⟩
   ·have tk:decide (0<(k:Int))=Vw:=Wd;have HZ:=Vs (HG.o (by rw[HFX.o,if_neg (λh=>h0 h.1)]));clear hokx;go_wp2_with(first
     |(go_at_call 145;go_must(refine(K1.o _).mono ?_);rintro e W1 ⟨rfl,rfl⟩)
     |(go_at_call 146;go_must(refine(K2.o _).mono ?_);rintro e W1 ⟨rfl,rfl⟩))
    go_quiet (fail)
    go_wp2;exact⟨⟨k+1,V7,Wa,below_drewN (EX.o _) _,HZ.o⟩,Wc⟩
  ·have hlt':decide ((k:Int)<(ln l:Int))=Vw:=Wd;have HE:=Vs (show gG l=0 by rw[HR.o,be (λj hj=>HA.o j V7)]);exact Zn
end
section
open Kp
abbrev bG(l:List Int):List (List Vy):=l.map λn=>[VZ VH n]
def vh(l:List Int)(i:Nat):Int:=if !aP (l.getD i 0) 0 1048576 then 2 else if 0<i/\l.getD i 0<=l.getD (i-1) 0 then 10 else 0
def s7(l:List Int):iT l=if 16<ln l then 4 else aV (vh l) (ln l):=rfl
theorem gL{l:List Int}(hi:i<ln l):((bG l).getD i [])[0]?=Vz (VZ VH (l.getD i 0)):=by
 exact Y4
def zg(w:Vt)(A:Option VT)(cap:Nat)(l:List Int)(hl:bJ 1 w w.heap.size A cap (bG l)):
  VJ prog 66 #[VV A (ln l) cap] w λe w'=>e=V0 (VZ VH (iT l))/\w'=w:=by
 obtain⟨h1,h2,h3⟩:=hl;rw[VC] at h1 h3;unfold VP at h2;by_cases h16:16<ln l
 ·have HR:=Vs (show iT l=4 by rw[s7,if_pos h16]);clear h3;go_enter func66,ntmps66;exact YT
 have HR:=Vs (show iT l=aV (vh l) (ln l) by rw[s7,if_neg h16]);have H3:=Vs h3;clear h3;go_enter func66,ntmps66;go_wp2;go_loopw [10] (λi wr=>∃k:Nat,k<=ln l/\i=VZ VH (k:Int)/\wr=w/\∀j,j<k->vh l j=0) (λi _=>((ln l:Int)-VN i).toNat)
 case atStart=>exact⟨0,V7,rfl,rfl,λj hj=>V7⟩
 case round=>
  obtain⟨k,hk,rfl,rfl,hall⟩:=hrel;have HA:=Vs hall;clear hall;by_cases hlt:k<ln l
  ·obtain⟨b,off,rfl,hB,hcell⟩:=H3.o V7;have c1:=hcell k hlt 0 V9;rw[gL hlt,Nat.one_mul,Nat.add_zero] at c1;have hpz:0<k->wr.cell? ⟨b,off+(k-1),Vx⟩=Vz (VZ VH (l.getD (k-1) 0)):=λh0=>by
    exact ZA
   have HF:=Vs (show vh l k=if !aP (l.getD k 0) 0 1048576 then 2 else if 0<k/\l.getD k 0<=l.getD (k-1) 0 then 10 else 0 from rfl);obtain⟨x,hx⟩:∃x,l.getD k 0=x:=⟨_,rfl⟩;obtain⟨y,hy⟩:∃y,l.getD (k-1) 0=y:=⟨_,rfl⟩;rw[hx] at c1 HF;rw[hy] at hpz HF;have HPZ:=Vs hpz;clear hx hy hcell hpz;cases tb:aP x 0 1048576
   ·have HE:=Vs (show iT l=2 by rw[HR.o,bS hlt HA.o (by rw[HF.o,tb,if_pos V9];decide),HF.o,tb,if_pos V9]);exact Zz
   by_cases h0:0<k
   ·have c2:=HPZ.o h0;have tk:decide (0<(k:Int))=VD:=Wn;have e1:((k:Int)-1).toNat=k-1:=V7;by_cases hxy:x<=y
    ·have HE:=Vs (show iT l=10 by rw[HR.o,bS hlt HA.o (by rw[HF.o,tb,if_neg V9,if_pos ⟨h0,hxy⟩];decide),HF.o,tb,if_neg V9,if_pos ⟨h0,hxy⟩]);exact Zz
    ·have HZ:=Vs (show vh l k=0 by rw[HF.o,tb,if_neg V9,if_neg (λh=>hxy h.2)]);have txy:decide (x<=y)=Vw:=by rw[decide_eq_false_iff_not];exact hxy
     exact Zy
   ·have tk:decide (0<(k:Int))=Vw:=Wd;have HZ:=Vs (show vh l k=0 by rw[HF.o,tb,if_neg V9,if_neg (λh=>h0 h.1)]);exact Zy
  ·have hlt':decide ((k:Int)<(ln l:Int))=Vw:=Wd;have HE:=Vs (show iT l=0 by rw[HR.o,be (λj hj=>HA.o j V7)]);go_wp2;go_ret;exact⟨Wq,rfl⟩
end
section
open Kp
structure bI where
 name:List UInt8
 rings:List (List Sd)
 origin:Int
 spacing:Int
 purlins:List Int
 openings:List kN
 sizes:List Sz
 bars:List Br
 kerf:Int
 tile:Tl
 aG:List Ld
 spans:List Aw
structure dS where
 pa:Option VT
 pc:Nat
 ua:Option VT
 uc:Nat
 oa:Option VT
 oc:Nat
 za:Option VT
 zc:Nat
 ba:Option VT
 bc:Nat
 la:Option VT
 lc:Nat
 sa:Option VT
 sc:Nat
def cQ(j:bI)(a:dS):Array Vy:=#[VW (tx j.name),VV a.pa (ln j.rings) a.pc,VZ VH j.origin,VZ VH j.spacing,VV a.ua (ln j.purlins) a.uc,VV a.oa (ln j.openings) a.oc,VV a.za (ln j.sizes) a.zc,VV a.ba (ln j.bars) a.bc,VZ VH j.kerf,VZ VH j.tile.width,VZ VH j.tile.length,VZ VH j.tile.lap,VZ VH j.tile.tail,VV a.la (ln j.aG) a.lc,VV a.sa (ln j.spans) a.sc]
def bM(j:bI)(a:dS):(cQ j a).size=15:=rfl
def jQ(j:bI)(a:dS):(cQ j a)[0]?=Vz (VW (tx j.name)):=rfl
def jK(j:bI)(a:dS):(cQ j a)[1]?=Vz (VV a.pa (ln j.rings) a.pc):=rfl
def jJ(j:bI)(a:dS):(cQ j a)[2]?=Vz (VZ VH j.origin):=rfl
def jO(j:bI)(a:dS):(cQ j a)[3]?=Vz (VZ VH j.spacing):=rfl
def jN(j:bI)(a:dS):(cQ j a)[4]?=Vz (VV a.ua (ln j.purlins) a.uc):=rfl
def jR(j:bI)(a:dS):(cQ j a)[5]?=Vz (VV a.oa (ln j.openings) a.oc):=rfl
def jL(j:bI)(a:dS):(cQ j a)[6]?=Vz (VV a.za (ln j.sizes) a.zc):=rfl
def jP(j:bI)(a:dS):(cQ j a)[7]?=Vz (VV a.ba (ln j.bars) a.bc):=rfl
def jS(j:bI)(a:dS):(cQ j a)[8]?=Vz (VZ VH j.kerf):=rfl
def jU(j:bI)(a:dS):(cQ j a)[9]?=Vz (VZ VH j.tile.width):=rfl
def gi(j:bI)(a:dS):(cQ j a)[10]?=Vz (VZ VH j.tile.length):=rfl
def fX(j:bI)(a:dS):(cQ j a)[11]?=Vz (VZ VH j.tile.lap):=rfl
def fZ(j:bI)(a:dS):(cQ j a)[12]?=Vz (VZ VH j.tile.tail):=rfl
def gj(j:bI)(a:dS):(cQ j a)[13]?=Vz (VV a.la (ln j.aG) a.lc):=rfl
def gw(j:bI)(a:dS):(cQ j a)[14]?=Vz (VV a.sa (ln j.spans) a.sc):=rfl
attribute [local go_sem] bM jQ jK jJ jO jN jR jL jP jS jU gi fX fZ gj gw
def JC(w:Vt)(c:Nat)(j:bI)(a:dS):Prop:=w.heap[c]?=Vz (.cells (cQ j a) 34 (0,0))
theorem JC.ext{j:bI}{a:dS}(h:JC w c j a)(hx:Ext w w'):JC w' c j a:=(hx.block c (VF.1 h).1).trans h
theorem JC.lt{j:bI}{a:dS}(h:JC w c j a):c<w.heap.size:=(VF.1 h).1
theorem JC.cell{j:bI}{a:dS}(h:JC w c j a)(i:Nat):w.cell? ⟨c,i,Vx⟩=(cQ j a)[i]?:=by unfold JC at h;simp[World.cell?,h]
theorem JC.frozen{j:bI}{a:dS}(h:JC w c j a)(i:Nat):w.frozen? ⟨c,i,Vx⟩=Vw:=by unfold JC at h;simp[World.frozen?,h]
structure fg(w:Vt)(B:Nat)(j:bI)(a:dS):Prop where
 p:fj w B a.pa a.pc j.rings
 u:bJ 1 w B a.ua a.uc (bG j.purlins)
 o:bJ 5 w B a.oa a.oc (bw j.openings)
 z:bJ 3 w B a.za a.zc (bL j.sizes)
 b:fT w B a.ba a.bc j.bars
 l:bJ 3 w B a.la a.lc (bW j.aG)
 s:bJ 5 w B a.sa a.sc (bF j.spans)
theorem fg.below{B:Nat}{j:bI}{a:dS}(h:fg w B j a)(hb:VS B w w'):fg w' B j a:=
 ⟨h.p.below hb,h.u.below hb,h.o.below hb,h.z.below hb,h.b.below hb,h.l.below hb,h.s.below hb⟩
theorem fg.more{B B':Nat}{j:bI}{a:dS}(h:fg w B j a)(hb:B<=B'):fg w B' j a:=
 ⟨h.p.more hb,h.u.more hb,h.o.more hb,h.z.more hb,h.b.more hb,h.l.more hb,h.s.more hb⟩
theorem fg.grow{j:bI}{a:dS}(h:fg w w.heap.size j a)(hx:Ext w w'):fg w' w'.heap.size j a:=(h.below hx).more hx.size
structure nJ(j:bI):Prop where
 name:ln j.name<=1000000
 rings:ln j.rings.flatten<=4000000000
 ops:∀o∈j.openings,zV o
 aG:∀x∈j.aG,ln x.weight<=300000
noncomputable def mF(j:bI):Int:=
 if pX j.name=Vw then 13 else if dv j.rings≠0 then dv j.rings else if aP j.origin 0 65536=Vw then 2 else if aP j.spacing 1 65536=Vw then 2
 else if iT j.purlins≠0 then iT j.purlins else if nF j.rings j.openings≠0 then nF j.rings j.openings else if fW j.sizes≠0 then fW j.sizes else if iM j.bars≠0 then iM j.bars
 else if aP j.kerf 0 100=Vw then 2 else if dM j.tile≠0 then dM j.tile else if gm j.aG≠0 then gm j.aG else gG j.spans
def AJ(W0 W:Vt)(c:Nat)(j:bI)(a:dS)(hc:JC W c j a)(hb:fg W0 W0.heap.size j a)(hs:nJ j)(hm:fG W0)(ht:aW W0)(hx:Ext W0 W):
  VJ prog 65 #[VY (Vz ⟨c,0,Vx⟩)] W λe w'=>e=V0 (VZ VH (iT j.purlins))/\Ext W w':=by
 have K:=Vs (zg W a.ua a.uc j.purlins (hb.grow hx).u);have q:=λi=>hc.cell i
 have hz:=hc.lt;obtain⟨x,hx'⟩:∃x,iT j.purlins=x:=⟨_,rfl⟩;rw[hx'] at K⊢;clear hc hb hs hm ht hx hx';go_enter func65,ntmps65;go_wp2_with(go_at_call 66;go_must(refine K.o.mono ?_);rintro e W1 ⟨rfl,hX1⟩)
 go_ret;exact⟨rfl,Ext.aC _⟩
def Cc(W0 W:Vt)(c:Nat)(j:bI)(a:dS)(hc:JC W c j a)(hb:fg W0 W0.heap.size j a)(hs:nJ j)(hm:fG W0)(ht:aW W0)(hx:Ext W0 W):
  VJ prog 67 #[VY (Vz ⟨c,0,Vx⟩)] W λe w'=>e=V0 (VZ VH (nF j.rings j.openings))/\Ext W w':=by
 have K:=Vs (we W a.pa a.pc j.rings a.oa a.oc j.openings (hb.grow hx).p hs.rings (hb.grow hx).o hs.ops (hm.below hx (Vu _)) (ht.below hx (Vu _)));have q:=λi=>hc.cell i
 have hz:=hc.lt;obtain⟨x,hx'⟩:∃x,nF j.rings j.openings=x:=⟨_,rfl⟩;rw[hx'] at K⊢;clear hc hb hs hm ht hx hx';go_enter func67,ntmps67;go_wp2_with(go_at_call 68;go_must(refine K.o.mono ?_);rintro e W1 ⟨rfl,hX1⟩)
 go_ret;exact⟨rfl,hX1⟩
def Bo(W0 W:Vt)(c:Nat)(j:bI)(a:dS)(hc:JC W c j a)(hb:fg W0 W0.heap.size j a)(hs:nJ j)(hm:fG W0)(ht:aW W0)(hx:Ext W0 W):
  VJ prog 69 #[VY (Vz ⟨c,0,Vx⟩)] W λe w'=>e=V0 (VZ VH (fW j.sizes))/\Ext W w':=by
 have K:=Vs (El W a.za a.zc j.sizes (hb.grow hx).z);have q:=λi=>hc.cell i
 have hz:=hc.lt;obtain⟨x,hx'⟩:∃x,fW j.sizes=x:=⟨_,rfl⟩;rw[hx'] at K⊢;clear hc hb hs hm ht hx hx';go_enter func69,ntmps69;go_wp2_with(go_at_call 70;go_must(refine K.o.mono ?_);rintro e W1 ⟨rfl,hX1⟩)
 go_ret;exact⟨rfl,hX1⟩
def Bm(W0 W:Vt)(c:Nat)(j:bI)(a:dS)(hc:JC W c j a)(hb:fg W0 W0.heap.size j a)(hs:nJ j)(hm:fG W0)(ht:aW W0)(hx:Ext W0 W):
  VJ prog 71 #[VY (Vz ⟨c,0,Vx⟩)] W λe w'=>e=V0 (VZ VH (iM j.bars))/\Ext W w':=by
 have K:=Vs (Df W a.ba a.bc j.bars (hb.grow hx).b);have q:=λi=>hc.cell i
 have hz:=hc.lt;obtain⟨x,hx'⟩:∃x,iM j.bars=x:=⟨_,rfl⟩;rw[hx'] at K⊢;clear hc hb hs hm ht hx hx';go_enter func71,ntmps71;go_wp2_with(go_at_call 72;go_must(refine K.o.mono ?_);rintro e W1 ⟨rfl,hX1⟩)
 go_ret;exact⟨rfl,hX1⟩
def mG (w : Vt) (j : bI) (a : dS) (hb : fg w w.heap.size j a) (hs : nJ j) (hm : fG w) (ht : aW w) :
    VJ prog 25 #[V5 (cQ j a)] w λe w' => e =V0 (VZ VH (mF j)) /\ Ext w w' := by
  have E0 := Vs (show Ext w (w.alloc (.cells (cQ j a) 34)) from (Below.refl _ _).alloc (Vu _) _);have J0 := Vs (show JC (w.alloc (.cells (cQ j a) 34)) w.heap.size j a from VG w _);obtain ⟨W0, hW0⟩ : ∃ W0, w.alloc (.cells (cQ j a) 34) = W0 := ⟨_, rfl⟩;rw [hW0] at E0 J0;have HW := Vs hW0;clear hW0;have hb0 := hb.grow E0.o;have hm0 := hm.below E0.o (Vu _);have ht0 := ht.below E0.o (Vu _);have KN := Vs (λW => FF j.name W hs.name);have KP := Vs (vz W0 a.pa a.pc j.rings hb0.p hs.rings);have JX := Vs (λ(W : Vt) (h : Ext W0 W) => J0.o.ext h);have KC1 := Vs (λ(W : Vt) (h : Ext W0 W) => AJ W0 W w.heap.size j a (JX.o W h) hb0 hs hm0 ht0 h);have KC2 := Vs (λ(W : Vt) (h : Ext W0 W) => Cc W0 W w.heap.size j a (JX.o W h) hb0 hs hm0 ht0 h);have KC3 := Vs (λ(W : Vt) (h : Ext W0 W) => Bo W0 W w.heap.size j a (JX.o W h) hb0 hs hm0 ht0 h);have KC4 := Vs (λ(W : Vt) (h : Ext W0 W) => Bm W0 W w.heap.size j a (JX.o W h) hb0 hs hm0 ht0 h);have KT := Vs (λW => Fq j.tile W);have KL := Vs (λ(W : Vt) (h : Ext W0 W) => DO W a.la a.lc j.aG (hb0.grow h).l hs.aG (hm0.below h (Vu _)) (ht0.below h (Vu _)));have KS := Vs (λ(W : Vt) (h : Ext W0 W) => AH W a.sa a.sc j.spans (hb0.grow h).s);have g1 := enters_of func65 V8 rfl;have g2 := enters_of func67 V8 rfl;have g3 := enters_of func69 V8 rfl;have g4 := enters_of func71 V8 rfl;have HV := Vs (show mF j = if pX j.name = Vw then 13 else if dv j.rings ≠ 0 then dv j.rings else if aP j.origin 0 65536 = Vw then 2 else if aP j.spacing 1 65536 = Vw then 2
    else if iT j.purlins ≠ 0 then iT j.purlins else if nF j.rings j.openings ≠ 0 then nF j.rings j.openings else if fW j.sizes ≠ 0 then fW j.sizes else if iM j.bars ≠ 0 then iM j.bars
    else if aP j.kerf 0 100 = Vw then 2 else if dM j.tile ≠ 0 then dM j.tile else if gm j.aG ≠ 0 then gm j.aG else gG j.spans from rfl)
  clear hb hs hm ht hb0 hm0 ht0;obtain ⟨nm, h1⟩ : ∃ x, pX j.name = x := ⟨_, rfl⟩;obtain ⟨pe, h2⟩ : ∃ x, dv j.rings = x := ⟨_, rfl⟩;obtain ⟨b2, t2⟩ : ∃ x, aP j.origin 0 65536 = x := ⟨_, rfl⟩;obtain ⟨b3, t3⟩ : ∃ x, aP j.spacing 1 65536 = x := ⟨_, rfl⟩;obtain ⟨e1, h4⟩ : ∃ x, iT j.purlins = x := ⟨_, rfl⟩;obtain ⟨e2, h5⟩ : ∃ x, nF j.rings j.openings = x := ⟨_, rfl⟩;obtain ⟨e3, h6⟩ : ∃ x, fW j.sizes = x := ⟨_, rfl⟩;obtain ⟨e4, h7⟩ : ∃ x, iM j.bars = x := ⟨_, rfl⟩;obtain ⟨b8, t8⟩ : ∃ x, aP j.kerf 0 100 = x := ⟨_, rfl⟩;obtain ⟨te, h9⟩ : ∃ x, dM j.tile = x := ⟨_, rfl⟩;obtain ⟨le, h10⟩ : ∃ x, gm j.aG = x := ⟨_, rfl⟩;obtain ⟨se, h11⟩ : ∃ x, gG j.spans = x := ⟨_, rfl⟩;rw [h1, h2, t2, t3, h4, h5, h6, h7, t8, h9, h10, h11] at HV;simp only [h1] at KN;rw [h2] at KP;simp only [h4] at KC1;simp only [h5] at KC2;simp only [h6] at KC3;simp only [h7] at KC4;simp only [h9] at KT;simp only [h10] at KL;simp only [h11] at KS;clear h1 h2 h4 h5 h6 h7 h9 h10 h11;have hv := HV.o;clear HV;cases nm
  case' true => by_cases hc : pe = 0
  case' pos => subst hc; cases b2
  case' true => cases b3
  case' true => by_cases hc : e1 = 0
  case' pos => subst hc; by_cases hc : e2 = 0
  case' pos => subst hc; by_cases hc : e3 = 0
  case' pos => subst hc; by_cases hc : e4 = 0
  case' pos => subst hc; cases b8
  case' true => by_cases hc : te = 0
  case' pos => subst hc; by_cases hc : le = 0
  case' pos => subst hc
  all_goals
    first | have tp := bne_iff_ne.2 hc | skip
    first | simp only [hc, ne_eq, not_true_eq_false, not_false_eq_true, if_true, if_false, Bool.true_eq_false] at hv | simp only [ne_eq, not_true_eq_false, if_true, if_false, Bool.true_eq_false] at hv
    have HE := Vs hv;clear hv;go_enter func25, ntmps25
  iterate 9 all_goals (first
      | (go_ret; exact ⟨by rw [HE.o] <;> rfl, by first | exact Ext.tr E0.o HX.o | (rw [HW.o]; exact E0.o)⟩)
      | (first | rw [rounds_succ] | (refine wp_loop_rounds 6 ?_; rw [rounds_succ]) | skip
         go_wp2_with (first
          | ((first | (go_at_call 67; refine (KC2.o _ HX.o).mono ?_) | (go_at_call 69; refine (KC3.o _ HX.o).mono ?_) | (go_at_call 71; refine (KC4.o _ HX.o).mono ?_)); rintro e W2 ⟨rfl, hX⟩; have r := λi => (RF.o.ext hX).cell i; have q := λi => (JX.o W2 (Ext.tr HX.o hX)).cell i; have z := (RF.o.ext hX).lt; have RF := Vs (RF.o.ext hX); have HX := Vs (Ext.tr HX.o hX); clear hX)
          | ((first | (go_at_call 74; refine (KL.o _ HX.o).mono ?_) | (go_at_call 75; refine (KS.o _ HX.o).mono ?_) | (go_at_call 73; refine (KT.o _).mono ?_)); rintro e W2 ⟨rfl, hX⟩; have q := λi => (JX.o W2 (Ext.tr HX.o hX)).cell i; have HX := Vs (Ext.tr HX.o hX); clear hX)
          | (go_at_call 65; refine (KC1.o _ (HX.o.alloc HX.o.size _)).mono ?_; rintro e W2 ⟨rfl, hX⟩; have r := λi => (RF.o.ext hX).cell i; have q := λi => (JX.o W2 (Ext.tr (HX.o.alloc HX.o.size _) hX)).cell i; have z := (RF.o.ext hX).lt; have RF := Vs (RF.o.ext hX); have HX := Vs (Ext.tr (HX.o.alloc HX.o.size _) hX); clear hX)
          | (go_at_call 64; go_must (refine (gM _ _ _ _).mono ?_); rintro e W9 ⟨rfl, rfl⟩; first | rw [t2] | rw [t3] | rw [t8] | skip)
          | (go_at_call 63; rw [HW.o]; refine KP.o.mono ?_; rintro e W1 ⟨rfl, hX1⟩; have q1 := λi => (JX.o W1 hX1).cell i; have HX := Vs (Ext.tr (Ext.aC W0) hX1); have RF := Vs (ai.new W1 130 [.func (.func 65) #[] #[VY (Vz ⟨w.heap.size, 0, Vx⟩)], .func (.func 67) #[] #[VY (Vz ⟨w.heap.size, 0, Vx⟩)], .func (.func 69) #[] #[VY (Vz ⟨w.heap.size, 0, Vx⟩)], .func (.func 71) #[] #[VY (Vz ⟨w.heap.size, 0, Vx⟩)]]); clear hX1)
          | (go_at_call 56; refine (KN.o _).mono ?_; rintro e W9 ⟨rfl, rfl⟩))))
end
section
open Kp
def BD(a b:Aw):Int:=DK (Lib.compareInt a.width b.width) (Lib.compareInt a.depth b.depth) (Lib.compareInt a.spacing b.spacing) (Lib.compareInt a.load b.load)
def Gt(n:Nat)(a b:Aw)(i:Nat)(v:Vy)(_:Vt):Prop:=
 match i with
 |0=>v=VY (Vz ⟨n,0,Vx⟩)
 |1=>v=VZ VH a.width
 |2=>v=VY (Vz ⟨n+1,0,Vx⟩)
 |3=>v=VZ VH b.width
 |4=>v=VZ VH (Lib.compareInt a.width b.width)
 |5=>v=VY (Vz ⟨n,1,Vx⟩)
 |6=>v=VZ VH a.depth
 |7=>v=VY (Vz ⟨n+1,1,Vx⟩)
 |8=>v=VZ VH b.depth
 |9=>v=VZ VH (Lib.compareInt a.depth b.depth)
 |10=>v=VY (Vz ⟨n,2,Vx⟩)
 |11=>v=VZ VH a.spacing
 |12=>v=VY (Vz ⟨n+1,2,Vx⟩)
 |13=>v=VZ VH b.spacing
 |14=>v=VZ VH (Lib.compareInt a.spacing b.spacing)
 |15=>v=VY (Vz ⟨n,3,Vx⟩)
 |16=>v=VZ VH a.load
 |17=>v=VY (Vz ⟨n+1,3,Vx⟩)
 |18=>v=VZ VH b.load
 |19=>v=VZ VH (Lib.compareInt a.load b.load)
 |_=>True
def uh(a b:Aw)(w:Vt):VJ prog 161 #[V5 (j9 a).toArray,V5 (j9 b).toArray] w λe w'=>e=V0 (VZ VH (BD a b))/\Ext w w':=by
 obtain⟨W0,hW0⟩:∃W0,(w.alloc (.cells (j9 a).toArray 66)).alloc (.cells (j9 b).toArray 66)=W0:=⟨_,rfl⟩;have E0:=Vs (show Ext w W0 by rw[<-hW0];exact((Below.refl _ _).alloc (Vu _) _).alloc Wa _);have RA:=Vs (show ai W0 w.heap.size 66 (j9 a) by rw[<-hW0];exact(ai.new w _ _).ext ((Below.refl _ _).alloc (Vu _) _));have RB:=Vs (show ai W0 (w.heap.size+1) 66 (j9 b) by
  have h:=ai.new (w.alloc (.cells (j9 a).toArray 66)) 66 (j9 b);rw[VK] at h;rw[<-hW0];exact h)
 have HR:=Vs (show BD a b=DK (Lib.compareInt a.width b.width) (Lib.compareInt a.depth b.depth) (Lib.compareInt a.spacing b.spacing) (Lib.compareInt a.load b.load) from rfl);have HW:=Vs hW0;clear hW0;go_enter func161,ntmps161;go_wp2_with fail
 rw[show(w.alloc (.cells #[VZ VH a.width,VZ VH a.depth,VZ VH a.spacing,VZ VH a.load,VZ VH a.span] 66)).alloc (.cells #[VZ VH b.width,VZ VH b.depth,VZ VH b.spacing,VZ VH b.load,VZ VH b.span] 66)=W0 from HW.o];refine wp_region_any V8 (bO 20 (λvs=>⟨#[V5 (j9 a).toArray,V5 (j9 b).toArray,VY (Vz ⟨w.heap.size,0,Vx⟩),VY (Vz ⟨w.heap.size+1,0,Vx⟩),VZ VH 0,vs 0,vs 1,vs 2,vs 3,vs 4,vs 5,vs 6,vs 7,vs 8,vs 9,vs 10,vs 11,vs 12,vs 13,vs 14,vs 15,vs 16,vs 17,vs 18,vs 19,VB,VB],[]⟩)
  (λw'=>Ext W0 w') (Gt w.heap.size a b) (λ_=>Vw) V8 (λ_ _ h k=>h.tr k) (λi v _ _ h k=>h) (λ_ _ _ _ h=>Wb) ?step ?tail (λ_=>VB) _ (Ext.dr W0))
 case step=>
  intro i vs w' hi hD hd;have cA:=λi=>(RA.o.ext hD).cell i
  have cB:=λi=>(RB.o.ext hD).cell i
  rcases(show i=0\/i=1\/i=2\/i=3\/i=4\/i=5\/i=6\/i=7\/i=8\/i=9\/i=10\/i=11\/i=12\/i=13\/i=14\/i=15\/i=16\/i=17\/i=18\/i=19 by omega) with rfl|rfl|rfl|rfl|rfl|rfl|rfl|rfl|rfl|rfl|rfl|rfl|rfl|rfl|rfl|rfl|rfl|rfl|rfl|rfl<;>clear hi
  ·exact YZ
  ·refine VE rfl (λK hK=> ?_);have d0:=hd 0 V8;simp only[Gt] at d0;go_simp;exact hK _ _ ⟨VZ VH a.width,by simp[d0],Ext.aC _,rfl,λh=>Wb⟩
  ·exact YZ
  ·refine VE rfl (λK hK=> ?_);have d2:=hd 2 V8;simp only[Gt] at d2;go_simp;exact hK _ _ ⟨VZ VH b.width,by simp[d2],Ext.aC _,rfl,λh=>Wb⟩
  ·refine VE rfl (λK hK=> ?_);have d1:=hd 1 V8;have d2:=hd 3 V8;simp only[Gt] at d1 d2;go_simp;refine(cmp_Compare_int a.width b.width _).mono ?_;rintro e W1 ⟨rfl,rfl⟩;exact hK _ _ ⟨VZ VH (Lib.compareInt a.width b.width),by simp[d1,d2],Ext.aC _,rfl,λh=>Wb⟩
  ·exact YZ
  ·refine VE rfl (λK hK=> ?_);have d5:=hd 5 V8;simp only[Gt] at d5;go_simp;exact hK _ _ ⟨VZ VH a.depth,by simp[d5],Ext.aC _,rfl,λh=>Wb⟩
  ·exact YZ
  ·refine VE rfl (λK hK=> ?_);have d7:=hd 7 V8;simp only[Gt] at d7;go_simp;exact hK _ _ ⟨VZ VH b.depth,by simp[d7],Ext.aC _,rfl,λh=>Wb⟩
  ·refine VE rfl (λK hK=> ?_);have d1:=hd 6 V8;have d2:=hd 8 V8;simp only[Gt] at d1 d2;go_simp;refine(cmp_Compare_int a.depth b.depth _).mono ?_;rintro e W1 ⟨rfl,rfl⟩;exact hK _ _ ⟨VZ VH (Lib.compareInt a.depth b.depth),by simp[d1,d2],Ext.aC _,rfl,λh=>Wb⟩
  ·exact YZ
  ·refine VE rfl (λK hK=> ?_);have d10:=hd 10 V8;simp only[Gt] at d10;go_simp;exact hK _ _ ⟨VZ VH a.spacing,by simp[d10],Ext.aC _,rfl,λh=>Wb⟩
  ·exact YZ
  ·refine VE rfl (λK hK=> ?_);have d12:=hd 12 V8;simp only[Gt] at d12;go_simp;exact hK _ _ ⟨VZ VH b.spacing,by simp[d12],Ext.aC _,rfl,λh=>Wb⟩
  ·refine VE rfl (λK hK=> ?_);have d1:=hd 11 V8;have d2:=hd 13 V8;simp only[Gt] at d1 d2;go_simp;refine(cmp_Compare_int a.spacing b.spacing _).mono ?_;rintro e W1 ⟨rfl,rfl⟩;exact hK _ _ ⟨VZ VH (Lib.compareInt a.spacing b.spacing),by simp[d1,d2],Ext.aC _,rfl,λh=>Wb⟩
  ·exact YZ
  ·refine VE rfl (λK hK=> ?_);have d15:=hd 15 V8;simp only[Gt] at d15;go_simp;exact hK _ _ ⟨VZ VH a.load,by simp[d15],Ext.aC _,rfl,λh=>Wb⟩
  ·exact YZ
  ·refine VE rfl (λK hK=> ?_);have d17:=hd 17 V8;simp only[Gt] at d17;go_simp;exact hK _ _ ⟨VZ VH b.load,by simp[d17],Ext.aC _,rfl,λh=>Wb⟩
  ·refine VE rfl (λK hK=> ?_);have d1:=hd 16 V8;have d2:=hd 18 V8;simp only[Gt] at d1 d2;go_simp;refine(cmp_Compare_int a.load b.load _).mono ?_;rintro e W1 ⟨rfl,rfl⟩;exact hK _ _ ⟨VZ VH (Lib.compareInt a.load b.load),by simp[d1,d2],Ext.aC _,rfl,λh=>Wb⟩
 case tail=>
  intro vs w' hD hV _;have v4:=hV 4 V7;have v9:=hV 9 V7;have v14:=hV 14 V7;have v19:=hV 19 V7;simp only[Gt] at v4 v9 v14 v19;have HX:=Vs (E0.o.tr (hD.trans ((Below.refl w'.heap.size w').alloc (Vu _) (.cells [VZ VH (Lib.compareInt a.width b.width),VZ VH (Lib.compareInt a.depth b.depth),VZ VH (Lib.compareInt a.spacing b.spacing),VZ VH (Lib.compareInt a.load b.load)].toArray 3) |>.mono hD.size)));have R3:=Vs (ai.new w' 3 [VZ VH (Lib.compareInt a.width b.width),VZ VH (Lib.compareInt a.depth b.depth),VZ VH (Lib.compareInt a.spacing b.spacing),VZ VH (Lib.compareInt a.load b.load)]);clear hV hD;simp only[v4,v9,v14,v19,List.drop_succ_cons,List.drop_zero];go_wp2_with(go_at_call 208;go_must((with_reducible refine(xh _ _ _ 3 _ _ _ _ R3.o).mono ?_));rintro e W1 ⟨rfl,rfl⟩)
  go_ret;exact⟨We,HX.o⟩
end
section
open Kp
def JI(l:List Aw)(x:Aw):Nat->Nat->Nat->Nat
 |0,lo,_=>lo
 |f+1,lo,hi=>if lo<hi then(if BD (l.getD ((lo+hi)/2) nI) x<0 then JI l x f ((lo+hi)/2+1) hi else JI l x f lo ((lo+hi)/2)) else lo
def JL(l:List Aw)(x:Aw):Nat:=JI l x (ln l) 0 (ln l)
def NZ(l:List Aw)(x:Aw):Bool:=decide (JL l x<ln l)&&BD (l.getD (JL l x) nI) x==0
def O0(l:List Aw)(x:Aw)(f lo:Nat):JI l x f lo lo=lo:=by
 cases f with
 |zero=>rfl
 |succ f=>unfold JI;rw[if_neg V7]
def Va(W0:Vt)(l:List Aw)(x:Aw)(i j:Vy)(wr:Vt):Prop:=
 ∃lo hi f:Nat,i=VZ VH (lo:Int)/\j=VZ VH (hi:Int)/\lo<=hi/\hi<=ln l/\hi-lo<=f/\JI l x f lo hi=JL l x/\Ext W0 wr
def Kn(w:Vt)(A:Option VT)(cap:Nat)(l:List Aw)(x:Aw)(hl:bJ 5 w w.heap.size A cap (bF l))(hlen:ln l<=1000000):
  VJ prog 160 #[VV A (ln l) cap,V5 (j9 x).toArray,.func (.func 161) #[] #[]] w λe w'=>e=V0 (V6 #[VZ VH (JL l x:Int),VX (NZ l x)])/\Ext w w':=by
 obtain⟨h1,h2,h3⟩:=hl;rw[VC] at h1 h3;unfold VP at h2;obtain⟨W0,hW0⟩:∃W0,w.alloc (.cells (j9 x).toArray 66)=W0:=⟨_,rfl⟩;have E0:=Vs (show Ext w W0 by rw[<-hW0];exact(Below.refl _ _).alloc (Vu _) _);have RX:=Vs (show ai W0 w.heap.size 66 (j9 x) by rw[<-hW0];exact ai.new w _ _);have HW:=Vs hW0;have g1:=enters_of func161 V8 rfl;have H3:=Vs h3;clear h3 hW0;go_enter func160,ntmps160;go_wp2;rw[show w.alloc (.cells #[VZ VH x.width,VZ VH x.depth,VZ VH x.spacing,VZ VH x.load,VZ VH x.span] 66)=W0 from HW.o];go_loopw [9,10] (λi j wr=>Va W0 l x i j wr) (λi j _=>(VN j-VN i).toNat)
 case atStart=>exact⟨0,ln l,ln l,rfl,rfl,V7,V7,V7,rfl,Ext.aC _⟩
 case round=>
  obtain⟨lo,hi,f,rfl,rfl,hlh,hin,hf,hR,hX⟩:=hrel;have HX:=Vs hX;have HRR:=Vs hR;clear hX hR;by_cases hlt:lo<hi
  ·obtain⟨b,off,rfl,hB,hcell0⟩:=H3.o V7;have hXw:=Vs (E0.o.tr HX.o);have hbw:b<wr.heap.size:=Nat.lt_of_lt_of_le hB hXw.o.size;obtain⟨f',rfl⟩:∃f',f=f'+1:=⟨f-1,V7⟩;have hh:(lo+hi)/2<ln l:=V7;have HC:=Vs (λj hj=>(hXw.o.cell (p:=⟨b,off+5*((lo+hi)/2)+j,Vx⟩) hB).trans (hcell0 ((lo+hi)/2) hh j hj));have c0:=HC.o 0 V9;have c1:=HC.o 1 V9;have c2:=HC.o 2 V9;have c3:=HC.o 3 V9;have c4:=HC.o 4 V9;rw[ow hh,VL] at c0 c1 c2 c3 c4;rw[Nat.add_zero] at c0;have hu:JI l x (f'+1) lo hi=if BD (l.getD ((lo+hi)/2) nI) x<0 then JI l x f' ((lo+hi)/2+1) hi else JI l x f' lo ((lo+hi)/2):=by
    rw[JI,if_pos hlt]
   rw[HRR.o] at hu;obtain⟨y,hy⟩:∃y,l.getD ((lo+hi)/2) nI=y:=⟨_,rfl⟩;rw[hy] at c0 c1 c2 c3 c4 hu;have KO:=Vs (λW=>uh y x W);obtain⟨c,hc⟩:∃c,BD y x=c:=⟨_,rfl⟩;rw[hc] at hu;simp only[hc] at KO;have HU:=Vs hu;clear hy hc hu hcell0;have e1:(((lo:Int)+(hi:Int))/2).toNat=(lo+hi)/2:=V7;have e2:0<=((lo:Int)+(hi:Int))/2:=V7;have e3:((lo:Int)+(hi:Int))/2<(ln l:Int):=V7;go_wp2_with fail
   refine dx 6 V8 V8 (λW2 hW2=> ?_);have rx:ai W2 w.heap.size 66 (j9 x):=RX.o.ext (HX.o.tr hW2);have q0:=(hW2.cell (p:=⟨b,off+(lo+hi)/2*5,Vx⟩) hbw).trans c0;have q1:=(hW2.cell (p:=⟨b,off+(lo+hi)/2*5+1,Vx⟩) hbw).trans c1;have q2:=(hW2.cell (p:=⟨b,off+(lo+hi)/2*5+2,Vx⟩) hbw).trans c2;have q3:=(hW2.cell (p:=⟨b,off+(lo+hi)/2*5+3,Vx⟩) hbw).trans c3;have q4:=(hW2.cell (p:=⟨b,off+(lo+hi)/2*5+4,Vx⟩) hbw).trans c4;have y0:=rx.cell 0;have y1:=rx.cell 1;have y2:=rx.cell 2;have y3:=rx.cell 3;have y4:=rx.cell 4;have HW2:=Vs hW2;clear rx hW2 c0 c1 c2 c3 c4;simp only[List.take_succ_cons,List.take_zero,List.drop_succ_cons,List.drop_zero]
   repeat still_step
   refine wpStill_nil ?_;by_cases hc0:c<0
   ·have tc:decide (c<0)=VD:=decide_eq_true hc0;have HZ:=Vs (HU.o.trans (if_pos hc0));go_wp2_with(go_at_call 161;go_must(refine(KO.o _).mono ?_);rintro e W3 ⟨rfl,hX3⟩)
    exact⟨⟨(lo+hi)/2+1,hi,f',by rw[show((lo:Int)+(hi:Int))/2+1=(((lo+hi)/2+1:Nat):Int) by omega],rfl,V7,V7,V7,HZ.o.symm,(HX.o.tr HW2.o).tr hX3⟩,Wc⟩
   ·have tc:decide (c<0)=Vw:=decide_eq_false hc0;have HZ:=Vs (HU.o.trans (if_neg hc0));go_wp2_with(go_at_call 161;go_must(refine(KO.o _).mono ?_);rintro e W3 ⟨rfl,hX3⟩)
    exact⟨⟨lo,(lo+hi)/2,f',rfl,by rw[show((lo:Int)+(hi:Int))/2=(((lo+hi)/2:Nat):Int) by omega],V7,V7,V7,HZ.o.symm,(HX.o.tr HW2.o).tr hX3⟩,Wc⟩
  ·obtain rfl:lo=hi:=V7;have HI:=Vs (show JL l x=lo by rw[<-HRR.o,O0]);by_cases hn:lo<ln l
   ·obtain⟨b,off,rfl,hB,hcell0⟩:=H3.o V7;have hXw:=Vs (E0.o.tr HX.o);have hbw:b<wr.heap.size:=Nat.lt_of_lt_of_le hB hXw.o.size;have HC:=Vs (λj hj=>(hXw.o.cell (p:=⟨b,off+5*lo+j,Vx⟩) hB).trans (hcell0 lo hn j hj));have c0:=HC.o 0 V9;have c1:=HC.o 1 V9;have c2:=HC.o 2 V9;have c3:=HC.o 3 V9;have c4:=HC.o 4 V9;rw[ow hn,VL] at c0 c1 c2 c3 c4;rw[Nat.add_zero] at c0;have hF:NZ l x=(BD (l.getD lo nI) x==0):=by unfold NZ;rw[HI.o,decide_eq_true hn,Bool.true_and]
    obtain⟨y,hy⟩:∃y,l.getD lo nI=y:=⟨_,rfl⟩;rw[hy] at c0 c1 c2 c3 c4 hF;have KO:=Vs (λW=>uh y x W);obtain⟨c,hc⟩:∃c,BD y x=c:=⟨_,rfl⟩;rw[hc] at hF;simp only[hc] at KO;have HF:=Vs hF;have t0:decide ((lo:Int)<(ln l:Int))=VD:=decide_eq_true V7;have e3:(lo:Int)<(ln l:Int):=V7;clear hy hc hF hcell0;have b0:=λw' (h:Ext wr w')=>(h.cell (p:=⟨b,off+lo*5,Vx⟩) hbw).trans c0
    have b1:=λw' (h:Ext wr w')=>(h.cell (p:=⟨b,off+lo*5+1,Vx⟩) hbw).trans c1
    have b2:=λw' (h:Ext wr w')=>(h.cell (p:=⟨b,off+lo*5+2,Vx⟩) hbw).trans c2
    have b3:=λw' (h:Ext wr w')=>(h.cell (p:=⟨b,off+lo*5+3,Vx⟩) hbw).trans c3
    have b4:=λw' (h:Ext wr w')=>(h.cell (p:=⟨b,off+lo*5+4,Vx⟩) hbw).trans c4
    have y0:=λw' (h:Ext wr w')=>(RX.o.ext (HX.o.tr h)).cell 0
    have y1:=λw' (h:Ext wr w')=>(RX.o.ext (HX.o.tr h)).cell 1
    have y2:=λw' (h:Ext wr w')=>(RX.o.ext (HX.o.tr h)).cell 2
    have y3:=λw' (h:Ext wr w')=>(RX.o.ext (HX.o.tr h)).cell 3
    have y4:=λw' (h:Ext wr w')=>(RX.o.ext (HX.o.tr h)).cell 4
    clear c0 c1 c2 c3 c4;go_wp2_with fail
    go_region_held3(λw'=>Ext wr w') (first|exact hx1|exact Ext.dr wr) (first|(go_at_call 161;go_must(refine(KO.o _).mono ?_);rintro e W1 ⟨rfl,hX1⟩;have hx1:Ext wr W1:=(Ext.dr wr).tr hX1))
    go_wp2;go_ret2;exact⟨by rw[HI.o,HF.o];rfl,hXw.o.tr hx1⟩
   ·have hF:NZ l x=Vw:=by unfold NZ;rw[HI.o,decide_eq_false hn,Bool.false_and]
    have HF:=Vs hF;have t0:decide ((lo:Int)<(ln l:Int))=Vw:=decide_eq_false V7;have hXw:=Vs (E0.o.tr HX.o);clear hF;go_wp2_with fail
    go_quiet (fail)
    go_wp2;go_ret2;exact⟨by rw[HI.o,HF.o];rfl,below_drewN hXw.o _⟩
end
section
open Kp
def qA(n:Int)(w:Vt):VJ prog 112 #[VZ VH n] w λe w'=>e=V0 (VX (aP n 1 1000))/\w'=w:=by
 have hb:aP n 1 1000=(decide (1<=n)&&decide (n<=1000)):=rfl;rw[hb];clear hb;cases t1:decide (n>=1)<;>cases t2:decide (n<=1000)
 all_goals
  go_enter func112,ntmps112;go_wp2;go_ret;exact⟨rfl,rfl⟩
theorem Dr{B:Nat}{l:List Sz}(h:bJ 3 w B A cap (bL l))(hp:0<ln l):
  ∃b off,A=Vz ⟨b,off,Vx⟩/\b<B/\∀i,i<ln l->w.cell? ⟨b,off+i*3,Vx⟩=Vz (VZ VH (l.getD i iI).kind)/\w.cell? ⟨b,off+i*3+1,Vx⟩=Vz (VZ VH (l.getD i iI).width)/\w.cell? ⟨b,off+i*3+2,Vx⟩=Vz (VZ VH (l.getD i iI).depth):=by
 obtain⟨h1,h2,h3⟩:=h;obtain⟨b,off,e,hb,hc⟩:=h3 (by rw[VC];exact hp);refine⟨b,off,e,hb,λi hi=> ?_⟩;have q:∀m,m<3->w.cell? ⟨b,off+i*3+m,Vx⟩=(GF (l.getD i iI))[m]?:=by
  intro m hm;have:=hc i Xi m hm;rw[xV hi,VL] at this;exact this
 exact⟨q 0 V9,q 1 V9,q 2 V9⟩
end
section
open Kp
theorem Mj{B:Nat}{l:List Aw}(h:bJ 5 w B A cap (bF l))(hp:0<ln l):
  ∃b off,A=Vz ⟨b,off,Vx⟩/\b<B/\∀i,i<ln l->w.cell? ⟨b,off+i*5,Vx⟩=Vz (VZ VH (l.getD i nI).width)/\w.cell? ⟨b,off+i*5+1,Vx⟩=Vz (VZ VH (l.getD i nI).depth)/\w.cell? ⟨b,off+i*5+2,Vx⟩=Vz (VZ VH (l.getD i nI).spacing)/\w.cell? ⟨b,off+i*5+3,Vx⟩=Vz (VZ VH (l.getD i nI).load)/\w.cell? ⟨b,off+i*5+4,Vx⟩=Vz (VZ VH (l.getD i nI).span):=by
 obtain⟨h1,h2,h3⟩:=h;obtain⟨b,off,e,hb,hc⟩:=h3 (by rw[VC];exact hp);refine⟨b,off,e,hb,λi hi=> ?_⟩;have hr:(bF l).getD i []=j9 (l.getD i nI):=by simp[List.getD,VA hi]
 have q:∀m,m<5->w.cell? ⟨b,off+i*5+m,Vx⟩=(j9 (l.getD i nI))[m]?:=by
  exact a0x
 exact⟨q 0 V9,q 1 V9,q 2 V9,q 3 V9,q 4 V9⟩
def zw(a b s l:Int):Int:=if(aP a 1 1000&&aP b 1 1000&&aP s 1 65536&&aP l 0 1048576)=VD then 0 else 2
def rh(a b s l:Int)(w:Vt):VJ prog 115 #[VZ VH a,VZ VH b,VZ VH s,VZ VH l] w λx w'=>x=V0 (VZ VH (zw a b s l))/\w'=w:=by
 unfold zw;cases t1:aP a 1 1000 with
 |false=>
  exact a0y
 |true=>
  cases t2:aP b 1 1000 with
  |false=>
   exact a0y
  |true=>
   cases t3:aP s 1 65536 with
   |false=>
    exact a0y
   |true=>
    cases t4:aP l 0 1048576 with
    |false=>
     exact a0y
    |true=>
     exact a0y
end
end Go.Proofs.YtmliacdegmklaaaGreatDoor
