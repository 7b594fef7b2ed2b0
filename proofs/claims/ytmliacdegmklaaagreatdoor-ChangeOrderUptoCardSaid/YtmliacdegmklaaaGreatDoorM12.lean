/- ChangeReplays of kingpostlaw58: part 12 of its proof (merged and shortened by program). -/
import Derived.Test.YtmliacdegmklaaaGreatDoorM05
set_option linter.unusedVariables false
set_option linter.unusedSimpArgs false
set_option linter.defProp false
set_option maxHeartbeats 8000000
set_option maxRecDepth 100000
open Go.RowKit Go.Shelf Go.Proofs.Tryz
open Array renaming getElem?_eq_some_iff→Vz
open Bool renaming false→Vp,true→Vv,and_eq_true_iff→Vw
open Go renaming World→Vl,Value→Vr,undef→Vs,wpOp_step→Vx,Calls→VC,maxLen→VJ,TypeId→VK,Addr→VM,Rows→VP
open Go.AllReady renaming cons→VH,nil→VO
open Go.Ending renaming returned→VV
open Go.IntKind renaming i64→VA
open Go.IntWalk renaming i64_in→VI
open Go.Lib renaming hid→Vk
open Go.RowKit renaming intOf→VG,Below→VL
open Go.Value renaming slice→VQ,string→VR,bool→VS,pointer→VT,int→VU,agg→VW,tuple→VX
open Go.World renaming alloc_heap_new→Vy,size_alloc→VF
open List renaming getD_eq_getElem?_getD→Vn,getElem?_eq_getElem→Vt,length_map→Vu,length_append→VD
open Nat renaming le_refl→Vm,le_trans→VB,mul_comm→VE
open Option renaming none→Vo,some→Vq
open Option.some renaming inj→VN
open Go.Proofs.YtmliacdegmklaaaGreatDoor
namespace Go.Proofs.YtmliacdegmklaaaGreatDoor
section
open Kp
abbrev Ul(g:Int×Int):List Vr:=[VU VA g.1,VU VA g.2]
abbrev di(l:List (Int×Int)):List (List Vr):=l.map Ul
def mB{l:List (Int×Int)}{i:Nat}(hi:i<l.length):(di l).getD i []=Ul (l.getD i (0,0)):=by
 exact Y5
def Pr(l:List (Int×Int)):dj 2 (di l):=bw (f:=Ul) (λ_=>rfl) l
abbrev qU(b:Br)(ga:Option VM)(gc:Nat):List Vr:=[VU VA b.width,VU VA b.depth,VU VA b.length,VU VA b.count,VU VA b.cost,VQ ga b.gaps.length gc]
def fk(w:Vl)(B:Nat)(A:Option VM)(cap:Nat)(l:List Br):Prop:=
 l.length<=cap/\cap<=VJ/\(0<l.length->∃b off,A=Vq ⟨b,off,Vo⟩/\b<B/\∀i,i<l.length->∃ga gc,(∀j,j<6->w.cell? ⟨b,off+6*i+j,Vo⟩=(qU (l.getD i oe) ga gc)[j]?)/\bK 2 w B ga gc (di (l.getD i oe).gaps))
def fk.below{w w':Vl}{B:Nat}{A:Option VM}{cap:Nat}{l:List Br}(h:fk w B A cap l)(hb:VL B w w'):fk w' B A cap l:=by
 obtain⟨h1,h2,h3⟩:=h;refine⟨h1,h2,λhn=> ?_⟩;obtain⟨b,off,e,hB,hc⟩:=h3 hn;refine⟨b,off,e,hB,λi hi=> ?_⟩;obtain⟨Ai,ci,h4,h5⟩:=hc i hi;exact⟨Ai,ci,λj hj=>(hb.cell hB).trans (h4 j hj),h5.below hb⟩
def fk.more{w:Vl}{B B':Nat}{A:Option VM}{cap:Nat}{l:List Br}(h:fk w B A cap l)(hb:B<=B'):fk w B' A cap l:=by
 exact Zc
def Nd{b:Br}(t:(aO b.width 1 1000&&aO b.depth 1 1000&&aO b.length 1 65536&&aO b.count 0 4096&&aO b.cost 0 1073741824)=Vv)(h:¬16<b.gaps.length):qw b=aV (tU b) b.gaps.length:=by
 unfold qw;rw[t,if_neg V0,if_neg h]
def Bi(b:Br)(ga:Option VM)(gc:Nat)(w:Vl)(t:(aO b.width 1 1000&&aO b.depth 1 1000&&aO b.length 1 65536&&aO b.count 0 4096&&aO b.cost 0 1073741824)=Vp):
  VC prog 142 #[VW (qU b ga gc).toArray] w λe w'=>e=VV (VU VA (qw b))/\Ext w w':=by
 have E0:=Vk (show Ext w (w.alloc (.cells (qU b ga gc).toArray 62)) from(Below.refl _ _).alloc (Vm _) _);have HR:=Vk (show qw b=2 by unfold qw;rw[t,if_pos V0]);obtain⟨n,hn⟩:∃n,b.gaps.length=n:=⟨_,rfl⟩;clear hn;cases t1:aO b.width 1 1000
 ·clear t;go_enter func142,ntmps142;go_wp2_with(go_at_call 204;go_must(refine(eu _ _ _ _).mono ?_);rintro e W1 ⟨rfl,rfl⟩;first|rw[t1]|skip)
  exact Zm
 cases t2:aO b.depth 1 1000
 ·clear t;go_enter func142,ntmps142;go_wp2_with(go_at_call 204;go_must(refine(eu _ _ _ _).mono ?_);rintro e W1 ⟨rfl,rfl⟩;first|rw[t1]|rw[t2]|skip)
  exact Zm
 cases t3:aO b.length 1 65536
 ·clear t;go_enter func142,ntmps142;go_wp2_with(go_at_call 204;go_must(refine(eu _ _ _ _).mono ?_);rintro e W1 ⟨rfl,rfl⟩;first|rw[t1]|rw[t2]|rw[t3]|skip)
  exact Zm
 cases t4:aO b.count 0 4096
 ·clear t;go_enter func142,ntmps142;go_wp2_with(go_at_call 204;go_must(refine(eu _ _ _ _).mono ?_);rintro e W1 ⟨rfl,rfl⟩;first|rw[t1]|rw[t2]|rw[t3]|rw[t4]|skip)
  exact Zm
 rw[t1,t2,t3,t4] at t;have t5:aO b.cost 0 1073741824=Vp:=by simpa using t
 clear t;go_enter func142,ntmps142;go_wp2_with(go_at_call 204;go_must(refine(eu _ _ _ _).mono ?_);rintro e W1 ⟨rfl,rfl⟩;first|rw[t1]|rw[t2]|rw[t3]|rw[t4]|rw[t5]|skip)
 go_ret;exact⟨V9,E0.o⟩
def U2(w:Vl)(b:Br)(i:Vr)(wr:Vl):Prop:=∃k:Nat,k<=b.gaps.length/\i=VU VA (k:Int)/\Ext w wr/\∀j,j<k->tU b j=0
def CA(b:Br)(ga:Option VM)(gc:Nat)(w:Vl)(hg:bK 2 w w.heap.size ga gc (di b.gaps)):
  VC prog 142 #[VW (qU b ga gc).toArray] w λe w'=>e=VV (VU VA (qw b))/\Ext w w':=by
 cases t:(aO b.width 1 1000&&aO b.depth 1 1000&&aO b.length 1 65536&&aO b.count 0 4096&&aO b.cost 0 1073741824)
 ·exact Bi b ga gc w t
 have E0:=Vk (show Ext w (w.alloc (.cells (qU b ga gc).toArray 62)) from(Below.refl _ _).alloc (Vm _) _);have HT:=Vk t;simp only[Bool.and_eq_true] at t;obtain⟨⟨⟨⟨t1,t2⟩,t3⟩,t4⟩,t5⟩:=t;obtain⟨h1,h2,h3⟩:=hg;rw[Vu] at h1 h3;unfold VJ at h2;by_cases h16:16<b.gaps.length
 ·have HR:=Vk (show qw b=4 by unfold qw;rw[HT.o,if_neg V0,if_pos h16]);clear h3;go_enter func142,ntmps142;go_wp2_with(go_at_call 204;go_must(refine(eu _ _ _ _).mono ?_);rintro e W1 ⟨rfl,rfl⟩;first|rw[t1]|rw[t2]|rw[t3]|rw[t4]|rw[t5]|skip)
  exact Zm
 have HR:=Vk (show qw b=aV (tU b) b.gaps.length from Nd HT.o h16);have H3:=Vk h3;have R0:=Vk (ah.new w 62 (qU b ga gc));clear h3;go_enter func142,ntmps142;go_wp2_with(go_at_call 204;go_must(refine(eu _ _ _ _).mono ?_);rintro e W1 ⟨rfl,rfl⟩;first|rw[t1]|rw[t2]|rw[t3]|rw[t4]|rw[t5]|skip)
 obtain⟨w0,hw0⟩:∃w0,w.alloc (.cells (qU b ga gc).toArray 62)=w0:=⟨_,rfl⟩;rw[hw0] at R0 E0;have Z0:=Vk (show w.heap.size<w0.heap.size by rw[<-hw0];simp);simp only[hw0];clear hw0;go_loopw [40] (λi wr=>U2 w0 b i wr) (λi _=>((b.gaps.length:Int)-VG i).toNat)
 case atStart=>exact⟨0,VY,rfl,Below.refl _ _,λj hj=>VY⟩
 case round=>
  obtain⟨k,hk,rfl,hX,hall⟩:=hrel;have HX:=Vk hX;have HA:=Vk hall;clear hX hall;have HRr:=Vk (R0.o.ext HX.o);have c2:=HRr.o.cell 2;have c5:=HRr.o.cell 5;have hzr:=HRr.o.lt;by_cases hlt:k<b.gaps.length
  ·obtain⟨bb,off,rfl,hB,hcell0⟩:=H3.o VY;have hbw:bb<wr.heap.size:=VY;have hcell:=λi hi j hj=>((HX.o.cell (p:=⟨bb,off+2*i+j,Vo⟩) (Nat.lt_trans hB Z0.o)).trans (E0.o.cell (p:=⟨bb,off+2*i+j,Vo⟩) hB)).trans (hcell0 i hi j hj)
   have c1:=hcell k hlt 0 V0;have c1':=hcell k hlt 1 V0;rw[mB hlt] at c1 c1';rw[Nat.add_zero] at c1;rw[VE 2 k] at c1 c1';have hpz:0<k->wr.cell? ⟨bb,off+(k-1)*2+1,Vo⟩=Vq (VU VA (b.gaps.getD (k-1) (0,0)).2):=λh0=>by
    have:=hcell (k-1) VY 1 V0;rwa[mB VY,VE 2 (k-1)] at this
   have HF:=Vk (show tU b k=if(b.gaps.getD k (0,0)).1<0\/b.length<(b.gaps.getD k (0,0)).2\/(b.gaps.getD k (0,0)).2<=(b.gaps.getD k (0,0)).1 then 2 else if 0<k/\(b.gaps.getD k (0,0)).1<=(b.gaps.getD (k-1) (0,0)).2 then 10 else 0 from rfl);obtain⟨⟨x,y⟩,hx⟩:∃x,b.gaps.getD k (0,0)=x:=⟨_,rfl⟩;obtain⟨⟨z,u⟩,hy⟩:∃y,b.gaps.getD (k-1) (0,0)=y:=⟨_,rfl⟩;rw[hx] at c1 c1' HF;rw[hy] at hpz HF;have HPZ:=Vk hpz;clear hx hy hcell hcell0 hpz;dsimp only at HF;have EX:∀o,Ext w0 (wr.alloc o):=λo=>HX.o.alloc HX.o.size _
   have HEX:=Vk EX;clear EX;by_cases hbad:x<0\/b.length<y\/y<=x
   ·have HE:=Vk (show qw b=2 by rw[HR.o,bQ hlt HA.o (by rw[HF.o,if_pos hbad];decide),HF.o,if_pos hbad]);by_cases hb1:x<0
    ·have d1:decide (x<0)=Vv:=by rw[decide_eq_true_eq];exact hb1
     exact Zo
    have d1:decide (x<0)=Vp:=by rw[decide_eq_false_iff_not];exact hb1
    by_cases hb2:b.length<y
    ·have d2:decide (b.length<y)=Vv:=by rw[decide_eq_true_eq];exact hb2
     exact Zo
    have d2:decide (b.length<y)=Vp:=by rw[decide_eq_false_iff_not];exact hb2
    have hb3:y<=x:=VY;have d3:decide (y<=x)=Vv:=by rw[decide_eq_true_eq];exact hb3
    exact Zo
   have d1:decide (x<0)=Vp:=V8;have d2:decide (b.length<y)=Vp:=V8;have d3:decide (y<=x)=Vp:=V8;have HB:=Vk hbad;clear hbad;by_cases h0:0<k
   ·have c3:=HPZ.o h0;have tk:decide (0<(k:Int))=Vv:=Wh;have e1:((k:Int)-1).toNat=k-1:=VY;have e2:0<=(k:Int)-1:=VY;have e3:(k:Int)-1<(b.gaps.length:Int):=VY;have e4:(k:Int)<(b.gaps.length:Int):=VY;have e5:VA.wrap ((k:Int)-1)=(k:Int)-1:=VI _ VY;by_cases hxu:x<=u
    ·have HE:=Vk (show qw b=10 by rw[HR.o,bQ hlt HA.o (by rw[HF.o,if_neg HB.o,if_pos ⟨h0,hxu⟩];decide),HF.o,if_neg HB.o,if_pos ⟨h0,hxu⟩]);have d4:decide (x<=u)=Vv:=by rw[decide_eq_true_eq];exact hxu
     go_wp2;go_quiet (fail)
     go_wp2;go_ret;exact⟨Wk,below_drewN (E0.o.tr (HEX.o _)) _⟩
    ·have d4:decide (x<=u)=Vp:=by rw[decide_eq_false_iff_not];exact hxu
     have HZ:=Vk (show tU b k=0 by rw[HF.o,if_neg HB.o,if_neg (λh=>hxu h.2)]);exact Zn
   ·have tk:decide (0<(k:Int))=Vp:=V8;have HZ:=Vk (show tU b k=0 by rw[HF.o,if_neg HB.o,if_neg (λh=>h0 h.1)]);exact Zn
  ·have hlt':decide ((k:Int)<(b.gaps.length:Int))=Vp:=V8;have HE:=Vk (show qw b=0 by rw[HR.o,bh (λj hj=>HA.o j VY)]);go_wp2;go_ret;exact⟨Wk,E0.o.tr HX.o⟩
end
section
open Kp
def UG(w:Vl)(l:List Br)(i:Vr)(wr:Vl):Prop:=∃k:Nat,k<=l.length/\i=VU VA (k:Int)/\Ext w wr/\∀j,j<k->qw (l.getD j oe)=0
def Ei(w:Vl)(A:Option VM)(cap:Nat)(l:List Br)(hl:fk w w.heap.size A cap l):
  VC prog 72 #[VQ A l.length cap] w λe w'=>e=VV (VU VA (iC l))/\Ext w w':=by
 have h1:=hl.1;have h2:=hl.2.1;unfold VJ at h2;by_cases h16:64<l.length
 ·have HR:=Vk (show iC l=4 by unfold iC;rw[if_pos h16]);clear hl;go_enter func72,ntmps72;go_wp2;go_ret;exact⟨V9,Ext.aB _⟩
 have HR:=Vk (show iC l=aV (λi=>qw (l.getD i oe)) l.length by unfold iC;rw[if_neg h16]);have HL:=Vk hl;clear hl;go_enter func72,ntmps72;go_wp2;go_loopw [11] (λi wr=>UG w l i wr) (λi _=>((l.length:Int)-VG i).toNat)
 case atStart=>exact⟨0,VY,rfl,Below.refl _ _,λj hj=>VY⟩
 case round=>
  obtain⟨k,hk,rfl,hX,hall⟩:=hrel;have HX:=Vk hX;have HA:=Vk hall;have hlw:=HL.o.below hX;clear hX hall;by_cases hlt:k<l.length
  ·obtain⟨b,off,rfl,hB,hcell⟩:=hlw.2.2 VY;obtain⟨ga,gc,hc,hg⟩:=hcell k hlt;have hbw:b<wr.heap.size:=Nat.lt_of_lt_of_le hB HX.o.size;have c0:=hc 0 V0;have c1:=hc 1 V0;have c2:=hc 2 V0;have c3:=hc 3 V0;have c4:=hc 4 V0;have c5:=hc 5 V0;rw[VE] at c0 c1 c2 c3 c4 c5;rw[Nat.add_zero] at c0;obtain⟨x,hx⟩:∃x,l.getD k oe=x:=⟨_,rfl⟩;rw[hx] at c0 c1 c2 c3 c4 c5 hg;have EX:=Vk (λ(p:Obj)=>(HX.o.alloc HX.o.size p:Ext w (wr.alloc p)));have hzz:=HX.o.size;have KS:=Vk (λ(p:Obj)=>CA x ga gc (wr.alloc p) ((hg.below (((Below.refl _ _).alloc (Vm _) p).mono hzz)).more Wa));have HF:=Vk (show qw (l.getD k oe)=qw x by rw[hx]);obtain⟨c,hcc⟩:∃c,qw x=c:=⟨_,rfl⟩;rw[hcc] at HF;simp only[hcc] at KS;clear hlw hcell hc hg hx hcc;by_cases hc0:c=0
   ·have HZ:=Vk (show∀j,j<k+1->qw (l.getD j oe)=0 fromλj hj=>by
     by_cases hjk:j=k
     ·rw[hjk,HF.o];exact hc0
     ·exact HA.o j VY)
    subst hc0;go_wp2_with(go_at_call 142;go_must(refine(KS.o _).mono ?_);rintro e W1 ⟨rfl,hX1⟩)
    exact⟨⟨k+1,VY,V5,Ext.tr (EX.o _) hX1,HZ.o⟩,V7⟩
   ·have HV:=Vk (show iC l=c by rw[HR.o,bQ hlt HA.o (by show qw (l.getD k oe)≠0;rw[HF.o];exact hc0)];exact HF.o);have tc:(c !=0)=Vv:=XG;go_wp2_with(go_at_call 142;go_must(refine(KS.o _).mono ?_);rintro e W1 ⟨rfl,hX1⟩)
    go_ret;exact⟨Wv,Ext.tr (EX.o _) hX1⟩
  ·have hlt':decide ((k:Int)<(l.length:Int))=Vp:=V8;have HE:=Vk (show iC l=0 by rw[HR.o,bh (λj hj=>HA.o j VY)]);clear hlw;exact Zp
end
section
open Kp
def fM{w:Vl}{B:Nat}{A:Option VM}{cap:Nat}{r:List Sd}(h:bK 7 w B A cap (aD r))(hp:0<r.length):
  ∃b off,A=Vq ⟨b,off,Vo⟩/\b<B/\∀i,i<r.length->w.cell? ⟨b,off+i*7,Vo⟩=Vq (VU VA (aq r i).x)/\w.cell? ⟨b,off+i*7+1,Vo⟩=Vq (VU VA (aq r i).y)/\
   w.cell? ⟨b,off+i*7+2,Vo⟩=Vq (VU VA (aq r i).rise)/\w.cell? ⟨b,off+i*7+3,Vo⟩=Vq (VU VA (aq r i).run)/\w.cell? ⟨b,off+i*7+4,Vo⟩=Vq (VS (aq r i).gable)/\
   w.cell? ⟨b,off+i*7+5,Vo⟩=Vq (VU VA (aq r i).plate)/\w.cell? ⟨b,off+i*7+6,Vo⟩=Vq (VU VA (aq r i).over):=by
 obtain⟨h1,h2,h3⟩:=h;obtain⟨b,off,e,hb,hc⟩:=h3 (by rw[Vu];exact hp);refine⟨b,off,e,hb,λi hi=> ?_⟩;have q:∀m,m<7->w.cell? ⟨b,off+i*7+m,Vo⟩=(nt (aq r i))[m]?:=by
  intro m hm;have:=hc i Xi m hm;rw[iJ hi,VE] at this;exact this
 exact⟨q 0 V0,q 1 V0,q 2 V0,q 3 V0,q 4 V0,q 5 V0,q 6 V0⟩
def pI(n:Int):Int:=if n<0 then -1 else if 0<n then 1 else 0
def vY(n:Int)(w:Vl):VC prog 224 #[VU VA n] w λx w'=>x=VV (VU VA (pI n))/\w'=w:=by
 by_cases h1:n<0
 ·have hs:pI n= -1:=if_pos h1;rw[hs];go_enter func224,ntmps224;exact XO
 ·by_cases h2:0<n
  ·have hs:pI n=1:=by unfold pI;rw[if_neg h1,if_pos h2]
   rw[hs];have t1:decide (n<0)=Vp:=decide_eq_false h1;have t2:decide (n>0)=Vv:=decide_eq_true h2;exact a0b
  ·have hs:pI n=0:=by unfold pI;rw[if_neg h1,if_neg h2]
   rw[hs];have t1:decide (n<0)=Vp:=decide_eq_false h1;have t2:decide (n>0)=Vp:=decide_eq_false h2;exact a0b
def mC(w:Vl)(A:Option VM)(cap:Nat)(r:List Sd)(h:bK 7 w w.heap.size A cap (aD r))(i:Nat)(hi:i<r.length):
  VC prog 223 #[VQ A r.length cap,VU VA (i:Int)] w λx w'=>x=VV (VX #[VU VA (aP r i).x,VU VA (aP r i).y])/\Ext w w':=by
 have h1:=h.1;have h2:=h.2.1;rw[Vu] at h1;unfold VJ at h2;obtain⟨b,off,rfl,hb,hc⟩:=fM h VY;rw[iZ];have w1:VA.wrap ((i:Int)+1)=(i:Int)+1:=VI _ VY;obtain⟨p,hp⟩:∃p,(i+1)%r.length=p:=⟨_,rfl⟩;have hpl:p<r.length:=by rw[<-hp];exact Nat.mod_lt _ VY
 have q1:((i:Int)+1).tmod (r.length:Int)=(p:Int):=by rw[Int.tmod_eq_emod_of_nonneg VY,<-hp];rfl
 have z1:((r.length:Int)==0)=Vp:=beq_eq_false_iff_ne.2 VY;have w2:VA.wrap (p:Int)=(p:Int):=VI _ VY;obtain⟨c0,c1,_⟩:=hc p hpl;rw[hp];clear hp hc h;go_enter func223,ntmps223;go_wp2_with fail
 go_quiet (fail)
 go_wp2;go_ret2;exact⟨rfl,below_drewN (Below.refl _ _) _⟩
def oU(r:List Sd)(i:Nat):Int:=pI (VA.wrap ((aP r i).x-(aq r i).x))
def oQ(r:List Sd)(i:Nat):Int:=pI (VA.wrap ((aP r i).y-(aq r i).y))
def L8(n:Int): -1<=pI n/\pI n<=1:=by unfold pI;split <;>(try split)<;>omega
def xx(w:Vl)(A:Option VM)(cap:Nat)(r:List Sd)(h:bK 7 w w.heap.size A cap (aD r))(i:Nat)(hi:i<r.length):
  VC prog 170 #[VQ A r.length cap,VU VA (i:Int)] w λx w'=>x=VV (VX #[VU VA (oU r i),VU VA (oQ r i)])/\Ext w w':=by
 have h1:=h.1;have h2:=h.2.1;rw[Vu] at h1;unfold VJ at h2;have KE:=Vk (mC w A cap r h i hi);obtain⟨b,off,rfl,hb,hc⟩:=fM h VY;have HB:=Vk hb;obtain⟨c0,c1,_⟩:=hc i hi;have HX:=Vk (show pI (VA.wrap ((aP r i).x-(aq r i).x))=oU r i from rfl);have HY:=Vk (show pI (VA.wrap ((aP r i).y-(aq r i).y))=oQ r i from rfl);obtain⟨x,hx⟩:∃x,oU r i=x:=⟨_,rfl⟩;obtain⟨y,hy⟩:∃y,oQ r i=y:=⟨_,rfl⟩;rw[hx] at HX;rw[hy] at HY;rw[hx,hy];have KS:=Vk (λ(W:Vl)=>vY (VA.wrap ((aP r i).x-(aq r i).x)) W);have KT:=Vk (λ(W:Vl)=>vY (VA.wrap ((aP r i).y-(aq r i).y)) W);rw[HX.o] at KS;rw[HY.o] at KT;clear hx hy hc h HX HY;go_enter func170,ntmps170;go_wp2_with(go_at_call 223;go_must(refine KE.o.mono ?_);rintro e W1 ⟨rfl,hX1⟩;have HX1:=Vk hX1;have d0:=(hX1.cell (p:=⟨b,off+i*7,Vo⟩) HB.o).trans c0;have d1:=(hX1.cell (p:=⟨b,off+i*7+1,Vo⟩) HB.o).trans c1;clear hX1;clear c0 c1)
 go_quiet ((go_at_call 224;first|exact Calls.quiet_of_same (KS.o _)|exact Calls.quiet_of_same (KT.o _)))
 go_wp2;go_ret2;exact⟨rfl,below_drewN HX1.o _⟩
def lS(r:List Sd)(i:Nat):Int:=wrap64 (wrap64 (oU r ((i+r.length-1)%r.length)*oQ r i)-wrap64 (oQ r ((i+r.length-1)%r.length)*oU r i))
def vy(w:Vl)(A:Option VM)(cap:Nat)(r:List Sd)(h:bK 7 w w.heap.size A cap (aD r))(hn:r.length<=1000000)(i:Nat)(hi:i<r.length):
  VC prog 171 #[VQ A r.length cap,VU VA (i:Int)] w λx w'=>x=VV (VU VA (lS r i))/\Ext w w':=by
 have h1:=h.1;have h2:=h.2.1;rw[Vu] at h1;unfold VJ at h2;have HL:=Vk h;have w1:VA.wrap ((i:Int)+r.length)=(i:Int)+r.length:=VI _ VY;have w2:VA.wrap ((i:Int)+r.length-1)=(i:Int)+r.length-1:=VI _ VY;obtain⟨p,hp⟩:∃p,(i+r.length-1)%r.length=p:=⟨_,rfl⟩;have hpl:p<r.length:=by rw[<-hp];exact Nat.mod_lt _ VY
 have q1:((i:Int)+r.length-1).tmod (r.length:Int)=(p:Int):=by rw[Int.tmod_eq_emod_of_nonneg VY,show((i:Int)+r.length-1)=((i+r.length-1:Nat):Int) by omega,<-hp];rfl
 have z1:((r.length:Int)==0)=Vp:=beq_eq_false_iff_ne.2 VY;have w3:VA.wrap (p:Int)=(p:Int):=VI _ VY;have KD:=Vk (λ(W:Vl) (hx:Ext w W) (k:Nat) (hk:k<r.length)=>xx W A cap r ((h.below hx).more hx.size) k hk);obtain⟨x,hx⟩:∃x,oU r p=x:=⟨_,rfl⟩;obtain⟨y,hy⟩:∃y,oQ r p=y:=⟨_,rfl⟩;have bx:=L8 (VA.wrap ((aP r p).x-(aq r p).x));have KP:=Vk (KD.o w (Below.refl _ _) p hpl);have KI:=Vk (λ(W:Vl) (hx:Ext w W)=>KD.o W hx i hi);rw[hx,hy] at KP;obtain⟨u,hu⟩:∃u,oU r i=u:=⟨_,rfl⟩;obtain⟨v,hv⟩:∃v,oQ r i=v:=⟨_,rfl⟩;simp only[hu,hv] at KI;have HV:=Vk (show lS r i=wrap64 (wrap64 (x*v)-wrap64 (y*u)) by unfold lS;rw[hp,hx,hy,hu,hv]);rw[HV.o];clear hx hy hu hv hp h KD bx;go_enter func171,ntmps171;go_wp2_with(first
  |(go_at_call 170;have hX0:=hX1;clear hX1;refine(KI.o _ hX0).mono ?_;rintro e W2 ⟨rfl,hX2⟩;have hX12:=Ext.tr hX0 hX2)
  |(go_at_call 170;refine KP.o.mono ?_;rintro e W1 ⟨rfl,hX1⟩))
 go_ret;exact⟨rfl,hX12⟩
end
section
open Kp
def GC{w:Vl}{A:Option VM}{cap:Nat}{rs:List (List Sd)}(hr:eB w w.heap.size A cap rs)(hp:0<rs.length):
  ∃b off,∃f:Nat->Option VM×Nat,A=Vq ⟨b,off,Vo⟩/\b<w.heap.size/\∀W,Ext w W->∀k,k<rs.length->W.cell? ⟨b,off+k,Vo⟩=Vq (VQ (f k).1 (rs.getD k []).length (f k).2)/\bK 7 W W.heap.size (f k).1 (f k).2 (aD (rs.getD k [])):=by
 obtain⟨b,off,e,hb,hc⟩:=hr.2.2 hp;have hx:∀k,∃p:Option VM×Nat,k<rs.length->w.cell? ⟨b,off+k,Vo⟩=Vq (VQ p.1 (rs.getD k []).length p.2)/\bK 7 w w.heap.size p.1 p.2 (aD (rs.getD k [])):=by
  intro k;by_cases hk:k<rs.length
  ·obtain⟨Ai,ci,h1,h2⟩:=hc k hk;exact⟨(Ai,ci),λ_=>⟨h1,h2⟩⟩
  ·exact⟨(Vo,0),λh=>absurd h hk⟩
 obtain⟨f,hf⟩:=Classical.axiomOfChoice hx;refine⟨b,off,f,e,hb,λW hW k hk=> ?_⟩;obtain⟨h1,h2⟩:=hf k hk;exact⟨(hW.cell hb).trans h1,(h2.below hW).more hW.size⟩
def Kr{rs:List (List Sd)}(hne:∀r∈rs,r≠[]){k:Nat}(hk:k<rs.length):0<(rs.getD k []).length:=by
 rw[Vn,Vt hk];exact List.length_pos_iff.2 (hne _ (List.getElem_mem hk))
end
section
open Kp
structure Eo(W0:Vl)(t:VK)(zero rowa:List Vr)(val:Nat->Vr)(L:Nat->Bool)(vs:Nat->Vr)(W:Vl):Prop where
 vals:∀q,L q=Vv->q<15->vs q=val q
 ext:Ext W0 W
 a:L 15=Vv->∃pa,vs 15=VT (Vq ⟨pa,0,Vo⟩)/\W0.heap.size<=pa/\ah W pa t (if L 17=Vv then rowa else zero)/\(L 16=Vv->vs 16≠ VT (Vq ⟨pa,0,Vo⟩))
 b:L 16=Vv->∃pb,vs 16=VT (Vq ⟨pb,0,Vo⟩)/\W0.heap.size<=pb/\ah W pb t zero
 st:L 17=Vv->L 15=Vv
variable {W0 W : Vl} {t : VK} {zero rowa : List Vr} {val : Nat → Vr} {L : Nat → Bool} {vs : Nat → Vr}
def Eo.start(h:Ext W0 W)(us:Nat->Vr):Eo W0 t zero rowa val (λ_=>Vp) us W:=
 ⟨λ_ h=>V6,h,λh=>V6,λh=>V6,λh=>V6⟩
def Eo.pure(h:Eo W0 t zero rowa val L vs W){q:Nat}(hq:q<15){v:Vr}(hv:v=val q):Eo W0 t zero rowa val (fx L q) (aW vs q v) W:=by
 have n15:15≠q:=VY;have n16:16≠q:=VY;have n17:17≠q:=VY;refine⟨λm hm hl=> ?_,h.ext,?_,?_,?_⟩
 ·by_cases e:m=q
  ·subst e;rw[cF];exact hv
  ·exact a0c
 ·rw[aa n15,aa n16,aa n17,aC n15,aC n16];exact h.a
 ·rw[aa n16,aC n16];exact h.b
 ·rw[aa n17,aa n15];exact h.st
def Eo.U3(h:Eo W0 t zero rowa val L vs W)(hL:L 15=Vp)(hz:zero=zero){W':Vl}(hW:W'=W.alloc (.cells zero.toArray t)):Eo W0 t zero rowa val (fx L 15) (aW vs 15 (VT (Vq ⟨W.heap.size,0,Vo⟩))) W':=by
 subst hW;have h17:L 17=Vp:=by cases q:L 17 with|false=>rfl|true=>rw[h.st q] at hL;cases hL
 have hx:Ext W (W.alloc (.cells zero.toArray t)):=(Below.refl _ _).alloc (Vm _) _;refine⟨λm hm hl=> ?_,h.ext.tr hx,?_,?_,?_⟩
 ·have e:m≠15:=VY;exact a0c
 ·intro _;rw[cF,aa (k:=17) V0,h17,aa (k:=16) V0,aC (k:=16) V0];refine⟨_,rfl,h.ext.size,by rw[if_neg V0];exact ah.new _ _ _,λh16 e=> ?_⟩;obtain⟨pb,e2,_,hr⟩:=h.b h16;rw[e2] at e;exact a0d
 ·rw[aa (k:=16) V0,aC (k:=16) V0];intro h16;obtain⟨pb,e2,hl,hr⟩:=h.b h16;exact⟨pb,e2,hl,hr.ext hx⟩
 ·rw[aa (k:=17) V0,h17];intro h;cases h
def Eo.Vd(h:Eo W0 t zero rowa val L vs W){W':Vl}(hW:W'=W.alloc (.cells zero.toArray t)):Eo W0 t zero rowa val (fx L 16) (aW vs 16 (VT (Vq ⟨W.heap.size,0,Vo⟩))) W':=by
 subst hW;have hx:Ext W (W.alloc (.cells zero.toArray t)):=(Below.refl _ _).alloc (Vm _) _;refine⟨λm hm hl=> ?_,h.ext.tr hx,?_,?_,?_⟩
 ·have e:m≠16:=VY;exact a0c
 ·rw[aa (k:=15) V0,aa (k:=17) V0,aC (k:=15) V0,cF];intro h15;obtain⟨pa,e1,hl,hr,_⟩:=h.a h15;refine⟨pa,e1,hl,hr.ext hx,λ_ e=> ?_⟩;exact a0d
 ·intro _;rw[cF];exact⟨_,rfl,h.ext.size,ah.new _ _ _⟩
 ·rw[aa (k:=17) V0,aa (k:=15) V0];exact h.st
def Eo.store(h:Eo W0 t zero rowa val L vs W)(h15:L 15=Vv){pa:Nat}(hp:vs 15=VT (Vq ⟨pa,0,Vo⟩)):Eo W0 t zero rowa val (fx L 17) (aW vs 17 Vs) (W.setRow pa rowa.toArray):=by
 obtain⟨pa',e1,hl,hr,hne⟩:=h.a h15;obtain rfl:pa=pa':=by rw[hp] at e1;injection e1 with e1;injection e1 with e1;injection e1 with e1
 refine⟨λm hm hl=> ?_,af h.ext hl _,?_,?_,?_⟩
 ·have e:m≠17:=VY;exact a0c
 ·rw[aa (k:=15) V0,aa (k:=16) V0,dn,aC (k:=15) V0,aC (k:=16) V0];intro _;exact⟨pa,hp,hl,by rw[if_pos rfl];exact setRow_heap hr _,hne⟩
 ·rw[aa (k:=16) V0,aC (k:=16) V0];intro h16;obtain⟨pb,e2,hl2,hr2⟩:=h.b h16;have hpp:pb≠pa:=λe=>hne h16 (by rw[e2,e])
  have:(W.setRow pa rowa.toArray).heap[pb]?=W.heap[pb]?:=by simp only[World.setRow,Array.getElem?_modify];rw[if_neg (Ne.symm hpp)]
  exact⟨pb,e2,hl2,this.trans hr2⟩
 ·intro _;rw[aa (k:=15) V0];exact h15
def pS(bk ok n c k p:Nat)(r:List Sd):Nat->Vr
 |0=> VQ (Vq ⟨bk,ok,Vo⟩) n c
 |1=> VU VA (k:Int)
 |2=> VQ (Vq ⟨bk,ok,Vo⟩) n c
 |3=> VU VA (n:Int)
 |4=> VU VA ((k:Int)+n)
 |5=> VU VA ((k:Int)+n-1)
 |6=> VQ (Vq ⟨bk,ok,Vo⟩) n c
 |7=> VU VA (n:Int)
 |8=> VU VA (p:Int)
 |9=> VT (Vq ⟨bk,ok+p*7,Vo⟩)
 |10=> VW (nt (aq r p)).toArray
 |11=> VQ (Vq ⟨bk,ok,Vo⟩) n c
 |12=> VU VA (k:Int)
 |13=> VT (Vq ⟨bk,ok+k*7,Vo⟩)
 |14=> VW (nt (aq r k)).toArray
 |_=>Vs
def wpList_skip{P:Program}{ops:Array Oper}{rest:List Oper}{o:Oper}{a:Act}{w:Vl}{Q:Exit->Act->Vl->Prop}(hg:Region.wanted o (yielded ops a.tmps)=Vp)(h:wpList P ops Q rest (a.put o.dst Vs) w):wpList P ops Q (o::rest) a w:=
 wpList_step λ_ hK=>by
  rw[if_neg (by rw[hg];decide)];exact hK _ _ h
end
section
open Kp
def lO{p:Prop}(h:p:=by
  go_enter func105,ntmps105;go_wp2_with(go_at_call 169;go_must(refine(JQ _ _ _ _).mono ?_);rintro e W1 ⟨rfl,rfl⟩)
  go_ret;exact⟨V5,E0.o⟩):p:=h
def Co(s:Sd)(w:Vl):VC prog 105 #[VW (nt s).toArray] w λx w'=>x=VV (VS (aJ s))/\Ext w w':=by
 have R0:=ah.new w 54 (nt s);have E0:=Vk (show Ext w (w.alloc (.cells (nt s).toArray 54)) from(Below.refl _ _).alloc (Vm _) _);obtain⟨x,y,rise,run,gable,plate,over⟩:=s;cases gable;all_goals
  have c:=λi=>R0.cell i
  obtain⟨b0,t0⟩:∃b,aO x 0 65536=b:=⟨_,rfl⟩;obtain⟨b1,t1⟩:∃b,aO y 0 65536=b:=⟨_,rfl⟩;obtain⟨b2,t2⟩:∃b,aO plate 0 65536=b:=⟨_,rfl⟩;obtain⟨b3,t3⟩:∃b,aO over 0 65536=b:=⟨_,rfl⟩;obtain⟨b4,t4⟩:∃b,aO rise 1 48=b:=⟨_,rfl⟩;obtain⟨b5,t5⟩:∃b,aO run 1 48=b:=⟨_,rfl⟩;obtain⟨b6,t6⟩:∃b,(rise==0)=b:=⟨_,rfl⟩;obtain⟨b7,t7⟩:∃b,(run==0)=b:=⟨_,rfl⟩;unfold aJ;simp only[t0,t1,t2,t3,t4,t5,t6,t7,if_true,Bool.false_eq_true,if_false];cases b0
  ·exact lO
  cases b1
  ·exact lO
  cases b2
  ·exact lO
  cases b3
  ·exact lO
  cases b4<;>cases b6<;>exact lO
def lF(r:List Sd)(x y:Int)(k:Nat):Bool:=((aq r k).x==(aP r k).x)&&decide ((aP r k).x>x)&&decide (min (aq r k).y (aP r k).y<=y)&&decide (y<max (aq r k).y (aP r k).y)
def mj{p:Prop}(h:p:=by
  go_wp2_with(go_at_call 223;go_must(refine KE.o.mono ?_);rintro e W1 ⟨rfl,hX1⟩;have HX1:=Vk (Ext.tr HX.o hX1);have d0:=(hX1.cell (p:=⟨b,off+k*7,Vo⟩) HB.o).trans c0;have d1:=(hX1.cell (p:=⟨b,off+k*7+1,Vo⟩) HB.o).trans c1;clear hX1;clear c0 c1)
  exact⟨⟨k+1,by rw[HO.o];simp,by go_num,VY,HX1.o⟩,V7⟩):p:=h
def Bq(w:Vl)(A:Option VM)(cap:Nat)(r:List Sd)(h:bK 7 w w.heap.size A cap (aD r))(x y:Int):
  VC prog 174 #[VQ A r.length cap,VU VA x,VU VA y] w λe w'=>e=VV (VS (np (lF r x y) r.length))/\Ext w w':=by
 have h1:=h.1;have h2:=h.2.1;rw[Vu] at h1;unfold VJ at h2;have HL:=Vk (λ(W:Vl) (hx:Ext w W)=>((h.below hx).more hx.size:bK 7 W W.heap.size A cap (aD r)));clear h;obtain⟨f,hf⟩:∃f,np (lF r x y)=f:=⟨_,rfl⟩;have HS:=Vk (show∀k,f (k+1)=(if lF r x y k then !f k else f k) by rw[<-hf];intro k;rfl);have H0:=Vk (show f 0=Vp by rw[<-hf];rfl);rw[hf];clear hf;go_enter func174,ntmps174;go_wp2;go_loopw [7,8] (λs i wr=>∃k:Nat,s=VS (f k)/\i=VU VA (k:Int)/\k<=r.length/\Ext w wr) (λ_ i _=>((r.length:Int)-VG i).toNat)
 case atStart=>exact⟨0,by rw[H0.o],rfl,VY,Below.refl _ _⟩
 case round=>
  obtain⟨k,rfl,rfl,hk,hX⟩:=hrel;have HX:=Vk hX;by_cases hlt:k<r.length
  ·obtain⟨b,off,rfl,hb,hc⟩:=fM (HL.o _ hX) VY;obtain⟨c0,c1,_⟩:=hc k hlt;have HB:=Vk hb;have KE:=Vk (mC wr _ cap r (HL.o _ hX) k hlt);have hs:=HS.o k;unfold lF at hs;obtain⟨u,hu⟩:∃u,(aP r k).x=u:=⟨_,rfl⟩;obtain⟨v,hv⟩:∃u,(aP r k).y=u:=⟨_,rfl⟩;obtain⟨ox,hox⟩:∃u,(aq r k).x=u:=⟨_,rfl⟩;obtain⟨oy,hoy⟩:∃u,(aq r k).y=u:=⟨_,rfl⟩;rw[hu,hv,hox,hoy] at hs;rw[hu,hv] at KE;rw[hox] at c0;rw[hoy] at c1;clear hc hX hb hu hv hox hoy;obtain⟨p1,lD⟩:∃p,(ox==u)=p:=⟨_,rfl⟩;obtain⟨p2,qG⟩:∃p,decide (u>x)=p:=⟨_,rfl⟩;obtain⟨p3,hp3⟩:∃p,decide (min oy v<=y)=p:=⟨_,rfl⟩;obtain⟨p4,hp4⟩:∃p,decide (y<max oy v)=p:=⟨_,rfl⟩;rw[lD,qG,hp3,hp4] at hs;obtain⟨o,ho⟩:∃o,f k=o:=⟨_,rfl⟩;rw[ho] at hs⊢;have HO:=Vk hs;clear hs ho;cases p1
   ·exact mj
   cases p2
   ·exact mj
   cases p3
   ·exact mj
   cases p4
   ·exact mj
   ·exact mj
  ·obtain rfl:k=r.length:=VY;exact ZW
def lK(r:List Sd):Nat->Int
 |0=>0
 |k+1=>wrap64 (wrap64 (lK r k+wrap64 ((aq r k).x*(aP r k).y))-wrap64 ((aP r k).x*(aq r k).y))
def F9(w:Vl)(A:Option VM)(cap:Nat)(r:List Sd)(h:bK 7 w w.heap.size A cap (aD r))(hn:r.length<=1000000):
  VC prog 173 #[VQ A r.length cap] w λx w'=>x=VV (VU VA (lK r r.length))/\Ext w w':=by
 have h1:=h.1;have h2:=h.2.1;rw[Vu] at h1;unfold VJ at h2;have HL:=Vk (λ(W:Vl) (hx:Ext w W)=>((h.below hx).more hx.size:bK 7 W W.heap.size A cap (aD r)));clear h;obtain⟨f,hf⟩:∃f,lK r=f:=⟨_,rfl⟩;have HS:=Vk (show∀k,f (k+1)=wrap64 (wrap64 (f k+wrap64 ((aq r k).x*(aP r k).y))-wrap64 ((aP r k).x*(aq r k).y)) by rw[<-hf];intro k;rfl);have H0:=Vk (show f 0=0 by rw[<-hf];rfl);rw[hf];clear hf;go_enter func173,ntmps173;go_wp2;go_loopw [3,4] (λs i wr=>∃k:Nat,s=VU VA (f k)/\i=VU VA (k:Int)/\k<=r.length/\Ext w wr) (λ_ i _=>((r.length:Int)-VG i).toNat)
 case atStart=>exact⟨0,by rw[H0.o],rfl,VY,Below.refl _ _⟩
 case round=>
  obtain⟨k,rfl,rfl,hk,hX⟩:=hrel;have HX:=Vk hX;by_cases hlt:k<r.length
  ·obtain⟨b,off,rfl,hb,hc⟩:=fM (HL.o _ hX) VY;obtain⟨c0,c1,_⟩:=hc k hlt;have HB:=Vk hb;have KE:=Vk (mC wr _ cap r (HL.o _ hX) k hlt);have hs:=HS.o k;obtain⟨z,hz⟩:∃z,f k=z:=⟨_,rfl⟩;rw[hz] at hs⊢;have HO:=Vk hs;clear hc hX hb hs hz;go_wp2_with(go_at_call 223;go_must(refine KE.o.mono ?_);rintro e W1 ⟨rfl,hX1⟩;have HX1:=Vk (Ext.tr HX.o hX1);have d0:=(hX1.cell (p:=⟨b,off+k*7,Vo⟩) HB.o).trans c0;have d1:=(hX1.cell (p:=⟨b,off+k*7+1,Vo⟩) HB.o).trans c1;clear hX1;clear c0 c1)
   go_quiet (fail)
   go_wp2;exact⟨⟨k+1,by rw[HO.o],by go_num,VY,below_drewN HX1.o _⟩,V7⟩
  ·obtain rfl:k=r.length:=VY;exact ZW
end
section
open Kp
def tA{p:Prop}(h:p:=by
  go_enter func172,ntmps172;go_wp2_with(first
   |(go_at_call 223;have hX0:=hX1;clear hX1;refine(KF.o _ hX0.o).mono ?_;rintro e W2 ⟨rfl,hX2⟩;have HX2:=Vk (Ext.tr hX0.o hX2);have d0:=(HX2.o.cell (p:=⟨b,off+i*7,Vo⟩) HB.o).trans c0;have d1:=(HX2.o.cell (p:=⟨b,off+i*7+1,Vo⟩) HB.o).trans c1;have f0:=(HX2.o.cell (p:=⟨b',off'+k*7,Vo⟩) HB'.o).trans e0;have f1:=(HX2.o.cell (p:=⟨b',off'+k*7+1,Vo⟩) HB'.o).trans e1;clear c0 c1 e0 e1 hX2)
   |(go_at_call 223;refine KE.o.mono ?_;rintro e W1 ⟨rfl,hX1⟩;have hX1:=Vk hX1))
  simp only[List.append_eq,List.cons_append,List.nil_append];refine dy 66 VZ VZ (λW3 hW3=> ?_);have g0:=(hW3.cell (p:=⟨b,off+i*7,Vo⟩) (Nat.lt_of_lt_of_le HB.o HX2.o.size)).trans d0;have g1:=(hW3.cell (p:=⟨b,off+i*7+1,Vo⟩) (Nat.lt_of_lt_of_le HB.o HX2.o.size)).trans d1;have g2:=(hW3.cell (p:=⟨b',off'+k*7,Vo⟩) (Nat.lt_of_lt_of_le HB'.o HX2.o.size)).trans f0;have g3:=(hW3.cell (p:=⟨b',off'+k*7+1,Vo⟩) (Nat.lt_of_lt_of_le HB'.o HX2.o.size)).trans f1;have HX3:=Vk (HX2.o.tr hW3);clear hW3 d0 d1 f0 f1;refine rK (λOPS hOPS=> ?_);have D15:(OPS[15]?).bind (·.dst)=Vq 40:=by rw[hOPS];rfl
  have D32:(OPS[32]?).bind (·.dst)=Vq 57:=by rw[hOPS];rfl
  have D49:(OPS[49]?).bind (·.dst)=Vq 74:=by rw[hOPS];rfl
  clear hOPS;simp only[List.take_succ_cons,List.take_zero,List.drop_succ_cons,List.drop_zero];iterate 16 still_step
  iterate 15 (refine wpStill_step (λK hK=> ?_);(first|rw[if_neg (qX rfl D15 rfl rfl)]|rw[if_pos (eP rfl D15 rfl rfl)]);go_simp;refine hK _ ?_;clear hK K)
  iterate 2 still_step
  iterate 15 (refine wpStill_step (λK hK=> ?_);(first|rw[if_neg (qX rfl D32 rfl rfl)]|rw[if_pos (eP rfl D32 rfl rfl)]);go_simp;refine hK _ ?_;clear hK K)
  iterate 2 still_step
  iterate 15 (refine wpStill_step (λK hK=> ?_);(first|rw[if_neg (qX rfl D49 rfl rfl)]|rw[if_pos (eP rfl D49 rfl rfl)]);go_simp;refine hK _ ?_;clear hK K)
  still_step
  refine wpStill_nil ?_;go_wp2;go_ret;exact⟨by rw[HV.o];simp,HX3.o⟩):p:=h
def FC(w:Vl)(A:Option VM)(cap:Nat)(r:List Sd)(h:bK 7 w w.heap.size A cap (aD r))(i:Nat)(hi:i<r.length)
  (A2:Option VM)(cap2:Nat)(r2:List Sd)(h2:bK 7 w w.heap.size A2 cap2 (aD r2))(k:Nat)(hk:k<r2.length):
  VC prog 172 #[VQ A r.length cap,VU VA (i:Int),VQ A2 r2.length cap2,VU VA (k:Int)] w λx w'=>x=VV (VS (ee (lA r i) (lA r2 k)))/\Ext w w':=by
 have a1:=h.1;have a2:=h.2.1;have b1:=h2.1;have b2:=h2.2.1;rw[Vu] at a1 b1;unfold VJ at a2 b2;have KE:=Vk (mC w A cap r h i hi);have KF:=Vk (λ(W:Vl) (hx:Ext w W)=>mC W A2 cap2 r2 ((h2.below hx).more hx.size) k hk);obtain⟨b,off,rfl,hb,hc⟩:=fM h VY;obtain⟨b',off',rfl,hb',hc'⟩:=fM h2 VY;obtain⟨c0,c1,_⟩:=hc i hi;obtain⟨e0,e1,_⟩:=hc' k hk;have HB:=Vk hb;have HB':=Vk hb';obtain⟨x,hx⟩:∃x,(aP r i).x=x:=⟨_,rfl⟩;obtain⟨y,hy⟩:∃y,(aP r i).y=y:=⟨_,rfl⟩;obtain⟨u,hu⟩:∃u,(aP r2 k).x=u:=⟨_,rfl⟩;obtain⟨v,hv⟩:∃v,(aP r2 k).y=v:=⟨_,rfl⟩;have hq:ee (lA r i) (lA r2 k)=(decide (min (aq r i).x (aP r i).x<=max (aq r2 k).x (aP r2 k).x)&&decide (min (aq r2 k).x (aP r2 k).x<=max (aq r i).x (aP r i).x)&&decide (min (aq r i).y (aP r i).y<=max (aq r2 k).y (aP r2 k).y)&&decide (min (aq r2 k).y (aP r2 k).y<=max (aq r i).y (aP r i).y)):=rfl;obtain⟨vv,hvv⟩:∃vv,ee (lA r i) (lA r2 k)=vv:=⟨_,rfl⟩;rw[hvv] at hq⊢;rw[hx,hy,hu,hv] at hq;rw[hx,hy] at KE;simp only[hu,hv] at KF;obtain⟨ax,hax⟩:∃x,(aq r i).x=x:=⟨_,rfl⟩;obtain⟨ay,hay⟩:∃x,(aq r i).y=x:=⟨_,rfl⟩;obtain⟨bx,hbx⟩:∃x,(aq r2 k).x=x:=⟨_,rfl⟩;obtain⟨by',hby⟩:∃x,(aq r2 k).y=x:=⟨_,rfl⟩;rw[hax,hay,hbx,hby] at hq;rw[hax] at c0;rw[hay] at c1;rw[hbx] at e0;rw[hby] at e1;clear hvv hx hy hu hv hc hc' h h2 hb hb' hax hay hbx hby;obtain⟨m0,hm0⟩:∃m,min ax x=m:=⟨_,rfl⟩;obtain⟨m1,hm1⟩:∃m,max bx u=m:=⟨_,rfl⟩;obtain⟨m2,hm2⟩:∃m,min bx u=m:=⟨_,rfl⟩;obtain⟨m3,hm3⟩:∃m,max ax x=m:=⟨_,rfl⟩;obtain⟨m4,hm4⟩:∃m,min ay y=m:=⟨_,rfl⟩;obtain⟨m5,hm5⟩:∃m,max by' v=m:=⟨_,rfl⟩;obtain⟨m6,hm6⟩:∃m,min by' v=m:=⟨_,rfl⟩;obtain⟨m7,hm7⟩:∃m,max ay y=m:=⟨_,rfl⟩;rw[hm0,hm1,hm2,hm3,hm4,hm5,hm6,hm7] at hq;obtain⟨p1,lD⟩:∃p,decide (m0<=m1)=p:=⟨_,rfl⟩;obtain⟨p2,qG⟩:∃p,decide (m2<=m3)=p:=⟨_,rfl⟩;obtain⟨p3,hp3⟩:∃p,decide (m4<=m5)=p:=⟨_,rfl⟩;obtain⟨p4,hp4⟩:∃p,decide (m6<=m7)=p:=⟨_,rfl⟩;rw[lD,qG,hp3,hp4] at hq;have HV:=Vk hq;clear hq;cases p1
 ·exact tA
 cases p2
 ·exact tA
 cases p3
 ·exact tA
 exact tA
end
section
open Kp
def mz(rs:List (List Sd))(k m q u:Nat):Bool:=
 !((k==q)&&(decide (u<=m)||(u==m+1)||((m==0)&&((u:Int)==((rs.getD k []).length:Int)-1))))&&ee (lA (rs.getD k []) m) (lA (rs.getD q []) u)
def UC(rs:List (List Sd))(k m q:Nat):Prop:=∀u,u<(rs.getD q []).length->mz rs k m q u=Vp
def UW(rs:List (List Sd))(k m:Nat):Prop:=∀q,k<=q->q<rs.length->UC rs k m q
def UJ(rs:List (List Sd))(k:Nat):Prop:=∀m,m<(rs.getD k []).length->UW rs k m
def Sh(rs:List (List Sd))(b:Bool):Prop:=
 (b=Vv->∃k m q u,k<rs.length/\m<(rs.getD k []).length/\k<=q/\q<rs.length/\u<(rs.getD q []).length/\mz rs k m q u=Vv)/\(b=Vp->∀k,k<rs.length->UJ rs k)
def jw{P:Nat->Prop}{n:Nat}(h:∀j,j<n->P j)(hn:P n):∀j,j<n+1->P j:=λj hj=>by
 rcases Nat.lt_succ_iff_lt_or_eq.1 hj with h'|rfl
 ·exact h j h'
 ·exact hn
def NR{p:Prop}(h:p:=by
  cases zz
  ·have hf:=HU.o (by rw[HH.o];simp);have HF4:=Vk hf;clear hf;go_wp2_with fail
   go_region_held3(λw'=>Ext wr w') (first|exact hx1|exact Ext.dr wr) (first|(go_at_call 172;go_must(refine(KQu.o _ (HX4.o.tr (Ext.dr wr))).mono ?_);rintro e W3 ⟨rfl,hX5⟩;have hx1:Ext wr W3:=(Ext.dr wr).tr hX5;clear hX5))
   go_wp2
   go_round
   case rel=>exact⟨u+1,by go_num,VY,HX4.o.tr hx1,HF4.o⟩
   case measure=>simp[VG];omega
  ·have ht:=HT.o (by rw[HH.o];simp);have HT4:=Vk ht;clear ht;go_wp2_with fail
   go_region_held3(λw'=>Ext wr w') (first|exact hx1|exact Ext.dr wr) (first|(go_at_call 172;go_must(refine(KQu.o _ (HX4.o.tr (Ext.dr wr))).mono ?_);rintro e W3 ⟨rfl,hX5⟩;have hx1:Ext wr W3:=(Ext.dr wr).tr hX5;clear hX5))
   go_wp2;go_ret;exact⟨⟨_,rfl,HT4.o⟩,HX4.o.tr hx1⟩):p:=h
def zg{p:Prop}(h:p:=by
  have hf:=HU.o (by rw[HH.o];simp);have HF4:=Vk hf;clear hf;go_wp2;exact⟨⟨u+1,by go_num,VY,HX4.o,HF4.o⟩,V7⟩):p:=h
def zA(w:Vl)(A:Option VM)(cap:Nat)(rs:List (List Sd))(hr:eB w w.heap.size A cap rs)(hp:0<rs.length)(hlen:∀k,(rs.getD k []).length<=1000000):
  VC prog 107 #[VQ A rs.length cap] w λx w'=>(∃b:Bool,x=VV (VS b)/\Hid (Sh rs b))/\Ext w w':=by
 have h1:=hr.1;have h2:=hr.2.1;unfold VJ at h2;obtain⟨b,off,f,rfl,hb,hf⟩:=GC hr hp;have HF:=Vk hf;have HLN:=Vk hlen;have KT:=Vk (λ(W:Vl) (h:Ext w W) (k:Nat) (hk:k<rs.length) (i:Nat) (hi:i<(rs.getD k []).length) (q:Nat) (hq:q<rs.length) (u:Nat) (hu:u<(rs.getD q []).length)=>FC W (f k).1 (f k).2 (rs.getD k []) (hf W h k hk).2 i hi (f q).1 (f q).2 (rs.getD q []) (hf W h q hq).2 u hu);clear hr hf hlen;go_enter func107,ntmps107;go_wp2;go_loopw [3] (λi wr=>∃k:Nat,i=VU VA (k:Int)/\k<=rs.length/\Ext w wr/\∀j,j<k->UJ rs j) (λi _=>((rs.length:Int)-VG i).toNat)
 case atStart=>exact⟨0,rfl,VY,Below.refl _ _,λj h=>VY⟩
 case round=>
  obtain⟨k,rfl,hk,hX,hA1⟩:=hrel;have HX:=Vk hX;have A1:=Vk hA1;clear hA1;by_cases hlt:k<rs.length
  ·obtain⟨n,hn⟩:∃n,(rs.getD k []).length=n:=⟨_,rfl⟩;obtain⟨fa,hfa⟩:∃x,(f k).1=x:=⟨_,rfl⟩;obtain⟨fc,hfc⟩:∃x,(f k).2=x:=⟨_,rfl⟩;have HC:=Vk (λW (h:Ext w W)=>(show W.cell? ⟨b,off+k,Vo⟩=Vq (VQ fa n fc) by rw[<-hn,<-hfa,<-hfc];exact(HF.o W h k hlt).1));have hn6:n<=1000000:=hn▸HLN.o k;have HN:=Vk hn;have HA:=Vk hfa;have HCC:=Vk hfc;clear hX hn hfa hfc;go_wp2_with fail
   go_loopw [4] (λi wr=>∃m:Nat,i=VU VA (m:Int)/\m<=n/\Ext w wr/\∀j,j<m->UW rs k j) (λi _=>((n:Int)-VG i).toNat)
   case atStart=>exact⟨0,rfl,VY,HX.o,λj h=>VY⟩
   case round=>
    obtain⟨m,rfl,hm,hX2,hA2⟩:=hrel;have HX2:=Vk hX2;have A2:=Vk hA2;have c1:=HC.o _ hX2;clear hX2 hA2;by_cases hlt2:m<n
    ·go_wp2_with fail
     clear c1;go_loopw [5] (λi wr=>∃q:Nat,i=VU VA (q:Int)/\q<=rs.length/\Ext w wr/\k<=q/\∀j,k<=j->j<q->UC rs k m j) (λi _=>((rs.length:Int)-VG i).toNat)
     case atStart=>exact⟨k,rfl,VY,HX2.o,Vm _,λj h1 h2=>VY⟩
     case round=>
      obtain⟨q,rfl,hq,hX3,hkq,hA3⟩:=hrel;have HX3:=Vk hX3;have A3:=Vk hA3;clear hX3 hA3;by_cases hlt3:q<rs.length
      ·obtain⟨n',hn'⟩:∃n,(rs.getD q []).length=n:=⟨_,rfl⟩;obtain⟨ga,hga⟩:∃x,(f q).1=x:=⟨_,rfl⟩;obtain⟨gc,hgc⟩:∃x,(f q).2=x:=⟨_,rfl⟩;have HD:=Vk (λW (h:Ext w W)=>(show W.cell? ⟨b,off+q,Vo⟩=Vq (VQ ga n' gc) by rw[<-hn',<-hga,<-hgc];exact(HF.o W h q hlt3).1));have KQ:=KT.o;have KQ:=λ(W:Vl) (h:Ext w W)=>KT.o W h k hlt m (by rw[HN.o];exact hlt2) q hlt3
       simp only[hn',hga,hgc,HN.o,HA.o,HCC.o] at KQ;have KQ:=Vk KQ;have HN':=Vk hn';have hn7:n'<=1000000:=hn'▸HLN.o q;clear hn' hga hgc;go_wp2_with fail
       go_loopw [6] (λi wr=>∃u:Nat,i=VU VA (u:Int)/\u<=n'/\Ext w wr/\∀j,j<u->mz rs k m q j=Vp) (λi _=>((n':Int)-VG i).toNat)
       case atStart=>exact⟨0,rfl,VY,HX3.o,λj h=>VY⟩
       case round=>
        obtain⟨u,rfl,hu,hX4,hA4⟩:=hrel;have HX4:=Vk hX4;have A4:=Vk hA4;have c1:=HC.o _ hX4;have c2:=HD.o _ hX4;clear hX4 hA4;by_cases hlt4:u<n'
        ·have KQu:=λW (h:Ext w W)=>KQ.o W h u hlt4
         obtain⟨zz,hzz⟩:∃z,ee (lA (rs.getD k []) m) (lA (rs.getD q []) u)=z:=⟨_,rfl⟩;simp only[hzz] at KQu;have KQu:=Vk KQu;have hit:mz rs k m q u=(!((k==q)&&(decide (u<=m)||(u==m+1)||((m==0)&&((u:Int)==(n:Int)-1))))&&zz):=by unfold mz;rw[hzz,HN.o]
         have HT:=Vk (λh:mz rs k m q u=Vv=>(show Hid (Sh rs Vv) from Vk ⟨λ_=>⟨k,m,q,u,hlt,by rw[HN.o];exact hlt2,hkq,hlt3,by rw[HN'.o];exact hlt4,h⟩,λh=>V6⟩));have HU:=Vk (λh:mz rs k m q u=Vp=>jw (P:=λj=>mz rs k m q j=Vp) A4.o h);clear hzz;have w1:VA.wrap ((m:Int)+1)=(m:Int)+1:=VI _ VY;have w2:VA.wrap ((n:Int)-1)=(n:Int)-1:=VI _ VY;have a1:=λw' (h:Ext wr w')=>HC.o w' (HX4.o.tr h)
         have a2:=λw' (h:Ext wr w')=>HD.o w' (HX4.o.tr h)
         obtain⟨e1,t1⟩:∃e,((k:Int)==(q:Int))=e:=⟨_,rfl⟩;obtain⟨e2,t2⟩:∃e,decide ((u:Int)<=(m:Int))=e:=⟨_,rfl⟩;obtain⟨e3,t3⟩:∃e,((u:Int)==(m:Int)+1)=e:=⟨_,rfl⟩;obtain⟨e4,t4⟩:∃e,((m:Int)==0)=e:=⟨_,rfl⟩;obtain⟨e5,t5⟩:∃e,((u:Int)==(n:Int)-1)=e:=⟨_,rfl⟩;have s1:(k==q)=e1:=by rw[<-t1,Bool.eq_iff_iff,beq_iff_eq,beq_iff_eq];omega
         have s2:decide (u<=m)=e2:=by rw[<-t2];exact decide_eq_decide.2 VY
         have s3:(u==m+1)=e3:=by rw[<-t3,Bool.eq_iff_iff,beq_iff_eq,beq_iff_eq];omega
         have s4:(m==0)=e4:=by rw[<-t4,Bool.eq_iff_iff,beq_iff_eq,beq_iff_eq];omega
         rw[s1,s2,s3,s4,t5] at hit;have HH:=Vk hit;clear hit;cases e1
         ·exact NR
         cases e2
         case true=>exact zg
         cases e3
         case true=>exact zg
         cases e4
         ·exact NR
         cases e5
         ·exact NR
         ·exact zg
        ·obtain rfl:u=n':=VY;have HQ:=Vk (show UC rs k m q fromλj hj=>A4.o j (by rw[<-HN'.o];exact hj));go_wp2;exact⟨⟨q+1,by go_num,VY,HX4.o,VY,λj h1 h2=>by
          rcases Nat.lt_succ_iff_lt_or_eq.1 h2 with h'|rfl
          ·exact A3.o j h1 h'
          ·exact HQ.o⟩,V7⟩
      ·obtain rfl:q=rs.length:=VY;go_wp2;exact⟨⟨m+1,by go_num,VY,HX3.o,jw A2.o (λq hq hl=>A3.o q hq hl)⟩,V7⟩
    ·obtain rfl:m=n:=VY;have HK:=Vk (show UJ rs k fromλj hj=>A2.o j (by rw[<-HN.o];exact hj));go_wp2;exact⟨⟨k+1,by go_num,VY,HX2.o,jw A1.o HK.o⟩,V7⟩
  ·obtain rfl:k=rs.length:=VY;go_wp2;go_ret;exact⟨⟨_,rfl,Vk ⟨λh=>V6,λ_=>A1.o⟩⟩,HX.o⟩
end
section
open Kp
def lN(r:List Sd)(m:Nat):Bool:=decide (lS r m<0)&&((er r m).gable||(aq r m).gable||(er r m).plate !=(aq r m).plate)
def qD(rs:List (List Sd)):Bool:= !cC (λk=>cC (lN (rs.getD k [])) (rs.getD k []).length) rs.length&&kN rs rs.length
def Pw{p:Prop}(h:p:=by
  intro i L vs W hi hL hI hd;have HI:=Vk hI;rcases(show i=0\/i=1\/i=2\/i=3\/i=4\/i=5\/i=6\/i=7\/i=8\/i=9\/i=10\/i=11\/i=12\/i=13\/i=14\/i=15\/i=16\/i=17 by omega) with rfl|rfl|rfl|rfl|rfl|rfl|rfl|rfl|rfl|rfl|rfl|rfl|rfl|rfl|rfl|rfl|rfl|rfl<;>clear hi hI
  ·exact a0S
  ·exact a0S
  ·exact a0S
  ·refine Vx rfl (λK hK=> ?_);have d2:=HI.o.vals 2 (hd 2 VZ) V0;simp only[pS] at d2;go_simp;exact hK _ _ ⟨_,by simp[aW,pS,d2],HI.o.pure V0 rfl⟩
  ·refine Vx rfl (λK hK=> ?_);have d1:=HI.o.vals 1 (hd 1 VZ) V0;simp only[pS] at d1;have d3:=HI.o.vals 3 (hd 3 VZ) V0;simp only[pS] at d3;have w1:VA.wrap ((m:Int)+ring.length)=(m:Int)+ring.length:=VI _ VY;go_simp;exact hK _ _ ⟨_,by simp[aW,pS,d1,d3],HI.o.pure V0 rfl⟩
  ·refine Vx rfl (λK hK=> ?_);have d4:=HI.o.vals 4 (hd 4 VZ) V0;simp only[pS] at d4;have w2:VA.wrap ((m:Int)+ring.length-1)=(m:Int)+ring.length-1:=VI _ VY;go_simp;exact hK _ _ ⟨_,by simp[aW,pS,d4],HI.o.pure V0 rfl⟩
  ·exact a0S
  ·refine Vx rfl (λK hK=> ?_);have d6:=HI.o.vals 6 (hd 6 VZ) V0;simp only[pS] at d6;go_simp;exact hK _ _ ⟨_,by simp[aW,pS,d6],HI.o.pure V0 rfl⟩
  ·refine Vx rfl (λK hK=> ?_);have d5:=HI.o.vals 5 (hd 5 VZ) V0;simp only[pS] at d5;have d7:=HI.o.vals 7 (hd 7 VZ) V0;simp only[pS] at d7;have q1:=HQ1.o;have w3:VA.wrap (p:Int)=(p:Int):=VI _ VY;have z1:((ring.length:Int)==0)=Vp:=beq_eq_false_iff_ne.2 VY;have z2:¬ring=[]:=by intro h;rw[h] at hlt2;simp at hlt2
   go_simp;exact hK _ _ ⟨_,by simp[aW,pS,d5,d7],HI.o.pure V0 rfl⟩
  ·refine Vx rfl (λK hK=> ?_);have d0:=HI.o.vals 0 (hd 0 VZ) V0;simp only[pS] at d0;have d8:=HI.o.vals 8 (hd 8 VZ) V0;simp only[pS] at d8;go_simp;exact hK _ _ ⟨_,by simp[aW,pS,d0,d8],HI.o.pure V0 rfl⟩
  ·refine Vx rfl (λK hK=> ?_);have d9:=HI.o.vals 9 (hd 9 VZ) V0;simp only[pS] at d9;obtain⟨y0,y1,y2,y3,y4,y5,y6⟩:=HC.o p hpl;have c0:=(HI.o.ext.cell (p:=⟨bk,ok+p*7,Vo⟩) HBK.o).trans y0;have c1:=(HI.o.ext.cell (p:=⟨bk,ok+p*7+1,Vo⟩) HBK.o).trans y1;have c2:=(HI.o.ext.cell (p:=⟨bk,ok+p*7+2,Vo⟩) HBK.o).trans y2;have c3:=(HI.o.ext.cell (p:=⟨bk,ok+p*7+3,Vo⟩) HBK.o).trans y3;have c4:=(HI.o.ext.cell (p:=⟨bk,ok+p*7+4,Vo⟩) HBK.o).trans y4;have c5:=(HI.o.ext.cell (p:=⟨bk,ok+p*7+5,Vo⟩) HBK.o).trans y5;have c6:=(HI.o.ext.cell (p:=⟨bk,ok+p*7+6,Vo⟩) HBK.o).trans y6;clear y0 y1 y2 y3 y4 y5 y6;go_simp;exact hK _ _ ⟨_,by simp[aW,pS,d9],HI.o.pure V0 rfl⟩
  ·exact a0S
  ·exact a0S
  ·refine Vx rfl (λK hK=> ?_);have d11:=HI.o.vals 11 (hd 11 VZ) V0;simp only[pS] at d11;have d12:=HI.o.vals 12 (hd 12 VZ) V0;simp only[pS] at d12;go_simp;exact hK _ _ ⟨_,by simp[aW,pS,d11,d12],HI.o.pure V0 rfl⟩
  ·refine Vx rfl (λK hK=> ?_);have d13:=HI.o.vals 13 (hd 13 VZ) V0;simp only[pS] at d13;obtain⟨y0,y1,y2,y3,y4,y5,y6⟩:=HC.o m hlt2;have c0:=(HI.o.ext.cell (p:=⟨bk,ok+m*7,Vo⟩) HBK.o).trans y0;have c1:=(HI.o.ext.cell (p:=⟨bk,ok+m*7+1,Vo⟩) HBK.o).trans y1;have c2:=(HI.o.ext.cell (p:=⟨bk,ok+m*7+2,Vo⟩) HBK.o).trans y2;have c3:=(HI.o.ext.cell (p:=⟨bk,ok+m*7+3,Vo⟩) HBK.o).trans y3;have c4:=(HI.o.ext.cell (p:=⟨bk,ok+m*7+4,Vo⟩) HBK.o).trans y4;have c5:=(HI.o.ext.cell (p:=⟨bk,ok+m*7+5,Vo⟩) HBK.o).trans y5;have c6:=(HI.o.ext.cell (p:=⟨bk,ok+m*7+6,Vo⟩) HBK.o).trans y6;clear y0 y1 y2 y3 y4 y5 y6;go_simp;exact hK _ _ ⟨_,by simp[aW,pS,d13],HI.o.pure V0 rfl⟩
  ·refine Vx rfl (λK hK=> ?_);go_simp;exact hK _ _ ⟨_,rfl,HI.o.U3 hL rfl rfl⟩
  ·refine Vx rfl (λK hK=> ?_);go_simp;exact hK _ _ ⟨_,rfl,HI.o.Vd rfl⟩
  ·refine Vx rfl (λK hK=> ?_);have d10:=HI.o.vals 10 (hd 10 VZ) V0;simp only[pS] at d10;have h15:=hd 15 VZ;obtain⟨pa,e15,_,hr,_⟩:=HI.o.a h15;rw[if_neg (by rw[hL];decide)] at hr;exact wp_store_row 54 (.tmp 7) (.tmp 35) rfl pa (nt (aq ring p)).toArray e15 d10 54 _ hr VZ rfl VZ (hK _ _ ⟨Vs,rfl,HI.o.store h15 e15⟩)):p:=h
def uw{p:Prop}(h:p:=by
  have hv:=HF.o (by rw[BAD.o];simp);subst hv;go_wp2_with(first
   |(refine wpList_store_row rfl 54 _ _ rfl pb _ rfl rfl 54 _ RB.o VZ VZ VZ ?_)
   |(go_at_call 171;go_must(refine(KT.o _ (HX3.o.tr E2.o)).mono ?_);rintro x1 W3 ⟨rfl,hX4⟩;have HX4:=Vk (Ext.tr E2.o hX4);have ca:=λi=>(RA2.o.ext hX4).cell i;have cb:=λi=>(RB2.o.ext hX4).cell i;clear hX4))
  go_ret;exact⟨rfl,HX3.o.tr HX4.o⟩):p:=h
def Dy{p:Prop}(h:p:=by
  have hok:=HOK.o (by rw[BAD.o];simp);have HO:=Vk hok;clear hok;go_wp2_with(first
   |(refine wpList_store_row rfl 54 _ _ rfl pb _ rfl rfl 54 _ RB.o VZ VZ VZ ?_)
   |(go_at_call 171;go_must(refine(KT.o _ (HX3.o.tr E2.o)).mono ?_);rintro x1 W3 ⟨rfl,hX4⟩;have HX4:=Vk (Ext.tr E2.o hX4);have ca:=λi=>(RA2.o.ext hX4).cell i;have cb:=λi=>(RB2.o.ext hX4).cell i;clear hX4))
  go_round
  case rel=>exact⟨m+1,by rw[HG.o];simp,by go_num,VY,HX3.o.tr HX4.o,HO.o⟩
  case measure=>simp[VG];omega):p:=h
def Gw{p:Prop}(h:p:=by
  have hok:=HOK.o (by rw[BAD.o];simp);have HO:=Vk hok;clear hok;go_wp2_with(first
   |(with_reducible show wpList _ _ _ ({dst:=Vq 45,op:=_,type:=_,pos:=_,after:=_,guard:=_}::_) _ _;refine wpList_skip VZ ?_)
   |(with_reducible show wpList _ _ _ ({dst:=Vq 46,op:=_,type:=_,pos:=_,after:=_,guard:=_}::_) _ _;refine wpList_skip VZ ?_)
   |(with_reducible show wpList _ _ _ ({dst:=Vq 47,op:=_,type:=_,pos:=_,after:=_,guard:=_}::_) _ _;refine wpList_skip VZ ?_)
   |(with_reducible show wpList _ _ _ ({dst:=Vq 48,op:=_,type:=_,pos:=_,after:=_,guard:=_}::_) _ _;refine wpList_skip VZ ?_)
   |(with_reducible show wpList _ _ _ ({dst:=Vq 49,op:=_,type:=_,pos:=_,after:=_,guard:=_}::_) _ _;refine wpList_skip VZ ?_)
   |(with_reducible show wpList _ _ _ ({dst:=Vq 50,op:=_,type:=_,pos:=_,after:=_,guard:=_}::_) _ _;refine wpList_skip VZ ?_)
   |(with_reducible show wpList _ _ _ ({dst:=Vq 51,op:=_,type:=_,pos:=_,after:=_,guard:=_}::_) _ _;refine wpList_skip VZ ?_)
   |(with_reducible show wpList _ _ _ ({dst:=Vq 52,op:=_,type:=_,pos:=_,after:=_,guard:=_}::_) _ _;refine wpList_skip VZ ?_)
   |(with_reducible show wpList _ _ _ ({dst:=Vq 53,op:=_,type:=_,pos:=_,after:=_,guard:=_}::_) _ _;refine wpList_skip VZ ?_)
   |(with_reducible show wpList _ _ _ ({dst:=Vq 54,op:=_,type:=_,pos:=_,after:=_,guard:=_}::_) _ _;refine wpList_skip VZ ?_)
   |(with_reducible show wpList _ _ _ ({dst:=Vq 55,op:=_,type:=_,pos:=_,after:=_,guard:=_}::_) _ _;refine wpList_skip VZ ?_)
   |(with_reducible show wpList _ _ _ ({dst:=Vq 56,op:=_,type:=_,pos:=_,after:=_,guard:=_}::_) _ _;refine wpList_skip VZ ?_)
   |(with_reducible show wpList _ _ _ ({dst:=Vq 57,op:=_,type:=_,pos:=_,after:=_,guard:=_}::_) _ _;refine wpList_skip VZ ?_)
   |(refine wpList_store_row rfl 54 _ _ rfl pb _ rfl rfl 54 _ RB.o VZ VZ VZ ?_)
   |(go_at_call 171;go_must(refine(KT.o _ (HX3.o.tr E2.o)).mono ?_);rintro x1 W3 ⟨rfl,hX4⟩;have HX4:=Vk (Ext.tr E2.o hX4);have ca:=λi=>(RA2.o.ext hX4).cell i;have cb:=λi=>(RB2.o.ext hX4).cell i;clear hX4))
  go_round
  case rel=>exact⟨m+1,by rw[HG.o];simp,by go_num,VY,HX3.o.tr HX4.o,HO.o⟩
  case measure=>simp[VG];omega):p:=h
def Qu{p:Prop}(h:p:=by
  intro L vs W hL hI;have v14:=hI.vals 14 (hL 14 VY) V0;simp only[pS] at v14;obtain⟨pa,e15,hpa,ra,hab⟩:=hI.a (hL 15 VY);rw[if_pos (hL 17 VY)] at ra;obtain⟨pb,e16,hpb,rb⟩:=hI.b (hL 16 VY);have hab:pa≠pb:=λe=>hab (hL 16 VY) (by rw[e16,e])
  have HD:=Vk hI.ext;have RA:=Vk ra;have RB:=Vk rb;clear hI ra rb;simp only[v14,e15,e16,List.drop_succ_cons,List.drop_zero];clear v14 e15 e16;have E2:=Vk (af HD.o hpb (nt (aq ring m)).toArray);have RA2:=Vk (show ah (W.setRow pb (nt (aq ring m)).toArray) pa 54 (nt (aq ring p)) from(by
   have:(W.setRow pb (nt (aq ring m)).toArray).heap[pa]?=W.heap[pa]?:=by simp only[World.setRow,Array.getElem?_modify];rw[if_neg (Ne.symm hab)]
   exact this.trans RA.o))
  have RB2:=Vk (show ah (W.setRow pb (nt (aq ring m)).toArray) pb 54 (nt (aq ring m)) from setRow_heap RB.o _);obtain⟨sa,hsa⟩:∃x,aq ring p=x:=⟨_,rfl⟩;obtain⟨sb,hsb⟩:∃x,aq ring m=x:=⟨_,rfl⟩;have bad:=BAD0.o;have hgs:=HG2.o;rw[hsa,hsb] at bad;rw[hsb] at hgs;rw[ht] at bad;rw[hsa,hsb] at RA2;rw[hsb] at RB2 E2;rw[hsb];obtain⟨ax,ay,arise,arun,ag,apl,aov⟩:=sa;obtain⟨bx,by',brise,brun,bg,bpl,bov⟩:=sb;clear hsa hsb HC HQ1;have BAD:=Vk bad;have HG:=Vk hgs;clear bad hgs;cases t
  ·cases o2
   ·exact Gw
   ·exact Gw
  ·cases ag
   case true=>exact uw
   cases bg
   case true=>exact uw
   by_cases hap:apl=bpl
   ·subst hap;cases o2
    ·exact Dy
    ·exact Dy
   ·have tp:(apl !=bpl)=Vv:=bne_iff_ne.2 hap;rw[tp] at BAD;clear hap;exact uw):p:=h
def BC(w:Vl)(A:Option VM)(cap:Nat)(rs:List (List Sd))(hr:eB w w.heap.size A cap rs)(hp:0<rs.length)(hlen:∀k,(rs.getD k []).length<=1000000):
  VC prog 109 #[VQ A rs.length cap] w λx w'=>x=VV (VS (qD rs))/\Ext w w':=by
 have h1:=hr.1;have h2:=hr.2.1;unfold VJ at h2;obtain⟨b,off,f,rfl,hb,hf⟩:=GC hr hp;have HF0:=Vk hf;have HLEN:=Vk hlen;clear hr hf hlen;obtain⟨v,hv⟩:∃v,qD rs=v:=⟨_,rfl⟩;rw[hv];have HV:=Vk hv;clear hv;obtain⟨G,hG⟩:∃G,kN rs=G:=⟨_,rfl⟩;have HGG:=Vk hG;have G0:=Vk (show G 0=Vp by rw[<-hG];rfl);clear hG;go_enter func109,ntmps109;go_wp2;go_loopw [3,4] (λs i wr=>∃k:Nat,s=VS (G k)/\i=VU VA (k:Int)/\k<=rs.length/\Ext w wr/\∀j,j<k->cC (lN (rs.getD j [])) (rs.getD j []).length=Vp) (λ_ i _=>((rs.length:Int)-VG i).toNat)
 case atStart=>exact⟨0,by rw[G0.o],rfl,VY,Below.refl _ _,λj h=>VY⟩
 case round=>
  obtain⟨k,rfl,rfl,hk,hX,hA1⟩:=hrel;have HX:=Vk hX;have A1:=Vk hA1;clear hA1;by_cases hlt:k<rs.length
  ·have c0:=(HF0.o wr hX k hlt).1;have HG1:=Vk (show G (k+1)=(G k||lQ (rs.getD k []) (rs.getD k []).length) by rw[<-HGG.o];rfl);have HB1:=Vk (λh:cC (lN (rs.getD k [])) (rs.getD k []).length=Vv=>show v=Vp by rw[<-HV.o];unfold qD;rw[dH (p:=λk=>cC (lN (rs.getD k [])) (rs.getD k []).length) hlt h];rfl);have HA1:=Vk (λh:cC (lN (rs.getD k [])) (rs.getD k []).length=Vp=>jw (P:=λj=>cC (lN (rs.getD j [])) (rs.getD j []).length=Vp) A1.o h);obtain⟨ring,hring⟩:∃r,rs.getD k []=r:=⟨_,rfl⟩;rw[hring] at HG1 HB1 HA1;have HR:=Vk (λW (h:Ext w W)=>hring▸(HF0.o W h k hlt).2:∀W,Ext w W->bK 7 W W.heap.size (f k).1 (f k).2 (aD ring));have hrl:ring.length<=1000000:=hring▸HLEN.o k;have hrc:ring.length<=(f k).2:=by have:=(HR.o wr hX).1;rw[Vu] at this;exact this
   have hrm:=(HR.o wr hX).2.1;unfold VJ at hrm;rw[hring] at c0;obtain⟨fa,hfa⟩:∃x,(f k).1=x:=⟨_,rfl⟩;obtain⟨fc,hfc⟩:∃x,(f k).2=x:=⟨_,rfl⟩;simp only[hfa,hfc] at c0 HR hrc hrm;obtain⟨gk,hgk⟩:∃x,G k=x:=⟨_,rfl⟩;rw[hgk] at HG1⊢;clear hX hring hfa hfc hgk;obtain⟨g,hg⟩:∃g:Nat->Bool,(λm=>gk||lQ ring m)=g:=⟨_,rfl⟩;have HGS:=Vk (show∀m,g (m+1)=(g m|| !(aq ring m).gable) by rw[<-hg];intro m;show(gk||(lQ ring m|| !(aq ring m).gable))=_;rw[Bool.or_assoc]);have HG0:=Vk (show g 0=gk by rw[<-hg];show(gk||Vp)=gk;simp);have HGE:=Vk (show G (k+1)=g ring.length by rw[<-hg];exact HG1.o);clear hg;go_wp2_with fail
   go_loopw [3,6] (λs i wr=>∃m:Nat,s=VS (g m)/\i=VU VA (m:Int)/\m<=ring.length/\Ext w wr/\∀j,j<m->lN ring j=Vp) (λ_ i _=>((ring.length:Int)-VG i).toNat)
   case atStart=>exact⟨0,by rw[HG0.o],rfl,VY,HX.o,λj h=>VY⟩
   case round=>
    obtain⟨m,rfl,rfl,hm,hX3,hA2⟩:=hrel;have HX3:=Vk hX3;have A2:=Vk hA2;clear hA2;by_cases hlt2:m<ring.length
    ·obtain⟨bk,ok,rfl,hbk,hck⟩:=fM (HR.o _ hX3) VY;have HF:=Vk (λh:lN ring m=Vv=>HB1.o (dH hlt2 h));have HOK:=Vk (λh:lN ring m=Vp=>jw (P:=λj=>lN ring j=Vp) A2.o h);have bad:lN ring m=(decide (lS ring m<0)&&((aq ring ((m+ring.length-1)%ring.length)).gable||(aq ring m).gable||(aq ring ((m+ring.length-1)%ring.length)).plate !=(aq ring m).plate)):=rfl;have hgs:=HGS.o m;obtain⟨p,hpe⟩:∃p,(m+ring.length-1)%ring.length=p:=⟨_,rfl⟩;rw[hpe] at bad;have hpl:p<ring.length:=by rw[<-hpe];exact Nat.mod_lt _ VY
     have q1:((m:Int)+ring.length-1).tmod (ring.length:Int)=(p:Int):=by rw[Int.tmod_eq_emod_of_nonneg VY,show((m:Int)+ring.length-1)=((m+ring.length-1:Nat):Int) by omega,<-hpe];rfl
     have HQ1:=Vk q1;have KT:=Vk (λ(W:Vl) (hx:Ext w W)=>vy W _ fc ring (HR.o W hx) hrl m hlt2);have HC:=Vk hck;have HBK:=Vk hbk;obtain⟨q,hq⟩:∃q,lS ring m=q:=⟨_,rfl⟩;simp only[hq] at KT;rw[hq] at bad;obtain⟨o2,ho2⟩:∃x,g m=x:=⟨_,rfl⟩;rw[ho2] at hgs⊢;have BAD0:=Vk bad;have HG2:=Vk hgs;clear hX3 hck hbk hq hpe q1 bad hgs ho2;obtain⟨t,ht⟩:∃t,decide (q<0)=t:=⟨_,rfl⟩;go_wp2_with fail
     refine wp_region_any VZ (bW 18 (λvs=>⟨#[VQ (Vq ⟨b,off,Vo⟩) rs.length cap,Vs,u2,VS o2,VU VA (k:Int),VQ (Vq ⟨bk,ok,Vo⟩) ring.length fc,VU VA (m:Int),vs 15,vs 16,VU VA (k:Int),VQ (Vq ⟨b,off,Vo⟩) rs.length cap,VU VA (rs.length:Int),VS Vv,u13,u14,VQ (Vq ⟨b,off,Vo⟩) rs.length cap,VU VA (k:Int),VT (Vq ⟨b,off+k,Vo⟩),VQ (Vq ⟨bk,ok,Vo⟩) ring.length fc,VU VA (m:Int),VQ (Vq ⟨bk,ok,Vo⟩) ring.length fc,VU VA (ring.length:Int),VS Vv,u23,u24,vs 0,vs 1,vs 2,vs 3,vs 4,vs 5,vs 6,vs 7,vs 8,vs 9,vs 10,vs 11,vs 12,vs 13,vs 14,u40,u41,u42,u43,u44,u45,u46,u47,u48,u49,u50,u51,u52,u53,u54,u55,u56,u57,u58,u59,u60,u61,u62,u63,u64,Vs],[]⟩)
      (λL vs W=>Eo wr 54 (nt Rb) (nt (aq ring p)) (pS bk ok ring.length fc m p ring) L vs W) VZ ?_ ?_ (λi=>match i with|0=>u25|1=>u26|2=>u27|3=>u28|4=>u29|5=>u30|6=>u31|7=>u32|8=>u33|9=>u34|10=>u35|11=>u36|12=>u37|13=>u38|14=>u39|15=>u7|16=>u8|_=>Vs) _ (Eo.start (Ext.dr wr) _))
     ·exact Pw
     ·exact Qu
    ·obtain rfl:m=ring.length:=VY;have hk1:=HA1.o (bt A2.o);have HK1:=Vk hk1;clear hk1;go_wp2;exact⟨⟨k+1,by rw[HGE.o],by go_num,VY,HX3.o,HK1.o⟩,V7⟩
  ·obtain rfl:k=rs.length:=VY;have hv:v=G rs.length:=by rw[<-HV.o,<-HGG.o];unfold qD;rw[bt A1.o];simp
   subst hv;exact ZW
end
end Go.Proofs.YtmliacdegmklaaaGreatDoor
