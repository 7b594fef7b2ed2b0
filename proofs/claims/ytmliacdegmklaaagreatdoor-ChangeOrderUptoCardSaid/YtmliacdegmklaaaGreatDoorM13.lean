/- ChangeReplays of kingpostlaw58: part 13 of its proof (merged and shortened by program). -/
import Derived.Deep.AppendLies
import Derived.Deep.RegionLaw
import Derived.Lib.SliceRun
import Derived.Shelf.RegionOpenPlain
import Derived.Lib.AppendZerosOnto
import Derived.Lib.Overlaps
import Derived.Shelf.Spec.SlicesInsert
import Derived.Shelf.Spec.SlicesInsertGrow
import Derived.Test.YtmliacdegmklaaaGreatDoorM04
import Derived.Test.YtmliacdegmklaaaGreatDoorM05
import Derived.Test.YtmliacdegmklaaaGreatDoorM06
set_option linter.unusedVariables false
set_option linter.unusedSimpArgs false
set_option linter.defProp false
set_option maxHeartbeats 8000000
set_option maxRecDepth 100000
open Go.RowKit Go.Shelf Go.Proofs.Tryz
open Array renaming getElem?_eq_some_iff→Vz
open Bool renaming false→Vp,true→Vv,and_eq_true_iff→Vw
open Go renaming World→Vl,Value→Vr,undef→Vs,wpOp_step→Vx,Calls→VC,maxLen→VJ,TypeId→VK,Addr→VM,Rows→VP
open Go.AllReady renaming cons→VH,nil→VO
open Go.Ending renaming returned→VV
open Go.IntKind renaming i64→VA
open Go.IntWalk renaming i64_in→VI
open Go.Lib renaming hid→Vk
open Go.RowKit renaming intOf→VG,Below→VL
open Go.Value renaming slice→VQ,string→VR,bool→VS,pointer→VT,int→VU,agg→VW,tuple→VX
open Go.World renaming alloc_heap_new→Vy,size_alloc→VF
open List renaming getD_eq_getElem?_getD→Vn,getElem?_eq_getElem→Vt,length_map→Vu,length_append→VD
open Nat renaming le_refl→Vm,le_trans→VB,mul_comm→VE
open Option renaming none→Vo,some→Vq
open Option.some renaming inj→VN
open Go.Proofs.YtmliacdegmklaaaGreatDoor
namespace Go.Proofs.YtmliacdegmklaaaGreatDoor
section
open Kp
abbrev GA(x:Sz):List Vr:=[VU VA x.kind,VU VA x.width,VU VA x.depth]
abbrev bN(l:List Sz):List (List Vr):=l.map GA
def xI{l:List Sz}{i:Nat}(hi:i<l.length):(bN l).getD i []=GA (l.getD i iF):=by
 exact Y5
def zC(l:List Sz):dj 3 (bN l):=bw (f:=GA) (λ_=>rfl) l
def pd(l:List Sz)(k:Nat)(j:Nat):Bool:=cC (λi=>(l.getD i iF).kind==(j:Int)) k
def fI(w:Vl)(b:Nat)(l:List Sz)(k:Nat):Prop:=
 ∃cs:Array Vr,w.heap[b]?=Vq (.cells cs 176 (0,0))/\cs.size=13/\∀j,j<13->cs[j]?=Vq (VS (pd l k j))
def fI.cell{w:Vl}{b:Nat}{l:List Sz}{k j:Nat}(h:fI w b l k)(hj:j<13):w.cell? ⟨b,j,Vo⟩=Vq (VS (pd l k j)):=by
 obtain⟨cs,h1,h2,h3⟩:=h;simp[World.cell?,h1,h3 j hj]
def fI.frozen{w:Vl}{b:Nat}{l:List Sz}{k:Nat}(h:fI w b l k)(j:Nat):w.frozen? ⟨b,j,Vo⟩=Vp:=by
 obtain⟨cs,h1,h2,h3⟩:=h;simp[World.frozen?,h1]
def fI.lt{w:Vl}{b:Nat}{l:List Sz}{k:Nat}(h:fI w b l k):b<w.heap.size:=by
 obtain⟨cs,h1,_⟩:=h;exact(Vz.1 h1).1
def fI.ext{w w':Vl}{b:Nat}{l:List Sz}{k:Nat}(h:fI w b l k)(hx:Ext w w'):fI w' b l k:=by
 obtain⟨cs,h1,h2⟩:=h;exact⟨cs,(hx.block b (Vz.1 h1).1).trans h1,h2⟩
def fI.next{w:Vl}{b:Nat}{l:List Sz}{k d:Nat}(h:fI w b l k)(hd:d<13)(hk:(l.getD k iF).kind=(d:Int)):fI (w.setCell ⟨b,d,Vo⟩ (VS Vv)) b l (k+1):=by
 obtain⟨cs,h1,h2,h3⟩:=h;refine⟨cs.setIfInBounds d (VS Vv),?_,by simpa using h2,λj hj=> ?_⟩
 ·have hlt:=(Vz.1 h1).1;simp[World.setCell,Array.getElem?_modify,h1]
 ·by_cases hjd:d=j
  ·subst hjd;rw[Array.getElem?_setIfInBounds_self_of_lt VY];have:pd l (k+1) d=Vv:=by unfold pd;rw[cC,hk];simp
   rw[this]
  ·rw[Array.getElem?_setIfInBounds_ne hjd,h3 j hj];have:pd l (k+1) j=pd l k j:=by
    unfold pd;rw[cC,hk];have:((d:Int)==(j:Int))=Vp:=We;rw[this,Bool.or_false]
   rw[this]
def fI.start(w:Vl)(l:List Sz)(cs:Array Vr)(h:cs=#[VS Vp,VS Vp,VS Vp,VS Vp,VS Vp,VS Vp,VS Vp,VS Vp,VS Vp,VS Vp,VS Vp,VS Vp,VS Vp]):fI (w.alloc (.cells cs 176)) w.heap.size l 0:=by
 subst h;refine⟨_,Vy w _,rfl,λj hj=> ?_⟩;rcases(show j=0\/j=1\/j=2\/j=3\/j=4\/j=5\/j=6\/j=7\/j=8\/j=9\/j=10\/j=11\/j=12 by omega) with rfl|rfl|rfl|rfl|rfl|rfl|rfl|rfl|rfl|rfl|rfl|rfl|rfl<;>rfl
structure Vi(w:Vl)(l:List Sz)(i:Vr)(wr:Vl):Prop where
 ex:∃k:Nat,k<=l.length/\i=VU VA (k:Int)/\fI wr w.heap.size l k/\∀j,j<k->jT l j=0
 low:VL w.heap.size w wr
def Fk(w:Vl)(A:Option VM)(cap:Nat)(l:List Sz)(hl:bK 3 w w.heap.size A cap (bN l)):
  VC prog 70 #[VQ A l.length cap] w λe w'=>e=VV (VU VA (fy l))/\Ext w w':=by
 obtain⟨h1,h2,h3⟩:=hl;rw[Vu] at h1 h3;unfold VJ at h2;have H3:=Vk h3;clear h3;go_enter func70,ntmps70;go_wp2;go_loopw [8] (λi wr=>Vi w l i wr) (λi _=>((l.length:Int)-VG i).toNat)
 case atStart=>exact⟨⟨0,VY,rfl,fI.start _ _ _ rfl,λj hj=>VY⟩,(Below.refl _ _).alloc (Vm _) _⟩
 case round=>
  obtain⟨⟨k,hk,rfl,hse,hall⟩,hX⟩:=hrel;have HX:=Vk hX;have HA:=Vk hall;have HSE:=Vk hse;clear hX hall hse;by_cases hlt:k<l.length
  ·obtain⟨b,off,rfl,hB,hcell0⟩:=H3.o VY;have hbw:b<wr.heap.size:=Nat.lt_of_lt_of_le hB HX.o.size;have HC:=Vk (λi hi j hj=>(HX.o.cell (p:=⟨b,off+3*i+j,Vo⟩) hB).trans (hcell0 i hi j hj));have c0:=HC.o k hlt 0 V0;have c1:=HC.o k hlt 1 V0;have c2:=HC.o k hlt 2 V0;rw[xI hlt,VE] at c0 c1 c2;rw[Nat.add_zero] at c0;have HF:=Vk (show jT l k=if(l.getD k iF).kind<1\/13<=(l.getD k iF).kind then 8 else if min (l.getD k iF).width (l.getD k iF).depth<1\/1000<max (l.getD k iF).width (l.getD k iF).depth then 2 else if cC (λm=>(l.getD m iF).kind==(l.getD k iF).kind) k then 7 else 0 from rfl);obtain⟨⟨kd,wd,dp⟩,hx⟩:∃x,l.getD k iF=x:=⟨_,rfl⟩;rw[hx] at c0 c1 c2 HF;dsimp only at HF;have HK:=Vk (show(l.getD k iF).kind=kd by rw[hx]);clear hx hcell0 HC;have EX:=Vk (λo=>(HX.o.alloc HX.o.size o:VL w.heap.size w (wr.alloc o)));have HG:=Vk (λ(h:jT l k=0)=>(show∀j,j<k+1->jT l j=0 fromλj hj=>by
    by_cases hjk:j=k
    ·rw[hjk];exact h
    ·exact HA.o j VY))
   have HV:=Vk (λ(c:Int) (h:jT l k=c) (h0:c≠0)=>(show fy l=c by unfold fy;rw[bQ hlt HA.o (by rw[h];exact h0),h]));by_cases b1:kd<1
   ·exact Zt
   have d1:decide (kd<1)=Vp:=by rw[decide_eq_false_iff_not];exact b1
   by_cases b2:13<=kd
   ·have d2:decide (13<=kd)=Vv:=by rw[decide_eq_true_eq];exact b2
    exact Zs
   have d2:decide (13<=kd)=Vp:=by rw[decide_eq_false_iff_not];exact b2
   by_cases b3:min wd dp<1
   ·have d3:decide (min wd dp<1)=Vv:=by rw[decide_eq_true_eq];exact b3
    exact Zr
   have d3:decide (min wd dp<1)=Vp:=by rw[decide_eq_false_iff_not];exact b3
   by_cases b4:1000<max wd dp
   ·have d4:decide (1000<max wd dp)=Vv:=by rw[decide_eq_true_eq];exact b4
    exact Zq
   have d4:decide (1000<max wd dp)=Vp:=by rw[decide_eq_false_iff_not];exact b4
   obtain⟨d,hd,rfl⟩:∃d:Nat,d<13/\kd=(d:Int):=⟨kd.toNat,VY,VY⟩;have hcs:=HSE.o.cell hd;have hfs:=HSE.o.frozen d;have hbz:=HSE.o.lt;have hd1:(d:Int)<13:=VY;have hd2:0<=(d:Int):=VY;have hd3:(d:Int).toNat=d:=VY;have HSN:=Vk (show pd l k d=cC (λm=>(l.getD m iF).kind==(d:Int)) k from rfl);have HW:=Vk (show jT l k=if pd l k d then 7 else 0 by rw[HF.o,if_neg VY,if_neg VY];rfl);obtain⟨s,hs⟩:∃s,pd l k d=s:=⟨_,rfl⟩;rw[hs] at hcs HW;clear hs;cases s
   ·have HZ:=Vk (HG.o (by rw[HW.o];rfl));go_wp2;refine⟨⟨⟨k+1,VY,V5,?_,HZ.o⟩,?_⟩,V7⟩
    ·exact(HSE.o.next hd HK.o).ext ((Below.refl _ _).alloc (Vm _) _)
    ·exact(HX.o.setCell (p:=⟨w.heap.size,d,Vo⟩) (Vm _) _).alloc (by simpa[World.setCell] using HX.o.size) _
   ·have HE:=Vk (HV.o 7 (by rw[HW.o];rfl) V0);go_wp2;go_ret;exact⟨Wk,EX.o _⟩
  ·have hlt':decide ((k:Int)<(l.length:Int))=Vp:=V8;have HE:=Vk (show fy l=0 by unfold fy;rw[bh (λj hj=>HA.o j VY)]);exact Zp
end
section
open Kp
abbrev Rs(x:Ld):List Vr:=[VU VA x.kind,VU VA x.side,VR (tx x.weight)]
abbrev bU(l:List Ld):List (List Vr):=l.map Rs
def H5{l:List Ld}{i:Nat}(hi:i<l.length):(bU l).getD i []=Rs (l.getD i po):=by
 exact Y5
def oF(l:List Ld):dj 3 (bU l):=bw (f:=Rs) (λ_=>rfl) l
def Rp(a:List UInt8):Nat:=match dP a with|none=>0|some (n,d)=>max (own n).length d.length
noncomputable def Ch(a:List UInt8):Int:=if bS a≠0 then bS a else if 20<Rp a then 4 else if Lib.hasPrefix a [45] then 2 else 0
noncomputable def ni(l:List Ld)(i:Nat):Int:=
 if(l.getD i po).kind<1\/3<(l.getD i po).kind then 8 else if(l.getD i po).side< -1\/24<=(l.getD i po).side then 2 else Ch (l.getD i po).weight
noncomputable def fC(l:List Ld):Int:=if 64<l.length then 4 else aV (ni l) l.length
def uT(s:List UInt8)(w:Vl):VC prog 206 #[VR (tx s),VR ⟨#[45]⟩] w λe w'=>e=VV (VS (Lib.hasPrefix s [45]))/\w'=w:=by
 have:=strings_HasPrefix (tx s) (tx [45]) w;rw[bn,bn] at this;exact this
def Df(a:List UInt8)(w:Vl)(hs:a.length<=300000)(hm:eO w)(ht:aU w)(h0:bS a=0):VC prog 205 #[VR (tx a)] w λe w'=>e=VV (VU VA (Rp a:Int))/\Ext w w':=by
 have cr:=Vk (vG a w hs hm ht);rw[h0] at cr;obtain⟨n,d,hnd⟩:∃n d,dP a=Vq (n,d):=by
  unfold bS at h0;cases hcu:dP a with
  |none=>rw[hcu] at h0;cases h0
  |some p=>exact⟨p.1,p.2,rfl⟩
 have HN:=Vk (show Rp a=max (own n).length d.length by unfold Rp;rw[hnd]);have HC:=Vk hnd;have hl:=qc hnd;have ho:=qx n;clear hm ht h0 hnd;obtain⟨o,hoo⟩:∃o,own n=o:=⟨_,rfl⟩;rw[hoo] at HN ho;have HO:=Vk hoo;clear hoo;go_enter func205,ntmps205;go_wp2_with(first
  |(go_at_call 242;go_must(refine cr.o.mono ?_);rintro e W1 ⟨x,y,rfl,hp,hX1⟩;obtain⟨n',d',e1,rfl,rfl⟩:=hp rfl;rw[HC.o] at e1;obtain⟨rfl,rfl⟩:n=n'/\d=d':=by{injection e1 with e1;injection e1 with e2 e3;exact⟨e2,e3⟩})
  |(go_at_call 243;go_must(refine(dD _ _).mono ?_);rintro e W2 ⟨rfl,rfl⟩;rw[HO.o]))
 go_ret;exact⟨by rw[HN.o];exact Ad VY,hX1⟩
def BQ(a:List UInt8)(w:Vl)(hs:a.length<=300000)(hm:eO w)(ht:aU w):VC prog 144 #[VR (tx a)] w λe w'=>e=VV (VU VA (Ch a))/\Ext w w':=by
 have K1:=Vk (uC a w hs hm ht);have K3:=Vk (λW=>uT a W);by_cases h0:bS a=0
 ·have K2:=Vk (λ(W:Vl) (h:Ext w W)=>Df a W hs (hm.below h (Vm _)) (ht.below h (Vm _)) h0);have HW:=Vk (show Ch a=if 20<Rp a then 4 else if Lib.hasPrefix a [45] then 2 else 0 by unfold Ch;rw[if_neg (λh=>h h0)]);rw[h0] at K1;clear hm ht h0;obtain⟨n,hn⟩:∃n,Rp a=n:=⟨_,rfl⟩;rw[hn] at HW;simp only[hn] at K2;obtain⟨b,hb⟩:∃b,Lib.hasPrefix a [45]=b:=⟨_,rfl⟩;rw[hb] at HW;simp only[hb] at K3;clear hn hb;by_cases h20:20<n
  ·have HV:=Vk (show Ch a=4 by rw[HW.o,if_pos h20]);have t:decide (20<(n:Int))=Vv:=Wh;go_enter func144,ntmps144;go_wp2_with(first
    |(go_at_call 183;go_must(refine K1.o.mono ?_);rintro e W1 ⟨rfl,hX1⟩)
    |(go_at_call 205;go_must(refine(K2.o _ hX1).mono ?_);rintro e W2 ⟨rfl,hX2⟩))
   go_ret;exact⟨Wv,Ext.tr hX1 hX2⟩
  ·have t:decide (20<(n:Int))=Vp:=V8;cases b
   ·have HV:=Vk (show Ch a=0 by rw[HW.o,if_neg h20];rfl);exact Zu
   ·have HV:=Vk (show Ch a=2 by rw[HW.o,if_neg h20];rfl);exact Zu
 ·have HV:=Vk (show Ch a=bS a by unfold Ch;rw[if_pos h0]);obtain⟨c,hc⟩:∃c,bS a=c:=⟨_,rfl⟩;rw[hc] at K1 HV h0;have t:(c !=0)=Vv:=by rw[bne_iff_ne];exact h0
  clear hm ht h0 hc;go_enter func144,ntmps144;go_wp2_with(go_at_call 183;go_must(refine K1.o.mono ?_);rintro e W1 ⟨rfl,hX1⟩)
  go_ret;exact⟨Wv,hX1⟩
def U6(w:Vl)(l:List Ld)(i:Vr)(wr:Vl):Prop:=∃k:Nat,k<=l.length/\i=VU VA (k:Int)/\Ext w wr/\∀j,j<k->ni l j=0
def Ge(w:Vl)(A:Option VM)(cap:Nat)(l:List Ld)(hl:bK 3 w w.heap.size A cap (bU l))(hs:∀x∈l,x.weight.length<=300000)(hm:eO w)(ht:aU w):
  VC prog 74 #[VQ A l.length cap] w λe w'=>e=VV (VU VA (fC l))/\Ext w w':=by
 obtain⟨h1,h2,h3⟩:=hl;rw[Vu] at h1 h3;unfold VJ at h2;by_cases h16:64<l.length
 ·have HR:=Vk (show fC l=4 by unfold fC;rw[if_pos h16]);clear h3 hs hm ht;go_enter func74,ntmps74;go_wp2;go_ret;exact⟨V9,Ext.aB _⟩
 have HR:=Vk (show fC l=aV (ni l) l.length by unfold fC;rw[if_neg h16]);have H3:=Vk h3;have HS:=Vk hs;have HM:=Vk hm;have HT:=Vk ht;clear h3 hs hm ht;go_enter func74,ntmps74;go_wp2;go_loopw [11] (λi wr=>U6 w l i wr) (λi _=>((l.length:Int)-VG i).toNat)
 case atStart=>exact⟨0,VY,rfl,Below.refl _ _,λj hj=>VY⟩
 case round=>
  obtain⟨k,hk,rfl,hX,hall⟩:=hrel;have HX:=Vk hX;have HA:=Vk hall;clear hX hall;by_cases hlt:k<l.length
  ·obtain⟨b,off,rfl,hB,hcell0⟩:=H3.o VY;have hbw:b<wr.heap.size:=Nat.lt_of_lt_of_le hB HX.o.size;have HC:=Vk (λi hi j hj=>(HX.o.cell (p:=⟨b,off+3*i+j,Vo⟩) hB).trans (hcell0 i hi j hj));have c0:=HC.o k hlt 0 V0;have c1:=HC.o k hlt 1 V0;have c2:=HC.o k hlt 2 V0;rw[H5 hlt,VE] at c0 c1 c2;rw[Nat.add_zero] at c0;have HF:=Vk (show ni l k=if(l.getD k po).kind<1\/3<(l.getD k po).kind then 8 else if(l.getD k po).side< -1\/24<=(l.getD k po).side then 2 else Ch (l.getD k po).weight from rfl);have hwl:=HS.o (l.getD k po) (by rw[Vn,Vt hlt];exact List.getElem_mem hlt);obtain⟨⟨kd,sd,wg⟩,hx⟩:∃x,l.getD k po=x:=⟨_,rfl⟩;rw[hx] at c0 c1 c2 HF hwl;dsimp only at HF hwl;clear hx hcell0 HC;have EX:=Vk (λo=>(HX.o.alloc HX.o.size o:Ext w (wr.alloc o)));have HG:=Vk (λ(h:ni l k=0)=>(show∀j,j<k+1->ni l j=0 fromλj hj=>by
    by_cases hjk:j=k
    ·rw[hjk];exact h
    ·exact HA.o j VY))
   have HV:=Vk (λ(c:Int) (h:ni l k=c) (h0:c≠0)=>(show fC l=c by rw[HR.o,bQ hlt HA.o (by rw[h];exact h0),h]));by_cases b1:kd<1
   ·exact Zt
   have d1:decide (kd<1)=Vp:=by rw[decide_eq_false_iff_not];exact b1
   by_cases b2:3<kd
   ·have d2:decide (3<kd)=Vv:=by rw[decide_eq_true_eq];exact b2
    exact Zs
   have d2:decide (3<kd)=Vp:=by rw[decide_eq_false_iff_not];exact b2
   by_cases b3:sd< -1
   ·have d3:decide (sd< -1)=Vv:=by rw[decide_eq_true_eq];exact b3
    exact Zr
   have d3:decide (sd< -1)=Vp:=by rw[decide_eq_false_iff_not];exact b3
   by_cases b4:24<=sd
   ·have d4:decide (24<=sd)=Vv:=by rw[decide_eq_true_eq];exact b4
    exact Zq
   have d4:decide (24<=sd)=Vp:=by rw[decide_eq_false_iff_not];exact b4
   have HW:=Vk (show ni l k=Ch wg by rw[HF.o,if_neg VY,if_neg VY]);have KW:=Vk (λ(o:Obj)=>BQ wg (wr.alloc o) hwl (HM.o.below (EX.o o) (Vm _)) (HT.o.below (EX.o o) (Vm _)));obtain⟨c,hc⟩:∃c,Ch wg=c:=⟨_,rfl⟩;rw[hc] at HW;simp only[hc] at KW;clear hc hwl;by_cases hc0:c=0
   ·have HZ:=Vk (HG.o (by rw[HW.o,hc0]));subst hc0;go_wp2_with(go_at_call 144;go_must(refine(KW.o _).mono ?_);rintro e W2 ⟨rfl,hX2⟩)
    exact⟨⟨k+1,VY,V5,Ext.tr (EX.o _) hX2,HZ.o⟩,V7⟩
   ·have HE:=Vk (HV.o c HW.o hc0);have tc:(c !=0)=Vv:=XG;go_wp2_with(go_at_call 144;go_must(refine(KW.o _).mono ?_);rintro e W2 ⟨rfl,hX2⟩)
    go_ret;exact⟨Wk,Ext.tr (EX.o _) hX2⟩
  ·have hlt':decide ((k:Int)<(l.length:Int))=Vp:=V8;have HE:=Vk (show fC l=0 by rw[HR.o,bh (λj hj=>HA.o j VY)]);exact Zp
end
section
open Kp
abbrev j7(x:Aw):List Vr:=[VU VA x.width,VU VA x.depth,VU VA x.spacing,VU VA x.load,VU VA x.span]
abbrev bI(l:List Aw):List (List Vr):=l.map j7
def ot{l:List Aw}{i:Nat}(hi:i<l.length):(bI l).getD i []=j7 (l.getD i nJ):=by
 exact Y5
def Gz(l:List Aw):dj 5 (bI l):=bw (f:=j7) (λ_=>rfl) l
structure Pp(x:Aw):Prop where
 w1:0<=x.width
 w2:x.width<=1048576
 d1:0<=x.depth
 d2:x.depth<=1048576
 s1:0<=x.spacing
 s2:x.spacing<=1048576
 l1:0<=x.load
 l2:x.load<=1048576
def G9{x:Aw}(h:jV x=Vv):Pp x:=by
 unfold jV at h;simp only[Bool.and_eq_true,aO,decide_eq_true_eq] at h;obtain⟨⟨⟨⟨⟨_,_⟩,_,_⟩,_,_⟩,_,_⟩,_,_⟩:=h;constructor <;>omega
def Fe(a b:Aw)(w:Vl)(ha:Pp a)(hb:Pp b):VC prog 147 #[VW (j7 a).toArray,VW (j7 b).toArray] w λe w'=>e=VV (VU VA (p9 a b))/\Ext w w':=by
 obtain⟨a1,a2,a3,a4,a5,a6,a7,a8⟩:=ha;obtain⟨b1,b2,b3,b4,b5,b6,b7,b8⟩:=hb;have E3:=Vk (BD w (.cells (j7 a).toArray 66) (.cells (j7 b).toArray 66) (.cells [VU VA (a.width-b.width),VU VA (a.depth-b.depth),VU VA (a.spacing-b.spacing),VU VA (a.load-b.load)].toArray 3));have r3:=(ah.new ((w.alloc (.cells (j7 a).toArray 66)).alloc (.cells (j7 b).toArray 66)) 3 [VU VA (a.width-b.width),VU VA (a.depth-b.depth),VU VA (a.spacing-b.spacing),VU VA (a.load-b.load)]);rw[VF,VF] at r3;have R3:=Vk r3;clear r3;have HR:=Vk (show p9 a b=En (a.width-b.width) (a.depth-b.depth) (a.spacing-b.spacing) (a.load-b.load) from rfl);go_enter func147,ntmps147;go_wp2_with(go_at_call 208;go_must((with_reducible refine(yE _ _ _ 3 _ _ _ _ R3.o).mono ?_));rintro e W1 ⟨rfl,rfl⟩)
 go_ret;exact⟨V9,E3.o⟩
def Jp{l:List Aw}(h:¬4096<l.length):gA l=aV (jS l) l.length:=by unfold gA;rw[if_neg h]
def Fm(x:Aw):jV x=((aO x.width 1 1000&&aO x.depth 1 1000&&(aO x.spacing 1 65536&&aO x.load 0 1048576))&&aO x.span 1 65536):=by unfold jV;simp only[Bool.and_assoc]
def U8(w:Vl)(l:List Aw)(i:Vr)(wr:Vl):Prop:=∃k:Nat,k<=l.length/\i=VU VA (k:Int)/\Ext w wr/\∀j,j<k->jS l j=0
def BX(w:Vl)(A:Option VM)(cap:Nat)(l:List Aw)(hl:bK 5 w w.heap.size A cap (bI l)):
  VC prog 75 #[VQ A l.length cap] w λe w'=>e=VV (VU VA (gA l))/\Ext w w':=by
 obtain⟨h1,h2,h3⟩:=hl;rw[Vu] at h1 h3;unfold VJ at h2;by_cases h16:4096<l.length
 ·have HR:=Vk (show gA l=4 by unfold gA;rw[if_pos h16]);clear h3;go_enter func75,ntmps75;go_wp2;go_ret;exact⟨V9,Ext.aB _⟩
 have HR:=Vk (Jp h16);have H3:=Vk h3;clear h3;go_enter func75,ntmps75;go_wp2;go_loopw [10] (λi wr=>U8 w l i wr) (λi _=>((l.length:Int)-VG i).toNat)
 case atStart=>exact⟨0,VY,rfl,Below.refl _ _,λj hj=>VY⟩
 case round=>
  obtain⟨k,hk,rfl,hX,hall⟩:=hrel;have HX:=Vk hX;have HA:=Vk hall;clear hX hall;by_cases hlt:k<l.length
  ·obtain⟨b,off,rfl,hB,hcell0⟩:=H3.o VY;have hbw:b<wr.heap.size:=Nat.lt_of_lt_of_le hB HX.o.size;have HC:=Vk (λi hi j hj=>(HX.o.cell (p:=⟨b,off+5*i+j,Vo⟩) hB).trans (hcell0 i hi j hj));have c0:=HC.o k hlt 0 V0;have c1:=HC.o k hlt 1 V0;have c2:=HC.o k hlt 2 V0;have c3:=HC.o k hlt 3 V0;have c4:=HC.o k hlt 4 V0;rw[ot hlt,VE] at c0 c1 c2 c3 c4;rw[Nat.add_zero] at c0;have HF:=Vk (show jS l k=if !jV (l.getD k nJ) then 2 else if 0<k/\0<=p9 (l.getD (k-1) nJ) (l.getD k nJ) then 10 else 0 from rfl);obtain⟨x,hx⟩:∃x,l.getD k nJ=x:=⟨_,rfl⟩;rw[hx] at c0 c1 c2 c3 c4 HF;have HXE:=Vk hx;clear hx hcell0;have RX:=Vk (ah.new wr 66 (j7 x));have EX:=Vk (λo=>(HX.o.alloc HX.o.size o:Ext w (wr.alloc o)));have HG:=Vk (λ(h:jS l k=0)=>(show∀j,j<k+1->jS l j=0 fromλj hj=>by
    by_cases hjk:j=k
    ·rw[hjk];exact h
    ·exact HA.o j VY))
   have HRA:=Vk (Fm x);obtain⟨r1,hr1⟩:∃r,(aO x.width 1 1000&&aO x.depth 1 1000&&(aO x.spacing 1 65536&&aO x.load 0 1048576))=r:=⟨_,rfl⟩;obtain⟨r2,hr2⟩:∃r,aO x.span 1 65536=r:=⟨_,rfl⟩;rw[hr1,hr2] at HRA;have K1:=Vk (λW=>DY x.width x.depth x.spacing x.load W);have K2:=Vk (λW=>gL x.span 1 65536 W);simp only[hr1] at K1;simp only[hr2] at K2;clear hr1 hr2;cases r1
   ·have HV:=Vk (show gA l=2 by rw[HR.o,bQ hlt HA.o (by rw[HF.o,HRA.o,if_pos Wn];decide),HF.o,HRA.o,if_pos Wn]);go_wp2_with(go_at_call 145;go_must(refine(K1.o _).mono ?_);rintro e W1 ⟨rfl,rfl⟩)
    go_ret;exact⟨Wv,EX.o _⟩
   cases r2
   ·have HV:=Vk (show gA l=2 by rw[HR.o,bQ hlt HA.o (by rw[HF.o,HRA.o,if_pos Wn];decide),HF.o,HRA.o,if_pos Wn]);go_wp2_with(first
     |(go_at_call 145;go_must(refine(K1.o _).mono ?_);rintro e W1 ⟨rfl,rfl⟩)
     |(go_at_call 146;go_must(refine(K2.o _).mono ?_);rintro e W1 ⟨rfl,rfl⟩))
    go_ret;exact⟨Wv,EX.o _⟩
   have HFX:=Vk (show jS l k=if 0<k/\0<=p9 (l.getD (k-1) nJ) x then 10 else 0 by rw[HF.o,HRA.o,if_neg V0]);have hokx:=G9 (x:=x) HRA.o;by_cases h0:0<k
   ·have tk:decide (0<(k:Int))=Vv:=Wh;have e1:((k:Int)-1).toNat=k-1:=VY;have e2:0<=(k:Int)-1:=VY;have e3:(k:Int)-1<(l.length:Int):=VY;have e4:(k:Int)<(l.length:Int):=VY;have e6:1<=(k:Int):=VY;have e5:VA.wrap ((k:Int)-1)=(k:Int)-1:=VI _ VY;have hz:=HA.o (k-1) VY;have hokp:Pp (l.getD (k-1) nJ):=by
     refine G9 ?_;cases hra:jV (l.getD (k-1) nJ)
     ·unfold jS at hz;rw[hra] at hz;simp at hz
     ·rfl
    have p0:=HC.o (k-1) VY 0 V0;have p1:=HC.o (k-1) VY 1 V0;have p2:=HC.o (k-1) VY 2 V0;have p3:=HC.o (k-1) VY 3 V0;have p4:=HC.o (k-1) VY 4 V0;rw[ot VY,VE] at p0 p1 p2 p3 p4;rw[Nat.add_zero] at p0;obtain⟨y,hy⟩:∃y,l.getD (k-1) nJ=y:=⟨_,rfl⟩;rw[hy] at p0 p1 p2 p3 p4 HFX hokp;have KO:=Vk (λW=>Fe y x W hokp hokx);obtain⟨c,hc⟩:∃c,p9 y x=c:=⟨_,rfl⟩;rw[hc] at HFX;simp only[hc] at KO;clear hy hz hokp hokx hc;go_wp2_with(first
     |(go_at_call 145;go_must(refine(K1.o _).mono ?_);rintro e W1 ⟨rfl,rfl⟩)
     |(go_at_call 146;go_must(refine(K2.o _).mono ?_);rintro e W1 ⟨rfl,rfl⟩))
    refine dy 9 VZ VZ (λW2 hW2=> ?_);have rx:ah W2 wr.heap.size 66 (j7 x):=RX.o.ext hW2;have hw2:Ext wr W2:=FY hW2;have q0:=(hw2.cell (p:=⟨b,off+(k-1)*5,Vo⟩) hbw).trans p0;have q1:=(hw2.cell (p:=⟨b,off+(k-1)*5+1,Vo⟩) hbw).trans p1;have q2:=(hw2.cell (p:=⟨b,off+(k-1)*5+2,Vo⟩) hbw).trans p2;have q3:=(hw2.cell (p:=⟨b,off+(k-1)*5+3,Vo⟩) hbw).trans p3;have q4:=(hw2.cell (p:=⟨b,off+(k-1)*5+4,Vo⟩) hbw).trans p4;have y0:=rx.cell 0;have y1:=rx.cell 1;have y2:=rx.cell 2;have y3:=rx.cell 3;have y4:=rx.cell 4;have HW2:=Vk hw2;clear rx hw2 hW2 c0 c1 c2 c3 c4 p0 p1 p2 p3 p4;simp only[List.take_succ_cons,List.take_zero,List.drop_succ_cons,List.drop_zero]
    repeat still_step
    refine wpStill_nil ?_;by_cases hc0:0<=c
    ·have tc:decide (0<=c)=Vv:=by rw[decide_eq_true_eq];exact hc0
     have HV:=Vk (show gA l=10 by rw[HR.o,bQ hlt HA.o (by rw[HFX.o,if_pos ⟨h0,hc0⟩];decide),HFX.o,if_pos ⟨h0,hc0⟩]);go_wp2_with(go_at_call 147;go_must(refine(KO.o _).mono ?_);rintro e W3 ⟨rfl,hX3⟩)
     go_ret;exact⟨Wv,(HX.o.tr HW2.o).tr hX3⟩
    ·have tc:decide (0<=c)=Vp:=by rw[decide_eq_false_iff_not];exact hc0
     have HZ:=Vk (HG.o (by rw[HFX.o,if_neg (λh=>hc0 h.2)]));go_wp2_with(go_at_call 147;go_must(refine(KO.o _).mono ?_);rintro e W3 ⟨rfl,hX3⟩)
     exact⟨⟨k+1,VY,V5,(HX.o.tr HW2.o).tr hX3,HZ.o⟩,V7⟩
   ·have tk:decide (0<(k:Int))=Vp:=V8;have HZ:=Vk (HG.o (by rw[HFX.o,if_neg (λh=>h0 h.1)]));clear hokx;go_wp2_with(first
     |(go_at_call 145;go_must(refine(K1.o _).mono ?_);rintro e W1 ⟨rfl,rfl⟩)
     |(go_at_call 146;go_must(refine(K2.o _).mono ?_);rintro e W1 ⟨rfl,rfl⟩))
    go_quiet (fail)
    go_wp2;exact⟨⟨k+1,VY,V5,below_drewN (EX.o _) _,HZ.o⟩,V7⟩
  ·have hlt':decide ((k:Int)<(l.length:Int))=Vp:=V8;have HE:=Vk (show gA l=0 by rw[HR.o,bh (λj hj=>HA.o j VY)]);exact Zp
end
section
open Kp
abbrev aX(l:List Int):List (List Vr):=l.map λn=>[VU VA n]
def vK(l:List Int)(i:Nat):Int:=if !aO (l.getD i 0) 0 1048576 then 2 else if 0<i/\l.getD i 0<=l.getD (i-1) 0 then 10 else 0
def tu(l:List Int):iT l=if 16<l.length then 4 else aV (vK l) l.length:=rfl
def eX{l:List Int}{i:Nat}(hi:i<l.length):((aX l).getD i [])[0]?=Vq (VU VA (l.getD i 0)):=by
 exact Y5
def An(w:Vl)(A:Option VM)(cap:Nat)(l:List Int)(hl:bK 1 w w.heap.size A cap (aX l)):
  VC prog 66 #[VQ A l.length cap] w λe w'=>e=VV (VU VA (iT l))/\w'=w:=by
 obtain⟨h1,h2,h3⟩:=hl;rw[Vu] at h1 h3;unfold VJ at h2;by_cases h16:16<l.length
 ·have HR:=Vk (show iT l=4 by rw[tu,if_pos h16]);clear h3;go_enter func66,ntmps66;exact YU
 have HR:=Vk (show iT l=aV (vK l) l.length by rw[tu,if_neg h16]);have H3:=Vk h3;clear h3;go_enter func66,ntmps66;go_wp2;go_loopw [10] (λi wr=>∃k:Nat,k<=l.length/\i=VU VA (k:Int)/\wr=w/\∀j,j<k->vK l j=0) (λi _=>((l.length:Int)-VG i).toNat)
 case atStart=>exact⟨0,VY,rfl,rfl,λj hj=>VY⟩
 case round=>
  obtain⟨k,hk,rfl,rfl,hall⟩:=hrel;have HA:=Vk hall;clear hall;by_cases hlt:k<l.length
  ·obtain⟨b,off,rfl,hB,hcell⟩:=H3.o VY;have c1:=hcell k hlt 0 V0;rw[eX hlt,Nat.one_mul,Nat.add_zero] at c1;have hpz:0<k->wr.cell? ⟨b,off+(k-1),Vo⟩=Vq (VU VA (l.getD (k-1) 0)):=λh0=>by
    exact ZC
   have HF:=Vk (show vK l k=if !aO (l.getD k 0) 0 1048576 then 2 else if 0<k/\l.getD k 0<=l.getD (k-1) 0 then 10 else 0 from rfl);obtain⟨x,hx⟩:∃x,l.getD k 0=x:=⟨_,rfl⟩;obtain⟨y,hy⟩:∃y,l.getD (k-1) 0=y:=⟨_,rfl⟩;rw[hx] at c1 HF;rw[hy] at hpz HF;have HPZ:=Vk hpz;clear hx hy hcell hpz;cases tb:aO x 0 1048576
   ·have HE:=Vk (show iT l=2 by rw[HR.o,bQ hlt HA.o (by rw[HF.o,tb,if_pos V0];decide),HF.o,tb,if_pos V0]);exact ZB
   by_cases h0:0<k
   ·have c2:=HPZ.o h0;have tk:decide (0<(k:Int))=Vv:=Wh;have e1:((k:Int)-1).toNat=k-1:=VY;by_cases hxy:x<=y
    ·have HE:=Vk (show iT l=10 by rw[HR.o,bQ hlt HA.o (by rw[HF.o,tb,if_neg V0,if_pos ⟨h0,hxy⟩];decide),HF.o,tb,if_neg V0,if_pos ⟨h0,hxy⟩]);exact ZB
    ·have HZ:=Vk (show vK l k=0 by rw[HF.o,tb,if_neg V0,if_neg (λh=>hxy h.2)]);have txy:decide (x<=y)=Vp:=by rw[decide_eq_false_iff_not];exact hxy
     exact ZA
   ·have tk:decide (0<(k:Int))=Vp:=V8;have HZ:=Vk (show vK l k=0 by rw[HF.o,tb,if_neg V0,if_neg (λh=>h0 h.1)]);exact ZA
  ·have hlt':decide ((k:Int)<(l.length:Int))=Vp:=V8;have HE:=Vk (show iT l=0 by rw[HR.o,bh (λj hj=>HA.o j VY)]);go_wp2;go_ret;exact⟨Wk,rfl⟩
end
section
open Kp
def jH(rows:List (List Vr)):Prop:=∀r∈rows,∀u∈r,u.oneCell'=Vv
def jH.flat{rows:List (List Vr)}(h:jH rows):∀u∈rows.flatten,u.oneCell'=Vv:=by
 intro u hu;obtain⟨r,hr,hur⟩:=List.mem_flatten.1 hu;exact h r hr u hur
def bK.LV{k:Nat}{w:Vl}{B cap:Nat}{rows:List (List Vr)}(h:bK k w B Vo cap rows):rows=[]:=by
 cases rows with
 |nil=>rfl
 |cons r l=>
  obtain⟨b,off,e,_⟩:=h.2.2 V5;cases e
def bK.Sp{k:Nat}{w:Vl}{B:Nat}{p:VM}{cap:Nat}{rows:List (List Vr)}(h:bK k w B (Vq p) cap rows)(hw:dj k rows)(hk:0<k):
  ∀j u,rows.flatten[j]?=Vq u->w.cell? (p.add j)=Vq u:=by
 intro j u hj;have hpos:0<rows.length:=by
  cases rows with
  |nil=>simp at hj
  |cons=>simp
 obtain⟨b,off,e,_⟩:=id (h.2.2 hpos);cases e;exact h.cells hw hk j u hj
def Ps(f:FuncId)(t:VK)(k:Nat):Prop:=∀(w:Vl) (A:Option VM) (cap:Nat) (rows:List (List Vr)),bK k w w.heap.size A cap rows->dj k rows->jH rows->rows.length<=1000000->
  VC prog f #[VQ A rows.length cap] w λe w'=>∃v,e=VV v/\w'.ownsRow w.heap.size t k v rows.length rows.flatten/\Ext w w'
def jW{p:Prop}(h:p:=by
  have q:=λ(w:Vl) (a:Option VM) (n c n' c':Nat)=>Lib.run_eql_slice_nil w _ _ a n c n' c' U
  cases A with
  |none=>
   have:=hr.LV;subst this;clear hr hw h1 hlen;go_wp2;go_ret;exact⟨_,rfl,⟨rfl,.inl ⟨rfl,rfl⟩⟩,Ext.aB _⟩
  |some p=>
   have hnews:=Vk (hr.Sp hw V0);have hfl:=Vk (bB hw);have hone:=Vk h1.flat;clear hr hw h1;go_wp2_with(at_builtin;refine wpList_append_own _ rfl _ _ _ rfl w.heap.size _ i0 _ _ _ U hi hz0 hz1 hz2 rfl V0 _ _ _ rfl (Vl.ownsRow_made w #[] 0 (Vm _) (Nat.zero_le _) rfl) p rows.length cap rows.flatten rfl hfl.o ?qc2 hone.o ?qc4 ?qc5 ?qc6 ?_)
   case qc2=>
    intro j u hj;have:=hnews.o j u hj;revert this;obtain⟨b,off,x⟩:=p;intro this;exact Lib.cell?_alloc_some _ this
   case qc4=>unfold VJ;omega
   case qc5=>omega
   case qc6=>simp
   intro v' w1 hown hgrow hnil;go_wp2;go_ret;refine⟨v',rfl,by simpa using hown,?_⟩;exact((Below.refl _ w).alloc (Vm _) _).grown hgrow V5 (by intro q hq;simp[Value.ownBlock] at hq;omega)):p:=h
def M2:(prog.info? 54).map (λi=>(i.zero,i.size,i.bytes))=Vq (Vq (VW #[VU VA 0,VU VA 0,VU VA 0,VU VA 0,VS Vp,VU VA 0,VU VA 0]),7,56):=VZ
def QD:Ps 149 54 7:=by
 intro w A cap rows hr hw h1 hlen;obtain⟨i0,hi,hz0,hz1,hz2⟩:=info_parts M2;have U:=underlying80;go_enter func149,ntmps149;exact jW
def nV:(prog.info? 3).map (λi=>(i.zero,i.size,i.bytes))=Vq (Vq (VU VA 0),1,8):=VZ
def Hb:Ps 152 3 1:=by
 intro w A cap rows hr hw h1 hlen;obtain⟨i0,hi,hz0,hz1,hz2⟩:=info_parts nV;have U:=underlying25;go_enter func152,ntmps152;exact jW
def uP:(prog.info? 57).map (λi=>(i.zero,i.size,i.bytes))=Vq (Vq (VW #[VU VA 0,VR {data:=#[]},VR {data:=#[]},VR {data:=#[]},VR {data:=#[]}]),5,72):=VZ
def Gy:Ps 153 57 5:=by
 intro w A cap rows hr hw h1 hlen;obtain⟨i0,hi,hz0,hz1,hz2⟩:=info_parts uP;have U:=underlying26;go_enter func153,ntmps153;exact jW
def uJ:(prog.info? 59).map (λi=>(i.zero,i.size,i.bytes))=Vq (Vq (VW #[VU VA 0,VU VA 0,VU VA 0]),3,24):=VZ
def He:Ps 213 59 3:=by
 intro w A cap rows hr hw h1 hlen;obtain⟨i0,hi,hz0,hz1,hz2⟩:=info_parts uJ;have U:=underlying27;go_enter func213,ntmps213;exact jW
def vQ:(prog.info? 62).map (λi=>(i.zero,i.size,i.bytes))=Vq (Vq (VW #[VU VA 0,VU VA 0,VU VA 0,VU VA 0,VU VA 0,VQ Vo 0 0]),6,64):=VZ
def GZ:Ps 157 62 6:=by
 intro w A cap rows hr hw h1 hlen;obtain⟨i0,hi,hz0,hz1,hz2⟩:=info_parts vQ;have U:=underlying28;go_enter func157,ntmps157;exact jW
def ve:(prog.info? 64).map (λi=>(i.zero,i.size,i.bytes))=Vq (Vq (VW #[VU VA 0,VU VA 0,VR {data:=#[]}]),3,32):=VZ
def GG:Ps 158 64 3:=by
 intro w A cap rows hr hw h1 hlen;obtain⟨i0,hi,hz0,hz1,hz2⟩:=info_parts ve;have U:=underlying31;go_enter func158,ntmps158;exact jW
def nU:(prog.info? 66).map (λi=>(i.zero,i.size,i.bytes))=Vq (Vq (VW #[VU VA 0,VU VA 0,VU VA 0,VU VA 0,VU VA 0]),5,40):=VZ
def GL:Ps 159 66 5:=by
 intro w A cap rows hr hw h1 hlen;obtain⟨i0,hi,hz0,hz1,hz2⟩:=info_parts nU;have U:=underlying32;go_enter func159,ntmps159;exact jW
end
section
open Kp
def eh(n:Nat)(i:Int):Int:=if 0<=i/\i<=(n:Int) then 0 else 6
def cG{α:Type}(l:List α)(i:Int)(x:α):List α:=if i=(l.length:Int) then l++[x] else l.set i.toNat x
def N1{k:Nat}{rows:List (List Vr)}(hw:dj k rows){x:List Vr}(hx:x.length=k)(m:Nat):dj k (rows.set m x):=by
 intro r hr;rcases List.mem_or_eq_of_mem_set hr with h|h
 ·exact hw r h
 ·subst h;exact hx
def qR{k:Nat}{rows:List (List Vr)}(hw:dj k rows){m:Nat}(hm:m<=rows.length):rows.flatten.take (m*k)=(rows.take m).flatten:=by
 have e:rows.flatten=(rows.take m).flatten++(rows.drop m).flatten:=Xv;have hl:(rows.take m).flatten.length=m*k:=by
  exact ZD
 rw[e,List.take_left' hl]
def kg{k:Nat}{rows:List (List Vr)}(hw:dj k rows){m:Nat}(hm:m<=rows.length):rows.flatten.drop (m*k)=(rows.drop m).flatten:=by
 have e:rows.flatten=(rows.take m).flatten++(rows.drop m).flatten:=Xv;have hl:(rows.take m).flatten.length=m*k:=by
  exact ZD
 rw[e,List.drop_left' hl]
def No{k:Nat}{rows:List (List Vr)}(hw:dj k rows){m:Nat}(hm:m<rows.length)(x:List Vr):
  (rows.set m x).flatten=rows.flatten.take (m*k)++x++rows.flatten.drop (m*k+k):=by
 rw[List.set_eq_take_append_cons_drop,if_pos hm,List.flatten_append,List.flatten_cons,qR hw (Nat.le_of_lt hm),<-Nat.succ_mul,kg hw hm,List.append_assoc]
def nc{w:Vl}{base k n g cap m:Nat}{e:VK}{cur:Array Vr}{rows:List (List Vr)}{x:List Vr}(hb:base<=g)(hh:w.heap[g]?=Vq (.cells cur e (0,0)))(h1:n<=cap)(h2:cap<=VJ)
  (h3:cur.size=cap*k)(h4:cur.toList.take (n*k)=rows.flatten)(hn:rows.length=n)(hw:dj k rows)(hx:x.length=k)(hm:m<n):
  (w.setRow g (putAt cur (m*k) x.toArray)).ownsRow base e k (VQ (Vq ⟨g,0,Vo⟩) n cap) n (rows.set m x).flatten:=by
 subst hn;have hmk:m*k+k<=rows.length*k:=by rw[<-Nat.succ_mul];exact Nat.mul_le_mul_right k hm
 have hck:rows.length*k<=cap*k:=Nat.mul_le_mul_right k h1;have hL:cur.toList=rows.flatten++cur.toList.drop (rows.length*k):=by rw[<-h4,List.take_append_drop]
 have hF:rows.flatten.length=rows.length*k:=bB hw;have hsz:cur.toList.length=cap*k:=by simp[h3]
 refine⟨by rw[bB (N1 hw hx m),List.length_set],.inr ⟨g,cap,_,rfl,hb,setRow_heap hh _,h1,h2,?_,?_⟩⟩
 ·unfold putAt;simp only[List.size_toArray,VD,List.length_take,List.length_drop,hsz,hx];omega
 ·unfold putAt;rw[No hw hm];simp only[Nat.add_zero];rw[hx];generalize cur.toList.drop (rows.length*k)=D at hL;have e1:(rows.flatten++D).take (m*k)=rows.flatten.take (m*k):=List.take_append_of_le_length VY;have e2:(rows.flatten++D).drop (m*k+k)=rows.flatten.drop (m*k+k)++D:=List.drop_append_of_le_length VY;rw[hL,e1,e2,<-List.append_assoc,List.take_left'];simp only[VD,List.length_take,List.length_drop,hx,hF];omega
end
section
open Kp
def OF(A:Option VM)(n cap B k:Nat)(E:VK)(rows:List (List Vr))(x:List Vr)(i:Nat)(v:Vr)(W:Vl):Prop:=
 match i with
 |0=>v=VQ A n cap
 |1=>W.ownsRow B E k v n rows.flatten
 |2=>v=VW x.toArray
 |_=>∃g,v=VQ (Vq ⟨g,0,Vo⟩) 1 1/\ah W g E x
def ml{w:Vl}{base n s:Nat}{e:VK}{v:Vr}{xs:List Vr}(h:w.ownsRow base e s v n xs)(hn:0<n):
  ∃g cap cur,v=VQ (Vq ⟨g,0,Vo⟩) n cap/\base<=g/\w.heap[g]?=Vq (.cells cur e (0,0))/\n<=cap/\cap<=VJ/\cur.size=cap*s/\cur.toList.take (n*s)=xs:=by
 obtain⟨_,⟨_,h0⟩|⟨g,cap,cur,h⟩⟩:=h
 ·omega
 ·exact⟨g,cap,cur,h⟩
def dz{w:Vl}{base base' n s:Nat}{e:VK}{v:Vr}{xs:List Vr}(h:w.ownsRow base e s v n xs)(hb:base'<=base):w.ownsRow base' e s v n xs:=by
 obtain⟨hl,h0|⟨g,cap,cur,e,h1,h2⟩⟩:=h
 ·exact YO
 ·exact⟨hl,.inr ⟨g,cap,cur,e,VB hb h1,h2⟩⟩
def s8{A:Option VM}{n cap B k:Nat}{E:VK}{rows:List (List Vr)}{x:List Vr}{i:Nat}{v:Vr}{W W':Vl}(h:OF A n cap B k E rows x i v W)(hx:Ext W W'):OF A n cap B k E rows x i v W':=by
 rcases(show i=0\/i=1\/i=2\/3<=i by omega) with rfl|rfl|rfl|hi
 ·exact h
 ·exact aF h hx
 ·exact h
 ·obtain⟨j,rfl⟩:∃j,i=j+3:=⟨i-3,VY⟩;obtain⟨g,e,hr⟩:=h;exact⟨g,e,hr.ext hx⟩
def SP(A:Option VM)(n cap:Nat)(i:Int)(X:Vr)(g:Nat)(vs:Nat->Vr):Act:=⟨#[VQ A n cap,VU VA i,X,Vs,Vs,VT (Vq ⟨g,0,Vo⟩),VQ Vo 0 0,VU VA 0,Vs,
 VS Vp,VU VA i,VS Vp,VS Vp,VU VA i,VQ A n cap,VU VA (n:Int),VS Vp,VS Vp,VS Vv,VU VA i,VQ A n cap,VU VA (n:Int),
 VS Vv,vs 0,vs 1,vs 2,vs 3,Vs,Vs,Vs,Vs,Vs,Vs,Vs,Vs],[]⟩
def yX(w:Vl)(x:List Vr)(t:VK):∃W0,Hid (w.alloc (.cells x.toArray t)=W0)/\Hid (Ext w W0)/\Hid (ah W0 w.heap.size t x):=⟨_,Vk rfl,Vk ((Below.refl _ _).alloc (Vm _) _),Vk (ah.new w _ _)⟩
def qd{rows:List (List Vr)}{i:Int}(x:List Vr)(h:i=(rows.length:Int)):cG rows i x=rows++[x]:=if_pos h
def Om{rows:List (List Vr)}{m:Nat}(x:List Vr)(h:¬(m:Int)=(rows.length:Int)):cG rows (m:Int) x=rows.set m x:=if_neg h
def yS{p:Prop}(h:p:=by
  obtain rfl:=HW0.o;rw[show eh rows.length i=6 from if_neg hi];by_cases hi0:i<0
  ·have t1:decide (i<0)=Vv:=decide_eq_true hi0;clear hi hi0;go_wp2;go_ret2;exact⟨_,⟨_,_,_,rfl⟩,rfl,E0.o⟩
  ·have t1:decide (i<0)=Vp:=decide_eq_false hi0;have t2:decide (i>(rows.length:Int))=Vv:=decide_eq_true VY;clear hi hi0;go_wp2;go_ret2;exact⟨_,⟨_,_,_,rfl⟩,rfl,E0.o⟩):p:=h
def MX{m n cap k s:Nat}(hm:m<n)(h1:n<=cap)(hs:s=cap*k):m*k+k<=s:=by
 rw[hs,<-Nat.succ_mul];exact Nat.mul_le_mul_right k VY
def zO{p:Prop}(h:p:=by
  obtain rfl:=HW0.o;have t3:(i==(rows.length:Int))=Vp:=beq_eq_false_iff_ne.2 hi2;obtain⟨m,rfl⟩:∃m:Nat,i=(m:Int):=⟨i.toNat,VY⟩;have hm:m<rows.length:=VY;rw[Om _ hi2];have HW:=Vk hw;clear hi hi2 hw;have H1:=Vk hx1;go_wp2_with(first
   |(refine dW rfl _ _ _ rfl _ _ _ rfl rfl _ _ HH.o VZ HS.o (by simpa using H1.o) ?_)
   |(refine(KC.o _ E0.o).mono ?_;rintro e W1 ⟨v,rfl,ho,hX⟩;obtain⟨g,cp,cur,rfl,hb,hh,q1,q2,q3,q4⟩:=ml ho VY;have HH:=Vk hh;have HQ:=Vk q3;have HF:=Vk q4;have cR:=λi=>(R0.o.ext hX).cell i;have HX:=Vk (E0.o.tr hX);have HB:=Vk hb;have HS:=Vk (MX hm q1 q3);clear ho hh q3 q4 hX hb))
  go_ret2;refine⟨_,⟨_,_,_,rfl⟩,rfl,?_,?_⟩
  ·exact nc (VB E0.o.size HB.o) HH.o q1 q2 HQ.o HF.o rfl HW.o rfl hm
  ·exact af HX.o (VB E0.o.size HB.o) _):p:=h
def sO{p:Prop}(h:p:=by
  intro i vs w' hi hD hd;unfold SP;have cA:=λi=>(R0.o.ext hD).cell i
  rcases(show i=0\/i=1\/i=2\/i=3 by omega) with rfl|rfl|rfl|rfl<;>clear hi
  ·exact Y1
  ·refine Vx rfl (λK hK=> ?_);have d0:=hd 0 VZ;simp only[OF] at d0;have hE:=Vk (E0.o.tr hD);go_simp;refine(KC.o _ hE.o).mono ?_;rintro e W1 ⟨v,rfl,ho,hX⟩;exact hK _ _ ⟨v,by simp[d0],hX,dz ho hE.o.size,λh=>V6⟩
  ·exact Y1
  ·refine Vx rfl (λK hK=> ?_);have d2:=hd 2 VZ;simp only[OF] at d2;go_simp;exact hK _ _ ⟨_,by simp[d2],(Below.refl _ _).alloc (Vm _) _,⟨_,rfl,ah.new _ _ _⟩,λh=>V6⟩):p:=h
def sW{p:Prop}(h:p:=by
  intro vs w' hD hV _;have v1:=hV 1 VY;obtain⟨g,v3,r3⟩:=hV 3 VY;simp only[OF] at v1;have HO:=Vk v1;have RG:=Vk r3;have HX:=Vk (E0.o.tr hD);have hone:=Vk (List.all_eq_true.1 hx1);clear hV v1 r3 hD hx1;unfold SP;simp only[v3,List.drop_succ_cons,List.drop_zero];refine wpList_append_own _ rfl _ _ _ rfl w.heap.size _ i0 _ _ _ U I0.o I1.o I2.o I3.o rfl V0 _ _ _ rfl HO.o ⟨g,0,Vo⟩ 1 1 _ rfl rfl (Vl.news_of_block (t:=_) (fr:=(0,0)) RG.o) hone.o Wc VY HX.o.size ?_;intro v' w1 hown hgrow hnil;go_wp2;go_ret2;exact⟨v',nk.of hown,rfl,by simpa using hown,eE HX.o hgrow (λq hq=>(ak HO.o q hq).1)⟩):p:=h
def MA(w:Vl)(A:Option VM)(cap:Nat)(rows:List (List Vr))(x0 x1 x2 x3 x4:Vr)(i:Int)(hr:bK 5 w w.heap.size A cap rows)(hw:dj 5 rows)(h1:jH rows)(hx1:[x0,x1,x2,x3,x4].all (·.oneCell')=Vv)(hlen:rows.length<=1000000):
  VC prog 92 #[VQ A rows.length cap,VU VA i,VW #[x0,x1,x2,x3,x4]] w λe w'=>∃v,nk v/\e=VV (VX #[v,VU VA (eh rows.length i)])/\(eh rows.length i=0->w'.ownsRow w.heap.size 57 5 v (cG rows i [x0,x1,x2,x3,x4]).length (cG rows i [x0,x1,x2,x3,x4]).flatten)/\Ext w w':=by
 obtain⟨W0,HW0,E0,R0⟩:=yX w [x0,x1,x2,x3,x4] 57;have HR:=Vk hr;clear hr;go_enter func92,ntmps92;by_cases hi:0<=i/\i<=(rows.length:Int)
 case neg=>exact yS
 have t1:decide (i<0)=Vp:=decide_eq_false VY;have t2:decide (i>(rows.length:Int))=Vp:=decide_eq_false VY;rw[show eh rows.length i=0 from if_pos hi];have KC:=Vk (λ(W:Vl) (h:Ext w W)=>Gy W A cap rows ((HR.o.below h).more h.size) hw h1 hlen);by_cases hi2:i=(rows.length:Int)
 case neg=>exact zO
 have t3:(i==(rows.length:Int))=Vv:=beq_iff_eq.2 hi2;rw[qd _ hi2];obtain⟨i0,hI,hz0,hz1,hz2⟩:=info_parts uP;have I0:=Vk hI;have I1:=Vk hz0;have I2:=Vk hz1;have I3:=Vk hz2;have U:=underlying26;clear hI hz0 hz1 hz2 hi hi2;go_wp2_with fail
 rw[HW0.o];refine wp_region_any VZ (bM 4 (SP A rows.length cap i (VW #[x0,x1,x2,x3,x4]) w.heap.size) (λw'=>Ext W0 w') (OF A rows.length cap w.heap.size 5 57 rows [x0,x1,x2,x3,x4]) (λ_=>Vp) VZ (λ_ _ h k=>h.tr k) (λi v _ _ h k=>s8 h k) (λ_ _ _ _ h=>V6) ?_ ?_ (λ_=>Vs) _ (Ext.dr W0))
 ·exact sO
 ·exact sW
def LW(w:Vl)(A:Option VM)(cap:Nat)(rows:List (List Vr))(x0 x1 x2:Vr)(i:Int)(hr:bK 3 w w.heap.size A cap rows)(hw:dj 3 rows)(h1:jH rows)(hx1:[x0,x1,x2].all (·.oneCell')=Vv)(hlen:rows.length<=1000000):
  VC prog 156 #[VQ A rows.length cap,VU VA i,VW #[x0,x1,x2]] w λe w'=>∃v,nk v/\e=VV (VX #[v,VU VA (eh rows.length i)])/\(eh rows.length i=0->w'.ownsRow w.heap.size 59 3 v (cG rows i [x0,x1,x2]).length (cG rows i [x0,x1,x2]).flatten)/\Ext w w':=by
 obtain⟨W0,HW0,E0,R0⟩:=yX w [x0,x1,x2] 59;have HR:=Vk hr;clear hr;go_enter func156,ntmps156;by_cases hi:0<=i/\i<=(rows.length:Int)
 case neg=>exact yS
 have t1:decide (i<0)=Vp:=decide_eq_false VY;have t2:decide (i>(rows.length:Int))=Vp:=decide_eq_false VY;rw[show eh rows.length i=0 from if_pos hi];have KC:=Vk (λ(W:Vl) (h:Ext w W)=>He W A cap rows ((HR.o.below h).more h.size) hw h1 hlen);by_cases hi2:i=(rows.length:Int)
 case neg=>exact zO
 have t3:(i==(rows.length:Int))=Vv:=beq_iff_eq.2 hi2;rw[qd _ hi2];obtain⟨i0,hI,hz0,hz1,hz2⟩:=info_parts uJ;have I0:=Vk hI;have I1:=Vk hz0;have I2:=Vk hz1;have I3:=Vk hz2;have U:=underlying27;clear hI hz0 hz1 hz2 hi hi2;go_wp2_with fail
 rw[HW0.o];refine wp_region_any VZ (bM 4 (SP A rows.length cap i (VW #[x0,x1,x2]) w.heap.size) (λw'=>Ext W0 w') (OF A rows.length cap w.heap.size 3 59 rows [x0,x1,x2]) (λ_=>Vp) VZ (λ_ _ h k=>h.tr k) (λi v _ _ h k=>s8 h k) (λ_ _ _ _ h=>V6) ?_ ?_ (λ_=>Vs) _ (Ext.dr W0))
 ·exact sO
 ·exact sW
def Ms(w:Vl)(A:Option VM)(cap:Nat)(rows:List (List Vr))(x0 x1 x2 x3 x4 x5:Vr)(i:Int)(hr:bK 6 w w.heap.size A cap rows)(hw:dj 6 rows)(h1:jH rows)(hx1:[x0,x1,x2,x3,x4,x5].all (·.oneCell')=Vv)(hlen:rows.length<=1000000):
  VC prog 95 #[VQ A rows.length cap,VU VA i,VW #[x0,x1,x2,x3,x4,x5]] w λe w'=>∃v,nk v/\e=VV (VX #[v,VU VA (eh rows.length i)])/\(eh rows.length i=0->w'.ownsRow w.heap.size 62 6 v (cG rows i [x0,x1,x2,x3,x4,x5]).length (cG rows i [x0,x1,x2,x3,x4,x5]).flatten)/\Ext w w':=by
 obtain⟨W0,HW0,E0,R0⟩:=yX w [x0,x1,x2,x3,x4,x5] 62;have HR:=Vk hr;clear hr;go_enter func95,ntmps95;by_cases hi:0<=i/\i<=(rows.length:Int)
 case neg=>exact yS
 have t1:decide (i<0)=Vp:=decide_eq_false VY;have t2:decide (i>(rows.length:Int))=Vp:=decide_eq_false VY;rw[show eh rows.length i=0 from if_pos hi];have KC:=Vk (λ(W:Vl) (h:Ext w W)=>GZ W A cap rows ((HR.o.below h).more h.size) hw h1 hlen);by_cases hi2:i=(rows.length:Int)
 case neg=>exact zO
 have t3:(i==(rows.length:Int))=Vv:=beq_iff_eq.2 hi2;rw[qd _ hi2];obtain⟨i0,hI,hz0,hz1,hz2⟩:=info_parts vQ;have I0:=Vk hI;have I1:=Vk hz0;have I2:=Vk hz1;have I3:=Vk hz2;have U:=underlying28;clear hI hz0 hz1 hz2 hi hi2;go_wp2_with fail
 rw[HW0.o];refine wp_region_any VZ (bM 4 (SP A rows.length cap i (VW #[x0,x1,x2,x3,x4,x5]) w.heap.size) (λw'=>Ext W0 w') (OF A rows.length cap w.heap.size 6 62 rows [x0,x1,x2,x3,x4,x5]) (λ_=>Vp) VZ (λ_ _ h k=>h.tr k) (λi v _ _ h k=>s8 h k) (λ_ _ _ _ h=>V6) ?_ ?_ (λ_=>Vs) _ (Ext.dr W0))
 ·exact sO
 ·exact sW
def N7(w:Vl)(A:Option VM)(cap:Nat)(rows:List (List Vr))(x0 x1 x2:Vr)(i:Int)(hr:bK 3 w w.heap.size A cap rows)(hw:dj 3 rows)(h1:jH rows)(hx1:[x0,x1,x2].all (·.oneCell')=Vv)(hlen:rows.length<=1000000):
  VC prog 99 #[VQ A rows.length cap,VU VA i,VW #[x0,x1,x2]] w λe w'=>∃v,nk v/\e=VV (VX #[v,VU VA (eh rows.length i)])/\(eh rows.length i=0->w'.ownsRow w.heap.size 64 3 v (cG rows i [x0,x1,x2]).length (cG rows i [x0,x1,x2]).flatten)/\Ext w w':=by
 obtain⟨W0,HW0,E0,R0⟩:=yX w [x0,x1,x2] 64;have HR:=Vk hr;clear hr;go_enter func99,ntmps99;by_cases hi:0<=i/\i<=(rows.length:Int)
 case neg=>exact yS
 have t1:decide (i<0)=Vp:=decide_eq_false VY;have t2:decide (i>(rows.length:Int))=Vp:=decide_eq_false VY;rw[show eh rows.length i=0 from if_pos hi];have KC:=Vk (λ(W:Vl) (h:Ext w W)=>GG W A cap rows ((HR.o.below h).more h.size) hw h1 hlen);by_cases hi2:i=(rows.length:Int)
 case neg=>exact zO
 have t3:(i==(rows.length:Int))=Vv:=beq_iff_eq.2 hi2;rw[qd _ hi2];obtain⟨i0,hI,hz0,hz1,hz2⟩:=info_parts ve;have I0:=Vk hI;have I1:=Vk hz0;have I2:=Vk hz1;have I3:=Vk hz2;have U:=underlying31;clear hI hz0 hz1 hz2 hi hi2;go_wp2_with fail
 rw[HW0.o];refine wp_region_any VZ (bM 4 (SP A rows.length cap i (VW #[x0,x1,x2]) w.heap.size) (λw'=>Ext W0 w') (OF A rows.length cap w.heap.size 3 64 rows [x0,x1,x2]) (λ_=>Vp) VZ (λ_ _ h k=>h.tr k) (λi v _ _ h k=>s8 h k) (λ_ _ _ _ h=>V6) ?_ ?_ (λ_=>Vs) _ (Ext.dr W0))
 ·exact sO
 ·exact sW
end
section
open Kp
def Aq{w:Vl}{g o:Nat}{cur:Array Vr}{t:VK}{vs:List Vr}(hh:w.heap[g]?=Vq (.cells cur t (0,0)))(h:o+vs.length<=cur.size)(h1:∀v∈vs,v.oneCell'=Vv):
  w.setCells g o vs=w.setRow g (putAt cur o vs.toArray):=by
 have e1:=run_storeCells_cells (P:=prog) g o vs 0 w (λj hj=>by simp[World.cell?,hh];omega) (λj hj=>by simp[World.frozen?,hh]) h1;have e2:=run_storeCells_at (P:=prog) g o t vs 0 cur w hh VY h1;rw[e1] at e2;have:=(Result.ok.inj e2).2;simpa[putAt] using this
theorem wI(w:Vl)(t e ty:VK)(z:Vr)(i0:TypeInfo)(ht:prog.underlying t=Vq (.slice e))(hi:prog.info? e=Vq i0)(hz:i0.zero=Vq z)(h1:z.cells.all (·.oneCell')=Vv)(g o c:Nat)(cur:Array Vr)
  (hh:w.heap[g]?=Vq (.cells cur e (0,0)))(ho:o+z.cells.size≤cur.size):
  (Builtin.clear_ #[t] ty #[.slice (Vq ⟨g,o,Vo⟩) 1 c]).run prog w= .ok (.tuple #[]) (w.setRow g (putAt cur o z.cells)):=by
 have hzc:Builtin.zeroCells z.cells 1=z.cells:=by
  apply Array.ext
  ·simp[Builtin.zeroCells]
  ·intro i h1 h2
   simp[Builtin.zeroCells,Nat.mod_eq_of_lt h2]
   exact getElem!_pos z.cells i h2
 have hst:=run_storeCells_at (P:=prog) g o e z.cells.toList 0 cur w hh (by simpa using ho) (fun v hv=>(Array.all_eq_true_iff_forall_mem.1 h1) v (by simpa using hv))
 have hv:(zeroValue e).run prog w= .ok z w:=by simp[zeroValue,typeInfo,hi,hz]
 unfold putAt
 simp[Builtin.clear_,run_underlying ht,hv,hzc] at hst⊢
 simp[hst]
def E4{k:Nat}{rows:List (List Vr)}(hw:dj k rows)(m:Nat):dj k (rows.eraseIdx m):=λr hr=>hw r (List.mem_of_mem_eraseIdx hr)
def Jz{k n cap m:Nat}{cur:Array Vr}{rows:List (List Vr)}{z:Array Vr}(h1:n<=cap)(h3:cur.size=cap*k)(h4:cur.toList.take (n*k)=rows.flatten)(hn:rows.length=n)(hw:dj k rows)(hm:m<n)(hz:z.size=k):
  (putAt (putAt cur (m*k) (rows.drop (m+1)).flatten.toArray) ((n-1)*k) z).size=cap*k/\(putAt (putAt cur (m*k) (rows.drop (m+1)).flatten.toArray) ((n-1)*k) z).toList.take ((n-1)*k)=(rows.eraseIdx m).flatten:=by
 subst hn;have hd:(rows.drop (m+1)).flatten.length=(rows.length-(m+1))*k:=by rw[bB (λr hr=>hw r (List.mem_of_mem_drop hr)),List.length_drop]
 have hF:rows.flatten.length=rows.length*k:=bB hw;have hsz:cur.toList.length=cap*k:=by simp[h3]
 have hck:rows.length*k<=cap*k:=Nat.mul_le_mul_right k h1;obtain⟨p,hp⟩:∃p,rows.length=m+1+p:=⟨rows.length-(m+1),VY⟩;have e1:rows.length-(m+1)=p:=VY;have e2:rows.length-1=m+p:=VY;have e3:rows.length*k=m*k+k+p*k:=by rw[hp,Nat.add_mul,Nat.add_mul,Nat.one_mul]
 have e4:(m+p)*k=m*k+p*k:=Nat.add_mul _ _ _;rw[e1] at hd;rw[e2,e4];have s1:(putAt cur (m*k) (rows.drop (m+1)).flatten.toArray).toList.length=cap*k:=by
  unfold putAt;simp only[VD,List.length_take,List.length_drop,hsz,hd];omega
 refine⟨?_,?_⟩
 ·unfold putAt at s1⊢;simp only[List.size_toArray,VD,List.length_take,List.length_drop,s1] at s1⊢;simp only[Array.length_toList,hz];omega
 ·have e5:(rows.eraseIdx m).flatten=rows.flatten.take (m*k)++(rows.drop (m+1)).flatten:=by
   rw[List.eraseIdx_eq_take_drop_succ,List.flatten_append,qR hw VY]
  have e6:rows.flatten.take (m*k)=cur.toList.take (m*k):=by rw[<-h4,List.take_take,Nat.min_eq_left VY]
  rw[e5,e6];generalize hY:putAt cur (m*k) (rows.drop (m+1)).flatten.toArray=Y at s1⊢;have e7:(putAt Y (m*k+p*k) z).toList.take (m*k+p*k)=Y.toList.take (m*k+p*k):=by
   unfold putAt;simp only[Nat.add_zero,List.append_assoc];rw[List.take_append_of_le_length (by rw[List.length_take,s1];omega),List.take_take,Nat.min_self]
  rw[e7,<-hY];unfold putAt;simp only[Nat.add_zero];rw[List.take_left'];simp only[VD,List.length_take,hsz,hd];omega
end
section
open Kp
def dU(n:Nat)(i:Int):Int:=if 0<=i/\i<(n:Int) then 0 else 6
theorem oM{t s:VK}{z:Vr}{k:Nat}{i0:TypeInfo}(U:prog.underlying s=Vq (.slice t))(hi:prog.info? t=Vq i0)(hz0:i0.zero=Vq z)(hk:z.cells.size=k)(hz:z.cells.all (·.oneCell')=Vv){w:Vl}{g n cap m j:Nat}{cur:Array Vr}{rows:List (List Vr)}
  (hh:w.heap[g]?=Vq (.cells cur t (0,0)))(h1:n≤cap)(h3:cur.size=cap*k)(h4:cur.toList.take (n*k)=rows.flatten)(hn:rows.length=n)(hw:dj k rows)(ho:jH rows)(hm:m<n)(hj:j=m+1):
  ∃news A W1 D,(if cap=j then(Vq ⟨g,0,Vo⟩:Option VM) else Vq ⟨g,j*k,Vo⟩)=Vq A∧Hid (news.length=(n-j)*k)∧Hid (∀t u,news[t]?=Vq u→w.drew.cell? (A.add t)=Vq u)∧Hid (∀u∈news,u.oneCell'=Vv)∧
   Hid (∀t,t<news.length→(w.drew.cell? ⟨g,0+m*k+t,Vo⟩).isSome=Vv∧w.drew.frozen? ⟨g,0+m*k+t,Vo⟩=Vp)∧Hid (w.drew.setCells g (0+m*k) news=W1)∧
   (∀ty,(Builtin.clear_ #[s] ty #[.slice (Vq ⟨g,(m+(n-j))*k,Vo⟩) (n-(m+(n-j))) (cap-(m+(n-j)))]).run prog W1= .ok (.tuple #[]) (W1.setRow g D))∧
   Hid (VL g w W1)∧(∃C,Hid (W1.heap[g]?=Vq (.cells C t (0,0))))∧Hid (D.size=cap*k∧D.toList.take ((n-1)*k)=(rows.eraseIdx m).flatten):=by
 subst hj
 obtain⟨p,rfl⟩:∃p,n=m+1+p:=⟨n-(m+1),by omega⟩
 have e1:m+1+p-(m+1)=p:=by omega
 have e2:m+1+p-(m+p)=1:=by omega
 have e3:m+1+p-1=m+p:=by omega
 have a1:(m+1+p)*k=m*k+k+p*k:=by rw[Nat.add_mul,Nat.add_mul,Nat.one_mul]
 have a2:(m+1)*k=m*k+k:=by rw[Nat.add_mul,Nat.one_mul]
 have a3:(m+p)*k=m*k+p*k:=Nat.add_mul _ _ _
 have hck:(m+1+p)*k≤cap*k:=Nat.mul_le_mul_right _ h1
 obtain⟨news,hnews⟩:∃news,(rows.drop (m+1)).flatten=news:=⟨_,rfl⟩
 have hnl:news.length=p*k:=by rw[←hnews,bB (fun r hr=>hw r (List.mem_of_mem_drop hr)),List.length_drop,hn,e1]
 have hcell:∀i,w.cell? ⟨g,i,Vo⟩=cur[i]?:=fun i=>by simp[World.cell?,hh]
 have s2:∀u∈news,u.oneCell'=Vv:=by
  intro u hu
  rw[←hnews] at hu
  obtain⟨r,hr,hur⟩:=List.mem_flatten.1 hu
  exact ho r (List.mem_of_mem_drop hr) u hur
 have hd:=Jz (z:=z.cells) h1 h3 h4 hn hw hm hk
 rw[hnews,e3] at hd
 have c1:(putAt cur (m*k) news.toArray).size=cap*k:=by
  unfold putAt
  simp only[List.size_toArray,VD,List.length_take,List.length_drop,Array.length_toList,h3,hnl]
  omega
 have hrow:w.drew.setCells g (0+m*k) news=w.drew.setRow g (putAt cur (m*k) news.toArray):=by
  rw[Nat.zero_add]
  exact Aq (t:=t) (w:=w.drew) hh (by rw[hnl,h3];omega) s2
 have hh1:(w.drew.setRow g (putAt cur (m*k) news.toArray)).heap[g]?=Vq (.cells (putAt cur (m*k) news.toArray) t (0,0)):=setRow_heap (w:=w.drew) hh _
 rw[e1,e2,e3]
 refine⟨news,if cap=m+1 then⟨g,0,Vo⟩ else⟨g,(m+1)*k,Vo⟩,_,_,by split <;>rfl,Vk hnl,Vk fun t u hu=> ?_,Vk s2,Vk fun t ht=> ?_,Vk hrow,fun ty=>wI _ s t ty z i0 U hi hz0 hz g _ _ _ hh1 (by rw[c1,hk,a3];omega),Vk (af (Below.drew (Below.refl _ _)) (Vm _) _),⟨_,Vk hh1⟩,Vk (by rw[a3] at hd⊢;exact hd)⟩
 ·by_cases h:cap=m+1
  ·have h0:news.length=0:=by rw[hnl,show p=0 by omega,Nat.zero_mul]
   rw[List.length_eq_zero_iff.1 h0] at hu
   simp at hu
  ·have ht:t<news.length:=(List.getElem?_eq_some_iff.1 hu).1
   rw[←hnews,←kg hw (by omega),List.getElem?_drop,←h4,List.getElem?_take,if_pos (by rw[hnl] at ht;omega)] at hu
   rw[if_neg h,Addr.add_lit]
   show w.cell? _=_
   rw[hcell]
   simpa using hu
 ·rw[hnl] at ht
  refine⟨?_,?_⟩
  ·show(w.cell? ⟨g,0+m*k+t,Vo⟩).isSome=Vv
   rw[hcell]
   simp
   omega
  ·show w.frozen? ⟨g,0+m*k+t,Vo⟩=Vp
   simp[World.frozen?,hh]
def Il(f:FuncId)(t:VK)(k:Nat):Prop:=∀(w:Vl) (g n cap m j:Nat) (cur:Array Vr) (rows:List (List Vr)),w.heap[g]?=Vq (.cells cur t (0,0))->n<=cap->cap<=VJ->cur.size=cap*k->cur.toList.take (n*k)=rows.flatten->
  rows.length=n->dj k rows->jH rows->m<n->j=m+1->n<=1000000->
  VC prog f #[VQ (Vq ⟨g,0,Vo⟩) n cap,VU VA (m:Int),VU VA (j:Int)] w λe w'=>e=VV (VQ (Vq ⟨g,0,Vo⟩) (n-1) cap)/\VL g w w'/\
   ∃cur',w'.heap[g]?=Vq (.cells cur' t (0,0))/\cur'.size=cap*k/\cur'.toList.take ((n-1)*k)=(rows.eraseIdx m).flatten
def lT{p:Prop}(h:p:=by
  try simp only[Nat.mul_one] at hA hcl
  unfold VJ at h2;have hjc:j<=cap:=VY;have hmc:m<=cap:=VY;have hlt:m<j:=VY;have hjn:j<=n:=VY;have heq:((m:Int)==(j:Int))=Vp:=beq_eq_false_iff_ne.2 VY;have HF:=Vk (show m+(n-j)=n-1 by omega);have mixed:prog.follows .mixedOrders=Vv:=VZ;clear hj U hi hz0 hz1 hz2 h3 h4 hh ho hw hn;go_wp2_with fail
  go_region_law_o(refine AR.o _ _ _ _ _ _ _ rfl rfl g 0 m cap WR A (n-j) (cap-j) news WR s1.o s0.o s2.o VY s3.o ?_;rw[HW.o])
  go_wp2;go_ret;exact⟨Xr,af HB.o (Vm _) _,_,setRow_heap HH.o _,HD.o⟩):p:=h
def Jj(f:FuncId)(t:VK)(k:Nat):Prop:=∀(w:Vl) (A:Option VM) (cap:Nat) (rows:List (List Vr)) (i:Int),bK k w w.heap.size A cap rows->dj k rows->jH rows->rows.length<=1000000->
  VC prog f #[VQ A rows.length cap,VU VA i] w λe w'=>∃v,nk v/\e=VV (VX #[v,VU VA (dU rows.length i)])/\(dU rows.length i=0->w'.ownsRow w.heap.size t k v (rows.length-1) (rows.eraseIdx i.toNat).flatten)/\Ext w w'
def mb{p:Prop}(h:p:=by
  by_cases hi:0<=i/\i<(rows.length:Int)
  ·have t1:decide (i<0)=Vp:=decide_eq_false VY;have t2:decide (i>=(rows.length:Int))=Vp:=decide_eq_false VY;rw[show dU rows.length i=0 from if_pos hi];obtain⟨m,rfl⟩:∃m:Nat,i=(m:Int):=⟨i.toNat,VY⟩;have hm:m<rows.length:=VY;have HW:=Vk hw;have H1:=Vk h1;clear hi hr hw h1;go_wp2_with(first
    |(refine(KD.o W1 g rows.length cp m (m+1) cur rows HH.o q1 q2 HQ.o HF.o rfl HW.o H1.o hm rfl hlen).mono ?_;rintro e W2 ⟨rfl,hb2,cur2,hh2,hs2,ht2⟩;have HX2:=Vk (HX.o.trans (hb2.mono HB.o));have HH2:=Vk hh2;have HS2:=Vk hs2;have HT2:=Vk ht2;clear hb2 hh2 hs2 ht2)
    |(refine KC.o.mono ?_;rintro e W1 ⟨v,rfl,ho,hX⟩;obtain⟨g,cp,cur,rfl,hb,hh,q1,q2,q3,q4⟩:=ml ho VY;have HH:=Vk hh;have HQ:=Vk q3;have HF:=Vk q4;have HX:=Vk hX;have HB:=Vk hb;clear ho hh q3 q4 hX hb))
   go_ret2;refine⟨_,⟨_,_,_,rfl⟩,rfl,⟨?_,.inr ⟨g,cp,cur2,rfl,HB.o,HH2.o,VY,q2,HS2.o,HT2.o⟩⟩,HX2.o⟩;show(rows.eraseIdx m).flatten.length=_;rw[bB (E4 HW.o m),List.length_eraseIdx,if_pos hm]
  ·rw[show dU rows.length i=6 from if_neg hi];clear hr;by_cases hi0:i<0
   ·have t1:decide (i<0)=Vv:=decide_eq_true hi0;clear hi hi0;go_wp2;go_ret2;exact⟨_,⟨_,_,_,rfl⟩,rfl,λh=>V6,Ext.aB _⟩
   ·have t1:decide (i<0)=Vp:=decide_eq_false hi0;have t2:decide (i>=(rows.length:Int))=Vv:=decide_eq_true VY;clear hi hi0;go_wp2;go_ret2;exact⟨_,⟨_,_,_,rfl⟩,rfl,λh=>V6,Ext.aB _⟩):p:=h
theorem Mf:Il 219 59 3:=by
 intro w g n cap m j cur rows hh h1 h2 h3 h4 hn hw ho hm hj hlen
 obtain⟨i0,hi,hz0,hz1,hz2⟩:=info_parts uJ
 have U:=underlying27
 obtain⟨news,A,W1,D,hA,s1,s0,s2,s3,HW,hcl,HB,⟨C,HH⟩,HD⟩:=oM (k:=3) U hi hz0 rfl (by kernel_rfl) hh h1 h3 h4 hn hw ho hm hj
 have AR:=Vk (fun ops o a w K Q E hg hop=>@step_append_room prog ops o a w K Q E hg (.tmp 22) (.tmp 25) 27 hop 59 i0 3 U hi hz1)
 go_enter func219,ntmps219
 exact lT
def Lw:Jj 165 59 3:=by
 intro w A cap rows i hr hw h1 hlen;have KC:=Vk (He w A cap rows hr hw h1 hlen);have KD:=Vk Mf;go_enter func165,ntmps165;exact mb
theorem LO:Il 218 57 5:=by
 intro w g n cap m j cur rows hh h1 h2 h3 h4 hn hw ho hm hj hlen
 obtain⟨i0,hi,hz0,hz1,hz2⟩:=info_parts uP
 have U:=underlying26
 obtain⟨news,A,W1,D,hA,s1,s0,s2,s3,HW,hcl,HB,⟨C,HH⟩,HD⟩:=oM (k:=5) U hi hz0 rfl (by kernel_rfl) hh h1 h3 h4 hn hw ho hm hj
 have AR:=Vk (fun ops o a w K Q E hg hop=>@step_append_room prog ops o a w K Q E hg (.tmp 22) (.tmp 25) 26 hop 57 i0 5 U hi hz1)
 go_enter func218,ntmps218
 exact lT
def K7:Jj 164 57 5:=by
 intro w A cap rows i hr hw h1 hlen;have KC:=Vk (Gy w A cap rows hr hw h1 hlen);have KD:=Vk LO;go_enter func164,ntmps164;exact mb
theorem Lm:Il 217 3 1:=by
 intro w g n cap m j cur rows hh h1 h2 h3 h4 hn hw ho hm hj hlen
 obtain⟨i0,hi,hz0,hz1,hz2⟩:=info_parts nV
 have U:=underlying25
 obtain⟨news,A,W1,D,hA,s1,s0,s2,s3,HW,hcl,HB,⟨C,HH⟩,HD⟩:=oM (k:=1) U hi hz0 rfl (by kernel_rfl) hh h1 h3 h4 hn hw ho hm hj
 have AR:=Vk (fun ops o a w K Q E hg hop=>@step_append_room prog ops o a w K Q E hg (.tmp 22) (.tmp 25) 25 hop 3 i0 1 U hi hz1)
 go_enter func217,ntmps217
 exact lT
def Mh:Jj 163 3 1:=by
 intro w A cap rows i hr hw h1 hlen;have KC:=Vk (Hb w A cap rows hr hw h1 hlen);have KD:=Vk Lm;go_enter func163,ntmps163;exact mb
theorem MT:Il 220 62 6:=by
 intro w g n cap m j cur rows hh h1 h2 h3 h4 hn hw ho hm hj hlen
 obtain⟨i0,hi,hz0,hz1,hz2⟩:=info_parts vQ
 have U:=underlying28
 obtain⟨news,A,W1,D,hA,s1,s0,s2,s3,HW,hcl,HB,⟨C,HH⟩,HD⟩:=oM (k:=6) U hi hz0 rfl (by kernel_rfl) hh h1 h3 h4 hn hw ho hm hj
 have AR:=Vk (fun ops o a w K Q E hg hop=>@step_append_room prog ops o a w K Q E hg (.tmp 22) (.tmp 25) 28 hop 62 i0 6 U hi hz1)
 go_enter func220,ntmps220
 exact lT
def LF:Jj 166 62 6:=by
 intro w A cap rows i hr hw h1 hlen;have KC:=Vk (GZ w A cap rows hr hw h1 hlen);have KD:=Vk MT;go_enter func166,ntmps166;exact mb
theorem M6:Il 221 64 3:=by
 intro w g n cap m j cur rows hh h1 h2 h3 h4 hn hw ho hm hj hlen
 obtain⟨i0,hi,hz0,hz1,hz2⟩:=info_parts ve
 have U:=underlying31
 obtain⟨news,A,W1,D,hA,s1,s0,s2,s3,HW,hcl,HB,⟨C,HH⟩,HD⟩:=oM (k:=3) U hi hz0 rfl (by kernel_rfl) hh h1 h3 h4 hn hw ho hm hj
 have AR:=Vk (fun ops o a w K Q E hg hop=>@step_append_room prog ops o a w K Q E hg (.tmp 22) (.tmp 25) 31 hop 64 i0 3 U hi hz1)
 go_enter func221,ntmps221
 exact lT
def Nh:Jj 167 64 3:=by
 intro w A cap rows i hr hw h1 hlen;have KC:=Vk (GG w A cap rows hr hw h1 hlen);have KD:=Vk M6;go_enter func167,ntmps167;exact mb
theorem LH:Il 222 66 5:=by
 intro w g n cap m j cur rows hh h1 h2 h3 h4 hn hw ho hm hj hlen
 obtain⟨i0,hi,hz0,hz1,hz2⟩:=info_parts nU
 have U:=underlying32
 obtain⟨news,A,W1,D,hA,s1,s0,s2,s3,HW,hcl,HB,⟨C,HH⟩,HD⟩:=oM (k:=5) U hi hz0 rfl (by kernel_rfl) hh h1 h3 h4 hn hw ho hm hj
 have AR:=Vk (fun ops o a w K Q E hg hop=>@step_append_room prog ops o a w K Q E hg (.tmp 22) (.tmp 25) 32 hop 66 i0 5 U hi hz1)
 go_enter func222,ntmps222
 exact lT
def Lr:Jj 168 66 5:=by
 intro w A cap rows i hr hw h1 hlen;have KC:=Vk (GL w A cap rows hr hw h1 hlen);have KD:=Vk LH;go_enter func168,ntmps168;exact mb
end
section
open Kp
theorem eT(w:Vl)(dT sT ty elem:VK)(g o dLen dCap:Nat)(a:VM)(sLen sCap:Nat)(cur:Array Vr)(t:VK)(cs:List Vr)(k p:Nat)
  (hu:prog.underlying dT=Vq (.slice elem))(hs:(prog.info? elem).map (·.size)=Vq k)
  (hg:w.heap[g]?=Vq (.cells cur t (0,0)))(hp:Nat.min sLen dLen=p)(hn:cs.length=p*k)
  (hsrc:∀j v,cs[j]?=Vq v→w.cell? (a.add j)=Vq v)(hfit:o+cs.length≤cur.size)(h1:∀v∈cs,v.oneCell'=Vv):
  (Builtin.copy_ #[dT,sT] ty #[.slice (Vq ⟨g,o,Vo⟩) dLen dCap,.slice (Vq a) sLen sCap]).run prog w=
   .ok (goInt p) (w.setRow g (putAt cur o cs.toArray)):=by
 have hl:=run_loadCells_list (P:=prog) w a cs hsrc
 have hst:=run_storeCells_at (P:=prog) g o t cs 0 cur w hg (by simpa using hfit) h1
 cases hq:prog.info? elem with
 |none=>simp[hq] at hs
 |some i=>
  have hi:i.size=k:=by simpa[hq] using hs
  have hl2:(loadCells a (p*k)).run prog w= .ok cs.toArray w:=by rw[←hn];exact hl
  unfold putAt
  simp[Builtin.copy_,run_underlying hu,Builtin.lenOf,Builtin.firstCells,sizeOf,typeInfo,hq,hi,hp,hl2] at hst⊢
  simp[hst]
def dt{α:Type}(l:List α)(i:Nat)(x:α):List α:=l.take i++x::l.drop i
def qH{k:Nat}{rows:List (List Vr)}(hw:dj k rows){x:List Vr}(hx:x.length=k)(i:Nat):dj k (dt rows i x):=by
 intro r hr;unfold dt at hr;rcases List.mem_append.1 hr with h|h
 ·exact hw r (List.mem_of_mem_take h)
 ·rcases List.mem_cons.1 h with rfl|h
  ·exact hx
  ·exact hw r (List.mem_of_mem_drop h)
def lX{α:Type}(l:List α)(i:Nat)(x:α)(hi:i<=l.length):(dt l i x).length=l.length+1:=by
 unfold dt;simp only[VD,List.length_take,List.length_cons,List.length_drop];omega
def eR{cur X:Array Vr}{a:Nat}(h:a+X.size<=cur.size):(putAt cur a X).size=cur.size:=by
 unfold putAt;simp only[List.size_toArray,VD,List.length_take,List.length_drop,Array.length_toList];omega
def rA{cur X B:Array Vr}{a b:Nat}(hab:a+X.size=b)(hb:b+B.size<=cur.size):
  (putAt (putAt cur b B) a X).toList=cur.toList.take a++X.toList++(B.toList++cur.toList.drop (b+B.size)):=by
 have hl:cur.toList.length=cur.size:=Array.length_toList;unfold putAt;simp only[Nat.add_zero,List.append_assoc,Array.length_toList];rw[hab,List.take_append_of_le_length WK,List.take_take,Nat.min_eq_left VY,List.drop_left' WK]
def uS{cur X B:Array Vr}{a b:Nat}(hab:a+X.size=b)(hb:b+B.size<=cur.size):
  (putAt (putAt cur a X) b B).toList=cur.toList.take a++X.toList++(B.toList++cur.toList.drop (b+B.size)):=by
 have hl:cur.toList.length=cur.size:=Array.length_toList;have e1:(cur.toList.take a++X.toList).length=b:=by simp only[VD,List.length_take,Array.length_toList];omega
 unfold putAt;simp only[Nat.add_zero,Array.length_toList];rw[List.take_left' e1,<-List.drop_drop,List.drop_left' e1,hab,List.drop_drop,List.append_assoc,List.append_assoc]
def Ks{k:Nat}{rows:List (List Vr)}(hw:dj k rows){x:List Vr}{i:Nat}(hi:i<=rows.length):
  (dt rows i x).flatten=rows.flatten.take (i*k)++x++(rows.drop i).flatten:=by
 unfold dt;rw[List.flatten_append,List.flatten_cons,qR hw hi,List.append_assoc]
def oA{k n i N:Nat}{cur:Array Vr}{rows:List (List Vr)}{x:List Vr}(hw:dj k rows)(hn:rows.length=n)(hx:x.length=k)(hi:i<n)(h4:cur.toList.take (i*k)=rows.flatten.take (i*k))(hN:(n+1)*k<=cur.size)
  {L:List Vr}(hL:L=cur.toList.take (i*k)++x.toArray.toList++((rows.drop i).flatten.toArray.toList++cur.toList.drop N)):L.take ((n+1)*k)=(dt rows i x).flatten:=by
 subst hn;have hd:(rows.drop i).flatten.length=(rows.length-i)*k:=by rw[bB (λr hr=>hw r (List.mem_of_mem_drop hr)),List.length_drop]
 obtain⟨p,hp⟩:∃p,rows.length=i+p:=⟨rows.length-i,VY⟩;have e1:rows.length-i=p:=VY;have e3:(rows.length+1)*k=i*k+k+p*k:=by rw[hp,Nat.add_mul,Nat.add_mul,Nat.one_mul];omega
 rw[e1] at hd;rw[hL,Ks hw (Nat.le_of_lt hi),h4,<-List.append_assoc,List.take_left'];have hF:rows.flatten.length=rows.length*k:=bB hw;have e4:rows.length*k=i*k+p*k:=by rw[hp,Nat.add_mul]
 simp only[VD,List.length_take,hx,hd,hF];omega
end
section
open Kp
theorem Le(w:Vl)(base n m vb vc:Nat)(v:Vr)(rows:List (List Vr))(x:List Vr)(ho:w.ownsRow base 66 5 v n rows.flatten)(hx:x.length=5)(h1x:∀u∈x,u.oneCell'=Vv)(hxb:ah w vb 66 x)
  (hm:m=1)(hlen:n≤1000000)(hbw:base≤w.heap.size):
  VC prog 162 #[v,.int .i64 (n:Int),.slice (Vq ⟨vb,0,Vo⟩) m vc] w fun e w'=>∃v',e= .returned v'∧w'.ownsRow base 66 5 v' (n+1) (rows++[x]).flatten∧VL base w w':=by
 obtain⟨i0,hi,hz0,hz1,hz2⟩:=info_parts nU
 have z1:((m:Int)==0)=Vp:=beq_eq_false_iff_ne.2 (by omega)
 have HM:=Vk hm
 have HO:=Vk ho
 have HL:=Vk (show x.length=m*5 by rw[hx,hm])
 have HN:=Vk (Vl.news_of_block (cs:=x.toArray) (t:=66) (fr:=(0,0)) hxb)
 have H1:=Vk h1x
 have HI:=Vk hi
 have I1:=Vk hz0
 have I2:=Vk hz1
 have I3:=Vk hz2
 have hm1:m≤1:=by omega
 have hfin:∀v' (w1:Vl),w1.ownsRow base 66 5 v' (n+m) (rows.flatten++x)→w.grownBy w1 v.ownBlock→∃v'',Ending.returned v'= .returned v''∧w1.ownsRow base 66 5 v'' (n+1) (rows++[x]).flatten∧VL base w w1:=by
  intro v' w1 hown hgrow
  rw[HM.out] at hown
  refine⟨v',rfl,by simpa using hown,(Below.refl base w).grown hgrow hbw (fun q hq=>(ak HO.out q hq).1)⟩
 have HF:=Vk hfin
 clear hfin hm hx h1x hxb hi hz0 hz1 hz2
 obtain⟨_,⟨rfl,rfl⟩|⟨g,cap,cur,rfl,hb,hh,h1,h2,h3,h4⟩⟩:=id ho
 ·clear ho
  go_enter func162,ntmps162
  go_wp2_with(at_builtin;refine wpList_append_own _ rfl _ _ 32 rfl base 66 i0 (.agg #[.int .i64 0,.int .i64 0,.int .i64 0,.int .i64 0,.int .i64 0]) 5 40 underlying32 HI.out I1.out I2.out I3.out rfl (by decide) _ 0 _ rfl HO.out ⟨vb,0,Vo⟩ m vc x rfl HL.out HN.out H1.out (by unfold VJ;omega) (by omega) hbw ?_)
  intro v' w1 hown hgrow hnil
  go_wp2
  go_ret
  exact HF.out v' w1 (by rw[Nat.zero_add];exact hown) hgrow
 ·clear ho hh h3 h4
  unfold VJ at h2
  go_enter func162,ntmps162
  go_wp2_with(at_builtin;refine wpList_append_own _ rfl _ _ 32 rfl base 66 i0 (.agg #[.int .i64 0,.int .i64 0,.int .i64 0,.int .i64 0,.int .i64 0]) 5 40 underlying32 HI.out I1.out I2.out I3.out rfl (by decide) _ n _ rfl HO.out ⟨vb,0,Vo⟩ m vc x rfl HL.out HN.out H1.out (by unfold VJ;omega) (by omega) hbw ?_)
  all_goals
   intro v' w1 hown hgrow hnil
   go_wp2
   go_ret
   exact HF.out v' w1 hown hgrow
theorem FT(w:Vl)(base g n cap i m vb vc:Nat)(cur:Array Vr)(rows:List (List Vr))(x:List Vr)(hb:base≤g)(hh:w.heap[g]?=Vq (.cells cur 66 (0,0)))(h2:cap≤VJ)(h3:cur.size=cap*5)(h4:cur.toList.take (n*5)=rows.flatten)
  (hn:rows.length=n)(hw:dj 5 rows)(hone:jH rows)(hx:x.length=5)(h1x:∀u∈x,u.oneCell'=Vv)(hxb:ah w vb 66 x)(hvb:vb≠g)(hm:m=1)(hin:i<n)(hroom:n+m≤cap)(hlen:n≤1000000):
  VC prog 162 #[.slice (Vq ⟨g,0,Vo⟩) n cap,.int .i64 (i:Int),.slice (Vq ⟨vb,0,Vo⟩) m vc] w fun e w'=>∃v',e= .returned v'∧w'.ownsRow base 66 5 v' (n+1) (dt rows i x).flatten∧VL g w w':=by
 obtain⟨i0,hi,hz0,hz1,hz2⟩:=info_parts nU
 unfold VJ at h2
 have z1:((m:Int)==0)=Vp:=beq_eq_false_iff_ne.2 (by omega)
 have z2:((i:Int)==(n:Int))=Vp:=beq_eq_false_iff_ne.2 (by omega)
 have hsz:(prog.info? 66).map (·.size)=Vq 5:=by rw[hi];simp[hz1]
 have hso:∀w,(Go.sizeOf 66).run prog w= .ok 5 w:=fun w=>by simp[sizeOf,typeInfo,hi,hz1]
 have hfl:rows.flatten.length=n*5:=by rw[bB hw,hn]
 obtain⟨B,hB⟩:∃B,(rows.drop i).flatten=B:=⟨_,rfl⟩
 have hBl:B.length=(n-i)*5:=by rw[←hB,bB (fun r hr=>hw r (List.mem_of_mem_drop hr)),List.length_drop,hn]
 have h1B:∀u∈B,u.oneCell'=Vv:=by
  intro u hu
  rw[←hB] at hu
  obtain⟨r,hr,hur⟩:=List.mem_flatten.1 hu
  exact hone r (List.mem_of_mem_drop hr) u hur
 have hsrc:∀t u,B[t]?=Vq u→w.cell? ⟨g,i*5+t,Vo⟩=Vq u:=by
  intro t u hu
  have ht:t<B.length:=(List.getElem?_eq_some_iff.1 hu).1
  rw[←hB,←kg hw (by omega),List.getElem?_drop,←h4,List.getElem?_take] at hu
  rw[if_pos (by rw[hBl] at ht;omega)] at hu
  rw[show w.cell? ⟨g,i*5+t,Vo⟩=cur[i*5+t]? by simp[World.cell?,hh]]
  simpa using hu
 have hov:∀lb cb,(callFunc 215 #[.slice (Vq ⟨vb,0,Vo⟩) m vc,.slice (Vq ⟨g,(i+m)*5,Vo⟩) lb cb]).run prog w= .ok (.value (.bool Vp)) w:=fun lb cb=>by
  rw[run_callFunc_extern func215 (by kernel_rfl) (by kernel_rfl) (by kernel_rfl) (e:=Extern.SlicesOverlaps.overlaps #[32,32] #[4]) (by kernel_rfl),
   Lib.run_overlaps_apart w 32 4 66 underlying32 5 hso ⟨vb,0,Vo⟩ ⟨g,(i+m)*5,Vo⟩ m vc lb cb hvb 66 66 x.length cur.size (by unfold ah at hxb;simp[World.shape?,hxb]) (by simp[World.shape?,hh]) (by omega) (hxb.frozen _) (hxb.frozen _)]
  rfl
 have hcp1:∀ty dc sc,(Builtin.copy_ #[32,32] ty #[.slice (Vq ⟨g,(i+m)*5,Vo⟩) (n+m-(i+m)) dc,.slice (Vq ⟨g,i*5,Vo⟩) (n+m-i) sc]).run prog w.drew= .ok (goInt ((n-i:Nat):Int)) (w.drew.setRow g (putAt cur ((i+m)*5) B.toArray)):=fun ty dc sc=>
  eT w.drew _ _ ty 66 g ((i+m)*5) (n+m-(i+m)) dc ⟨g,i*5,Vo⟩ (n+m-i) sc cur 66 B 5 (n-i) underlying32 hsz hh (by simp only[Nat.min_def];split <;>omega) hBl
   (fun t u hu=>by rw[Addr.add_lit];exact hsrc t u hu) (by rw[hBl,h3];omega) h1B
 have c1:(putAt cur ((i+m)*5) B.toArray).size=cap*5:=by rw[eR (by simp[hBl,h3];omega),h3]
 obtain⟨W1,hW1⟩:∃W1,w.drew.setRow g (putAt cur ((i+m)*5) B.toArray)=W1:=⟨_,rfl⟩
 rw[hW1] at hcp1
 have hh1:W1.heap[g]?=Vq (.cells (putAt cur ((i+m)*5) B.toArray) 66 (0,0)):=by rw[←hW1];exact setRow_heap (w:=w.drew) hh _
 have hb1:VL g w W1:=by rw[←hW1];exact af (Below.drew (Below.refl _ _)) (Vm _) _
 have hx1:ah W1 vb 66 x:=by
  have:(w.drew.setRow g (putAt cur ((i+m)*5) B.toArray)).heap[vb]?=w.heap[vb]?:=by simp only[World.setRow,Array.getElem?_modify];rw[if_neg (Ne.symm hvb)];rfl
  unfold ah
  rw[←hW1,this]
  exact hxb
 have hcp2:∀(W:Vl),W.heap=W1.heap→∀ty dc,(Builtin.copy_ #[32,32] ty #[.slice (Vq ⟨g,i*5,Vo⟩) (n+m-i) dc,.slice (Vq ⟨vb,0,Vo⟩) m vc]).run prog W= .ok (goInt m) (W.setRow g (putAt (putAt cur ((i+m)*5) B.toArray) (i*5) x.toArray)):=fun W hW ty dc=>
  eT W _ _ ty 66 g (i*5) (n+m-i) dc ⟨vb,0,Vo⟩ m vc _ 66 x 5 m underlying32 hsz (by rw[hW];exact hh1) (by simp only[Nat.min_def];split <;>omega) (by rw[hx,hm])
   (fun t u hu=>by rw[Addr.add_lit,Nat.zero_add];exact(World.cell?_of_block (by rw[hW])).trans ((hx1.cell t).trans hu)) (by rw[hx,c1];omega) h1x
 have hc2:(putAt (putAt cur ((i+m)*5) B.toArray) (i*5) x.toArray).size=cap*5:=by rw[eR (by rw[c1];simp[hx];omega),c1]
 have htk:(putAt (putAt cur ((i+m)*5) B.toArray) (i*5) x.toArray).toList.take ((n+1)*5)=(dt rows i x).flatten:=by
  refine oA (cur:=cur) hw hn hx hin ?_ (by rw[h3];omega) (N:=(i+m)*5+B.length) ?_
  ·rw[←h4,List.take_take,Nat.min_eq_left (by omega)]
  ·rw[rA (by simp only[List.size_toArray,hx,hm];omega) (by simp only[List.size_toArray,hBl,h3];omega),hB,List.size_toArray]
 have hlenF:(dt rows i x).flatten.length=(n+1)*5:=by rw[bB (qH hw hx i),lX rows i x (by omega),hn]
 have hroom2:n+1≤cap:=by omega
 have hfin:∀W:Vl,W.heap=W1.heap→(VL g w W1→VL g w W)→∃v',Ending.returned (.slice (Vq ⟨g,0,Vo⟩) (n+m) cap)= .returned v'∧(W.setRow g (putAt (putAt cur ((i+m)*5) B.toArray) (i*5) x.toArray)).ownsRow base 66 5 v' (n+1) (dt rows i x).flatten∧VL g w (W.setRow g (putAt (putAt cur ((i+m)*5) B.toArray) (i*5) x.toArray)):=by
  intro W hW hbW
  refine⟨_,rfl,⟨hlenF,.inr ⟨g,cap,_,by rw[hm],hb,setRow_heap (by rw[hW];exact hh1) _,hroom2,by unfold VJ;omega,hc2,htk⟩⟩,af (hbW hb1) (Vm _) _⟩
 have HF:=Vk hfin
 have H1:=Vk hcp1
 have H2:=Vk hcp2
 have mixed:prog.follows .mixedOrders=Vv:=by kernel_rfl
 have q1:i≤n:=by omega
 have w1:VA.wrap ((i:Int)+(m:Int))=(i:Int)+(m:Int):=by rw[IntKind.wrap_i64];omega
 have w2:(0:Int)≤(i:Int)+(m:Int):=by omega
 have w3:((i:Int)+(m:Int)).toNat=i+m:=by omega
 have w4:(i:Int)≤(n:Int)+(m:Int):=by omega
 have q2:¬(cap=i+m):=by omega
 have q3:¬(cap=i):=by omega
 have q4:m≤1:=by omega
 have q5:1≤m:=by omega
 clear hfin hcp1 hcp2 hW1 hh1 hb1 hx1 c1 hc2 htk hlenF hroom2 hm hsrc h1B hBl hB hfl hsz hso h3 h4 hh hxb hx h1x hw hone hn hi hz0 hz1 hz2
 go_enter func162,ntmps162
 go_wp2_with(simp only[hov])
 go_region_law_o(refine step_copy_runI rfl _ _ 32 32 rfl _ _ (by simp[Act.eval,Act.put]) (by simp[Act.eval,Act.put]) (H1.out 3 (cap-(i+m)) (cap-i)) ?_)
 have hk2:=H2.out W1 rfl
 go_wp2
 go_ret
 exact HF.out _ rfl (fun h=>h)
theorem I4(w:Vl)(base g n cap i m vb vc:Nat)(cur:Array Vr)(rows:List (List Vr))(x:List Vr)(hbw:base≤w.heap.size)(hh:w.heap[g]?=Vq (.cells cur 66 (0,0)))(h3:cur.size=cap*5)(h4:cur.toList.take (n*5)=rows.flatten)
  (hn:rows.length=n)(hw:dj 5 rows)(hone:jH rows)(hx:x.length=5)(h1x:∀u∈x,u.oneCell'=Vv)(hxb:ah w vb 66 x)(hm:m=1)(hin:i<n)(hnc:n≤cap)(hroom:cap<n+m)(hlen:n≤1000000):
  VC prog 162 #[.slice (Vq ⟨g,0,Vo⟩) n cap,.int .i64 (i:Int),.slice (Vq ⟨vb,0,Vo⟩) m vc] w fun e w'=>∃v',e= .returned v'∧w'.ownsRow base 66 5 v' (n+1) (dt rows i x).flatten∧VL base w w':=by
 obtain⟨i0,hi,hz0,hz1,hz2⟩:=info_parts nU
 have z1:((m:Int)==0)=Vp:=beq_eq_false_iff_ne.2 (by omega)
 have z2:((i:Int)==(n:Int))=Vp:=beq_eq_false_iff_ne.2 (by omega)
 have hsz:(prog.info? 66).map (·.size)=Vq 5:=by rw[hi];simp[hz1]
 have hgw:g<w.heap.size:=(Vz.1 hh).1
 have hfl:rows.flatten.length=n*5:=by rw[bB hw,hn]
 obtain⟨B,hB⟩:∃B,(rows.drop i).flatten=B:=⟨_,rfl⟩
 have hBl:B.length=(n-i)*5:=by rw[←hB,bB (fun r hr=>hw r (List.mem_of_mem_drop hr)),List.length_drop,hn]
 have h1B:∀u∈B,u.oneCell'=Vv:=by
  intro u hu
  rw[←hB] at hu
  obtain⟨r,hr,hur⟩:=List.mem_flatten.1 hu
  exact hone r (List.mem_of_mem_drop hr) u hur
 have hsrc:∀t u,B[t]?=Vq u→w.cell? ⟨g,i*5+t,Vo⟩=Vq u:=by
  intro t u hu
  have ht:t<B.length:=(List.getElem?_eq_some_iff.1 hu).1
  rw[←hB,←kg hw (by omega),List.getElem?_drop,←h4,List.getElem?_take] at hu
  rw[if_pos (by rw[hBl] at ht;omega)] at hu
  rw[show w.cell? ⟨g,i*5+t,Vo⟩=cur[i*5+t]? by simp[World.cell?,hh]]
  simpa using hu
 have hol:(rows.flatten.take (i*5)).length=i*5:=by rw[List.length_take,hfl];omega
 have hold:(Builtin.firstCells i0.size i (.slice (Vq ⟨g,0,Vo⟩) i cap)).run prog w.drew= .ok (rows.flatten.take (i*5)).toArray w.drew:=by
  rw[hz1]
  exact run_firstCells_some w.drew 5 i ⟨g,0,Vo⟩ i cap (rows.flatten.take (i*5)) hol (fun t u hu=>by
   rw[Addr.add_lit,Nat.zero_add]
   have ht:t<i*5:=by rw[←hol];exact(List.getElem?_eq_some_iff.1 hu).1
   rw[List.getElem?_take,if_pos ht,←h4,List.getElem?_take,if_pos (by omega)] at hu
   show w.cell? ⟨g,t,Vo⟩=Vq u
   rw[show w.cell? ⟨g,t,Vo⟩=cur[t]? by simp[World.cell?,hh]]
   simpa using hu)
 have hik:i+(n+m-i)=n+m:=by omega
 have hkk:(n:Int)+(m:Int)-(i:Int)=((n+m-i:Nat):Int):=by omega
 obtain⟨G,hG⟩:∃G,grownCap w (n+m) cap 66=G:=⟨_,rfl⟩
 have hGn:n+m≤G:=by rw[←hG];exact grownCap_ge w _ _ _
 have hG63:G≤VJ:=by rw[←hG];exact grownCap_le_maxLen w (n+m) cap 66 (by unfold VJ;omega)
 obtain⟨ROW,hROW⟩:∃ROW:Array Vr,(rows.flatten.take (i*5)).toArray++Builtin.zeroCells (Value.cells (.agg #[.int .i64 0,.int .i64 0,.int .i64 0,.int .i64 0,.int .i64 0])) (n+m-i)++Builtin.zeroCells (Value.cells (.agg #[.int .i64 0,.int .i64 0,.int .i64 0,.int .i64 0,.int .i64 0])) (G-(n+m))=ROW:=⟨_,rfl⟩
 have hRl:ROW.size=G*5:=by
  rw[←hROW]
  simp only[Array.size_append,List.size_toArray,hol,Builtin.zeroCells,Array.size_map,Array.size_range]
  show i*5+(n+m-i)*5+(G-(n+m))*5=_
  omega
 have hRt:ROW.toList.take (i*5)=rows.flatten.take (i*5):=by
  rw[←hROW,Array.toList_append,Array.toList_append,List.append_assoc,List.take_left' hol]
 have hrz:∀ty,(Builtin.append_ #[32,3] ty #[.slice (Vq ⟨g,0,Vo⟩) i cap,.int .i64 ((n:Int)+(m:Int)-(i:Int))]).run prog w=
   .ok (.slice (Vq ⟨w.heap.size,0,Vo⟩) (n+m) G) (w.drew.alloc (.cells ROW 66)):=fun ty=>by
  have h:=Lib.run_append_grow_zeros w 32 3 ty 66 i0 _ .i64 .i64 underlying32 underlying3 hi hz0 (Vq ⟨g,0,Vo⟩) i cap _ hold (n+m-i) (by omega) (by omega) (by omega) (by omega) (by rw[hz2];omega) (by rw[hz2,hik];exact growslice_fits hroom (by omega))
  rw[hik,hG] at h
  rw[hkk,←hROW]
  exact h
 obtain⟨W1,hW1⟩:∃W1,w.drew.alloc (.cells ROW 66)=W1:=⟨_,rfl⟩
 rw[hW1] at hrz
 have hh1:W1.heap[w.heap.size]?=Vq (.cells ROW 66 (0,0)):=by rw[←hW1];exact Vy w.drew _
 have hb1:VL w.heap.size w W1:=by rw[←hW1];exact(Below.drew (Below.refl _ _)).alloc (Vm _) _
 have hx1:ah W1 vb 66 x:=hxb.ext hb1
 have hg1:∀t u,w.cell? ⟨g,t,Vo⟩=Vq u→W1.cell? ⟨g,t,Vo⟩=Vq u:=fun t u h=>(hb1.cell hgw).trans h
 have hcpA:∀ty dc,(Builtin.copy_ #[32,32] ty #[.slice (Vq ⟨w.heap.size,i*5,Vo⟩) (n+m-i) dc,.slice (Vq ⟨vb,0,Vo⟩) m vc]).run prog W1= .ok (goInt m) (W1.setRow w.heap.size (putAt ROW (i*5) x.toArray)):=fun ty dc=>
  eT W1 _ _ ty 66 w.heap.size (i*5) (n+m-i) dc ⟨vb,0,Vo⟩ m vc _ 66 x 5 m underlying32 hsz hh1 (by simp only[Nat.min_def];split <;>omega) (by rw[hx,hm])
   (fun t u hu=>by rw[Addr.add_lit,Nat.zero_add];exact(hx1.cell t).trans hu) (by rw[hx,hRl];omega) h1x
 obtain⟨W2,hW2⟩:∃W2,W1.setRow w.heap.size (putAt ROW (i*5) x.toArray)=W2:=⟨_,rfl⟩
 rw[hW2] at hcpA
 have c1:(putAt ROW (i*5) x.toArray).size=G*5:=by rw[eR (by simp only[List.size_toArray,hx,hRl];omega),hRl]
 have hh2:W2.heap[w.heap.size]?=Vq (.cells (putAt ROW (i*5) x.toArray) 66 (0,0)):=by rw[←hW2];exact setRow_heap hh1 _
 have hb2:VL w.heap.size w W2:=by rw[←hW2];exact af hb1 (Vm _) _
 have hcpB:∀ty dc sc,(Builtin.copy_ #[32,32] ty #[.slice (Vq ⟨w.heap.size,(i+m)*5,Vo⟩) (n+m-(i+m)) dc,.slice (Vq ⟨g,i*5,Vo⟩) (n-i) sc]).run prog W2.drew= .ok (goInt ((n-i:Nat):Int)) (W2.drew.setRow w.heap.size (putAt (putAt ROW (i*5) x.toArray) ((i+m)*5) B.toArray)):=fun ty dc sc=>
  eT W2.drew _ _ ty 66 w.heap.size ((i+m)*5) (n+m-(i+m)) dc ⟨g,i*5,Vo⟩ (n-i) sc _ 66 B 5 (n-i) underlying32 hsz hh2 (by simp only[Nat.min_def];split <;>omega) hBl
   (fun t u hu=>by rw[Addr.add_lit];exact(hb2.cell hgw).trans (hsrc t u hu)) (by rw[hBl,c1];omega) h1B
 have hc2:(putAt (putAt ROW (i*5) x.toArray) ((i+m)*5) B.toArray).size=G*5:=by rw[eR (by simp only[List.size_toArray,hBl,c1];omega),c1]
 have htk:(putAt (putAt ROW (i*5) x.toArray) ((i+m)*5) B.toArray).toList.take ((n+1)*5)=(dt rows i x).flatten:=by
  refine oA (cur:=ROW) hw hn hx hin hRt (by rw[hRl];omega) (N:=(i+m)*5+B.length) ?_
  rw[uS (by simp only[List.size_toArray,hx,hm];omega) (by simp only[List.size_toArray,hBl,hRl];omega),hB,List.size_toArray]
 have hlenF:(dt rows i x).flatten.length=(n+1)*5:=by rw[bB (qH hw hx i),lX rows i x (by omega),hn]
 have hG1:n+1≤G:=by omega
 have hfin:∃v',Ending.returned (.slice (Vq ⟨w.heap.size,0,Vo⟩) (n+m) G)= .returned v'∧(W2.drew.setRow w.heap.size (putAt (putAt ROW (i*5) x.toArray) ((i+m)*5) B.toArray)).ownsRow base 66 5 v' (n+1) (dt rows i x).flatten∧VL base w (W2.drew.setRow w.heap.size (putAt (putAt ROW (i*5) x.toArray) ((i+m)*5) B.toArray)):=
  ⟨_,rfl,⟨hlenF,.inr ⟨w.heap.size,G,_,by rw[hm],hbw,setRow_heap (w:=W2.drew) hh2 _,hG1,hG63,hc2,htk⟩⟩,af ((Below.drew hb2).mono hbw) hbw _⟩
 have HF:=Vk hfin
 have HB:=Vk hcpB
 have mixed:prog.follows .mixedOrders=Vv:=by kernel_rfl
 unfold VJ at hG63
 have q1:i≤n:=by omega
 have w1:VA.wrap ((i:Int)+(m:Int))=(i:Int)+(m:Int):=by rw[IntKind.wrap_i64];omega
 have w2:(0:Int)≤(i:Int)+(m:Int):=by omega
 have w3:((i:Int)+(m:Int)).toNat=i+m:=by omega
 have w4:(i:Int)≤(n:Int)+(m:Int):=by omega
 have w5:(cap:Int)<(n:Int)+(m:Int):=by omega
 have q2:¬(G=i+m):=by omega
 have q3:¬(G=i):=by omega
 have q4:m≤1:=by omega
 have q5:1≤m:=by omega
 have q6:¬(cap=i):=by omega
 clear hfin hcpB hW1 hW2 hh1 hh2 hb1 hb2 hx1 hg1 c1 hc2 htk hlenF hG1 hm hsrc h1B hBl hB hfl hsz h3 h4 hh hxb hx h1x hw hone hn hi hz0 hz1 hz2 hold hol hik hkk hRl hRt hROW hG hgw
 go_enter func162,ntmps162
 go_wp2_with(at_builtin;refine Lib.wpList_append_run _ rfl _ _ _ _ rfl _ _ rfl rfl _ _ (hrz _) ?_)
 go_region_law_o(refine step_copy_runI rfl _ _ 32 32 rfl (.slice (Vq ⟨w.heap.size,(i+m)*5,Vo⟩) (n+m-(i+m)) (G-(i+m))) (.slice (Vq ⟨g,i*5,Vo⟩) (n-i) (cap-i)) (by simp[Act.eval,Act.put]) (by simp[Act.eval,Act.put]) (HB.out 3 (G-(i+m)) (cap-i)) ?_)
 go_wp2
 go_ret
 exact HF.out
def Mj(w:Vl)(base n i vb vc:Nat)(v:Vr)(rows:List (List Vr))(x:List Vr)(ho:w.ownsRow base 66 5 v n rows.flatten)(hn:rows.length=n)(hw:dj 5 rows)(hone:jH rows)
  (hx:x.length=5)(h1x:∀u∈x,u.oneCell'=Vv)(hxb:ah w vb 66 x)(hvb:v.ownBlock≠Vq vb)(hi:i<=n)(hlen:n<=1000000)(hbw:base<=w.heap.size):
  VC prog 162 #[v,VU VA (i:Int),VQ (Vq ⟨vb,0,Vo⟩) 1 vc] w λe w'=>∃v',e=VV v'/\w'.ownsRow base 66 5 v' (n+1) (dt rows i x).flatten/\VL base w w':=by
 by_cases hin:i=n
 ·subst hin;have e:dt rows i x=rows++[x]:=by unfold dt;rw[<-hn,List.take_length,List.drop_length]
  rw[e];exact Le w base i 1 vb vc v rows x ho hx h1x hxb rfl hlen hbw
 ·obtain⟨g,cap,cur,rfl,hb,hh,h1,h2,h3,h4⟩:=ml ho VY;by_cases hroom:n+1<=cap
  ·refine(FT w base g n cap i 1 vb vc cur rows x hb hh h2 h3 h4 hn hw hone hx h1x hxb (λe=>hvb XC) rfl VY hroom hlen).mono ?_;rintro e w' ⟨v',rfl,h5,h6⟩;exact⟨v',rfl,h5,h6.mono hb⟩
  ·exact I4 w base g n cap i 1 vb vc cur rows x hbw hh h3 h4 hn hw hone hx h1x hxb rfl VY h1 VY hlen
theorem Nf(w:Vl)(base n m vb vc:Nat)(v:Vr)(rows:List (List Vr))(x:List Vr)(ho:w.ownsRow base 3 1 v n rows.flatten)(hx:x.length=1)(h1x:∀u∈x,u.oneCell'=Vv)(hxb:ah w vb 3 x)
  (hm:m=1)(hlen:n≤1000000)(hbw:base≤w.heap.size):
  VC prog 151 #[v,.int .i64 (n:Int),.slice (Vq ⟨vb,0,Vo⟩) m vc] w fun e w'=>∃v',e= .returned v'∧w'.ownsRow base 3 1 v' (n+1) (rows++[x]).flatten∧VL base w w':=by
 obtain⟨i0,hi,hz0,hz1,hz2⟩:=info_parts nV
 have z1:((m:Int)==0)=Vp:=beq_eq_false_iff_ne.2 (by omega)
 have HM:=Vk hm
 have HO:=Vk ho
 have HL:=Vk (show x.length=m*1 by rw[hx,hm])
 have HN:=Vk (Vl.news_of_block (cs:=x.toArray) (t:=3) (fr:=(0,0)) hxb)
 have H1:=Vk h1x
 have HI:=Vk hi
 have I1:=Vk hz0
 have I2:=Vk hz1
 have I3:=Vk hz2
 have hm1:m≤1:=by omega
 have hfin:∀v' (w1:Vl),w1.ownsRow base 3 1 v' (n+m) (rows.flatten++x)→w.grownBy w1 v.ownBlock→∃v'',Ending.returned v'= .returned v''∧w1.ownsRow base 3 1 v'' (n+1) (rows++[x]).flatten∧VL base w w1:=by
  intro v' w1 hown hgrow
  rw[HM.out] at hown
  refine⟨v',rfl,by simpa using hown,(Below.refl base w).grown hgrow hbw (fun q hq=>(ak HO.out q hq).1)⟩
 have HF:=Vk hfin
 clear hfin hm hx h1x hxb hi hz0 hz1 hz2
 obtain⟨_,⟨rfl,rfl⟩|⟨g,cap,cur,rfl,hb,hh,h1,h2,h3,h4⟩⟩:=id ho
 ·clear ho
  go_enter func151,ntmps151
  go_wp2_with(at_builtin;refine wpList_append_own _ rfl _ _ 25 rfl base 3 i0 (.int .i64 0) 1 8 underlying25 HI.out I1.out I2.out I3.out rfl (by decide) _ 0 _ rfl HO.out ⟨vb,0,Vo⟩ m vc x rfl HL.out HN.out H1.out (by unfold VJ;omega) (by omega) hbw ?_)
  intro v' w1 hown hgrow hnil
  go_wp2
  go_ret
  exact HF.out v' w1 (by rw[Nat.zero_add];exact hown) hgrow
 ·clear ho hh h3 h4
  unfold VJ at h2
  go_enter func151,ntmps151
  go_wp2_with(at_builtin;refine wpList_append_own _ rfl _ _ 25 rfl base 3 i0 (.int .i64 0) 1 8 underlying25 HI.out I1.out I2.out I3.out rfl (by decide) _ n _ rfl HO.out ⟨vb,0,Vo⟩ m vc x rfl HL.out HN.out H1.out (by unfold VJ;omega) (by omega) hbw ?_)
  all_goals
   intro v' w1 hown hgrow hnil
   go_wp2
   go_ret
   exact HF.out v' w1 hown hgrow
theorem ES(w:Vl)(base g n cap i m vb vc:Nat)(cur:Array Vr)(rows:List (List Vr))(x:List Vr)(hb:base≤g)(hh:w.heap[g]?=Vq (.cells cur 3 (0,0)))(h2:cap≤VJ)(h3:cur.size=cap*1)(h4:cur.toList.take (n*1)=rows.flatten)
  (hn:rows.length=n)(hw:dj 1 rows)(hone:jH rows)(hx:x.length=1)(h1x:∀u∈x,u.oneCell'=Vv)(hxb:ah w vb 3 x)(hvb:vb≠g)(hm:m=1)(hin:i<n)(hroom:n+m≤cap)(hlen:n≤1000000):
  VC prog 151 #[.slice (Vq ⟨g,0,Vo⟩) n cap,.int .i64 (i:Int),.slice (Vq ⟨vb,0,Vo⟩) m vc] w fun e w'=>∃v',e= .returned v'∧w'.ownsRow base 3 1 v' (n+1) (dt rows i x).flatten∧VL g w w':=by
 obtain⟨i0,hi,hz0,hz1,hz2⟩:=info_parts nV
 unfold VJ at h2
 have z1:((m:Int)==0)=Vp:=beq_eq_false_iff_ne.2 (by omega)
 have z2:((i:Int)==(n:Int))=Vp:=beq_eq_false_iff_ne.2 (by omega)
 have hsz:(prog.info? 3).map (·.size)=Vq 1:=by rw[hi];simp[hz1]
 have hso:∀w,(Go.sizeOf 3).run prog w= .ok 1 w:=fun w=>by simp[sizeOf,typeInfo,hi,hz1]
 have hfl:rows.flatten.length=n*1:=by rw[bB hw,hn]
 obtain⟨B,hB⟩:∃B,(rows.drop i).flatten=B:=⟨_,rfl⟩
 have hBl:B.length=(n-i)*1:=by rw[←hB,bB (fun r hr=>hw r (List.mem_of_mem_drop hr)),List.length_drop,hn]
 have h1B:∀u∈B,u.oneCell'=Vv:=by
  intro u hu
  rw[←hB] at hu
  obtain⟨r,hr,hur⟩:=List.mem_flatten.1 hu
  exact hone r (List.mem_of_mem_drop hr) u hur
 have hsrc:∀t u,B[t]?=Vq u→w.cell? ⟨g,i*1+t,Vo⟩=Vq u:=by
  intro t u hu
  have ht:t<B.length:=(List.getElem?_eq_some_iff.1 hu).1
  rw[←hB,←kg hw (by omega),List.getElem?_drop,←h4,List.getElem?_take] at hu
  rw[if_pos (by rw[hBl] at ht;omega)] at hu
  rw[show w.cell? ⟨g,i*1+t,Vo⟩=cur[i*1+t]? by simp[World.cell?,hh]]
  simpa using hu
 have hov:∀lb cb,(callFunc 211 #[.slice (Vq ⟨vb,0,Vo⟩) m vc,.slice (Vq ⟨g,(i+m)*1,Vo⟩) lb cb]).run prog w= .ok (.value (.bool Vp)) w:=fun lb cb=>by
  rw[run_callFunc_extern func211 (by kernel_rfl) (by kernel_rfl) (by kernel_rfl) (e:=Extern.SlicesOverlaps.overlaps #[25,25] #[4]) (by kernel_rfl),
   Lib.run_overlaps_apart w 25 4 3 underlying25 1 hso ⟨vb,0,Vo⟩ ⟨g,(i+m)*1,Vo⟩ m vc lb cb hvb 3 3 x.length cur.size (by unfold ah at hxb;simp[World.shape?,hxb]) (by simp[World.shape?,hh]) (by omega) (hxb.frozen _) (hxb.frozen _)]
  rfl
 have hcp1:∀ty dc sc,(Builtin.copy_ #[25,25] ty #[.slice (Vq ⟨g,(i+m)*1,Vo⟩) (n+m-(i+m)) dc,.slice (Vq ⟨g,i*1,Vo⟩) (n+m-i) sc]).run prog w.drew= .ok (goInt ((n-i:Nat):Int)) (w.drew.setRow g (putAt cur ((i+m)*1) B.toArray)):=fun ty dc sc=>
  eT w.drew _ _ ty 3 g ((i+m)*1) (n+m-(i+m)) dc ⟨g,i*1,Vo⟩ (n+m-i) sc cur 3 B 1 (n-i) underlying25 hsz hh (by simp only[Nat.min_def];split <;>omega) hBl
   (fun t u hu=>by rw[Addr.add_lit];exact hsrc t u hu) (by rw[hBl,h3];omega) h1B
 have c1:(putAt cur ((i+m)*1) B.toArray).size=cap*1:=by rw[eR (by simp[hBl,h3];omega),h3]
 obtain⟨W1,hW1⟩:∃W1,w.drew.setRow g (putAt cur ((i+m)*1) B.toArray)=W1:=⟨_,rfl⟩
 rw[hW1] at hcp1
 have hh1:W1.heap[g]?=Vq (.cells (putAt cur ((i+m)*1) B.toArray) 3 (0,0)):=by rw[←hW1];exact setRow_heap (w:=w.drew) hh _
 have hb1:VL g w W1:=by rw[←hW1];exact af (Below.drew (Below.refl _ _)) (Vm _) _
 have hx1:ah W1 vb 3 x:=by
  have:(w.drew.setRow g (putAt cur ((i+m)*1) B.toArray)).heap[vb]?=w.heap[vb]?:=by simp only[World.setRow,Array.getElem?_modify];rw[if_neg (Ne.symm hvb)];rfl
  unfold ah
  rw[←hW1,this]
  exact hxb
 have hcp2:∀(W:Vl),W.heap=W1.heap→∀ty dc,(Builtin.copy_ #[25,25] ty #[.slice (Vq ⟨g,i*1,Vo⟩) (n+m-i) dc,.slice (Vq ⟨vb,0,Vo⟩) m vc]).run prog W= .ok (goInt m) (W.setRow g (putAt (putAt cur ((i+m)*1) B.toArray) (i*1) x.toArray)):=fun W hW ty dc=>
  eT W _ _ ty 3 g (i*1) (n+m-i) dc ⟨vb,0,Vo⟩ m vc _ 3 x 1 m underlying25 hsz (by rw[hW];exact hh1) (by simp only[Nat.min_def];split <;>omega) (by rw[hx,hm])
   (fun t u hu=>by rw[Addr.add_lit,Nat.zero_add];exact(World.cell?_of_block (by rw[hW])).trans ((hx1.cell t).trans hu)) (by rw[hx,c1];omega) h1x
 have hc2:(putAt (putAt cur ((i+m)*1) B.toArray) (i*1) x.toArray).size=cap*1:=by rw[eR (by rw[c1];simp[hx];omega),c1]
 have htk:(putAt (putAt cur ((i+m)*1) B.toArray) (i*1) x.toArray).toList.take ((n+1)*1)=(dt rows i x).flatten:=by
  refine oA (cur:=cur) hw hn hx hin ?_ (by rw[h3];omega) (N:=(i+m)*1+B.length) ?_
  ·rw[←h4,List.take_take,Nat.min_eq_left (by omega)]
  ·rw[rA (by simp only[List.size_toArray,hx,hm];omega) (by simp only[List.size_toArray,hBl,h3];omega),hB,List.size_toArray]
 have hlenF:(dt rows i x).flatten.length=(n+1)*1:=by rw[bB (qH hw hx i),lX rows i x (by omega),hn]
 have hroom2:n+1≤cap:=by omega
 have hfin:∀W:Vl,W.heap=W1.heap→(VL g w W1→VL g w W)→∃v',Ending.returned (.slice (Vq ⟨g,0,Vo⟩) (n+m) cap)= .returned v'∧(W.setRow g (putAt (putAt cur ((i+m)*1) B.toArray) (i*1) x.toArray)).ownsRow base 3 1 v' (n+1) (dt rows i x).flatten∧VL g w (W.setRow g (putAt (putAt cur ((i+m)*1) B.toArray) (i*1) x.toArray)):=by
  intro W hW hbW
  refine⟨_,rfl,⟨hlenF,.inr ⟨g,cap,_,by rw[hm],hb,setRow_heap (by rw[hW];exact hh1) _,hroom2,by unfold VJ;omega,hc2,htk⟩⟩,af (hbW hb1) (Vm _) _⟩
 have HF:=Vk hfin
 have H1:=Vk hcp1
 have H2:=Vk hcp2
 have mixed:prog.follows .mixedOrders=Vv:=by kernel_rfl
 have q1:i≤n:=by omega
 have w1:VA.wrap ((i:Int)+(m:Int))=(i:Int)+(m:Int):=by rw[IntKind.wrap_i64];omega
 have w2:(0:Int)≤(i:Int)+(m:Int):=by omega
 have w3:((i:Int)+(m:Int)).toNat=i+m:=by omega
 have w4:(i:Int)≤(n:Int)+(m:Int):=by omega
 have q2:¬(cap=i+m):=by omega
 have q3:¬(cap=i):=by omega
 have q4:m≤1:=by omega
 have q5:1≤m:=by omega
 clear hfin hcp1 hcp2 hW1 hh1 hb1 hx1 c1 hc2 htk hlenF hroom2 hm hsrc h1B hBl hB hfl hsz hso h3 h4 hh hxb hx h1x hw hone hn hi hz0 hz1 hz2
 simp only[Nat.mul_one] at hov
 go_enter func151,ntmps151
 go_wp2_with(simp only[hov])
 go_region_law_o(refine step_copy_runI rfl _ _ 25 25 rfl _ _ (by simp[Act.eval,Act.put]) (by simp[Act.eval,Act.put]) (H1.out 3 (cap-(i+m)) (cap-i)) ?_)
 have hk2:=H2.out W1 rfl
 simp only[Nat.mul_one] at hk2
 go_wp2
 go_ret
 have hf:=HF.out _ rfl (fun h=>h)
 simp only[Nat.mul_one] at hf⊢
 exact hf
theorem Iz(w:Vl)(base g n cap i m vb vc:Nat)(cur:Array Vr)(rows:List (List Vr))(x:List Vr)(hbw:base≤w.heap.size)(hh:w.heap[g]?=Vq (.cells cur 3 (0,0)))(h3:cur.size=cap*1)(h4:cur.toList.take (n*1)=rows.flatten)
  (hn:rows.length=n)(hw:dj 1 rows)(hone:jH rows)(hx:x.length=1)(h1x:∀u∈x,u.oneCell'=Vv)(hxb:ah w vb 3 x)(hm:m=1)(hin:i<n)(hnc:n≤cap)(hroom:cap<n+m)(hlen:n≤1000000):
  VC prog 151 #[.slice (Vq ⟨g,0,Vo⟩) n cap,.int .i64 (i:Int),.slice (Vq ⟨vb,0,Vo⟩) m vc] w fun e w'=>∃v',e= .returned v'∧w'.ownsRow base 3 1 v' (n+1) (dt rows i x).flatten∧VL base w w':=by
 obtain⟨i0,hi,hz0,hz1,hz2⟩:=info_parts nV
 have z1:((m:Int)==0)=Vp:=beq_eq_false_iff_ne.2 (by omega)
 have z2:((i:Int)==(n:Int))=Vp:=beq_eq_false_iff_ne.2 (by omega)
 have hsz:(prog.info? 3).map (·.size)=Vq 1:=by rw[hi];simp[hz1]
 have hgw:g<w.heap.size:=(Vz.1 hh).1
 have hfl:rows.flatten.length=n*1:=by rw[bB hw,hn]
 obtain⟨B,hB⟩:∃B,(rows.drop i).flatten=B:=⟨_,rfl⟩
 have hBl:B.length=(n-i)*1:=by rw[←hB,bB (fun r hr=>hw r (List.mem_of_mem_drop hr)),List.length_drop,hn]
 have h1B:∀u∈B,u.oneCell'=Vv:=by
  intro u hu
  rw[←hB] at hu
  obtain⟨r,hr,hur⟩:=List.mem_flatten.1 hu
  exact hone r (List.mem_of_mem_drop hr) u hur
 have hsrc:∀t u,B[t]?=Vq u→w.cell? ⟨g,i*1+t,Vo⟩=Vq u:=by
  intro t u hu
  have ht:t<B.length:=(List.getElem?_eq_some_iff.1 hu).1
  rw[←hB,←kg hw (by omega),List.getElem?_drop,←h4,List.getElem?_take] at hu
  rw[if_pos (by rw[hBl] at ht;omega)] at hu
  rw[show w.cell? ⟨g,i*1+t,Vo⟩=cur[i*1+t]? by simp[World.cell?,hh]]
  simpa using hu
 have hol:(rows.flatten.take (i*1)).length=i*1:=by rw[List.length_take,hfl];omega
 have hold:(Builtin.firstCells i0.size i (.slice (Vq ⟨g,0,Vo⟩) i cap)).run prog w.drew= .ok (rows.flatten.take (i*1)).toArray w.drew:=by
  rw[hz1]
  exact run_firstCells_some w.drew 1 i ⟨g,0,Vo⟩ i cap (rows.flatten.take (i*1)) hol (fun t u hu=>by
   rw[Addr.add_lit,Nat.zero_add]
   have ht:t<i*1:=by rw[←hol];exact(List.getElem?_eq_some_iff.1 hu).1
   rw[List.getElem?_take,if_pos ht,←h4,List.getElem?_take,if_pos (by omega)] at hu
   show w.cell? ⟨g,t,Vo⟩=Vq u
   rw[show w.cell? ⟨g,t,Vo⟩=cur[t]? by simp[World.cell?,hh]]
   simpa using hu)
 have hik:i+(n+m-i)=n+m:=by omega
 have hkk:(n:Int)+(m:Int)-(i:Int)=((n+m-i:Nat):Int):=by omega
 obtain⟨G,hG⟩:∃G,grownCap w (n+m) cap 3=G:=⟨_,rfl⟩
 have hGn:n+m≤G:=by rw[←hG];exact grownCap_ge w _ _ _
 have hG63:G≤VJ:=by rw[←hG];exact grownCap_le_maxLen w (n+m) cap 3 (by unfold VJ;omega)
 obtain⟨ROW,hROW⟩:∃ROW:Array Vr,(rows.flatten.take (i*1)).toArray++Builtin.zeroCells (Value.cells (.int .i64 0)) (n+m-i)++Builtin.zeroCells (Value.cells (.int .i64 0)) (G-(n+m))=ROW:=⟨_,rfl⟩
 have hRl:ROW.size=G*1:=by
  rw[←hROW]
  simp only[Array.size_append,List.size_toArray,hol,Builtin.zeroCells,Array.size_map,Array.size_range]
  show i*1+(n+m-i)*1+(G-(n+m))*1=_
  omega
 have hRt:ROW.toList.take (i*1)=rows.flatten.take (i*1):=by
  rw[←hROW,Array.toList_append,Array.toList_append,List.append_assoc,List.take_left' hol]
 have hrz:∀ty,(Builtin.append_ #[25,3] ty #[.slice (Vq ⟨g,0,Vo⟩) i cap,.int .i64 ((n:Int)+(m:Int)-(i:Int))]).run prog w=
   .ok (.slice (Vq ⟨w.heap.size,0,Vo⟩) (n+m) G) (w.drew.alloc (.cells ROW 3)):=fun ty=>by
  have h:=Lib.run_append_grow_zeros w 25 3 ty 3 i0 _ .i64 .i64 underlying25 underlying3 hi hz0 (Vq ⟨g,0,Vo⟩) i cap _ hold (n+m-i) (by omega) (by omega) (by omega) (by omega) (by rw[hz2];omega) (by rw[hz2,hik];exact growslice_fits hroom (by omega))
  rw[hik,hG] at h
  rw[hkk,←hROW]
  exact h
 obtain⟨W1,hW1⟩:∃W1,w.drew.alloc (.cells ROW 3)=W1:=⟨_,rfl⟩
 rw[hW1] at hrz
 have hh1:W1.heap[w.heap.size]?=Vq (.cells ROW 3 (0,0)):=by rw[←hW1];exact Vy w.drew _
 have hb1:VL w.heap.size w W1:=by rw[←hW1];exact(Below.drew (Below.refl _ _)).alloc (Vm _) _
 have hx1:ah W1 vb 3 x:=hxb.ext hb1
 have hg1:∀t u,w.cell? ⟨g,t,Vo⟩=Vq u→W1.cell? ⟨g,t,Vo⟩=Vq u:=fun t u h=>(hb1.cell hgw).trans h
 have hcpA:∀ty dc,(Builtin.copy_ #[25,25] ty #[.slice (Vq ⟨w.heap.size,i*1,Vo⟩) (n+m-i) dc,.slice (Vq ⟨vb,0,Vo⟩) m vc]).run prog W1= .ok (goInt m) (W1.setRow w.heap.size (putAt ROW (i*1) x.toArray)):=fun ty dc=>
  eT W1 _ _ ty 3 w.heap.size (i*1) (n+m-i) dc ⟨vb,0,Vo⟩ m vc _ 3 x 1 m underlying25 hsz hh1 (by simp only[Nat.min_def];split <;>omega) (by rw[hx,hm])
   (fun t u hu=>by rw[Addr.add_lit,Nat.zero_add];exact(hx1.cell t).trans hu) (by rw[hx,hRl];omega) h1x
 obtain⟨W2,hW2⟩:∃W2,W1.setRow w.heap.size (putAt ROW (i*1) x.toArray)=W2:=⟨_,rfl⟩
 rw[hW2] at hcpA
 have c1:(putAt ROW (i*1) x.toArray).size=G*1:=by rw[eR (by simp only[List.size_toArray,hx,hRl];omega),hRl]
 have hh2:W2.heap[w.heap.size]?=Vq (.cells (putAt ROW (i*1) x.toArray) 3 (0,0)):=by rw[←hW2];exact setRow_heap hh1 _
 have hb2:VL w.heap.size w W2:=by rw[←hW2];exact af hb1 (Vm _) _
 have hcpB:∀ty dc sc,(Builtin.copy_ #[25,25] ty #[.slice (Vq ⟨w.heap.size,(i+m)*1,Vo⟩) (n+m-(i+m)) dc,.slice (Vq ⟨g,i*1,Vo⟩) (n-i) sc]).run prog W2.drew= .ok (goInt ((n-i:Nat):Int)) (W2.drew.setRow w.heap.size (putAt (putAt ROW (i*1) x.toArray) ((i+m)*1) B.toArray)):=fun ty dc sc=>
  eT W2.drew _ _ ty 3 w.heap.size ((i+m)*1) (n+m-(i+m)) dc ⟨g,i*1,Vo⟩ (n-i) sc _ 3 B 1 (n-i) underlying25 hsz hh2 (by simp only[Nat.min_def];split <;>omega) hBl
   (fun t u hu=>by rw[Addr.add_lit];exact(hb2.cell hgw).trans (hsrc t u hu)) (by rw[hBl,c1];omega) h1B
 have hc2:(putAt (putAt ROW (i*1) x.toArray) ((i+m)*1) B.toArray).size=G*1:=by rw[eR (by simp only[List.size_toArray,hBl,c1];omega),c1]
 have htk:(putAt (putAt ROW (i*1) x.toArray) ((i+m)*1) B.toArray).toList.take ((n+1)*1)=(dt rows i x).flatten:=by
  refine oA (cur:=ROW) hw hn hx hin hRt (by rw[hRl];omega) (N:=(i+m)*1+B.length) ?_
  rw[uS (by simp only[List.size_toArray,hx,hm];omega) (by simp only[List.size_toArray,hBl,hRl];omega),hB,List.size_toArray]
 have hlenF:(dt rows i x).flatten.length=(n+1)*1:=by rw[bB (qH hw hx i),lX rows i x (by omega),hn]
 have hG1:n+1≤G:=by omega
 have hfin:∃v',Ending.returned (.slice (Vq ⟨w.heap.size,0,Vo⟩) (n+m) G)= .returned v'∧(W2.drew.setRow w.heap.size (putAt (putAt ROW (i*1) x.toArray) ((i+m)*1) B.toArray)).ownsRow base 3 1 v' (n+1) (dt rows i x).flatten∧VL base w (W2.drew.setRow w.heap.size (putAt (putAt ROW (i*1) x.toArray) ((i+m)*1) B.toArray)):=
  ⟨_,rfl,⟨hlenF,.inr ⟨w.heap.size,G,_,by rw[hm],hbw,setRow_heap (w:=W2.drew) hh2 _,hG1,hG63,hc2,htk⟩⟩,af ((Below.drew hb2).mono hbw) hbw _⟩
 have HF:=Vk hfin
 have HB:=Vk hcpB
 have mixed:prog.follows .mixedOrders=Vv:=by kernel_rfl
 unfold VJ at hG63
 have q1:i≤n:=by omega
 have w1:VA.wrap ((i:Int)+(m:Int))=(i:Int)+(m:Int):=by rw[IntKind.wrap_i64];omega
 have w2:(0:Int)≤(i:Int)+(m:Int):=by omega
 have w3:((i:Int)+(m:Int)).toNat=i+m:=by omega
 have w4:(i:Int)≤(n:Int)+(m:Int):=by omega
 have w5:(cap:Int)<(n:Int)+(m:Int):=by omega
 have q2:¬(G=i+m):=by omega
 have q3:¬(G=i):=by omega
 have q4:m≤1:=by omega
 have q5:1≤m:=by omega
 have q6:¬(cap=i):=by omega
 clear hfin hcpB hW1 hW2 hh1 hh2 hb1 hb2 hx1 hg1 c1 hc2 htk hlenF hG1 hm hsrc h1B hBl hB hfl hsz h3 h4 hh hxb hx h1x hw hone hn hi hz0 hz1 hz2 hold hol hik hkk hRl hRt hROW hG hgw
 simp only[Nat.mul_one] at hcpA
 go_enter func151,ntmps151
 go_wp2_with(at_builtin;refine Lib.wpList_append_run _ rfl _ _ _ _ rfl _ _ rfl rfl _ _ (hrz _) ?_)
 go_region_law_o(refine step_copy_runI rfl _ _ 25 25 rfl (.slice (Vq ⟨w.heap.size,(i+m)*1,Vo⟩) (n+m-(i+m)) (G-(i+m))) (.slice (Vq ⟨g,i*1,Vo⟩) (n-i) (cap-i)) (by simp[Act.eval,Act.put]) (by simp[Act.eval,Act.put]) (HB.out 3 (G-(i+m)) (cap-i)) ?_)
 go_wp2
 go_ret
 have hf:=HF.out
 simp only[Nat.mul_one] at hf⊢
 exact hf
def M0(w:Vl)(base n i vb vc:Nat)(v:Vr)(rows:List (List Vr))(x:List Vr)(ho:w.ownsRow base 3 1 v n rows.flatten)(hn:rows.length=n)(hw:dj 1 rows)(hone:jH rows)
  (hx:x.length=1)(h1x:∀u∈x,u.oneCell'=Vv)(hxb:ah w vb 3 x)(hvb:v.ownBlock≠Vq vb)(hi:i<=n)(hlen:n<=1000000)(hbw:base<=w.heap.size):
  VC prog 151 #[v,VU VA (i:Int),VQ (Vq ⟨vb,0,Vo⟩) 1 vc] w λe w'=>∃v',e=VV v'/\w'.ownsRow base 3 1 v' (n+1) (dt rows i x).flatten/\VL base w w':=by
 by_cases hin:i=n
 ·subst hin;have e:dt rows i x=rows++[x]:=by unfold dt;rw[<-hn,List.take_length,List.drop_length]
  rw[e];exact Nf w base i 1 vb vc v rows x ho hx h1x hxb rfl hlen hbw
 ·obtain⟨g,cap,cur,rfl,hb,hh,h1,h2,h3,h4⟩:=ml ho VY;by_cases hroom:n+1<=cap
  ·refine(ES w base g n cap i 1 vb vc cur rows x hb hh h2 h3 h4 hn hw hone hx h1x hxb (λe=>hvb XC) rfl VY hroom hlen).mono ?_;rintro e w' ⟨v',rfl,h5,h6⟩;exact⟨v',rfl,h5,h6.mono hb⟩
  ·exact Iz w base g n cap i 1 vb vc cur rows x hbw hh h3 h4 hn hw hone hx h1x hxb rfl VY h1 VY hlen
end
section
open Kp
def BG(a b:Aw):Int:=En (Lib.compareInt a.width b.width) (Lib.compareInt a.depth b.depth) (Lib.compareInt a.spacing b.spacing) (Lib.compareInt a.load b.load)
def Gr(n:Nat)(a b:Aw)(i:Nat)(v:Vr)(_:Vl):Prop:=
 match i with
 |0=>v=VT (Vq ⟨n,0,Vo⟩)
 |1=>v=VU VA a.width
 |2=>v=VT (Vq ⟨n+1,0,Vo⟩)
 |3=>v=VU VA b.width
 |4=>v=VU VA (Lib.compareInt a.width b.width)
 |5=>v=VT (Vq ⟨n,1,Vo⟩)
 |6=>v=VU VA a.depth
 |7=>v=VT (Vq ⟨n+1,1,Vo⟩)
 |8=>v=VU VA b.depth
 |9=>v=VU VA (Lib.compareInt a.depth b.depth)
 |10=>v=VT (Vq ⟨n,2,Vo⟩)
 |11=>v=VU VA a.spacing
 |12=>v=VT (Vq ⟨n+1,2,Vo⟩)
 |13=>v=VU VA b.spacing
 |14=>v=VU VA (Lib.compareInt a.spacing b.spacing)
 |15=>v=VT (Vq ⟨n,3,Vo⟩)
 |16=>v=VU VA a.load
 |17=>v=VT (Vq ⟨n+1,3,Vo⟩)
 |18=>v=VU VA b.load
 |19=>v=VU VA (Lib.compareInt a.load b.load)
 |_=>True
def vo(a b:Aw)(w:Vl):VC prog 161 #[VW (j7 a).toArray,VW (j7 b).toArray] w λe w'=>e=VV (VU VA (BG a b))/\Ext w w':=by
 obtain⟨W0,hW0⟩:∃W0,(w.alloc (.cells (j7 a).toArray 66)).alloc (.cells (j7 b).toArray 66)=W0:=⟨_,rfl⟩;have E0:=Vk (show Ext w W0 by rw[<-hW0];exact((Below.refl _ _).alloc (Vm _) _).alloc V5 _);have RA:=Vk (show ah W0 w.heap.size 66 (j7 a) by rw[<-hW0];exact(ah.new w _ _).ext ((Below.refl _ _).alloc (Vm _) _));have RB:=Vk (show ah W0 (w.heap.size+1) 66 (j7 b) by
  have h:=ah.new (w.alloc (.cells (j7 a).toArray 66)) 66 (j7 b);rw[VF] at h;rw[<-hW0];exact h)
 have HR:=Vk (show BG a b=En (Lib.compareInt a.width b.width) (Lib.compareInt a.depth b.depth) (Lib.compareInt a.spacing b.spacing) (Lib.compareInt a.load b.load) from rfl);have HW:=Vk hW0;clear hW0;go_enter func161,ntmps161;go_wp2_with fail
 rw[show(w.alloc (.cells #[VU VA a.width,VU VA a.depth,VU VA a.spacing,VU VA a.load,VU VA a.span] 66)).alloc (.cells #[VU VA b.width,VU VA b.depth,VU VA b.spacing,VU VA b.load,VU VA b.span] 66)=W0 from HW.o];refine wp_region_any VZ (bM 20 (λvs=>⟨#[VW (j7 a).toArray,VW (j7 b).toArray,VT (Vq ⟨w.heap.size,0,Vo⟩),VT (Vq ⟨w.heap.size+1,0,Vo⟩),VU VA 0,vs 0,vs 1,vs 2,vs 3,vs 4,vs 5,vs 6,vs 7,vs 8,vs 9,vs 10,vs 11,vs 12,vs 13,vs 14,vs 15,vs 16,vs 17,vs 18,vs 19,Vs,Vs],[]⟩)
  (λw'=>Ext W0 w') (Gr w.heap.size a b) (λ_=>Vp) VZ (λ_ _ h k=>h.tr k) (λi v _ _ h k=>h) (λ_ _ _ _ h=>V6) ?step ?tail (λ_=>Vs) _ (Ext.dr W0))
 case step=>
  intro i vs w' hi hD hd;have cA:=λi=>(RA.o.ext hD).cell i
  have cB:=λi=>(RB.o.ext hD).cell i
  rcases(show i=0\/i=1\/i=2\/i=3\/i=4\/i=5\/i=6\/i=7\/i=8\/i=9\/i=10\/i=11\/i=12\/i=13\/i=14\/i=15\/i=16\/i=17\/i=18\/i=19 by omega) with rfl|rfl|rfl|rfl|rfl|rfl|rfl|rfl|rfl|rfl|rfl|rfl|rfl|rfl|rfl|rfl|rfl|rfl|rfl|rfl<;>clear hi
  ·exact Y1
  ·refine Vx rfl (λK hK=> ?_);have d0:=hd 0 VZ;simp only[Gr] at d0;go_simp;exact hK _ _ ⟨VU VA a.width,by simp[d0],Ext.aB _,rfl,λh=>V6⟩
  ·exact Y1
  ·refine Vx rfl (λK hK=> ?_);have d2:=hd 2 VZ;simp only[Gr] at d2;go_simp;exact hK _ _ ⟨VU VA b.width,by simp[d2],Ext.aB _,rfl,λh=>V6⟩
  ·refine Vx rfl (λK hK=> ?_);have d1:=hd 1 VZ;have d2:=hd 3 VZ;simp only[Gr] at d1 d2;go_simp;refine(cmp_Compare_int a.width b.width _).mono ?_;rintro e W1 ⟨rfl,rfl⟩;exact hK _ _ ⟨VU VA (Lib.compareInt a.width b.width),by simp[d1,d2],Ext.aB _,rfl,λh=>V6⟩
  ·exact Y1
  ·refine Vx rfl (λK hK=> ?_);have d5:=hd 5 VZ;simp only[Gr] at d5;go_simp;exact hK _ _ ⟨VU VA a.depth,by simp[d5],Ext.aB _,rfl,λh=>V6⟩
  ·exact Y1
  ·refine Vx rfl (λK hK=> ?_);have d7:=hd 7 VZ;simp only[Gr] at d7;go_simp;exact hK _ _ ⟨VU VA b.depth,by simp[d7],Ext.aB _,rfl,λh=>V6⟩
  ·refine Vx rfl (λK hK=> ?_);have d1:=hd 6 VZ;have d2:=hd 8 VZ;simp only[Gr] at d1 d2;go_simp;refine(cmp_Compare_int a.depth b.depth _).mono ?_;rintro e W1 ⟨rfl,rfl⟩;exact hK _ _ ⟨VU VA (Lib.compareInt a.depth b.depth),by simp[d1,d2],Ext.aB _,rfl,λh=>V6⟩
  ·exact Y1
  ·refine Vx rfl (λK hK=> ?_);have d10:=hd 10 VZ;simp only[Gr] at d10;go_simp;exact hK _ _ ⟨VU VA a.spacing,by simp[d10],Ext.aB _,rfl,λh=>V6⟩
  ·exact Y1
  ·refine Vx rfl (λK hK=> ?_);have d12:=hd 12 VZ;simp only[Gr] at d12;go_simp;exact hK _ _ ⟨VU VA b.spacing,by simp[d12],Ext.aB _,rfl,λh=>V6⟩
  ·refine Vx rfl (λK hK=> ?_);have d1:=hd 11 VZ;have d2:=hd 13 VZ;simp only[Gr] at d1 d2;go_simp;refine(cmp_Compare_int a.spacing b.spacing _).mono ?_;rintro e W1 ⟨rfl,rfl⟩;exact hK _ _ ⟨VU VA (Lib.compareInt a.spacing b.spacing),by simp[d1,d2],Ext.aB _,rfl,λh=>V6⟩
  ·exact Y1
  ·refine Vx rfl (λK hK=> ?_);have d15:=hd 15 VZ;simp only[Gr] at d15;go_simp;exact hK _ _ ⟨VU VA a.load,by simp[d15],Ext.aB _,rfl,λh=>V6⟩
  ·exact Y1
  ·refine Vx rfl (λK hK=> ?_);have d17:=hd 17 VZ;simp only[Gr] at d17;go_simp;exact hK _ _ ⟨VU VA b.load,by simp[d17],Ext.aB _,rfl,λh=>V6⟩
  ·refine Vx rfl (λK hK=> ?_);have d1:=hd 16 VZ;have d2:=hd 18 VZ;simp only[Gr] at d1 d2;go_simp;refine(cmp_Compare_int a.load b.load _).mono ?_;rintro e W1 ⟨rfl,rfl⟩;exact hK _ _ ⟨VU VA (Lib.compareInt a.load b.load),by simp[d1,d2],Ext.aB _,rfl,λh=>V6⟩
 case tail=>
  intro vs w' hD hV _;have v4:=hV 4 VY;have v9:=hV 9 VY;have v14:=hV 14 VY;have v19:=hV 19 VY;simp only[Gr] at v4 v9 v14 v19;have HX:=Vk (E0.o.tr (hD.trans ((Below.refl w'.heap.size w').alloc (Vm _) (.cells [VU VA (Lib.compareInt a.width b.width),VU VA (Lib.compareInt a.depth b.depth),VU VA (Lib.compareInt a.spacing b.spacing),VU VA (Lib.compareInt a.load b.load)].toArray 3) |>.mono hD.size)));have R3:=Vk (ah.new w' 3 [VU VA (Lib.compareInt a.width b.width),VU VA (Lib.compareInt a.depth b.depth),VU VA (Lib.compareInt a.spacing b.spacing),VU VA (Lib.compareInt a.load b.load)]);clear hV hD;simp only[v4,v9,v14,v19,List.drop_succ_cons,List.drop_zero];go_wp2_with(go_at_call 208;go_must((with_reducible refine(yE _ _ _ 3 _ _ _ _ R3.o).mono ?_));rintro e W1 ⟨rfl,rfl⟩)
  go_ret;exact⟨V9,HX.o⟩
end
section
open Kp
def Ke(l:List Aw)(x:Aw):Nat->Nat->Nat->Nat
 |0,lo,_=>lo
 |f+1,lo,hi=>if lo<hi then(if BG (l.getD ((lo+hi)/2) nJ) x<0 then Ke l x f ((lo+hi)/2+1) hi else Ke l x f lo ((lo+hi)/2)) else lo
def Kf(l:List Aw)(x:Aw):Nat:=Ke l x l.length 0 l.length
def Ot(l:List Aw)(x:Aw):Bool:=decide (Kf l x<l.length)&&BG (l.getD (Kf l x) nJ) x==0
def OQ(l:List Aw)(x:Aw)(f lo:Nat):Ke l x f lo lo=lo:=by
 cases f with
 |zero=>rfl
 |succ f=>unfold Ke;rw[if_neg VY]
def Va(W0:Vl)(l:List Aw)(x:Aw)(i j:Vr)(wr:Vl):Prop:=
 ∃lo hi f:Nat,i=VU VA (lo:Int)/\j=VU VA (hi:Int)/\lo<=hi/\hi<=l.length/\hi-lo<=f/\Ke l x f lo hi=Kf l x/\Ext W0 wr
def Ki(w:Vl)(A:Option VM)(cap:Nat)(l:List Aw)(x:Aw)(hl:bK 5 w w.heap.size A cap (bI l))(hlen:l.length<=1000000):
  VC prog 160 #[VQ A l.length cap,VW (j7 x).toArray,.func (.func 161) #[] #[]] w λe w'=>e=VV (VX #[VU VA (Kf l x:Int),VS (Ot l x)])/\Ext w w':=by
 obtain⟨h1,h2,h3⟩:=hl;rw[Vu] at h1 h3;unfold VJ at h2;obtain⟨W0,hW0⟩:∃W0,w.alloc (.cells (j7 x).toArray 66)=W0:=⟨_,rfl⟩;have E0:=Vk (show Ext w W0 by rw[<-hW0];exact(Below.refl _ _).alloc (Vm _) _);have RX:=Vk (show ah W0 w.heap.size 66 (j7 x) by rw[<-hW0];exact ah.new w _ _);have HW:=Vk hW0;have g1:=enters_of func161 VZ rfl;have H3:=Vk h3;clear h3 hW0;go_enter func160,ntmps160;go_wp2;rw[show w.alloc (.cells #[VU VA x.width,VU VA x.depth,VU VA x.spacing,VU VA x.load,VU VA x.span] 66)=W0 from HW.o];go_loopw [9,10] (λi j wr=>Va W0 l x i j wr) (λi j _=>(VG j-VG i).toNat)
 case atStart=>exact⟨0,l.length,l.length,rfl,rfl,VY,VY,VY,rfl,Ext.aB _⟩
 case round=>
  obtain⟨lo,hi,f,rfl,rfl,hlh,hin,hf,hR,hX⟩:=hrel;have HX:=Vk hX;have HRR:=Vk hR;clear hX hR;by_cases hlt:lo<hi
  ·obtain⟨b,off,rfl,hB,hcell0⟩:=H3.o VY;have hXw:=Vk (E0.o.tr HX.o);have hbw:b<wr.heap.size:=Nat.lt_of_lt_of_le hB hXw.o.size;obtain⟨f',rfl⟩:∃f',f=f'+1:=⟨f-1,VY⟩;have hh:(lo+hi)/2<l.length:=VY;have HC:=Vk (λj hj=>(hXw.o.cell (p:=⟨b,off+5*((lo+hi)/2)+j,Vo⟩) hB).trans (hcell0 ((lo+hi)/2) hh j hj));have c0:=HC.o 0 V0;have c1:=HC.o 1 V0;have c2:=HC.o 2 V0;have c3:=HC.o 3 V0;have c4:=HC.o 4 V0;rw[ot hh,VE] at c0 c1 c2 c3 c4;rw[Nat.add_zero] at c0;have hu:Ke l x (f'+1) lo hi=if BG (l.getD ((lo+hi)/2) nJ) x<0 then Ke l x f' ((lo+hi)/2+1) hi else Ke l x f' lo ((lo+hi)/2):=by
    rw[Ke,if_pos hlt]
   rw[HRR.o] at hu;obtain⟨y,hy⟩:∃y,l.getD ((lo+hi)/2) nJ=y:=⟨_,rfl⟩;rw[hy] at c0 c1 c2 c3 c4 hu;have KO:=Vk (λW=>vo y x W);obtain⟨c,hc⟩:∃c,BG y x=c:=⟨_,rfl⟩;rw[hc] at hu;simp only[hc] at KO;have HU:=Vk hu;clear hy hc hu hcell0;have e1:(((lo:Int)+(hi:Int))/2).toNat=(lo+hi)/2:=VY;have e2:0<=((lo:Int)+(hi:Int))/2:=VY;have e3:((lo:Int)+(hi:Int))/2<(l.length:Int):=VY;go_wp2_with fail
   refine dy 6 VZ VZ (λW2 hW2=> ?_);have rx:ah W2 w.heap.size 66 (j7 x):=RX.o.ext (HX.o.tr hW2);have q0:=(hW2.cell (p:=⟨b,off+(lo+hi)/2*5,Vo⟩) hbw).trans c0;have q1:=(hW2.cell (p:=⟨b,off+(lo+hi)/2*5+1,Vo⟩) hbw).trans c1;have q2:=(hW2.cell (p:=⟨b,off+(lo+hi)/2*5+2,Vo⟩) hbw).trans c2;have q3:=(hW2.cell (p:=⟨b,off+(lo+hi)/2*5+3,Vo⟩) hbw).trans c3;have q4:=(hW2.cell (p:=⟨b,off+(lo+hi)/2*5+4,Vo⟩) hbw).trans c4;have y0:=rx.cell 0;have y1:=rx.cell 1;have y2:=rx.cell 2;have y3:=rx.cell 3;have y4:=rx.cell 4;have HW2:=Vk hW2;clear rx hW2 c0 c1 c2 c3 c4;simp only[List.take_succ_cons,List.take_zero,List.drop_succ_cons,List.drop_zero]
   repeat still_step
   refine wpStill_nil ?_;by_cases hc0:c<0
   ·have tc:decide (c<0)=Vv:=decide_eq_true hc0;have HZ:=Vk (HU.o.trans (if_pos hc0));go_wp2_with(go_at_call 161;go_must(refine(KO.o _).mono ?_);rintro e W3 ⟨rfl,hX3⟩)
    exact⟨⟨(lo+hi)/2+1,hi,f',by rw[show((lo:Int)+(hi:Int))/2+1=(((lo+hi)/2+1:Nat):Int) by omega],rfl,VY,VY,VY,HZ.o.symm,(HX.o.tr HW2.o).tr hX3⟩,V7⟩
   ·have tc:decide (c<0)=Vp:=decide_eq_false hc0;have HZ:=Vk (HU.o.trans (if_neg hc0));go_wp2_with(go_at_call 161;go_must(refine(KO.o _).mono ?_);rintro e W3 ⟨rfl,hX3⟩)
    exact⟨⟨lo,(lo+hi)/2,f',rfl,by rw[show((lo:Int)+(hi:Int))/2=(((lo+hi)/2:Nat):Int) by omega],VY,VY,VY,HZ.o.symm,(HX.o.tr HW2.o).tr hX3⟩,V7⟩
  ·obtain rfl:lo=hi:=VY;have HI:=Vk (show Kf l x=lo by rw[<-HRR.o,OQ]);by_cases hn:lo<l.length
   ·obtain⟨b,off,rfl,hB,hcell0⟩:=H3.o VY;have hXw:=Vk (E0.o.tr HX.o);have hbw:b<wr.heap.size:=Nat.lt_of_lt_of_le hB hXw.o.size;have HC:=Vk (λj hj=>(hXw.o.cell (p:=⟨b,off+5*lo+j,Vo⟩) hB).trans (hcell0 lo hn j hj));have c0:=HC.o 0 V0;have c1:=HC.o 1 V0;have c2:=HC.o 2 V0;have c3:=HC.o 3 V0;have c4:=HC.o 4 V0;rw[ot hn,VE] at c0 c1 c2 c3 c4;rw[Nat.add_zero] at c0;have hF:Ot l x=(BG (l.getD lo nJ) x==0):=by unfold Ot;rw[HI.o,decide_eq_true hn,Bool.true_and]
    obtain⟨y,hy⟩:∃y,l.getD lo nJ=y:=⟨_,rfl⟩;rw[hy] at c0 c1 c2 c3 c4 hF;have KO:=Vk (λW=>vo y x W);obtain⟨c,hc⟩:∃c,BG y x=c:=⟨_,rfl⟩;rw[hc] at hF;simp only[hc] at KO;have HF:=Vk hF;have t0:decide ((lo:Int)<(l.length:Int))=Vv:=decide_eq_true VY;have e3:(lo:Int)<(l.length:Int):=VY;clear hy hc hF hcell0;have b0:=λw' (h:Ext wr w')=>(h.cell (p:=⟨b,off+lo*5,Vo⟩) hbw).trans c0
    have b1:=λw' (h:Ext wr w')=>(h.cell (p:=⟨b,off+lo*5+1,Vo⟩) hbw).trans c1
    have b2:=λw' (h:Ext wr w')=>(h.cell (p:=⟨b,off+lo*5+2,Vo⟩) hbw).trans c2
    have b3:=λw' (h:Ext wr w')=>(h.cell (p:=⟨b,off+lo*5+3,Vo⟩) hbw).trans c3
    have b4:=λw' (h:Ext wr w')=>(h.cell (p:=⟨b,off+lo*5+4,Vo⟩) hbw).trans c4
    have y0:=λw' (h:Ext wr w')=>(RX.o.ext (HX.o.tr h)).cell 0
    have y1:=λw' (h:Ext wr w')=>(RX.o.ext (HX.o.tr h)).cell 1
    have y2:=λw' (h:Ext wr w')=>(RX.o.ext (HX.o.tr h)).cell 2
    have y3:=λw' (h:Ext wr w')=>(RX.o.ext (HX.o.tr h)).cell 3
    have y4:=λw' (h:Ext wr w')=>(RX.o.ext (HX.o.tr h)).cell 4
    clear c0 c1 c2 c3 c4;go_wp2_with fail
    go_region_held3(λw'=>Ext wr w') (first|exact hx1|exact Ext.dr wr) (first|(go_at_call 161;go_must(refine(KO.o _).mono ?_);rintro e W1 ⟨rfl,hX1⟩;have hx1:Ext wr W1:=(Ext.dr wr).tr hX1))
    go_wp2;go_ret2;exact⟨by rw[HI.o,HF.o];rfl,hXw.o.tr hx1⟩
   ·have hF:Ot l x=Vp:=by unfold Ot;rw[HI.o,decide_eq_false hn,Bool.false_and]
    have HF:=Vk hF;have t0:decide ((lo:Int)<(l.length:Int))=Vp:=decide_eq_false VY;have hXw:=Vk (E0.o.tr HX.o);clear hF;go_wp2_with fail
    go_quiet (fail)
    go_wp2;go_ret2;exact⟨by rw[HI.o,HF.o];rfl,below_drewN hXw.o _⟩
end
section
open Kp
def qj(n:Int)(w:Vl):VC prog 112 #[VU VA n] w λe w'=>e=VV (VS (aO n 1 1000))/\w'=w:=by
 have hb:aO n 1 1000=(decide (1<=n)&&decide (n<=1000)):=rfl;rw[hb];clear hb;cases t1:decide (n>=1)<;>cases t2:decide (n<=1000)
 all_goals
  go_enter func112,ntmps112;go_wp2;go_ret;exact⟨rfl,rfl⟩
def B7{w:Vl}{B:Nat}{A:Option VM}{cap:Nat}{l:List Sz}(h:bK 3 w B A cap (bN l))(hp:0<l.length):
  ∃b off,A=Vq ⟨b,off,Vo⟩/\b<B/\∀i,i<l.length->w.cell? ⟨b,off+i*3,Vo⟩=Vq (VU VA (l.getD i iF).kind)/\w.cell? ⟨b,off+i*3+1,Vo⟩=Vq (VU VA (l.getD i iF).width)/\w.cell? ⟨b,off+i*3+2,Vo⟩=Vq (VU VA (l.getD i iF).depth):=by
 obtain⟨h1,h2,h3⟩:=h;obtain⟨b,off,e,hb,hc⟩:=h3 (by rw[Vu];exact hp);refine⟨b,off,e,hb,λi hi=> ?_⟩;have q:∀m,m<3->w.cell? ⟨b,off+i*3+m,Vo⟩=(GA (l.getD i iF))[m]?:=by
  intro m hm;have:=hc i Xi m hm;rw[xI hi,VE] at this;exact this
 exact⟨q 0 V0,q 1 V0,q 2 V0⟩
end
section
open Kp
def NT{w:Vl}{B:Nat}{A:Option VM}{cap:Nat}{l:List Aw}(h:bK 5 w B A cap (bI l))(hp:0<l.length):
  ∃b off,A=Vq ⟨b,off,Vo⟩/\b<B/\∀i,i<l.length->w.cell? ⟨b,off+i*5,Vo⟩=Vq (VU VA (l.getD i nJ).width)/\w.cell? ⟨b,off+i*5+1,Vo⟩=Vq (VU VA (l.getD i nJ).depth)/\w.cell? ⟨b,off+i*5+2,Vo⟩=Vq (VU VA (l.getD i nJ).spacing)/\w.cell? ⟨b,off+i*5+3,Vo⟩=Vq (VU VA (l.getD i nJ).load)/\w.cell? ⟨b,off+i*5+4,Vo⟩=Vq (VU VA (l.getD i nJ).span):=by
 obtain⟨h1,h2,h3⟩:=h;obtain⟨b,off,e,hb,hc⟩:=h3 (by rw[Vu];exact hp);refine⟨b,off,e,hb,λi hi=> ?_⟩;have hr:(bI l).getD i []=j7 (l.getD i nJ):=by simp[List.getD,Vt hi]
 have q:∀m,m<5->w.cell? ⟨b,off+i*5+m,Vo⟩=(j7 (l.getD i nJ))[m]?:=by
  exact a0D
 exact⟨q 0 V0,q 1 V0,q 2 V0,q 3 V0,q 4 V0⟩
def AO(a b s l:Int):Int:=if(aO a 1 1000&&aO b 1 1000&&aO s 1 65536&&aO l 0 1048576)=Vv then 0 else 2
def rn(a b s l:Int)(w:Vl):VC prog 115 #[VU VA a,VU VA b,VU VA s,VU VA l] w λx w'=>x=VV (VU VA (AO a b s l))/\w'=w:=by
 unfold AO;cases t1:aO a 1 1000 with
 |false=>
  exact a0E
 |true=>
  cases t2:aO b 1 1000 with
  |false=>
   exact a0E
  |true=>
   cases t3:aO s 1 65536 with
   |false=>
    exact a0E
   |true=>
    cases t4:aO l 0 1048576 with
    |false=>
     exact a0E
    |true=>
     exact a0E
end
section
open Kp
def yO(w:Vl)(A:Option VM)(cap:Nat)(l:List Int)(hl:bK 1 w w.heap.size A cap (aX l)):
  VC prog 48 #[VQ A l.length cap] w λe w'=>e=VV (VU VA (iT l))/\Ext w w':=by
 obtain⟨h1,h2,h3⟩:=hl;rw[Vu] at h1 h3;unfold VJ at h2;by_cases h16:16<l.length
 ·have HR:=Vk (show iT l=4 by rw[tu,if_pos h16]);clear h3;go_enter func48,ntmps48;go_wp2;go_ret;exact⟨V9,WG⟩
 have HR:=Vk (show iT l=aV (vK l) l.length by rw[tu,if_neg h16]);have H3:=Vk h3;clear h3;go_enter func48,ntmps48;go_wp2;go_loopw [3] (λi wr=>∃k:Nat,k<=l.length/\i=VU VA (k:Int)/\Ext w wr/\∀j,j<k->vK l j=0) (λi _=>((l.length:Int)-VG i).toNat)
 case atStart=>exact⟨0,VY,rfl,Below.refl _ _,λj hj=>VY⟩
 case round=>
  obtain⟨k,hk,rfl,hX,hall⟩:=hrel;have HX:=Vk hX;have HA:=Vk hall;clear hall;by_cases hlt:k<l.length
  ·obtain⟨b,off,rfl,hB,hcell0⟩:=H3.o VY;have hcell:=λi hi j hj=>(hX.cell (p:=⟨b,off+1*i+j,Vo⟩) hB).trans (hcell0 i hi j hj)
   clear hcell0 hX;have c1:=hcell k hlt 0 V0;rw[eX hlt,Nat.one_mul,Nat.add_zero] at c1;have hpz:0<k->wr.cell? ⟨b,off+(k-1),Vo⟩=Vq (VU VA (l.getD (k-1) 0)):=λh0=>by
    exact ZC
   have HF:=Vk (show vK l k=if !aO (l.getD k 0) 0 1048576 then 2 else if 0<k/\l.getD k 0<=l.getD (k-1) 0 then 10 else 0 from rfl);obtain⟨x,hx⟩:∃x,l.getD k 0=x:=⟨_,rfl⟩;obtain⟨y,hy⟩:∃y,l.getD (k-1) 0=y:=⟨_,rfl⟩;rw[hx] at c1 HF;rw[hy] at hpz HF;have HPZ:=Vk hpz;clear hx hy hcell hpz;cases tb:aO x 0 1048576
   ·have HE:=Vk (show iT l=2 by rw[HR.o,bQ hlt HA.o (by rw[HF.o,tb,if_pos V0];decide),HF.o,tb,if_pos V0]);go_wp2_with(go_at_call 47;go_must(refine(gN _ _ _ _).mono ?_);rintro e W1 ⟨rfl,rfl⟩;rw[tb])
    go_ret;exact⟨Wk,WG⟩
   by_cases h0:0<k
   ·have c2:=HPZ.o h0;have tk:decide (0<(k:Int))=Vv:=Wh;have e1:((k:Int)-1).toNat=k-1:=VY;have e2:0<=(k:Int)-1:=VY;have e3:(k:Int)-1<(l.length:Int):=VY;have e4:(k:Int)<(l.length:Int):=VY;have e5:VA.wrap ((k:Int)-1)=(k:Int)-1:=VI _ VY;by_cases hxy:x<=y
    ·have HE:=Vk (show iT l=10 by rw[HR.o,bQ hlt HA.o (by rw[HF.o,tb,if_neg V0,if_pos ⟨h0,hxy⟩];decide),HF.o,tb,if_neg V0,if_pos ⟨h0,hxy⟩]);go_wp2_with(go_at_call 47;go_must(refine(gN _ _ _ _).mono ?_);rintro e W1 ⟨rfl,rfl⟩;rw[tb])
     go_quiet (fail)
     go_wp2;go_ret;exact⟨Wk,WG⟩
    ·have HZ:=Vk (show vK l k=0 by rw[HF.o,tb,if_neg V0,if_neg (λh=>hxy h.2)]);have txy:decide (x<=y)=Vp:=by rw[decide_eq_false_iff_not];exact hxy
     exact a0H
   ·have tk:decide (0<(k:Int))=Vp:=V8;have HZ:=Vk (show vK l k=0 by rw[HF.o,tb,if_neg V0,if_neg (λh=>h0 h.1)]);exact a0H
  ·have hlt':decide ((k:Int)<(l.length:Int))=Vp:=V8;have HE:=Vk (show iT l=0 by rw[HR.o,bh (λj hj=>HA.o j VY)]);go_wp2;go_ret;exact⟨Wk,WG⟩
end
end Go.Proofs.YtmliacdegmklaaaGreatDoor
