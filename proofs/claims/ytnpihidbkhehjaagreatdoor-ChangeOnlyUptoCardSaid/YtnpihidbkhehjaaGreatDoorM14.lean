/- ChangeOnly of kingpostlaw58: part 14 of its proof (merged and shortened by program). -/
import Derived.Lib.AppendZeros
import Derived.Test.YtnpihidbkhehjaaGreatDoorM13
set_option linter.unusedVariables false
set_option linter.unusedSimpArgs false
set_option linter.defProp false
set_option maxHeartbeats 8000000
set_option maxRecDepth 100000
open Go.RowKit Go.Shelf Go.Proofs.Tryz
open Array renaming getElem?_eq_some_iff→Od
open Bool renaming false→N1,true→Oc
open Go renaming World→NY,Value→N2,undef→N7,wpOp_step→Ob,Calls→Of,maxLen→Ol,TypeId→Oo
open Go.AllReady renaming cons→Oj,nil→Oq
open Go.IntKind renaming i64→Oe
open Go.IntWalk renaming i64_in→Om
open Go.Lib renaming hid→NW
open Go.RowKit renaming intOf→Oh,Below→On
open Go.World renaming size_alloc→Oi
open List renaming getD_eq_getElem?_getD→N8,length_map→N9,getElem?_eq_getElem→Oa
open Nat renaming le_refl→NZ,mul_comm→Og,le_trans→Ok
open Option renaming none→N0,some→N3
open Go.Proofs.YtnpihidbkhehjaaGreatDoor
namespace Go.Proofs.YtnpihidbkhehjaaGreatDoor
section
open Kp
abbrev yt(l:List (List UInt8)):List (List N2):=l.map fun s=>[.string (tx s)]
theorem rn{l:List (List UInt8)}{i:Nat}(hi:i<l.length):(yt l).getD i []=[.string (tx (l.getD i []))]:=by
 simp[List.getD,Oa hi]
noncomputable def gS(l:List (List UInt8)):Int:=
 if aQ (fun i=>bG (l.getD i [])) l.length≠0 then aQ (fun i=>bG (l.getD i [])) l.length else aQ (fun i=>jY (l.getD i [])) l.length
def Ng(w:NY)(n:Nat)(f:Nat→Int)(i:N2)(wr:NY):Prop:=∃k:Nat,k≤n∧i= .int .i64 (k:Int)∧Ext w wr∧∀j,j<k→f j=0
theorem uT(w:NY)(A:Option Addr)(cap:Nat)(l:List (List UInt8))(hl:bC 1 w w.heap.size A cap (yt l))(hs:∀x∈l,x.length≤99999)(hm:fl w)(ht:aL w):
  Of prog 202 #[.slice A l.length cap] w fun e w'=>e= .returned (.int .i64 (gS l))∧Ext w w':=by
 obtain⟨h1,h2,h3⟩:=hl
 rw[N9] at h1 h3
 unfold Ol at h2
 have H3:=NW h3
 have HS:=NW hs
 have HM:=NW hm
 have HT:=NW ht
 have HN:=NW (show gS l=if aQ (fun i=>bG (l.getD i [])) l.length≠0 then aQ (fun i=>bG (l.getD i [])) l.length else aQ (fun i=>jY (l.getD i [])) l.length from rfl)
 clear h3 hs hm ht
 go_enter func202,ntmps202
 go_wp2
 go_loopw [11] (fun i wr=>Ng w l.length (fun i=>bG (l.getD i [])) i wr) (fun i _=>((l.length:Int)-Oh i).toNat)
 case atStart=>exact⟨0,Ot,rfl,Below.refl _ _,fun j hj=>Ot⟩
 case round=>
  obtain⟨k,hk,rfl,hX,hall⟩:=hrel
  have HX:=NW hX
  have HA:=NW hall
  clear hX hall
  by_cases hlt:k<l.length
  ·obtain⟨b,off,rfl,hB,hcell0⟩:=H3.out Ot
   have c0:=(HX.out.cell (p:=⟨b,off+1*k+0,N0⟩) hB).trans (hcell0 k hlt 0 Ov)
   rw[rn hlt,Nat.one_mul,Nat.add_zero] at c0
   have hwl:=HS.out (l.getD k []) (by rw[N8,Oa hlt];exact List.getElem_mem hlt)
   obtain⟨s,hs⟩:∃s,l.getD k []=s:=⟨_,rfl⟩
   rw[hs] at c0 hwl
   have KC:=NW (pf s wr Ot (HM.out.below HX.out (NZ _)) (HT.out.below HX.out (NZ _)))
   have HF:=NW (show bG (l.getD k [])=bG s by rw[hs])
   obtain⟨c,hc⟩:∃c,bG s=c:=⟨_,rfl⟩
   rw[hc] at KC HF
   clear hcell0 hwl hs hc
   by_cases hc0:c=0
   ·have HZ:=NW (show∀j,j<k+1→bG (l.getD j [])=0 from fun j hj=>by
     by_cases hjk:j=k
     ·rw[hjk,HF.out];exact hc0
     ·exact HA.out j Ot)
    subst hc0
    go_wp2_with(go_at_call 163;go_must(refine KC.out.mono ?_);rintro e W1 ⟨rfl,hX1⟩)
    exact⟨⟨k+1,Ot,Ow,Ext.tr HX.out hX1,HZ.out⟩,Oy⟩
   ·have HV:=NW (show gS l=c by
     have h1:aQ (fun i=>bG (l.getD i [])) l.length=c:=by rw[bS hlt HA.out (by show bG (l.getD k [])≠0;rw[HF.out];exact hc0)];exact HF.out
     rw[HN.out,h1,if_pos hc0])
    have tc:(c !=0)=Oc:=PD
    go_wp2_with(go_at_call 163;go_must(refine KC.out.mono ?_);rintro e W1 ⟨rfl,hX1⟩)
    go_ret
    exact⟨OT,Ext.tr HX.out hX1⟩
  ·have hlt':decide ((k:Int)<(l.length:Int))=N1:=Oz
   have HN2:=NW (show gS l=aQ (fun i=>jY (l.getD i [])) l.length by
    have h1:aQ (fun i=>bG (l.getD i [])) l.length=0:=bW (fun j hj=>HA.out j Ot)
    rw[HN.out,h1,if_neg (fun h=>h rfl)])
   clear hk
   go_wp2
   go_loopw [23] (fun i wr=>Ng w l.length (fun i=>jY (l.getD i [])) i wr) (fun i _=>((l.length:Int)-Oh i).toNat)
   case atStart=>exact⟨0,Ot,rfl,HX.out,fun j hj=>Ot⟩
   case round=>
    clear HX
    obtain⟨q,hq,rfl,hX,hall⟩:=hrel
    have HX:=NW hX
    have HB:=NW hall
    clear hX hall
    by_cases hlq:q<l.length
    ·obtain⟨b,off,rfl,hB,hcell0⟩:=H3.out Ot
     have c0:=(HX.out.cell (p:=⟨b,off+1*q+0,N0⟩) hB).trans (hcell0 q hlq 0 Ov)
     rw[rn hlq,Nat.one_mul,Nat.add_zero] at c0
     have hwl:=HS.out (l.getD q []) (by rw[N8,Oa hlq];exact List.getElem_mem hlq)
     obtain⟨s,hs⟩:∃s,l.getD q []=s:=⟨_,rfl⟩
     rw[hs] at c0 hwl
     have KC:=NW (vW s wr Ot (HM.out.below HX.out (NZ _)) (HT.out.below HX.out (NZ _)))
     have HF:=NW (show jY (l.getD q [])=jY s by rw[hs])
     obtain⟨c,hc⟩:∃c,jY s=c:=⟨_,rfl⟩
     rw[hc] at KC HF
     clear hcell0 hwl hs hc
     by_cases hc0:c=0
     ·have HZ:=NW (show∀j,j<q+1→jY (l.getD j [])=0 from fun j hj=>by
       by_cases hjk:j=q
       ·rw[hjk,HF.out];exact hc0
       ·exact HB.out j Ot)
      subst hc0
      go_wp2_with(go_at_call 225;go_must(refine KC.out.mono ?_);rintro e W1 ⟨rfl,hX1⟩)
      exact⟨⟨q+1,Ot,Ow,Ext.tr HX.out hX1,HZ.out⟩,Oy⟩
     ·have HV:=NW (show gS l=c by
       rw[HN2.out,bS hlq HB.out (by show jY (l.getD q [])≠0;rw[HF.out];exact hc0)];exact HF.out)
      have tc:(c !=0)=Oc:=PD
      go_wp2_with(go_at_call 225;go_must(refine KC.out.mono ?_);rintro e W1 ⟨rfl,hX1⟩)
      go_ret
      exact⟨OT,Ext.tr HX.out hX1⟩
    ·have hlq':decide ((q:Int)<(l.length:Int))=N1:=Oz
     have HV:=NW (show gS l=0 by rw[HN2.out,bW (fun j hj=>HB.out j Ot)])
     go_wp2
     go_ret
     exact⟨OT,HX.out⟩
abbrev qg(o:jD):List N2:=[.int .i64 o.side,.string (tx o.left),.string (tx o.right),.string (tx o.low),.string (tx o.high)]
abbrev aO(l:List jD):List (List N2):=l.map qg
theorem kn{l:List jD}{i:Nat}(hi:i<l.length):(aO l).getD i []=qg (l.getD i fK):=by
 simp[List.getD,Oa hi]
theorem j7(l:List jD):cG 5 (aO l):=bz (f:=qg) (fun _=>rfl) l
noncomputable def qi(o:jD):Int:=if gS [o.left,o.right,o.low,o.high]≠0 then gS [o.left,o.right,o.low,o.high] else if 0≤(fk o.left o.right).1∨0≤(fk o.low o.high).1 then 10 else 0
noncomputable def yk(a b:jD):Bool:=a.side==b.side&&decide ((fk a.left b.right).1<0)&&decide ((fk b.left a.right).1<0)&&decide ((fk a.low b.high).1<0)&&decide ((fk b.low a.high).1<0)
structure Ht(o:jD):Prop where
 l1:o.left.length≤99999
 r1:o.right.length≤99999
 w1:o.low.length≤99999
 h1:o.high.length≤99999
 l2:bG o.left=0
 r2:bG o.right=0
 w2:bG o.low=0
 h2:bG o.high=0
structure uk(o:jD):Prop where
 l1:o.left.length≤99999
 r1:o.right.length≤99999
 w1:o.low.length≤99999
 h1:o.high.length≤99999
theorem zX{a b c d:List UInt8}(h:gS [a,b,c,d]=0):bG a=0∧bG b=0∧bG c=0∧bG d=0:=by
 unfold gS at h
 split at h
 ·rename_i h1;exact absurd h h1
 ·rename_i h1
  have hz:=nt (Decidable.not_not.1 h1)
  exact⟨hz 0 Ow,hz 1 Ow,hz 2 Ow,hz 3 Ow⟩
theorem Hl{o:jD}(hs:uk o)(h:qi o=0):Ht o:=by
 have h0:gS [o.left,o.right,o.low,o.high]=0:=by
  by_cases hn:gS [o.left,o.right,o.low,o.high]=0
  ·exact hn
  ·unfold qi at h;rw[if_pos hn] at h;exact absurd h hn
 obtain⟨a,b,c,d⟩:=zX h0
 exact⟨hs.l1,hs.r1,hs.w1,hs.h1,a,b,c,d⟩
theorem xc(o:jD)(w:NY)(hs:uk o)(hm:fl w)(ht:aL w):Of prog 159 #[.agg (qg o).toArray] w fun e w'=>e= .returned (.int .i64 (qi o))∧Ext w w':=by
 obtain⟨sd,a,b,c,d⟩:=o
 obtain⟨l1,r1,w1,h1⟩:=hs
 dsimp only at l1 r1 w1 h1
 have HM:=NW hm
 have HT:=NW ht
 have E2:=NW (dI w (.cells #[.int .i64 sd,.string (tx a),.string (tx b),.string (tx c),.string (tx d)] 39) (.cells #[.string (tx a),.string (tx b),.string (tx c),.string (tx d)] 37))
 have R1:=NW ((af.new w 39 [.int .i64 sd,.string (tx a),.string (tx b),.string (tx c),.string (tx d)]).ext ((Below.refl _ _).alloc (NZ _) (.cells #[.string (tx a),.string (tx b),.string (tx c),.string (tx d)] 37)))
 have r2:=af.new (w.alloc (.cells #[.int .i64 sd,.string (tx a),.string (tx b),.string (tx c),.string (tx d)] 39)) 37 [.string (tx a),.string (tx b),.string (tx c),.string (tx d)]
 rw[Oi] at r2
 have hsl:bC 1 _ _ (N3 ⟨w.heap.size+1,0,N0⟩) 4 (yt [a,b,c,d]):=⟨Ow,OE,fun _=>⟨w.heap.size+1,0,rfl,r2.lt,fun i hi j hj=>by
  obtain rfl:j=0:=Ot
  simp at hi
  rw[r2.cell,Nat.one_mul,Nat.zero_add,Nat.add_zero]
  rcases(show i=0∨i=1∨i=2∨i=3 by omega) with rfl|rfl|rfl|rfl<;>rfl⟩⟩
 have KN:=NW (uT _ _ 4 [a,b,c,d] hsl (by simp;exact⟨l1,r1,w1,h1⟩) (HM.out.below E2.out (NZ _)) (HT.out.below E2.out (NZ _)))
 have HF:=NW (show qi ⟨sd,a,b,c,d⟩=if gS [a,b,c,d]≠0 then gS [a,b,c,d] else if 0≤(fk a b).1∨0≤(fk c d).1 then 10 else 0 from rfl)
 have hno:=NW (fun h=>zX (a:=a) (b:=b) (c:=c) (d:=d) h)
 clear hm ht r2 hsl
 obtain⟨n,hn⟩:∃n,gS [a,b,c,d]=n:=⟨_,rfl⟩
 rw[hn] at KN HF hno
 clear hn
 by_cases hn0:n=0
 ·obtain⟨ca,cb,cc,cd⟩:=hno.out hn0
  have K1:=NW (fun(W:NY) (h:Ext w W)=>fH a b W l1 r1 ca cb (HM.out.below h (NZ _)) (HT.out.below h (NZ _)))
  have K2:=NW (fun(W:NY) (h:Ext w W)=>fH c d W w1 h1 cc cd (HM.out.below h (NZ _)) (HT.out.below h (NZ _)))
  have HG:=NW (show qi ⟨sd,a,b,c,d⟩=if 0≤(fk a b).1∨0≤(fk c d).1 then 10 else 0 by rw[HF.out,if_neg (fun h=>h hn0)])
  subst hn0
  obtain⟨x,hx⟩:∃x,(fk a b).1=x:=⟨_,rfl⟩
  obtain⟨y,hy⟩:∃y,(fk c d).1=y:=⟨_,rfl⟩
  rw[hx,hy] at HG
  simp only[hx] at K1
  simp only[hy] at K2
  clear hx hy ca cb cc cd
  by_cases hx0:0≤x
  ·have tx0:decide (0≤x)=Oc:=by rw[decide_eq_true_eq];exact hx0
   have HV:=NW (show qi ⟨sd,a,b,c,d⟩=10 by rw[HG.out,if_pos (.inl hx0)])
   go_enter func159,ntmps159
   go_wp2_with(first
    |(go_at_call 202;go_must(refine KN.out.mono ?_);rintro e W1 ⟨rfl,hX1⟩;have q1:=fun i=>(R1.out.ext hX1).cell i;have HX1:=NW (Ext.tr E2.out hX1);clear hX1)
    |(go_at_call 203;((with_reducible refine(K1.out _ HX1.out).mono ?_);rintro e W2 ⟨rfl,hX2⟩)))
   go_ret
   exact⟨OT,Ext.tr HX1.out hX2⟩
  ·have tx0:decide (0≤x)=N1:=by rw[decide_eq_false_iff_not];exact hx0
   by_cases hy0:0≤y
   ·have ty0:decide (0≤y)=Oc:=by rw[decide_eq_true_eq];exact hy0
    have HV:=NW (show qi ⟨sd,a,b,c,d⟩=10 by rw[HG.out,if_pos (.inr hy0)])
    go_enter func159,ntmps159
    go_wp2_with(first
     |(go_at_call 202;go_must(refine KN.out.mono ?_);rintro e W1 ⟨rfl,hX1⟩;have q1:=fun i=>(R1.out.ext hX1).cell i;have HX1:=NW (Ext.tr E2.out hX1);have HR:=NW (R1.out.ext hX1);clear hX1)
     |(go_at_call 203;((with_reducible refine(K1.out _ HX1.out).mono ?_);rintro e W2 ⟨rfl,hX2⟩;have q2:=fun i=>(HR.out.ext hX2).cell i;have HX2:=NW (Ext.tr HX1.out hX2);clear hX2))
     |(go_at_call 203;((with_reducible refine(K2.out _ HX2.out).mono ?_);rintro e W3 ⟨rfl,hX3⟩)))
    go_ret
    exact⟨OT,Ext.tr HX2.out hX3⟩
   ·have ty0:decide (0≤y)=N1:=by rw[decide_eq_false_iff_not];exact hy0
    have HV:=NW (show qi ⟨sd,a,b,c,d⟩=0 by rw[HG.out,if_neg Ot])
    go_enter func159,ntmps159
    go_wp2_with(first
     |(go_at_call 202;go_must(refine KN.out.mono ?_);rintro e W1 ⟨rfl,hX1⟩;have q1:=fun i=>(R1.out.ext hX1).cell i;have HX1:=NW (Ext.tr E2.out hX1);have HR:=NW (R1.out.ext hX1);clear hX1)
     |(go_at_call 203;((with_reducible refine(K1.out _ HX1.out).mono ?_);rintro e W2 ⟨rfl,hX2⟩;have q2:=fun i=>(HR.out.ext hX2).cell i;have HX2:=NW (Ext.tr HX1.out hX2);clear hX2))
     |(go_at_call 203;((with_reducible refine(K2.out _ HX2.out).mono ?_);rintro e W3 ⟨rfl,hX3⟩)))
    go_ret
    exact⟨OT,Ext.tr HX2.out hX3⟩
 ·have HV:=NW (show qi ⟨sd,a,b,c,d⟩=n by rw[HF.out,if_pos hn0])
  have tn:(n !=0)=Oc:=by rw[bne_iff_ne];exact hn0
  clear hn0
  go_enter func159,ntmps159
  go_wp2_with(go_at_call 202;go_must(refine KN.out.mono ?_);rintro e W1 ⟨rfl,hX1⟩)
  go_ret
  exact⟨OT,Ext.tr E2.out hX1⟩
end
section
open Kp
noncomputable def FH(l:List jD):Bool:= !dt (fun i=>dt (fun k=>yk (l.getD i fK) (l.getD k fK)) i) l.length
noncomputable def jJ(l:List jD):Bool×Int:=
 if 32<l.length then(N1,4) else if aQ (fun i=>qi (l.getD i fK)) l.length≠0 then(N1,aQ (fun i=>qi (l.getD i fK)) l.length) else(FH l,0)
theorem Jr(a b:jD)(s p q r t:Bool)(h1:(a.side==b.side)=s)(h2:decide ((fk a.left b.right).1<0)=p)(h3:decide ((fk b.left a.right).1<0)=q)(h4:decide ((fk a.low b.high).1<0)=r)(h5:decide ((fk b.low a.high).1<0)=t):yk a b=(s&&p&&q&&r&&t):=by
 unfold yk;rw[h1,h2,h3,h4,h5]
theorem tH(a b:jD)(w:NY)(ha:Ht a)(hb:Ht b)(hm:fl w)(ht:aL w):Of prog 160 #[.agg (qg a).toArray,.agg (qg b).toArray] w fun e w'=>e= .returned (.bool (yk a b))∧Ext w w':=by
 obtain⟨l1,r1,w1,h1,l2,r2,w2,h2⟩:=ha
 obtain⟨m1,s1,x1,i1,m2,s2,x2,i2⟩:=hb
 have HM:=NW hm
 have HT:=NW ht
 have K1:=NW (fun(W:NY) (h:Ext w W)=>fH a.left b.right W l1 s1 l2 s2 (HM.out.below h (NZ _)) (HT.out.below h (NZ _)))
 have K2:=NW (fun(W:NY) (h:Ext w W)=>fH b.left a.right W m1 r1 m2 r2 (HM.out.below h (NZ _)) (HT.out.below h (NZ _)))
 have K3:=NW (fun(W:NY) (h:Ext w W)=>fH a.low b.high W w1 i1 w2 i2 (HM.out.below h (NZ _)) (HT.out.below h (NZ _)))
 have K4:=NW (fun(W:NY) (h:Ext w W)=>fH b.low a.high W x1 h1 x2 h2 (HM.out.below h (NZ _)) (HT.out.below h (NZ _)))
 have E2:=NW (dI w (.cells (qg a).toArray 39) (.cells (qg b).toArray 39))
 have R1:=NW ((af.new w 39 (qg a)).ext ((Below.refl _ _).alloc (NZ _) (.cells (qg b).toArray 39)))
 have r2':=af.new (w.alloc (.cells (qg a).toArray 39)) 39 (qg b)
 rw[Oi] at r2'
 have R2:=NW r2'
 have HO:=NW (Jr a b)
 clear hm ht r2' l1 r1 w1 h1 l2 r2 w2 h2 m1 s1 x1 i1 m2 s2 x2 i2
 obtain⟨c1,hc1⟩:∃x,(fk a.left b.right).1=x:=⟨_,rfl⟩
 obtain⟨c2,hc2⟩:∃x,(fk b.left a.right).1=x:=⟨_,rfl⟩
 obtain⟨c3,hc3⟩:∃x,(fk a.low b.high).1=x:=⟨_,rfl⟩
 obtain⟨c4,hc4⟩:∃x,(fk b.low a.high).1=x:=⟨_,rfl⟩
 rw[hc1,hc2,hc3,hc4] at HO
 simp only[hc1] at K1
 simp only[hc2] at K2
 simp only[hc3] at K3
 simp only[hc4] at K4
 clear hc1 hc2 hc3 hc4
 obtain⟨sv,t0⟩:∃x,(a.side==b.side)=x:=⟨_,rfl⟩
 obtain⟨p1,t1⟩:∃x,decide (c1<0)=x:=⟨_,rfl⟩
 obtain⟨p2,t2⟩:∃x,decide (c2<0)=x:=⟨_,rfl⟩
 obtain⟨p3,t3⟩:∃x,decide (c3<0)=x:=⟨_,rfl⟩
 obtain⟨p4,t4⟩:∃x,decide (c4<0)=x:=⟨_,rfl⟩
 have HV:=NW (HO.out sv p1 p2 p3 p4 t0 t1 t2 t3 t4)
 cases sv
 ·have HW:=NW (show yk a b=N1 by rw[HV.out];rfl)
  go_enter func160,ntmps160
  go_wp2
  go_ret
  exact⟨by rw[HW.out];rfl,E2.out⟩
 cases p1
 ·have HW:=NW (show yk a b=N1 by rw[HV.out];rfl)
  go_enter func160,ntmps160
  go_wp2_with(go_at_call 203;((with_reducible refine(K1.out _ E2.out).mono ?_);rintro e W1 ⟨rfl,hX1⟩))
  go_ret
  exact⟨by rw[HW.out];rfl,Ext.tr E2.out hX1⟩
 cases p2
 ·have HW:=NW (show yk a b=N1 by rw[HV.out];rfl)
  go_enter func160,ntmps160
  go_wp2_with(first
   |(go_at_call 203;((with_reducible refine(K1.out _ E2.out).mono ?_);rintro e W1 ⟨rfl,hX1⟩;have q1:=fun i=>(R1.out.ext hX1).cell i;have q2:=fun i=>(R2.out.ext hX1).cell i;have HX1:=NW (Ext.tr E2.out hX1);clear hX1))
   |(go_at_call 203;((with_reducible refine(K2.out _ HX1.out).mono ?_);rintro e W2 ⟨rfl,hX2⟩)))
  go_ret
  exact⟨by rw[HW.out];rfl,Ext.tr HX1.out hX2⟩
 cases p3
 ·have HW:=NW (show yk a b=N1 by rw[HV.out];rfl)
  go_enter func160,ntmps160
  go_wp2_with(first
   |(go_at_call 203;((with_reducible refine(K1.out _ E2.out).mono ?_);rintro e W1 ⟨rfl,hX1⟩;have q1:=fun i=>(R1.out.ext hX1).cell i;have q2:=fun i=>(R2.out.ext hX1).cell i;have S1:=NW (R1.out.ext hX1);have S2:=NW (R2.out.ext hX1);have HX1:=NW (Ext.tr E2.out hX1);clear hX1))
   |(go_at_call 203;((with_reducible refine(K2.out _ HX1.out).mono ?_);rintro e W2 ⟨rfl,hX2⟩;have q3:=fun i=>(S1.out.ext hX2).cell i;have q4:=fun i=>(S2.out.ext hX2).cell i;have HX2:=NW (Ext.tr HX1.out hX2);clear hX2))
   |(go_at_call 203;((with_reducible refine(K3.out _ HX2.out).mono ?_);rintro e W3 ⟨rfl,hX3⟩)))
  go_ret
  exact⟨by rw[HW.out];rfl,Ext.tr HX2.out hX3⟩
 cases p4
 all_goals
  go_enter func160,ntmps160
  go_wp2_with(first
   |(go_at_call 203;((with_reducible refine(K1.out _ E2.out).mono ?_);rintro e W1 ⟨rfl,hX1⟩;have q1:=fun i=>(R1.out.ext hX1).cell i;have q2:=fun i=>(R2.out.ext hX1).cell i;have S1:=NW (R1.out.ext hX1);have S2:=NW (R2.out.ext hX1);have HX1:=NW (Ext.tr E2.out hX1);clear hX1))
   |(go_at_call 203;((with_reducible refine(K2.out _ HX1.out).mono ?_);rintro e W2 ⟨rfl,hX2⟩;have q3:=fun i=>(S1.out.ext hX2).cell i;have q4:=fun i=>(S2.out.ext hX2).cell i;have S3:=NW (S1.out.ext hX2);have S4:=NW (S2.out.ext hX2);have HX2:=NW (Ext.tr HX1.out hX2);clear hX2))
   |(go_at_call 203;((with_reducible refine(K3.out _ HX2.out).mono ?_);rintro e W3 ⟨rfl,hX3⟩;have q5:=fun i=>(S3.out.ext hX3).cell i;have q6:=fun i=>(S4.out.ext hX3).cell i;have HX3:=NW (Ext.tr HX2.out hX3);clear hX3))
   |(go_at_call 203;((with_reducible refine(K4.out _ HX3.out).mono ?_);rintro e W4 ⟨rfl,hX4⟩)))
  go_ret
  exact⟨OT,Ext.tr HX3.out hX4⟩
end
section
open Kp
theorem qn(w:NY)(A:Option Addr)(cap:Nat)(l:List jD)(hl:bC 5 w w.heap.size A cap (aO l))(hs:∀o∈l,uk o)(hm:fl w)(ht:aL w):
  Of prog 93 #[.slice A l.length cap] w fun e w'=>e= .returned (.tuple #[.bool (jJ l).1,.int .i64 (jJ l).2])∧Ext w w':=by
 obtain⟨h1,h2,h3⟩:=hl
 rw[N9] at h1 h3
 unfold Ol at h2
 by_cases h16:32<l.length
 ·have HR:=NW (show jJ l=(N1,4) by unfold jJ;rw[if_pos h16])
  clear h3 hs hm ht
  go_enter func93,ntmps93
  go_wp2
  go_ret2
  rw[HR.out]
  exact⟨rfl,Ext.an _⟩
 have HR:=NW (show jJ l=if aQ (fun i=>qi (l.getD i fK)) l.length≠0 then(N1,aQ (fun i=>qi (l.getD i fK)) l.length) else(FH l,0) by unfold jJ;rw[if_neg h16])
 have H3:=NW h3
 have HS:=NW (show∀i,i<l.length→uk (l.getD i fK) from fun i hi=>hs _ (by rw[N8,Oa hi];exact List.getElem_mem hi))
 have HM:=NW hm
 have HT:=NW ht
 clear h3 hs hm ht
 go_enter func93,ntmps93
 go_wp2
 go_loopw [16] (fun i wr=>Ng w l.length (fun i=>qi (l.getD i fK)) i wr) (fun i _=>((l.length:Int)-Oh i).toNat)
 case atStart=>exact⟨0,Ot,rfl,Below.refl _ _,fun j hj=>Ot⟩
 case round=>
  obtain⟨k,hk,rfl,hX,hall⟩:=hrel
  have HX:=NW hX
  have HA:=NW hall
  clear hX hall
  by_cases hlt:k<l.length
  ·obtain⟨b,off,rfl,hB,hcell0⟩:=H3.out Ot
   have HC:=NW (fun i hi j hj=>(HX.out.cell (p:=⟨b,off+5*i+j,N0⟩) hB).trans (hcell0 i hi j hj))
   have c0:=HC.out k hlt 0 Ov
   have c1:=HC.out k hlt 1 Ov
   have c2:=HC.out k hlt 2 Ov
   have c3:=HC.out k hlt 3 Ov
   have c4:=HC.out k hlt 4 Ov
   rw[kn hlt,Og] at c0 c1 c2 c3 c4
   rw[Nat.add_zero] at c0
   have hsm:=HS.out k hlt
   obtain⟨o,ho⟩:∃o,l.getD k fK=o:=⟨_,rfl⟩
   rw[ho] at c0 c1 c2 c3 c4 hsm
   have EX:=NW (fun(p:Obj)=>(HX.out.alloc HX.out.size p:Ext w (wr.alloc p)))
   have KS:=NW (fun(p:Obj)=>xc o (wr.alloc p) hsm (HM.out.below (EX.out p) (NZ _)) (HT.out.below (EX.out p) (NZ _)))
   have HF:=NW (show qi (l.getD k fK)=qi o by rw[ho])
   obtain⟨c,hc⟩:∃c,qi o=c:=⟨_,rfl⟩
   rw[hc] at HF
   simp only[hc] at KS
   clear hcell0 HC hsm ho hc
   by_cases hc0:c=0
   ·have HZ:=NW (show∀j,j<k+1→qi (l.getD j fK)=0 from fun j hj=>by
     by_cases hjk:j=k
     ·rw[hjk,HF.out];exact hc0
     ·exact HA.out j Ot)
    subst hc0
    go_wp2_with(go_at_call 159;go_must(refine(KS.out _).mono ?_);rintro e W1 ⟨rfl,hX1⟩)
    exact⟨⟨k+1,Ot,Ow,Ext.tr (EX.out _) hX1,HZ.out⟩,Oy⟩
   ·have HV:=NW (show jJ l=(N1,c) by
     have h1:aQ (fun i=>qi (l.getD i fK)) l.length=c:=by rw[bS hlt HA.out (by show qi (l.getD k fK)≠0;rw[HF.out];exact hc0)];exact HF.out
     rw[HR.out,h1,if_pos hc0])
    have tc:(c !=0)=Oc:=PD
    go_wp2_with(go_at_call 159;go_must(refine(KS.out _).mono ?_);rintro e W1 ⟨rfl,hX1⟩)
    go_ret2
    rw[HV.out]
    exact⟨rfl,Ext.tr (EX.out _) hX1⟩
  ·have hlt':decide ((k:Int)<(l.length:Int))=N1:=Oz
   have HD:=NW (show jJ l=(FH l,0) by
    have h1:aQ (fun i=>qi (l.getD i fK)) l.length=0:=bW (fun j hj=>HA.out j Ot)
    rw[HR.out,h1,if_neg (fun h=>h rfl)])
   have HOK:=NW (show∀i,i<l.length→Ht (l.getD i fK) from fun i hi=>Hl (HS.out i hi) (HA.out i Ot))
   clear hk
   go_wp2
   go_loopw [28] (fun i wr=>∃m:Nat,m≤l.length∧i= .int .i64 (m:Int)∧Ext w wr∧∀j,j<m→dt (fun k=>yk (l.getD j fK) (l.getD k fK)) j=N1) (fun i _=>((l.length:Int)-Oh i).toNat)
   case atStart=>exact⟨0,Ot,rfl,HX.out,fun j hj=>Ot⟩
   case round=>
    clear HX HA
    obtain⟨m,hm,rfl,hX,hall⟩:=hrel
    have HX:=NW hX
    have HA:=NW hall
    clear hX hall
    by_cases hlm:m<l.length
    ·obtain⟨b,off,rfl,hB,hcell0⟩:=H3.out Ot
     have HC0:=NW hcell0
     have HC:=NW (fun i hi j hj=>(HX.out.cell (p:=⟨b,off+5*i+j,N0⟩) hB).trans (hcell0 i hi j hj))
     have c0:=HC.out m hlm 0 Ov
     have c1:=HC.out m hlm 1 Ov
     have c2:=HC.out m hlm 2 Ov
     have c3:=HC.out m hlm 3 Ov
     have c4:=HC.out m hlm 4 Ov
     rw[kn hlm,Og] at c0 c1 c2 c3 c4
     rw[Nat.add_zero] at c0
     have hok:=HOK.out m hlm
     obtain⟨o,ho⟩:∃o,l.getD m fK=o:=⟨_,rfl⟩
     rw[ho] at c0 c1 c2 c3 c4 hok
     have HO:=NW ho
     have HOKM:=NW hok
     have RM:=NW (af.new wr 39 (qg o))
     have EM:=NW (show Ext wr (wr.alloc (.cells (qg o).toArray 39)) from(Below.refl _ _).alloc (NZ _) _)
     have hmc:m≤cap:=Ot
     clear hcell0 HC ho hok
     go_wp2
     obtain⟨w1,hw1⟩:∃w1,wr.alloc (.cells (qg o).toArray 39)=w1:=⟨_,rfl⟩
     rw[hw1] at RM EM
     simp only[hw1]
     clear hw1 c0 c1 c2 c3 c4
     go_loopw [37] (fun q wq=>∃k:Nat,k≤m∧q= .int .i64 (k:Int)∧Ext w1 wq∧∀j,j<k→yk (l.getD m fK) (l.getD j fK)=N1) (fun q _=>((m:Int)-Oh q).toNat)
     case atStart=>exact⟨0,Ot,rfl,Below.refl _ _,fun j hj=>Ot⟩
     case round=>
      obtain⟨q,hq,rfl,hX,hall⟩:=hrel
      have HY:=NW (Ext.tr (Ext.tr HX.out EM.out) hX)
      have r1:=RM.out.ext hX
      have HA':=NW hall
      have HXq:=NW hX
      clear hX hall
      by_cases hlq:q<m
      ·have hqL:q<l.length:=Ot
       have HC:=NW (fun i hi j hj=>(HY.out.cell (p:=⟨b,off+5*i+j,N0⟩) hB).trans (HC0.out i hi j hj))
       have d0:=HC.out q hqL 0 Ov
       have d1:=HC.out q hqL 1 Ov
       have d2:=HC.out q hqL 2 Ov
       have d3:=HC.out q hqL 3 Ov
       have d4:=HC.out q hqL 4 Ov
       rw[kn hqL,Og] at d0 d1 d2 d3 d4
       rw[Nat.add_zero] at d0
       have hok2:=HOK.out q hqL
       obtain⟨u,hu⟩:∃u,l.getD q fK=u:=⟨_,rfl⟩
       rw[hu] at d0 d1 d2 d3 d4 hok2
       have EX:=NW (fun(p:Obj)=>(HY.out.alloc HY.out.size p:Ext w (wr.alloc p)))
       have KO:=NW (fun(p:Obj)=>tH o u (wr.alloc p) HOKM.out hok2 (HM.out.below (EX.out p) (NZ _)) (HT.out.below (EX.out p) (NZ _)))
       have HF:=NW (show yk (l.getD m fK) (l.getD q fK)=yk o u by rw[hu,HO.out])
       obtain⟨x,hx⟩:∃x,yk o u=x:=⟨_,rfl⟩
       rw[hx] at HF
       simp only[hx] at KO
       have e0:=r1.cell 0
       have e1:=r1.cell 1
       have e2:=r1.cell 2
       have e3:=r1.cell 3
       have e4:=r1.cell 4
       have ez:=r1.lt
       have HXa:=NW (fun(p:Obj)=>(HXq.out.alloc HXq.out.size p:Ext w1 (wr.alloc p)))
       clear HC hok2 hu hx r1
       cases x
       ·have HZ:=NW (show∀j,j<q+1→yk (l.getD m fK) (l.getD j fK)=N1 from fun j hj=>by
         by_cases hjk:j=q
         ·rw[hjk];exact HF.out
         ·exact HA'.out j Ot)
        go_wp2_with(go_at_call 160;go_must(refine(KO.out _).mono ?_);rintro e W1 ⟨rfl,hX1⟩)
        exact⟨⟨q+1,Ot,Ow,Ext.tr (HXa.out _) hX1,HZ.out⟩,Oy⟩
       ·have HV:=NW (show jJ l=(N1,0) by
         rw[HD.out];unfold FH;rw[eX (p:=fun i=>dt (fun k=>yk (l.getD i fK) (l.getD k fK)) i) hlm (eX (p:=fun k=>yk (l.getD m fK) (l.getD k fK)) hlq HF.out)];rfl)
        go_wp2_with(go_at_call 160;go_must(refine(KO.out _).mono ?_);rintro e W1 ⟨rfl,hX1⟩)
        go_ret2
        rw[HV.out]
        exact⟨rfl,Ext.tr (EX.out _) hX1⟩
      ·obtain rfl:q=m:=Ot
       have hlt3:decide ((q:Int)<(q:Int))=N1:=Oz
       clear r1
       go_wp2
       refine⟨⟨q+1,Ot,Ow,HY.out,fun j hj=> ?_⟩,Oy⟩
       by_cases hjk:j=q
       ·rw[hjk];exact dJ HA'.out
       ·exact HA.out j Ot
    ·have hlm':decide ((m:Int)<(l.length:Int))=N1:=Oz
     have HV:=NW (show jJ l=(Oc,0) by
      rw[HD.out];unfold FH;rw[dJ (fun j hj=>HA.out j Ot)];rfl)
     go_wp2
     go_ret2
     rw[HV.out]
     exact⟨rfl,HX.out⟩
end
section
open Kp
def gm(p:Nat→Bool):Nat→Int
 |0=> -1
 |n+1=>if gm p n= -1 then(if p n then(n:Int) else -1) else gm p n
theorem rF{p:Nat→Bool}{n:Nat}(h:∀i,i<n→p i=N1):gm p n= -1:=by
 induction n with
 |zero=>rfl
 |succ n ih=>rw[gm,if_pos (ih fun i hi=>h i Ot),h n Ot];rfl
theorem Ie{p:Nat→Bool}{n k:Nat}(hk:k<n)(h:∀i,i<k→p i=N1)(hp:p k=Oc):gm p n=(k:Int):=by
 induction n with
 |zero=>omega
 |succ n ih=>
  rw[gm]
  by_cases hkn:k=n
  ·subst hkn;rw[if_pos (rF h),if_pos hp]
  ·rw[ih Ot,if_neg Ot]
theorem Eg(p:Nat→Bool)(n:Nat):decide (0≤gm p n)=dt p n:=by
 induction n with
 |zero=>rfl
 |succ n ih=>
  rw[gm,dt,←ih]
  by_cases h:gm p n= -1
  ·rw[if_pos h,h]
   cases p n
   ·rfl
   ·show decide ((0:Int)≤(n:Int))=Oc
    rw[decide_eq_true_eq];omega
  ·rw[if_neg h]
   have:∀m,gm p m= -1∨0≤gm p m:=by
    intro m
    induction m with
    |zero=>exact .inl rfl
    |succ m ih=>
     rw[gm]
     by_cases hm:gm p m= -1
     ·rw[if_pos hm]
      cases p m
      ·exact .inl rfl
      ·exact .inr (by show(0:Int)≤(m:Int);omega)
     ·rw[if_neg hm];exact ih
   have h0:0≤gm p n:=(this n).resolve_left h
   simp[h0]
def Nt(l:List N2):Nat→N2
 |1=>l.headD N7
 |_=> .agg l.toArray
def sH(g:Nat)(lb:Array N2)(k:Nat)(rows:List (List N2))(p:Nat→Bool)(w:NY):Prop:=
 ∀(W:NY) (i:Nat),i<rows.length→Ext w W→Of prog g (#[Nt (rows.getD i []) k]++lb) W fun e w'=>e= .returned (.bool (p i))∧Ext W w'
def NR(w:NY)(p:Nat→Bool)(n:Nat)(i:N2)(wr:NY):Prop:=∃k:Nat,k≤n∧i= .int .i64 (k:Int)∧Ext w wr∧∀j,j<k→p j=N1
theorem G4{w wr:NY}{b o:Nat}{v:Option N2}(hX:Ext w wr)(hB:b<w.heap.size)(h:w.cell? ⟨b,o,N0⟩=v):wr.cell? ⟨b,o,N0⟩=v:=(hX.cell (p:=⟨b,o,N0⟩) hB).trans h
def G9(f k:Nat):Prop:=∀(w:NY) (A:Option Addr) (cap n:Nat) (rows:List (List N2)),rows.length=n→bC k w w.heap.size A cap rows→cG k rows→∀(p:Nat→Bool) (g:Nat) (lb:Array N2),
  (∀args w,(callFunc g args).run prog w= .ok (.enter g args) w)→sH g lb k rows p w→
  Of prog f #[.slice A n cap,.func (.func g) #[] lb] w fun e w'=>e= .returned (.int .i64 (gm p n))∧Ext w w'
def Kv(f k:Nat):Prop:=∀(w:NY) (A:Option Addr) (cap n:Nat) (rows:List (List N2)),rows.length=n→bC k w w.heap.size A cap rows→cG k rows→∀(p:Nat→Bool) (g:Nat) (lb:Array N2),
  (∀args w,(callFunc g args).run prog w= .ok (.enter g args) w)→sH g lb k rows p w→
  Of prog f #[.slice A n cap,.func (.func g) #[] lb] w fun e w'=>e= .returned (.bool (dt p n))∧Ext w w'
theorem nT{p:Prop}(h:p:=by
  obtain⟨h1,h2,h3⟩:=hl
  rw[hn] at h1 h3
  unfold Ol at h2
  have H3:=NW h3
  have HN:=NW hn
  have HP:=NW hp
  clear h3 hn hp
  go_wp2
  go_loopw [5,8] (fun _ i wr=>NR w p n i wr) (fun _ i _=>((n:Int)-Oh i).toNat)
  case atStart=>exact⟨0,Ot,rfl,Below.refl _ _,fun j hj=>Ot⟩
  case round=>
   obtain⟨i,hi,rfl,hX,hall⟩:=hrel
   have HX:=NW hX
   have HA:=NW hall
   clear hX hall
   by_cases hlt:i<n
   ·obtain⟨b,off,rfl,hB,hcell0⟩:=H3.out Ot
    have hcell:=fun i hi j hj=>G4 HX.out hB (hcell0 i hi j hj)
    have hcall:=HP.out wr i (by rw[HN.out];exact hlt) HX.out
    have hi':i<rows.length:=by rw[HN.out];exact hlt
    have hw1:=hwd _ (List.getElem_mem hi')
    obtain⟨row,hrow⟩:∃row,rows.getD i []=row:=⟨_,rfl⟩
    rw[show rows[i]=row by rw[←hrow,N8,Oa hi'];rfl] at hw1
    rw[hrow] at hcall
    try(have c0:=hcell i hlt 0 Ov;rw[hrow,Og] at c0)
    try(have c1:=hcell i hlt 1 Ov;rw[hrow,Og] at c1)
    try(have c2:=hcell i hlt 2 Ov;rw[hrow,Og] at c2)
    try(have c3:=hcell i hlt 3 Ov;rw[hrow,Og] at c3)
    try(have c4:=hcell i hlt 4 Ov;rw[hrow,Og] at c4)
    try(have c5:=hcell i hlt 5 Ov;rw[hrow,Og] at c5)
    try(have c6:=hcell i hlt 6 Ov;rw[hrow,Og] at c6)
    simp only[Nat.mul_one,Nat.add_zero] at c0
    clear hcell hcell0 hrow hi'
    rcases row with _|⟨x0,_|⟨x1,_|⟨x2,_|⟨x3,_|⟨x4,_|⟨x5,_|⟨x6,_|⟨x7,r⟩⟩⟩⟩⟩⟩⟩⟩<;>first|(exfalso;simp only[List.length_cons,List.length_nil] at hw1;omega)|skip
    simp only[Nt,List.headD_cons] at hcall
    have HC:=NW hcall
    clear hcall hw1
    cases hq:p i
    ·rw[hq] at HC
     have HQ:=NW hq
     clear hq
     go_wp2_with(go_at_fn g;refine HC.out.mono ?_;rintro e w' ⟨rfl,hb'⟩)
     refine⟨⟨i+1,Ot,Ow,HX.out.tr hb',fun j hj=> ?_⟩,Oy⟩
     by_cases hjk:j=i
     ·rw[hjk];exact HQ.out
     ·exact HA.out j Ot
    ·rw[hq] at HC
     have HR:=NW (Ie hlt HA.out hq)
     clear hq
     go_wp2_with(go_at_fn g;refine HC.out.mono ?_;rintro e w' ⟨rfl,hb'⟩)
     go_ret
     exact⟨OA,HX.out.tr hb'⟩
   ·have hlt':decide ((i:Int)<(n:Int))=N1:=Oz
    have HR:=NW (rF (p:=p) (n:=n) (fun j hj=>HA.out j Ot))
    go_wp2
    go_ret
    exact⟨OA,HX.out⟩):p:=h
theorem pF{p:Prop}(h:p:=by
  have HR:=NW (Eg p n)
  clear hn hl hwd hp
  obtain⟨x,hx⟩:∃x,gm p n=x:=⟨_,rfl⟩
  rw[hx] at HC HR
  clear hx
  go_wp2_with(refine HC.out.mono ?_;rintro e w' ⟨rfl,hb'⟩)
  go_ret
  exact⟨by rw[←HR.out];rfl,hb'⟩):p:=h
theorem sO:G9 146 7:=by
 intro w A cap n rows hn hl hwd p g lb eg hp
 go_enter func146,ntmps146
 exact nT
theorem uH:Kv 83 7:=by
 intro w A cap n rows hn hl hwd p g lb eg hp
 have HC:=NW (sO w A cap n rows hn hl hwd p g lb eg hp)
 go_enter func83,ntmps83
 exact pF
theorem ud:G9 149 1:=by
 intro w A cap n rows hn hl hwd p g lb eg hp
 go_enter func149,ntmps149
 exact nT
theorem tI:Kv 87 1:=by
 intro w A cap n rows hn hl hwd p g lb eg hp
 have HC:=NW (ud w A cap n rows hn hl hwd p g lb eg hp)
 go_enter func87,ntmps87
 exact pF
theorem tP:G9 161 5:=by
 intro w A cap n rows hn hl hwd p g lb eg hp
 go_enter func161,ntmps161
 exact nT
theorem tW:Kv 95 5:=by
 intro w A cap n rows hn hl hwd p g lb eg hp
 have HC:=NW (tP w A cap n rows hn hl hwd p g lb eg hp)
 go_enter func95,ntmps95
 exact pF
theorem uK:G9 131 3:=by
 intro w A cap n rows hn hl hwd p g lb eg hp
 go_enter func131,ntmps131
 exact nT
end
section
open Kp
theorem mo:(prog.info? 36).map (fun i=>(i.zero,i.size,i.bytes))=N3 (N3 (.agg #[.int .i64 0,.int .i64 0,.int .i64 0,.int .i64 0,.bool N1,.int .i64 0,.int .i64 0]),7,56):=Ou
theorem CP(n:Nat)(w:NY)(hn:n≤1000000):Of prog 147 #[.slice N0 0 0,.int .i64 (n:Int)] w fun e w'=>∃v,e= .returned v∧w'.ownsRow w.heap.size 36 7 v 0 []∧Ext w w':=by
 obtain⟨i0,hi0,hz0,hz1,hz2⟩:=info_parts mo
 by_cases h0:0<n
 ·have hr:=fun ty=>Lib.run_append_nil_zeros (P:=prog) w 73 3 ty 36 i0 _ .i64 .i64 underlying73 underlying3 hi0 hz0 n h0 Ot Ot PQ
  have HO:=NW (NY.ownsRow_made (base:=w.heap.size) (e:=36) (size:=7) w.drew (Builtin.zeroCells (Value.agg #[.int .i64 0,.int .i64 0,.int .i64 0,.int .i64 0,.bool N1,.int .i64 0,.int .i64 0]).cells n++Builtin.zeroCells (Value.agg #[.int .i64 0,.int .i64 0,.int .i64 0,.int .i64 0,.bool N1,.int .i64 0,.int .i64 0]).cells (grownCap w n 0 36-n)) (grownCap w n 0 36) (NZ _) (grownCap_le_maxLen _ _ _ _ OE) (by
   have:=grownCap_ge w n 0 36
   rw[Array.size_append,size_zeroCells,size_zeroCells,←Nat.add_mul]
   have e:n+(grownCap w n 0 36-n)=grownCap w n 0 36:=Ot
   rw[e];rfl))
  have HX:=NW (show Ext w (w.drew.alloc (.cells (Builtin.zeroCells (Value.agg #[.int .i64 0,.int .i64 0,.int .i64 0,.int .i64 0,.bool N1,.int .i64 0,.int .i64 0]).cells n++Builtin.zeroCells (Value.agg #[.int .i64 0,.int .i64 0,.int .i64 0,.int .i64 0,.bool N1,.int .i64 0,.int .i64 0]).cells (grownCap w n 0 36-n)) 36)) from((Below.refl _ _).drew).alloc (NZ _) _)
  obtain⟨W1,hW1⟩:∃W1,w.drew.alloc (.cells (Builtin.zeroCells (Value.agg #[.int .i64 0,.int .i64 0,.int .i64 0,.int .i64 0,.bool N1,.int .i64 0,.int .i64 0]).cells n++Builtin.zeroCells (Value.agg #[.int .i64 0,.int .i64 0,.int .i64 0,.int .i64 0,.bool N1,.int .i64 0,.int .i64 0]).cells (grownCap w n 0 36-n)) 36)=W1:=⟨_,rfl⟩
  have hge:=grownCap_ge w n 0 36
  obtain⟨cp,hcp⟩:∃cp,grownCap w n 0 36=cp:=⟨_,rfl⟩
  rw[hcp] at hge
  simp only[hcp] at HO HX hW1 hr
  simp only[hW1] at HO HX hr
  have HH:=NW hr
  clear hr hi0 hz0 hz1 hz2 hcp hW1
  go_enter func147,ntmps147
  go_wp2_with(at_builtin;refine Lib.wpList_append_run _ rfl _ _ _ _ rfl _ _ rfl rfl _ _ (HH.out _) ?_)
  go_ret
  exact⟨_,rfl,HO.out,HX.out⟩
 ·obtain rfl:n=0:=Ot
  have HO:=NW (World.ownsRow_nil w w.heap.size 36 7)
  clear hi0 hz0 hz1 hz2 h0 hn
  go_enter func147,ntmps147
  go_wp2
  go_ret
  exact⟨_,rfl,HO.out,Ext.an _⟩
theorem cK{rs:List (List Sd)}{k:Nat}(hk:k<rs.length):(rs.take (k+1)).flatten=(rs.take k).flatten++rs.getD k []:=by
 rw[List.take_succ_eq_append_getElem hk,List.flatten_append]
 simp[List.getD,Oa hk]
theorem dF(rs:List (List Sd))(k:Nat):(rs.take k).flatten.length≤rs.flatten.length:=by
 have:rs.flatten=(rs.take k).flatten++(rs.drop k).flatten:=PG
 rw[this,List.length_append];omega
def No(w:NY)(rs:List (List Sd))(v i:N2)(wr:NY):Prop:=
 ∃k:Nat,k≤rs.length∧i= .int .i64 (k:Int)∧wr.ownsRow w.heap.size 36 7 v (rs.take k).flatten.length (ak (rs.take k).flatten).flatten∧Ext w wr
def NN(rs:List (List Sd))(s i:N2):Prop:=∃k:Nat,k≤rs.length∧i= .int .i64 (k:Int)∧s= .int .i64 ((rs.take k).flatten.length:Int)
theorem nG(w:NY)(A:Option Addr)(cap:Nat)(rs:List (List Sd))(hr:dR w w.heap.size A cap rs)(hne:∀r∈rs,r≠[])(hlen:rs.flatten.length≤1000):
  Of prog 84 #[.slice A rs.length cap] w fun e w'=>∃A' cap',e= .returned (.slice A' rs.flatten.length cap')∧bC 7 w' w'.heap.size A' cap' (ak rs.flatten)∧Ext w w':=by
 have h1:=hr.1
 have h2:=hr.2.1
 unfold Ol at h2
 obtain⟨i0,hi0,hz0,hz1,hz2⟩:=info_parts mo
 have I0:=NW hi0
 have I1:=NW hz0
 have I2:=NW hz1
 have I3:=NW hz2
 have HR:=NW hr
 clear hr hi0 hz0 hz1 hz2
 go_enter func84,ntmps84
 go_wp2
 go_loop [3,11] (fun s i=>NN rs s i) (fun _ i=>((rs.length:Int)-Oh i).toNat)
 case atStart=>exact⟨0,Ot,rfl,Ow⟩
 case round=>
  obtain⟨k,hk,rfl,rfl⟩:=hrel
  by_cases hlt:k<rs.length
  ·obtain⟨b,off,rfl,hB,hcell⟩:=HR.out.2.2 Ot
   obtain⟨Ai,ci,c1,hsl⟩:=hcell k hlt
   have hq:=cK hlt
   have hle:=dF rs (k+1)
   have hq2:((rs.take (k+1)).flatten.length:Int)=((rs.take k).flatten.length:Int)+((rs.getD k []).length:Int):=by rw[hq];simp
   obtain⟨m,hm⟩:∃m,(rs.take k).flatten.length=m:=⟨_,rfl⟩
   obtain⟨d,hd⟩:∃d,(rs.getD k []).length=d:=⟨_,rfl⟩
   rw[hd] at c1
   have hs:m+d≤1000:=by rw[hm,hd] at hq2;omega
   rw[hm]
   have HQ:=NW hq2
   have HM:=NW hm
   have HD:=NW hd
   clear hcell hsl hq hq2 hm hd hle
   go_wp2
   go_round
   case rel=>exact⟨k+1,Ot,by go_num,by rw[HQ.out,HM.out,HD.out]⟩
   case measure=>simp[Oh];omega
  ·obtain rfl:k=rs.length:=Ot
   have ht:(rs.take rs.length).flatten.length=rs.flatten.length:=by rw[List.take_length]
   rw[ht]
   clear ht
   obtain⟨m,hm⟩:∃m,rs.flatten.length=m:=⟨_,rfl⟩
   rw[hm] at hlen⊢
   have HM:=NW hm
   clear hm
   go_wp2_with(go_at_call 147;go_must(refine(CP m _ Ot).mono ?_);rintro e W1 ⟨v,rfl,ho,hx⟩;have HO:=NW ho;have HX:=NW hx;clear ho hx)
   go_loopw [6,27] (fun v i wr=>No w rs v i wr) (fun _ i _=>((rs.length:Int)-Oh i).toNat)
   case atStart=>exact⟨0,Ot,rfl,by simpa using HO.out,HX.out⟩
   case round=>
    obtain⟨k,hk,rfl,hown,hX⟩:=hrel
    have HOW:=NW hown
    have HXW:=NW hX
    clear hown hX
    by_cases hlt:k<rs.length
    ·obtain⟨b,off,rfl,hB,hcell⟩:=(HR.out.below HXW.out).2.2 Ot
     obtain⟨Ai,ci,c1,hsl⟩:=hcell k hlt
     have hrne:rs.getD k []≠[]:=by
      have e:rs.getD k []=rs[k]:=by rw[N8,Oa hlt];rfl
      rw[e];exact hne _ (List.getElem_mem hlt)
     have hq:=cK hlt
     have hle:=dF rs (k+1)
     obtain⟨ring,hring⟩:∃ring,rs.getD k []=ring:=⟨_,rfl⟩
     rw[hring] at c1 hsl hrne hq
     have hpos:0<ring.length:=List.length_pos_iff.2 hrne
     obtain⟨ba,oa,rfl,_,_⟩:=id (hsl.2.2 (by rw[N9];exact hpos))
     have hnews:=NW (hsl.cells (cL ring) Ov)
     have hfl:=NW (show(ak ring).flatten.length=ring.length*7 by rw[aM (cL ring),N9])
     have hlen2:(rs.take k).flatten.length+ring.length≤1000:=by rw[hq,List.length_append] at hle;rw[HM.out] at hle;omega
     have hone:=NW (show∀u∈(ak ring).flatten,u.oneCell'=Oc by
      intro u hu
      obtain⟨r,hr,hur⟩:=List.mem_flatten.1 hu
      obtain⟨s,_,rfl⟩:=List.mem_map.1 hr
      simp only[List.mem_cons,List.not_mem_nil,or_false] at hur
      rcases hur with rfl|rfl|rfl|rfl|rfl|rfl|rfl<;>rfl)
     have HQ:=NW hq
     have hbase:=HXW.out.size
     clear hcell hsl hrne hq hle hring
     go_wp2_with(at_builtin;(refine wpList_append_own _ rfl _ _ _ rfl w.heap.size 36 i0 _ 7 56 underlying73 I0.out I1.out I2.out I3.out rfl Ot _ _ _ rfl HOW.out ⟨ba,oa,N0⟩ ring.length ci (ak ring).flatten rfl hfl.out hnews.out hone.out OE Ot hbase ?_);intro v' w' hown' hgr' hnil)
     refine⟨⟨k+1,Ot,Ow,?_,eM HXW.out hgr' (fun q hq=>(aE HOW.out q hq).1)⟩,Oy⟩
     rw[HQ.out,ak,List.map_append,List.flatten_append,List.length_append]
     exact hown'
    ·obtain rfl:k=rs.length:=Ot
     have ho:=HOW.out
     rw[List.take_length] at ho
     obtain⟨A',cap',rfl,hsl⟩:=aS ho (by rw[N9]) (cL _)
     have HS:=NW hsl
     have hmm:=HM.out
     clear ho hsl
     go_wp2
     go_ret
     exact⟨A',cap',by rw[hmm];rfl,HS.out,HXW.out⟩
end
section
variable {P : Program} {ops : Array Oper} {Q : Exit → Act → NY → Prop} {md : Region.Mode}
abbrev gd(L:Nat→Bool)(i:Nat):Nat→Bool:=fun j=>if j=i then Oc else L j
abbrev bw(vs:Nat→N2)(i:Nat)(v:N2):Nat→N2:=fun j=>if j=i then v else vs j
theorem sA{listed:Array Bool}{i:Nat}(h:i<listed.size):(fun j=>(listed.setIfInBounds i Oc).getD j N1)=gd (fun j=>listed.getD j N1) i:=by
 funext j
 unfold gd
 by_cases hji:j=i
 ·subst hji;simp[h]
 ·rw[if_neg hji,getD_set_ne N1 (Ne.symm hji)]
theorem mI{Fc:Fence}{mm:Nat}(hP:gP P Fc mm)(hnd:fO ops=Oc){n:Nat}{tl:List Oper}(F:(Nat→N2)→Act)(I:(Nat→Bool)→(Nat→N2)→NY→Prop)
  (hs:Region.sinkB md ops n=Oc)(hc:Region.chainB md ops n=Oc)(hn:n<ops.size)
  (hseq:Region.seqB md ops (ops.size-n) n (Array.replicate n Oc++Array.replicate (ops.size-n) N1)=Oc)(hlex:E8 ops n=Oc)
  (htl:tl.length=ops.size-n)(htl':∀j,tl[j]?=ops[n+j]?)
  (step:∀i o L vs w,i<n→ops[i]?=N3 o→L i=N1→I L vs w→(∀e∈o.after,Region.binds md e=Oc→L e.on=Oc)→
   wpOp P ops JI i (fun a' w'=>∃v,a'=F (bw vs i v)∧I (gd L i) (bw vs i v) w') (F vs) w)
  (tail:∀L vs w,(∀i,i<n→L i=Oc)→I L vs w→wpListIn Fc mm P ops Q tl (F vs) w):
  ∀(f:Nat) (listed:Array Bool) (vs:Nat→N2) (w:NY),HeadInv md ops n listed→qf listed n=f→I (fun j=>listed.getD j N1) vs w→wpAnyIn Fc mm P md ops Q (f+(ops.size-n)) listed (F vs) w:=by
 intro f
 induction f with
 |zero=>
  intro listed vs w inv hu hI
  have hall:=jX hu
  have he:listed=Array.replicate n Oc++Array.replicate (ops.size-n) N1:=by
   apply Array.ext
   ·simp[inv.size];omega
   ·intro i h1 h2
    rw[inv.size] at h1
    by_cases hi:i<n
    ·have:=hall i hi
     simp[inv.size,h1] at this
     rw[Array.getElem_append_left Pz]
     simp[this]
    ·have:=inv.tail i Ot h1
     simp[inv.size,h1] at this
     rw[Array.getElem_append_right Pz]
     simp[this]
  rw[Nat.zero_add,←htl]
  refine ie hP tl n listed (F vs) w htl' (by rw[htl,he];exact hseq) ?_
  exact tail _ vs w hall hI
 |succ f ih=>
  intro listed vs w inv hu hI
  obtain⟨i0,hi0,hun0,hbef⟩:=nU hu
  have hi0s:i0<listed.size:=Pg
  rw[show f+1+(ops.size-n)=(f+(ops.size-n))+1 by omega]
  refine⟨fun h0=> ?_,fun i hi=> ?_⟩
  ·have ho:ops[i0]?=N3 (ops[i0]'Ot):=Array.getElem?_eq_getElem Ot
   have:i0∈Region.ready md ops listed:=mem_ready.2 ⟨getD_in hi0s hun0,_,ho,fun e he _=>hbef _ (iI hlex hi0 ho e he)⟩
   rw[h0] at this;cases this
  ·have hin:i<n:=by
    rcases Nat.lt_or_ge i n with h|h
    ·exact h
    ·exact absurd hi (tail_waits hs hc hn inv (n-i0) i0 rfl hi0 (getD_in hi0s hun0) i h)
   obtain⟨hun,o,ho,hdep⟩:=mem_ready.1 hi
   have hun':=getD_both hun
   refine wpOpIn_mono ?_ (mR hP hnd (step i o _ vs w hin ho hun' hI (fun e he hb=>hdep e he hb)))
   rintro a' w' ⟨v,rfl,hv⟩
   refine ih _ _ w' (inv.set hi hin) (oe hin Pg hun' hu) ?_
   rw[sA Pg]
   exact hv
theorem uj{Fc:Fence}{mm:Nat}(hP:gP P Fc mm){l:List Oper}(hnd:fO l.toArray=Oc)(n:Nat)(F:(Nat→N2)→Act)(I:(Nat→Bool)→(Nat→N2)→NY→Prop)(hB:Cp l.toArray n=Oc)
  (step:∀i L vs w,i<n→L i=N1→I L vs w→(∀j,Region.waitsFor .any l.toArray i j=Oc→L j=Oc)→
   wpOp P l.toArray JI i (fun a' w'=>∃v,a'=F (bw vs i v)∧I (gd L i) (bw vs i v) w') (F vs) w)
  (tail:∀L vs w,(∀i,i<n→L i=Oc)→I L vs w→wpListIn Fc mm P l.toArray Q (l.drop n) (F vs) w)
  (vs:Nat→N2)(w:NY)(h0:I (fun _=>N1) vs w):wpAnyIn Fc mm P .any l.toArray Q l.toArray.size (Array.replicate l.toArray.size N1) (F vs) w:=by
 simp only[Cp,Bool.and_eq_true,decide_eq_true_eq] at hB
 obtain⟨⟨⟨⟨hn,hs⟩,hc⟩,hseq⟩,hlex⟩:=hB
 have:=mI hP hnd (tl:=l.drop n) F I hs hc hn hseq hlex Ow (fun j=>by simp[List.getElem?_drop])
  (fun i o L vs w hi ho hL hd hdep=>step i L vs w hi hL hd (fun j hj=>by
   obtain⟨oj,hoj,e,he,hb,rfl⟩:=Region.waitsFor_spec hj
   obtain rfl:=Option.some.inj (ho.symm.trans hoj)
   exact hdep e he hb)) tail n (Array.replicate l.toArray.size N1) vs w
  ⟨Ow,fun j oj _ hl=>OS,fun t _ ht=>getD_in (by simpa using ht) (getD_replicate_false _ _)⟩ (ml _ _)
  (by simpa only[getD_replicate_false] using h0)
 rwa[show n+(l.toArray.size-n)=l.toArray.size by omega] at this
end
section
variable {P : Program}
abbrev Gj(D:Nat):Deferred:={target:= .collected D,args:=#[]}
def Mk(n0:Nat)(ds:List Deferred)(W:NY):Prop:=∃Ds:List Nat,Ds.Nodup∧ds=Ds.map Gj∧∀D∈Ds,n0≤D∧W.heap[D]?=N3 (.deferred (N3 []))
theorem Mk.nil(n0:Nat)(W:NY):Mk n0 [] W:=⟨[],List.nodup_nil,rfl,fun _ h=>Ox⟩
theorem Mk.keeps{n0:Nat}{ds:List Deferred}{W W':NY}(h:Mk n0 ds W)(hk:KeepsOthers W W'):Mk n0 ds W':=by
 obtain⟨Ds,h1,h2,h3⟩:=h
 exact⟨Ds,h1,h2,fun D hD=>⟨(h3 D hD).1,hk.same D _ (h3 D hD).2 rfl⟩⟩
theorem Mk.stays{n0:Nat}{ds:List Deferred}{w W W':NY}(h:Mk n0 ds W)(hw:∀D,Gj D∈ds→D<w.heap.size)(hs:al w.heap.size W W'):Mk n0 ds W':=by
 obtain⟨Ds,h1,h2,h3⟩:=h
 subst h2
 exact⟨Ds,h1,rfl,fun D hD=>⟨(h3 D hD).1,(hs.low D (hw D (List.mem_map.2 ⟨D,hD,rfl⟩))).trans (h3 D hD).2⟩⟩
theorem Mk.lt{n0:Nat}{ds:List Deferred}{W:NY}(h:Mk n0 ds W){D:Nat}(hD:Gj D∈ds):D<W.heap.size:=by
 obtain⟨Ds,h1,rfl,h3⟩:=h
 obtain⟨D',hm,e⟩:=List.mem_map.1 hD
 obtain rfl:D'=D:=by injection e with e1;injection e1
 exact(Od.1 (h3 D' hm).2).1
theorem Mk.cons{n0:Nat}{ds:List Deferred}{w W:NY}{D:Nat}(h:Mk n0 ds W)(hw:∀D,Gj D∈ds→D<w.heap.size)(hD:w.heap.size≤D)(hn:n0≤D)(hb:W.heap[D]?=N3 (.deferred (N3 []))):Mk n0 (Gj D::ds) W:=by
 obtain⟨Ds,h1,rfl,h3⟩:=h
 refine⟨D::Ds,List.nodup_cons.2 ⟨fun hm=> ?_,h1⟩,rfl,fun E hE=> ?_⟩
 ·have:=hw D (List.mem_map.2 ⟨D,hm,rfl⟩);omega
 ·rcases List.mem_cons.1 hE with rfl|hE
  ·exact⟨hn,hb⟩
  ·exact h3 E hE
theorem al.refl(n0:Nat)(W:NY):al n0 W W:=⟨rfl,rfl,rfl,NZ _,fun _ _=>rfl,fun _ _ _ _ h=>h⟩
theorem Mk.leaves{Fc:Fence}{n:Nat}{fn:Func}{tmps:Array N2}{R:Ending→NY→Prop}{n0:Nat}{ds:List Deferred}{W:NY}(h:Mk n0 ds W)
  (hR:∀W',al n0 W W'→LeavesIn Fc n P fn tmps R [] .returning W'):LeavesInM Fc n P fn tmps R ds .returning W:=by
 obtain⟨Ds,h1,rfl,h3⟩:=h
 induction Ds generalizing W with
 |nil=>exact hR W (al.refl _ _)
 |cons D Ds ih=>
  have hD:=h3 D Ow
  have hs:=al.putObj (n0:=n0) (.deferred N0) hD.2 rfl hD.1
  refine⟨Ow,.inl ⟨D,_,rfl,run_takeDeferred hD.2,ih (fun W' hW'=>hR W' (hs.trans hW')) (List.nodup_cons.1 h1).2 (fun E hE=> ?_)⟩⟩
  refine⟨(h3 E (List.mem_cons_of_mem _ hE)).1,(NY.putObj_heap_other fun e=> ?_).trans (h3 E (List.mem_cons_of_mem _ hE)).2⟩
  subst e
  exact(List.nodup_cons.1 h1).1 hE
end
end Go.Proofs.YtnpihidbkhehjaaGreatDoor
