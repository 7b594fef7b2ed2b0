/- ChangeOnly of kingpostlaw58: part 18 of its proof (merged and shortened by program). -/
import Derived.Test.YtnpihidbkhehjaaGreatDoorM17
set_option linter.unusedVariables false
set_option linter.unusedSimpArgs false
set_option linter.defProp false
set_option maxHeartbeats 8000000
set_option maxRecDepth 100000
open Go.RowKit Go.Shelf Go.Proofs.Tryz
open Array renaming getElem?_eq_some_iff→Od
open Bool renaming false→N1,true→Oc
open Go renaming World→NY,Value→N2,undef→N7,wpOp_step→Ob,Calls→Of,maxLen→Ol,TypeId→Oo
open Go.AllReady renaming cons→Oj,nil→Oq
open Go.IntKind renaming i64→Oe
open Go.IntWalk renaming i64_in→Om
open Go.Lib renaming hid→NW
open Go.RowKit renaming intOf→Oh,Below→On
open Go.World renaming size_alloc→Oi
open List renaming getD_eq_getElem?_getD→N8,length_map→N9,getElem?_eq_getElem→Oa
open Nat renaming le_refl→NZ,mul_comm→Og,le_trans→Ok
open Option renaming none→N0,some→N3
open Go.Proofs.YtnpihidbkhehjaaGreatDoor
namespace Go.Proofs.YtnpihidbkhehjaaGreatDoor
section
open Kp
abbrev MZ(g:Int×Int):List N2:=[.int .i64 g.1,.int .i64 g.2]
abbrev dx(l:List (Int×Int)):List (List N2):=l.map MZ
theorem iZ{l:List (Int×Int)}{i:Nat}(hi:i<l.length):(dx l).getD i []=MZ (l.getD i (0,0)):=by
 simp[List.getD,Oa hi]
abbrev mJ(b:Br)(ga:Option Addr)(gc:Nat):List N2:=[.int .i64 b.width,.int .i64 b.depth,.int .i64 b.length,.int .i64 b.count,.int .i64 b.cost,.slice ga b.gaps.length gc]
def fo(w:NY)(B:Nat)(A:Option Addr)(cap:Nat)(l:List Br):Prop:=
 l.length≤cap∧cap≤Ol∧(0<l.length→∃b off,A=N3 ⟨b,off,N0⟩∧b<B∧∀i,i<l.length→∃ga gc,(∀j,j<6→w.cell? ⟨b,off+6*i+j,N0⟩=(mJ (l.getD i mA) ga gc)[j]?)∧bC 2 w B ga gc (dx (l.getD i mA).gaps))
theorem fo.below{w w':NY}{B:Nat}{A:Option Addr}{cap:Nat}{l:List Br}(h:fo w B A cap l)(hb:On B w w'):fo w' B A cap l:=by
 obtain⟨h1,h2,h3⟩:=h
 refine⟨h1,h2,fun hn=> ?_⟩
 obtain⟨b,off,e,hB,hc⟩:=h3 hn
 refine⟨b,off,e,hB,fun i hi=> ?_⟩
 obtain⟨Ai,ci,h4,h5⟩:=hc i hi
 exact⟨Ai,ci,fun j hj=>(hb.cell hB).trans (h4 j hj),h5.below hb⟩
theorem fo.more{w:NY}{B B':Nat}{A:Option Addr}{cap:Nat}{l:List Br}(h:fo w B A cap l)(hb:B≤B'):fo w B' A cap l:=by
 obtain⟨h1,h2,h3⟩:=h
 refine⟨h1,h2,fun hn=> ?_⟩
 obtain⟨b,off,e,hB,hc⟩:=h3 hn
 refine⟨b,off,e,Ot,fun i hi=> ?_⟩
 obtain⟨Ai,ci,h4,h5⟩:=hc i hi
 exact⟨Ai,ci,h4,h5.more hb⟩
theorem DO{b:Br}(t:(aF b.width 1 1000&&aF b.depth 1 1000&&aF b.length 1 65536&&aF b.count 0 4096&&aF b.cost 0 1073741824)=Oc)(h:¬16<b.gaps.length):sN b=aQ (yM b) b.gaps.length:=by
 unfold sN;rw[t,if_neg Ov,if_neg h]
theorem vI(b:Br)(ga:Option Addr)(gc:Nat)(w:NY)(t:(aF b.width 1 1000&&aF b.depth 1 1000&&aF b.length 1 65536&&aF b.count 0 4096&&aF b.cost 0 1073741824)=N1):
  Of prog 97 #[.agg (mJ b ga gc).toArray] w fun e w'=>e= .returned (.int .i64 (sN b))∧Ext w w':=by
 have E0:=NW (show Ext w (w.alloc (.cells (mJ b ga gc).toArray 44)) from(Below.refl _ _).alloc (NZ _) _)
 have HR:=NW (show sN b=2 by unfold sN;rw[t,if_pos Ov])
 obtain⟨n,hn⟩:∃n,b.gaps.length=n:=⟨_,rfl⟩
 clear hn
 cases t1:aF b.width 1 1000
 ·clear t
  go_enter func97,ntmps97
  go_wp2_with(go_at_call 162;go_must(refine(dG _ _ _ _).mono ?_);rintro e W1 ⟨rfl,rfl⟩;first|rw[t1]|skip)
  go_ret
  exact⟨OA,E0.out⟩
 cases t2:aF b.depth 1 1000
 ·clear t
  go_enter func97,ntmps97
  go_wp2_with(go_at_call 162;go_must(refine(dG _ _ _ _).mono ?_);rintro e W1 ⟨rfl,rfl⟩;first|rw[t1]|rw[t2]|skip)
  go_ret
  exact⟨OA,E0.out⟩
 cases t3:aF b.length 1 65536
 ·clear t
  go_enter func97,ntmps97
  go_wp2_with(go_at_call 162;go_must(refine(dG _ _ _ _).mono ?_);rintro e W1 ⟨rfl,rfl⟩;first|rw[t1]|rw[t2]|rw[t3]|skip)
  go_ret
  exact⟨OA,E0.out⟩
 cases t4:aF b.count 0 4096
 ·clear t
  go_enter func97,ntmps97
  go_wp2_with(go_at_call 162;go_must(refine(dG _ _ _ _).mono ?_);rintro e W1 ⟨rfl,rfl⟩;first|rw[t1]|rw[t2]|rw[t3]|rw[t4]|skip)
  go_ret
  exact⟨OA,E0.out⟩
 rw[t1,t2,t3,t4] at t
 have t5:aF b.cost 0 1073741824=N1:=by simpa using t
 clear t
 go_enter func97,ntmps97
 go_wp2_with(go_at_call 162;go_must(refine(dG _ _ _ _).mono ?_);rintro e W1 ⟨rfl,rfl⟩;first|rw[t1]|rw[t2]|rw[t3]|rw[t4]|rw[t5]|skip)
 go_ret
 exact⟨OA,E0.out⟩
def NO(w:NY)(b:Br)(i:N2)(wr:NY):Prop:=∃k:Nat,k≤b.gaps.length∧i= .int .i64 (k:Int)∧Ext w wr∧∀j,j<k→yM b j=0
theorem vn(b:Br)(ga:Option Addr)(gc:Nat)(w:NY)(hg:bC 2 w w.heap.size ga gc (dx b.gaps)):
  Of prog 97 #[.agg (mJ b ga gc).toArray] w fun e w'=>e= .returned (.int .i64 (sN b))∧Ext w w':=by
 cases t:(aF b.width 1 1000&&aF b.depth 1 1000&&aF b.length 1 65536&&aF b.count 0 4096&&aF b.cost 0 1073741824)
 ·exact vI b ga gc w t
 have E0:=NW (show Ext w (w.alloc (.cells (mJ b ga gc).toArray 44)) from(Below.refl _ _).alloc (NZ _) _)
 have HT:=NW t
 simp only[Bool.and_eq_true] at t
 obtain⟨⟨⟨⟨t1,t2⟩,t3⟩,t4⟩,t5⟩:=t
 obtain⟨h1,h2,h3⟩:=hg
 rw[N9] at h1 h3
 unfold Ol at h2
 by_cases h16:16<b.gaps.length
 ·have HR:=NW (show sN b=4 by unfold sN;rw[HT.out,if_neg Ov,if_pos h16])
  clear h3
  go_enter func97,ntmps97
  go_wp2_with(go_at_call 162;go_must(refine(dG _ _ _ _).mono ?_);rintro e W1 ⟨rfl,rfl⟩;first|rw[t1]|rw[t2]|rw[t3]|rw[t4]|rw[t5]|skip)
  go_ret
  exact⟨OA,E0.out⟩
 have HR:=NW (show sN b=aQ (yM b) b.gaps.length from DO HT.out h16)
 have H3:=NW h3
 have R0:=NW (af.new w 44 (mJ b ga gc))
 clear h3
 go_enter func97,ntmps97
 go_wp2_with(go_at_call 162;go_must(refine(dG _ _ _ _).mono ?_);rintro e W1 ⟨rfl,rfl⟩;first|rw[t1]|rw[t2]|rw[t3]|rw[t4]|rw[t5]|skip)
 obtain⟨w0,hw0⟩:∃w0,w.alloc (.cells (mJ b ga gc).toArray 44)=w0:=⟨_,rfl⟩
 rw[hw0] at R0 E0
 have Z0:=NW (show w.heap.size<w0.heap.size by rw[←hw0];simp)
 simp only[hw0]
 clear hw0
 go_loopw [40] (fun i wr=>NO w0 b i wr) (fun i _=>((b.gaps.length:Int)-Oh i).toNat)
 case atStart=>exact⟨0,Ot,rfl,Below.refl _ _,fun j hj=>Ot⟩
 case round=>
  obtain⟨k,hk,rfl,hX,hall⟩:=hrel
  have HX:=NW hX
  have HA:=NW hall
  clear hX hall
  have HRr:=NW (R0.out.ext HX.out)
  have c2:=HRr.out.cell 2
  have c5:=HRr.out.cell 5
  have hzr:=HRr.out.lt
  by_cases hlt:k<b.gaps.length
  ·obtain⟨bb,off,rfl,hB,hcell0⟩:=H3.out Ot
   have hbw:bb<wr.heap.size:=Ot
   have hcell:=fun i hi j hj=>((HX.out.cell (p:=⟨bb,off+2*i+j,N0⟩) (Nat.lt_trans hB Z0.out)).trans (E0.out.cell (p:=⟨bb,off+2*i+j,N0⟩) hB)).trans (hcell0 i hi j hj)
   have c1:=hcell k hlt 0 Ov
   have c1':=hcell k hlt 1 Ov
   rw[iZ hlt] at c1 c1'
   rw[Nat.add_zero] at c1
   rw[Og 2 k] at c1 c1'
   have hpz:0<k→wr.cell? ⟨bb,off+(k-1)*2+1,N0⟩=N3 (.int .i64 (b.gaps.getD (k-1) (0,0)).2):=fun h0=>by
    have:=hcell (k-1) Ot 1 Ov
    rwa[iZ Ot,Og 2 (k-1)] at this
   have HF:=NW (show yM b k=if(b.gaps.getD k (0,0)).1<0∨b.length<(b.gaps.getD k (0,0)).2∨(b.gaps.getD k (0,0)).2≤(b.gaps.getD k (0,0)).1 then 2 else if 0<k∧(b.gaps.getD k (0,0)).1≤(b.gaps.getD (k-1) (0,0)).2 then 10 else 0 from rfl)
   obtain⟨⟨x,y⟩,hx⟩:∃x,b.gaps.getD k (0,0)=x:=⟨_,rfl⟩
   obtain⟨⟨z,u⟩,hy⟩:∃y,b.gaps.getD (k-1) (0,0)=y:=⟨_,rfl⟩
   rw[hx] at c1 c1' HF
   rw[hy] at hpz HF
   have HPZ:=NW hpz
   clear hx hy hcell hcell0 hpz
   dsimp only at HF
   have EX:∀o,Ext w0 (wr.alloc o):=fun o=>HX.out.alloc HX.out.size _
   have HEX:=NW EX
   clear EX
   by_cases hbad:x<0∨b.length<y∨y≤x
   ·have HE:=NW (show sN b=2 by rw[HR.out,bS hlt HA.out (by rw[HF.out,if_pos hbad];decide),HF.out,if_pos hbad])
    by_cases hb1:x<0
    ·have d1:decide (x<0)=Oc:=by rw[decide_eq_true_eq];exact hb1
     clear hbad
     go_wp2
     go_ret
     exact⟨OL,E0.out.tr (HEX.out _)⟩
    have d1:decide (x<0)=N1:=by rw[decide_eq_false_iff_not];exact hb1
    by_cases hb2:b.length<y
    ·have d2:decide (b.length<y)=Oc:=by rw[decide_eq_true_eq];exact hb2
     clear hbad
     go_wp2
     go_ret
     exact⟨OL,E0.out.tr (HEX.out _)⟩
    have d2:decide (b.length<y)=N1:=by rw[decide_eq_false_iff_not];exact hb2
    have hb3:y≤x:=Ot
    have d3:decide (y≤x)=Oc:=by rw[decide_eq_true_eq];exact hb3
    clear hbad
    go_wp2
    go_ret
    exact⟨OL,E0.out.tr (HEX.out _)⟩
   have d1:decide (x<0)=N1:=Oz
   have d2:decide (b.length<y)=N1:=Oz
   have d3:decide (y≤x)=N1:=Oz
   have HB:=NW hbad
   clear hbad
   by_cases h0:0<k
   ·have c3:=HPZ.out h0
    have tk:decide (0<(k:Int))=Oc:=OH
    have e1:((k:Int)-1).toNat=k-1:=Ot
    have e2:0≤(k:Int)-1:=Ot
    have e3:(k:Int)-1<(b.gaps.length:Int):=Ot
    have e4:(k:Int)<(b.gaps.length:Int):=Ot
    have e5:Oe.wrap ((k:Int)-1)=(k:Int)-1:=Om _ Ot
    by_cases hxu:x≤u
    ·have HE:=NW (show sN b=10 by rw[HR.out,bS hlt HA.out (by rw[HF.out,if_neg HB.out,if_pos ⟨h0,hxu⟩];decide),HF.out,if_neg HB.out,if_pos ⟨h0,hxu⟩])
     have d4:decide (x≤u)=Oc:=by rw[decide_eq_true_eq];exact hxu
     go_wp2
     go_quiet (fail)
     go_wp2
     go_ret
     exact⟨OL,below_drewN (E0.out.tr (HEX.out _)) _⟩
    ·have d4:decide (x≤u)=N1:=by rw[decide_eq_false_iff_not];exact hxu
     have HZ:=NW (show yM b k=0 by rw[HF.out,if_neg HB.out,if_neg (fun h=>hxu h.2)])
     go_wp2
     go_quiet (fail)
     go_wp2
     refine⟨⟨k+1,Ot,Ow,below_drewN (HEX.out _) _,fun j hj=> ?_⟩,Oy⟩
     by_cases hjk:j=k
     ·rw[hjk];exact HZ.out
     ·exact HA.out j Ot
   ·have tk:decide (0<(k:Int))=N1:=Oz
    have HZ:=NW (show yM b k=0 by rw[HF.out,if_neg HB.out,if_neg (fun h=>h0 h.1)])
    go_wp2
    go_quiet (fail)
    go_wp2
    refine⟨⟨k+1,Ot,Ow,below_drewN (HEX.out _) _,fun j hj=> ?_⟩,Oy⟩
    by_cases hjk:j=k
    ·rw[hjk];exact HZ.out
    ·exact HA.out j Ot
  ·have hlt':decide ((k:Int)<(b.gaps.length:Int))=N1:=Oz
   have HE:=NW (show sN b=0 by rw[HR.out,bW (fun j hj=>HA.out j Ot)])
   go_wp2
   go_ret
   exact⟨OL,E0.out.tr HX.out⟩
end
section
open Kp
def M3(w:NY)(l:List Br)(i:N2)(wr:NY):Prop:=∃k:Nat,k≤l.length∧i= .int .i64 (k:Int)∧Ext w wr∧∀j,j<k→sN (l.getD j mA)=0
theorem wy(w:NY)(A:Option Addr)(cap:Nat)(l:List Br)(hl:fo w w.heap.size A cap l):
  Of prog 41 #[.slice A l.length cap] w fun e w'=>e= .returned (.int .i64 (iu l))∧Ext w w':=by
 have h1:=hl.1
 have h2:=hl.2.1
 unfold Ol at h2
 by_cases h16:64<l.length
 ·have HR:=NW (show iu l=4 by unfold iu;rw[if_pos h16])
  clear hl
  go_enter func41,ntmps41
  go_wp2
  go_ret
  exact⟨OA,Ext.an _⟩
 have HR:=NW (show iu l=aQ (fun i=>sN (l.getD i mA)) l.length by unfold iu;rw[if_neg h16])
 have HL:=NW hl
 clear hl
 go_enter func41,ntmps41
 go_wp2
 go_loopw [11] (fun i wr=>M3 w l i wr) (fun i _=>((l.length:Int)-Oh i).toNat)
 case atStart=>exact⟨0,Ot,rfl,Below.refl _ _,fun j hj=>Ot⟩
 case round=>
  obtain⟨k,hk,rfl,hX,hall⟩:=hrel
  have HX:=NW hX
  have HA:=NW hall
  have hlw:=HL.out.below hX
  clear hX hall
  by_cases hlt:k<l.length
  ·obtain⟨b,off,rfl,hB,hcell⟩:=hlw.2.2 Ot
   obtain⟨ga,gc,hc,hg⟩:=hcell k hlt
   have hbw:b<wr.heap.size:=Nat.lt_of_lt_of_le hB HX.out.size
   have c0:=hc 0 Ov
   have c1:=hc 1 Ov
   have c2:=hc 2 Ov
   have c3:=hc 3 Ov
   have c4:=hc 4 Ov
   have c5:=hc 5 Ov
   rw[Og] at c0 c1 c2 c3 c4 c5
   rw[Nat.add_zero] at c0
   obtain⟨x,hx⟩:∃x,l.getD k mA=x:=⟨_,rfl⟩
   rw[hx] at c0 c1 c2 c3 c4 c5 hg
   have EX:=NW (fun(p:Obj)=>(HX.out.alloc HX.out.size p:Ext w (wr.alloc p)))
   have hzz:=HX.out.size
   have KS:=NW (fun(p:Obj)=>vn x ga gc (wr.alloc p) ((hg.below (((Below.refl _ _).alloc (NZ _) p).mono hzz)).more OB))
   have HF:=NW (show sN (l.getD k mA)=sN x by rw[hx])
   obtain⟨c,hcc⟩:∃c,sN x=c:=⟨_,rfl⟩
   rw[hcc] at HF
   simp only[hcc] at KS
   clear hlw hcell hc hg hx hcc
   by_cases hc0:c=0
   ·have HZ:=NW (show∀j,j<k+1→sN (l.getD j mA)=0 from fun j hj=>by
     by_cases hjk:j=k
     ·rw[hjk,HF.out];exact hc0
     ·exact HA.out j Ot)
    subst hc0
    go_wp2_with(go_at_call 97;go_must(refine(KS.out _).mono ?_);rintro e W1 ⟨rfl,hX1⟩)
    exact⟨⟨k+1,Ot,Ow,Ext.tr (EX.out _) hX1,HZ.out⟩,Oy⟩
   ·have HV:=NW (show iu l=c by rw[HR.out,bS hlt HA.out (by show sN (l.getD k mA)≠0;rw[HF.out];exact hc0)];exact HF.out)
    have tc:(c !=0)=Oc:=PD
    go_wp2_with(go_at_call 97;go_must(refine(KS.out _).mono ?_);rintro e W1 ⟨rfl,hX1⟩)
    go_ret
    exact⟨OT,Ext.tr (EX.out _) hX1⟩
  ·have hlt':decide ((k:Int)<(l.length:Int))=N1:=Oz
   have HE:=NW (show iu l=0 by rw[HR.out,bW (fun j hj=>HA.out j Ot)])
   clear hlw
   go_wp2
   go_ret
   exact⟨OL,HX.out⟩
end
section
open Kp
abbrev z8(x:Sz):List N2:=[.int .i64 x.kind,.int .i64 x.width,.int .i64 x.depth]
abbrev bt(l:List Sz):List (List N2):=l.map z8
theorem sE{l:List Sz}{i:Nat}(hi:i<l.length):(bt l).getD i []=z8 (l.getD i kJ):=by
 simp[List.getD,Oa hi]
theorem A0(l:List Sz):cG 3 (bt l):=bz (f:=z8) (fun _=>rfl) l
def kK(l:List Sz)(k:Nat)(j:Nat):Bool:=dt (fun i=>(l.getD i kJ).kind==(j:Int)) k
def eo(w:NY)(b:Nat)(l:List Sz)(k:Nat):Prop:=
 ∃cs:Array N2,w.heap[b]?=N3 (.cells cs 138 (0,0))∧cs.size=13∧∀j,j<13→cs[j]?=N3 (.bool (kK l k j))
theorem eo.cell{w:NY}{b:Nat}{l:List Sz}{k j:Nat}(h:eo w b l k)(hj:j<13):w.cell? ⟨b,j,N0⟩=N3 (.bool (kK l k j)):=by
 obtain⟨cs,h1,h2,h3⟩:=h
 simp[World.cell?,h1,h3 j hj]
theorem eo.frozen{w:NY}{b:Nat}{l:List Sz}{k:Nat}(h:eo w b l k)(j:Nat):w.frozen? ⟨b,j,N0⟩=N1:=by
 obtain⟨cs,h1,h2,h3⟩:=h
 simp[World.frozen?,h1]
theorem eo.lt{w:NY}{b:Nat}{l:List Sz}{k:Nat}(h:eo w b l k):b<w.heap.size:=by
 obtain⟨cs,h1,_⟩:=h
 exact(Od.1 h1).1
theorem eo.ext{w w':NY}{b:Nat}{l:List Sz}{k:Nat}(h:eo w b l k)(hx:Ext w w'):eo w' b l k:=by
 obtain⟨cs,h1,h2⟩:=h
 exact⟨cs,(hx.block b (Od.1 h1).1).trans h1,h2⟩
theorem eo.next{w:NY}{b:Nat}{l:List Sz}{k d:Nat}(h:eo w b l k)(hd:d<13)(hk:(l.getD k kJ).kind=(d:Int)):eo (w.setCell ⟨b,d,N0⟩ (.bool Oc)) b l (k+1):=by
 obtain⟨cs,h1,h2,h3⟩:=h
 refine⟨cs.setIfInBounds d (.bool Oc),?_,by simpa using h2,fun j hj=> ?_⟩
 ·have hlt:=(Od.1 h1).1
  simp[World.setCell,Array.getElem?_modify,h1]
 ·by_cases hjd:d=j
  ·subst hjd
   rw[Array.getElem?_setIfInBounds_self_of_lt Ot]
   have:kK l (k+1) d=Oc:=by unfold kK;rw[dt,hk];simp
   rw[this]
  ·rw[Array.getElem?_setIfInBounds_ne hjd,h3 j hj]
   have:kK l (k+1) j=kK l k j:=by
    unfold kK;rw[dt,hk]
    have:((d:Int)==(j:Int))=N1:=OF
    rw[this,Bool.or_false]
   rw[this]
theorem eo.start(w:NY)(l:List Sz)(cs:Array N2)(h:cs=#[.bool N1,.bool N1,.bool N1,.bool N1,.bool N1,.bool N1,.bool N1,.bool N1,.bool N1,.bool N1,.bool N1,.bool N1,.bool N1]):eo (w.alloc (.cells cs 138)) w.heap.size l 0:=by
 subst h
 refine⟨_,NY.alloc_heap_new w _,rfl,fun j hj=> ?_⟩
 rcases(show j=0∨j=1∨j=2∨j=3∨j=4∨j=5∨j=6∨j=7∨j=8∨j=9∨j=10∨j=11∨j=12 by omega) with rfl|rfl|rfl|rfl|rfl|rfl|rfl|rfl|rfl|rfl|rfl|rfl|rfl<;>rfl
structure NI(w:NY)(l:List Sz)(i:N2)(wr:NY):Prop where
 ex:∃k:Nat,k≤l.length∧i= .int .i64 (k:Int)∧eo wr w.heap.size l k∧∀j,j<k→oU l j=0
 low:On w.heap.size w wr
theorem yv(w:NY)(A:Option Addr)(cap:Nat)(l:List Sz)(hl:bC 3 w w.heap.size A cap (bt l)):
  Of prog 39 #[.slice A l.length cap] w fun e w'=>e= .returned (.int .i64 (gk l))∧Ext w w':=by
 obtain⟨h1,h2,h3⟩:=hl
 rw[N9] at h1 h3
 unfold Ol at h2
 have H3:=NW h3
 clear h3
 go_enter func39,ntmps39
 go_wp2
 go_loopw [8] (fun i wr=>NI w l i wr) (fun i _=>((l.length:Int)-Oh i).toNat)
 case atStart=>exact⟨⟨0,Ot,rfl,eo.start _ _ _ rfl,fun j hj=>Ot⟩,(Below.refl _ _).alloc (NZ _) _⟩
 case round=>
  obtain⟨⟨k,hk,rfl,hse,hall⟩,hX⟩:=hrel
  have HX:=NW hX
  have HA:=NW hall
  have HSE:=NW hse
  clear hX hall hse
  by_cases hlt:k<l.length
  ·obtain⟨b,off,rfl,hB,hcell0⟩:=H3.out Ot
   have hbw:b<wr.heap.size:=Nat.lt_of_lt_of_le hB HX.out.size
   have HC:=NW (fun i hi j hj=>(HX.out.cell (p:=⟨b,off+3*i+j,N0⟩) hB).trans (hcell0 i hi j hj))
   have c0:=HC.out k hlt 0 Ov
   have c1:=HC.out k hlt 1 Ov
   have c2:=HC.out k hlt 2 Ov
   rw[sE hlt,Og] at c0 c1 c2
   rw[Nat.add_zero] at c0
   have HF:=NW (show oU l k=if(l.getD k kJ).kind<1∨13≤(l.getD k kJ).kind then 8 else if min (l.getD k kJ).width (l.getD k kJ).depth<1∨1000<max (l.getD k kJ).width (l.getD k kJ).depth then 2 else if dt (fun m=>(l.getD m kJ).kind==(l.getD k kJ).kind) k then 7 else 0 from rfl)
   obtain⟨⟨kd,wd,dp⟩,hx⟩:∃x,l.getD k kJ=x:=⟨_,rfl⟩
   rw[hx] at c0 c1 c2 HF
   dsimp only at HF
   have HK:=NW (show(l.getD k kJ).kind=kd by rw[hx])
   clear hx hcell0 HC
   have EX:=NW (fun o=>(HX.out.alloc HX.out.size o:On w.heap.size w (wr.alloc o)))
   have HG:=NW (fun(h:oU l k=0)=>(show∀j,j<k+1→oU l j=0 from fun j hj=>by
    by_cases hjk:j=k
    ·rw[hjk];exact h
    ·exact HA.out j Ot))
   have HV:=NW (fun(c:Int) (h:oU l k=c) (h0:c≠0)=>(show gk l=c by unfold gk;rw[bS hlt HA.out (by rw[h];exact h0),h]))
   by_cases b1:kd<1
   ·have d1:decide (kd<1)=Oc:=by rw[decide_eq_true_eq];exact b1
    have HE:=NW (HV.out 8 (by rw[HF.out,if_pos (.inl b1)]) Ov)
    go_wp2
    go_ret
    exact⟨OL,EX.out _⟩
   have d1:decide (kd<1)=N1:=by rw[decide_eq_false_iff_not];exact b1
   by_cases b2:13≤kd
   ·have d2:decide (13≤kd)=Oc:=by rw[decide_eq_true_eq];exact b2
    have HE:=NW (HV.out 8 (by rw[HF.out,if_pos (.inr b2)]) Ov)
    go_wp2
    go_ret
    exact⟨OL,EX.out _⟩
   have d2:decide (13≤kd)=N1:=by rw[decide_eq_false_iff_not];exact b2
   by_cases b3:min wd dp<1
   ·have d3:decide (min wd dp<1)=Oc:=by rw[decide_eq_true_eq];exact b3
    have HE:=NW (HV.out 2 (by rw[HF.out,if_neg Ot,if_pos (.inl b3)]) Ov)
    go_wp2
    go_ret
    exact⟨OL,EX.out _⟩
   have d3:decide (min wd dp<1)=N1:=by rw[decide_eq_false_iff_not];exact b3
   by_cases b4:1000<max wd dp
   ·have d4:decide (1000<max wd dp)=Oc:=by rw[decide_eq_true_eq];exact b4
    have HE:=NW (HV.out 2 (by rw[HF.out,if_neg Ot,if_pos (.inr b4)]) Ov)
    go_wp2
    go_ret
    exact⟨OL,EX.out _⟩
   have d4:decide (1000<max wd dp)=N1:=by rw[decide_eq_false_iff_not];exact b4
   obtain⟨d,hd,rfl⟩:∃d:Nat,d<13∧kd=(d:Int):=⟨kd.toNat,Ot,Ot⟩
   have hcs:=HSE.out.cell hd
   have hfs:=HSE.out.frozen d
   have hbz:=HSE.out.lt
   have hd1:(d:Int)<13:=Ot
   have hd2:0≤(d:Int):=Ot
   have hd3:(d:Int).toNat=d:=Ot
   have HSN:=NW (show kK l k d=dt (fun m=>(l.getD m kJ).kind==(d:Int)) k from rfl)
   have HW:=NW (show oU l k=if kK l k d then 7 else 0 by rw[HF.out,if_neg Ot,if_neg Ot];rfl)
   obtain⟨s,hs⟩:∃s,kK l k d=s:=⟨_,rfl⟩
   rw[hs] at hcs HW
   clear hs
   cases s
   ·have HZ:=NW (HG.out (by rw[HW.out];rfl))
    go_wp2
    refine⟨⟨⟨k+1,Ot,Ow,?_,HZ.out⟩,?_⟩,Oy⟩
    ·exact(HSE.out.next hd HK.out).ext ((Below.refl _ _).alloc (NZ _) _)
    ·exact(HX.out.setCell (p:=⟨w.heap.size,d,N0⟩) (NZ _) _).alloc (by simpa[World.setCell] using HX.out.size) _
   ·have HE:=NW (HV.out 7 (by rw[HW.out];rfl) Ov)
    go_wp2
    go_ret
    exact⟨OL,EX.out _⟩
  ·have hlt':decide ((k:Int)<(l.length:Int))=N1:=Oz
   have HE:=NW (show gk l=0 by unfold gk;rw[bW (fun j hj=>HA.out j Ot)])
   go_wp2
   go_ret
   exact⟨OL,HX.out⟩
end
section
open Kp
abbrev Jc(x:Ld):List N2:=[.int .i64 x.kind,.int .i64 x.side,.string (tx x.weight)]
abbrev bD(l:List Ld):List (List N2):=l.map Jc
theorem CQ{l:List Ld}{i:Nat}(hi:i<l.length):(bD l).getD i []=Jc (l.getD i mD):=by
 simp[List.getD,Oa hi]
theorem lL(l:List Ld):cG 3 (bD l):=bz (f:=Jc) (fun _=>rfl) l
def Kz(a:List UInt8):Nat:=match dK a with|none=>0|some (n,d)=>max (own n).length d.length
noncomputable def C8(a:List UInt8):Int:=if bG a≠0 then bG a else if 20<Kz a then 4 else if Lib.hasPrefix a [45] then 2 else 0
noncomputable def mV(l:List Ld)(i:Nat):Int:=
 if(l.getD i mD).kind<1∨3<(l.getD i mD).kind then 8 else if(l.getD i mD).side< -1∨24≤(l.getD i mD).side then 2 else C8 (l.getD i mD).weight
noncomputable def gj(l:List Ld):Int:=if 64<l.length then 4 else aQ (mV l) l.length
theorem oH(s:List UInt8)(w:NY):Of prog 165 #[.string (tx s),.string ⟨#[45]⟩] w fun e w'=>e= .returned (.bool (Lib.hasPrefix s [45]))∧w'=w:=by
 have:=strings_HasPrefix (tx s) (tx [45]) w
 rw[bE,bE] at this
 exact this
theorem vH(a:List UInt8)(w:NY)(hs:a.length≤300000)(hm:fl w)(ht:aL w)(h0:bG a=0):Of prog 164 #[.string (tx a)] w fun e w'=>e= .returned (.int .i64 (Kz a:Int))∧Ext w w':=by
 have cr:=NW (oB a w hs hm ht)
 rw[h0] at cr
 obtain⟨n,d,hnd⟩:∃n d,dK a=N3 (n,d):=by
  unfold bG at h0
  cases hcu:dK a with
  |none=>rw[hcu] at h0;cases h0
  |some p=>exact⟨p.1,p.2,rfl⟩
 have HN:=NW (show Kz a=max (own n).length d.length by unfold Kz;rw[hnd])
 have HC:=NW hnd
 have hl:=lv hnd
 have ho:=lH n
 clear hm ht h0 hnd
 obtain⟨o,hoo⟩:∃o,own n=o:=⟨_,rfl⟩
 rw[hoo] at HN ho
 have HO:=NW hoo
 clear hoo
 go_enter func164,ntmps164
 go_wp2_with(first
  |(go_at_call 205;go_must(refine cr.out.mono ?_);rintro e W1 ⟨x,y,rfl,hp,hX1⟩;obtain⟨n',d',e1,rfl,rfl⟩:=hp rfl;rw[HC.out] at e1;obtain⟨rfl,rfl⟩:n=n'∧d=d':=by{injection e1 with e1;injection e1 with e2 e3;exact⟨e2,e3⟩})
  |(go_at_call 206;go_must(refine(cH _ _).mono ?_);rintro e W2 ⟨rfl,rfl⟩;rw[HO.out]))
 go_ret
 exact⟨by rw[HN.out];exact sW Ot,hX1⟩
theorem vR(a:List UInt8)(w:NY)(hs:a.length≤300000)(hm:fl w)(ht:aL w):Of prog 99 #[.string (tx a)] w fun e w'=>e= .returned (.int .i64 (C8 a))∧Ext w w':=by
 have K1:=NW (pf a w hs hm ht)
 have K3:=NW (fun W=>oH a W)
 by_cases h0:bG a=0
 ·have K2:=NW (fun(W:NY) (h:Ext w W)=>vH a W hs (hm.below h (NZ _)) (ht.below h (NZ _)) h0)
  have HW:=NW (show C8 a=if 20<Kz a then 4 else if Lib.hasPrefix a [45] then 2 else 0 by unfold C8;rw[if_neg (fun h=>h h0)])
  rw[h0] at K1
  clear hm ht h0
  obtain⟨n,hn⟩:∃n,Kz a=n:=⟨_,rfl⟩
  rw[hn] at HW
  simp only[hn] at K2
  obtain⟨b,hb⟩:∃b,Lib.hasPrefix a [45]=b:=⟨_,rfl⟩
  rw[hb] at HW
  simp only[hb] at K3
  clear hn hb
  by_cases h20:20<n
  ·have HV:=NW (show C8 a=4 by rw[HW.out,if_pos h20])
   have t:decide (20<(n:Int))=Oc:=OH
   go_enter func99,ntmps99
   go_wp2_with(first
    |(go_at_call 163;go_must(refine K1.out.mono ?_);rintro e W1 ⟨rfl,hX1⟩)
    |(go_at_call 164;go_must(refine(K2.out _ hX1).mono ?_);rintro e W2 ⟨rfl,hX2⟩))
   go_ret
   exact⟨OT,Ext.tr hX1 hX2⟩
  ·have t:decide (20<(n:Int))=N1:=Oz
   cases b
   ·have HV:=NW (show C8 a=0 by rw[HW.out,if_neg h20];rfl)
    go_enter func99,ntmps99
    go_wp2_with(first
     |(go_at_call 163;go_must(refine K1.out.mono ?_);rintro e W1 ⟨rfl,hX1⟩)
     |(go_at_call 165;go_must(refine(K3.out _).mono ?_);rintro e W3 ⟨rfl,rfl⟩)
     |(go_at_call 164;go_must(refine(K2.out _ hX1).mono ?_);rintro e W2 ⟨rfl,hX2⟩))
    go_ret
    exact⟨OT,Ext.tr hX1 hX2⟩
   ·have HV:=NW (show C8 a=2 by rw[HW.out,if_neg h20];rfl)
    go_enter func99,ntmps99
    go_wp2_with(first
     |(go_at_call 163;go_must(refine K1.out.mono ?_);rintro e W1 ⟨rfl,hX1⟩)
     |(go_at_call 165;go_must(refine(K3.out _).mono ?_);rintro e W3 ⟨rfl,rfl⟩)
     |(go_at_call 164;go_must(refine(K2.out _ hX1).mono ?_);rintro e W2 ⟨rfl,hX2⟩))
    go_ret
    exact⟨OT,Ext.tr hX1 hX2⟩
 ·have HV:=NW (show C8 a=bG a by unfold C8;rw[if_pos h0])
  obtain⟨c,hc⟩:∃c,bG a=c:=⟨_,rfl⟩
  rw[hc] at K1 HV h0
  have t:(c !=0)=Oc:=by rw[bne_iff_ne];exact h0
  clear hm ht h0 hc
  go_enter func99,ntmps99
  go_wp2_with(go_at_call 163;go_must(refine K1.out.mono ?_);rintro e W1 ⟨rfl,hX1⟩)
  go_ret
  exact⟨OT,hX1⟩
def NG(w:NY)(l:List Ld)(i:N2)(wr:NY):Prop:=∃k:Nat,k≤l.length∧i= .int .i64 (k:Int)∧Ext w wr∧∀j,j<k→mV l j=0
theorem yQ(w:NY)(A:Option Addr)(cap:Nat)(l:List Ld)(hl:bC 3 w w.heap.size A cap (bD l))(hs:∀x∈l,x.weight.length≤300000)(hm:fl w)(ht:aL w):
  Of prog 43 #[.slice A l.length cap] w fun e w'=>e= .returned (.int .i64 (gj l))∧Ext w w':=by
 obtain⟨h1,h2,h3⟩:=hl
 rw[N9] at h1 h3
 unfold Ol at h2
 by_cases h16:64<l.length
 ·have HR:=NW (show gj l=4 by unfold gj;rw[if_pos h16])
  clear h3 hs hm ht
  go_enter func43,ntmps43
  go_wp2
  go_ret
  exact⟨OA,Ext.an _⟩
 have HR:=NW (show gj l=aQ (mV l) l.length by unfold gj;rw[if_neg h16])
 have H3:=NW h3
 have HS:=NW hs
 have HM:=NW hm
 have HT:=NW ht
 clear h3 hs hm ht
 go_enter func43,ntmps43
 go_wp2
 go_loopw [11] (fun i wr=>NG w l i wr) (fun i _=>((l.length:Int)-Oh i).toNat)
 case atStart=>exact⟨0,Ot,rfl,Below.refl _ _,fun j hj=>Ot⟩
 case round=>
  obtain⟨k,hk,rfl,hX,hall⟩:=hrel
  have HX:=NW hX
  have HA:=NW hall
  clear hX hall
  by_cases hlt:k<l.length
  ·obtain⟨b,off,rfl,hB,hcell0⟩:=H3.out Ot
   have hbw:b<wr.heap.size:=Nat.lt_of_lt_of_le hB HX.out.size
   have HC:=NW (fun i hi j hj=>(HX.out.cell (p:=⟨b,off+3*i+j,N0⟩) hB).trans (hcell0 i hi j hj))
   have c0:=HC.out k hlt 0 Ov
   have c1:=HC.out k hlt 1 Ov
   have c2:=HC.out k hlt 2 Ov
   rw[CQ hlt,Og] at c0 c1 c2
   rw[Nat.add_zero] at c0
   have HF:=NW (show mV l k=if(l.getD k mD).kind<1∨3<(l.getD k mD).kind then 8 else if(l.getD k mD).side< -1∨24≤(l.getD k mD).side then 2 else C8 (l.getD k mD).weight from rfl)
   have hwl:=HS.out (l.getD k mD) (by rw[N8,Oa hlt];exact List.getElem_mem hlt)
   obtain⟨⟨kd,sd,wg⟩,hx⟩:∃x,l.getD k mD=x:=⟨_,rfl⟩
   rw[hx] at c0 c1 c2 HF hwl
   dsimp only at HF hwl
   clear hx hcell0 HC
   have EX:=NW (fun o=>(HX.out.alloc HX.out.size o:Ext w (wr.alloc o)))
   have HG:=NW (fun(h:mV l k=0)=>(show∀j,j<k+1→mV l j=0 from fun j hj=>by
    by_cases hjk:j=k
    ·rw[hjk];exact h
    ·exact HA.out j Ot))
   have HV:=NW (fun(c:Int) (h:mV l k=c) (h0:c≠0)=>(show gj l=c by rw[HR.out,bS hlt HA.out (by rw[h];exact h0),h]))
   by_cases b1:kd<1
   ·have d1:decide (kd<1)=Oc:=by rw[decide_eq_true_eq];exact b1
    have HE:=NW (HV.out 8 (by rw[HF.out,if_pos (.inl b1)]) Ov)
    go_wp2
    go_ret
    exact⟨OL,EX.out _⟩
   have d1:decide (kd<1)=N1:=by rw[decide_eq_false_iff_not];exact b1
   by_cases b2:3<kd
   ·have d2:decide (3<kd)=Oc:=by rw[decide_eq_true_eq];exact b2
    have HE:=NW (HV.out 8 (by rw[HF.out,if_pos (.inr b2)]) Ov)
    go_wp2
    go_ret
    exact⟨OL,EX.out _⟩
   have d2:decide (3<kd)=N1:=by rw[decide_eq_false_iff_not];exact b2
   by_cases b3:sd< -1
   ·have d3:decide (sd< -1)=Oc:=by rw[decide_eq_true_eq];exact b3
    have HE:=NW (HV.out 2 (by rw[HF.out,if_neg Ot,if_pos (.inl b3)]) Ov)
    go_wp2
    go_ret
    exact⟨OL,EX.out _⟩
   have d3:decide (sd< -1)=N1:=by rw[decide_eq_false_iff_not];exact b3
   by_cases b4:24≤sd
   ·have d4:decide (24≤sd)=Oc:=by rw[decide_eq_true_eq];exact b4
    have HE:=NW (HV.out 2 (by rw[HF.out,if_neg Ot,if_pos (.inr b4)]) Ov)
    go_wp2
    go_ret
    exact⟨OL,EX.out _⟩
   have d4:decide (24≤sd)=N1:=by rw[decide_eq_false_iff_not];exact b4
   have HW:=NW (show mV l k=C8 wg by rw[HF.out,if_neg Ot,if_neg Ot])
   have KW:=NW (fun(o:Obj)=>vR wg (wr.alloc o) hwl (HM.out.below (EX.out o) (NZ _)) (HT.out.below (EX.out o) (NZ _)))
   obtain⟨c,hc⟩:∃c,C8 wg=c:=⟨_,rfl⟩
   rw[hc] at HW
   simp only[hc] at KW
   clear hc hwl
   by_cases hc0:c=0
   ·have HZ:=NW (HG.out (by rw[HW.out,hc0]))
    subst hc0
    go_wp2_with(go_at_call 99;go_must(refine(KW.out _).mono ?_);rintro e W2 ⟨rfl,hX2⟩)
    exact⟨⟨k+1,Ot,Ow,Ext.tr (EX.out _) hX2,HZ.out⟩,Oy⟩
   ·have HE:=NW (HV.out c HW.out hc0)
    have tc:(c !=0)=Oc:=PD
    go_wp2_with(go_at_call 99;go_must(refine(KW.out _).mono ?_);rintro e W2 ⟨rfl,hX2⟩)
    go_ret
    exact⟨OL,Ext.tr (EX.out _) hX2⟩
  ·have hlt':decide ((k:Int)<(l.length:Int))=N1:=Oz
   have HE:=NW (show gj l=0 by rw[HR.out,bW (fun j hj=>HA.out j Ot)])
   go_wp2
   go_ret
   exact⟨OL,HX.out⟩
end
section
open Kp
theorem nO(s l:Int)(w:NY):Of prog 166 #[.int .i64 s,.int .i64 l] w fun e w'=>e= .returned (.bool (aF s 1 65536&&aF l 0 1048576))∧w'=w:=by
 cases t1:aF s 1 65536
 ·go_enter func166,ntmps166
  go_wp2_with(go_at_call 101;go_must(refine(eL _ _ _ _).mono ?_);rintro e W1 ⟨rfl,rfl⟩;rw[t1])
  go_ret
  exact⟨rfl,rfl⟩
 cases t2:aF l 0 1048576
 all_goals
  go_enter func166,ntmps166
  go_wp2_with(go_at_call 101;go_must(refine(eL _ _ _ _).mono ?_);rintro e W1 ⟨rfl,rfl⟩;first|rw[t1]|rw[t2])
  go_ret
  exact⟨rfl,rfl⟩
theorem yb(a b s l:Int)(w:NY):Of prog 100 #[.int .i64 a,.int .i64 b,.int .i64 s,.int .i64 l] w fun e w'=>e= .returned (.bool (aF a 1 1000&&aF b 1 1000&&(aF s 1 65536&&aF l 0 1048576)))∧w'=w:=by
 cases t1:aF a 1 1000
 ·go_enter func100,ntmps100
  go_wp2_with(go_at_call 101;go_must(refine(eL _ _ _ _).mono ?_);rintro e W1 ⟨rfl,rfl⟩;rw[t1])
  go_ret
  exact⟨rfl,rfl⟩
 cases t2:aF b 1 1000
 ·go_enter func100,ntmps100
  go_wp2_with(go_at_call 101;go_must(refine(eL _ _ _ _).mono ?_);rintro e W1 ⟨rfl,rfl⟩;first|rw[t1]|rw[t2])
  go_ret
  exact⟨rfl,rfl⟩
 obtain⟨c,hc⟩:∃c,(aF s 1 65536&&aF l 0 1048576)=c:=⟨_,rfl⟩
 rw[hc]
 have cc:=NW (nO s l w)
 rw[hc] at cc
 clear hc
 cases c
 all_goals
  go_enter func100,ntmps100
  go_wp2_with(first
   |(go_at_call 166;go_must(refine cc.out.mono ?_);rintro e W1 ⟨rfl,rfl⟩)
   |(go_at_call 101;go_must(refine(eL _ _ _ _).mono ?_);rintro e W1 ⟨rfl,rfl⟩;first|rw[t1]|rw[t2]))
  go_ret
  exact⟨rfl,rfl⟩
end
section
open Kp
theorem rP(w:NY)(k cap:Nat)(T:Oo)(a b c d:Int)(hr:af w k T [.int .i64 a,.int .i64 b,.int .i64 c,.int .i64 d]):
  Of prog 167 #[.slice (N3 ⟨k,0,N0⟩) 4 cap] w fun e w'=>e= .returned (.int .i64 (zH a b c d))∧w'=w:=by
 have c0:=hr.cell 0
 have c1:=hr.cell 1
 have c2:=hr.cell 2
 have c3:=hr.cell 3
 clear hr
 cases t0:(a !=0)
 case true=>
  have HR:=NW (show zH a b c d=a by unfold zH;rw[if_pos (by simpa using t0)])
  go_enter func167,ntmps167
  go_wp2
  refine wp_loop_rounds 5 ?_
  rw[rounds_succ]
  go_wp2
  go_ret
  exact⟨OA,rfl⟩
 cases t1:(b !=0)
 case true=>
  have HR:=NW (show zH a b c d=b by unfold zH;rw[if_neg (by simpa using t0)];rw[if_pos (by simpa using t1)])
  go_enter func167,ntmps167
  go_wp2
  refine wp_loop_rounds 5 ?_
  rw[rounds_succ]
  go_wp2
  rw[rounds_succ]
  go_wp2
  go_ret
  exact⟨OA,rfl⟩
 cases t2:(c !=0)
 case true=>
  have HR:=NW (show zH a b c d=c by unfold zH;rw[if_neg (by simpa using t0)];rw[if_neg (by simpa using t1)];rw[if_pos (by simpa using t2)])
  go_enter func167,ntmps167
  go_wp2
  refine wp_loop_rounds 5 ?_
  rw[rounds_succ]
  go_wp2
  rw[rounds_succ]
  go_wp2
  rw[rounds_succ]
  go_wp2
  go_ret
  exact⟨OA,rfl⟩
 cases t3:(d !=0)
 case true=>
  have HR:=NW (show zH a b c d=d by unfold zH;rw[if_neg (by simpa using t0)];rw[if_neg (by simpa using t1)];rw[if_neg (by simpa using t2)])
  go_enter func167,ntmps167
  go_wp2
  refine wp_loop_rounds 5 ?_
  rw[rounds_succ]
  go_wp2
  rw[rounds_succ]
  go_wp2
  rw[rounds_succ]
  go_wp2
  rw[rounds_succ]
  go_wp2
  go_ret
  exact⟨OA,rfl⟩
 have HR:=NW (show zH a b c d=0 by unfold zH;rw[if_neg (by simpa using t0)];rw[if_neg (by simpa using t1)];(first|(rw[if_neg (by simpa using t2)];done)|(rw[if_neg (by simpa using t2)];simpa using t3)))
 go_enter func167,ntmps167
 go_wp2
 refine wp_loop_rounds 5 ?_
 rw[rounds_succ]
 go_wp2
 rw[rounds_succ]
 go_wp2
 rw[rounds_succ]
 go_wp2
 rw[rounds_succ]
 go_wp2
 rw[rounds_succ]
 go_wp2
 go_ret
 exact⟨OA,rfl⟩
end
end Go.Proofs.YtnpihidbkhehjaaGreatDoor
