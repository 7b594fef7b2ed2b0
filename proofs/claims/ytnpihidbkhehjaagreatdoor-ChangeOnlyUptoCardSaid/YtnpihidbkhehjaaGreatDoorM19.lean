/- ChangeOnly of kingpostlaw58: part 19 of its proof (merged and shortened by program). -/
import Derived.Test.YtnpihidbkhehjaaGreatDoorM18
set_option linter.unusedVariables false
set_option linter.unusedSimpArgs false
set_option linter.defProp false
set_option maxHeartbeats 8000000
set_option maxRecDepth 100000
open Go.RowKit Go.Shelf Go.Proofs.Tryz
open Array renaming getElem?_eq_some_iff→Od
open Bool renaming false→N1,true→Oc
open Go renaming World→NY,Value→N2,undef→N7,wpOp_step→Ob,Calls→Of,maxLen→Ol,TypeId→Oo
open Go.AllReady renaming cons→Oj,nil→Oq
open Go.IntKind renaming i64→Oe
open Go.IntWalk renaming i64_in→Om
open Go.Lib renaming hid→NW
open Go.RowKit renaming intOf→Oh,Below→On
open Go.World renaming size_alloc→Oi
open List renaming getD_eq_getElem?_getD→N8,length_map→N9,getElem?_eq_getElem→Oa
open Nat renaming le_refl→NZ,mul_comm→Og,le_trans→Ok
open Option renaming none→N0,some→N3
open Go.Proofs.YtnpihidbkhehjaaGreatDoor
namespace Go.Proofs.YtnpihidbkhehjaaGreatDoor
section
open Kp
abbrev gF(x:Aw):List N2:=[.int .i64 x.width,.int .i64 x.depth,.int .i64 x.spacing,.int .i64 x.load,.int .i64 x.span]
abbrev aX(l:List Aw):List (List N2):=l.map gF
theorem j1{l:List Aw}{i:Nat}(hi:i<l.length):(aX l).getD i []=gF (l.getD i mL):=by
 simp[List.getD,Oa hi]
theorem Gv(l:List Aw):cG 5 (aX l):=bz (f:=gF) (fun _=>rfl) l
structure IJ(x:Aw):Prop where
 w1:0≤x.width
 w2:x.width≤1048576
 d1:0≤x.depth
 d2:x.depth≤1048576
 s1:0≤x.spacing
 s2:x.spacing≤1048576
 l1:0≤x.load
 l2:x.load≤1048576
theorem Al{x:Aw}(h:jn x=Oc):IJ x:=by
 unfold jn at h
 simp only[Bool.and_eq_true,aF,decide_eq_true_eq] at h
 obtain⟨⟨⟨⟨⟨_,_⟩,_,_⟩,_,_⟩,_,_⟩,_,_⟩:=h
 constructor <;>omega
theorem zx(a b:Aw)(w:NY)(ha:IJ a)(hb:IJ b):Of prog 102 #[.agg (gF a).toArray,.agg (gF b).toArray] w fun e w'=>e= .returned (.int .i64 (BU a b))∧Ext w w':=by
 obtain⟨a1,a2,a3,a4,a5,a6,a7,a8⟩:=ha
 obtain⟨b1,b2,b3,b4,b5,b6,b7,b8⟩:=hb
 have E3:=NW (wK w (.cells (gF a).toArray 48) (.cells (gF b).toArray 48) (.cells [.int .i64 (a.width-b.width),.int .i64 (a.depth-b.depth),.int .i64 (a.spacing-b.spacing),.int .i64 (a.load-b.load)].toArray 3))
 have r3:=(af.new ((w.alloc (.cells (gF a).toArray 48)).alloc (.cells (gF b).toArray 48)) 3 [.int .i64 (a.width-b.width),.int .i64 (a.depth-b.depth),.int .i64 (a.spacing-b.spacing),.int .i64 (a.load-b.load)])
 rw[Oi,Oi] at r3
 have R3:=NW r3
 clear r3
 have HR:=NW (show BU a b=zH (a.width-b.width) (a.depth-b.depth) (a.spacing-b.spacing) (a.load-b.load) from rfl)
 go_enter func102,ntmps102
 go_wp2_with(go_at_call 167;go_must((with_reducible refine(rP _ _ _ 3 _ _ _ _ R3.out).mono ?_));rintro e W1 ⟨rfl,rfl⟩)
 go_ret
 exact⟨OA,E3.out⟩
theorem Bp{l:List Aw}(h:¬4096<l.length):gi l=aQ (mZ l) l.length:=by unfold gi;rw[if_neg h]
theorem zO(x:Aw):jn x=((aF x.width 1 1000&&aF x.depth 1 1000&&(aF x.spacing 1 65536&&aF x.load 0 1048576))&&aF x.span 1 65536):=by unfold jn;simp only[Bool.and_assoc]
def NM(w:NY)(l:List Aw)(i:N2)(wr:NY):Prop:=∃k:Nat,k≤l.length∧i= .int .i64 (k:Int)∧Ext w wr∧∀j,j<k→mZ l j=0
theorem xN(w:NY)(A:Option Addr)(cap:Nat)(l:List Aw)(hl:bC 5 w w.heap.size A cap (aX l)):
  Of prog 44 #[.slice A l.length cap] w fun e w'=>e= .returned (.int .i64 (gi l))∧Ext w w':=by
 obtain⟨h1,h2,h3⟩:=hl
 rw[N9] at h1 h3
 unfold Ol at h2
 by_cases h16:4096<l.length
 ·have HR:=NW (show gi l=4 by unfold gi;rw[if_pos h16])
  clear h3
  go_enter func44,ntmps44
  go_wp2
  go_ret
  exact⟨OA,Ext.an _⟩
 have HR:=NW (Bp h16)
 have H3:=NW h3
 clear h3
 go_enter func44,ntmps44
 go_wp2
 go_loopw [10] (fun i wr=>NM w l i wr) (fun i _=>((l.length:Int)-Oh i).toNat)
 case atStart=>exact⟨0,Ot,rfl,Below.refl _ _,fun j hj=>Ot⟩
 case round=>
  obtain⟨k,hk,rfl,hX,hall⟩:=hrel
  have HX:=NW hX
  have HA:=NW hall
  clear hX hall
  by_cases hlt:k<l.length
  ·obtain⟨b,off,rfl,hB,hcell0⟩:=H3.out Ot
   have hbw:b<wr.heap.size:=Nat.lt_of_lt_of_le hB HX.out.size
   have HC:=NW (fun i hi j hj=>(HX.out.cell (p:=⟨b,off+5*i+j,N0⟩) hB).trans (hcell0 i hi j hj))
   have c0:=HC.out k hlt 0 Ov
   have c1:=HC.out k hlt 1 Ov
   have c2:=HC.out k hlt 2 Ov
   have c3:=HC.out k hlt 3 Ov
   have c4:=HC.out k hlt 4 Ov
   rw[j1 hlt,Og] at c0 c1 c2 c3 c4
   rw[Nat.add_zero] at c0
   have HF:=NW (show mZ l k=if !jn (l.getD k mL) then 2 else if 0<k∧0≤BU (l.getD (k-1) mL) (l.getD k mL) then 10 else 0 from rfl)
   obtain⟨x,hx⟩:∃x,l.getD k mL=x:=⟨_,rfl⟩
   rw[hx] at c0 c1 c2 c3 c4 HF
   have HXE:=NW hx
   clear hx hcell0
   have RX:=NW (af.new wr 48 (gF x))
   have EX:=NW (fun o=>(HX.out.alloc HX.out.size o:Ext w (wr.alloc o)))
   have HG:=NW (fun(h:mZ l k=0)=>(show∀j,j<k+1→mZ l j=0 from fun j hj=>by
    by_cases hjk:j=k
    ·rw[hjk];exact h
    ·exact HA.out j Ot))
   have HRA:=NW (zO x)
   obtain⟨r1,hr1⟩:∃r,(aF x.width 1 1000&&aF x.depth 1 1000&&(aF x.spacing 1 65536&&aF x.load 0 1048576))=r:=⟨_,rfl⟩
   obtain⟨r2,hr2⟩:∃r,aF x.span 1 65536=r:=⟨_,rfl⟩
   rw[hr1,hr2] at HRA
   have K1:=NW (fun W=>yb x.width x.depth x.spacing x.load W)
   have K2:=NW (fun W=>eL x.span 1 65536 W)
   simp only[hr1] at K1
   simp only[hr2] at K2
   clear hr1 hr2
   cases r1
   ·have HV:=NW (show gi l=2 by rw[HR.out,bS hlt HA.out (by rw[HF.out,HRA.out,if_pos OR];decide),HF.out,HRA.out,if_pos OR])
    go_wp2_with(go_at_call 100;go_must(refine(K1.out _).mono ?_);rintro e W1 ⟨rfl,rfl⟩)
    go_ret
    exact⟨OT,EX.out _⟩
   cases r2
   ·have HV:=NW (show gi l=2 by rw[HR.out,bS hlt HA.out (by rw[HF.out,HRA.out,if_pos OR];decide),HF.out,HRA.out,if_pos OR])
    go_wp2_with(first
     |(go_at_call 100;go_must(refine(K1.out _).mono ?_);rintro e W1 ⟨rfl,rfl⟩)
     |(go_at_call 101;go_must(refine(K2.out _).mono ?_);rintro e W1 ⟨rfl,rfl⟩))
    go_ret
    exact⟨OT,EX.out _⟩
   have HFX:=NW (show mZ l k=if 0<k∧0≤BU (l.getD (k-1) mL) x then 10 else 0 by rw[HF.out,HRA.out,if_neg Ov])
   have hokx:=Al (x:=x) HRA.out
   by_cases h0:0<k
   ·have tk:decide (0<(k:Int))=Oc:=OH
    have e1:((k:Int)-1).toNat=k-1:=Ot
    have e2:0≤(k:Int)-1:=Ot
    have e3:(k:Int)-1<(l.length:Int):=Ot
    have e4:(k:Int)<(l.length:Int):=Ot
    have e6:1≤(k:Int):=Ot
    have e5:Oe.wrap ((k:Int)-1)=(k:Int)-1:=Om _ Ot
    have hz:=HA.out (k-1) Ot
    have hokp:IJ (l.getD (k-1) mL):=by
     refine Al ?_
     cases hra:jn (l.getD (k-1) mL)
     ·unfold mZ at hz;rw[hra] at hz;simp at hz
     ·rfl
    have p0:=HC.out (k-1) Ot 0 Ov
    have p1:=HC.out (k-1) Ot 1 Ov
    have p2:=HC.out (k-1) Ot 2 Ov
    have p3:=HC.out (k-1) Ot 3 Ov
    have p4:=HC.out (k-1) Ot 4 Ov
    rw[j1 Ot,Og] at p0 p1 p2 p3 p4
    rw[Nat.add_zero] at p0
    obtain⟨y,hy⟩:∃y,l.getD (k-1) mL=y:=⟨_,rfl⟩
    rw[hy] at p0 p1 p2 p3 p4 HFX hokp
    have KO:=NW (fun W=>zx y x W hokp hokx)
    obtain⟨c,hc⟩:∃c,BU y x=c:=⟨_,rfl⟩
    rw[hc] at HFX
    simp only[hc] at KO
    clear hy hz hokp hokx hc
    go_wp2_with(first
     |(go_at_call 100;go_must(refine(K1.out _).mono ?_);rintro e W1 ⟨rfl,rfl⟩)
     |(go_at_call 101;go_must(refine(K2.out _).mono ?_);rintro e W1 ⟨rfl,rfl⟩))
    refine bP 9 Ou Ou (fun W2 hW2=> ?_)
    have rx:af W2 wr.heap.size 48 (gF x):=RX.out.ext hW2
    have hw2:Ext wr W2:=yV hW2
    have q0:=(hw2.cell (p:=⟨b,off+(k-1)*5,N0⟩) hbw).trans p0
    have q1:=(hw2.cell (p:=⟨b,off+(k-1)*5+1,N0⟩) hbw).trans p1
    have q2:=(hw2.cell (p:=⟨b,off+(k-1)*5+2,N0⟩) hbw).trans p2
    have q3:=(hw2.cell (p:=⟨b,off+(k-1)*5+3,N0⟩) hbw).trans p3
    have q4:=(hw2.cell (p:=⟨b,off+(k-1)*5+4,N0⟩) hbw).trans p4
    have y0:=rx.cell 0
    have y1:=rx.cell 1
    have y2:=rx.cell 2
    have y3:=rx.cell 3
    have y4:=rx.cell 4
    have HW2:=NW hw2
    clear rx hw2 hW2 c0 c1 c2 c3 c4 p0 p1 p2 p3 p4
    simp only[List.take_succ_cons,List.take_zero,List.drop_succ_cons,List.drop_zero]
    repeat still_step
    refine wpStill_nil ?_
    by_cases hc0:0≤c
    ·have tc:decide (0≤c)=Oc:=by rw[decide_eq_true_eq];exact hc0
     have HV:=NW (show gi l=10 by rw[HR.out,bS hlt HA.out (by rw[HFX.out,if_pos ⟨h0,hc0⟩];decide),HFX.out,if_pos ⟨h0,hc0⟩])
     go_wp2_with(go_at_call 102;go_must(refine(KO.out _).mono ?_);rintro e W3 ⟨rfl,hX3⟩)
     go_ret
     exact⟨OT,(HX.out.tr HW2.out).tr hX3⟩
    ·have tc:decide (0≤c)=N1:=by rw[decide_eq_false_iff_not];exact hc0
     have HZ:=NW (HG.out (by rw[HFX.out,if_neg (fun h=>hc0 h.2)]))
     go_wp2_with(go_at_call 102;go_must(refine(KO.out _).mono ?_);rintro e W3 ⟨rfl,hX3⟩)
     exact⟨⟨k+1,Ot,Ow,(HX.out.tr HW2.out).tr hX3,HZ.out⟩,Oy⟩
   ·have tk:decide (0<(k:Int))=N1:=Oz
    have HZ:=NW (HG.out (by rw[HFX.out,if_neg (fun h=>h0 h.1)]))
    clear hokx
    go_wp2_with(first
     |(go_at_call 100;go_must(refine(K1.out _).mono ?_);rintro e W1 ⟨rfl,rfl⟩)
     |(go_at_call 101;go_must(refine(K2.out _).mono ?_);rintro e W1 ⟨rfl,rfl⟩))
    go_quiet (fail)
    go_wp2
    exact⟨⟨k+1,Ot,Ow,below_drewN (EX.out _) _,HZ.out⟩,Oy⟩
  ·have hlt':decide ((k:Int)<(l.length:Int))=N1:=Oz
   have HE:=NW (show gi l=0 by rw[HR.out,bW (fun j hj=>HA.out j Ot)])
   go_wp2
   go_ret
   exact⟨OL,HX.out⟩
end
section
open Kp
abbrev MH(t:Tl):List N2:=[.int .i64 t.width,.int .i64 t.length,.int .i64 t.lap,.int .i64 t.tail]
theorem zJ(t:Tl)(w:NY):Of prog 42 #[.agg (MH t).toArray] w fun e w'=>e= .returned (.int .i64 (de t))∧Ext w w':=by
 have E0:=NW (show Ext w (w.alloc (.cells (MH t).toArray 30)) from(Below.refl _ _).alloc (NZ _) _)
 cases t1:aF t.width 1 2000
 ·have HR:=NW (show de t=2 by unfold de;rw[t1];rfl)
  go_enter func42,ntmps42
  go_wp2_with(go_at_call 98;go_must(refine(fQ _ _ _ _).mono ?_);rintro e W1 ⟨rfl,rfl⟩;first|rw[t1]|skip)
  go_ret
  exact⟨OA,E0.out⟩
 cases t2:aF t.length 1 2000
 ·have HR:=NW (show de t=2 by unfold de;rw[t1,t2];rfl)
  go_enter func42,ntmps42
  go_wp2_with(go_at_call 98;go_must(refine(fQ _ _ _ _).mono ?_);rintro e W1 ⟨rfl,rfl⟩;first|rw[t1]|rw[t2]|skip)
  go_ret
  exact⟨OA,E0.out⟩
 have hb:1≤t.length∧t.length≤2000:=by unfold aF at t2;simpa using t2
 obtain⟨b1,b2⟩:=hb
 cases t3:aF t.lap 0 (t.length-1)
 ·have HR:=NW (show de t=2 by unfold de;rw[t1,t2,t3];rfl)
  go_enter func42,ntmps42
  go_wp2_with(go_at_call 98;go_must(refine(fQ _ _ _ _).mono ?_);rintro e W1 ⟨rfl,rfl⟩;first|rw[t1]|rw[t2]|rw[t3]|skip)
  go_ret
  exact⟨OA,E0.out⟩
 cases t4:aF t.tail 0 1000
 ·have HR:=NW (show de t=2 by unfold de;rw[t1,t2,t3,t4];rfl)
  go_enter func42,ntmps42
  go_wp2_with(go_at_call 98;go_must(refine(fQ _ _ _ _).mono ?_);rintro e W1 ⟨rfl,rfl⟩;first|rw[t1]|rw[t2]|rw[t3]|rw[t4]|skip)
  go_ret
  exact⟨OA,E0.out⟩
 ·have HR:=NW (show de t=0 by unfold de;rw[t1,t2,t3,t4];rfl)
  go_enter func42,ntmps42
  go_wp2_with(go_at_call 98;go_must(refine(fQ _ _ _ _).mono ?_);rintro e W1 ⟨rfl,rfl⟩;first|rw[t1]|rw[t2]|rw[t3]|rw[t4]|skip)
  go_ret
  exact⟨OA,E0.out⟩
end
section
open Kp
abbrev bN(l:List Int):List (List N2):=l.map fun n=>[.int .i64 n]
def qc(l:List Int)(i:Nat):Int:=if !aF (l.getD i 0) 0 1048576 then 2 else if 0<i∧l.getD i 0≤l.getD (i-1) 0 then 10 else 0
theorem nX(l:List Int):fW l=if 16<l.length then 4 else aQ (qc l) l.length:=rfl
theorem fI{l:List Int}{i:Nat}(hi:i<l.length):((bN l).getD i [])[0]?=N3 (.int .i64 (l.getD i 0)):=by
 simp[List.getD,Oa hi]
theorem tY(w:NY)(A:Option Addr)(cap:Nat)(l:List Int)(hl:bC 1 w w.heap.size A cap (bN l)):
  Of prog 35 #[.slice A l.length cap] w fun e w'=>e= .returned (.int .i64 (fW l))∧w'=w:=by
 obtain⟨h1,h2,h3⟩:=hl
 rw[N9] at h1 h3
 unfold Ol at h2
 by_cases h16:16<l.length
 ·have HR:=NW (show fW l=4 by rw[nX,if_pos h16])
  clear h3
  go_enter func35,ntmps35
  go_wp2
  go_ret
  exact⟨OA,rfl⟩
 have HR:=NW (show fW l=aQ (qc l) l.length by rw[nX,if_neg h16])
 have H3:=NW h3
 clear h3
 go_enter func35,ntmps35
 go_wp2
 go_loopw [10] (fun i wr=>∃k:Nat,k≤l.length∧i= .int .i64 (k:Int)∧wr=w∧∀j,j<k→qc l j=0) (fun i _=>((l.length:Int)-Oh i).toNat)
 case atStart=>exact⟨0,Ot,rfl,rfl,fun j hj=>Ot⟩
 case round=>
  obtain⟨k,hk,rfl,rfl,hall⟩:=hrel
  have HA:=NW hall
  clear hall
  by_cases hlt:k<l.length
  ·obtain⟨b,off,rfl,hB,hcell⟩:=H3.out Ot
   have c1:=hcell k hlt 0 Ov
   rw[fI hlt,Nat.one_mul,Nat.add_zero] at c1
   have hpz:0<k→wr.cell? ⟨b,off+(k-1),N0⟩=N3 (.int .i64 (l.getD (k-1) 0)):=fun h0=>by
    have:=hcell (k-1) Ot 0 Ov
    rwa[fI Ot,Nat.one_mul,Nat.add_zero] at this
   have HF:=NW (show qc l k=if !aF (l.getD k 0) 0 1048576 then 2 else if 0<k∧l.getD k 0≤l.getD (k-1) 0 then 10 else 0 from rfl)
   obtain⟨x,hx⟩:∃x,l.getD k 0=x:=⟨_,rfl⟩
   obtain⟨y,hy⟩:∃y,l.getD (k-1) 0=y:=⟨_,rfl⟩
   rw[hx] at c1 HF
   rw[hy] at hpz HF
   have HPZ:=NW hpz
   clear hx hy hcell hpz
   cases tb:aF x 0 1048576
   ·have HE:=NW (show fW l=2 by rw[HR.out,bS hlt HA.out (by rw[HF.out,tb,if_pos Ov];decide),HF.out,tb,if_pos Ov])
    go_wp2_with(go_at_call 33;go_must(refine(eI _ _ _ _).mono ?_);rintro e W1 ⟨rfl,rfl⟩;rw[tb])
    go_ret
    exact⟨OL,rfl⟩
   by_cases h0:0<k
   ·have c2:=HPZ.out h0
    have tk:decide (0<(k:Int))=Oc:=OH
    have e1:((k:Int)-1).toNat=k-1:=Ot
    by_cases hxy:x≤y
    ·have HE:=NW (show fW l=10 by rw[HR.out,bS hlt HA.out (by rw[HF.out,tb,if_neg Ov,if_pos ⟨h0,hxy⟩];decide),HF.out,tb,if_neg Ov,if_pos ⟨h0,hxy⟩])
     go_wp2_with(go_at_call 33;go_must(refine(eI _ _ _ _).mono ?_);rintro e W1 ⟨rfl,rfl⟩;rw[tb])
     go_ret
     exact⟨OL,rfl⟩
    ·have HZ:=NW (show qc l k=0 by rw[HF.out,tb,if_neg Ov,if_neg (fun h=>hxy h.2)])
     have txy:decide (x≤y)=N1:=by rw[decide_eq_false_iff_not];exact hxy
     go_wp2_with(go_at_call 33;go_must(refine(eI _ _ _ _).mono ?_);rintro e W1 ⟨rfl,rfl⟩;rw[tb])
     refine⟨⟨k+1,Ot,Ow,trivial,fun j hj=> ?_⟩,Oy⟩
     by_cases hjk:j=k
     ·rw[hjk];exact HZ.out
     ·exact HA.out j Ot
   ·have tk:decide (0<(k:Int))=N1:=Oz
    have HZ:=NW (show qc l k=0 by rw[HF.out,tb,if_neg Ov,if_neg (fun h=>h0 h.1)])
    go_wp2_with(go_at_call 33;go_must(refine(eI _ _ _ _).mono ?_);rintro e W1 ⟨rfl,rfl⟩;rw[tb])
    refine⟨⟨k+1,Ot,Ow,trivial,fun j hj=> ?_⟩,Oy⟩
    by_cases hjk:j=k
    ·rw[hjk];exact HZ.out
    ·exact HA.out j Ot
  ·have hlt':decide ((k:Int)<(l.length:Int))=N1:=Oz
   have HE:=NW (show fW l=0 by rw[HR.out,bW (fun j hj=>HA.out j Ot)])
   go_wp2
   go_ret
   exact⟨OL,rfl⟩
end
end Go.Proofs.YtnpihidbkhehjaaGreatDoor
