/- ChangeOnly of kingpostlaw58: part 33 of its proof (merged and shortened by program). -/
import Derived.Test.YtnpihidbkhehjaaGreatDoorM32
set_option linter.unusedVariables false
set_option linter.unusedSimpArgs false
set_option linter.defProp false
set_option maxHeartbeats 8000000
set_option maxRecDepth 100000
open Go.RowKit Go.Shelf Go.Proofs.Tryz
open Array renaming getElem?_eq_some_iff→Od
open Bool renaming false→N1,true→Oc
open Go renaming World→NY,Value→N2,undef→N7,wpOp_step→Ob,Calls→Of,maxLen→Ol,TypeId→Oo
open Go.AllReady renaming cons→Oj,nil→Oq
open Go.IntKind renaming i64→Oe
open Go.IntWalk renaming i64_in→Om
open Go.Lib renaming hid→NW
open Go.RowKit renaming intOf→Oh,Below→On
open Go.World renaming size_alloc→Oi
open List renaming getD_eq_getElem?_getD→N8,length_map→N9,getElem?_eq_getElem→Oa
open Nat renaming le_refl→NZ,mul_comm→Og,le_trans→Ok
open Option renaming none→N0,some→N3
open Go.Proofs.YtnpihidbkhehjaaGreatDoor
namespace Go.Proofs.YtnpihidbkhehjaaGreatDoor
section
open Kp
theorem jm(n:Int)(w:NY):Of prog 110 #[.int .i64 n] w fun e w'=>e= .returned (.bool (aF n 1 1000))∧w'=w:=by
 have hb:aF n 1 1000=(decide (1≤n)&&decide (n≤1000)):=rfl
 rw[hb]
 clear hb
 cases t1:decide (n≥1)<;>cases t2:decide (n≤1000)
 all_goals
  go_enter func110,ntmps110
  go_wp2
  go_ret
  exact⟨rfl,rfl⟩
theorem xM{w:NY}{B:Nat}{A:Option Addr}{cap:Nat}{l:List Sz}(h:bC 3 w B A cap (bt l))(hp:0<l.length):
  ∃b off,A=N3 ⟨b,off,N0⟩∧b<B∧∀i,i<l.length→w.cell? ⟨b,off+i*3,N0⟩=N3 (.int .i64 (l.getD i kJ).kind)∧w.cell? ⟨b,off+i*3+1,N0⟩=N3 (.int .i64 (l.getD i kJ).width)∧w.cell? ⟨b,off+i*3+2,N0⟩=N3 (.int .i64 (l.getD i kJ).depth):=by
 obtain⟨h1,h2,h3⟩:=h
 obtain⟨b,off,e,hb,hc⟩:=h3 (by rw[N9];exact hp)
 refine⟨b,off,e,hb,fun i hi=> ?_⟩
 have q:∀m,m<3→w.cell? ⟨b,off+i*3+m,N0⟩=(z8 (l.getD i kJ))[m]?:=by
  intro m hm
  have:=hc i PM m hm
  rw[sE hi,Og] at this
  exact this
 exact⟨q 0 Ov,q 1 Ov,q 2 Ov⟩
theorem xU(w:NY)(A:Option Addr)(cap:Nat)(l:List Sz)(hl:bC 3 w w.heap.size A cap (bt l)):
  Of prog 53 #[.slice A l.length cap] w fun x w'=>(∃k:Int,x= .returned (.int .i64 k))∧Ext w w':=by
 have h1:=hl.1
 have h2:=hl.2.1
 rw[N9] at h1
 unfold Ol at h2
 have HL:=NW (fun(W:NY) (hx:Ext w W)=>((hl.below hx).more hx.size:bC 3 W W.heap.size A cap (bt l)))
 clear hl
 go_enter func53,ntmps53
 go_wp2
 go_loopw [3] (fun i wr=>∃k:Nat,i= .int .i64 (k:Int)∧k≤l.length∧Ext w wr) (fun i _=>((l.length:Int)-Oh i).toNat)
 case atStart=>exact⟨0,rfl,Ot,Below.refl _ _⟩
 case round=>
  obtain⟨k,rfl,hk,hX⟩:=hrel
  have HX:=NW hX
  by_cases hlt:k<l.length
  ·obtain⟨b,off,rfl,hb,hc⟩:=xM (HL.out _ hX) Ot
   obtain⟨c0,c1,c2⟩:=hc k hlt
   obtain⟨kd,hkd⟩:∃x,(l.getD k kJ).kind=x:=⟨_,rfl⟩
   obtain⟨wd,hwd⟩:∃x,(l.getD k kJ).width=x:=⟨_,rfl⟩
   obtain⟨dp,hdp⟩:∃x,(l.getD k kJ).depth=x:=⟨_,rfl⟩
   rw[hkd] at c0
   rw[hwd] at c1
   rw[hdp] at c2
   obtain⟨p1,t1⟩:∃p,decide (kd<1)=p:=⟨_,rfl⟩
   obtain⟨p2,t2⟩:∃p,decide (kd>12)=p:=⟨_,rfl⟩
   obtain⟨p3,t3⟩:∃p,aF wd 1 1000=p:=⟨_,rfl⟩
   obtain⟨p4,t4⟩:∃p,aF dp 1 1000=p:=⟨_,rfl⟩
   have hl2:∀q,q=l.length→0<q:=fun q h=>Ot
   clear hX hc hkd hwd hdp hb
   cases p1
   ·cases p2
    ·cases p3
     ·go_wp2_with(go_at_call 110;go_must(refine(jm _ _).mono ?_);rintro e W1 ⟨rfl,rfl⟩)
      go_ret
      exact⟨⟨_,rfl⟩,HX.out⟩
     ·cases p4
      ·go_wp2_with(go_at_call 110;go_must(refine(jm _ _).mono ?_);rintro e W1 ⟨rfl,rfl⟩)
       go_ret
       exact⟨⟨_,rfl⟩,HX.out⟩
      ·go_wp2_with(go_at_call 110;go_must(refine(jm _ _).mono ?_);rintro e W1 ⟨rfl,rfl⟩)
       go_loopw [4] (fun i wr=>∃m:Nat,i= .int .i64 (m:Int)∧m≤k∧Ext w wr) (fun i _=>((k:Int)-Oh i).toNat)
       case atStart=>exact⟨0,rfl,Ot,HX.out⟩
       case round=>
        obtain⟨m,rfl,hm,hX3⟩:=hrel
        have HX3:=NW hX3
        by_cases hlt2:m<k
        ·obtain⟨b',off',e,hb,hc⟩:=xM (HL.out _ hX3) Ot
         injection e with e
         injection e with e1 e2
         subst e1;subst e2
         have d0:=(hc m Ot).1
         have d1:=(hc k hlt).1
         have hml:m<l.length:=Ot
         clear hX3 hc hb c0 c1 c2
         go_wp2_with fail
         go_quiet (fail)
         go_wp2
         ·go_ret
          exact⟨⟨_,rfl⟩,below_drewN HX3.out _⟩
         ·exact⟨⟨m+1,by go_num,Ot,below_drewN HX3.out _⟩,Oy⟩
        ·obtain rfl:m=k:=Ot
         go_wp2
         exact⟨⟨m+1,by go_num,Ot,HX3.out⟩,Oy⟩
    ·go_wp2
     go_ret
     exact⟨⟨_,rfl⟩,HX.out⟩
   ·go_wp2
    go_ret
    exact⟨⟨_,rfl⟩,HX.out⟩
  ·obtain rfl:k=l.length:=Ot
   go_wp2
   go_ret
   exact⟨⟨_,rfl⟩,HX.out⟩
end
section
open Kp
theorem Dq{w:NY}{B:Nat}{A:Option Addr}{cap:Nat}{l:List Aw}(h:bC 5 w B A cap (aX l))(hp:0<l.length):
  ∃b off,A=N3 ⟨b,off,N0⟩∧b<B∧∀i,i<l.length→w.cell? ⟨b,off+i*5,N0⟩=N3 (.int .i64 (l.getD i mL).width)∧w.cell? ⟨b,off+i*5+1,N0⟩=N3 (.int .i64 (l.getD i mL).depth)∧w.cell? ⟨b,off+i*5+2,N0⟩=N3 (.int .i64 (l.getD i mL).spacing)∧w.cell? ⟨b,off+i*5+3,N0⟩=N3 (.int .i64 (l.getD i mL).load)∧w.cell? ⟨b,off+i*5+4,N0⟩=N3 (.int .i64 (l.getD i mL).span):=by
 obtain⟨h1,h2,h3⟩:=h
 obtain⟨b,off,e,hb,hc⟩:=h3 (by rw[N9];exact hp)
 refine⟨b,off,e,hb,fun i hi=> ?_⟩
 have hr:(aX l).getD i []=gF (l.getD i mL):=by simp[List.getD,Oa hi]
 have q:∀m,m<5→w.cell? ⟨b,off+i*5+m,N0⟩=(gF (l.getD i mL))[m]?:=by
  intro m hm
  have:=hc i PM m hm
  rw[hr,Og] at this
  exact this
 exact⟨q 0 Ov,q 1 Ov,q 2 Ov,q 3 Ov,q 4 Ov⟩
def yR(a b s l:Int):Int:=if(aF a 1 1000&&aF b 1 1000&&aF s 1 65536&&aF l 0 1048576)=Oc then 0 else 2
theorem mz(a b s l:Int)(w:NY):Of prog 113 #[.int .i64 a,.int .i64 b,.int .i64 s,.int .i64 l] w fun x w'=>x= .returned (.int .i64 (yR a b s l))∧w'=w:=by
 unfold yR
 cases t1:aF a 1 1000 with
 |false=>
  go_enter func113,ntmps113
  go_wp2_with(go_at_call 114;go_must(refine(gE _ _ _ _).mono ?_);rintro e W1 ⟨rfl,rfl⟩)
  go_ret
  exact⟨rfl,rfl⟩
 |true=>
  cases t2:aF b 1 1000 with
  |false=>
   go_enter func113,ntmps113
   go_wp2_with(go_at_call 114;go_must(refine(gE _ _ _ _).mono ?_);rintro e W1 ⟨rfl,rfl⟩)
   go_ret
   exact⟨rfl,rfl⟩
  |true=>
   cases t3:aF s 1 65536 with
   |false=>
    go_enter func113,ntmps113
    go_wp2_with(go_at_call 114;go_must(refine(gE _ _ _ _).mono ?_);rintro e W1 ⟨rfl,rfl⟩)
    go_ret
    exact⟨rfl,rfl⟩
   |true=>
    cases t4:aF l 0 1048576 with
    |false=>
     go_enter func113,ntmps113
     go_wp2_with(go_at_call 114;go_must(refine(gE _ _ _ _).mono ?_);rintro e W1 ⟨rfl,rfl⟩)
     go_ret
     exact⟨rfl,rfl⟩
    |true=>
     go_enter func113,ntmps113
     go_wp2_with(go_at_call 114;go_must(refine(gE _ _ _ _).mono ?_);rintro e W1 ⟨rfl,rfl⟩)
     go_ret
     exact⟨rfl,rfl⟩
theorem sQ(a b:Aw)(w:NY):Of prog 115 #[.agg (gF a).toArray,.agg (gF b).toArray] w fun x w'=>(∃b:Bool,x= .returned (.bool b))∧Ext w w':=by
 have E0:=NW (dI w (.cells (gF a).toArray 48) (.cells (gF b).toArray 48))
 have RA:=((af.new w 48 (gF a)).ext ((Below.refl _ _).alloc (NZ _) (.cells (gF b).toArray 48)))
 have RB:=af.new (w.alloc (.cells (gF a).toArray 48)) 48 (gF b)
 rw[Oi] at RB
 have ca:=fun i=>RA.cell i
 have cb:=fun i=>RB.cell i
 clear RA RB
 go_enter func115,ntmps115
 go_wp2
 all_goals
  go_ret
  exact⟨⟨_,rfl⟩,E0.out⟩
theorem vO(w:NY)(A:Option Addr)(cap:Nat)(l:List Aw)(hl:bC 5 w w.heap.size A cap (aX l)):
  Of prog 57 #[.slice A l.length cap] w fun x w'=>(∃k:Int,x= .returned (.int .i64 k))∧Ext w w':=by
 have h1:=hl.1
 have h2:=hl.2.1
 rw[N9] at h1
 unfold Ol at h2
 have HL:=NW (fun(W:NY) (hx:Ext w W)=>((hl.below hx).more hx.size:bC 5 W W.heap.size A cap (aX l)))
 clear hl
 go_enter func57,ntmps57
 go_wp2
 ·go_ret
  exact⟨⟨_,rfl⟩,Below.refl _ _⟩
 go_loopw [3] (fun i wr=>∃k:Nat,i= .int .i64 (k:Int)∧k≤l.length∧Ext w wr) (fun i _=>((l.length:Int)-Oh i).toNat)
 case atStart=>exact⟨0,rfl,Ot,Below.refl _ _⟩
 case round=>
  obtain⟨k,rfl,hk,hX⟩:=hrel
  have HX:=NW hX
  by_cases hlt:k<l.length
  ·obtain⟨b,off,rfl,hb,hc⟩:=Dq (HL.out _ hX) Ot
   obtain⟨y0,y1,y2,y3,y4⟩:=hc k hlt
   have HC:=NW hc
   have HB:=NW hb
   obtain⟨x,hx⟩:∃x,l.getD k mL=x:=⟨_,rfl⟩
   rw[hx] at y0 y1 y2 y3 y4
   have HXX:=NW hx
   obtain⟨xw,xd,xs,xl,xp⟩:=x
   dsimp only at y0 y1 y2 y3 y4
   have KC:=NW (fun W=>mz xw xd xs xl W)
   obtain⟨c,hc5⟩:∃c,yR xw xd xs xl=c:=⟨_,rfl⟩
   simp only[hc5] at KC
   obtain⟨p,hp⟩:∃p,aF xp 1 65536=p:=⟨_,rfl⟩
   have KO:=NW (fun W=>gE xp 1 65536 W)
   simp only[hp] at KO
   clear hX hc hb hx hc5 hp
   by_cases hc0:c=0
   ·subst hc0
    cases p with
    |false=>
     go_wp2_with fail
     go_quiet ((first|(go_at_call 113;exact Calls.quiet_of_same (KC.out _))|(go_at_call 114;exact Calls.quiet_of_same (KO.out _))))
     go_wp2
     go_ret
     exact⟨⟨_,rfl⟩,below_drewN HX.out _⟩
    |true=>
     go_wp2_with fail
     go_quiet ((first|(go_at_call 113;exact Calls.quiet_of_same (KC.out _))|(go_at_call 114;exact Calls.quiet_of_same (KO.out _))))
     by_cases hk0:k=0
     ·subst hk0
      go_wp2_with fail
      go_quiet (fail)
      go_wp2
      exact⟨⟨1,by go_num,Ot,below_drewN HX.out _⟩,Oy⟩
     ·have t5:decide ((k:Int)>0)=Oc:=decide_eq_true Ot
      have t6:0<k:=Ot
      have w1:Oe.wrap ((k:Int)-1)=((k-1:Nat):Int):=by rw[Om _ Ot];omega
      have hkl:k-1<l.length:=Ot
      obtain⟨z0,z1,z2,z3,z4⟩:=HC.out (k-1) hkl
      obtain⟨v,hv⟩:∃x,l.getD (k-1) mL=x:=⟨_,rfl⟩
      rw[hv] at z0 z1 z2 z3 z4
      obtain⟨k1,hk1⟩:∃q,k-1=q:=⟨_,rfl⟩
      rw[hk1] at w1 hkl z0 z1 z2 z3 z4
      obtain⟨vw,vd,vs,vl,vp⟩:=v
      dsimp only at z0 z1 z2 z3 z4
      have a0:=fun w' (h:Ext wr w')=>(h.cell (p:=⟨b,off+k*5,N0⟩) HB.out).trans y0
      have b0:=fun w' (h:Ext wr w')=>(h.cell (p:=⟨b,off+k1*5,N0⟩) HB.out).trans z0
      have a1:=fun w' (h:Ext wr w')=>(h.cell (p:=⟨b,off+k*5+1,N0⟩) HB.out).trans y1
      have b1:=fun w' (h:Ext wr w')=>(h.cell (p:=⟨b,off+k1*5+1,N0⟩) HB.out).trans z1
      have a2:=fun w' (h:Ext wr w')=>(h.cell (p:=⟨b,off+k*5+2,N0⟩) HB.out).trans y2
      have b2:=fun w' (h:Ext wr w')=>(h.cell (p:=⟨b,off+k1*5+2,N0⟩) HB.out).trans z2
      have a3:=fun w' (h:Ext wr w')=>(h.cell (p:=⟨b,off+k*5+3,N0⟩) HB.out).trans y3
      have b3:=fun w' (h:Ext wr w')=>(h.cell (p:=⟨b,off+k1*5+3,N0⟩) HB.out).trans z3
      have a4:=fun w' (h:Ext wr w')=>(h.cell (p:=⟨b,off+k*5+4,N0⟩) HB.out).trans y4
      have b4:=fun w' (h:Ext wr w')=>(h.cell (p:=⟨b,off+k1*5+4,N0⟩) HB.out).trans z4
      clear z0 z1 z2 z3 z4 y0 y1 y2 y3 y4 hv hk1 hk0
      go_wp2_with fail
      go_region_held3(fun w'=>Ext wr w') (first|exact hx1|exact below_drewN (below_drewN (Below.refl _ _) _) _|exact Ext.tr (below_drewN (Below.refl _ _) _) (Ext.dr _)) (first|(go_at_call 115;go_must(refine(sQ ⟨vw,vd,vs,vl,vp⟩ ⟨xw,xd,xs,xl,xp⟩ _).mono ?_);rintro e W3 ⟨⟨q,rfl⟩,hX4⟩;have hx1:Ext wr W3:=Ext.tr (Ext.tr (below_drewN (Below.refl _ _) _) (Ext.dr _)) hX4;clear hX4))
      go_wp2
      ·go_ret
       exact⟨⟨_,rfl⟩,HX.out.tr hx1⟩
      ·go_round
       case rel=>exact⟨k+1,by go_num,Ot,HX.out.tr hx1⟩
       case measure=>simp[Oh];omega
   ·have t1:(c !=0)=Oc:=PD
    clear hc0
    go_wp2_with fail
    go_quiet ((go_at_call 113;exact Calls.quiet_of_same (KC.out _)))
    go_wp2
    go_ret
    exact⟨⟨_,rfl⟩,below_drewN HX.out _⟩
  ·obtain rfl:k=l.length:=Ot
   go_wp2
   go_ret
   exact⟨⟨_,rfl⟩,HX.out⟩
end
section
open Kp
theorem tM(z:ByteArray)(m:Nat)(w:NY)(hs:z.size≤100000)(hm:m≤1000)(ht:aL w):Of prog 177 #[.string z,.int .i64 (m:Int)] w fun e w'=>(∃k:Int,e= .returned (.int .i64 k)∧(k=0→0<z.size))∧Ext w w':=by
 have KC:=NW (fU z w Ot ht)
 have HT:=NW ht
 have hpn:=n8 z
 have hpd:=oq z
 have HN:=NW (fun(h:uF z)=>h.num)
 obtain⟨a,ha⟩:∃a,pN (bH z)=a:=⟨_,rfl⟩
 obtain⟨b,hb⟩:∃b,pD (bH z)=b:=⟨_,rfl⟩
 rw[ha] at hpn
 rw[hb] at hpd
 have HA:=NW ha
 have HB:=NW hb
 have HZ:=NW (show z.size≤1000000 by omega)
 clear ha hb ht
 go_enter func177,ntmps177
 go_wp2_with(go_at_call 212;go_loud (refine KC.out.mono ?_);rintro e W1 ⟨⟨k,rfl,hk⟩,hX1⟩;have X1:=NW hX1;have HK:=NW hk;clear hX1 hk)
 ·go_ret
  exact⟨⟨_,rfl,fun h=>Pt⟩,X1.out⟩
 ·have hok:=HK.out.1 Pt
  have hnum:=HN.out hok
  have hn1:=hnum.num
  rw[HA.out] at hn1
  have HP:=NW hnum.pos
  refine(lR z W1 HZ.out (HT.out.below X1.out (NZ _))).mono ?_
  rintro e W2 ⟨⟨x,y,c,rfl,h1⟩,hX2⟩
  obtain⟨rfl,rfl,rfl⟩:=h1 hok
  rw[HA.out,HB.out]
  have X2:=NW (X1.out.tr hX2)
  clear hX2 h1 hok hnum
  obtain⟨p2,t2⟩:∃p,(((a[0]'hn1).toNat:Int)==45)=p:=⟨_,rfl⟩
  cases p2
  all_goals
   go_wp2
   all_goals
    go_ret
    exact⟨⟨_,rfl,fun _=>HP.out⟩,X2.out⟩
theorem uy (z : ByteArray) (w : NY) (hs : z.size ≤ 100000) (ht : aL w) : Of prog 112 #[.string z] w fun e w' => EZ e ∧ Ext w w' := by
  have KD := NW (tM z 20 w hs Ov ht)
  go_enter func112, ntmps112
  go_wp2_with (go_at_call 177; go_loud (refine KD.out.mono ?_); rintro e W1 ⟨⟨k, rfl, hk⟩, hX1⟩; have X1 := NW hX1; have HK := NW hk; clear hX1 hk)
  all_goals first
    | (go_ret
       exact ⟨⟨_, rfl⟩, X1.out⟩)
    | exact absurd (HK.out Pt) OD
end
section
open Kp
theorem yd(w:NY)(A:Option Addr)(cap:Nat)(l:List Ld)(hl:bC 3 w w.heap.size A cap (bD l))(hs:∀i,i<l.length→(l.getD i mD).weight.length≤50)(ht:aL w):
  Of prog 56 #[.slice A l.length cap] w fun x w'=>EZ x∧Ext w w':=by
 have h1:=hl.1
 have h2:=hl.2.1
 rw[N9] at h1
 unfold Ol at h2
 have HL:=NW (fun(W:NY) (hx:Ext w W)=>((hl.below hx).more hx.size:bC 3 W W.heap.size A cap (bD l)))
 have HS:=NW hs
 have HT:=NW ht
 clear hl hs ht
 by_cases h64:64<l.length
 ·go_enter func56,ntmps56
  go_wp2
  go_ret
  exact⟨⟨_,rfl⟩,Below.refl _ _⟩
 go_enter func56,ntmps56
 go_wp2
 go_loopw [3] (fun i wr=>∃k:Nat,i= .int .i64 (k:Int)∧k≤l.length∧Ext w wr) (fun i _=>((l.length:Int)-Oh i).toNat)
 case atStart=>exact⟨0,rfl,Ot,Below.refl _ _⟩
 case round=>
  obtain⟨k,rfl,hk,hX⟩:=hrel
  have HX:=NW hX
  by_cases hlt:k<l.length
  ·obtain⟨b,off,rfl,hb,hc⟩:=vX (HL.out _ hX) Ot
   obtain⟨y0,y1,y2⟩:=hc k hlt
   have hw:=HS.out k hlt
   obtain⟨o,ho⟩:∃n,l.getD k mD=n:=⟨_,rfl⟩
   rw[ho] at y0 y1 y2 hw
   have K1:=NW (uy (tx o.weight) wr PL (HT.out.below hX (NZ _)))
   obtain⟨kd,sd,wt⟩:=o
   dsimp only at y0 y1 y2 K1
   have e1:(k:Int)<(l.length:Int):=Ot
   clear hX hc ho hb
   by_cases q1:1≤kd∧kd≤3
   ·obtain⟨q1,q2⟩:=q1
    by_cases q3: -1≤sd∧sd<24
    ·obtain⟨q3,q4⟩:=q3
     have t1:¬kd<1:=Ot
     have t2:¬3<kd:=Ot
     have t3:¬sd< -1:=Ot
     have t4:¬24≤sd:=Ot
     go_wp2_with(go_at_call 112;go_loud (refine K1.out.mono ?_);rintro e W1 ⟨⟨c,rfl⟩,hX1⟩;have X1:=NW (HX.out.tr hX1);clear hX1)
     ·go_ret
      exact⟨⟨_,rfl⟩,X1.out⟩
     ·exact⟨⟨k+1,by go_num,Ot,X1.out⟩,Oy⟩
    ·by_cases q4:sd< -1
     all_goals
      go_wp2_with fail
      go_ret
      exact⟨⟨_,rfl⟩,HX.out⟩
   ·by_cases q4:kd<1
    all_goals
     go_wp2_with fail
     go_ret
     exact⟨⟨_,rfl⟩,HX.out⟩
  ·obtain rfl:k=l.length:=Ot
   clear hX
   go_wp2
   go_ret
   exact⟨⟨_,rfl⟩,HX.out⟩
end
section
open Kp
theorem eU(t:Tl):de t=if t.width<1∨2000<t.width∨t.length<1∨2000<t.length∨t.lap<0∨t.length≤t.lap∨t.tail<0∨1000<t.tail then 2 else 0:=by
 unfold de aF
 by_cases h:t.width<1∨2000<t.width∨t.length<1∨2000<t.length∨t.lap<0∨t.length≤t.lap∨t.tail<0∨1000<t.tail
 ·rw[if_pos h,if_neg]
  simp only[Bool.and_eq_true,decide_eq_true_eq]
  omega
 ·rw[if_neg h,if_pos]
  simp only[Bool.and_eq_true,decide_eq_true_eq]
  omega
theorem ue(t:Tl)(w:NY):Of prog 55 #[.agg (MH t).toArray] w fun e w'=>e= .returned (.int .i64 (de t))∧Ext w w':=by
 have E0:=NW (show Ext w (w.alloc (.cells (MH t).toArray 30)) from(Below.refl _ _).alloc (NZ _) _)
 by_cases h1:t.width<1
 ·have HR:=NW (show de t=2 by rw[eU,if_pos Ot])
  have d1:decide (t.width<1)=Oc:=by rw[decide_eq_true_eq];exact h1
  go_enter func55,ntmps55
  go_wp2
  go_ret
  exact⟨OA,E0.out⟩
 by_cases h2:2000<t.width
 ·have HR:=NW (show de t=2 by rw[eU,if_pos Ot])
  have d1:decide (t.width<1)=N1:=OY
  have d2:decide (2000<t.width)=Oc:=by rw[decide_eq_true_eq];exact h2
  go_enter func55,ntmps55
  go_wp2
  go_ret
  exact⟨OA,E0.out⟩
 by_cases h3:t.length<1
 ·have HR:=NW (show de t=2 by rw[eU,if_pos Ot])
  have d1:decide (t.width<1)=N1:=OY
  have d2:decide (2000<t.width)=N1:=O2
  have d3:decide (t.length<1)=Oc:=by rw[decide_eq_true_eq];exact h3
  go_enter func55,ntmps55
  go_wp2
  go_ret
  exact⟨OA,E0.out⟩
 by_cases h4:2000<t.length
 ·have HR:=NW (show de t=2 by rw[eU,if_pos Ot])
  have d1:decide (t.width<1)=N1:=OY
  have d2:decide (2000<t.width)=N1:=O2
  have d3:decide (t.length<1)=N1:=Pe
  have d4:decide (2000<t.length)=Oc:=by rw[decide_eq_true_eq];exact h4
  go_enter func55,ntmps55
  go_wp2
  go_ret
  exact⟨OA,E0.out⟩
 by_cases h5:t.lap<0
 ·have HR:=NW (show de t=2 by rw[eU,if_pos Ot])
  have d1:decide (t.width<1)=N1:=OY
  have d2:decide (2000<t.width)=N1:=O2
  have d3:decide (t.length<1)=N1:=Pe
  have d4:decide (2000<t.length)=N1:=Pm
  have d5:decide (t.lap<0)=Oc:=by rw[decide_eq_true_eq];exact h5
  go_enter func55,ntmps55
  go_wp2
  go_ret
  exact⟨OA,E0.out⟩
 by_cases h6:t.length≤t.lap
 ·have HR:=NW (show de t=2 by rw[eU,if_pos Ot])
  have d1:decide (t.width<1)=N1:=OY
  have d2:decide (2000<t.width)=N1:=O2
  have d3:decide (t.length<1)=N1:=Pe
  have d4:decide (2000<t.length)=N1:=Pm
  have d5:decide (t.lap<0)=N1:=PF
  have d6:decide (t.length≤t.lap)=Oc:=by rw[decide_eq_true_eq];exact h6
  go_enter func55,ntmps55
  go_wp2
  go_ret
  exact⟨OA,E0.out⟩
 by_cases h7:t.tail<0
 ·have HR:=NW (show de t=2 by rw[eU,if_pos Ot])
  have d1:decide (t.width<1)=N1:=OY
  have d2:decide (2000<t.width)=N1:=O2
  have d3:decide (t.length<1)=N1:=Pe
  have d4:decide (2000<t.length)=N1:=Pm
  have d5:decide (t.lap<0)=N1:=PF
  have d6:decide (t.length≤t.lap)=N1:=by rw[decide_eq_false_iff_not];exact h6
  have d7:decide (t.tail<0)=Oc:=by rw[decide_eq_true_eq];exact h7
  go_enter func55,ntmps55
  go_wp2
  go_ret
  exact⟨OA,E0.out⟩
 by_cases h8:1000<t.tail
 ·have HR:=NW (show de t=2 by rw[eU,if_pos Ot])
  have d1:decide (t.width<1)=N1:=OY
  have d2:decide (2000<t.width)=N1:=O2
  have d3:decide (t.length<1)=N1:=Pe
  have d4:decide (2000<t.length)=N1:=Pm
  have d5:decide (t.lap<0)=N1:=PF
  have d6:decide (t.length≤t.lap)=N1:=by rw[decide_eq_false_iff_not];exact h6
  have d7:decide (t.tail<0)=N1:=by rw[decide_eq_false_iff_not];exact h7
  have d8:decide (1000<t.tail)=Oc:=by rw[decide_eq_true_eq];exact h8
  go_enter func55,ntmps55
  go_wp2
  go_ret
  exact⟨OA,E0.out⟩
 ·have HR:=NW (show de t=0 by rw[eU,if_neg Ot])
  have d1:decide (t.width<1)=N1:=OY
  have d2:decide (2000<t.width)=N1:=O2
  have d3:decide (t.length<1)=N1:=Pe
  have d4:decide (2000<t.length)=N1:=Pm
  have d5:decide (t.lap<0)=N1:=PF
  have d6:decide (t.length≤t.lap)=N1:=by rw[decide_eq_false_iff_not];exact h6
  have d7:decide (t.tail<0)=N1:=by rw[decide_eq_false_iff_not];exact h7
  have d8:decide (1000<t.tail)=N1:=by rw[decide_eq_false_iff_not];exact h8
  go_enter func55,ntmps55
  go_wp2
  go_ret
  exact⟨OA,E0.out⟩
end
section
open Kp
theorem sY(w:NY)(A:Option Addr)(cap:Nat)(l:List Int)(hl:bC 1 w w.heap.size A cap (bN l)):
  Of prog 51 #[.slice A l.length cap] w fun e w'=>e= .returned (.int .i64 (fW l))∧Ext w w':=by
 obtain⟨h1,h2,h3⟩:=hl
 rw[N9] at h1 h3
 unfold Ol at h2
 by_cases h16:16<l.length
 ·have HR:=NW (show fW l=4 by rw[nX,if_pos h16])
  clear h3
  go_enter func51,ntmps51
  go_wp2
  go_ret
  exact⟨OA,O0⟩
 have HR:=NW (show fW l=aQ (qc l) l.length by rw[nX,if_neg h16])
 have H3:=NW h3
 clear h3
 go_enter func51,ntmps51
 go_wp2
 go_loopw [3] (fun i wr=>∃k:Nat,k≤l.length∧i= .int .i64 (k:Int)∧Ext w wr∧∀j,j<k→qc l j=0) (fun i _=>((l.length:Int)-Oh i).toNat)
 case atStart=>exact⟨0,Ot,rfl,Below.refl _ _,fun j hj=>Ot⟩
 case round=>
  obtain⟨k,hk,rfl,hX,hall⟩:=hrel
  have HX:=NW hX
  have HA:=NW hall
  clear hall
  by_cases hlt:k<l.length
  ·obtain⟨b,off,rfl,hB,hcell0⟩:=H3.out Ot
   have hcell:=fun i hi j hj=>(hX.cell (p:=⟨b,off+1*i+j,N0⟩) hB).trans (hcell0 i hi j hj)
   clear hcell0 hX
   have c1:=hcell k hlt 0 Ov
   rw[fI hlt,Nat.one_mul,Nat.add_zero] at c1
   have hpz:0<k→wr.cell? ⟨b,off+(k-1),N0⟩=N3 (.int .i64 (l.getD (k-1) 0)):=fun h0=>by
    have:=hcell (k-1) Ot 0 Ov
    rwa[fI Ot,Nat.one_mul,Nat.add_zero] at this
   have HF:=NW (show qc l k=if !aF (l.getD k 0) 0 1048576 then 2 else if 0<k∧l.getD k 0≤l.getD (k-1) 0 then 10 else 0 from rfl)
   obtain⟨x,hx⟩:∃x,l.getD k 0=x:=⟨_,rfl⟩
   obtain⟨y,hy⟩:∃y,l.getD (k-1) 0=y:=⟨_,rfl⟩
   rw[hx] at c1 HF
   rw[hy] at hpz HF
   have HPZ:=NW hpz
   clear hx hy hcell hpz
   cases tb:aF x 0 1048576
   ·have HE:=NW (show fW l=2 by rw[HR.out,bS hlt HA.out (by rw[HF.out,tb,if_pos Ov];decide),HF.out,tb,if_pos Ov])
    go_wp2_with(go_at_call 50;go_must(refine(eK _ _ _ _).mono ?_);rintro e W1 ⟨rfl,rfl⟩;rw[tb])
    go_ret
    exact⟨OL,O0⟩
   by_cases h0:0<k
   ·have c2:=HPZ.out h0
    have tk:decide (0<(k:Int))=Oc:=OH
    have e1:((k:Int)-1).toNat=k-1:=Ot
    have e2:0≤(k:Int)-1:=Ot
    have e3:(k:Int)-1<(l.length:Int):=Ot
    have e4:(k:Int)<(l.length:Int):=Ot
    have e5:Oe.wrap ((k:Int)-1)=(k:Int)-1:=Om _ Ot
    by_cases hxy:x≤y
    ·have HE:=NW (show fW l=10 by rw[HR.out,bS hlt HA.out (by rw[HF.out,tb,if_neg Ov,if_pos ⟨h0,hxy⟩];decide),HF.out,tb,if_neg Ov,if_pos ⟨h0,hxy⟩])
     go_wp2_with(go_at_call 50;go_must(refine(eK _ _ _ _).mono ?_);rintro e W1 ⟨rfl,rfl⟩;rw[tb])
     go_quiet (fail)
     go_wp2
     go_ret
     exact⟨OL,O0⟩
    ·have HZ:=NW (show qc l k=0 by rw[HF.out,tb,if_neg Ov,if_neg (fun h=>hxy h.2)])
     have txy:decide (x≤y)=N1:=by rw[decide_eq_false_iff_not];exact hxy
     go_wp2_with(go_at_call 50;go_must(refine(eK _ _ _ _).mono ?_);rintro e W1 ⟨rfl,rfl⟩;rw[tb])
     go_quiet (fail)
     go_wp2
     refine⟨⟨k+1,Ot,Ow,by first|exact HX.out|exact below_drewN HX.out _,fun j hj=> ?_⟩,Oy⟩
     by_cases hjk:j=k
     ·rw[hjk];exact HZ.out
     ·exact HA.out j Ot
   ·have tk:decide (0<(k:Int))=N1:=Oz
    have HZ:=NW (show qc l k=0 by rw[HF.out,tb,if_neg Ov,if_neg (fun h=>h0 h.1)])
    go_wp2_with(go_at_call 50;go_must(refine(eK _ _ _ _).mono ?_);rintro e W1 ⟨rfl,rfl⟩;rw[tb])
    go_quiet (fail)
    go_wp2
    refine⟨⟨k+1,Ot,Ow,by first|exact HX.out|exact below_drewN HX.out _,fun j hj=> ?_⟩,Oy⟩
    by_cases hjk:j=k
    ·rw[hjk];exact HZ.out
    ·exact HA.out j Ot
  ·have hlt':decide ((k:Int)<(l.length:Int))=N1:=Oz
   have HE:=NW (show fW l=0 by rw[HR.out,bW (fun j hj=>HA.out j Ot)])
   go_wp2
   go_ret
   exact⟨OL,O0⟩
end
section
open Kp
attribute [local go_sem] PU Qz QN QK QA QF QG QM Qx QE QI Qo Qd Qi Qt Qq
structure Lu(j:du):Prop where
 name:j.name.length≤1000000
 rings:j.rings.flatten.length≤1000000
 ops:j.openings.length≤32→∀i,i<j.openings.length→pG (j.openings.getD i fK)
 aq:∀i,i<j.aq.length→(j.aq.getD i mD).weight.length≤50
def NP(j:du)(x:Ending):Prop:=∃k:Int,x= .returned (.int .i64 k)∧(k=0→j.openings.length≤32)
theorem wu(w:NY)(j:du)(a:fm)(hb:bh w w.heap.size j a)(hj:Lu j)(ht:aL w):
  Of prog 12 #[.agg (dy j a)] w fun x w'=>NP j x∧Ext w w':=by
 have E0:=NW (show Ext w (w.alloc (.cells (dy j a) 34)) from(Below.refl _ _).alloc (NZ _) _)
 have J0:JC (w.alloc (.cells (dy j a) 34)) w.heap.size j a:=NY.alloc_heap_new w _
 obtain⟨w0,hw0⟩:∃w0,w.alloc (.cells (dy j a) 34)=w0:=⟨_,rfl⟩
 rw[hw0] at E0 J0
 have HW0:=NW hw0
 have HC:=NW (fun W (h:Ext w0 W) i=>(JC.ext J0 h).cell i)
 have HB:=NW (fun W (h:Ext w0 W)=>hb.grow (E0.out.tr h))
 have HT:=NW (fun W (h:Ext w0 W)=>ht.below (E0.out.tr h) (NZ _))
 have KN:=NW (fun W=>uV j.name W hj.name)
 have KP:=NW (fun W (h:Ext w0 W)=>mP W a.pa a.pc j.rings (HB.out W h).p hj.rings)
 have KU:=NW (fun W (h:Ext w0 W)=>sY W a.ua a.uc j.purlins (HB.out W h).u)
 have KO:=NW (fun W (h:Ext w0 W)=>qb W a.pa a.pc j.rings (HB.out W h).p hj.rings a.oa a.oc j.openings (HB.out W h).o hj.ops (HT.out W h))
 have KZ:=NW (fun W (h:Ext w0 W)=>xU W a.za a.zc j.sizes (HB.out W h).z)
 have KB:=NW (fun W (h:Ext w0 W)=>xe W a.ba a.bc j.bars (HB.out W h).b)
 have KT:=NW (fun W=>ue j.tile W)
 have KL:=NW (fun W (h:Ext w0 W)=>yd W a.la a.lc j.aq (HB.out W h).l hj.aq (HT.out W h))
 have KS:=NW (fun W (h:Ext w0 W)=>vO W a.sa a.sc j.spans (HB.out W h).s)
 clear hb hj ht hw0 J0
 go_enter func12,ntmps12
 go_wp2_with(go_at_call 48;fail)
 rw[HW0.out]
 have X0:=NW (Ext.an w0)
 refine(KN.out _).mono ?_
 rintro e W1 ⟨⟨b1,rfl⟩,hX1⟩
 have X1:=NW (X0.out.tr hX1)
 have c1:=HC.out _ X1.out
 clear hX1
 cases b1
 case false=>
  go_wp2_with fail
  go_ret
  exact⟨⟨_,rfl,fun h=>absurd h Ov⟩,E0.out.tr X1.out⟩
 go_wp2_with(go_at_call 49;fail)
 refine(KP.out _ X1.out).mono ?_
 rintro e W2 ⟨⟨k2,rfl,_⟩,hX2⟩
 have X2:=NW (X1.out.tr hX2)
 have c2:=HC.out _ X2.out
 clear hX2 c1
 by_cases hk2:k2=0
 case neg=>
  have tk2:(k2 !=0)=Oc:=bne_iff_ne.2 hk2
  go_wp2_with fail
  go_ret
  exact⟨⟨_,rfl,fun h=>absurd h hk2⟩,E0.out.tr X2.out⟩
 subst hk2
 go_wp2_with(go_at_call 50;fail)
 refine(eK _ _ _ _).mono ?_
 rintro e Vpa ⟨rfl,rfl⟩
 obtain⟨pa,hpa⟩:∃p,(!aF j.origin 0 65536)=p:=⟨_,rfl⟩
 rw[hpa]
 clear hpa
 cases pa
 case true=>
  go_wp2_with fail
  go_ret
  exact⟨⟨_,rfl,fun h=>absurd h Ov⟩,E0.out.tr X2.out⟩
 go_wp2_with(go_at_call 50;fail)
 refine(eK _ _ _ _).mono ?_
 rintro e Vpb ⟨rfl,rfl⟩
 obtain⟨pb,hpb⟩:∃p,(!aF j.spacing 1 65536)=p:=⟨_,rfl⟩
 rw[hpb]
 clear hpb
 cases pb
 case true=>
  go_wp2_with fail
  go_ret
  exact⟨⟨_,rfl,fun h=>absurd h Ov⟩,E0.out.tr X2.out⟩
 go_wp2_with(go_at_call 51;fail)
 refine(KU.out _ X2.out).mono ?_
 rintro e W3 ⟨rfl,hX3⟩
 have X3:=NW (X2.out.tr hX3)
 have c3:=HC.out _ X3.out
 clear hX3 c2
 obtain⟨ku,hku⟩:∃k,fW j.purlins=k:=⟨_,rfl⟩
 rw[hku]
 clear hku
 by_cases hku:ku=0
 case neg=>
  have tku:(ku !=0)=Oc:=bne_iff_ne.2 hku
  go_wp2_with fail
  go_ret
  exact⟨⟨_,rfl,fun h=>absurd h hku⟩,E0.out.tr X3.out⟩
 subst hku
 go_wp2_with(go_at_call 52;fail)
 refine(KO.out _ X3.out).mono ?_
 rintro e W4 ⟨⟨ko,rfl,hko⟩,hX4⟩
 have X4:=NW (X3.out.tr hX4)
 have c4:=HC.out _ X4.out
 clear hX4 c3
 have HKO:=NW hko
 clear hko
 by_cases hko:ko=0
 case neg=>
  have tko:(ko !=0)=Oc:=bne_iff_ne.2 hko
  go_wp2_with fail
  go_ret
  exact⟨⟨_,rfl,fun h=>absurd h hko⟩,E0.out.tr X4.out⟩
 subst hko
 have h32:=NW (HKO.out rfl)
 go_wp2_with(go_at_call 53;fail)
 refine(KZ.out _ X4.out).mono ?_
 rintro e W5 ⟨⟨kz,rfl⟩,hX5⟩
 have X5:=NW (X4.out.tr hX5)
 have c5:=HC.out _ X5.out
 clear hX5 c4
 by_cases hkz:kz=0
 case neg=>
  have tkz:(kz !=0)=Oc:=bne_iff_ne.2 hkz
  go_wp2_with fail
  go_ret
  exact⟨⟨_,rfl,fun _=>h32.out⟩,E0.out.tr X5.out⟩
 subst hkz
 go_wp2_with(go_at_call 54;fail)
 refine(KB.out _ X5.out).mono ?_
 rintro e W6 ⟨⟨kb,rfl⟩,hX6⟩
 have X6:=NW (X5.out.tr hX6)
 have c6:=HC.out _ X6.out
 clear hX6 c5
 by_cases hkb:kb=0
 case neg=>
  have tkb:(kb !=0)=Oc:=bne_iff_ne.2 hkb
  go_wp2_with fail
  go_ret
  exact⟨⟨_,rfl,fun _=>h32.out⟩,E0.out.tr X6.out⟩
 subst hkb
 go_wp2_with(go_at_call 50;fail)
 refine(eK _ _ _ _).mono ?_
 rintro e Vpc ⟨rfl,rfl⟩
 obtain⟨pc,hpc⟩:∃p,(!aF j.kerf 0 100)=p:=⟨_,rfl⟩
 rw[hpc]
 clear hpc
 cases pc
 case true=>
  go_wp2_with fail
  go_ret
  exact⟨⟨_,rfl,fun _=>h32.out⟩,E0.out.tr X6.out⟩
 go_wp2_with(go_at_call 55;fail)
 refine(KT.out _).mono ?_
 rintro e W7 ⟨rfl,hX7⟩
 have X7:=NW (X6.out.tr hX7)
 have c7:=HC.out _ X7.out
 clear hX7 c6
 obtain⟨kt,hkt⟩:∃k,de j.tile=k:=⟨_,rfl⟩
 rw[hkt]
 clear hkt
 by_cases hkt:kt=0
 case neg=>
  have tkt:(kt !=0)=Oc:=bne_iff_ne.2 hkt
  go_wp2_with fail
  go_ret
  exact⟨⟨_,rfl,fun _=>h32.out⟩,E0.out.tr X7.out⟩
 subst hkt
 go_wp2_with(go_at_call 56;fail)
 refine(KL.out _ X7.out).mono ?_
 rintro e W8 ⟨⟨kl,rfl⟩,hX8⟩
 have X8:=NW (X7.out.tr hX8)
 have c8:=HC.out _ X8.out
 clear hX8 c7
 by_cases hkl:kl=0
 case neg=>
  have tkl:(kl !=0)=Oc:=bne_iff_ne.2 hkl
  go_wp2_with fail
  go_ret
  exact⟨⟨_,rfl,fun _=>h32.out⟩,E0.out.tr X8.out⟩
 subst hkl
 go_wp2_with(go_at_call 57;go_loud (refine(KS.out _ X8.out).mono ?_);rintro e W9 ⟨⟨ks,rfl⟩,hX9⟩;have X9:=NW (X8.out.tr hX9))
 go_ret
 exact⟨⟨_,rfl,fun _=>h32.out⟩,E0.out.tr X9.out⟩
end
section
open Kp
attribute [local go_sem] PU Qz QN QK QA QF QG QM Qx QE QI Qo Qd Qi Qt Qq
structure xu(j:du):Prop where
 name:j.name.length≤40
 r:FF j.rings
 u:j.purlins.length≤17
 o:sL j.openings
 z:j.sizes.length≤16
 b:zS j.bars
 l:zU j.aq
 s:AH j.spans.length
theorem vJ(w:NY)(j:du)(a:fm)(hb:bh w w.heap.size j a)(hbig:j.rings.flatten.length≤4000000000):
  Of prog 11 #[.agg (dy j a)] w fun x w'=>gB (xu j) x∧Ext w w':=by
 have E0:=NW (show Ext w (w.alloc (.cells (dy j a) 34)) from(Below.refl _ _).alloc (NZ _) _)
 have J0:JC (w.alloc (.cells (dy j a) 34)) w.heap.size j a:=NY.alloc_heap_new w _
 obtain⟨w0,hw0⟩:∃w0,w.alloc (.cells (dy j a) 34)=w0:=⟨_,rfl⟩
 rw[hw0] at E0 J0
 have HW0:=NW hw0
 have HC:=NW (fun W (h:Ext w0 W) i=>(JC.ext J0 h).cell i)
 have HB:=NW (fun W (h:Ext w0 W)=>hb.grow (E0.out.tr h))
 have X1:=NW (Ext.an w0)
 have KP:=NW (fun W (h:Ext w0 W)=>vQ W a.pa a.pc j.rings (HB.out W h).p 8 hbig)
 have KO:=NW (fun W (h:Ext w0 W)=>ux W a.oa a.oc j.openings (HB.out W h).o)
 have KB:=NW (fun W (h:Ext w0 W)=>we W a.ba a.bc j.bars (HB.out W h).b)
 have KL:=NW (fun W (h:Ext w0 W)=>vh W a.la a.lc j.aq (HB.out W h).l)
 have KS:=NW (fun W=>vN W a.sa a.sc j.spans.length)
 have GT:=NW (show gB (xu j) (.returned (.bool Oc)) from⟨_,rfl,fun h=>Ox⟩)
 have hb0:=(HB.out w0 X1.out)
 have hul:=hb0.u.1
 have hul2:=hb0.u.2.1
 have hzl:=hb0.z.1
 have hzl2:=hb0.z.2.1
 rw[N9] at hul hzl
 unfold Ol at hul2 hzl2
 clear hb hbig hw0 J0 hb0
 by_cases g0:40<j.name.length
 case pos=>
  go_enter func11,ntmps11
  go_wp2_with fail
  go_ret
  exact⟨GT.out,by rw[HW0.out];exact E0.out⟩
 go_enter func11,ntmps11
 go_wp2_with(go_at_call 45;fail)
 rw[HW0.out]
 refine(KP.out _ X1.out).mono ?_
 rintro e W2 ⟨⟨b1,rfl,h1⟩,hX2⟩
 have X2:=NW (X1.out.tr hX2)
 have c2:=HC.out _ X2.out
 have G1:=NW h1
 clear hX2 h1
 cases b1
 case true=>
  go_wp2_with fail
  go_ret
  exact⟨GT.out,E0.out.tr X2.out⟩
 by_cases g2:17<j.purlins.length
 case pos=>
  go_wp2_with fail
  go_ret
  exact⟨GT.out,E0.out.tr X2.out⟩
 go_wp2_with(go_at_call 13;fail)
 refine(KO.out _ X2.out).mono ?_
 rintro e W3 ⟨⟨b3,rfl,h3⟩,hX3⟩
 have X3:=NW (X2.out.tr hX3)
 have c3:=HC.out _ X3.out
 have G3:=NW h3
 clear hX3 h3 c2
 cases b3
 case true=>
  go_wp2_with fail
  go_ret
  exact⟨GT.out,E0.out.tr X3.out⟩
 by_cases g4:16<j.sizes.length
 case pos=>
  go_wp2_with fail
  go_ret
  exact⟨GT.out,E0.out.tr X3.out⟩
 go_wp2_with(go_at_call 46;fail)
 refine(KB.out _ X3.out).mono ?_
 rintro e W4 ⟨⟨b5,rfl,h5⟩,hX4⟩
 have X4:=NW (X3.out.tr hX4)
 have c4:=HC.out _ X4.out
 have G5:=NW h5
 clear hX4 h5 c3
 cases b5
 case true=>
  go_wp2_with fail
  go_ret
  exact⟨GT.out,E0.out.tr X4.out⟩
 go_wp2_with(go_at_call 14;fail)
 refine(KL.out _ X4.out).mono ?_
 rintro e W5 ⟨⟨b6,rfl,h6⟩,hX5⟩
 have X5:=NW (X4.out.tr hX5)
 have c5:=HC.out _ X5.out
 have G6:=NW h6
 clear hX5 h6 c4
 cases b6
 case true=>
  go_wp2_with fail
  go_ret
  exact⟨GT.out,E0.out.tr X5.out⟩
 go_wp2_with(go_at_call 47;go_loud (refine(KS.out _).mono ?_);rintro e W6 ⟨⟨b7,rfl,h7⟩,rfl⟩)
 go_ret
 exact⟨⟨_,rfl,fun h=>⟨Ot,G1.out (by first|rfl|trivial),Ot,G3.out (by first|rfl|trivial),Ot,G5.out (by first|rfl|trivial),G6.out (by first|rfl|trivial),h7 (Bool.or_eq_false_iff.1 h).2⟩⟩,E0.out.tr X5.out⟩
end
end Go.Proofs.YtnpihidbkhehjaaGreatDoor
