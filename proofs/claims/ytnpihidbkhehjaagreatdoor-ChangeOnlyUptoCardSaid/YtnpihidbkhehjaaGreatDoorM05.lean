/- ChangeOnly of kingpostlaw58: part 5 of its proof (merged and shortened by program). -/
import Derived.Test.YtnpihidbkhehjaaGreatDoorM04
set_option linter.unusedVariables false
set_option linter.unusedSimpArgs false
set_option linter.defProp false
set_option maxHeartbeats 8000000
set_option maxRecDepth 100000
open Go.RowKit Go.Shelf Go.Proofs.Tryz
open Array renaming getElem?_eq_some_iff→Od
open Bool renaming false→N1,true→Oc
open Go renaming World→NY,Value→N2,undef→N7,wpOp_step→Ob,Calls→Of,maxLen→Ol,TypeId→Oo
open Go.AllReady renaming cons→Oj,nil→Oq
open Go.IntKind renaming i64→Oe
open Go.IntWalk renaming i64_in→Om
open Go.Lib renaming hid→NW
open Go.RowKit renaming intOf→Oh,Below→On
open Go.World renaming size_alloc→Oi
open List renaming getD_eq_getElem?_getD→N8,length_map→N9,getElem?_eq_getElem→Oa
open Nat renaming le_refl→NZ,mul_comm→Og,le_trans→Ok
open Option renaming none→N0,some→N3
open Go.Proofs.YtnpihidbkhehjaaGreatDoor
namespace Go.Proofs.YtnpihidbkhehjaaGreatDoor
section
open Kp
theorem bF{s:List UInt8}{n:Nat}{r:List UInt8}(h:cQ s=N3 (n,r)):n<1000000000:=by
 unfold cQ at h
 split at h
 ·cases h
 ·rename_i hk
  simp only[Option.some.injEq,Prod.mk.injEq] at h
  rw[←h.1]
  have h1:=mh (xb s)
  have:10^(lead s).length≤10^8:=Nat.pow_le_pow_right Ov Ot
  omega
theorem eA{s:List UInt8}{n:Nat}{r:List UInt8}(h:cQ s=N3 (n,r)):r.length≤s.length:=by
 unfold cQ at h
 split at h
 ·cases h
 ·simp only[Option.some.injEq,Prod.mk.injEq] at h
  rw[←h.2];simp
def Gb(w:NY)(g:Nat)(x y:N2)(wr:NY):Prop:=
 ∃a b:Nat,x= .int .i64 a∧y= .int .i64 b∧a<1000000000∧b<1000000000∧Nat.gcd a b=g∧On w.heap.size w wr
theorem F8(a b:Nat)(w:NY)(ha:a<1000000000)(hb:b<1000000000):
  Of prog 259 #[.int .i64 a,.int .i64 b] w fun e w'=>e= .returned (.int .i64 (Nat.gcd a b:Nat))∧On w.heap.size w w':=by
 go_enter func259,ntmps259
 go_wp2
 go_loopw [0,1] (fun x y wr=>Gb w (Nat.gcd a b) x y wr) (fun _ y _=>(Oh y).natAbs)
 case atStart=>exact⟨a,b,rfl,rfl,ha,hb,rfl,Below.refl _ _⟩
 case round=>
  obtain⟨x,y,rfl,rfl,hx,hy,hg,hBr⟩:=hrel
  by_cases h0:y=0
  ·subst h0
   rw[Nat.gcd_zero_right] at hg
   have HG:=NW hg
   clear hg
   have ht:(((0:Nat):Int) !=0)=N1:=rfl
   go_wp2
   go_ret
   exact⟨bJ (by rw[HG.out]),hBr⟩
  ·have h0':((y:Int) !=0)=Oc:=Ph
   have hm:((x:Int).tmod (y:Int))=((x%y:Nat):Int):=by rw[Int.tmod_eq_emod_of_nonneg Ot];rfl
   have hlt:x%y<y:=Nat.mod_lt _ Ot
   have hn:=NW (fun n=>show Gb w (Nat.gcd a b) (.int .i64 y) (.int .i64 ((x:Int).tmod (y:Int))) (wr.drewN n) from⟨y,x%y,rfl,by rw[hm],hy,Ot,by rw[Nat.gcd_comm,←Nat.gcd_rec,Nat.gcd_comm];exact hg,below_drewN hBr n⟩)
   have HM:=NW (show(Oh (.int .i64 ((x:Int).tmod (y:Int)))).natAbs<(Oh (.int .i64 (y:Int))).natAbs by rw[hm];simp[Oh];exact hlt)
   clear hg hm hlt
   go_wp2
   go_quiet (fail)
   go_roundw
   case rel=>exact⟨_,_,_,_,_,_,_,_,hn.out _,rfl⟩
   case measure=>exact HM.out
def bf(a:List UInt8):Bool:=match cQ (own a) with
 |none=>N1
 |some (n,r)=>if(own a).length<a.length∧n=0 then N1 else match r with
  |[]=>Oc
  |c::r'=>if c=47 then(match cQ r' with
    |none=>N1
    |some (d,q)=>q.isEmpty&&decide (2≤d)&&decide (Nat.gcd n d=1)) else N1
def rQ(a:List UInt8):Int×Int:=match cQ (own a) with
 |none=>(0,0)
 |some (n,r)=>((if(own a).length<a.length then -(n:Int) else n),match r with
  |[]=>1
  |_::r'=>match cQ r' with
   |none=>0
   |some (d,_)=>(d:Int))
def cE(a:List UInt8):Int×Int:=if bf a then rQ a else(0,0)
def bV(w:NY)(a:List UInt8)(e:Ending)(w':NY):Prop:=∃x y:Int,e= .returned (.tuple #[.agg #[.int .i64 x,.int .i64 y],.bool (bf a)])∧cE a=(x,y)∧On w.heap.size w w'
theorem qS(a:List UInt8):(∃r,a=45::r∧own a=r)∨(own a=a∧∀b,a.head?=N3 b→b≠45):=by
 cases a with
 |nil=>exact .inr ⟨rfl,fun b h=>Ox⟩
 |cons c r=>
  by_cases hc:c=45
  ·subst hc;exact .inl ⟨r,rfl,rfl⟩
  ·refine .inr ⟨?_,fun b h=>by cases h;exact hc⟩
   unfold own Lib.trimPrefix
   have:Lib.hasPrefix (c::r) [45]=N1:=by simp[Lib.hasPrefix,List.isPrefixOf,Ne.symm hc]
   rw[this];rfl
theorem eR{s:List UInt8}(h:cQ s=N0):jT s= .tuple #[.int .i64 0,.string ⟨#[]⟩,.bool N1]:=by unfold jT;rw[h]
theorem au{s:List UInt8}{n:Nat}{r:List UInt8}(h:cQ s=N3 (n,r)):jT s= .tuple #[.int .i64 n,.string (tx r),.bool Oc]:=by unfold jT;rw[h]
theorem dS.below{B0:Nat}{W W':NY}{b:Nat}{t:Oo}{u v:N2}(h:dS W b t u v)(hb:On B0 W W')(hlt:b<B0):dS W' b t u v:=(hb.block b hlt).trans h
theorem fy{B:Nat}{w W W':NY}(h:On B w W)(hc:On W.heap.size W W')(hB:B≤W.heap.size):On B w W':=h.trans (hc.mono hB)
theorem aD(c:UInt8)(r:List UInt8):(tx (c::r)).extract 1 (r.length+1)=tx r:=by
 have:=lF (c::r) 1
 simpa using this
theorem eJ{c:UInt8}{r:List UInt8}(h:c≠45):own (c::r)=c::r:=by
 rcases qS (c::r) with⟨r',e,_⟩|⟨e,_⟩
 ·cases e;exact absurd rfl h
 ·exact e
theorem AS{w W:NY}{a:Act}{s:List UInt8}{blk:Nat}{x y:Int}{b:Bool}(hX:dS W blk 262 (.int .i64 x) (.int .i64 y))
  (h2:a.tmps[2]?=N3 (.pointer (N3 ⟨blk,0,N0⟩)))(h3:a.tmps[3]?=N3 (.bool b))(hd:a.defers=[])(hok:bf s=b)(hz:cE s=(x,y))(hB:On w.heap.size w W):
  bodyPost prog Tryz.f228 (bV w s) .ret a W:=by
 have c0:=hX.cell0
 have c1:=hX.dv
 refine bodyPost_ret (v:= .tuple #[.agg #[.int .i64 x,.int .i64 y],.bool b]) ?_ hd ⟨x,y,by rw[hok],hz,hB⟩
 simp[results,results228,go_sem,h2,h3,c0,c1]
theorem bZ{p:Prop}(h:p:=by
 go_enter func228,ntmps228
 go_wp2_with(first
  |(go_at_call 258;refine(ng _ _ OD).mono ?_;first
    |(rintro e w1 ⟨rfl,hB1⟩;rw[HV.out];have X1:=NW ((dS.at_ rfl).below hB1 Ow);have c0:=X1.out.cell0;have c1:=X1.out.dv;have f0:=X1.out.frozen 0;have f1:=X1.out.frozen 1;have l1:=X1.out.lt)
    |(rintro e w2 ⟨rfl,hB2⟩;rw[HV2.out];have X2:=NW (((X1.out.alloc _).below hB2 OB));have Y2:=NW ((dS.at_ rfl).below hB2 Ow);have d0:=X2.out.cell0;have d1:=X2.out.dv;have g0:=X2.out.frozen 0;have g1:=X2.out.frozen 1;have e0:=Y2.out.cell0;have e1:=Y2.out.dv;have k0:=Y2.out.frozen 0;have k1:=Y2.out.frozen 1;have l2:=Y2.out.lt))
  |(go_at_call 259;refine(F8 _ _ _ OD OD).mono ?_;rintro e w3 ⟨rfl,hB3⟩;have X3:=NW ((X2.out.cI (p:=⟨w1.heap.size,1,N0⟩) OB _).below hB3 (by simpa[World.setCell] using by omega));have Y3:=NW ((Y2.out.nK _).below hB3 (by simpa[World.setCell] using l2));have m0:=X3.out.cell0;have m1:=X3.out.dv;have n0:=X3.out.frozen 0;have n1:=X3.out.frozen 1;have o0:=Y3.out.cell0;have o1:=Y3.out.dv;have q0:=Y3.out.frozen 0;have q1:=Y3.out.frozen 1))
 refine AS (blk:=w.heap.size) ?nofX rfl rfl rfl HOK.out HZ.out ?nofB
 case nofX=>repeat first|with_reducible apply dS.jq|with_reducible apply dS.nK|with_reducible apply dS.cI|with_reducible apply dS.alloc|with_reducible exact X3.out|with_reducible exact X2.out|with_reducible exact X1.out|omega|(simp;done)|(simp;omega)
 case nofB=>repeat first|with_reducible refine Below.setCell ?_ OI _|with_reducible refine Below.alloc ?_ OI _|with_reducible refine fy ?_ OD OU|with_reducible exact Below.refl _ _):p:=h
theorem tN(r:List UInt8)(w:NY)(hr:r.length≤1000000)(hn:cQ r=N0):Of prog 228 #[.string (tx (45::r))] w (bV w (45::r)):=by
 have ho:own (45::r)=r:=rfl
 have hok:bf (45::r)=N1:=by unfold bf;simp[ho,hn]
 have HOK:=NW hok
 have HZ:=NW (show cE (45::r)=(0,0) by unfold cE;rw[hok];rfl)
 have HV:=NW (eR hn)
 have hx:=aD 45 r
 clear hok ho hn
 exact bZ
theorem tQ(r:List UInt8)(w:NY)(hr:r.length≤1000000)(n:Nat)(q:List UInt8)(hn:cQ r=N3 (n,q))(hn0:n=0):Of prog 228 #[.string (tx (45::r))] w (bV w (45::r)):=by
 have ho:own (45::r)=r:=rfl
 have hok:bf (45::r)=N1:=by unfold bf;simp[ho,hn,hn0]
 have HOK:=NW hok
 have HZ:=NW (show cE (45::r)=(0,0) by unfold cE;rw[hok];rfl)
 have HV:=NW (au hn)
 have hnl:=bF hn
 have t4:Oe.wrap (-(n:Int))= -(n:Int):=bI Ot Ot
 have t1:((n:Int)==0)=Oc:=by rw[beq_iff_eq];omega
 have hx:=aD 45 r
 clear hok ho hn hn0
 exact bZ
theorem xJ(r:List UInt8)(w:NY)(hr:r.length≤1000000)(n:Nat)(hn:cQ r=N3 (n,[]))(hn0:n≠0):Of prog 228 #[.string (tx (45::r))] w (bV w (45::r)):=by
 have ho:own (45::r)=r:=rfl
 have hok:bf (45::r)=Oc:=by unfold bf;simp[ho,hn,hn0]
 have HOK:=NW hok
 have HZ:=NW (show cE (45::r)=((-(n:Int)),1) by unfold cE;rw[hok];unfold rQ;simp[ho,hn])
 have HV:=NW (au hn)
 have hnl:=bF hn
 have t4:Oe.wrap (-(n:Int))= -(n:Int):=bI Ot Ot
 have t1:((n:Int)==0)=N1:=OF
 have hx:=aD 45 r
 clear hok ho hn hn0
 exact bZ
theorem nL(r:List UInt8)(w:NY)(hr:r.length≤1000000)(n:Nat)(c:UInt8)(r':List UInt8)(hn:cQ r=N3 (n,(c::r')))(hn0:n≠0)(hc:c≠47):Of prog 228 #[.string (tx (45::r))] w (bV w (45::r)):=by
 have ho:own (45::r)=r:=rfl
 have hok:bf (45::r)=N1:=by unfold bf;simp[ho,hn,hn0,hc]
 have HOK:=NW hok
 have HZ:=NW (show cE (45::r)=(0,0) by unfold cE;rw[hok];rfl)
 have HV:=NW (au hn)
 have hnl:=bF hn
 have t4:Oe.wrap (-(n:Int))= -(n:Int):=bI Ot Ot
 have t1:((n:Int)==0)=N1:=OF
 have t5:((((tx (c::r'))[0]'O7).toNat:Int) !=47)=Oc:=Pk
 have hx:=aD 45 r
 clear hok ho hn hn0 hc
 exact bZ
theorem qk(r:List UInt8)(w:NY)(hr:r.length≤1000000)(n:Nat)(r':List UInt8)(hn:cQ r=N3 (n,(47::r')))(hn0:n≠0)(hd:cQ r'=N0):Of prog 228 #[.string (tx (45::r))] w (bV w (45::r)):=by
 have ho:own (45::r)=r:=rfl
 have hok:bf (45::r)=N1:=by unfold bf;simp[ho,hn,hn0,hd]
 have HOK:=NW hok
 have HZ:=NW (show cE (45::r)=(0,0) by unfold cE;rw[hok];rfl)
 have HV:=NW (au hn)
 have hnl:=bF hn
 have t4:Oe.wrap (-(n:Int))= -(n:Int):=bI Ot Ot
 have t1:((n:Int)==0)=N1:=OF
 have hr':r'.length≤1000000:=OQ
 have hx':=aD 47 r'
 have HV2:=NW (eR hd)
 have hx:=aD 45 r
 clear hok ho hn hn0 hd
 exact bZ
theorem uM(r:List UInt8)(w:NY)(hr:r.length≤1000000)(n:Nat)(r':List UInt8)(hn:cQ r=N3 (n,(47::r')))(hn0:n≠0)(d:Nat)(cq:UInt8)(q:List UInt8)(hd:cQ r'=N3 (d,(cq::q))):Of prog 228 #[.string (tx (45::r))] w (bV w (45::r)):=by
 have ho:own (45::r)=r:=rfl
 have hok:bf (45::r)=N1:=by unfold bf;simp[ho,hn,hn0,hd]
 have HOK:=NW hok
 have HZ:=NW (show cE (45::r)=(0,0) by unfold cE;rw[hok];rfl)
 have HV:=NW (au hn)
 have hnl:=bF hn
 have t4:Oe.wrap (-(n:Int))= -(n:Int):=bI Ot Ot
 have t1:((n:Int)==0)=N1:=OF
 have hr':r'.length≤1000000:=OQ
 have hx':=aD 47 r'
 have HV2:=NW (au hd)
 have hdl:=bF hd
 have hx:=aD 45 r
 clear hok ho hn hn0 hd
 exact bZ
theorem qw(r:List UInt8)(w:NY)(hr:r.length≤1000000)(n:Nat)(r':List UInt8)(hn:cQ r=N3 (n,(47::r')))(hn0:n≠0)(d:Nat)(hd:cQ r'=N3 (d,[]))(hd2:¬2≤d):Of prog 228 #[.string (tx (45::r))] w (bV w (45::r)):=by
 have ho:own (45::r)=r:=rfl
 have hok:bf (45::r)=N1:=by unfold bf;simp[ho,hn,hn0,hd];intro h;exact absurd h hd2
 have HOK:=NW hok
 have HZ:=NW (show cE (45::r)=(0,0) by unfold cE;rw[hok];rfl)
 have HV:=NW (au hn)
 have hnl:=bF hn
 have t4:Oe.wrap (-(n:Int))= -(n:Int):=bI Ot Ot
 have t1:((n:Int)==0)=N1:=OF
 have hr':r'.length≤1000000:=OQ
 have hx':=aD 47 r'
 have HV2:=NW (au hd)
 have hdl:=bF hd
 have t2:decide ((d:Int)<2)=Oc:=OH
 have hx:=aD 45 r
 clear hok ho hn hn0 hd2 hd
 exact bZ
theorem o6(r:List UInt8)(w:NY)(hr:r.length≤1000000)(n:Nat)(r':List UInt8)(hn:cQ r=N3 (n,(47::r')))(hn0:n≠0)(d:Nat)(hd:cQ r'=N3 (d,[]))(hd2:2≤d)(hg:¬Nat.gcd n d=1):Of prog 228 #[.string (tx (45::r))] w (bV w (45::r)):=by
 have ho:own (45::r)=r:=rfl
 have hok:bf (45::r)=N1:=by unfold bf;simp[ho,hn,hn0,hd,hg]
 have HOK:=NW hok
 have HZ:=NW (show cE (45::r)=(0,0) by unfold cE;rw[hok];rfl)
 have HV:=NW (au hn)
 have hnl:=bF hn
 have t4:Oe.wrap (-(n:Int))= -(n:Int):=bI Ot Ot
 have t1:((n:Int)==0)=N1:=OF
 have hr':r'.length≤1000000:=OQ
 have hx':=aD 47 r'
 have HV2:=NW (au hd)
 have hdl:=bF hd
 have t2:decide ((d:Int)<2)=N1:=Oz
 have t3:(((Nat.gcd n d:Nat):Int) !=1)=Oc:=Ph
 have hx:=aD 45 r
 clear hok ho hn hn0 hd2 hg hd
 exact bZ
theorem yw(r:List UInt8)(w:NY)(hr:r.length≤1000000)(n:Nat)(r':List UInt8)(hn:cQ r=N3 (n,(47::r')))(hn0:n≠0)(d:Nat)(hd:cQ r'=N3 (d,[]))(hd2:2≤d)(hg:Nat.gcd n d=1):Of prog 228 #[.string (tx (45::r))] w (bV w (45::r)):=by
 have ho:own (45::r)=r:=rfl
 have hok:bf (45::r)=Oc:=by unfold bf;simp[ho,hn,hn0,hd,hg,hd2]
 have HOK:=NW hok
 have HZ:=NW (show cE (45::r)=((-(n:Int)),(d:Int)) by unfold cE;rw[hok];unfold rQ;simp[ho,hn,hd])
 have HV:=NW (au hn)
 have hnl:=bF hn
 have t4:Oe.wrap (-(n:Int))= -(n:Int):=bI Ot Ot
 have t1:((n:Int)==0)=N1:=OF
 have hr':r'.length≤1000000:=OQ
 have hx':=aD 47 r'
 have HV2:=NW (au hd)
 have hdl:=bF hd
 have t2:decide ((d:Int)<2)=N1:=Oz
 have t3:(((Nat.gcd n d:Nat):Int) !=1)=N1:=by rw[hg];rfl
 have hx:=aD 45 r
 clear hok ho hn hn0 hd2 hg hd
 exact bZ
theorem s8(c0:UInt8)(r:List UInt8)(w:NY)(hr:(c0::r).length≤1000000)(hc0:c0≠45)(hn:cQ (c0::r)=N0):Of prog 228 #[.string (tx (c0::r))] w (bV w (c0::r)):=by
 have ho:own (c0::r)=(c0::r):=eJ hc0
 have hok:bf (c0::r)=N1:=by unfold bf;simp[ho,hn]
 have HOK:=NW hok
 have HZ:=NW (show cE (c0::r)=(0,0) by unfold cE;rw[hok];rfl)
 have HV:=NW (eR hn)
 have h45:((((tx (c0::r))[0]'O7).toNat:Int)==45)=N1:=OC
 clear hok ho hn hc0
 exact bZ
theorem vC(c0:UInt8)(r:List UInt8)(w:NY)(hr:(c0::r).length≤1000000)(hc0:c0≠45)(n:Nat)(hn:cQ (c0::r)=N3 (n,[])):Of prog 228 #[.string (tx (c0::r))] w (bV w (c0::r)):=by
 have ho:own (c0::r)=(c0::r):=eJ hc0
 have hok:bf (c0::r)=Oc:=by unfold bf;simp[ho,hn]
 have HOK:=NW hok
 have HZ:=NW (show cE (c0::r)=((n:Int),1) by unfold cE;rw[hok];unfold rQ;simp[ho,hn])
 have HV:=NW (au hn)
 have hnl:=bF hn
 have t4:Oe.wrap (-(n:Int))= -(n:Int):=bI Ot Ot
 have h45:((((tx (c0::r))[0]'O7).toNat:Int)==45)=N1:=OC
 clear hok ho hn hc0
 exact bZ
theorem nP(c0:UInt8)(r:List UInt8)(w:NY)(hr:(c0::r).length≤1000000)(hc0:c0≠45)(n:Nat)(c:UInt8)(r':List UInt8)(hn:cQ (c0::r)=N3 (n,(c::r')))(hc:c≠47):Of prog 228 #[.string (tx (c0::r))] w (bV w (c0::r)):=by
 have ho:own (c0::r)=(c0::r):=eJ hc0
 have hok:bf (c0::r)=N1:=by unfold bf;simp[ho,hn,hc]
 have HOK:=NW hok
 have HZ:=NW (show cE (c0::r)=(0,0) by unfold cE;rw[hok];rfl)
 have HV:=NW (au hn)
 have hnl:=bF hn
 have t4:Oe.wrap (-(n:Int))= -(n:Int):=bI Ot Ot
 have t5:((((tx (c::r'))[0]'O7).toNat:Int) !=47)=Oc:=Pk
 have h45:((((tx (c0::r))[0]'O7).toNat:Int)==45)=N1:=OC
 clear hok ho hn hc hc0
 exact bZ
theorem qK(c0:UInt8)(r:List UInt8)(w:NY)(hr:(c0::r).length≤1000000)(hc0:c0≠45)(n:Nat)(r':List UInt8)(hn:cQ (c0::r)=N3 (n,(47::r')))(hd:cQ r'=N0):Of prog 228 #[.string (tx (c0::r))] w (bV w (c0::r)):=by
 have ho:own (c0::r)=(c0::r):=eJ hc0
 have hok:bf (c0::r)=N1:=by unfold bf;simp[ho,hn,hd]
 have HOK:=NW hok
 have HZ:=NW (show cE (c0::r)=(0,0) by unfold cE;rw[hok];rfl)
 have HV:=NW (au hn)
 have hnl:=bF hn
 have t4:Oe.wrap (-(n:Int))= -(n:Int):=bI Ot Ot
 have hr':r'.length≤1000000:=OQ
 have hx':=aD 47 r'
 have HV2:=NW (eR hd)
 have h45:((((tx (c0::r))[0]'O7).toNat:Int)==45)=N1:=OC
 clear hok ho hn hd hc0
 exact bZ
theorem uq(c0:UInt8)(r:List UInt8)(w:NY)(hr:(c0::r).length≤1000000)(hc0:c0≠45)(n:Nat)(r':List UInt8)(hn:cQ (c0::r)=N3 (n,(47::r')))(d:Nat)(cq:UInt8)(q:List UInt8)(hd:cQ r'=N3 (d,(cq::q))):Of prog 228 #[.string (tx (c0::r))] w (bV w (c0::r)):=by
 have ho:own (c0::r)=(c0::r):=eJ hc0
 have hok:bf (c0::r)=N1:=by unfold bf;simp[ho,hn,hd]
 have HOK:=NW hok
 have HZ:=NW (show cE (c0::r)=(0,0) by unfold cE;rw[hok];rfl)
 have HV:=NW (au hn)
 have hnl:=bF hn
 have t4:Oe.wrap (-(n:Int))= -(n:Int):=bI Ot Ot
 have hr':r'.length≤1000000:=OQ
 have hx':=aD 47 r'
 have HV2:=NW (au hd)
 have hdl:=bF hd
 have h45:((((tx (c0::r))[0]'O7).toNat:Int)==45)=N1:=OC
 clear hok ho hn hd hc0
 exact bZ
theorem qC(c0:UInt8)(r:List UInt8)(w:NY)(hr:(c0::r).length≤1000000)(hc0:c0≠45)(n:Nat)(r':List UInt8)(hn:cQ (c0::r)=N3 (n,(47::r')))(d:Nat)(hd:cQ r'=N3 (d,[]))(hd2:¬2≤d):Of prog 228 #[.string (tx (c0::r))] w (bV w (c0::r)):=by
 have ho:own (c0::r)=(c0::r):=eJ hc0
 have hok:bf (c0::r)=N1:=by unfold bf;simp[ho,hn,hd];intro h;exact absurd h hd2
 have HOK:=NW hok
 have HZ:=NW (show cE (c0::r)=(0,0) by unfold cE;rw[hok];rfl)
 have HV:=NW (au hn)
 have hnl:=bF hn
 have t4:Oe.wrap (-(n:Int))= -(n:Int):=bI Ot Ot
 have hr':r'.length≤1000000:=OQ
 have hx':=aD 47 r'
 have HV2:=NW (au hd)
 have hdl:=bF hd
 have t2:decide ((d:Int)<2)=Oc:=OH
 have h45:((((tx (c0::r))[0]'O7).toNat:Int)==45)=N1:=OC
 clear hok ho hn hd2 hd hc0
 exact bZ
theorem pK(c0:UInt8)(r:List UInt8)(w:NY)(hr:(c0::r).length≤1000000)(hc0:c0≠45)(n:Nat)(r':List UInt8)(hn:cQ (c0::r)=N3 (n,(47::r')))(d:Nat)(hd:cQ r'=N3 (d,[]))(hd2:2≤d)(hg:¬Nat.gcd n d=1):Of prog 228 #[.string (tx (c0::r))] w (bV w (c0::r)):=by
 have ho:own (c0::r)=(c0::r):=eJ hc0
 have hok:bf (c0::r)=N1:=by unfold bf;simp[ho,hn,hd,hg]
 have HOK:=NW hok
 have HZ:=NW (show cE (c0::r)=(0,0) by unfold cE;rw[hok];rfl)
 have HV:=NW (au hn)
 have hnl:=bF hn
 have t4:Oe.wrap (-(n:Int))= -(n:Int):=bI Ot Ot
 have hr':r'.length≤1000000:=OQ
 have hx':=aD 47 r'
 have HV2:=NW (au hd)
 have hdl:=bF hd
 have t2:decide ((d:Int)<2)=N1:=Oz
 have t3:(((Nat.gcd n d:Nat):Int) !=1)=Oc:=Ph
 have h45:((((tx (c0::r))[0]'O7).toNat:Int)==45)=N1:=OC
 clear hok ho hn hd2 hg hd hc0
 exact bZ
theorem zK(c0:UInt8)(r:List UInt8)(w:NY)(hr:(c0::r).length≤1000000)(hc0:c0≠45)(n:Nat)(r':List UInt8)(hn:cQ (c0::r)=N3 (n,(47::r')))(d:Nat)(hd:cQ r'=N3 (d,[]))(hd2:2≤d)(hg:Nat.gcd n d=1):Of prog 228 #[.string (tx (c0::r))] w (bV w (c0::r)):=by
 have ho:own (c0::r)=(c0::r):=eJ hc0
 have hok:bf (c0::r)=Oc:=by unfold bf;simp[ho,hn,hd,hg,hd2]
 have HOK:=NW hok
 have HZ:=NW (show cE (c0::r)=((n:Int),(d:Int)) by unfold cE;rw[hok];unfold rQ;simp[ho,hn,hd])
 have HV:=NW (au hn)
 have hnl:=bF hn
 have t4:Oe.wrap (-(n:Int))= -(n:Int):=bI Ot Ot
 have hr':r'.length≤1000000:=OQ
 have hx':=aD 47 r'
 have HV2:=NW (au hd)
 have hdl:=bF hd
 have t2:decide ((d:Int)<2)=N1:=Oz
 have t3:(((Nat.gcd n d:Nat):Int) !=1)=N1:=by rw[hg];rfl
 have h45:((((tx (c0::r))[0]'O7).toNat:Int)==45)=N1:=OC
 clear hok ho hn hd2 hg hd hc0
 exact bZ
end
section
open Kp
theorem Gp(w:NY):Of prog 228 #[.string (tx [])] w (bV w []):=by
 have HOK:=NW (show bf []=N1 by rfl)
 have HV:=NW (eR (s:=[]) OR)
 have hr:([]:List UInt8).length≤1000000:=Ow
 go_enter func228,ntmps228
 go_wp2_with(go_at_call 258;refine(ng [] _ hr).mono ?_;rintro e w1 ⟨rfl,hB1⟩;rw[HV.out];have X1:=NW ((dS.at_ rfl).below hB1 Ow);have c0:=X1.out.cell0;have c1:=X1.out.dv;have f0:=X1.out.frozen 0;have f1:=X1.out.frozen 1;have l1:=X1.out.lt)
 refine AS (blk:=w.heap.size) (x:=0) (y:=0) ?nofX rfl rfl rfl HOK.out rfl ?nofB
 case nofX=>repeat first|with_reducible apply dS.jq|with_reducible apply dS.nK|with_reducible exact X1.out
 case nofB=>repeat first|with_reducible refine Below.setCell ?_ OI _|with_reducible refine Below.alloc ?_ OI _|with_reducible refine fy ?_ OD OU|with_reducible exact Below.refl _ _
theorem iA(a:List UInt8)(w:NY)(hs:a.length≤1000000):Of prog 228 #[.string (tx a)] w (bV w a):=by
 cases a with
 |nil=>exact Gp w
 |cons c0 r=>
  by_cases hc0:c0=45
  ·subst hc0
   have hr:r.length≤1000000:=by simp at hs;omega
   cases hn:cQ r with
   |none=>exact tN r w hr hn
   |some p=>
    obtain⟨n,q⟩:=p
    by_cases hn0:n=0
    ·exact tQ r w hr n q hn hn0
    ·cases q with
     |nil=>exact xJ r w hr n hn hn0
     |cons c r'=>
      by_cases hc:c=47
      ·subst hc
       cases hd:cQ r' with
       |none=>exact qk r w hr n r' hn hn0 hd
       |some p=>
        obtain⟨d,q⟩:=p
        cases q with
        |cons cq q=>exact uM r w hr n r' hn hn0 d cq q hd
        |nil=>
         by_cases hd2:2≤d
         ·by_cases hg:Nat.gcd n d=1
          ·exact yw r w hr n r' hn hn0 d hd hd2 hg
          ·exact o6 r w hr n r' hn hn0 d hd hd2 hg
         ·exact qw r w hr n r' hn hn0 d hd hd2
      ·exact nL r w hr n c r' hn hn0 hc
  ·cases hn:cQ (c0::r) with
   |none=>exact s8 c0 r w hs hc0 hn
   |some p=>
    obtain⟨n,q⟩:=p
    cases q with
    |nil=>exact vC c0 r w hs hc0 n hn
    |cons c r'=>
     by_cases hc:c=47
     ·subst hc
      cases hd:cQ r' with
      |none=>exact qK c0 r w hs hc0 n r' hn hd
      |some p=>
       obtain⟨d,q⟩:=p
       cases q with
       |cons cq q=>exact uq c0 r w hs hc0 n r' hn d cq q hd
       |nil=>
        by_cases hd2:2≤d
        ·by_cases hg:Nat.gcd n d=1
         ·exact zK c0 r w hs hc0 n r' hn d hd hd2 hg
         ·exact pK c0 r w hs hc0 n r' hn d hd hd2 hg
        ·exact qC c0 r w hs hc0 n r' hn d hd hd2
     ·exact nP c0 r w hs hc0 n c r' hn hc
def iz(s:List UInt8):Nat:=if 1<(lead s).length∧s.head?=N3 48 then 0 else(lead s).length
def FJ(s:List UInt8)(i:N2):Prop:=∃k:Nat,k≤s.length∧i= .int .i64 (k:Int)∧(s.take k).all gz=Oc
theorem vA(s:List UInt8)(w:NY)(hs:s.length≤1000000):
  Of prog 257 #[.string (tx s)] w fun e w'=>e= .returned (.int .i64 (iz s))∧w'=w:=by
 go_enter func257,ntmps257
 go_wp2
 go_loop [3] (fun i=>FJ s i) (fun i=>((s.length:Int)-Oh i).toNat)
 case atStart=>exact⟨0,Ot,rfl,rfl⟩
 case round=>
  obtain⟨k,hk,rfl,hall⟩:=hrel
  by_cases hgo:∃h:k<s.length,gz (s[k]'h)=Oc
  ·obtain⟨hlt,hd⟩:=hgo
   have hb:k<(tx s).size:=by rw[av];exact hlt
   have hx:(tx s)[k]'hb=s[k]:=rfl
   have hdl:=mu hd
   have d1:48≤(((tx s)[k]'hb).toNat:Int):=by rw[hx];omega
   have d2:(((tx s)[k]'hb).toNat:Int)≤57:=by rw[hx];omega
   have hnx:FJ s (.int .i64 ((k:Int)+1)):=⟨k+1,Ot,Ow,wG hlt hall hd⟩
   have HNX:=NW hnx
   clear hnx hdl hx hall hd
   go_wp2
   exact⟨HNX.out,Oy⟩
  ·have hL:(lead s).length=k:=by
    by_cases hlt:k<s.length
    ·refine rU hall hlt ?_
     cases hd:gz s[k] with
     |false=>rfl
     |true=>exact absurd ⟨hlt,hd⟩ hgo
    ·have e:k=s.length:=Ot
     rw[e] at hall;rw[e];exact wH hall
   have hwhy:(¬k<s.length)∨(∃h:k<(tx s).size,(((tx s)[k]'h).toNat:Int)<48)∨(∃h:k<(tx s).size,57<(((tx s)[k]'h).toNat:Int)):=by
    by_cases h1:k<s.length
    ·have hdb:gz s[k]=N1:=by
      cases hd:gz s[k] with
      |false=>rfl
      |true=>exact absurd ⟨h1,hd⟩ hgo
     have h1':k<(tx s).size:=by rw[av];exact h1
     rw[zW] at hdb
     simp only[Bool.and_eq_false_iff,decide_eq_false_iff_not] at hdb
     rcases hdb with h|h
     ·exact .inr (.inl ⟨h1',by show((s[k]).toNat:Int)<48;omega⟩)
     ·exact .inr (.inr ⟨h1',by show 57<((s[k]).toNat:Int);omega⟩)
    ·exact .inl h1
   have HL:=NW hL
   clear hgo hL hall
   by_cases hz:1<k∧s.head?=N3 48
   ·obtain⟨h1,h48⟩:=hz
    have HR:=NW (show iz s=0 by unfold iz;rw[HL.out,if_pos ⟨h1,h48⟩])
    have h0:0<(tx s).size:=PL
    have t48:((((tx s)[0]'h0).toNat:Int)==48)=Oc:=by
     rw[beq_iff_eq]
     cases s with
     |nil=>cases h48
     |cons b r=>simp only[List.head?_cons,Option.some.injEq] at h48;subst h48;rfl
    clear h48
    have h1':decide (1<(k:Int))=Oc:=OH
    rcases hwhy with hw|⟨hw2,hw3⟩|⟨hw2,hw3⟩
    ·go_wp2
     go_ret
     exact⟨bJ OA,rfl⟩
    ·have hw4:k<s.length:=PH
     go_wp2
     go_ret
     exact⟨bJ OA,rfl⟩
    ·have hw4:k<s.length:=PH
     go_wp2
     go_ret
     exact⟨bJ OA,rfl⟩
   ·have HR:=NW (show iz s=k by unfold iz;rw[HL.out,if_neg hz])
    by_cases h1:1<k
    ·have h48:¬s.head?=N3 48:=fun h=>hz ⟨h1,h⟩
     have h0:0<(tx s).size:=PL
     have t48:((((tx s)[0]'h0).toNat:Int)==48)=N1:=by
      rw[beq_eq_false_iff_ne];intro e;exact h48 (jr e)
     have h1':decide (1<(k:Int))=Oc:=OH
     clear hz h48
     rcases hwhy with hw|⟨hw2,hw3⟩|⟨hw2,hw3⟩
     ·go_wp2
      go_ret
      exact⟨bJ (by rw[HR.out]),rfl⟩
     ·have hw4:k<s.length:=PH
      go_wp2
      go_ret
      exact⟨bJ (by rw[HR.out]),rfl⟩
     ·have hw4:k<s.length:=PH
      go_wp2
      go_ret
      exact⟨bJ (by rw[HR.out]),rfl⟩
    ·have h1':decide (1<(k:Int))=N1:=Oz
     clear hz
     rcases hwhy with hw|⟨hw2,hw3⟩|⟨hw2,hw3⟩
     ·go_wp2
      go_ret
      exact⟨bJ (by rw[HR.out]),rfl⟩
     ·have hw4:k<s.length:=PH
      go_wp2
      go_ret
      exact⟨bJ (by rw[HR.out]),rfl⟩
     ·have hw4:k<s.length:=PH
      go_wp2
      go_ret
      exact⟨bJ (by rw[HR.out]),rfl⟩
end
end Go.Proofs.YtnpihidbkhehjaaGreatDoor
