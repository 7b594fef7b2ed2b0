/- ChangeOnly of kingpostlaw58: part 31 of its proof (merged and shortened by program). -/
import Derived.Test.YtnpihidbkhehjaaGreatDoorM30
set_option linter.unusedVariables false
set_option linter.unusedSimpArgs false
set_option linter.defProp false
set_option maxHeartbeats 8000000
set_option maxRecDepth 100000
open Go.RowKit Go.Shelf Go.Proofs.Tryz
open Array renaming getElem?_eq_some_iff→Od
open Bool renaming false→N1,true→Oc
open Go renaming World→NY,Value→N2,undef→N7,wpOp_step→Ob,Calls→Of,maxLen→Ol,TypeId→Oo
open Go.AllReady renaming cons→Oj,nil→Oq
open Go.IntKind renaming i64→Oe
open Go.IntWalk renaming i64_in→Om
open Go.Lib renaming hid→NW
open Go.RowKit renaming intOf→Oh,Below→On
open Go.World renaming size_alloc→Oi
open List renaming getD_eq_getElem?_getD→N8,length_map→N9,getElem?_eq_getElem→Oa
open Nat renaming le_refl→NZ,mul_comm→Og,le_trans→Ok
open Option renaming none→N0,some→N3
open Go.Proofs.YtnpihidbkhehjaaGreatDoor
namespace Go.Proofs.YtnpihidbkhehjaaGreatDoor
section
open Kp
def JN(a b:ByteArray)(x:Ending):Prop:=∃k:Int,x= .returned (.int .i64 k)∧(k=0→B7 a∧B7 b)
theorem pC (a b : ByteArray) (w : NY) (ha : a.size ≤ 1000000) (hb : b.size ≤ 1000000) : Of prog 269 #[.string a, .string b] w fun x w' => JN a b x ∧ Ext w w' := by
  have KA := NW (jI a w ha)
  have KB := NW (fun W => jI b W hb)
  go_enter func269, ntmps269
  go_wp2_with (first
    | (go_at_call 301; have hX := HX1; clear HX1; refine (KB.out _).mono ?_; rintro e W2 ⟨⟨k2, rfl, h2⟩, hX2⟩; have HX2 := NW (hX.out.tr hX2); have H2 := NW h2; clear hX2 h2)
    | (go_at_call 301; go_must (refine KA.out.mono ?_); rintro e W1 ⟨⟨k, rfl, h1⟩, hX1⟩; have HX1 := NW hX1; have H1 := NW h1; clear hX1 h1))
  all_goals first
    | (go_ret
       exact ⟨⟨_, rfl, fun h => ⟨H1.out (by first | assumption | rfl | omega | simp_all), H2.out h⟩⟩, HX2.out⟩)
    | (go_ret
       exact ⟨⟨_, rfl, fun h => absurd h (by first | assumption | omega | simp_all)⟩, HX1.out⟩)
def Hf(x:Ending):Prop:=∃(z:Int) (ok:Bool),x= .returned (.tuple #[.int .i64 z,.bool ok])∧z.natAbs<3000000000000000000
theorem Ft{z:Int}{k:Nat}{c:UInt8}(h:0≤z∧z≤30*10^k-30):0≤10*z+((c.toNat:Int)-48)%256∧10*z+((c.toNat:Int)-48)%256≤30*10^(k+1)-30:=by
 have:(10:Int)^(k+1)=10*10^k:=by rw[Int.pow_succ,Int.mul_comm]
 rw[this]
 omega
theorem FT{k:Nat}(h:k≤17):(10:Int)^k≤100000000000000000:=by
 have h2:(10:Nat)^k≤10^17:=Nat.pow_le_pow_right Ov h
 have h3:((10^k:Nat):Int)≤((10^17:Nat):Int):=by exact_mod_cast h2
 simpa using h3
end
section
open Kp
theorem np(y:ByteArray)(w:NY)(hp:0<y.size)(hs:y.size≤1000000):Of prog 302 #[.string y] w fun x w'=>Hf x∧Ext w w':=by
 by_cases h17:17<y.size
 ·go_enter func302,ntmps302
  go_wp2
  go_ret2
  exact⟨⟨_,_,rfl,Ov⟩,Below.refl _ _⟩
 obtain⟨p1,t1⟩:∃p,(((y[0]'hp).toNat:Int)==45)=p:=⟨_,rfl⟩
 cases p1
 all_goals
  go_enter func302,ntmps302
  go_wp2
  go_loopw [4,5] (fun n i wr=>∃(z:Int) (k:Nat),n= .int .i64 z∧i= .int .i64 (k:Int)∧k≤y.size∧Ext w wr∧0≤z∧z≤30*10^k-30) (fun _ i _=>((y.size:Int)-Oh i).toNat)
  case atStart=>exact⟨0,0,rfl,rfl,Ot,Below.refl _ _,Ot,Ow⟩
  case round=>
   obtain⟨z,k,rfl,rfl,hk,hX,hz0,hz1⟩:=hrel
   have HX:=NW hX
   have hpk:=FT (k:=k) Ot
   have hzb:z≤3000000000000000000-30:=Ot
   clear hX
   by_cases hlt:k<y.size
   ·have hst:=Ft (c:=y[k]'hlt) ⟨hz0,hz1⟩
    have hpk1:=FT (k:=k+1) Ot
    obtain⟨q,hq⟩:∃q,(((y[k]'hlt).toNat:Int) !=45)=q:=⟨_,rfl⟩
    have H0:=NW hz0
    have hps:(10:Int)^(k+1)=10*10^k:=by rw[Int.pow_succ,Int.mul_comm]
    have HM:=NW (show z≤30*10^(k+1)-30 by rw[hps];omega)
    clear hps
    obtain⟨d,hd⟩:∃d,(((y[k]'hlt).toNat:Int)-48)%256=d:=⟨_,rfl⟩
    rw[hd] at hst
    have hd0:0≤d∧d<256:=Ot
    have w1:Oe.wrap (10*z)=10*z:=Om _ Ot
    have w2:Oe.wrap (10*z+d)=10*z+d:=Om _ Ot
    have HD:=NW hst
    have hu:Oe.wrap d=d:=Om _ Ot
    clear hst hpk hpk1 hz1
    cases q with
    |false=>
     go_wp2
     exact⟨⟨z,k+1,rfl,by go_num,Ot,HX.out,H0.out,HM.out⟩,Oy⟩
    |true=>
     go_wp2
     exact⟨⟨_,k+1,rfl,by go_num,Ot,HX.out,HD.out.1,HD.out.2⟩,Oy⟩
   ·obtain rfl:k=y.size:=Ot
    have w3:Oe.wrap (-z)= -z:=Om _ Ot
    clear hpk hz1
    go_wp2
    go_ret2
    exact⟨⟨_,_,rfl,Ot⟩,HX.out⟩
end
section
open Kp
def Lb(x:Ending):Prop:=∃(a b:Int) (ok:Bool),x= .returned (.tuple #[.int .i64 a,.int .i64 b,.bool ok])∧a.natAbs<3000000000000000000∧b.natAbs<3000000000000000000
theorem rL (a b : ByteArray) (w : NY) (ha : 0 < a.size) (hb : 0 < b.size) (ha6 : a.size ≤ 1000000) (hb6 : b.size ≤ 1000000) : Of prog 270 #[.string a, .string b] w fun x w' => Lb x ∧ Ext w w' := by
  have KA := NW (np a w ha ha6)
  have KB := NW (fun W => np b W hb hb6)
  go_enter func270, ntmps270
  go_wp2_with (first
    | (go_at_call 302; have hX := HX1; clear HX1; refine (KB.out _).mono ?_; rintro e W2 ⟨⟨z2, ok2, rfl, h2⟩, hX2⟩; have HX2 := NW (hX.out.tr hX2); have H2 := NW h2; clear hX2 h2)
    | (go_at_call 302; go_must (refine KA.out.mono ?_); rintro e W1 ⟨⟨z, ok, rfl, h1⟩, hX1⟩; have HX1 := NW hX1; have H1 := NW h1; clear hX1 h1))
  all_goals first
    | (go_ret3
       exact ⟨⟨_, _, _, rfl, H1.out, H2.out⟩, HX2.out⟩)
    | (go_ret3
       exact ⟨⟨_, _, _, rfl, Ov, Ov⟩, HX1.out⟩)
end
section
open Kp
theorem AD{n:Int}(h0: -9223372036854775808≤n)(h1:n≤9223372036854775807):(tx (Lib.itoa n)).size≤1000:=by
 rw[av]
 unfold Lib.itoa
 split
 ·have:=kY n.natAbs 20 Ov Ot
  rw[List.length_cons,Lib.decDigits_length];omega
 ·have:=kY n.toNat 20 Ov Ot
  rw[Lib.decDigits_length];omega
def Je(n:Nat)(e:Ending):Prop:=∃(t:ByteArray) (k:Int),e= .returned (.tuple #[.string t,.int .i64 k])∧t.size≤n
theorem sP(w:NY)(s:Bool)(v:N2)(l:List Nat)(n:Nat)(hs:aR w w.heap.size v l)(hc:aT l)(hl:l.length≤n)(hn:n≤1000):
  Of prog 324 #[.agg #[.bool s,v]] w fun e w'=>Je (6*n+1) e∧Ext w w':=by
 obtain⟨A,ca,rfl,ha1,ha2,hac⟩:=id hs
 have HS:=NW (fun o=>nD (w.alloc o) s _ l (hs.new o) hc Ot)
 have HL:=NW hl
 have hn':n≤1000:=hn
 clear hac hs
 go_enter func324,ntmps324
 go_wp2_with(first
  |(go_at_call 301;go_loud (refine(jI t W1 (by have:=HL.out;omega)).mono ?_);rintro e W2 ⟨⟨k,rfl,_⟩,hX2⟩;have HX2:=NW (HX1.out.tr hX2);clear hX2)
  |(go_at_call 273;go_loud (refine(HS.out _).mono ?_);rintro e W1 ⟨t,rfl,_,ht,hX1,_⟩;have HX1:=NW (Ext.tr ((Below.refl _ _).alloc (NZ _) _) hX1);clear hX1))
 all_goals
  go_ret2
  exact⟨⟨_,_,rfl,by first|(have:=HL.out;omega)|(show 0≤_;omega)⟩,HX2.out⟩
theorem oz(a b:ByteArray)(w:NY)(ha:a.size≤1000000)(hb:b.size≤1000000)(ht:aL w):Of prog 298 #[.string a,.string b] w fun e w'=>Je 1000 e∧Ext w w':=by
 have KB:=NW (pC a b w ha hb)
 have HT:=NW ht
 have HA:=NW ha
 have HB:=NW hb
 clear ht
 obtain⟨p18,h18⟩:∃p,decide ((a.size:Int)+(b.size:Int)≤18)=p:=⟨_,rfl⟩
 go_enter func298,ntmps298
 go_wp2_with(first
  |(go_at_call 270;fail)
  |(go_at_call 269;go_loud (refine KB.out.mono ?_);rintro e W1 ⟨⟨k,rfl,h1⟩,hX1⟩;have H1:=NW h1;have X1:=NW hX1;clear h1 hX1))
 ·go_ret2
  exact⟨⟨_,_,rfl,by show 0≤_;omega⟩,X1.out⟩
 ·have h0:k=0:=Pt
  have HI:=NW (H1.out h0)
  refine(rL a b W1 (by obtain⟨f,_,h,_⟩:=HI.out.1.ex;omega) (by obtain⟨f,_,h,_⟩:=HI.out.2.ex;omega) HA.out HB.out).mono ?_
  rintro e W2 ⟨⟨x,y,ok,rfl,hx,hy⟩,hX2⟩
  have X2:=NW (X1.out.tr hX2)
  clear hX2
  obtain⟨z,hz⟩:∃z,Oe.wrap (x*y)=z:=⟨_,rfl⟩
  have hzb:=Ho (x*y)
  rw[hz] at hzb
  obtain⟨hz0,hz1⟩:=hzb
  cases ok<;>cases p18
  all_goals go_wp2_with(first
  |(go_at_call 324;go_loud (refine(sP W5 s5 v5 l5 103 hs5 hc5 hl5 Ov).mono ?_);rintro e W6 ⟨⟨t,k,rfl,ht6⟩,hX6⟩;have HX6:=NW (((X4.out.tr hX5)).tr hX6))
  |(go_at_call 325;go_loud (refine(CJ W4 s3 s4 l3 l4 v3 v4 51 (hs3.grow hX4) hs4 hc3 hc4 hl3 hl4 Ov).mono ?_);rintro e W5 ⟨s5,v5,l5,rfl,hs5,hc5,hl5,hX5⟩)
  |(go_at_call 271;go_loud (refine(jx W3 b HI.out.2).mono ?_);rintro e W4 ⟨s4,v4,l4,rfl,hs4,hc4,hl4,hX4⟩;have X4:=NW (X3.out.tr hX4))
  |(go_at_call 271;go_loud (refine(jx W2 a HI.out.1).mono ?_);rintro e W3 ⟨s3,v3,l3,rfl,hs3,hc3,hl3,hX3⟩;have X3:=NW (X2.out.tr hX3))
  |(go_at_call 181;go_loud (refine(fT z W2 hz0 hz1 (HT.out.below X2.out (NZ _))).mono ?_);rintro e W3 ⟨rfl,hX3⟩;have X3:=NW (X2.out.tr hX3)))
  all_goals go_ret2
  all_goals first
   |exact⟨⟨_,_,rfl,Ot⟩,HX6.out⟩
   |exact⟨⟨_,_,rfl,AD hz0 hz1⟩,X3.out⟩
end
section
open Kp
def IP(e:Ending):Prop:=∃c k:Int,e= .returned (.tuple #[.int .i64 c,.int .i64 k])
theorem qE(a b:ByteArray)(w:NY)(ha:a.size≤1000000)(hb:b.size≤1000000):Of prog 268 #[.string a,.string b] w fun e w'=>IP e∧Ext w w':=by
 have KB:=NW (pC a b w ha hb)
 have HA:=NW ha
 have HB:=NW hb
 go_enter func268,ntmps268
 go_wp2_with(first
  |(go_at_call 270;fail)
  |(go_at_call 269;go_loud (refine KB.out.mono ?_);rintro e W1 ⟨⟨k,rfl,h1⟩,hX1⟩;have H1:=NW h1;have X1:=NW hX1;clear h1 hX1))
 ·go_ret2
  exact⟨⟨_,_,rfl⟩,X1.out⟩
 ·have h0:k=0:=Pt
  have HI:=NW (H1.out h0)
  refine(rL a b W1 (by obtain⟨f,_,h,_⟩:=HI.out.1.ex;omega) (by obtain⟨f,_,h,_⟩:=HI.out.2.ex;omega) HA.out HB.out).mono ?_
  rintro e W2 ⟨⟨x,y,ok,rfl,hx,hy⟩,hX2⟩
  have X2:=NW (X1.out.tr hX2)
  clear hX2
  cases ok
  ·go_wp2_with(first
    |(go_at_call 299;go_loud (refine(Cm W5 s3 s5 l3 l5 v3 v5 51 (hs3.grow (hX4.trans (hX5.mono hX4.size))) hs5 hc3 hc5 hl3 hl5 Ov).mono ?_);rintro e W6 ⟨s6,v6,l6,rfl,hs6,hc6,hl6,hX6⟩;obtain⟨A6,c6,e6,_,_,_⟩:=id hs6;subst e6;have X6:=NW ((X4.out.tr hX5).tr hX6))
    |(go_at_call 300;go_loud (refine(pL W4 s4 v4 l4 51 hs4 hc4 hl4).mono ?_);rintro e W5 ⟨s5,v5,l5,rfl,hs5,hc5,hl5,hX5⟩)
    |(go_at_call 271;go_loud (refine(jx W3 b HI.out.2).mono ?_);rintro e W4 ⟨s4,v4,l4,rfl,hs4,hc4,hl4,hX4⟩;have X4:=NW (X3.out.tr hX4))
    |(go_at_call 271;go_loud (refine(jx W2 a HI.out.1).mono ?_);rintro e W3 ⟨s3,v3,l3,rfl,hs3,hc3,hl3,hX3⟩;have X3:=NW (X2.out.tr hX3)))
   all_goals go_ret2
   all_goals exact⟨⟨_,_,rfl⟩,X6.out.alloc X6.out.size _⟩
  ·go_wp2_with fail
   all_goals go_ret2
   all_goals exact⟨⟨_,_,rfl⟩,X2.out⟩
end
section
open Kp
theorem mT(z:ByteArray)(w:NY)(h:yn z):Of prog 301 #[.string z] w fun x w'=>x= .returned (.int .i64 0)∧Ext w w':=by
 obtain⟨n,hn⟩:∃n,z.size=n:=⟨_,rfl⟩
 have hp:0<z.size:=h.pos
 have hn3:n≤300:=by have:=h.len;omega
 have H:=NW h
 obtain⟨p1,t1⟩:∃p,(((z[0]'hp).toNat:Int)==45)=p:=⟨_,rfl⟩
 obtain⟨p2,t2⟩:∃p,(((z[0]'hp).toNat:Int)==48)=p:=⟨_,rfl⟩
 obtain⟨p3,t3⟩:∃p,decide ((n:Int)>1)=p:=⟨_,rfl⟩
 obtain rfl:p1=N1:=by
  cases p1
  ·rfl
  ·obtain⟨g,hg,e⟩:=h.at hp
   have:=beq_iff_eq.1 t1
   omega
 have h00:((0:Int)==(n:Int))=N1:=beq_eq_false_iff_ne.2 Ot
 have h23:¬(p2=Oc∧p3=Oc):=by
  rintro⟨rfl,rfl⟩
  exact h.lead hp (by have:=of_decide_eq_true t3;omega) (beq_iff_eq.1 t2)
 have H23:=NW h23
 have HN:=NW hn
 clear h h23
 cases p2<;>cases p3
 case true.true=>exact absurd ⟨rfl,rfl⟩ H23.out
 all_goals
  go_enter func301,ntmps301
  go_wp2
  go_loopw [4] (fun i wr=>∃k:Nat,i= .int .i64 (k:Int)∧k≤n∧Ext w wr) (fun i _=>((n:Int)-Oh i).toNat)
  case atStart=>exact⟨0,rfl,Ot,Below.refl _ _⟩
  case round=>
   obtain⟨k,rfl,hk,hX⟩:=hrel
   have HX:=NW hX
   clear hX
   by_cases hlt:k<n
   ·have hb:k<z.size:=Ot
    obtain⟨g,hg,e⟩:=H.out.at hb
    have q1:decide (((z[k]'hb).toNat:Int)<48)=N1:=decide_eq_false Ot
    have q2:decide (((z[k]'hb).toNat:Int)>57)=N1:=decide_eq_false Ot
    clear e
    go_wp2
    exact⟨⟨k+1,by go_num,Ot,HX.out⟩,Oy⟩
   ·obtain rfl:k=n:=Ot
    have t9:¬300<(k:Int)-0:=Ot
    go_wp2
    go_ret
    exact⟨rfl,HX.out⟩
theorem zE(a b:ByteArray)(w:NY)(ha:yn a)(hb:yn b):Of prog 269 #[.string a,.string b] w fun x w'=>x= .returned (.int .i64 0)∧Ext w w':=by
 have KA:=NW (mT a w ha)
 have KB:=NW (fun W=>mT b W hb)
 go_enter func269,ntmps269
 go_wp2_with(first
  |(go_at_call 301;have hX:=HX1;clear HX1;refine(KB.out _).mono ?_;rintro e W2 ⟨rfl,hX2⟩;have HX2:=NW (hX.out.tr hX2);clear hX2)
  |(go_at_call 301;go_must(refine KA.out.mono ?_);rintro e W1 ⟨rfl,hX1⟩;have HX1:=NW hX1;clear hX1))
 go_ret
 exact⟨rfl,HX2.out⟩
theorem tF{z:ByteArray}(h:yn z){k:Nat}(hk:k≤z.size):dq z k<10^k:=by
 induction k with
 |zero=>exact Nat.one_pos
 |succ k ih=>
  obtain⟨g,hg,e⟩:=h.at (k:=k) Ot
  rw[iL Ot e,Nat.pow_succ]
  have:=ih Ot
  omega
theorem G7{k:Nat}(h:k≤17):(10:Nat)^k≤100000000000000000:=Nat.pow_le_pow_right Ov h
def Km(z:ByteArray)(x:Ending):Prop:=∃(v:Int) (ok:Bool),x= .returned (.tuple #[.int .i64 v,.bool ok])∧(ok=Oc→v=(dq z z.size:Int))∧v.natAbs<3000000000000000000
theorem mY(y:ByteArray)(w:NY)(h:yn y):Of prog 302 #[.string y] w fun x w'=>Km y x∧Ext w w':=by
 have hp:=h.pos
 have hs:y.size≤1000000:=by have:=h.len;omega
 by_cases h17:17<y.size
 ·clear h
  go_enter func302,ntmps302
  go_wp2
  go_ret2
  exact⟨⟨_,_,rfl,fun h=>Ox,Ov⟩,Below.refl _ _⟩
 have H:=NW h
 have p1:(((y[0]'hp).toNat:Int)==45)=N1:=by
  obtain⟨g,hg,e⟩:=h.at hp
  rw[beq_eq_false_iff_ne];omega
 clear h
 go_enter func302,ntmps302
 go_wp2
 go_loopw [4,5] (fun n i wr=>∃(k:Nat),n= .int .i64 (dq y k:Nat)∧i= .int .i64 (k:Int)∧k≤y.size∧Ext w wr) (fun _ i _=>((y.size:Int)-Oh i).toNat)
 case atStart=>exact⟨0,rfl,rfl,Ot,Below.refl _ _⟩
 case round=>
  obtain⟨k,rfl,rfl,hk,hX⟩:=hrel
  have HX:=NW hX
  have hv:=Nat.lt_of_lt_of_le (tF H.out hk) (G7 Ot)
  obtain⟨v,hvv⟩:∃v,dq y k=v:=⟨_,rfl⟩
  rw[hvv] at hv⊢
  have HV:=NW hvv
  clear hX hvv
  by_cases hlt:k<y.size
  ·obtain⟨g,hg,e⟩:=H.out.at hlt
   have HS:=NW (iL hlt e)
   have hd:(((y[k]'hlt).toNat:Int)-48)%256=(g:Int):=by rw[e];omega
   have q:(((y[k]'hlt).toNat:Int) !=45)=Oc:=Ph
   have hu:Oe.wrap (g:Int)=g:=Om _ Ot
   clear e
   go_wp2
   exact⟨⟨k+1,by rw[HS.out,HV.out];simp,by go_num,Ot,HX.out⟩,Oy⟩
  ·obtain rfl:k=y.size:=Ot
   go_wp2
   go_ret2
   exact⟨⟨_,_,rfl,fun _=>by rw[HV.out],Ot⟩,HX.out⟩
def M9(a b:ByteArray)(x:Ending):Prop:=∃(u v:Int) (ok:Bool),x= .returned (.tuple #[.int .i64 u,.int .i64 v,.bool ok])∧u.natAbs<3000000000000000000∧v.natAbs<3000000000000000000∧(ok=Oc→u=(dq a a.size:Int)∧v=(dq b b.size:Int))
theorem CX (a b : ByteArray) (w : NY) (ha : yn a) (hb : yn b) : Of prog 270 #[.string a, .string b] w fun x w' => M9 a b x ∧ Ext w w' := by
  have KA := NW (mY a w ha)
  have KB := NW (fun W => mY b W hb)
  go_enter func270, ntmps270
  go_wp2_with (first
    | (go_at_call 302; have hX := HX1; clear HX1; refine (KB.out _).mono ?_; rintro e W2 ⟨⟨z2, ok2, rfl, h2, h2b⟩, hX2⟩; have HX2 := NW (hX.out.tr hX2); have H2 := NW h2; clear hX2 h2)
    | (go_at_call 302; go_must (refine KA.out.mono ?_); rintro e W1 ⟨⟨z, ok, rfl, h1, h1b⟩, hX1⟩; have HX1 := NW hX1; have H1 := NW h1; clear hX1 h1))
  all_goals first
    | (go_ret3
       exact ⟨⟨_, _, _, rfl, h1b, h2b, fun h => ⟨H1.out (by first | assumption | simp_all), H2.out (by first | assumption | simp_all)⟩⟩, HX2.out⟩)
    | (go_ret3
       exact ⟨⟨_, _, _, rfl, Ov, Ov, fun h => Ox⟩, HX1.out⟩)
end
section
open Kp
theorem yn.LM{z:ByteArray}(h:yn z):B7 z:=
 ⟨⟨0,Ot,h.pos,h.all,by have:=h.len;omega,⟨fun e=>absurd e Ov,fun⟨hp,e⟩=>by have:=h.all 0 (NZ _) hp hp;omega⟩⟩⟩
theorem FZ(z:Int):(tx (Lib.itoa z)).toList=[49]↔z=1:=by
 have h1:Lib.itoa 1=[49]:=PN
 rw[ByteArray.toList_eq,bE,←h1]
 constructor
 ·intro h
  have:=congrArg Lib.atoi h
  rw[ry,ry] at this
  exact Option.some.inj this
 ·rintro rfl;rfl
def Li(a b:ByteArray)(e:Ending):Prop:=∃(t:ByteArray) (k:Int),e= .returned (.tuple #[.string t,.int .i64 k])∧t.size≤1000∧(t.toList=[49]↔Nat.gcd (dq a a.size) (dq b b.size)=1)
structure Nq(w:NY)(g:Nat)(x y:N2)(wr:NY):Prop where
 ex:∃a b,aR wr wr.heap.size x a∧aR wr wr.heap.size y b∧aT a∧aT b∧a.length≤51∧b.length≤51∧Nat.gcd (aA a) (aA b)=g
 low:Ext w wr
theorem Cw(a b:ByteArray)(w:NY)(da:yn a)(db:yn b)(ht:aL w):Of prog 237 #[.string a,.string b] w fun e w'=>Li a b e∧Ext w w':=by
 have KB:=NW (zE a b w da db)
 have ha:a.size≤1000000:=by have:=da.len;omega
 have hb:b.size≤1000000:=by have:=db.len;omega
 obtain⟨g,hg⟩:∃g,Nat.gcd (dq a a.size) (dq b b.size)=g:=⟨_,rfl⟩
 have DA:=NW da
 have DB:=NW db
 have HG:=NW hg
 have HZ:=NW (show∀z:Int,z.natAbs=g→0≤z→((tx (Lib.itoa z)).toList=[49]↔Nat.gcd (dq a a.size) (dq b b.size)=1) from fun z h h0=>by
  rw[hg,FZ];omega)
 clear da db hg
 have HT:=NW ht
 have HA:=NW ha
 have HB:=NW hb
 have hfd:∀(p:Bool) (v:N2) (W:NY),(Instr.field 302 (.agg #[.bool p,v]) 1).run prog W= .ok v W:=fun _ _ _=>Ou
 clear ht
 go_enter func237,ntmps237
 go_wp2_with(first
  |(go_at_call 270;fail)
  |(go_at_call 269;go_loud (refine KB.out.mono ?_);rintro e W1 ⟨rfl,hX1⟩;have X1:=NW hX1;clear hX1))
 ·refine(CX a b W1 DA.out DB.out).mono ?_
  rintro e W2 ⟨⟨x,y,ok,rfl,hx,hy,hv⟩,hX2⟩
  have X2:=NW (X1.out.tr hX2)
  have HV:=NW hv
  clear hX2 hv
  cases ok
  ·go_wp2_with(first
    |(go_at_call 271;go_loud (refine(lh W3 b DB.out.LM).mono ?_);rintro e W4 ⟨s4,v4,l4,rfl,hs4,hc4,hl4,hX4,hv4⟩;have V4:=NW (hv4 DB.out.all);clear hv4;have X4:=NW (X3.out.tr hX4))
    |(go_at_call 271;go_loud (refine(lh W2 a DA.out.LM).mono ?_);rintro e W3 ⟨s3,v3,l3,rfl,hs3,hc3,hl3,hX3,hv3⟩;have V3:=NW (hv3 DA.out.all);clear hv3;have X3:=NW (X2.out.tr hX3)))
   have ST:=NW (show Nq w g v3 v4 W4 from⟨⟨l3,l4,hs3.grow hX4,hs4,hc3,hc4,hl3,hl4,by rw[V3.out,V4.out];exact HG.out⟩,X4.out⟩)
   clear hs3 hs4 hc3 hc4 hl3 hl4
   go_loopw [10,11] (fun x y wr=>Nq w g x y wr) (fun _ y wr=>Aq y wr)
   case atStart=>exact ST.out
   case round=>
    obtain⟨⟨p,q,sx,sy,cx,cy,lx,ly,hgv⟩,hX⟩:=hrel
    have HGV:=NW hgv
    clear hgv
    have hvy:=lI sy
    obtain⟨Ay,cpy,rfl,hy1,hy2,_⟩:=id sy
    obtain⟨Ax,cpx,rfl,hx1,hx2,_⟩:=id sx
    unfold Ol at hy2 hx2
    have HSY:=NW sy
    have HVY:=NW hvy
    have HX:=NW hX
    by_cases hq0:q=[]
    ·subst hq0
     have CW:=NW (nD wr N1 _ p sx cx Ot)
     clear sx sy hvy hX
     go_wp2_with(go_at_call 273;go_loud (refine CW.out.mono ?_);rintro e W5 ⟨t,rfl,_,ht5,hX5,ht1⟩)
     go_ret2
     exact⟨⟨_,_,rfl,Ot,by rw[ht1 Ow,HG.out,←HGV.out];show _↔Nat.gcd (aA p) 0=1;rw[Nat.gcd_zero_right]⟩,HX.out.tr hX5⟩
    ·have hpos:0<q.length:=List.length_pos_iff.2 hq0
     have hpos':decide (0<(q.length:Int))=Oc:=OH
     have CD:=NW (tX wr p q _ _ sx sy cx.small cy Ot Ot hq0)
     clear sx sy hvy hX
     go_wp2_with(go_at_call 272;go_loud (refine CD.out.mono ?_);rintro e W5 ⟨vq,vr,rl,rfl,hsr,hcr,hvr,hX5⟩)
     refine⟨⟨⟨q,rl,HSY.out.grow hX5,hsr,cy,hcr,ly,?_,by rw[hvr,Nat.gcd_comm,←Nat.gcd_rec,Nat.gcd_comm];exact HGV.out⟩,HX.out.tr hX5⟩,?_⟩
     ·have:=js hcr cy.small (by rw[hvr];exact Nat.le_of_lt (Nat.mod_lt _ (oD cy.trim hq0)));omega
     ·rw[lI hsr,HVY.out,hvr];exact Nat.mod_lt _ (oD cy.trim hq0)
  ·go_wp2_with fail
   go_loopw [7,8] (fun u v wr=>∃p q:Int,u= .int .i64 p∧v= .int .i64 q∧p.natAbs<3000000000000000000∧q.natAbs<3000000000000000000∧Nat.gcd p.natAbs q.natAbs=g∧Ext w wr) (fun _ v _=>(Oh v).natAbs)
   case atStart=>exact⟨x,y,rfl,rfl,hx,hy,by rw[(HV.out Ow).1,(HV.out Ow).2,Int.natAbs_natCast,Int.natAbs_natCast];exact HG.out,X2.out⟩
   case round=>
    obtain⟨p,q,rfl,rfl,hp,hq,hgv,hX⟩:=hrel
    have HGV:=NW hgv
    clear hgv
    have HX:=NW hX
    clear hX
    by_cases h0:q=0
    ·subst h0
     have HGP:=NW (show(max p (-p)).natAbs=g by have h:=HGV.out;simp at h;omega)
     have HP0:=NW (show 0≤max p (-p) by omega)
     have hmx:(max p (-p)).natAbs<3000000000000000000:=Ot
     have w1:Oe.wrap (-p)= -p:=Om _ Ot
     obtain⟨z,hz⟩:∃z,max p (-p)=z:=⟨_,rfl⟩
     rw[hz] at hmx HGP HP0
     go_wp2_with(go_at_call 181;go_loud (refine(fT z wr Ot Ot (HT.out.below HX.out (NZ _))).mono ?_);rintro e W3 ⟨rfl,hX3⟩)
     go_ret2
     exact⟨⟨_,_,rfl,AD Ot Ot,HZ.out z HGP.out HP0.out⟩,HX.out.tr hX3⟩
    ·have h1:(p.tmod q).natAbs=p.natAbs%q.natAbs:=Int.natAbs_tmod _ _
     have h2:p.natAbs%q.natAbs<q.natAbs:=Nat.mod_lt _ Ot
     have w1:Oe.wrap (p.tmod q)=p.tmod q:=Om _ Ot
     have t0:(q !=0)=Oc:=bne_iff_ne.2 h0
     have H1:=NW (show(p.tmod q).natAbs<q.natAbs by omega)
     obtain⟨r,hr⟩:∃r,p.tmod q=r:=⟨_,rfl⟩
     have HGR:=NW (show Nat.gcd q.natAbs (p.tmod q).natAbs=g by rw[h1,Nat.gcd_comm,←Nat.gcd_rec,Nat.gcd_comm];exact HGV.out)
     rw[hr] at w1 H1 HGR
     clear h1 h2
     go_wp2_with fail
     go_quiet (fail)
     go_wp2
     go_round
     case rel=>exact⟨q,r,rfl,rfl,hq,by have:=H1.out;omega,HGR.out,below_drewN HX.out _⟩
     case measure=>simp[Oh];exact H1.out
end
section
open Kp
theorem Dg.kB{z:ByteArray}(h:Dg z)(hs:z.size≤300):yn z:=⟨h.pos,hs,fun m _ _ hm=>h.all m hm,h.lead⟩
theorem En{k:Nat}(h:k≤9):(10:Nat)^k≤1000000000:=Nat.pow_le_pow_right Ov h
theorem ni(y:ByteArray)(w:NY)(h:yn y)(h9:y.size≤9):Of prog 236 #[.string y] w fun x w'=>x= .returned (.int .i64 (dq y y.size:Nat))∧Ext w w':=by
 have H:=NW h
 clear h
 go_enter func236,ntmps236
 go_wp2
 go_loopw [3,4] (fun n i wr=>∃(k:Nat),n= .int .i64 (dq y k:Nat)∧i= .int .i64 (k:Int)∧k≤y.size∧Ext w wr) (fun _ i _=>((y.size:Int)-Oh i).toNat)
 case atStart=>exact⟨0,rfl,rfl,Ot,Below.refl _ _⟩
 case round=>
  obtain⟨k,rfl,rfl,hk,hX⟩:=hrel
  have HX:=NW hX
  have hv:=Nat.lt_of_lt_of_le (tF H.out hk) (En Ot)
  obtain⟨v,hvv⟩:∃v,dq y k=v:=⟨_,rfl⟩
  rw[hvv] at hv⊢
  have HV:=NW hvv
  clear hX hvv
  by_cases hlt:k<y.size
  ·obtain⟨g,hg,e⟩:=H.out.at hlt
   have HS:=NW (iL hlt e)
   have hd:(((y[k]'hlt).toNat:Int)-48)%256=(g:Int):=by rw[e];omega
   have hu:Oe.wrap (g:Int)=g:=Om _ Ot
   clear e
   go_wp2
   exact⟨⟨k+1,by rw[HS.out,HV.out];simp,by go_num,Ot,HX.out⟩,Oy⟩
  ·obtain rfl:k=y.size:=Ot
   go_wp2
   go_ret
   exact⟨OT,HX.out⟩
theorem B4(a b:Nat)(w:NY)(hb:b<1000000000000000000):Of prog 235 #[.int .i64 (a:Int),.int .i64 (b:Int)] w fun x w'=>x= .returned (.int .i64 (Nat.gcd a b:Nat))∧Ext w w':=by
 obtain⟨g,hg⟩:∃g,Nat.gcd a b=g:=⟨_,rfl⟩
 rw[hg]
 have HG:=NW hg
 clear hg
 go_enter func235,ntmps235
 go_wp2
 go_loopw [0,1] (fun x y wr=>∃p q:Nat,x= .int .i64 (p:Int)∧y= .int .i64 (q:Int)∧q<1000000000000000000∧Nat.gcd p q=g∧Ext w wr) (fun _ y _=>(Oh y).natAbs)
 case atStart=>exact⟨a,b,rfl,rfl,hb,HG.out,Below.refl _ _⟩
 case round=>
  obtain⟨p,q,rfl,rfl,hq,hg,hX⟩:=hrel
  have HX:=NW hX
  have HV:=NW hg
  clear hX hg
  by_cases h0:q=0
  ·subst h0
   go_wp2
   go_ret
   exact⟨by rw[←HV.out,Nat.gcd_zero_right];rfl,HX.out⟩
  ·obtain⟨r,hr⟩:∃r,p%q=r:=⟨_,rfl⟩
   have h1:(p:Int).tmod q=(r:Int):=by rw[IntWalk.rem_in _ _ Ot,←hr];simp
   have h2:r<q:=by rw[←hr];exact Nat.mod_lt _ Ot
   have HGR:=NW (show Nat.gcd q r=g by rw[←hr,Nat.gcd_comm,←Nat.gcd_rec,Nat.gcd_comm];exact HV.out)
   have w1:Oe.wrap (r:Int)=r:=Om _ Ot
   have t0:((q:Int) !=0)=Oc:=bne_iff_ne.2 Ot
   have h00:¬(q:Int)=0:=Ot
   clear hr
   go_wp2_with fail
   go_quiet (fail)
   go_wp2
   go_round
   case rel=>exact⟨q,r,rfl,rfl,Ot,HGR.out,below_drewN HX.out _⟩
   case measure=>simp[Oh];exact h2
end
section
open Kp
theorem lM(z:ByteArray):(bH z).2.2.1.size≤z.size:=by
 have key:∀(y:ByteArray) (q:Nat) (m:Bool),y.size≤z.size→(if q<y.size then(m,y.extract 0 q,y.extract (q+1) y.size,Oc) else(m,y,(⟨#[]⟩:ByteArray),N1)).2.2.1.size≤z.size:=by
  intro y q m hy
  split
  ·show(y.extract (q+1) y.size).size≤z.size
   rw[ByteArray.size_extract];omega
  ·exact Nat.zero_le _
 have h2:(if(z.data.toList.head?==N3 45)=Oc then z.extract 1 z.size else z).size≤z.size:=by
  split
  ·rw[ByteArray.size_extract];omega
  ·exact NZ _
 exact key _ _ _ h2
structure LV(z:ByteArray):Prop where
 pos:0<z.size
 num:0<(pN (bH z)).size
 den:0<(pD (bH z)).size
def yB(g sl p1 p2 p3 p4 p5 p6:Bool):Bool:= !(sl&&(p1||p2))&& !(g&&p3)&& !p4&& !p5&&(!sl||p6)
def uF(z:ByteArray):Prop:=
 let v:=bH z
 Dg v.2.1∧(v.2.2.2=Oc→Dg v.2.2.1)∧yB v.1 v.2.2.2 (v.2.2.1.toList==[48]) (v.2.2.1.toList==[49]) (v.2.1.toList==[48]) (decide (300<v.2.1.size)) (decide (300<v.2.2.1.size)) (Nat.gcd (dq v.2.1 v.2.1.size) (dq v.2.2.1 v.2.2.1.size)==1)=Oc
theorem uF.num{z:ByteArray}(h:uF z):LV z:=by
 obtain⟨h1,h2,_⟩:=h
 have hn:=iq z
 have:=h1.pos
 refine⟨Ot,?_,?_⟩
 ·unfold pN;split
  ·rw[ByteArray.size_append];omega
  ·exact h1.pos
 ·unfold pD;split
  ·exact(h2 OD).pos
  ·decide
def Jf(z:ByteArray)(e:Ending):Prop:=∃k:Int,e= .returned (.int .i64 k)∧(k=0↔uF z)
theorem fU (z : ByteArray) (w : NY) (hs : z.size ≤ 1000000) (ht : aL w) : Of prog 212 #[.string z] w fun e w' => Jf z e ∧ Ext w w' := by
  have HT := NW ht
  have KS := NW (nw z w hs)
  have hn := iq z
  have hd := lM z
  have HO := NW (show uF z ↔ uF z from Iff.rfl)
  unfold Jf
  unfold uF at HO ⊢
  obtain ⟨⟨g, n, d, sl⟩, hv⟩ : ∃ v, bH z = v := ⟨_, rfl⟩
  rw [hv] at KS hn hd ⊢
  dsimp only at hn hd ⊢
  clear hv ht HO
  have hnn : n.size ≤ 1000000 := Ot
  have hdd : d.size ≤ 1000000 := Ot
  have DN := NW (fun W => pU n W hnn)
  have DD := NW (fun W => pU d W hdd)
  obtain ⟨p1, h1⟩ : ∃ p, (d.toList == [48]) = p := ⟨_, rfl⟩
  obtain ⟨p2, h2⟩ : ∃ p, (d.toList == [49]) = p := ⟨_, rfl⟩
  obtain ⟨p3, h3⟩ : ∃ p, (n.toList == [48]) = p := ⟨_, rfl⟩
  obtain ⟨p4, h4⟩ : ∃ p, decide (300 < n.size) = p := ⟨_, rfl⟩
  obtain ⟨p5, h5⟩ : ∃ p, decide (300 < d.size) = p := ⟨_, rfl⟩
  obtain ⟨q, hq⟩ : ∃ q, Nat.gcd (dq n n.size) (dq d d.size) = q := ⟨_, rfl⟩
  obtain ⟨p6, h6⟩ : ∃ p, (q == 1) = p := ⟨_, rfl⟩
  rw [h1, h2, h3, h4, h5, hq, h6]
  have h4i : decide (300 < (n.size : Int)) = p4 := by rw [← h4]; simp; omega
  have h5i : decide (300 < (d.size : Int)) = p5 := by rw [← h5]; simp; omega
  have h6i : ((q : Int) != 1) = !p6 := by
    rw [← h6]; cases hb : (q == 1)
    · rw [beq_eq_false_iff_ne] at hb; rw [Bool.not_false, bne_iff_ne]; omega
    · rw [beq_iff_eq] at hb; subst hb; rfl
  have HT6 := NW (show ∀ t : ByteArray, (t.toList = [49] ↔ Nat.gcd (dq n n.size) (dq d d.size) = 1) → (t.toList == [49]) = p6 from fun t h => by
    rw [hq] at h; rw [← h6, Bool.eq_iff_iff, beq_iff_eq, beq_iff_eq]; exact h)
  have HQ := NW hq
  have hq18 : q.gcd 0 = q := Nat.gcd_zero_right q
  clear hq h4 h5 h6 hq18
  cases g <;> cases sl
  all_goals
    go_enter func212, ntmps212
    go_wp2_with (go_at_call 233; go_must (refine KS.out.mono ?_); unfold zF; rintro e W1 ⟨rfl, hX1⟩; have HX1 := NW hX1; clear hX1)
    refine (DN.out W1).mono ?_
    rintro e W2 ⟨⟨b, rfl, hb⟩, hX2⟩
    have X2 := NW (HX1.out.tr hX2)
    have HB := NW hb
    clear hX2 hb
    cases b
  all_goals (cases p4 <;> cases p5)
  all_goals go_wp2_with (first
      | (go_at_call 237; go_loud (refine (Cw n d _ ((HB.out.1 Ow).kB (by have := of_decide_eq_false h4i; omega)) ((HB3.out.1 (by first | simp | assumption)).kB (by have := of_decide_eq_false h5i; omega)) (HT.out.below X3.out (NZ _))).mono ?_); rintro e W4 ⟨⟨t, k, rfl, _, ht⟩, hX4⟩; have X4 := NW (X3.out.tr hX4); have ht6 := HT6.out t ht; clear hX4 ht)
      | (go_at_call 235; go_loud (refine (B4 (dq n n.size) (dq d d.size) _ (by have := Nat.lt_of_lt_of_le (tF D3.out (NZ _)) (En Ot); omega)).mono ?_); rw [HQ.out]; rintro e W6 ⟨rfl, hX6⟩; have X6 := NW (X5.out.tr hX6); clear hX6)
      | (go_at_call 236; have D3 := NW ((HB3.out.1 (by first | simp | assumption)).kB Ot); (with_reducible refine (ni d _ D3.out Ot).mono ?_); rintro e W5 ⟨rfl, hX5⟩; have X5 := NW (X4.out.tr hX5); clear hX5)
      | (go_at_call 236; go_loud (refine (ni n _ ((HB.out.1 Ow).kB Ot) Ot).mono ?_); rintro e W4 ⟨rfl, hX4⟩; have X4 := NW (X3.out.tr hX4); clear hX4)
      | (go_at_call 234; go_loud (refine (DD.out _).mono ?_); rintro e W3 ⟨⟨b3, rfl, hb3⟩, hX3⟩; have X3 := NW (X2.out.tr hX3); have HB3 := NW hb3; clear hX3 hb3))
  all_goals go_ret
  all_goals refine ⟨?_, by first | exact X2.out | exact X3.out | exact X4.out | exact X6.out⟩
  all_goals first
    | (refine ⟨0, rfl, ⟨fun _ => ⟨HB.out.1 ?_, fun h => ?_, ?_⟩, fun _ => rfl⟩⟩
       · first | rfl | trivial
       · first | (cases h; done) | (apply HB3.out.1; first | rfl | trivial | assumption)
       · simp_all [yB]; done)
    | (refine ⟨_, rfl, ⟨fun h => absurd h Ov, fun ⟨h, _⟩ => ?_⟩⟩
       have hh := HB.out.2 h
       cases hh; done)
    | (refine ⟨_, rfl, ⟨fun h => absurd h Ov, fun ⟨_, _, h⟩ => ?_⟩⟩
       simp_all [yB]; done)
    | (refine ⟨_, rfl, ⟨fun h => absurd h Ov, fun ⟨_, h, _⟩ => ?_⟩⟩
       have hh := HB3.out.2 (h (by first | rfl | trivial))
       simp_all; done)
    | trace_state
end
end Go.Proofs.YtnpihidbkhehjaaGreatDoor
