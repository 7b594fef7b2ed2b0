/- ChangeOnly of kingpostlaw58: part 32 of its proof (merged and shortened by program). -/
import Derived.Test.YtnpihidbkhehjaaGreatDoorM31
set_option linter.unusedVariables false
set_option linter.unusedSimpArgs false
set_option linter.defProp false
set_option maxHeartbeats 8000000
set_option maxRecDepth 100000
open Go.RowKit Go.Shelf Go.Proofs.Tryz
open Array renaming getElem?_eq_some_iff→Od
open Bool renaming false→N1,true→Oc
open Go renaming World→NY,Value→N2,undef→N7,wpOp_step→Ob,Calls→Of,maxLen→Ol,TypeId→Oo
open Go.AllReady renaming cons→Oj,nil→Oq
open Go.IntKind renaming i64→Oe
open Go.IntWalk renaming i64_in→Om
open Go.Lib renaming hid→NW
open Go.RowKit renaming intOf→Oh,Below→On
open Go.World renaming size_alloc→Oi
open List renaming getD_eq_getElem?_getD→N8,length_map→N9,getElem?_eq_getElem→Oa
open Nat renaming le_refl→NZ,mul_comm→Og,le_trans→Ok
open Option renaming none→N0,some→N3
open Go.Proofs.YtnpihidbkhehjaaGreatDoor
namespace Go.Proofs.YtnpihidbkhehjaaGreatDoor
section
open Kp
def Lh(z:ByteArray)(e:Ending):Prop:=∃(a b:ByteArray) (k:Int),e= .returned (.tuple #[.string a,.string b,.int .i64 k])∧(uF z→k=0∧a=pN (bH z)∧b=pD (bH z))
theorem lR(z:ByteArray)(w:NY)(hs:z.size≤1000000)(ht:aL w):Of prog 213 #[.string z] w fun e w'=>Lh z e∧Ext w w':=by
 have KC:=NW (fU z w hs ht)
 have KP:=NW (fun W=>jO z W hs)
 go_enter func213,ntmps213
 go_wp2_with(first
  |(go_at_call 238;go_loud (refine(KP.out _).mono ?_);rintro e W2 ⟨rfl,hX2⟩;have X2:=NW (X1.out.tr hX2))
  |(go_at_call 212;go_loud (refine KC.out.mono ?_);rintro e W1 ⟨⟨k,rfl,hk⟩,hX1⟩;have X1:=NW hX1;have HK:=NW hk;clear hX1 hk))
 ·go_ret3
  exact⟨⟨_,_,_,rfl,fun h=>absurd (HK.out.2 h) Pt⟩,X1.out⟩
 ·go_ret3
  exact⟨⟨_,_,_,rfl,fun _=>⟨rfl,rfl,rfl⟩⟩,X2.out⟩
theorem BZ(a b:ByteArray)(w:NY)(ha:a.size≤1000000)(hb:b.size≤1000000)(ht:aL w):Of prog 265 #[.string a,.string b] w fun e w'=>(∃k:Int,e= .returned (.int .i64 k))∧Ext w w':=by
 have KA:=NW (fU a w ha ht)
 have HT:=NW ht
 go_enter func265,ntmps265
 go_wp2_with(first
  |(go_at_call 212;have hX:=X1;clear X1;go_loud (refine(fU b _ hb (HT.out.below hX.out (NZ _))).mono ?_);rintro e W2 ⟨⟨k2,rfl,_⟩,hX2⟩;have X2:=NW (hX.out.tr hX2))
  |(go_at_call 212;go_loud (refine KA.out.mono ?_);rintro e W1 ⟨⟨k,rfl,_⟩,hX1⟩;have X1:=NW hX1;clear hX1))
 all_goals
  go_ret
  first
   |exact⟨⟨_,rfl⟩,X2.out⟩
   |exact⟨⟨_,rfl⟩,X1.out⟩
def Lv(e:Ending):Prop:=∃(s t:ByteArray) (k:Int),e= .returned (.tuple #[.string s,.string t,.int .i64 k])∧s.size≤1000∧t.size≤1000
theorem pT(a b c d:ByteArray)(w:NY)(ha:a.size≤1000000)(hb:b.size≤1000000)(hc:c.size≤1000000)(hd:d.size≤1000000)(ht:aL w):Of prog 267 #[.string a,.string b,.string c,.string d] w fun e w'=>Lv e∧Ext w w':=by
 have KA:=NW (oz a b w ha hb ht)
 have HT:=NW ht
 have HC:=NW hc
 have HD:=NW hd
 go_enter func267,ntmps267
 go_wp2_with(first
  |(go_at_call 298;have hX:=X1;clear X1;go_loud (refine(oz c d _ HC.out HD.out (HT.out.below hX.out (NZ _))).mono ?_);rintro e W2 ⟨⟨t2,k2,rfl,ht2⟩,hX2⟩;have X2:=NW (hX.out.tr hX2))
  |(go_at_call 298;go_loud (refine KA.out.mono ?_);rintro e W1 ⟨⟨t1,k,rfl,ht1⟩,hX1⟩;have X1:=NW hX1;clear hX1))
 all_goals
  go_ret3
  first
   |exact⟨⟨_,_,_,rfl,ht1,ht2⟩,X2.out⟩
   |exact⟨⟨_,_,_,rfl,by show 0≤_;omega,by show 0≤_;omega⟩,X1.out⟩
theorem n8(z:ByteArray):(pN (bH z)).size≤z.size+1:=by
 have h:=iq z
 unfold pN;split
 ·rw[ByteArray.size_append];show 1+_≤_;omega
 ·omega
theorem oq(z:ByteArray):(pD (bH z)).size≤z.size+1:=by
 have h:=lM z
 unfold pD;split
 ·omega
 ·show 1≤_;omega
theorem qv(a b:ByteArray)(w:NY)(ha:a.size≤100000)(hb:b.size≤100000)(ht:aL w):Of prog 232 #[.string a,.string b] w fun e w'=>IP e∧Ext w w':=by
 have KC:=NW (BZ a b w Ot Ot ht)
 have IA:=NW (fun W=>oT a W Ot)
 have IB:=NW (fun W=>oT b W Ot)
 have PA:=NW (fun W=>jO a W Ot)
 have PB:=NW (fun W=>jO b W Ot)
 have hna:=n8 a
 have hda:=oq a
 have hnb:=n8 b
 have hdb:=oq b
 obtain⟨na,hna'⟩:∃x,pN (bH a)=x:=⟨_,rfl⟩
 obtain⟨da,hda'⟩:∃x,pD (bH a)=x:=⟨_,rfl⟩
 obtain⟨nb,hnb'⟩:∃x,pN (bH b)=x:=⟨_,rfl⟩
 obtain⟨db,hdb'⟩:∃x,pD (bH b)=x:=⟨_,rfl⟩
 rw[hna',hda'] at PA
 rw[hnb',hdb'] at PB
 rw[hna'] at hna
 rw[hda'] at hda
 rw[hnb'] at hnb
 rw[hdb'] at hdb
 have PP:=NW (fun W (h:Ext w W)=>pT na db nb da W Ot Ot Ot Ot (ht.below h (NZ _)))
 clear hna' hda' hnb' hdb' ht
 go_enter func232,ntmps232
 go_wp2_with(go_at_call 265;go_loud (refine KC.out.mono ?_);rintro e W1 ⟨⟨k,rfl⟩,hX1⟩;have X1:=NW hX1;clear hX1)
 ·go_ret2
  exact⟨⟨_,_,rfl⟩,X1.out⟩
 ·refine(IA.out W1).mono ?_
  rintro e W2 ⟨⟨x1,y1,ok1,rfl⟩,hX2⟩
  have X2:=NW (X1.out.tr hX2)
  clear hX2
  go_wp2_with(fail)
  refine(IB.out W2).mono ?_
  rintro e W3 ⟨⟨x2,y2,ok2,rfl⟩,hX3⟩
  have X3:=NW (X2.out.tr hX3)
  clear hX3
  obtain⟨u,hu⟩:∃u,Oe.wrap (x1*y2)=u:=⟨_,rfl⟩
  obtain⟨v,hv⟩:∃v,Oe.wrap (x2*y1)=v:=⟨_,rfl⟩
  cases ok1<;>cases ok2
  all_goals go_wp2_with(first
   |(go_at_call 268;go_loud (refine(qE s t _ Ot Ot).mono ?_);rintro e W7 ⟨⟨c,k7,rfl⟩,hX7⟩;have X7:=NW (X6.out.tr hX7))
   |(go_at_call 267;go_loud (refine(PP.out _ X5.out).mono ?_);rintro e W6 ⟨⟨s,t,k6,rfl,hs,ht⟩,hX6⟩;have X6:=NW (X5.out.tr hX6))
   |(go_at_call 238;with_reducible refine(PB.out _).mono ?_;rintro e W5 ⟨rfl,hX5⟩;have X5:=NW (X4.out.tr hX5))
   |(go_at_call 238;go_loud (refine(PA.out _).mono ?_);rintro e W4 ⟨rfl,hX4⟩;have X4:=NW (X3.out.tr hX4)))
  all_goals go_ret2
  all_goals first
   |exact⟨⟨_,_,rfl⟩,X7.out⟩
   |exact⟨⟨_,_,rfl⟩,X6.out⟩
   |exact⟨⟨_,_,rfl⟩,X3.out⟩
end
section
open Kp
def EZ(e:Ending):Prop:=∃k:Int,e= .returned (.int .i64 k)
theorem kP(a b:ByteArray)(w:NY)(ha:a.size≤100000)(hb:b.size≤100000)(ht:aL w):Of prog 211 #[.string a,.string b] w fun e w'=>EZ e∧Ext w w':=by
 have KC:=NW (qv a b w ha hb ht)
 go_enter func211,ntmps211
 go_wp2_with(go_at_call 232;go_loud (refine KC.out.mono ?_);rintro e W1 ⟨⟨c,k,rfl⟩,hX1⟩)
 go_ret
 exact⟨⟨_,rfl⟩,hX1⟩
def MK(ts:List ByteArray):List N2:=ts.map N2.string
theorem Fv{ts:List ByteArray}{i:Nat}(h:i<ts.length):(MK ts)[i]?=N3 (.string (ts.getD i ⟨#[]⟩)):=by
 unfold MK;rw[List.getElem?_map,Oa h];simp[List.getD,h]
theorem xS{T:Oo}(w:NY)(g cap:Nat)(ts:List ByteArray)(hr:af w g T (MK ts))(hs:∀i,i<ts.length→(ts.getD i ⟨#[]⟩).size≤100000)(hl:ts.length≤4)(hcap:ts.length≤cap)(ht:aL w):
  Of prog 210 #[.slice (N3 ⟨g,0,N0⟩) ts.length cap] w fun e w'=>EZ e∧Ext w w':=by
 have HR:=NW hr
 have HS:=NW hs
 have HT:=NW ht
 obtain⟨n,hn⟩:∃n,ts.length=n:=⟨_,rfl⟩
 rw[hn] at hl hcap HS⊢
 have HN:=NW hn
 clear hr hs ht hn
 go_enter func210,ntmps210
 go_wp2
 go_loopw [3] (fun i wr=>∃k:Nat,k≤n∧i= .int .i64 (k:Int)∧(∀j,j<k→uF (ts.getD j ⟨#[]⟩))∧Ext w wr) (fun i _=>n-(Oh i).toNat)
 case atStart=>exact⟨0,Ot,rfl,fun j hj=>Ot,Below.refl _ _⟩
 case round=>
  obtain⟨k,hk,rfl,hok,hX⟩:=hrel
  have HX:=NW hX
  have HO:=NW hok
  clear hok
  by_cases hlt:k<n
  ·have hc:=(HR.out.ext hX).cell k
   rw[Fv O9] at hc
   have hcs:=HS.out k hlt
   obtain⟨t,htt⟩:∃t,ts.getD k ⟨#[]⟩=t:=⟨_,rfl⟩
   rw[htt] at hc hcs
   have HTT:=NW htt
   have KC:=NW (fU t wr Ot (HT.out.below hX (NZ _)))
   clear hX htt
   go_wp2_with(go_at_call 212;go_loud (refine KC.out.mono ?_);rintro e W1 ⟨⟨c,rfl,hc0⟩,hX1⟩;have X1:=NW (HX.out.tr hX1);have HC0:=NW hc0;clear hX1 hc0)
   ·go_ret
    exact⟨⟨_,rfl⟩,X1.out⟩
   ·refine⟨⟨k+1,Ot,by go_num,fun j hj=> ?_,X1.out⟩,Oy⟩
    by_cases e:j=k
    ·rw[e,HTT.out];exact HC0.out.1 Pt
    ·exact HO.out j Ot
  ·obtain rfl:k=n:=Ot
   clear hX
   go_wp2
   go_loopw [5] (fun i wi=>∃m:Nat,m≤k∧i= .int .i64 (m:Int)∧Ext w wi) (fun i _=>k-(Oh i).toNat)
   case atStart=>exact⟨0,Ot,rfl,HX.out⟩
   case round=>
    obtain⟨m,hm,rfl,hX2⟩:=hrel
    have HX2:=NW hX2
    by_cases hlt2:m<k
    ·have hc:=(HR.out.ext hX2).cell m
     rw[Fv O9] at hc
     have hcs:=HS.out m hlt2
     have hok:=HO.out m hlt2
     obtain⟨t,htt⟩:∃t,ts.getD m ⟨#[]⟩=t:=⟨_,rfl⟩
     rw[htt] at hc hcs hok
     have hnum:=hok.num
     have hpn:=n8 t
     have hpd:=oq t
     obtain⟨a,ha⟩:∃a,pN (bH t)=a:=⟨_,rfl⟩
     obtain⟨b,hb⟩:∃b,pD (bH t)=b:=⟨_,rfl⟩
     have hn1:=hnum.num
     have hn2:=hnum.den
     rw[ha] at hpn hn1
     rw[hb] at hpd hn2
     have KP:=NW ((lR t _ Ot (HT.out.below hX2 (NZ _))).mono (fun e w' ⟨⟨x,y,c,e1,h1⟩,h2⟩=>(by obtain⟨rfl,rfl,rfl⟩:=h1 hok;rw[ha,hb] at e1;exact⟨e1,h2⟩:e=Ending.returned (.tuple #[.string a,.string b,.int .i64 0])∧Ext _ w')))
     have DA:=NW (fun W=>lT a W Ot hn1)
     have DB:=NW (fun W=>lT b W Ot hn2)
     clear hX2 htt hok hnum ha hb
     go_wp2_with(first
      |(go_at_call 231;with_reducible refine(DB.out _).mono ?_;rintro e W3 ⟨⟨k2,rfl,_,_⟩,rfl⟩)
      |(go_at_call 231;go_loud (refine(DA.out _).mono ?_);rintro e W3 ⟨⟨k1,rfl,_,_⟩,rfl⟩)
      |(go_at_call 213;go_loud (refine KP.out.mono ?_);rintro e W1 ⟨rfl,hX1⟩;have X1:=NW (HX2.out.tr hX1);clear hX1))
     all_goals first
      |(go_ret;exact⟨⟨_,rfl⟩,X1.out⟩)
      |exact⟨⟨m+1,Ot,by go_num,X1.out⟩,Oy⟩
      |trace_state
    ·obtain rfl:m=k:=Ot
     clear hX2
     go_wp2
     go_ret
     exact⟨⟨_,rfl⟩,HX2.out⟩
end
section
open Kp
theorem Ej{w:NY}{B:Nat}{A:Option Addr}{cap:Nat}{l:List (Int×Int)}(h:bC 2 w B A cap (dx l))(hp:0<l.length):
  ∃b off,A=N3 ⟨b,off,N0⟩∧b<B∧∀i,i<l.length→w.cell? ⟨b,off+i*2,N0⟩=N3 (.int .i64 (l.getD i (0,0)).1)∧w.cell? ⟨b,off+i*2+1,N0⟩=N3 (.int .i64 (l.getD i (0,0)).2):=by
 obtain⟨h1,h2,h3⟩:=h
 obtain⟨b,off,e,hb,hc⟩:=h3 (by rw[N9];exact hp)
 refine⟨b,off,e,hb,fun i hi=> ?_⟩
 have q:∀m,m<2→w.cell? ⟨b,off+i*2+m,N0⟩=(MZ (l.getD i (0,0)))[m]?:=by
  intro m hm
  have:=hc i PM m hm
  rw[iZ hi,Og] at this
  exact this
 exact⟨q 0 Ov,q 1 Ov⟩
theorem Bz(b:Br)(ga:Option Addr)(gc:Nat)(w:NY)(hs:bC 2 w w.heap.size ga gc (dx b.gaps)):
  Of prog 111 #[.agg (mJ b ga gc).toArray] w fun x w'=>(∃k:Int,x= .returned (.int .i64 k))∧Ext w w':=by
 have h1:=hs.1
 have h2:=hs.2.1
 rw[N9] at h1
 unfold Ol at h2
 have R0:=NW (af.new w 44 (mJ b ga gc))
 have E0:=NW (show Ext w (w.alloc (.cells (mJ b ga gc).toArray 44)) from(Below.refl _ _).alloc (NZ _) _)
 have HL:=NW (fun(W:NY) (hx:Ext w W)=>((hs.below hx).more hx.size:bC 2 W W.heap.size ga gc (dx b.gaps)))
 have c:=fun i=>R0.out.cell i
 clear hs
 obtain⟨wd,dp,ln,ct,co,gaps⟩:=b
 obtain⟨b0,t0⟩:∃b,aF wd 1 1000=b:=⟨_,rfl⟩
 obtain⟨b1,t1⟩:∃b,aF dp 1 1000=b:=⟨_,rfl⟩
 obtain⟨b2,t2⟩:∃b,aF ln 1 65536=b:=⟨_,rfl⟩
 obtain⟨b3,t3⟩:∃b,aF ct 0 4096=b:=⟨_,rfl⟩
 obtain⟨b4,t4⟩:∃b,aF co 0 1073741824=b:=⟨_,rfl⟩
 dsimp only at h1 HL
 cases b0 with
 |false=>
  go_enter func111,ntmps111
  go_wp2_with(go_at_call 176;go_must(refine(gN _ _ _ _).mono ?_);rintro e W1 ⟨rfl,rfl⟩)
  go_ret
  exact⟨⟨_,rfl⟩,E0.out⟩
 |true=>
  cases b1 with
  |false=>
   go_enter func111,ntmps111
   go_wp2_with(go_at_call 176;go_must(refine(gN _ _ _ _).mono ?_);rintro e W1 ⟨rfl,rfl⟩)
   go_ret
   exact⟨⟨_,rfl⟩,E0.out⟩
  |true=>
   cases b2 with
   |false=>
    go_enter func111,ntmps111
    go_wp2_with(go_at_call 176;go_must(refine(gN _ _ _ _).mono ?_);rintro e W1 ⟨rfl,rfl⟩)
    go_ret
    exact⟨⟨_,rfl⟩,E0.out⟩
   |true=>
    cases b3 with
    |false=>
     go_enter func111,ntmps111
     go_wp2_with(go_at_call 176;go_must(refine(gN _ _ _ _).mono ?_);rintro e W1 ⟨rfl,rfl⟩)
     go_ret
     exact⟨⟨_,rfl⟩,E0.out⟩
    |true=>
     cases b4 with
     |false=>
      go_enter func111,ntmps111
      go_wp2_with(go_at_call 176;go_must(refine(gN _ _ _ _).mono ?_);rintro e W1 ⟨rfl,rfl⟩)
      go_ret
      exact⟨⟨_,rfl⟩,E0.out⟩
     |true=>
      go_enter func111,ntmps111
      go_wp2_with(go_at_call 176;go_must(refine(gN _ _ _ _).mono ?_);rintro e W1 ⟨rfl,rfl⟩)
      ·go_ret
       exact⟨⟨_,rfl⟩,E0.out⟩
      clear c
      go_loopw [3] (fun i wr=>∃k:Nat,i= .int .i64 (k:Int)∧k≤gaps.length∧Ext (w.alloc (.cells (mJ ⟨wd,dp,ln,ct,co,gaps⟩ ga gc).toArray 44)) wr) (fun i _=>((gaps.length:Int)-Oh i).toNat)
      case atStart=>exact⟨0,rfl,Ot,Below.refl _ _⟩
      case round=>
       obtain⟨k,rfl,hk,hX⟩:=hrel
       have HX:=NW hX
       have HXw:=NW (E0.out.tr hX)
       have c:=fun i=>(R0.out.ext hX).cell i
       by_cases hlt:k<gaps.length
       ·obtain⟨bk,ok,rfl,hb,hc⟩:=Ej (HL.out _ HXw.out) Ot
        obtain⟨y0,y1⟩:=hc k hlt
        obtain⟨fr,hfr⟩:∃x,(gaps.getD k (0,0)).1=x:=⟨_,rfl⟩
        obtain⟨tw,hto⟩:∃x,(gaps.getD k (0,0)).2=x:=⟨_,rfl⟩
        rw[hfr] at y0
        rw[hto] at y1
        have HC:=NW hc
        have HB:=NW hb
        obtain⟨p1,q1⟩:∃p,decide (fr<0)=p:=⟨_,rfl⟩
        obtain⟨p2,q2⟩:∃p,decide (fr≥tw)=p:=⟨_,rfl⟩
        obtain⟨p3,q3⟩:∃p,decide (tw>ln)=p:=⟨_,rfl⟩
        have RG:=af.new wr 77 [.int .i64 fr,.int .i64 tw]
        have EG:=NW (show Ext wr (wr.alloc (.cells #[.int .i64 fr,.int .i64 tw] 77)) from(Below.refl _ _).alloc (NZ _) _)
        have cg:=fun i=>RG.cell i
        have cb:=fun i=>(R0.out.ext (hX.tr EG.out)).cell i
        clear hX hc hb hfr hto RG
        cases p1 with
        |true=>
         go_wp2
         go_ret
         exact⟨⟨_,rfl⟩,HXw.out.tr EG.out⟩
        |false=>
         cases p2 with
         |true=>
          go_wp2
          go_ret
          exact⟨⟨_,rfl⟩,HXw.out.tr EG.out⟩
         |false=>
          cases p3 with
          |true=>
           go_wp2
           go_ret
           exact⟨⟨_,rfl⟩,HXw.out.tr EG.out⟩
          |false=>
           by_cases hk0:k=0
           ·subst hk0
            rw[Nat.zero_mul,Nat.add_zero] at y0 y1
            go_wp2_with fail
            go_quiet (fail)
            go_wp2
            exact⟨⟨1,by go_num,Ot,below_drewN (HX.out.tr EG.out) _⟩,Oy⟩
           ·have t5:decide ((k:Int)>0)=Oc:=decide_eq_true Ot
            have t6:0<k:=Ot
            have w1:Oe.wrap ((k:Int)-1)=((k-1:Nat):Int):=by rw[Om _ Ot];omega
            have hkl:k-1<gaps.length:=Ot
            obtain⟨z0,z1⟩:=HC.out (k-1) hkl
            have z1':=(EG.out.cell (p:=⟨bk,ok+(k-1)*2+1,N0⟩) HB.out).trans z1
            have z0':=(EG.out.cell (p:=⟨bk,ok+(k-1)*2,N0⟩) HB.out).trans z0
            obtain⟨pt,hpt⟩:∃x,(gaps.getD (k-1) (0,0)).2=x:=⟨_,rfl⟩
            rw[hpt] at z1'
            obtain⟨k1,hk1⟩:∃q,k-1=q:=⟨_,rfl⟩
            rw[hk1] at w1 hkl z0' z1'
            clear z0 z1 hpt hk1
            go_wp2_with fail
            go_quiet (fail)
            go_wp2
            ·go_ret
             exact⟨⟨_,rfl⟩,below_drewN (HXw.out.tr EG.out) _⟩
            ·exact⟨⟨k+1,by go_num,Ot,below_drewN (HX.out.tr EG.out) _⟩,Oy⟩
       ·obtain rfl:k=gaps.length:=Ot
        go_wp2
        go_ret
        exact⟨⟨_,rfl⟩,HXw.out⟩
theorem AN{w:NY}{B:Nat}{A:Option Addr}{cap:Nat}{l:List Br}(h:fo w B A cap l)(hp:0<l.length):
  ∃b off,∃f:Nat→Option Addr×Nat,A=N3 ⟨b,off,N0⟩∧b<B∧∀i,i<l.length→(∀m,m<6→w.cell? ⟨b,off+i*6+m,N0⟩=(mJ (l.getD i mA) (f i).1 (f i).2)[m]?)∧bC 2 w B (f i).1 (f i).2 (dx (l.getD i mA).gaps):=by
 obtain⟨b,off,e,hb,hc⟩:=h.2.2 hp
 have hx:∀i,∃p:Option Addr×Nat,i<l.length→(∀m,m<6→w.cell? ⟨b,off+i*6+m,N0⟩=(mJ (l.getD i mA) p.1 p.2)[m]?)∧bC 2 w B p.1 p.2 (dx (l.getD i mA).gaps):=by
  intro i
  by_cases hi:i<l.length
  ·obtain⟨ga,gc,h1,h2⟩:=hc i hi
   exact⟨(ga,gc),fun _=>⟨fun m hm=>by have:=h1 m hm;rw[Og] at this;exact this,h2⟩⟩
  ·exact⟨(N0,0),fun h=>absurd h hi⟩
 obtain⟨f,hf⟩:=Classical.axiomOfChoice hx
 exact⟨b,off,f,e,hb,hf⟩
theorem xe(w:NY)(A:Option Addr)(cap:Nat)(l:List Br)(hl:fo w w.heap.size A cap l):
  Of prog 54 #[.slice A l.length cap] w fun x w'=>(∃k:Int,x= .returned (.int .i64 k))∧Ext w w':=by
 have h1:=hl.1
 have h2:=hl.2.1
 unfold Ol at h2
 have HL:=NW (fun(W:NY) (hx:Ext w W)=>((hl.below hx).more hx.size:fo W W.heap.size A cap l))
 clear hl
 go_enter func54,ntmps54
 go_wp2
 ·go_ret
  exact⟨⟨_,rfl⟩,Below.refl _ _⟩
 go_loopw [3] (fun i wr=>∃k:Nat,i= .int .i64 (k:Int)∧k≤l.length∧Ext w wr) (fun i _=>((l.length:Int)-Oh i).toNat)
 case atStart=>exact⟨0,rfl,Ot,Below.refl _ _⟩
 case round=>
  obtain⟨k,rfl,hk,hX⟩:=hrel
  have HX:=NW hX
  by_cases hlt:k<l.length
  ·obtain⟨b,off,f,rfl,hb,hc⟩:=AN (HL.out _ hX) Ot
   obtain⟨hq,hs⟩:=hc k hlt
   have KB:=NW (Bz (l.getD k mA) (f k).1 (f k).2 wr hs)
   obtain⟨x,hx⟩:∃x,l.getD k mA=x:=⟨_,rfl⟩
   obtain⟨ga,hga⟩:∃x,(f k).1=x:=⟨_,rfl⟩
   obtain⟨gc,hgc⟩:∃x,(f k).2=x:=⟨_,rfl⟩
   rw[hx,hga,hgc] at hq KB
   obtain⟨wd,dp,ln,ct,co,gaps⟩:=x
   have y0:=hq 0 Ov
   have y1:=hq 1 Ov
   have y2:=hq 2 Ov
   have y3:=hq 3 Ov
   have y4:=hq 4 Ov
   have y5:=hq 5 Ov
   rw[Nat.add_zero] at y0
   clear hq hs hX hc hx hga hgc
   go_wp2_with(go_at_call 111;go_must(refine KB.out.mono ?_);rintro e W1 ⟨⟨q,rfl⟩,hX1⟩;have HX1:=NW (Ext.tr HX.out hX1);clear hX1)
   ·go_ret
    exact⟨⟨_,rfl⟩,HX1.out⟩
   ·exact⟨⟨k+1,by go_num,Ot,HX1.out⟩,Oy⟩
  ·obtain rfl:k=l.length:=Ot
   go_wp2
   go_ret
   exact⟨⟨_,rfl⟩,HX.out⟩
end
section
open Kp
structure zS(l:List Br):Prop where
 n:l.length≤66
theorem we (w : NY) (A : Option Addr) (cap : Nat) (l : List Br) (hl : fo w w.heap.size A cap l) :
    Of prog 46 #[.slice A l.length cap] w fun x w' => gB (zS l) x ∧ Ext w w' := by
  have h1 := hl.1
  have h2 := hl.2.1
  unfold Ol at h2
  have HL := NW (fun (W : NY) (hx : Ext w W) => ((hl.below hx).more hx.size : fo W W.heap.size A cap l))
  clear hl
  obtain ⟨p1, t1⟩ : ∃ p, decide ((l.length : Int) > 6) = p := ⟨_, rfl⟩
  obtain ⟨p2, t2⟩ : ∃ p, decide ((l.length : Int) ≤ 64) = p := ⟨_, rfl⟩
  obtain ⟨p3, t3⟩ : ∃ p, decide ((l.length : Int) > 66) = p := ⟨_, rfl⟩
  have H3 := NW t3
  cases p3 with
  | true =>
    have HB := NW (show ∀ (b : Bool), b = Oc → gB (zS l) (.returned (.bool b)) from fun _ h => ⟨_, rfl, fun h2 => by rw [h] at h2; cases h2⟩)
    cases p1 <;> cases p2
    all_goals
      go_enter func46, ntmps46
      go_wp2
      go_ret
      exact ⟨HB.out _ rfl, Below.refl _ _⟩
  | false =>
    have HF := NW (show ∀ (b : Bool), gB (zS l) (.returned (.bool b)) from fun _ => ⟨_, rfl, fun _ => ⟨by have := of_decide_eq_false H3.out; omega⟩⟩)
    cases p1 <;> cases p2
    all_goals
      go_enter func46, ntmps46
      first
        | (go_wp2
           go_ret
           exact ⟨HF.out _, Below.refl _ _⟩)
        | (go_wp2
           go_loopw [3] (fun i wr => ∃ k : Nat, i = .int .i64 (k : Int) ∧ k ≤ l.length ∧ Ext w wr) (fun i _ => ((l.length : Int) - Oh i).toNat)
           case atStart => exact ⟨0, rfl, Ot, Below.refl _ _⟩
           case round =>
             obtain ⟨k, rfl, hk, hX⟩ := hrel
             have HX := NW hX
             by_cases hlt : k < l.length
             · obtain ⟨b, off, f, rfl, hb, hc⟩ := AN (HL.out _ hX) Ot
               have y5 := (hc k hlt).1 5 Ov
               have y6 : _ = N3 (N2.slice (f k).1 (l.getD k mA).gaps.length (f k).2) := y5
               obtain ⟨n, hn⟩ : ∃ n, (l.getD k mA).gaps.length = n := ⟨_, rfl⟩
               rw [hn] at y6
               clear y5 hX hc hn hb
               go_wp2
               · go_ret
                 exact ⟨HF.out _, HX.out⟩
               · exact ⟨⟨k + 1, by go_num, Ot, HX.out⟩, OP⟩
             · obtain rfl : k = l.length := by omega
               go_wp2
               go_ret
               exact ⟨HF.out _, HX.out⟩)
structure AH(n:Nat):Prop where
 n:n≤4098
theorem vN(w:NY)(A:Option Addr)(cap n:Nat):
  Of prog 47 #[.slice A n cap] w fun x w'=>gB (AH n) x∧w'=w:=by
 obtain⟨p1,t1⟩:∃p,decide ((n:Int)>12)=p:=⟨_,rfl⟩
 obtain⟨p2,t2⟩:∃p,decide ((n:Int)≤4096)=p:=⟨_,rfl⟩
 obtain⟨p3,t3⟩:∃p,decide ((n:Int)>4098)=p:=⟨_,rfl⟩
 have H3:=NW t3
 cases p3 with
 |true=>
  have HB:=NW (show∀(b:Bool),b=Oc→gB (AH n) (.returned (.bool b)) from fun _ h=>⟨_,rfl,fun h2=>by rw[h] at h2;cases h2⟩)
  cases p1<;>cases p2
  all_goals
   go_enter func47,ntmps47
   go_wp2
   go_ret
   exact⟨HB.out _ rfl,rfl⟩
 |false=>
  have HF:=NW (show∀(b:Bool),gB (AH n) (.returned (.bool b)) from fun _=>⟨_,rfl,fun _=>⟨by have:=of_decide_eq_false H3.out;omega⟩⟩)
  cases p1<;>cases p2
  all_goals
   go_enter func47,ntmps47
   go_wp2
   go_ret
   exact⟨HF.out _,rfl⟩
end
section
open Kp
attribute [local go_sem] PT QB Qc Qa Qn Qk PW Qm Qe Qg PY
def dC(n:Nat):Bool:=(decide (20<n)&&decide (n<299))||decide (604<n)
theorem F5(s:ByteArray)(w:NY):Of prog 58 #[.string s] w fun e w'=>e= .returned (.bool (dC s.size))∧w'=w:=by
 by_cases h1:s.size≤20
 ·have HR:=NW (show dC s.size=N1 by unfold dC;simp;omega)
  go_enter func58,ntmps58
  go_wp2
  go_ret
  exact⟨by rw[HR.out];simp;omega,rfl⟩
 by_cases h2:s.size<299
 ·have HR:=NW (show dC s.size=Oc by unfold dC;simp;omega)
  have t1:decide (20<(s.size:Int))=Oc:=OH
  go_enter func58,ntmps58
  go_wp2
  go_ret
  exact⟨by rw[HR.out];first|rfl|simp,rfl⟩
 ·have HR:=NW (show dC s.size=decide (604<(s.size:Int)) by unfold dC;rw[Bool.eq_iff_iff];simp;omega)
  have t1:decide (20<(s.size:Int))=Oc:=OH
  have t2:decide ((s.size:Int)<299)=N1:=Oz
  go_enter func58,ntmps58
  go_wp2
  go_ret
  exact⟨by rw[HR.out];first|rfl|simp,rfl⟩
theorem xj(w:NY)(c cap:Nat)(T:Oo)(x y:Int)(s:By)(hr:bO w c T [.int .i64 x,.int .i64 y,.string (tx s)]):
  Of prog 14 #[.slice (N3 ⟨c,0,N0⟩) 1 cap] w fun e w'=>e= .returned (.bool (decide (50<s.length)))∧w'=w:=by
 have c2:w.cell? ⟨c,2,N0⟩=N3 (.string (tx s)):=by rw[hr.cell];rfl
 clear hr
 by_cases h:50<s.length
 ·have HR:=NW (show decide (50<s.length)=Oc by simpa using h)
  go_enter func14,ntmps14
  go_wp2
  refine wp_loop_rounds 2 ?_
  rw[rounds_succ]
  go_wp2
  go_ret
  exact⟨OA,rfl⟩
 ·have HR:=NW (show decide (50<s.length)=N1 by simpa using h)
  go_enter func14,ntmps14
  go_wp2
  refine wp_loop_rounds 2 ?_
  rw[rounds_succ]
  go_wp2
  rw[rounds_succ]
  go_wp2
  go_ret
  exact⟨OA,rfl⟩
def im(a b c d:By):Bool:=dC a.length||dC b.length||dC c.length||dC d.length
theorem jv(s:By)(w:NY):Of prog 58 #[.string (tx s)] w fun e w'=>e= .returned (.bool (dC s.length))∧w'=w:=by
 have:=F5 (tx s) w
 rw[av] at this
 exact this
theorem nE(w:NY)(k cap:Nat)(T:Oo)(x:Int)(a b c d:By)(hr:bO w k T [.int .i64 x,.string (tx a),.string (tx b),.string (tx c),.string (tx d)]):
  Of prog 13 #[.slice (N3 ⟨k,0,N0⟩) 1 cap] w fun e w'=>e= .returned (.bool (im a b c d))∧w'=w:=by
 have c1:w.cell? ⟨k,1,N0⟩=N3 (.string (tx a)):=by rw[hr.cell];rfl
 have c2:w.cell? ⟨k,2,N0⟩=N3 (.string (tx b)):=by rw[hr.cell];rfl
 have c3:w.cell? ⟨k,3,N0⟩=N3 (.string (tx c)):=by rw[hr.cell];rfl
 have c4:w.cell? ⟨k,4,N0⟩=N3 (.string (tx d)):=by rw[hr.cell];rfl
 clear hr
 cases ta:dC a.length
 ·cases tb:dC b.length
  ·cases tc:dC c.length
   ·cases td:dC d.length
    ·have HR:=NW (show im a b c d=N1 by unfold im;simp[ta,tb,tc,td])
     go_enter func13,ntmps13
     go_wp2
     refine wp_loop_rounds 2 ?_
     rw[rounds_succ]
     go_wp2_with(go_at_call 58;refine(jv _ _).mono ?_;rintro e w1 ⟨rfl,rfl⟩)
     rw[rounds_succ]
     go_wp2
     go_ret
     exact⟨OA,rfl⟩
    ·have HR:=NW (show im a b c d=Oc by unfold im;simp[td])
     go_enter func13,ntmps13
     go_wp2
     refine wp_loop_rounds 2 ?_
     rw[rounds_succ]
     go_wp2_with(go_at_call 58;refine(jv _ _).mono ?_;rintro e w1 ⟨rfl,rfl⟩)
     go_ret
     exact⟨OA,rfl⟩
   ·have HR:=NW (show im a b c d=Oc by unfold im;simp[tc])
    go_enter func13,ntmps13
    go_wp2
    refine wp_loop_rounds 2 ?_
    rw[rounds_succ]
    go_wp2_with(go_at_call 58;refine(jv _ _).mono ?_;rintro e w1 ⟨rfl,rfl⟩)
    go_ret
    exact⟨OA,rfl⟩
  ·have HR:=NW (show im a b c d=Oc by unfold im;simp[tb])
   go_enter func13,ntmps13
   go_wp2
   refine wp_loop_rounds 2 ?_
   rw[rounds_succ]
   go_wp2_with(go_at_call 58;refine(jv _ _).mono ?_;rintro e w1 ⟨rfl,rfl⟩)
   go_ret
   exact⟨OA,rfl⟩
 ·have HR:=NW (show im a b c d=Oc by unfold im;simp[ta])
  go_enter func13,ntmps13
  go_wp2
  refine wp_loop_rounds 2 ?_
  rw[rounds_succ]
  go_wp2_with(go_at_call 58;refine(jv _ _).mono ?_;rintro e w1 ⟨rfl,rfl⟩)
  go_ret
  exact⟨OA,rfl⟩
theorem bO.MS(w:NY)(o o2:Obj)(T:Oo)(l:List N2):bO (((w.alloc o).alloc o2).alloc (.cells l.toArray T)) (w.heap.size+1+1) T l:=by
 have:=bO.JP (w.alloc o) o2 T l
 rw[Oi] at this
 exact this
def en(e:Ed):Bool:=decide (40<e.text.length)||decide (17<e.gaps.length)||im e.oleft e.oright e.olow e.ohigh||decide (50<e.lweight.length)
theorem qp(w:NY)(e:Ed)(ga:Option Addr)(gc:Nat):
  Of prog 5 #[.agg (aG e (.slice ga e.gaps.length gc))] w fun r w'=>r= .returned (.bool (en e))∧On w.heap.size w w':=by
 have HB0:=NW (show On w.heap.size w (w.alloc (.cells (aG e (.slice ga e.gaps.length gc)) 50)) from(Below.refl _ _).alloc (NZ _) _)
 by_cases h1:40<e.text.length
 ·have HR:=NW (show en e=Oc by unfold en;simp[h1])
  go_enter func5,ntmps5
  go_wp2
  go_ret
  exact⟨OA,HB0.out⟩
 by_cases h2:17<e.gaps.length
 ·have HR:=NW (show en e=Oc by unfold en;simp[h2])
  go_enter func5,ntmps5
  go_wp2
  go_ret
  exact⟨OA,HB0.out⟩
 cases h3:im e.oleft e.oright e.olow e.ohigh
 ·have HR:=NW (show en e=(decide (40<(e.text.length:Int))||decide (17<(e.gaps.length:Int))||decide (50<e.lweight.length)) by unfold en;rw[h3,Bool.eq_iff_iff];simp;omega)
  go_enter func5,ntmps5
  go_wp2_with(first
   |(go_at_call 13;go_must(refine(nE _ _ _ 39 e.oside e.oleft e.oright e.olow e.ohigh (bO.JP w _ _ _)).mono ?_);rintro r W1 ⟨rfl,rfl⟩)
   |(go_at_call 14;go_must(refine(xj _ _ _ 46 e.lkind e.lside e.lweight (bO.MS w _ _ _ _)).mono ?_);rintro r W1 ⟨rfl,rfl⟩))
  go_ret
  exact⟨OA,(HB0.out.alloc Ow _).alloc OB _⟩
 ·have HR:=NW (show en e=Oc by unfold en;simp[h3])
  go_enter func5,ntmps5
  go_wp2_with(go_at_call 13;go_must(refine(nE _ _ _ 39 e.oside e.oleft e.oright e.olow e.ohigh (bO.JP w _ _ _)).mono ?_);rintro r W1 ⟨rfl,rfl⟩)
  go_ret
  exact⟨OA,HB0.out.alloc Ow _⟩
end
section
open Kp
structure zU(l:List Ld):Prop where
 n:l.length≤66
 w:∀i,i<l.length→(l.getD i mD).weight.length≤50
theorem vX{w:NY}{B:Nat}{A:Option Addr}{cap:Nat}{l:List Ld}(h:bC 3 w B A cap (bD l))(hp:0<l.length):
  ∃b off,A=N3 ⟨b,off,N0⟩∧b<B∧∀i,i<l.length→w.cell? ⟨b,off+i*3,N0⟩=N3 (.int .i64 (l.getD i mD).kind)∧w.cell? ⟨b,off+i*3+1,N0⟩=N3 (.int .i64 (l.getD i mD).side)∧w.cell? ⟨b,off+i*3+2,N0⟩=N3 (.string (tx (l.getD i mD).weight)):=by
 obtain⟨h1,h2,h3⟩:=h
 obtain⟨b,off,e,hb,hc⟩:=h3 (by rw[N9];exact hp)
 refine⟨b,off,e,hb,fun i hi=> ?_⟩
 have hr:(bD l).getD i []=Jc (l.getD i mD):=by simp[List.getD,Oa hi]
 have q:∀m,m<3→w.cell? ⟨b,off+i*3+m,N0⟩=(Jc (l.getD i mD))[m]?:=by
  intro m hm
  have:=hc i PM m hm
  rw[hr,Og] at this
  exact this
 exact⟨q 0 Ov,q 1 Ov,q 2 Ov⟩
theorem vh (w : NY) (A : Option Addr) (cap : Nat) (l : List Ld) (hl : bC 3 w w.heap.size A cap (bD l)) :
    Of prog 14 #[.slice A l.length cap] w fun x w' => gB (zU l) x ∧ Ext w w' := by
  have h1 := hl.1
  have h2 := hl.2.1
  rw [N9] at h1
  unfold Ol at h2
  have HL := NW (fun (W : NY) (hx : Ext w W) => ((hl.below hx).more hx.size : bC 3 W W.heap.size A cap (bD l)))
  clear hl
  have HT := NW (show gB (zU l) (.returned (.bool Oc)) from ⟨_, rfl, fun h => Ox⟩)
  obtain ⟨p1, t1⟩ : ∃ p, decide ((l.length : Int) > 8) = p := ⟨_, rfl⟩
  obtain ⟨p2, t2⟩ : ∃ p, decide ((l.length : Int) ≤ 64) = p := ⟨_, rfl⟩
  obtain ⟨p3, t3⟩ : ∃ p, decide ((l.length : Int) > 66) = p := ⟨_, rfl⟩
  have H3 := NW t3
  cases p3 with
  | true =>
    cases p1 <;> cases p2
    all_goals
      go_enter func14, ntmps14
      go_wp2
      go_ret
      exact ⟨HT.out, Below.refl _ _⟩
  | false =>
    have HF := NW (show (∀ i, i < l.length → (l.getD i mD).weight.length ≤ 50) → gB (zU l) (.returned (.bool N1)) from fun h => ⟨_, rfl, fun _ => ⟨by have := of_decide_eq_false H3.out; omega, h⟩⟩)
    cases p1 <;> cases p2
    all_goals
      go_enter func14, ntmps14
      first
        | (go_wp2
           go_ret
           exact ⟨HT.out, Below.refl _ _⟩)
        | (go_wp2
           go_loopw [3] (fun i wr => ∃ k : Nat, i = .int .i64 (k : Int) ∧ k ≤ l.length ∧ Ext w wr ∧ ∀ m, m < k → (l.getD m mD).weight.length ≤ 50) (fun i _ => ((l.length : Int) - Oh i).toNat)
           case atStart => exact ⟨0, rfl, Ot, Below.refl _ _, fun m hm => Ot⟩
           case round =>
             obtain ⟨k, rfl, hk, hX, hall⟩ := hrel
             have HX := NW hX
             have HA := NW hall
             by_cases hlt : k < l.length
             · obtain ⟨b, off, rfl, hb, hc⟩ := vX (HL.out _ hX) Ot
               have y2 := (hc k hlt).2.2
               obtain ⟨s, hs⟩ : ∃ n, (l.getD k mD).weight = n := ⟨_, rfl⟩
               rw [hs] at y2
               have hz := av s
               by_cases h50 : 50 < s.length
               · clear hX hc hs hb hall
                 go_wp2
                 go_ret
                 exact ⟨HT.out, HX.out⟩
               · have HN := NW (show ∀ m, m < k + 1 → (l.getD m mD).weight.length ≤ 50 from fun m hm => by
                   by_cases e : m = k
                   · rw [e, hs]; omega
                   · exact HA.out m Ot)
                 have hns : ¬ 50 < (s.length : Int) := Ot
                 clear hX hc hs hb hall
                 go_wp2
                 exact ⟨⟨k + 1, by go_num, Ot, HX.out, HN.out⟩, OP⟩
             · obtain rfl : k = l.length := by omega
               clear hall
               go_wp2
               go_ret
               exact ⟨HF.out HA.out, HX.out⟩)
end
section
open Kp
structure jb(o:jD):Prop where
 a:dC o.left.length=N1
 b:dC o.right.length=N1
 c:dC o.low.length=N1
 d:dC o.high.length=N1
structure sL(l:List jD):Prop where
 n:l.length≤34
 w:∀i,i<l.length→i<7→jb (l.getD i fK)
 six:l.length≤6∨32<l.length
theorem lA{w:NY}{B:Nat}{A:Option Addr}{cap:Nat}{l:List jD}(h:bC 5 w B A cap (aO l))(hp:0<l.length):
  ∃b off,A=N3 ⟨b,off,N0⟩∧b<B∧∀i,i<l.length→w.cell? ⟨b,off+i*5,N0⟩=N3 (.int .i64 (l.getD i fK).side)∧w.cell? ⟨b,off+i*5+1,N0⟩=N3 (.string (tx (l.getD i fK).left))∧w.cell? ⟨b,off+i*5+2,N0⟩=N3 (.string (tx (l.getD i fK).right))∧w.cell? ⟨b,off+i*5+3,N0⟩=N3 (.string (tx (l.getD i fK).low))∧w.cell? ⟨b,off+i*5+4,N0⟩=N3 (.string (tx (l.getD i fK).high)):=by
 obtain⟨h1,h2,h3⟩:=h
 obtain⟨b,off,e,hb,hc⟩:=h3 (by rw[N9];exact hp)
 refine⟨b,off,e,hb,fun i hi=> ?_⟩
 have hr:(aO l).getD i []=qg (l.getD i fK):=by simp[List.getD,Oa hi]
 have q:∀m,m<5→w.cell? ⟨b,off+i*5+m,N0⟩=(qg (l.getD i fK))[m]?:=by
  intro m hm
  have:=hc i PM m hm
  rw[hr,Og] at this
  exact this
 exact⟨q 0 Ov,q 1 Ov,q 2 Ov,q 3 Ov,q 4 Ov⟩
theorem ux (w : NY) (A : Option Addr) (cap : Nat) (l : List jD) (hl : bC 5 w w.heap.size A cap (aO l)) :
    Of prog 13 #[.slice A l.length cap] w fun x w' => gB (sL l) x ∧ Ext w w' := by
  have h1 := hl.1
  have h2 := hl.2.1
  rw [N9] at h1
  unfold Ol at h2
  have HL := NW (fun (W : NY) (hx : Ext w W) => ((hl.below hx).more hx.size : bC 5 W W.heap.size A cap (aO l)))
  clear hl
  have HT := NW (show gB (sL l) (.returned (.bool Oc)) from ⟨_, rfl, fun h => Ox⟩)
  have HF := NW (show ∀ b : Bool, (b = N1 → sL l) → gB (sL l) (.returned (.bool b)) from fun b h => ⟨_, rfl, h⟩)
  go_enter func13, ntmps13
  go_wp2
  go_loopw [3] (fun i wr => ∃ k : Nat, i = .int .i64 (k : Int) ∧ k ≤ l.length ∧ k ≤ 7 ∧ Ext w wr ∧ ∀ m, m < k → jb (l.getD m fK)) (fun i _ => ((l.length : Int) - Oh i).toNat)
  case atStart => exact ⟨0, rfl, Ot, Ot, Below.refl _ _, fun m hm => Ot⟩
  case round =>
    obtain ⟨k, rfl, hk, hk7, hX, hall⟩ := hrel
    have HX := NW hX
    have HA := NW hall
    by_cases hlt : k < l.length ∧ k < 7
    · obtain ⟨hlt, h7⟩ := hlt
      obtain ⟨b, off, rfl, hb, hc⟩ := lA (HL.out _ hX) Ot
      obtain ⟨_, y1, y2, y3, y4⟩ := hc k hlt
      obtain ⟨o, ho⟩ : ∃ n, l.getD k fK = n := ⟨_, rfl⟩
      rw [ho] at y1 y2 y3 y4
      have HO := NW ho
      obtain ⟨sd, s1, s2, s3, s4⟩ := o
      dsimp only at y1 y2 y3 y4
      obtain ⟨b1, t1⟩ : ∃ b, dC s1.length = b := ⟨_, rfl⟩
      obtain ⟨b2, t2⟩ : ∃ b, dC s2.length = b := ⟨_, rfl⟩
      obtain ⟨b3, t3⟩ : ∃ b, dC s3.length = b := ⟨_, rfl⟩
      obtain ⟨b4, t4⟩ : ∃ b, dC s4.length = b := ⟨_, rfl⟩
      have H1 := NW t1
      have H2 := NW t2
      have H3 := NW t3
      have H4 := NW t4
      have e1 : (k : Int) < (l.length : Int) := Ot
      have e2 : decide ((k : Int) < 7) = Oc := decide_eq_true Ot
      clear hX hc ho hb hall
      by_cases hq : b1 = N1 ∧ b2 = N1 ∧ b3 = N1 ∧ b4 = N1
      · obtain ⟨rfl, rfl, rfl, rfl⟩ := hq
        have HN := NW (show ∀ m, m < k + 1 → jb (l.getD m fK) from fun m hm => by
          by_cases e : m = k
          · rw [e, HO.out]; exact ⟨H1.out, H2.out, H3.out, H4.out⟩
          · exact HA.out m Ot)
        go_wp2_with (go_at_call 58; go_must (refine (jv _ _).mono ?_); rintro e W1 ⟨rfl, rfl⟩)
        exact ⟨⟨k + 1, by go_num, Ot, Ot, HX.out, HN.out⟩, OP⟩
      · cases b1 <;> cases b2 <;> cases b3 <;> cases b4
        all_goals first
          | exact absurd ⟨rfl, rfl, rfl, rfl⟩ hq
          | (clear hq
             go_wp2_with (go_at_call 58; go_must (refine (jv _ _).mono ?_); rintro e W1 ⟨rfl, rfl⟩)
             go_ret
             exact ⟨HT.out, HX.out⟩)
    · have HN := NW (show (l.length ≤ k ∨ k = 7) from Ot)
      obtain ⟨p1, q1⟩ : ∃ p, decide ((l.length : Int) > 6) = p := ⟨_, rfl⟩
      obtain ⟨p2, q2⟩ : ∃ p, decide ((l.length : Int) ≤ 32) = p := ⟨_, rfl⟩
      obtain ⟨p3, q3⟩ : ∃ p, decide ((l.length : Int) > 34) = p := ⟨_, rfl⟩
      have HV := NW (show ∀ b : Bool, (b = N1 → p3 = N1 ∧ (p1 = N1 ∨ p2 = N1)) → gB (sL l) (.returned (.bool b)) from fun b h => HF.out b (fun hb => by
        obtain ⟨a, c⟩ := h hb
        have a3 := of_decide_eq_false (q3.trans a)
        refine ⟨Ot, fun i hi hi7 => HA.out i (by rcases HN.out with h | h <;> omega), ?_⟩
        rcases c with c | c
        · have := of_decide_eq_false (q1.trans c); omega
        · have := of_decide_eq_false (q2.trans c); omega))
      have hN := HN.out
      clear hlt hX hall HN HA
      rcases hN with hN | hN
      · obtain rfl : k = l.length := by omega
        clear hN hk hk7
        cases p1 <;> cases p2 <;> cases p3
        all_goals
          go_wp2
          go_ret
          refine ⟨HV.out _ ?_, HX.out⟩
          simp
      · subst hN
        clear hk7
        cases q0 : decide ((7 : Int) < (l.length : Int)) <;> cases p1 <;> cases p2 <;> cases p3
        all_goals
          go_wp2
          go_ret
          refine ⟨HV.out _ ?_, HX.out⟩
          simp
end
section
open Kp
structure pG(o:jD):Prop where
 a:(tx o.left).size≤604
 b:(tx o.right).size≤604
 c:(tx o.low).size≤604
 d:(tx o.high).size≤604
theorem cZ{n:Nat}(h:dC n=N1):n≤604:=by
 unfold dC at h
 simp at h;omega
theorem jb.sm{o:jD}(h:jb o):pG o:=⟨by rw[av];exact cZ h.a,by rw[av];exact cZ h.b,by rw[av];exact cZ h.c,by rw[av];exact cZ h.d⟩
theorem Cs(w:NY)(o:jD)(h:pG o)(ht:aL w):Of prog 174 #[.agg #[.int .i64 o.side,.string (tx o.left),.string (tx o.right),.string (tx o.low),.string (tx o.high)]] w fun e w'=>EZ e∧Ext w w':=by
 obtain⟨h1,h2,h3,h4⟩:=h
 obtain⟨s,a,b,c,d⟩:=o
 dsimp only at h1 h2 h3 h4⊢
 generalize tx a=a at *
 generalize tx b=b at *
 generalize tx c=c at *
 generalize tx d=d at *
 have X0:=(Below.refl w.heap.size w).alloc (NZ _) (.cells #[.int .i64 s,.string a,.string b,.string c,.string d] 39)
 have R1:=af.new w 39 [.int .i64 s,.string a,.string b,.string c,.string d]
 obtain⟨w0,hw0⟩:∃w0,w.alloc (.cells #[.int .i64 s,.string a,.string b,.string c,.string d] 39)=w0:=⟨_,rfl⟩
 have R2:=af.new w0 37 (MK [a,b,c,d])
 rw[show w.alloc (.cells [Value.int .i64 s,.string a,.string b,.string c,.string d].toArray 39)=w0 from hw0] at R1
 rw[hw0] at X0
 have X1:=X0.alloc X0.size (.cells #[.string a,.string b,.string c,.string d] 37)
 have KS:=NW (show Of prog 210 #[.slice (N3 ⟨w0.heap.size,0,N0⟩) 4 4] (w0.alloc (.cells #[.string a,.string b,.string c,.string d] 37)) _ from xS _ _ 4 [a,b,c,d] R2 (fun i hi=>by
  match i,hi with
  |0,_|1,_|2,_|3,_=>first|exact Ok h1 Ov|exact Ok h2 Ov|exact Ok h3 Ov|exact Ok h4 Ov) Ow Ow (ht.below X1 (NZ _)))
 have HT:=NW ht
 have HX1:=NW X1
 have HR1:=NW (R1.ext ((Below.refl _ _).alloc (NZ _) (.cells #[.string a,.string b,.string c,.string d] 37)))
 have hw0s:w0.heap.size=w.heap.size+1:=by rw[←hw0,Oi]
 have HW0:=NW hw0
 have KC:=NW (fun x y W (hx:x.size≤604) (hy:y.size≤604) (h:Ext w W)=>kP x y W (Ok hx Ov) (Ok hy Ov) (HT.out.below h (NZ _)))
 clear X0 X1 R2 ht hw0 R1
 go_enter func174,ntmps174
 go_wp2_with(go_at_call 210;fail)
 simp only[HW0.out,←hw0s]
 refine KS.out.mono ?_
 rintro e W1 ⟨⟨k,rfl⟩,hX1⟩
 have X1:=NW (Ext.tr HX1.out hX1)
 have c1:=(HR1.out.ext hX1).cell 1
 have c2:=(HR1.out.ext hX1).cell 2
 have c3:=(HR1.out.ext hX1).cell 3
 have c4:=(HR1.out.ext hX1).cell 4
 have HR2:=NW (fun W h=>(HR1.out.ext hX1).ext (w':=W) h)
 clear hX1
 go_wp2_with(go_at_call 211;fail)
 ·go_ret
  exact⟨⟨_,rfl⟩,X1.out⟩
 ·refine(KC.out a b _ h1 h2 X1.out).mono ?_
  rintro e W2 ⟨⟨k2,rfl⟩,hX2⟩
  have X2:=NW (X1.out.tr hX2)
  have d3:=(HR2.out _ hX2).cell 3
  have d4:=(HR2.out _ hX2).cell 4
  clear hX2 c1 c2 c3 c4
  by_cases hk:0≤k2
  ·go_wp2_with fail
   go_ret
   exact⟨⟨_,rfl⟩,X2.out⟩
  ·go_wp2_with(go_at_call 211;go_loud (refine(KC.out c d _ h3 h4 X2.out).mono ?_);rintro e W3 ⟨⟨k3,rfl⟩,hX3⟩;have X3:=NW (X2.out.tr hX3);clear hX3)
   all_goals
    go_ret
    exact⟨⟨_,rfl⟩,X3.out⟩
def Lm(e:Ending):Prop:=∃b:Bool,e= .returned (.bool b)
theorem qI(w:NY)(o1 o2:jD)(h:pG o1)(k:pG o2)(ht:aL w):Of prog 175 #[.agg #[.int .i64 o1.side,.string (tx o1.left),.string (tx o1.right),.string (tx o1.low),.string (tx o1.high)],.agg #[.int .i64 o2.side,.string (tx o2.left),.string (tx o2.right),.string (tx o2.low),.string (tx o2.high)]] w fun e w'=>Lm e∧Ext w w':=by
 obtain⟨h1,h2,h3,h4⟩:=h
 obtain⟨k1,k2,k3,k4⟩:=k
 obtain⟨s,a,b,c,d⟩:=o1
 obtain⟨s',a',b',c',d'⟩:=o2
 dsimp only at h1 h2 h3 h4 k1 k2 k3 k4⊢
 generalize tx a=a at *
 generalize tx b=b at *
 generalize tx c=c at *
 generalize tx d=d at *
 generalize tx a'=a' at *
 generalize tx b'=b' at *
 generalize tx c'=c' at *
 generalize tx d'=d' at *
 have X0:=dI w (.cells #[.int .i64 s,.string a,.string b,.string c,.string d] 39) (.cells #[.int .i64 s',.string a',.string b',.string c',.string d'] 39)
 have R1:=(af.new w 39 [.int .i64 s,.string a,.string b,.string c,.string d]).ext ((Below.refl _ _).alloc (NZ _) (.cells #[.int .i64 s',.string a',.string b',.string c',.string d'] 39))
 have R2:=af.new (w.alloc (.cells #[.int .i64 s,.string a,.string b,.string c,.string d] 39)) 39 [.int .i64 s',.string a',.string b',.string c',.string d']
 rw[Oi] at R2
 obtain⟨w0,hw0⟩:∃w0,(w.alloc (.cells #[.int .i64 s,.string a,.string b,.string c,.string d] 39)).alloc (.cells #[.int .i64 s',.string a',.string b',.string c',.string d'] 39)=w0:=⟨_,rfl⟩
 have KC:=NW (fun x y W (hx:x.size≤604) (hy:y.size≤604) (h:Ext w W)=>kP x y W (Ok hx Ov) (Ok hy Ov) (ht.below h (NZ _)))
 rw[show((w.alloc (.cells #[.int .i64 s,.string a,.string b,.string c,.string d] 39)).alloc (.cells [Value.int .i64 s',.string a',.string b',.string c',.string d'].toArray 39))=w0 from hw0] at R2
 rw[hw0] at X0 R1
 have X0:=NW X0
 have HW0:=NW hw0
 have HA:=NW (fun W (h:Ext w0 W)=>R1.ext h)
 have HB:=NW (fun W (h:Ext w0 W)=>R2.ext h)
 clear hw0 R1 R2 ht
 by_cases hs:s=s'
 case neg=>
  go_enter func175,ntmps175
  go_wp2_with fail
  go_ret
  exact⟨⟨_,rfl⟩,by rw[HW0.out];exact X0.out⟩
 subst hs
 go_enter func175,ntmps175
 go_wp2_with(go_at_call 211;fail)
 rw[HW0.out]
 refine(KC.out a b' _ h1 k2 X0.out).mono ?_
 rintro e W1 ⟨⟨r1,rfl⟩,hX1⟩
 have X1:=NW (X0.out.tr hX1)
 have Z1:=NW hX1
 have cA:=fun i=>(HA.out _ Z1.out).cell i
 have cB:=fun i=>(HB.out _ Z1.out).cell i
 clear hX1
 by_cases hk1:r1<0
 case neg=>
  go_wp2_with fail
  go_ret
  exact⟨⟨_,rfl⟩,X1.out⟩
 go_wp2_with(go_at_call 211;fail)
 clear cA cB
 refine(KC.out a' b _ k1 h2 X1.out).mono ?_
 rintro e W2 ⟨⟨r2,rfl⟩,hX2⟩
 have X2:=NW (X1.out.tr hX2)
 have Z2:=NW (Z1.out.tr hX2)
 have cA:=fun i=>(HA.out _ Z2.out).cell i
 have cB:=fun i=>(HB.out _ Z2.out).cell i
 clear hX2
 by_cases hk2:r2<0
 case neg=>
  go_wp2_with fail
  go_ret
  exact⟨⟨_,rfl⟩,X2.out⟩
 go_wp2_with(go_at_call 211;fail)
 clear cA cB
 refine(KC.out c d' _ h3 k4 X2.out).mono ?_
 rintro e W3 ⟨⟨r3,rfl⟩,hX3⟩
 have X3:=NW (X2.out.tr hX3)
 have Z3:=NW (Z2.out.tr hX3)
 have cA:=fun i=>(HA.out _ Z3.out).cell i
 have cB:=fun i=>(HB.out _ Z3.out).cell i
 clear hX3
 by_cases hk3:r3<0
 case neg=>
  go_wp2_with fail
  go_ret
  exact⟨⟨_,rfl⟩,X3.out⟩
 go_wp2_with(go_at_call 211;fail)
 clear cA cB
 refine(KC.out c' d _ k3 h4 X3.out).mono ?_
 rintro e W4 ⟨⟨r4,rfl⟩,hX4⟩
 have X4:=NW (X3.out.tr hX4)
 clear hX4
 go_wp2_with fail
 all_goals
  go_ret
  exact⟨⟨_,rfl⟩,X4.out⟩
end
section
open Kp
def LO(l:List jD)(e:Ending):Prop:=∃(b:Bool) (k:Int),e= .returned (.tuple #[.bool b,.int .i64 k])∧(k=0→l.length≤32)
theorem p8 (w : NY) (A : Option Addr) (cap : Nat) (l : List jD) (hl : bC 5 w w.heap.size A cap (aO l)) (hs : l.length ≤ 32 → ∀ i, i < l.length → pG (l.getD i fK)) (ht : aL w) :
    Of prog 108 #[.slice A l.length cap] w fun x w' => LO l x ∧ Ext w w' := by
  have h1 := hl.1
  have h2 := hl.2.1
  rw [N9] at h1
  unfold Ol at h2
  by_cases h32 : 32 < l.length
  · clear hl hs
    go_enter func108, ntmps108
    go_wp2
    go_ret2
    exact ⟨⟨_, _, rfl, fun h => Ox⟩, Below.refl _ _⟩
  have HS := NW (hs Ot)
  have HT := NW ht
  have HL := NW (fun (W : NY) (hx : Ext w W) => ((hl.below hx).more hx.size : bC 5 W W.heap.size A cap (aO l)))
  have HF := NW (show ∀ b k, LO l (.returned (.tuple #[.bool b, .int .i64 k])) from fun b k => ⟨b, k, rfl, fun _ => Ot⟩)
  have KO := NW (fun i (hi : i < l.length) W (h : Ext w W) => Cs W _ (HS.out i hi) (HT.out.below h (NZ _)))
  have KV := NW (fun i j (hi : i < l.length) (hj : j < l.length) W (h : Ext w W) => qI W _ _ (HS.out i hi) (HS.out j hj) (HT.out.below h (NZ _)))
  clear hl hs ht
  go_enter func108, ntmps108
  go_wp2
  go_loopw [4] (fun i wr => ∃ k : Nat, i = .int .i64 (k : Int) ∧ k ≤ l.length ∧ Ext w wr) (fun i _ => ((l.length : Int) - Oh i).toNat)
  case atStart => exact ⟨0, rfl, Ot, Below.refl _ _⟩
  case round =>
    obtain ⟨k, rfl, hk, hX⟩ := hrel
    have HX := NW hX
    by_cases hlt : k < l.length
    · obtain ⟨b, off, rfl, hb, hc⟩ := lA (HL.out _ hX) Ot
      obtain ⟨y0, y1, y2, y3, y4⟩ := hc k hlt
      have K1 := NW (KO.out k hlt _ hX)
      obtain ⟨o, ho⟩ : ∃ n, l.getD k fK = n := ⟨_, rfl⟩
      rw [ho] at y0 y1 y2 y3 y4 K1
      obtain ⟨sd, s1, s2, s3, s4⟩ := o
      dsimp only at y0 y1 y2 y3 y4 K1
      have e1 : (k : Int) < (l.length : Int) := Ot
      clear hX hc ho hb
      go_wp2_with (go_at_call 174; go_loud (refine K1.out.mono ?_); rintro e W1 ⟨⟨c, rfl⟩, hX1⟩; have X1 := NW (HX.out.tr hX1); clear hX1)
      · go_ret2
        exact ⟨HF.out _ _, X1.out⟩
      · exact ⟨⟨k + 1, by go_num, Ot, X1.out⟩, OP⟩
    · obtain rfl : k = l.length := by omega
      clear hX
      go_wp2
      go_loopw [6] (fun i wi => ∃ m : Nat, i = .int .i64 (m : Int) ∧ m ≤ l.length ∧ Ext w wi) (fun i _ => ((l.length : Int) - Oh i).toNat)
      case atStart => exact ⟨0, rfl, Ot, HX.out⟩
      case round =>
        obtain ⟨m, rfl, hm, hX2⟩ := hrel
        have HX2 := NW hX2
        by_cases hlt2 : m < l.length
        · clear hX2
          have e1 : (m : Int) < (l.length : Int) := Ot
          go_wp2
          go_loopw [7] (fun i wi => ∃ n : Nat, i = .int .i64 (n : Int) ∧ n ≤ m ∧ Ext w wi) (fun i _ => ((m : Int) - Oh i).toNat)
          case atStart => exact ⟨0, rfl, Ot, HX2.out⟩
          case round =>
            obtain ⟨n, rfl, hn, hX3⟩ := hrel
            have HX3 := NW hX3
            by_cases hlt3 : n < m
            · obtain ⟨b, off, rfl, hb, hc⟩ := lA (HL.out _ hX3) Ot
              obtain ⟨y0, y1, y2, y3, y4⟩ := hc m hlt2
              obtain ⟨z0, z1, z2, z3, z4⟩ := hc n Ot
              have K1 := NW (fun W h => KV.out m n hlt2 Ot W (hX3.tr h))
              obtain ⟨o, ho⟩ : ∃ n, l.getD m fK = n := ⟨_, rfl⟩
              rw [ho] at y0 y1 y2 y3 y4 K1
              obtain ⟨sd, s1, s2, s3, s4⟩ := o
              obtain ⟨o, ho2⟩ : ∃ x, l.getD n fK = x := ⟨_, rfl⟩
              rw [ho2] at z0 z1 z2 z3 z4 K1
              obtain ⟨rd, r1, r2, r3, r4⟩ := o
              dsimp only at y0 y1 y2 y3 y4 z0 z1 z2 z3 z4 K1
              have e2 : (n : Int) < (m : Int) := Ot
              have e3 : (n : Int) < (l.length : Int) := Ot
              clear hX3 hc ho ho2 hb
              go_wp2_with fail
              go_still_tail 8, Ou
              all_goals go_simp
              go_wp2_with (go_at_call 175; go_loud (refine (K1.out _ (Ext.dr wr)).mono ?_); rintro e W4 ⟨⟨c, rfl⟩, hX4⟩; have X4 := NW (HX3.out.tr (Ext.tr (Ext.dr wr) hX4)); clear hX4)
              all_goals first
                | (go_ret2
                   exact ⟨HF.out _ _, X4.out⟩)
                | exact ⟨⟨n + 1, by go_num, Ot, X4.out⟩, OP⟩
                | trace_state
            · obtain rfl : n = m := by omega
              clear hX3
              go_wp2
              exact ⟨⟨n + 1, by go_num, Ot, HX3.out⟩, OP⟩
        · obtain rfl : m = l.length := by omega
          clear hX2
          go_wp2
          go_ret2
          exact ⟨HF.out _ _, HX2.out⟩
end
section
open Kp
def LJ(l:List jD)(x:Ending):Prop:=∃k:Int,x= .returned (.int .i64 k)∧(k=0→l.length≤32)
theorem qb(w:NY)(A:Option Addr)(cap:Nat)(rs:List (List Sd))(hr:dR w w.heap.size A cap rs)(hfl:rs.flatten.length≤1000000)(Ao:Option Addr)(co:Nat)(l:List jD)(hl:bC 5 w w.heap.size Ao co (aO l))(hs:l.length≤32→∀i,i<l.length→pG (l.getD i fK))(ht:aL w):
  Of prog 52 #[.agg #[.slice A rs.length cap],.slice Ao l.length co] w fun x w'=>LJ l x∧Ext w w':=by
 have h1:=hl.1
 have h2:=hl.2.1
 rw[N9] at h1
 unfold Ol at h2
 have E0:=NW (show Ext w (w.alloc (.cells #[.slice A rs.length cap] 24)) from(Below.refl _ _).alloc (NZ _) _)
 have R0:=NW (Bx.new w 24 (.slice A rs.length cap))
 obtain⟨w0,hw0⟩:∃w0,w.alloc (.cells #[.slice A rs.length cap] 24)=w0:=⟨_,rfl⟩
 rw[hw0] at E0 R0
 have HW0:=NW hw0
 have HB:=NW (fun W (h:Ext w0 W)=>(R0.out.below h R0.out.lt).cell)
 have HL:=NW (fun(W:NY) (hx:Ext w W)=>((hl.below hx).more hx.size:bC 5 W W.heap.size Ao co (aO l)))
 have KD:=NW (p8 w0 Ao co l (HL.out _ E0.out) hs (ht.below E0.out (NZ _)))
 have KS:=NW (fun W (h:Ext w W)=>xf W A cap rs ((hr.below h).more h.size) hfl)
 clear hr hfl hw0 hl hs ht
 go_enter func52,ntmps52
 go_wp2_with(go_at_call 108;fail)
 rw[HW0.out]
 refine KD.out.mono ?_
 rintro e W1 ⟨⟨b,k,rfl,hk⟩,hX1⟩
 have X1:=NW hX1
 have HK:=NW hk
 have c0:=HB.out _ hX1
 clear hX1 hk
 by_cases hk0:k=0
 ·subst hk0
  have h32:=NW (HK.out rfl)
  go_wp2_with(go_at_call 109;fail)
  refine(KS.out _ (E0.out.tr X1.out)).mono ?_
  rintro e W2 ⟨⟨As,n,c,k2,rfl,hn⟩,hX2⟩
  have X2:=NW (X1.out.tr hX2)
  clear hX2 c0
  go_wp2_with fail
  go_loopw [9] (fun i wr=>∃k:Nat,i= .int .i64 (k:Int)∧k≤l.length∧Ext w0 wr) (fun i _=>((l.length:Int)-Oh i).toNat)
  case atStart=>exact⟨0,rfl,Ot,X2.out⟩
  case round=>
   obtain⟨m,rfl,hm,hX⟩:=hrel
   have HX:=NW hX
   by_cases hlt:m<l.length
   ·obtain⟨b',off,rfl,hb,hc⟩:=lA (HL.out _ (E0.out.tr hX)) Ot
    have y0:=(hc m hlt).1
    obtain⟨s,hs⟩:∃s,(l.getD m fK).side=s:=⟨_,rfl⟩
    rw[hs] at y0
    have w1:Oe.wrap ((n:Int)-1)=(n:Int)-1:=Om _ Ot
    have e1:(m:Int)<(l.length:Int):=Ot
    clear hX hc hb hs
    go_wp2_with(go_at_call 50;fail)
    refine(eK _ _ _ _).mono ?_
    rintro e W3 ⟨rfl,rfl⟩
    obtain⟨p,hp⟩:∃p,(!aF s 0 ((n:Int)-1))=p:=⟨_,rfl⟩
    rw[hp]
    clear hp
    cases p
    ·go_wp2_with fail
     exact⟨⟨m+1,by go_num,Ot,HX.out⟩,Oy⟩
    ·go_wp2_with fail
     go_ret
     exact⟨⟨_,rfl,fun _=>h32.out⟩,E0.out.tr HX.out⟩
   ·obtain rfl:m=l.length:=Ot
    clear hX
    go_wp2_with fail
    all_goals
     go_ret
     exact⟨⟨_,rfl,fun _=>h32.out⟩,E0.out.tr HX.out⟩
 ·have t0:(k !=0)=Oc:=bne_iff_ne.2 hk0
  go_wp2_with fail
  go_ret
  exact⟨⟨_,rfl,fun h=>absurd h hk0⟩,E0.out.tr X1.out⟩
end
end Go.Proofs.YtnpihidbkhehjaaGreatDoor
