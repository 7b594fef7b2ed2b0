/- ChangeOnly of kingpostlaw58: part 26 of its proof (merged and shortened by program). -/
import Derived.Test.YtnpihidbkhehjaaGreatDoorM25
set_option linter.unusedVariables false
set_option linter.unusedSimpArgs false
set_option linter.defProp false
set_option maxHeartbeats 8000000
set_option maxRecDepth 100000
open Go.RowKit Go.Shelf Go.Proofs.Tryz
open Array renaming getElem?_eq_some_iff→Od
open Bool renaming false→N1,true→Oc
open Go renaming World→NY,Value→N2,undef→N7,wpOp_step→Ob,Calls→Of,maxLen→Ol,TypeId→Oo
open Go.AllReady renaming cons→Oj,nil→Oq
open Go.IntKind renaming i64→Oe
open Go.IntWalk renaming i64_in→Om
open Go.Lib renaming hid→NW
open Go.RowKit renaming intOf→Oh,Below→On
open Go.World renaming size_alloc→Oi
open List renaming getD_eq_getElem?_getD→N8,length_map→N9,getElem?_eq_getElem→Oa
open Nat renaming le_refl→NZ,mul_comm→Og,le_trans→Ok
open Option renaming none→N0,some→N3
open Go.Proofs.YtnpihidbkhehjaaGreatDoor
namespace Go.Proofs.YtnpihidbkhehjaaGreatDoor
section
open Kp
theorem qm(w:NY)(A:Option Addr)(cap:Nat)(rs:List (List Sd))(hr:dR w w.heap.size A cap rs)(hp:0<rs.length)(hlen:∀k,(rs.getD k []).length≤1000000):
  Of prog 105 #[.slice A rs.length cap] w fun x w'=>(∃b:Bool,x= .returned (.bool b))∧Ext w w':=by
 have h1:=hr.1
 have h2:=hr.2.1
 unfold Ol at h2
 obtain⟨b,off,f,rfl,hb,hf⟩:=zY hr hp
 have HF:=NW hf
 have HLN:=NW hlen
 have KT:=NW (fun(W:NY) (h:Ext w W) (k:Nat) (hk:k<rs.length) (i:Nat) (hi:i<(rs.getD k []).length) (q:Nat) (hq:q<rs.length) (u:Nat) (hu:u<(rs.getD q []).length)=>vo W (f k).1 (f k).2 (rs.getD k []) (hf W h k hk).2 i hi (f q).1 (f q).2 (rs.getD q []) (hf W h q hq).2 u hu)
 clear hr hf hlen
 go_enter func105,ntmps105
 go_wp2
 go_loopw [3] (fun i wr=>∃k:Nat,i= .int .i64 (k:Int)∧k≤rs.length∧Ext w wr) (fun i _=>((rs.length:Int)-Oh i).toNat)
 case atStart=>exact⟨0,rfl,Ot,Below.refl _ _⟩
 case round=>
  obtain⟨k,rfl,hk,hX⟩:=hrel
  have HX:=NW hX
  by_cases hlt:k<rs.length
  ·obtain⟨n,hn⟩:∃n,(rs.getD k []).length=n:=⟨_,rfl⟩
   obtain⟨fa,hfa⟩:∃x,(f k).1=x:=⟨_,rfl⟩
   obtain⟨fc,hfc⟩:∃x,(f k).2=x:=⟨_,rfl⟩
   have HC:=NW (fun W (h:Ext w W)=>(show W.cell? ⟨b,off+k,N0⟩=N3 (.slice fa n fc) by rw[←hn,←hfa,←hfc];exact(HF.out W h k hlt).1))
   have hn6:n≤1000000:=hn▸HLN.out k
   have HN:=NW hn
   have HA:=NW hfa
   have HCC:=NW hfc
   clear hX hn hfa hfc
   go_wp2_with fail
   go_loopw [4] (fun i wr=>∃m:Nat,i= .int .i64 (m:Int)∧m≤n∧Ext w wr) (fun i _=>((n:Int)-Oh i).toNat)
   case atStart=>exact⟨0,rfl,Ot,HX.out⟩
   case round=>
    obtain⟨m,rfl,hm,hX2⟩:=hrel
    have HX2:=NW hX2
    have c1:=HC.out _ hX2
    clear hX2
    by_cases hlt2:m<n
    ·go_wp2_with fail
     clear c1
     go_loopw [5] (fun i wr=>∃q:Nat,i= .int .i64 (q:Int)∧q≤rs.length∧Ext w wr) (fun i _=>((rs.length:Int)-Oh i).toNat)
     case atStart=>exact⟨k,rfl,Ot,HX2.out⟩
     case round=>
      obtain⟨q,rfl,hq,hX3⟩:=hrel
      have HX3:=NW hX3
      clear hX3
      by_cases hlt3:q<rs.length
      ·obtain⟨n',hn'⟩:∃n,(rs.getD q []).length=n:=⟨_,rfl⟩
       obtain⟨ga,hga⟩:∃x,(f q).1=x:=⟨_,rfl⟩
       obtain⟨gc,hgc⟩:∃x,(f q).2=x:=⟨_,rfl⟩
       have HD:=NW (fun W (h:Ext w W)=>(show W.cell? ⟨b,off+q,N0⟩=N3 (.slice ga n' gc) by rw[←hn',←hga,←hgc];exact(HF.out W h q hlt3).1))
       have KQ:=KT.out
       have KQ:=fun(W:NY) (h:Ext w W)=>KT.out W h k hlt m (by rw[HN.out];exact hlt2) q hlt3
       simp only[hn',hga,hgc,HN.out,HA.out,HCC.out] at KQ
       have KQ:=NW KQ
       have hn7:n'≤1000000:=hn'▸HLN.out q
       clear hn' hga hgc
       go_wp2_with fail
       go_loopw [6] (fun i wr=>∃u:Nat,i= .int .i64 (u:Int)∧u≤n'∧Ext w wr) (fun i _=>((n':Int)-Oh i).toNat)
       case atStart=>exact⟨0,rfl,Ot,HX3.out⟩
       case round=>
        obtain⟨u,rfl,hu,hX4⟩:=hrel
        have HX4:=NW hX4
        have c1:=HC.out _ hX4
        have c2:=HD.out _ hX4
        clear hX4
        by_cases hlt4:u<n'
        ·have KQu:=NW (fun W (h:Ext w W)=>KQ.out W h u hlt4)
         have w1:Oe.wrap ((m:Int)+1)=(m:Int)+1:=Om _ Ot
         have w2:Oe.wrap ((n:Int)-1)=(n:Int)-1:=Om _ Ot
         have a1:=fun w' (h:Ext wr w')=>HC.out w' (HX4.out.tr h)
         have a2:=fun w' (h:Ext wr w')=>HD.out w' (HX4.out.tr h)
         obtain⟨e1,t1⟩:∃e,((k:Int)==(q:Int))=e:=⟨_,rfl⟩
         obtain⟨e2,t2⟩:∃e,decide ((u:Int)≤(m:Int))=e:=⟨_,rfl⟩
         obtain⟨e3,t3⟩:∃e,((u:Int)==(m:Int)+1)=e:=⟨_,rfl⟩
         obtain⟨e4,t4⟩:∃e,((m:Int)==0)=e:=⟨_,rfl⟩
         obtain⟨e5,t5⟩:∃e,((u:Int)==(n:Int)-1)=e:=⟨_,rfl⟩
         have s1:(k==q)=e1:=by rw[←t1,Bool.eq_iff_iff,beq_iff_eq,beq_iff_eq];omega
         have s2:decide (u≤m)=e2:=by rw[←t2];exact decide_eq_decide.2 Ot
         have s3:(u==m+1)=e3:=by rw[←t3,Bool.eq_iff_iff,beq_iff_eq,beq_iff_eq];omega
         have s4:(m==0)=e4:=by rw[←t4,Bool.eq_iff_iff,beq_iff_eq,beq_iff_eq];omega
         cases e1 with
         |true=>
          cases e2 with
          |true=>
           go_wp2
           exact⟨⟨u+1,by go_num,Ot,HX4.out⟩,Oy⟩
          |false=>
           cases e3 with
           |true=>
            go_wp2
            exact⟨⟨u+1,by go_num,Ot,HX4.out⟩,Oy⟩
           |false=>
            cases e4 with
            |true=>
             cases e5 with
             |true=>
              go_wp2
              exact⟨⟨u+1,by go_num,Ot,HX4.out⟩,Oy⟩
             |false=>
              go_wp2_with fail
              go_region_held3(fun w'=>Ext wr w') (first|exact hx1|exact Ext.dr wr) (first|(go_at_call 171;go_must(refine(KQu.out _ (HX4.out.tr (Ext.dr wr))).mono ?_);rintro e W3 ⟨⟨z,rfl⟩,hX5⟩;have hx1:Ext wr W3:=(Ext.dr wr).tr hX5;clear hX5))
              go_wp2
              ·go_ret
               exact⟨⟨_,rfl⟩,HX4.out.tr hx1⟩
              ·go_round
               case rel=>exact⟨u+1,by go_num,Ot,HX4.out.tr hx1⟩
               case measure=>simp[Oh];omega
            |false=>
             go_wp2_with fail
             go_region_held3(fun w'=>Ext wr w') (first|exact hx1|exact Ext.dr wr) (first|(go_at_call 171;go_must(refine(KQu.out _ (HX4.out.tr (Ext.dr wr))).mono ?_);rintro e W3 ⟨⟨z,rfl⟩,hX5⟩;have hx1:Ext wr W3:=(Ext.dr wr).tr hX5;clear hX5))
             go_wp2
             ·go_ret
              exact⟨⟨_,rfl⟩,HX4.out.tr hx1⟩
             ·go_round
              case rel=>exact⟨u+1,by go_num,Ot,HX4.out.tr hx1⟩
              case measure=>simp[Oh];omega
         |false=>
          go_wp2_with fail
          go_region_held3(fun w'=>Ext wr w') (first|exact hx1|exact Ext.dr wr) (first|(go_at_call 171;go_must(refine(KQu.out _ (HX4.out.tr (Ext.dr wr))).mono ?_);rintro e W3 ⟨⟨z,rfl⟩,hX5⟩;have hx1:Ext wr W3:=(Ext.dr wr).tr hX5;clear hX5))
          go_wp2
          ·go_ret
           exact⟨⟨_,rfl⟩,HX4.out.tr hx1⟩
          ·go_round
           case rel=>exact⟨u+1,by go_num,Ot,HX4.out.tr hx1⟩
           case measure=>simp[Oh];omega
        ·obtain rfl:u=n':=Ot
         go_wp2
         exact⟨⟨q+1,by go_num,Ot,HX4.out⟩,Oy⟩
      ·obtain rfl:q=rs.length:=Ot
       go_wp2
       exact⟨⟨m+1,by go_num,Ot,HX3.out⟩,Oy⟩
    ·obtain rfl:m=n:=Ot
     go_wp2
     exact⟨⟨k+1,by go_num,Ot,HX2.out⟩,Oy⟩
  ·obtain rfl:k=rs.length:=Ot
   go_wp2
   go_ret
   exact⟨⟨_,rfl⟩,HX.out⟩
end
section
open Kp
structure yj(W0:NY)(t:Oo)(zero rowa:List N2)(val:Nat→N2)(L:Nat→Bool)(vs:Nat→N2)(W:NY):Prop where
 vals:∀q,L q=Oc→q<15→vs q=val q
 ext:Ext W0 W
 a:L 15=Oc→∃pa,vs 15= .pointer (N3 ⟨pa,0,N0⟩)∧W0.heap.size≤pa∧af W pa t (if L 17=Oc then rowa else zero)∧(L 16=Oc→vs 16≠ .pointer (N3 ⟨pa,0,N0⟩))
 b:L 16=Oc→∃pb,vs 16= .pointer (N3 ⟨pb,0,N0⟩)∧W0.heap.size≤pb∧af W pb t zero
 st:L 17=Oc→L 15=Oc
variable {W0 W : NY} {t : Oo} {zero rowa : List N2} {val : Nat → N2} {L : Nat → Bool} {vs : Nat → N2}
theorem yj.start(h:Ext W0 W)(us:Nat→N2):yj W0 t zero rowa val (fun _=>N1) us W:=
 ⟨fun _ h=>Ox,h,fun h=>Ox,fun h=>Ox,fun h=>Ox⟩
theorem yj.pure(h:yj W0 t zero rowa val L vs W){q:Nat}(hq:q<15){v:N2}(hv:v=val q):yj W0 t zero rowa val (gd L q) (bw vs q v) W:=by
 have n15:15≠q:=Ot
 have n16:16≠q:=Ot
 have n17:17≠q:=Ot
 refine⟨fun m hm hl=> ?_,h.ext,?_,?_,?_⟩
 ·by_cases e:m=q
  ·subst e;rw[dn];exact hv
  ·rw[aP e];rw[ae e] at hm;exact h.vals m hm hl
 ·rw[ae n15,ae n16,ae n17,aP n15,aP n16];exact h.a
 ·rw[ae n16,aP n16];exact h.b
 ·rw[ae n17,ae n15];exact h.st
theorem yj.ND(h:yj W0 t zero rowa val L vs W)(hL:L 15=N1)(hz:zero=zero){W':NY}(hW:W'=W.alloc (.cells zero.toArray t)):yj W0 t zero rowa val (gd L 15) (bw vs 15 (.pointer (N3 ⟨W.heap.size,0,N0⟩))) W':=by
 subst hW
 have h17:L 17=N1:=by cases q:L 17 with|false=>rfl|true=>rw[h.st q] at hL;cases hL
 have hx:Ext W (W.alloc (.cells zero.toArray t)):=(Below.refl _ _).alloc (NZ _) _
 refine⟨fun m hm hl=> ?_,h.ext.tr hx,?_,?_,?_⟩
 ·have e:m≠15:=Ot
  rw[aP e];rw[ae e] at hm;exact h.vals m hm hl
 ·intro _
  rw[dn,ae (k:=17) Ov,h17,ae (k:=16) Ov,aP (k:=16) Ov]
  refine⟨_,rfl,h.ext.size,by rw[if_neg Ov];exact af.new _ _ _,fun h16 e=> ?_⟩
  obtain⟨pb,e2,_,hr⟩:=h.b h16
  rw[e2] at e
  injection e with e;injection e with e;injection e with e
  have:=hr.lt
  omega
 ·rw[ae (k:=16) Ov,aP (k:=16) Ov]
  intro h16
  obtain⟨pb,e2,hl,hr⟩:=h.b h16
  exact⟨pb,e2,hl,hr.ext hx⟩
 ·rw[ae (k:=17) Ov,h17];intro h;cases h
theorem yj.NK(h:yj W0 t zero rowa val L vs W){W':NY}(hW:W'=W.alloc (.cells zero.toArray t)):yj W0 t zero rowa val (gd L 16) (bw vs 16 (.pointer (N3 ⟨W.heap.size,0,N0⟩))) W':=by
 subst hW
 have hx:Ext W (W.alloc (.cells zero.toArray t)):=(Below.refl _ _).alloc (NZ _) _
 refine⟨fun m hm hl=> ?_,h.ext.tr hx,?_,?_,?_⟩
 ·have e:m≠16:=Ot
  rw[aP e];rw[ae e] at hm;exact h.vals m hm hl
 ·rw[ae (k:=15) Ov,ae (k:=17) Ov,aP (k:=15) Ov,dn]
  intro h15
  obtain⟨pa,e1,hl,hr,_⟩:=h.a h15
  refine⟨pa,e1,hl,hr.ext hx,fun _ e=> ?_⟩
  injection e with e;injection e with e;injection e with e
  have:=hr.lt
  omega
 ·intro _
  rw[dn]
  exact⟨_,rfl,h.ext.size,af.new _ _ _⟩
 ·rw[ae (k:=17) Ov,ae (k:=15) Ov];exact h.st
theorem yj.store(h:yj W0 t zero rowa val L vs W)(h15:L 15=Oc){pa:Nat}(hp:vs 15= .pointer (N3 ⟨pa,0,N0⟩)):yj W0 t zero rowa val (gd L 17) (bw vs 17 N7) (W.setRow pa rowa.toArray):=by
 obtain⟨pa',e1,hl,hr,hne⟩:=h.a h15
 obtain rfl:pa=pa':=by rw[hp] at e1;injection e1 with e1;injection e1 with e1;injection e1 with e1
 refine⟨fun m hm hl=> ?_,ah h.ext hl _,?_,?_,?_⟩
 ·have e:m≠17:=Ot
  rw[aP e];rw[ae e] at hm;exact h.vals m hm hl
 ·rw[ae (k:=15) Ov,ae (k:=16) Ov,dw,aP (k:=15) Ov,aP (k:=16) Ov]
  intro _
  exact⟨pa,hp,hl,by rw[if_pos rfl];exact setRow_heap hr _,hne⟩
 ·rw[ae (k:=16) Ov,aP (k:=16) Ov]
  intro h16
  obtain⟨pb,e2,hl2,hr2⟩:=h.b h16
  have hpp:pb≠pa:=fun e=>hne h16 (by rw[e2,e])
  have:(W.setRow pa rowa.toArray).heap[pb]?=W.heap[pb]?:=by simp only[World.setRow,Array.getElem?_modify];rw[if_neg (Ne.symm hpp)]
  exact⟨pb,e2,hl2,this.trans hr2⟩
 ·intro _;rw[ae (k:=15) Ov];exact h15
def ig(bk ok n c k p:Nat)(r:List Sd):Nat→N2
 |0=> .slice (N3 ⟨bk,ok,N0⟩) n c
 |1=> .int .i64 (k:Int)
 |2=> .slice (N3 ⟨bk,ok,N0⟩) n c
 |3=> .int .i64 (n:Int)
 |4=> .int .i64 ((k:Int)+n)
 |5=> .int .i64 ((k:Int)+n-1)
 |6=> .slice (N3 ⟨bk,ok,N0⟩) n c
 |7=> .int .i64 (n:Int)
 |8=> .int .i64 (p:Int)
 |9=> .pointer (N3 ⟨bk,ok+p*7,N0⟩)
 |10=> .agg (jF (az r p)).toArray
 |11=> .slice (N3 ⟨bk,ok,N0⟩) n c
 |12=> .int .i64 (k:Int)
 |13=> .pointer (N3 ⟨bk,ok+k*7,N0⟩)
 |14=> .agg (jF (az r k)).toArray
 |_=>N7
theorem wpList_skip{P:Program}{ops:Array Oper}{rest:List Oper}{o:Oper}{a:Act}{w:NY}{Q:Exit→Act→NY→Prop}(hg:Region.wanted o (yielded ops a.tmps)=N1)(h:wpList P ops Q rest (a.put o.dst N7) w):wpList P ops Q (o::rest) a w:=
 wpList_step fun _ hK=>by
  rw[if_neg (by rw[hg];decide)]
  exact hK _ _ h
theorem uU(w:NY)(A:Option Addr)(cap:Nat)(rs:List (List Sd))(hr:dR w w.heap.size A cap rs)(hp:0<rs.length)(hlen:∀k,(rs.getD k []).length≤1000000):
  Of prog 107 #[.slice A rs.length cap] w fun x w'=>(∃b:Bool,x= .returned (.bool b))∧Ext w w':=by
 have h1:=hr.1
 have h2:=hr.2.1
 unfold Ol at h2
 obtain⟨b,off,f,rfl,hb,hf⟩:=zY hr hp
 have HF:=NW hf
 have HLEN:=NW hlen
 clear hr hf hlen
 go_enter func107,ntmps107
 go_wp2
 go_loopw [3,4] (fun s i wr=>∃(o:Bool) (k:Nat),s= .bool o∧i= .int .i64 (k:Int)∧k≤rs.length∧Ext w wr) (fun _ i _=>((rs.length:Int)-Oh i).toNat)
 case atStart=>exact⟨N1,0,rfl,rfl,Ot,Below.refl _ _⟩
 case round=>
  obtain⟨o,k,rfl,rfl,hk,hX⟩:=hrel
  have HX:=NW hX
  by_cases hlt:k<rs.length
  ·have c0:=(HF.out wr hX k hlt).1
   obtain⟨ring,hring⟩:∃r,rs.getD k []=r:=⟨_,rfl⟩
   have HR:=NW (fun W (h:Ext w W)=>hring▸(HF.out W h k hlt).2:∀W,Ext w W→bC 7 W W.heap.size (f k).1 (f k).2 (ak ring))
   have hrl:ring.length≤1000000:=hring▸HLEN.out k
   have hrc:ring.length≤(f k).2:=by have:=(HR.out wr hX).1;rw[N9] at this;exact this
   have hrm:=(HR.out wr hX).2.1
   unfold Ol at hrm
   rw[hring] at c0
   obtain⟨fa,hfa⟩:∃x,(f k).1=x:=⟨_,rfl⟩
   obtain⟨fc,hfc⟩:∃x,(f k).2=x:=⟨_,rfl⟩
   simp only[hfa,hfc] at c0 HR hrc hrm
   clear hX hring hfa hfc
   go_wp2_with fail
   go_loopw [3,6] (fun s i wr=>∃(o:Bool) (m:Nat),s= .bool o∧i= .int .i64 (m:Int)∧m≤ring.length∧Ext w wr) (fun _ i _=>((ring.length:Int)-Oh i).toNat)
   case atStart=>exact⟨o,0,rfl,rfl,Ot,HX.out⟩
   case round=>
    obtain⟨o2,m,rfl,rfl,hm,hX3⟩:=hrel
    have HX3:=NW hX3
    by_cases hlt2:m<ring.length
    ·obtain⟨bk,ok,rfl,hbk,hck⟩:=eu (HR.out _ hX3) Ot
     obtain⟨p,hpe⟩:∃p,(m+ring.length-1)%ring.length=p:=⟨_,rfl⟩
     have hpl:p<ring.length:=by rw[←hpe];exact Nat.mod_lt _ Ot
     have q1:((m:Int)+ring.length-1).tmod (ring.length:Int)=(p:Int):=by rw[Int.tmod_eq_emod_of_nonneg Ot,show((m:Int)+ring.length-1)=((m+ring.length-1:Nat):Int) by omega,←hpe];rfl
     have HQ1:=NW q1
     have KT:=NW (fun(W:NY) (hx:Ext w W)=>pE W _ fc ring (HR.out W hx) hrl m hlt2)
     have HC:=NW hck
     have HBK:=NW hbk
     obtain⟨q,hq⟩:∃q,AJ ring m=q:=⟨_,rfl⟩
     simp only[hq] at KT
     clear hX3 hck hbk hq hpe q1
     obtain⟨t,ht⟩:∃t,decide (q<0)=t:=⟨_,rfl⟩
     go_wp2_with fail
     refine wp_region_any Ou (bL 18 (fun vs=>⟨#[.slice (N3 ⟨b,off,N0⟩) rs.length cap,N7,u2,.bool o2,.int .i64 (k:Int),.slice (N3 ⟨bk,ok,N0⟩) ring.length fc,.int .i64 (m:Int),vs 15,vs 16,.int .i64 (k:Int),.slice (N3 ⟨b,off,N0⟩) rs.length cap,.int .i64 (rs.length:Int),.bool Oc,u13,u14,.slice (N3 ⟨b,off,N0⟩) rs.length cap,.int .i64 (k:Int),.pointer (N3 ⟨b,off+k,N0⟩),.slice (N3 ⟨bk,ok,N0⟩) ring.length fc,.int .i64 (m:Int),.slice (N3 ⟨bk,ok,N0⟩) ring.length fc,.int .i64 (ring.length:Int),.bool Oc,u23,u24,vs 0,vs 1,vs 2,vs 3,vs 4,vs 5,vs 6,vs 7,vs 8,vs 9,vs 10,vs 11,vs 12,vs 13,vs 14,u40,u41,u42,u43,u44,u45,u46,u47,u48,u49,u50,u51,u52,u53,u54,u55,u56,u57,u58,u59,u60,u61,u62,u63,u64,N7],[]⟩)
      (fun L vs W=>yj wr 36 (jF I8) (jF (az ring p)) (ig bk ok ring.length fc m p ring) L vs W) Ou ?step ?tail (fun i=>match i with|0=>u25|1=>u26|2=>u27|3=>u28|4=>u29|5=>u30|6=>u31|7=>u32|8=>u33|9=>u34|10=>u35|11=>u36|12=>u37|13=>u38|14=>u39|15=>u7|16=>u8|_=>N7) _ (yj.start (Ext.dr wr) _))
     case step=>
      intro i L vs W hi hL hI hd
      have HI:=NW hI
      rcases(show i=0∨i=1∨i=2∨i=3∨i=4∨i=5∨i=6∨i=7∨i=8∨i=9∨i=10∨i=11∨i=12∨i=13∨i=14∨i=15∨i=16∨i=17 by omega) with rfl|rfl|rfl|rfl|rfl|rfl|rfl|rfl|rfl|rfl|rfl|rfl|rfl|rfl|rfl|rfl|rfl|rfl<;>clear hi hI
      ·refine Ob rfl (fun K hK=> ?_)
       go_simp
       exact hK _ _ ⟨ig bk ok ring.length fc m p ring 0,by simp[bw,ig],HI.out.pure Ov rfl⟩
      ·refine Ob rfl (fun K hK=> ?_)
       go_simp
       exact hK _ _ ⟨ig bk ok ring.length fc m p ring 1,by simp[bw,ig],HI.out.pure Ov rfl⟩
      ·refine Ob rfl (fun K hK=> ?_)
       go_simp
       exact hK _ _ ⟨ig bk ok ring.length fc m p ring 2,by simp[bw,ig],HI.out.pure Ov rfl⟩
      ·refine Ob rfl (fun K hK=> ?_)
       have d2:=HI.out.vals 2 (hd 2 Ou) Ov
       simp only[ig] at d2
       go_simp
       exact hK _ _ ⟨ig bk ok ring.length fc m p ring 3,by simp[bw,ig,d2],HI.out.pure Ov rfl⟩
      ·refine Ob rfl (fun K hK=> ?_)
       have d1:=HI.out.vals 1 (hd 1 Ou) Ov
       simp only[ig] at d1
       have d3:=HI.out.vals 3 (hd 3 Ou) Ov
       simp only[ig] at d3
       have w1:Oe.wrap ((m:Int)+ring.length)=(m:Int)+ring.length:=Om _ Ot
       go_simp
       exact hK _ _ ⟨ig bk ok ring.length fc m p ring 4,by simp[bw,ig,d1,d3],HI.out.pure Ov rfl⟩
      ·refine Ob rfl (fun K hK=> ?_)
       have d4:=HI.out.vals 4 (hd 4 Ou) Ov
       simp only[ig] at d4
       have w2:Oe.wrap ((m:Int)+ring.length-1)=(m:Int)+ring.length-1:=Om _ Ot
       go_simp
       exact hK _ _ ⟨ig bk ok ring.length fc m p ring 5,by simp[bw,ig,d4],HI.out.pure Ov rfl⟩
      ·refine Ob rfl (fun K hK=> ?_)
       go_simp
       exact hK _ _ ⟨ig bk ok ring.length fc m p ring 6,by simp[bw,ig],HI.out.pure Ov rfl⟩
      ·refine Ob rfl (fun K hK=> ?_)
       have d6:=HI.out.vals 6 (hd 6 Ou) Ov
       simp only[ig] at d6
       go_simp
       exact hK _ _ ⟨ig bk ok ring.length fc m p ring 7,by simp[bw,ig,d6],HI.out.pure Ov rfl⟩
      ·refine Ob rfl (fun K hK=> ?_)
       have d5:=HI.out.vals 5 (hd 5 Ou) Ov
       simp only[ig] at d5
       have d7:=HI.out.vals 7 (hd 7 Ou) Ov
       simp only[ig] at d7
       have q1:=HQ1.out
       have w3:Oe.wrap (p:Int)=(p:Int):=Om _ Ot
       have z1:((ring.length:Int)==0)=N1:=beq_eq_false_iff_ne.2 Ot
       have z2:¬ring=[]:=by intro h;rw[h] at hlt2;simp at hlt2
       go_simp
       exact hK _ _ ⟨ig bk ok ring.length fc m p ring 8,by simp[bw,ig,d5,d7],HI.out.pure Ov rfl⟩
      ·refine Ob rfl (fun K hK=> ?_)
       have d0:=HI.out.vals 0 (hd 0 Ou) Ov
       simp only[ig] at d0
       have d8:=HI.out.vals 8 (hd 8 Ou) Ov
       simp only[ig] at d8
       go_simp
       exact hK _ _ ⟨ig bk ok ring.length fc m p ring 9,by simp[bw,ig,d0,d8],HI.out.pure Ov rfl⟩
      ·refine Ob rfl (fun K hK=> ?_)
       have d9:=HI.out.vals 9 (hd 9 Ou) Ov
       simp only[ig] at d9
       obtain⟨y0,y1,y2,y3,y4,y5,y6⟩:=HC.out p hpl
       have c0:=(HI.out.ext.cell (p:=⟨bk,ok+p*7,N0⟩) HBK.out).trans y0
       have c1:=(HI.out.ext.cell (p:=⟨bk,ok+p*7+1,N0⟩) HBK.out).trans y1
       have c2:=(HI.out.ext.cell (p:=⟨bk,ok+p*7+2,N0⟩) HBK.out).trans y2
       have c3:=(HI.out.ext.cell (p:=⟨bk,ok+p*7+3,N0⟩) HBK.out).trans y3
       have c4:=(HI.out.ext.cell (p:=⟨bk,ok+p*7+4,N0⟩) HBK.out).trans y4
       have c5:=(HI.out.ext.cell (p:=⟨bk,ok+p*7+5,N0⟩) HBK.out).trans y5
       have c6:=(HI.out.ext.cell (p:=⟨bk,ok+p*7+6,N0⟩) HBK.out).trans y6
       clear y0 y1 y2 y3 y4 y5 y6
       go_simp
       exact hK _ _ ⟨ig bk ok ring.length fc m p ring 10,by simp[bw,ig,d9],HI.out.pure Ov rfl⟩
      ·refine Ob rfl (fun K hK=> ?_)
       go_simp
       exact hK _ _ ⟨ig bk ok ring.length fc m p ring 11,by simp[bw,ig],HI.out.pure Ov rfl⟩
      ·refine Ob rfl (fun K hK=> ?_)
       go_simp
       exact hK _ _ ⟨ig bk ok ring.length fc m p ring 12,by simp[bw,ig],HI.out.pure Ov rfl⟩
      ·refine Ob rfl (fun K hK=> ?_)
       have d11:=HI.out.vals 11 (hd 11 Ou) Ov
       simp only[ig] at d11
       have d12:=HI.out.vals 12 (hd 12 Ou) Ov
       simp only[ig] at d12
       go_simp
       exact hK _ _ ⟨ig bk ok ring.length fc m p ring 13,by simp[bw,ig,d11,d12],HI.out.pure Ov rfl⟩
      ·refine Ob rfl (fun K hK=> ?_)
       have d13:=HI.out.vals 13 (hd 13 Ou) Ov
       simp only[ig] at d13
       obtain⟨y0,y1,y2,y3,y4,y5,y6⟩:=HC.out m hlt2
       have c0:=(HI.out.ext.cell (p:=⟨bk,ok+m*7,N0⟩) HBK.out).trans y0
       have c1:=(HI.out.ext.cell (p:=⟨bk,ok+m*7+1,N0⟩) HBK.out).trans y1
       have c2:=(HI.out.ext.cell (p:=⟨bk,ok+m*7+2,N0⟩) HBK.out).trans y2
       have c3:=(HI.out.ext.cell (p:=⟨bk,ok+m*7+3,N0⟩) HBK.out).trans y3
       have c4:=(HI.out.ext.cell (p:=⟨bk,ok+m*7+4,N0⟩) HBK.out).trans y4
       have c5:=(HI.out.ext.cell (p:=⟨bk,ok+m*7+5,N0⟩) HBK.out).trans y5
       have c6:=(HI.out.ext.cell (p:=⟨bk,ok+m*7+6,N0⟩) HBK.out).trans y6
       clear y0 y1 y2 y3 y4 y5 y6
       go_simp
       exact hK _ _ ⟨ig bk ok ring.length fc m p ring 14,by simp[bw,ig,d13],HI.out.pure Ov rfl⟩
      ·refine Ob rfl (fun K hK=> ?_)
       go_simp
       exact hK _ _ ⟨_,rfl,HI.out.ND hL rfl rfl⟩
      ·refine Ob rfl (fun K hK=> ?_)
       go_simp
       exact hK _ _ ⟨_,rfl,HI.out.NK rfl⟩
      ·refine Ob rfl (fun K hK=> ?_)
       have d10:=HI.out.vals 10 (hd 10 Ou) Ov
       simp only[ig] at d10
       have h15:=hd 15 Ou
       obtain⟨pa,e15,_,hr,_⟩:=HI.out.a h15
       rw[if_neg (by rw[hL];decide)] at hr
       exact wp_store_row 36 (.tmp 7) (.tmp 35) rfl pa (jF (az ring p)).toArray e15 d10 36 _ hr Ou rfl Ou (hK _ _ ⟨N7,rfl,HI.out.store h15 e15⟩)
     case tail=>
      intro L vs W hL hI
      have v14:=hI.vals 14 (hL 14 Ot) Ov
      simp only[ig] at v14
      obtain⟨pa,e15,hpa,ra,hab⟩:=hI.a (hL 15 Ot)
      rw[if_pos (hL 17 Ot)] at ra
      obtain⟨pb,e16,hpb,rb⟩:=hI.b (hL 16 Ot)
      have hab:pa≠pb:=fun e=>hab (hL 16 Ot) (by rw[e16,e])
      have HD:=NW hI.ext
      have RA:=NW ra
      have RB:=NW rb
      clear hI ra rb
      simp only[v14,e15,e16,List.drop_succ_cons,List.drop_zero]
      clear v14 e15 e16
      have E2:=NW (ah HD.out hpb (jF (az ring m)).toArray)
      have RA2:=NW (show af (W.setRow pb (jF (az ring m)).toArray) pa 36 (jF (az ring p)) from(by
       have:(W.setRow pb (jF (az ring m)).toArray).heap[pa]?=W.heap[pa]?:=by simp only[World.setRow,Array.getElem?_modify];rw[if_neg (Ne.symm hab)]
       exact this.trans RA.out))
      have RB2:=NW (show af (W.setRow pb (jF (az ring m)).toArray) pb 36 (jF (az ring m)) from setRow_heap RB.out _)
      obtain⟨sa,hsa⟩:∃x,az ring p=x:=⟨_,rfl⟩
      obtain⟨sb,hsb⟩:∃x,az ring m=x:=⟨_,rfl⟩
      rw[hsa,hsb] at RA2
      rw[hsb] at RB2 E2
      rw[hsb]
      obtain⟨ax,ay,arise,arun,ag,apl,aov⟩:=sa
      obtain⟨bx,by',brise,brun,bg,bpl,bov⟩:=sb
      clear hsa hsb HC HQ1
      cases t with
      |true=>
       cases ag with
       |true=>
        go_wp2_with(first
         |(refine wpList_store_row rfl 36 _ _ rfl pb _ rfl rfl 36 _ RB.out Ou Ou Ou ?_)
         |(go_at_call 170;go_must(refine(KT.out _ (HX3.out.tr E2.out)).mono ?_);rintro x1 W3 ⟨rfl,hX4⟩;have HX4:=NW (Ext.tr E2.out hX4);have ca:=fun i=>(RA2.out.ext hX4).cell i;have cb:=fun i=>(RB2.out.ext hX4).cell i;clear hX4))
        go_ret
        exact⟨⟨_,rfl⟩,HX3.out.tr HX4.out⟩
       |false=>
        cases bg with
        |true=>
         go_wp2_with(first
          |(refine wpList_store_row rfl 36 _ _ rfl pb _ rfl rfl 36 _ RB.out Ou Ou Ou ?_)
          |(go_at_call 170;go_must(refine(KT.out _ (HX3.out.tr E2.out)).mono ?_);rintro x1 W3 ⟨rfl,hX4⟩;have HX4:=NW (Ext.tr E2.out hX4);have ca:=fun i=>(RA2.out.ext hX4).cell i;have cb:=fun i=>(RB2.out.ext hX4).cell i;clear hX4))
         go_ret
         exact⟨⟨_,rfl⟩,HX3.out.tr HX4.out⟩
        |false=>
         by_cases hap:apl=bpl
         ·subst hap
          cases o2 with
          |true=>
           go_wp2_with(first
            |(refine wpList_store_row rfl 36 _ _ rfl pb _ rfl rfl 36 _ RB.out Ou Ou Ou ?_)
            |(go_at_call 170;go_must(refine(KT.out _ (HX3.out.tr E2.out)).mono ?_);rintro x1 W3 ⟨rfl,hX4⟩;have HX4:=NW (Ext.tr E2.out hX4);have ca:=fun i=>(RA2.out.ext hX4).cell i;have cb:=fun i=>(RB2.out.ext hX4).cell i;clear hX4))
           go_round
           case rel=>exact⟨_,m+1,rfl,by go_num,Ot,HX3.out.tr HX4.out⟩
           case measure=>simp[Oh];omega
          |false=>
           go_wp2_with(first
            |(refine wpList_store_row rfl 36 _ _ rfl pb _ rfl rfl 36 _ RB.out Ou Ou Ou ?_)
            |(go_at_call 170;go_must(refine(KT.out _ (HX3.out.tr E2.out)).mono ?_);rintro x1 W3 ⟨rfl,hX4⟩;have HX4:=NW (Ext.tr E2.out hX4);have ca:=fun i=>(RA2.out.ext hX4).cell i;have cb:=fun i=>(RB2.out.ext hX4).cell i;clear hX4))
           go_round
           case rel=>exact⟨_,m+1,rfl,by go_num,Ot,HX3.out.tr HX4.out⟩
           case measure=>simp[Oh];omega
         ·have tp:(apl !=bpl)=Oc:=bne_iff_ne.2 hap
          clear hap
          go_wp2_with(first
           |(refine wpList_store_row rfl 36 _ _ rfl pb _ rfl rfl 36 _ RB.out Ou Ou Ou ?_)
           |(go_at_call 170;go_must(refine(KT.out _ (HX3.out.tr E2.out)).mono ?_);rintro x1 W3 ⟨rfl,hX4⟩;have HX4:=NW (Ext.tr E2.out hX4);have ca:=fun i=>(RA2.out.ext hX4).cell i;have cb:=fun i=>(RB2.out.ext hX4).cell i;clear hX4))
          go_ret
          exact⟨⟨_,rfl⟩,HX3.out.tr HX4.out⟩
      |false=>
       cases o2 with
       |true=>
        go_wp2_with(first
         |(with_reducible show wpList _ _ _ ({dst:=N3 45,op:=_,type:=_,pos:=_,after:=_,guard:=_}::_) _ _;refine wpList_skip Ou ?_)
         |(with_reducible show wpList _ _ _ ({dst:=N3 46,op:=_,type:=_,pos:=_,after:=_,guard:=_}::_) _ _;refine wpList_skip Ou ?_)
         |(with_reducible show wpList _ _ _ ({dst:=N3 47,op:=_,type:=_,pos:=_,after:=_,guard:=_}::_) _ _;refine wpList_skip Ou ?_)
         |(with_reducible show wpList _ _ _ ({dst:=N3 48,op:=_,type:=_,pos:=_,after:=_,guard:=_}::_) _ _;refine wpList_skip Ou ?_)
         |(with_reducible show wpList _ _ _ ({dst:=N3 49,op:=_,type:=_,pos:=_,after:=_,guard:=_}::_) _ _;refine wpList_skip Ou ?_)
         |(with_reducible show wpList _ _ _ ({dst:=N3 50,op:=_,type:=_,pos:=_,after:=_,guard:=_}::_) _ _;refine wpList_skip Ou ?_)
         |(with_reducible show wpList _ _ _ ({dst:=N3 51,op:=_,type:=_,pos:=_,after:=_,guard:=_}::_) _ _;refine wpList_skip Ou ?_)
         |(with_reducible show wpList _ _ _ ({dst:=N3 52,op:=_,type:=_,pos:=_,after:=_,guard:=_}::_) _ _;refine wpList_skip Ou ?_)
         |(with_reducible show wpList _ _ _ ({dst:=N3 53,op:=_,type:=_,pos:=_,after:=_,guard:=_}::_) _ _;refine wpList_skip Ou ?_)
         |(with_reducible show wpList _ _ _ ({dst:=N3 54,op:=_,type:=_,pos:=_,after:=_,guard:=_}::_) _ _;refine wpList_skip Ou ?_)
         |(with_reducible show wpList _ _ _ ({dst:=N3 55,op:=_,type:=_,pos:=_,after:=_,guard:=_}::_) _ _;refine wpList_skip Ou ?_)
         |(with_reducible show wpList _ _ _ ({dst:=N3 56,op:=_,type:=_,pos:=_,after:=_,guard:=_}::_) _ _;refine wpList_skip Ou ?_)
         |(with_reducible show wpList _ _ _ ({dst:=N3 57,op:=_,type:=_,pos:=_,after:=_,guard:=_}::_) _ _;refine wpList_skip Ou ?_)
         |(refine wpList_store_row rfl 36 _ _ rfl pb _ rfl rfl 36 _ RB.out Ou Ou Ou ?_)
         |(go_at_call 170;go_must(refine(KT.out _ (HX3.out.tr E2.out)).mono ?_);rintro x1 W3 ⟨rfl,hX4⟩;have HX4:=NW (Ext.tr E2.out hX4);have ca:=fun i=>(RA2.out.ext hX4).cell i;have cb:=fun i=>(RB2.out.ext hX4).cell i;clear hX4))
        go_round
        case rel=>exact⟨_,m+1,rfl,by go_num,Ot,HX3.out.tr HX4.out⟩
        case measure=>simp[Oh];omega
       |false=>
        go_wp2_with(first
         |(with_reducible show wpList _ _ _ ({dst:=N3 45,op:=_,type:=_,pos:=_,after:=_,guard:=_}::_) _ _;refine wpList_skip Ou ?_)
         |(with_reducible show wpList _ _ _ ({dst:=N3 46,op:=_,type:=_,pos:=_,after:=_,guard:=_}::_) _ _;refine wpList_skip Ou ?_)
         |(with_reducible show wpList _ _ _ ({dst:=N3 47,op:=_,type:=_,pos:=_,after:=_,guard:=_}::_) _ _;refine wpList_skip Ou ?_)
         |(with_reducible show wpList _ _ _ ({dst:=N3 48,op:=_,type:=_,pos:=_,after:=_,guard:=_}::_) _ _;refine wpList_skip Ou ?_)
         |(with_reducible show wpList _ _ _ ({dst:=N3 49,op:=_,type:=_,pos:=_,after:=_,guard:=_}::_) _ _;refine wpList_skip Ou ?_)
         |(with_reducible show wpList _ _ _ ({dst:=N3 50,op:=_,type:=_,pos:=_,after:=_,guard:=_}::_) _ _;refine wpList_skip Ou ?_)
         |(with_reducible show wpList _ _ _ ({dst:=N3 51,op:=_,type:=_,pos:=_,after:=_,guard:=_}::_) _ _;refine wpList_skip Ou ?_)
         |(with_reducible show wpList _ _ _ ({dst:=N3 52,op:=_,type:=_,pos:=_,after:=_,guard:=_}::_) _ _;refine wpList_skip Ou ?_)
         |(with_reducible show wpList _ _ _ ({dst:=N3 53,op:=_,type:=_,pos:=_,after:=_,guard:=_}::_) _ _;refine wpList_skip Ou ?_)
         |(with_reducible show wpList _ _ _ ({dst:=N3 54,op:=_,type:=_,pos:=_,after:=_,guard:=_}::_) _ _;refine wpList_skip Ou ?_)
         |(with_reducible show wpList _ _ _ ({dst:=N3 55,op:=_,type:=_,pos:=_,after:=_,guard:=_}::_) _ _;refine wpList_skip Ou ?_)
         |(with_reducible show wpList _ _ _ ({dst:=N3 56,op:=_,type:=_,pos:=_,after:=_,guard:=_}::_) _ _;refine wpList_skip Ou ?_)
         |(with_reducible show wpList _ _ _ ({dst:=N3 57,op:=_,type:=_,pos:=_,after:=_,guard:=_}::_) _ _;refine wpList_skip Ou ?_)
         |(refine wpList_store_row rfl 36 _ _ rfl pb _ rfl rfl 36 _ RB.out Ou Ou Ou ?_)
         |(go_at_call 170;go_must(refine(KT.out _ (HX3.out.tr E2.out)).mono ?_);rintro x1 W3 ⟨rfl,hX4⟩;have HX4:=NW (Ext.tr E2.out hX4);have ca:=fun i=>(RA2.out.ext hX4).cell i;have cb:=fun i=>(RB2.out.ext hX4).cell i;clear hX4))
        go_round
        case rel=>exact⟨_,m+1,rfl,by go_num,Ot,HX3.out.tr HX4.out⟩
        case measure=>simp[Oh];omega
    ·obtain rfl:m=ring.length:=Ot
     go_wp2
     exact⟨⟨o2,k+1,rfl,by go_num,Ot,HX3.out⟩,Oy⟩
  ·obtain rfl:k=rs.length:=Ot
   go_wp2
   go_ret
   exact⟨⟨_,rfl⟩,HX.out⟩
end
end Go.Proofs.YtnpihidbkhehjaaGreatDoor
