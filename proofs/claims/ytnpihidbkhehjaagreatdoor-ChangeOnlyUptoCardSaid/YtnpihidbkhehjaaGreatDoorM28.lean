/- ChangeOnly of kingpostlaw58: part 28 of its proof (merged and shortened by program). -/
import Derived.Laws.AppendOwnNone
import Derived.Test.YtnpihidbkhehjaaGreatDoorM27
set_option linter.unusedVariables false
set_option linter.unusedSimpArgs false
set_option linter.defProp false
set_option maxHeartbeats 8000000
set_option maxRecDepth 100000
open Go.RowKit Go.Shelf Go.Proofs.Tryz
open Array renaming getElem?_eq_some_iff→Od
open Bool renaming false→N1,true→Oc
open Go renaming World→NY,Value→N2,undef→N7,wpOp_step→Ob,Calls→Of,maxLen→Ol,TypeId→Oo
open Go.AllReady renaming cons→Oj,nil→Oq
open Go.IntKind renaming i64→Oe
open Go.IntWalk renaming i64_in→Om
open Go.Lib renaming hid→NW
open Go.RowKit renaming intOf→Oh,Below→On
open Go.World renaming size_alloc→Oi
open List renaming getD_eq_getElem?_getD→N8,length_map→N9,getElem?_eq_getElem→Oa
open Nat renaming le_refl→NZ,mul_comm→Og,le_trans→Ok
open Option renaming none→N0,some→N3
open Go.Proofs.YtnpihidbkhehjaaGreatDoor
namespace Kp
theorem J7{l:List Nat}{j x n:Nat}(hj:j<n)(hn:n≤l.length):S6 (fv (l.set j x)) n+fv l j*B6^j=S6 (fv l) n+x*B6^j:=by
 induction n with
 |zero=>omega
 |succ n ih=>
  rw[cO,cO]
  by_cases e:j=n
  ·subst e
   rw[eY Ot,if_pos rfl,gT (g:=fv l) (fun k hk=>by rw[eY Ot,if_neg Ot])]
   omega
  ·have:=ih Ot Ot
   rw[eY Ot,if_neg Ot]
   omega
theorem ij.set{l:List Nat}(h:ij l){j x:Nat}(hx:x<B6):ij (l.set j x):=by
 intro d hd
 rcases List.mem_or_eq_of_mem_set hd with h1|h1
 ·exact h d h1
 ·rw[h1];exact hx
theorem ij.Lx(n:Nat):ij (List.replicate n 0):=by
 intro d hd
 rw[List.eq_of_mem_replicate hd];decide
structure Af(a b:List Nat)(i k c:Nat)(out:List Nat):Prop where
 len:out.length=a.length+b.length+1
 small:ij out
 eq:S6 (fv out) (a.length+b.length+1)+c*B6^(i+k)=S6 (fv a) i*aA b+fv a i*B6^i*S6 (fv b) k
 carry:c≤1000000000000
structure Dt(b:List Nat):Prop where
 limb:∀k,fv b k<1000000000000
 val:aA b<B6^(b.length+1)
theorem ij.NH{b:List Nat}(h:ij b):Dt b:=
 ⟨fun k=>Nat.lt_trans (aw h k) Ov,Nat.lt_of_lt_of_le (uY h) (Nat.pow_le_pow_right Ov Ot)⟩
theorem Gz{g:Nat}(h:g<1000000000000):Dt [g]:=by
 refine⟨fun k=> ?_,?_⟩
 ·cases k with
  |zero=>exact h
  |succ k=>rw[ju Ow];decide
 ·show S6 (fv [g]) 1<B6^2
  simp[S6,fv];omega
theorem Af.next{a b:List Nat}{i k c:Nat}{out:List Nat}(h:Af a b i k c out)(ha:ij a)(hb:Dt b)(hk:i+k<a.length+b.length+1):
  Af a b i (k+1) ((fv out (i+k)+fv a i*fv b k+c)/1000000) (out.set (i+k) ((fv out (i+k)+fv a i*fv b k+c)%1000000)):=by
 obtain⟨len,small,eq,carry⟩:=h
 have h1:fv a i<1000000:=aw ha i
 have h2:fv out (i+k)<1000000:=aw small _
 have h3:=hb.limb k
 have h4:fv a i*fv b k≤999999*999999999999:=Nat.mul_le_mul Ot Ot
 obtain⟨n,hn⟩:∃n,fv out (i+k)+fv a i*fv b k+c=n:=⟨_,rfl⟩
 rw[hn]
 refine⟨by rw[List.length_set];exact len,small.set (Nat.mod_lt _ Ov),?_,Ot⟩
 have e:=J7 (l:=out) (j:=i+k) (x:=n%1000000) hk Ot
 have d:=Nat.div_add_mod n 1000000
 have e2:n/1000000*B6^(i+(k+1))=1000000*(n/1000000)*B6^(i+k):=by
  rw[←Nat.add_assoc,Nat.pow_succ,Og (B6^(i+k)) B6,←Nat.mul_assoc,Og _ B6]
 have e3:fv a i*B6^i*S6 (fv b) (k+1)=fv a i*B6^i*S6 (fv b) k+fv a i*fv b k*B6^(i+k):=by
  rw[cO,Nat.mul_add,Nat.pow_add]
  congr 1
  rw[Og (fv b k),Nat.mul_assoc,←Nat.mul_assoc (B6^i),Og _ (fv b k),←Nat.mul_assoc]
 rw[e2,e3]
 have e4:n*B6^(i+k)=1000000*(n/1000000)*B6^(i+k)+n%1000000*B6^(i+k):=by rw[←Nat.add_mul,d]
 have e5:n*B6^(i+k)=fv out (i+k)*B6^(i+k)+fv a i*fv b k*B6^(i+k)+c*B6^(i+k):=by rw[←hn,Nat.add_mul,Nat.add_mul]
 omega
theorem Af.inside{a b:List Nat}{i k c:Nat}{out:List Nat}(h:Af a b i k c out)(ha:ij a)(hb:Dt b)(hi:i<a.length)(hk:b.length≤k)(hc:0<c):i+k<a.length+b.length+1:=by
 rcases Nat.lt_or_ge (i+k) (a.length+b.length+1) with h1|h1
 ·exact h1
 exfalso
 have eq:=h.eq
 rw[gU hk,←Nat.add_mul,←cO] at eq
 have h2:S6 (fv a) (i+1)<B6^(i+1):=AZ (fun k _=>aw ha k)
 have h3:S6 (fv a) (i+1)*aA b<B6^(i+1)*B6^(b.length+1):=Nat.mul_lt_mul'' h2 hb.val
 rw[←Nat.pow_add] at h3
 have h4:B6^(i+1+(b.length+1))≤B6^(i+k):=Nat.pow_le_pow_right Ov Ot
 have h5:1*B6^(i+k)≤c*B6^(i+k):=Nat.mul_le_mul_right _ hc
 omega
theorem Af.row{a b:List Nat}{i k:Nat}{out:List Nat}(h:Af a b i k 0 out)(hk:b.length≤k):Af a b (i+1) 0 0 out:=by
 refine⟨h.len,h.small,?_,Ot⟩
 have eq:=h.eq
 rw[gU hk,←Nat.add_mul,←cO] at eq
 simp only[Nat.zero_mul,Nat.add_zero] at eq⊢
 rw[eq];simp[S6]
theorem Af.start(a b:List Nat):Af a b 0 0 0 (List.replicate (a.length+b.length+1) 0):=
 ⟨Ow,ij.Lx _,by rw[pd (fun k _=>iU _ k)];simp[S6],Ot⟩
theorem Af.done{a b:List Nat}{out:List Nat}(h:Af a b a.length 0 0 out):aA out=aA a*aA b:=by
 have:=h.eq
 rw[ju (NZ _)] at this
 simp only[Nat.zero_mul,Nat.add_zero] at this
 unfold aA
 rw[h.len,this];rfl
theorem js{r b:List Nat}(hr:aT r)(hb:ij b)(h:aA r≤aA b):r.length≤b.length:=by
 rcases Nat.lt_or_ge b.length r.length with hlt|hge
 ·have:=eZ hb hr.trim hlt;omega
 ·exact hge
theorem MP{b r:List Nat}{m:Nat}(hb:ij b)(hl:b.length=m+2)(hrl:r.length≤m+3):
  ((fv r (m+2)*1000000+fv r (m+1))*1000000+fv r m)/(fv b (m+1)*1000000+fv b m+1)*aA b≤aA r:=by
 have e1:aA r=S6 (fv r) (m+3):=(gU hrl).symm
 have e2:aA b=S6 (fv b) (m+2):=by unfold aA;rw[hl]
 rw[e1,e2]
 simp only[cO]
 have h0:S6 (fv b) m<B6^m:=AZ (fun k _=>aw hb k)
 obtain⟨t,ht⟩:∃t,fv b (m+1)*1000000+fv b m+1=t:=⟨_,rfl⟩
 obtain⟨u,hu⟩:∃u,(fv r (m+2)*1000000+fv r (m+1))*1000000+fv r m=u:=⟨_,rfl⟩
 rw[ht,hu]
 have h1:S6 (fv b) m+fv b m*B6^m+fv b (m+1)*B6^(m+1)≤t*B6^m:=by
  rw[←ht,Nat.pow_succ,Nat.add_mul,Nat.add_mul,Nat.one_mul,Og (B6^m) B6,←Nat.mul_assoc]
  have:fv b (m+1)*B6*B6^m=fv b (m+1)*1000000*B6^m:=rfl
  omega
 have h2:u*B6^m≤S6 (fv r) m+fv r m*B6^m+fv r (m+1)*B6^(m+1)+fv r (m+2)*B6^(m+2):=by
  have e3:fv r (m+1)*B6^(m+1)=fv r (m+1)*1000000*B6^m:=by rw[Nat.pow_succ,Og (B6^m) B6,←Nat.mul_assoc]
  have e4:fv r (m+2)*B6^(m+2)=fv r (m+2)*1000000*1000000*B6^m:=by
   rw[Nat.pow_succ,Nat.pow_succ,Og (B6^m*B6) B6,Og (B6^m) B6,←Nat.mul_assoc,←Nat.mul_assoc]
  rw[e3,e4,←hu,Nat.add_mul,Nat.add_mul,Nat.add_mul]
  omega
 have h3:u/t*t≤u:=Nat.div_mul_le_self _ _
 refine Ok (Nat.mul_le_mul_left _ h1) (Ok ?_ h2)
 rw[←Nat.mul_assoc]
 exact Nat.mul_le_mul_right _ h3
theorem mO(x:Nat)(l:List Nat):aA (x::l)=x+1000000*aA l:=by
 unfold aA
 rw[List.length_cons,Nat.add_comm l.length 1,sS]
 have:S6 (fun k=>fv (x::l) (1+k)) l.length=S6 (fv l) l.length:=gT (fun k _=>by unfold fv;rw[Nat.add_comm];rfl)
 rw[this]
 simp[S6,fv]
theorem J3{z V R l:Nat}(h:l+z*V=R)(hR:R<1000000*V):z<1000000:=by
 rcases Nat.lt_or_ge z 1000000 with h1|h1
 ·exact h1
 ·have:=Nat.mul_le_mul_right V h1;omega
end Kp
namespace Go.Proofs.YtnpihidbkhehjaaGreatDoor
section
open Kp
def JM(w1:NY)(g:Nat)(a b:List Nat)(i k:Nat)(c:N2)(w':NY):Prop:=
 ∃(cN:Nat) (out:List Nat),c= .int .i64 (cN:Int)∧Row w' g (a.length+b.length+1) out∧Af a b i k cN out∧cV g w1 w'
def Jm(w1:NY)(g:Nat)(a b:List Nat)(i:N2)(w':NY):Prop:=∃k:Nat,k≤a.length∧i= .int .i64 (k:Int)∧JM w1 g a b k 0 (.int .i64 0) w'
def I4(w1:NY)(g:Nat)(a b:List Nat)(i:Nat)(c k:N2)(w':NY):Prop:=∃n:Nat,n≤a.length+b.length+1∧k= .int .i64 (n:Int)∧JM w1 g a b i n c w'
theorem nr(w:NY)(a b:List Nat)(va vb:N2)(ha:aR w w.heap.size va a)(hb:aR w w.heap.size vb b)(hsa:ij a)(hfb:Dt b)(hla:a.length≤1000000)(hlb:b.length≤1000000):
  Of prog 307 #[va,vb] w (qY (fun l=>aA l=aA a*aA b∧l.length≤a.length+b.length+1) w):=by
 obtain⟨A,ca,rfl,ha1,ha2,hac⟩:=id ha
 obtain⟨A',cb,rfl,hb1,hb2,hbc⟩:=id hb
 unfold Ol at ha2 hb2
 obtain⟨i0,hi,hz0,hz1,hz2⟩:=info_parts dW
 have FB:=NW hfb
 go_enter func307,ntmps307
 go_wp2_with(at_make;refine wpList_make_full _ rfl _ _ 25 rfl w.heap.size 3 i0 (.int .i64 0) 1 underlying25 hi hz0 hz1 .i64 .i64 _ _ (a.length+b.length+1) rfl rfl Ot Ot PQ OE (NZ _) ?_;intro w1 hown hgrow)
 have hrow:=il hown
 have hbel:On w.heap.size w w1:=(Below.refl _ w).grown hgrow (NZ _) Ow
 have sa1:=ha.below hbel
 have sb1:=hb.below hbel
 have HS:=NW (show JM w1 w.heap.size a b 0 0 (.int .i64 0) w1 from⟨0,_,rfl,hrow,Af.start a b,cV.refl _ _⟩)
 have HBEL:=NW hbel
 clear hown hgrow hrow ha hb hi hz0 hz1 hz2 hac hbc hbel hfb
 go_loopw [6] (fun i wr=>Jm w1 w.heap.size a b i wr) (fun i _=>a.length-(Oh i).toNat)
 case atStart=>exact⟨0,Ot,rfl,HS.out⟩
 case round=>
  obtain⟨i,hi,rfl,cN,out,e0,hR,hT,hO⟩:=hrel
  have HR:=NW hR
  have HT:=NW hT
  have HO:=NW hO
  obtain⟨cN0,hcN0⟩:∃c:Nat,c=0:=⟨0,rfl⟩
  obtain rfl:cN=0:=by injection e0 with _ e;omega
  clear hT hR e0 cN0 hcN0
  by_cases hlt:i<a.length
  ·clear hO
   go_wp2_with fail
   go_loopw [7,8] (fun c k wi=>I4 w1 w.heap.size a b i c k wi) (fun _ k _=>a.length+b.length+2-(Oh k).toNat)
   case atStart=>exact⟨0,Ot,rfl,0,out,rfl,HR.out,HT.out,HO.out⟩
   case round=>
    obtain⟨k,hk,rfl,c,u',rfl,hR,hT,hO⟩:=hrel
    have hc12:=hT.carry
    have HT2:=NW hT
    by_cases hgo:k<b.length∨0<c
    ·have hin:i+k<a.length+b.length+1:=by
      by_cases h:k<b.length
      ·omega
      ·exact HT2.out.inside hsa FB.out hlt Ot Ot
     have sa:=hO.sl sa1 (NZ _)
     have sb:=hO.sl sb1 (NZ _)
     have hxa:fv a i<1000000:=aw hsa i
     obtain⟨_,_,e,_,_,hac⟩:=sa
     injection e with e1 e2 e3
     clear e2
     subst e1 e3
     obtain⟨ba,oa,rfl,_,hcell⟩:=hac Ot
     have hc:=hcell i hlt
     have hx:=hR.cell (j:=i+k) (by rw[hT.len];omega)
     have hfr:=hR.frozen (i+k)
     have hub:fv u' (i+k)<1000000:=aw hT.small (i+k)
     have hvb:=FB.out.limb k
     have hq:fv a i*fv b k≤999999*999999999999:=Nat.mul_le_mul Ot Ot
     have hqi:0≤(fv a i:Int)*(fv b k:Int)∧(fv a i:Int)*(fv b k:Int)≤999998999999000001:=by
      rw[show(fv a i:Int)*(fv b k:Int)=((fv a i*fv b k:Nat):Int) by simp];omega
     obtain⟨hp0,ja⟩:=hqi
     have HN:=NW (fun m=>(⟨k+1,Ot,rfl,_,_,rfl,(hR.drewN m).set (j:=i+k) (by rw[hT.len];omega) _,hT.next hsa FB.out hin,(hO.drewN m).set _ _⟩:I4 w1 w.heap.size a b i _ (.int .i64 ((k+1:Nat):Int)) _))
     have w1:Oe.wrap ((i:Int)+k)=i+k:=bI Ot Ot
     have w1a:0≤(i:Int)+k:=Ot
     have w1b:((i:Int)+k).toNat=i+k:=Ot
     have w1c:(i:Int)+k<a.length+b.length+1:=Ot
     have w3:Oe.wrap ((fv a i:Int)*(fv b k:Int))=fv a i*fv b k:=bI Ot Ot
     have w2:Oe.wrap ((fv u' (i+k):Int)+(fv a i:Int)*(fv b k:Int))=fv u' (i+k)+fv a i*fv b k:=bI Ot Ot
     have w4:Oe.wrap ((fv u' (i+k):Int)+(fv a i:Int)*(fv b k:Int)+c)=fv u' (i+k)+fv a i*fv b k+c:=bI Ot Ot
     have hkb:k≤4000000:=Ot
     clear hcell hac hR hT hO hin HT2 hq
     obtain⟨tb,htb⟩:∃t,decide (k<b.length)=t:=⟨_,rfl⟩
     have htc:tb=N1→decide (0<c)=Oc:=by
      intro h1
      subst h1
      rw[decide_eq_false_iff_not] at htb
      rw[decide_eq_true_eq];omega
     have HTC:=NW htc
     clear htc hgo
     cases tb with
     |false=>
      have tc:=HTC.out rfl
      have tc2:decide (0<(c:Int))=Oc:=by rw[decide_eq_true_eq] at tc⊢;omega
      go_wp2_with fail
      go_quiet ((go_at_call 305;exact Calls.quiet_of_same (qa _ w.heap.size _ b k sb Ot)))
      go_wp2
      have ep:((fv a i:Int)*(fv b k:Int))=((fv a i*fv b k:Nat):Int):=Ow
      rw[ep] at ja⊢
      have e1:((fv u' (i+k):Int)+((fv a i*fv b k:Nat):Int)+c)/1000000=(((fv u' (i+k)+fv a i*fv b k+c)/1000000:Nat):Int):=Ot
      have e2:((fv u' (i+k):Int)+((fv a i*fv b k:Nat):Int)+c)%1000000=(((fv u' (i+k)+fv a i*fv b k+c)%1000000:Nat):Int):=Ot
      rw[e1,e2]
      exact⟨HN.out _,Oy⟩
     |true=>
      go_wp2_with fail
      go_quiet ((go_at_call 305;exact Calls.quiet_of_same (qa _ w.heap.size _ b k sb Ot)))
      go_wp2
      have ep:((fv a i:Int)*(fv b k:Int))=((fv a i*fv b k:Nat):Int):=Ow
      rw[ep] at ja⊢
      have e1:((fv u' (i+k):Int)+((fv a i*fv b k:Nat):Int)+c)/1000000=(((fv u' (i+k)+fv a i*fv b k+c)/1000000:Nat):Int):=Ot
      have e2:((fv u' (i+k):Int)+((fv a i*fv b k:Nat):Int)+c)%1000000=(((fv u' (i+k)+fv a i*fv b k+c)%1000000:Nat):Int):=Ot
      rw[e1,e2]
      exact⟨HN.out _,Oy⟩
    ·obtain rfl:c=0:=Ot
     have HNX:=NW (⟨i+1,Ot,rfl,0,u',rfl,hR,hT.row Ot,hO⟩:Jm w1 w.heap.size a b (.int .i64 ((i+1:Nat):Int)) wr)
     have g1:¬k<b.length:=Ot
     clear hgo hT hR hO
     go_wp2_with fail
     exact⟨HNX.out,Oy⟩
  ·obtain rfl:i=a.length:=Ot
   have hl:=HT.out.len
   have hfin:qY (fun l=>aA l=aA a*aA b∧l.length≤a.length+b.length+1) w (.returned (FN (.slice (N3 ⟨w.heap.size,0,N0⟩) out.length (a.length+b.length+1)) out)) wr:=by
    have hsl:=HR.out.sl HR.out.lt
    exact⟨_,aj out,rfl,hsl.trimmed,dE HT.out.small,⟨by rw[ft];exact HT.out.done,Ok (aI _) Ot⟩,HBEL.out.trans (hO.below (NZ _)),ya.tr (fun A n c e=>by injection e with e1 _ e3;subst e1;exact⟨fun h=>Ox,fun _ h=>(by injection h with h;subst h;exact NZ _)⟩) _⟩
   have HF:=NW hfin
   have CT:=NW (dD wr _ _ out (HR.out.sl HR.out.lt))
   rw[hl] at CT HF
   clear hfin hO hl
   go_wp2_with(go_at_call 303;refine CT.out.mono ?_;rintro e w' ⟨rfl,rfl⟩)
   go_ret
   exact HF.out
end
section
open Kp
def vF(X V:Nat)(w:NY)(e:Ending)(w':NY):Prop:=∃vq vr l,e= .returned (.tuple #[vq,vr])∧aR w' w'.heap.size vr l∧aT l∧aA l=X%V∧Ext w w'
def Jl(a:List Nat)(k:Nat):Nat:=aA (a.drop k)
theorem vB{a:List Nat}{k:Nat}(h:k<a.length):Jl a k=fv a k+1000000*Jl a (k+1):=by
 unfold Jl
 rw[List.drop_eq_getElem_cons h,mO,jA h]
theorem zV(a:List Nat):Jl a a.length=0:=by unfold Jl;rw[List.drop_length];rfl
theorem wZ(x h d:Nat):
  (h%d*1000000+x)%d=(x+1000000*h)%d:=by
 rw[Nat.add_comm,Nat.add_mod,Nat.mod_mul_mod,Og h,←Nat.add_mod]
def Jy(w1:NY)(a:List Nat)(g n d:Nat)(r i:N2)(w':NY):Prop:=∃(k rN:Nat) (q:List Nat),k≤n∧i= .int .i64 ((k:Int)-1)∧r= .int .i64 (rN:Int)∧rN<d∧rN=Jl a k%d∧q.length=n∧Row w' g n q∧cV g w1 w'
theorem jL(r:Nat):aA [r]=r:=by simp[aA,S6,fv]
theorem Ly{a r d:Nat}(h1:a<1000000)(h2:r<1000000)(h3:1≤d):Oe.wrap (((r:Int)*1000000+(a:Int)).tdiv d)=(((r*1000000+a)/d:Nat):Int):=by
 rw[IntWalk.i64_quo _ _ ⟨Ot,Ot,Ot⟩];simp
theorem K8{a r d:Nat}:((r:Int)*1000000+(a:Int)).tmod d=(((r*1000000+a)%d:Nat):Int):=by
 rw[IntWalk.rem_in _ _ Ot];simp
theorem wO(w:NY)(a:List Nat)(va:N2)(d:Nat)(ha:aR w w.heap.size va a)(hsa:ij a)(hd0:1≤d)(hd1:d<1000000)(hla:a.length≤1000000):
  Of prog 304 #[va,.int .i64 (d:Int)] w (vF (aA a) d w):=by
 obtain⟨A,ca,rfl,ha1,ha2,hac⟩:=id ha
 unfold Ol at ha2
 obtain⟨i0,hi,hz0,hz1,hz2⟩:=info_parts dW
 obtain⟨n,hn⟩:∃n,a.length=n:=⟨_,rfl⟩
 rw[hn] at ha1 hla⊢
 go_enter func304,ntmps304
 go_wp2_with(at_make;refine wpList_make_full _ rfl _ _ 25 rfl w.heap.size 3 i0 (.int .i64 0) 1 underlying25 hi hz0 hz1 .i64 .i64 _ _ n rfl rfl Ot Ot PQ OE (NZ _) ?_;intro w1 hown hgrow)
 have hrow:=il hown
 have hbel:On w.heap.size w w1:=(Below.refl _ w).grown hgrow (NZ _) Ow
 have sa1:=ha.below hbel
 have HN:=NW hn
 have HS:=NW (show Jy w1 a w.heap.size n d (.int .i64 0) (.int .i64 ((n:Int)-1)) w1 from⟨n,0,_,NZ _,rfl,rfl,Ot,by rw[←hn,zV,Nat.zero_mod],Ow,hrow,cV.refl _ _⟩)
 have HBEL:=NW hbel
 clear hown hgrow hrow ha hi hz0 hz1 hz2 hac hbel hn
 go_loopw [7,8] (fun r i wr=>Jy w1 a w.heap.size n d r i wr) (fun _ i _=>(Oh i+1).toNat)
 case atStart=>exact HS.out
 case round=>
  obtain⟨k,r,q,hk,rfl,rfl,hr,hrv,hql,hR,hO⟩:=hrel
  have HRV:=NW hrv
  clear hrv
  have HR:=NW hR
  have HO:=NW hO
  have HQL:=NW hql
  rcases k with _|k
  ·have hr1:ij [r]:=by
    intro x hx
    have e:x=r:=by simpa using hx
    rw[e];show r<1000000;omega
   have CT1:=NW (dD wr wr.heap.size _ q (hR.sl hR.lt))
   rw[hql] at CT1
   have r1:=row_one wr r
   have CT2:=NW (show Of prog 303 #[.slice (N3 ⟨wr.heap.size,0,N0⟩) 1 1] (wr.alloc (.cells #[.int .i64 (r:Int)] 3)) _ from dD _ _ _ [r] (r1.sl r1.lt))
   have HP:=NW (show∀vq,vF (aA a) d w (.returned (.tuple #[vq,FN (.slice (N3 ⟨wr.heap.size,0,N0⟩) 1 1) [r]])) (wr.alloc (.cells #[.int .i64 (r:Int)] 3)) from fun vq=>
    ⟨vq,_,aj [r],rfl,(r1.sl r1.lt).trimmed,dE hr1,by rw[ft,jL];exact HRV.out,(HBEL.out.trans (hO.below (NZ _))).alloc (HBEL.out.trans (hO.below (NZ _))).size _⟩)
   clear hR hO hql r1 hr1
   go_wp2_with(go_at_call 303;first|((with_reducible refine CT1.out.mono ?_);rintro e W1 ⟨rfl,rfl⟩)|((with_reducible refine CT2.out.mono ?_);rintro e W1 ⟨rfl,rfl⟩))
   go_ret2
   exact HP.out _
  ·have sa:=hO.sl sa1 (NZ _)
   have hxa:fv a k<1000000:=aw hsa k
   obtain⟨_,_,e,_,_,hac⟩:=sa
   injection e with e1 e2 e3
   clear e2
   subst e1 e3
   obtain⟨ba,oa,rfl,_,hcell⟩:=hac O9
   have hc:=hcell k O9
   have hx:=hR.cell (j:=k) Ot
   have hfr:=hR.frozen k
   have hrb:r<1000000:=Ot
   obtain⟨x,hxx⟩:∃x,fv a k=x:=⟨_,rfl⟩
   obtain⟨y,hyy⟩:∃y,fv q k=y:=⟨_,rfl⟩
   rw[hxx] at hc hxa
   have HXX:=NW hxx
   rw[hyy] at hx
   have ek:((k+1:Nat):Int)-1=(k:Int):=Ot
   rw[ek]
   have hrd:r*1000000<1000000000000:=Ot
   have hnz:¬d=0:=Ot
   have w6:=Ly (a:=x) hxa hrb hd0
   have w7:=K8 (a:=x) (r:=r) (d:=d)
   have HP:=NW (show∀z m,(r*1000000+x)%d=m→Jy w1 a w.heap.size n d (.int .i64 (m:Int)) (.int .i64 ((k:Int)-1)) (wr.setCell ⟨w.heap.size,k,N0⟩ (.int .i64 (z:Nat))) from fun z m e=>⟨k,m,_,Ot,rfl,rfl,by rw[←e];exact Nat.mod_lt _ Ot,by rw[←e,HRV.out,wZ,vB (a:=a) (k:=k) O9,HXX.out],by rw[List.length_set];exact HQL.out,HR.out.set (by have:=HQL.out;omega) z,HO.out.set _ _⟩)
   obtain⟨m,hm⟩:∃m,(r*1000000+x)%d=m:=⟨_,rfl⟩
   obtain⟨z,hz⟩:∃m,(r*1000000+x)/d=m:=⟨_,rfl⟩
   rw[hz] at w6
   rw[hm] at w7
   have HP2:=NW (HP.out z m hm)
   clear hcell hac hR hO hql hxx hyy hm hz HP
   go_wp2
   exact⟨HP2.out,by simp[Oh]⟩
end
section
open Kp
theorem Bn.ext{w w':NY}{g:Nat}{v:N2}{l:List Nat}(h:Bn w g v l)(hx:Ext w w'):Bn w' g v l:=by
 obtain⟨A,cap,rfl,h1,h2,hc⟩:=h
 refine⟨A,cap,rfl,h1,h2,fun hn=> ?_⟩
 obtain⟨b,off,e,hb,hcell⟩:=hc hn
 exact⟨b,off,e,hb,fun j hj=>(hx.cell (vg (hcell j hj))).trans (hcell j hj)⟩
theorem aR.fresh{w:NY}{b0 z g:Nat}{v:N2}{l:List Nat}(h:aR w b0 v l)(hf:ya z v)(hg:g<z):Bn w g v l:=by
 obtain⟨A,cap,rfl,h1,h2,hc⟩:=h
 refine⟨A,cap,rfl,h1,h2,fun hn=> ?_⟩
 obtain⟨b,off,e,hb,hcell⟩:=hc hn
 exact⟨b,off,e,by have:=(hf _ _ _ rfl).2 _ e;simp at this;omega,hcell⟩
structure EY(g n:Nat)(v:N2)(l:List Nat)(w:NY):Prop where
 sl:Bn w g v l
 canon:aT l
 len:l.length≤n
 nil:∀m c,v= .slice N0 m c→c=0
theorem EY.ext{g n:Nat}{v:N2}{l:List Nat}{w w':NY}(h:EY g n v l w)(hx:Ext w w'):EY g n v l w':=⟨h.sl.ext hx,h.canon,h.len,h.nil⟩
def yr(w:NY)(g n:Nat)(wr:NY):Prop:=∃q:List Nat,q.length=n∧Row wr g n q∧On w.heap.size w wr
theorem yr.ext{w:NY}{g n:Nat}{wr w':NY}(h:yr w g n wr)(hx:Ext wr w'):yr w g n w':=by
 obtain⟨q,h1,h2,h3⟩:=h
 exact⟨q,h1,h2.below hx h2.lt,h3.trans (hx.mono h3.size)⟩
theorem yr.lt{w:NY}{g n:Nat}{wr:NY}(h:yr w g n wr):g<wr.heap.size:=by
 obtain⟨q,_,h2,_⟩:=h;exact h2.lt
def Ma(w:NY)(a:List Nat)(g n m V:Nat)(r i:N2)(wr:NY):Prop:=∃(k:Nat) (l:List Nat),k≤n∧i= .int .i64 ((k:Int)-1)∧EY g m r l wr∧aA l=Jl a k%V∧yr w g n wr
def Jg(w:NY)(g n m V R:Nat)(r z:N2)(wr:NY):Prop:=∃(zN:Nat) (l:List Nat),z= .int .i64 (zN:Int)∧EY g (m+1) r l wr∧aA l+zN*V=R∧yr w g n wr
def Aq(v:N2)(w:NY):Nat:=
 match v with
 | .slice (N3 a) n _=>S6 (fun j=>match w.cell? ⟨a.block,a.off+j,N0⟩ with|some (.int _ x)=>x.toNat|_=>0) n
 |_=>0
theorem lI{w:NY}{b0:Nat}{v:N2}{l:List Nat}(h:aR w b0 v l):Aq v w=aA l:=by
 obtain⟨A,cap,rfl,_,_,hc⟩:=h
 by_cases hl:0<l.length
 ·obtain⟨b,off,rfl,_,hcell⟩:=hc hl
  unfold Aq aA
  refine gT (fun j hj=> ?_)
  simp only
  rw[hcell j hj];simp
 ·have:l=[]:=PO
  subst this
  cases A<;>rfl
theorem MV{t u z:Nat}(h1:u<1000000000000000000)(h3:1≤t)(hz:u/t=z):Oe.wrap ((u:Int).tdiv (t:Int))=(z:Int):=by
 rw[IntWalk.i64_quo _ _ ⟨Ot,Ot,Ot⟩,←hz];simp
theorem IK(w:NY)(x:Nat):(w.alloc (.cells #[.int .i64 (x:Int)] 3)).ownsRow w.heap.size 3 1 (.slice (N3 ⟨w.heap.size,0,N0⟩) 1 1) 1 [.int .i64 (x:Int)]:=
 ⟨rfl,.inr ⟨w.heap.size,1,#[.int .i64 (x:Int)],rfl,NZ _,NY.alloc_heap_new w _,NZ _,OE,rfl,rfl⟩⟩
theorem Lg(W:NY){ops:Array Oper}{rest:List Oper}{o:Oper}{a:Act}{Q:Exit→Act→NY→Prop}(hgd:o.guard=N0)(s x:Operand)(ho:o.op= .call {callee:= .builtin .append,args:=#[s,x],argTypes:=#[25,25]})
  (wr:NY)(d:Nat)(hW:W=wr.alloc (.cells #[.int .i64 (d:Int)] 3))(hs:a.eval s= .slice (N3 ⟨wr.heap.size,0,N0⟩) 1 1){b0:Nat}{vx:N2}{l:List Nat}(hx:a.eval x=vx)(hl:aR W b0 vx l)(hnil:∀m c,vx= .slice N0 m c→c=0)(hn:l.length≤10000000)
  (h:∀v' w',aR w' w'.heap.size v' (d::l)→ya wr.heap.size v'→Ext wr w'→wpList prog ops Q rest (a.put o.dst v') w'):wpList prog ops Q (o::rest) a W:=by
 subst hW
 obtain⟨i0,hi,hz0,hz1,hz2⟩:=info_parts dW
 have hown:=IK wr d
 have hxw:Ext wr (wr.alloc (.cells #[.int .i64 (d:Int)] 3)):=(Below.refl _ _).alloc (NZ _) _
 have fin:∀v' w',w'.ownsRow wr.heap.size 3 1 v' (1+l.length) ([.int .i64 (d:Int)]++oo l)→(wr.alloc (.cells #[.int .i64 (d:Int)] 3)).grownBy w' (N3 wr.heap.size)→wpList prog ops Q rest (a.put o.dst v') w':=by
  intro v' w' ho hg
  exact h v' w' (dX (l:=d::l) ho OB) (zM ho) (eM hxw hg (fun k e=>by injection e with e;omega))
 obtain⟨A,cap,rfl,h1,h2,hc⟩:=hl
 cases A with
 |none=>
  have e0:=hnil _ _ rfl
  obtain rfl:l=[]:=by
   cases l with
   |nil=>rfl
   |cons y l=>obtain⟨_,_,e,_⟩:=hc Ow;cases e
  subst e0
  exact wpList_append_own_none hgd s x 25 ho wr.heap.size 3 i0 1 underlying25 hi _ 1 _ hs hown hx (fin _ _ hown (NY.grownBy.refl _ _))
 |some ad=>
  refine wpList_append_own _ hgd s x 25 ho wr.heap.size 3 i0 (.int .i64 0) 1 8 underlying25 hi hz0 hz1 hz2 rfl Ot _ 1 _ hs hown ad l.length cap (oo l) hx (by unfold oo;simp) ?_ ?_ OE Ot Ow (fun v' w' h1 h2 _=>fin v' w' h1 h2)
  ·intro j u hj
   have hlt:j<l.length:=by
    have:=(List.getElem?_eq_some_iff.1 hj).1
    unfold oo at this;simpa using this
   obtain⟨b,off,e,_,hcell⟩:=hc Ot
   obtain rfl:ad=⟨b,off,N0⟩:=Option.some.inj e
   rw[Addr.add_lit,hcell j hlt]
   rw[←hj];unfold oo;rw[List.getElem?_map,Oa hlt,jA hlt];rfl
  ·intro u hu
   unfold oo at hu
   obtain⟨y,_,rfl⟩:=List.mem_map.1 hu
   rfl
theorem oI(w:NY)(b0:Nat)(v:N2)(l:List Nat)(z:Int)(i p:Nat)(h:aR w b0 v l)(hp:fv l i=p)(hz:z=i)(hi:i≤4611686018427387904):
  Of prog 305 #[v,.int .i64 z] w fun e w'=>e= .returned (.int .i64 p)∧w=w':=by
 subst hz hp;exact jf w b0 v l i h hi
theorem aR.eq{w:NY}{b0:Nat}{v v':N2}{l:List Nat}(h:aR w b0 v l)(e:v=v'):aR w b0 v' l:=e▸h
theorem qy(w:NY)(a b:List Nat)(va vb:N2)(ha:aR w w.heap.size va a)(hb:aR w w.heap.size vb b)(hsa:ij a)(hcb:aT b)(hla:a.length≤100000)(hlb:b.length≤100000)(m:Nat)(hm:b.length=m+2):
  Of prog 272 #[va,vb] w (vF (aA a) (aA b) w):=by
 obtain⟨A,ca,rfl,ha1,ha2,hac⟩:=id ha
 obtain⟨A',cb,rfl,hb1,hb2,hbc⟩:=id hb
 obtain⟨bb,ob,rfl,_,hbcell⟩:=hbc Ot
 unfold Ol at ha2 hb2
 obtain⟨i0,hi,hz0,hz1,hz2⟩:=info_parts dW
 have I0:=NW hi
 have I1:=NW hz0
 have I2:=NW hz1
 have I3:=NW hz2
 obtain⟨n,hn⟩:∃n,a.length=n:=⟨_,rfl⟩
 rw[hn] at ha1 hla⊢
 rw[hm]
 rw[hm] at hb1 hlb
 have hy0:=hbcell m Ot
 have hy1:=hbcell (m+1) Ot
 have hs0:fv b m<1000000:=aw hcb.small m
 have hs1:fv b (m+1)<1000000:=aw hcb.small (m+1)
 have HA:=NW ha
 have HB:=NW (hb.eq (v':= .slice (N3 ⟨bb,ob,N0⟩) (m+2) cb) (by rw[hm]))
 have hy1p:1≤fv b (m+1):=Nat.pos_of_ne_zero (hcb.trim _ (by rw[List.getLast?_eq_getElem?,hm];show b[m+1]?=_;rw[Oa Ot,jA Ot]))
 have HN:=NW hn
 have HM:=NW hm
 have HE:=NW (fun r (h:r.length≤m+3)=>MP (r:=r) hcb.small hm h)
 have HV0:=NW (oD hcb.trim (by intro h;rw[h] at hm;simp at hm))
 obtain⟨y0,hyy0⟩:∃y,fv b m=y:=⟨_,rfl⟩
 obtain⟨y1,hyy1⟩:∃y,fv b (m+1)=y:=⟨_,rfl⟩
 simp only[hyy0,hyy1] at hy0 hy1 hs0 hs1 hy1p HE
 have e1:((m+2:Nat):Int)-1=((m+1:Nat):Int):=Ot
 have e2:((m+2:Nat):Int)-2=(m:Int):=Ot
 clear ha hb hac hbc hbcell hn hm hi hz0 hz1 hz2 hyy0 hyy1
 go_enter func272,ntmps272
 go_wp2_with fail
 go_quiet (fail)
 go_wp2_with(at_make;refine wpList_make_full _ rfl _ _ 25 rfl w.heap.size 3 i0 (.int .i64 0) 1 underlying25 I0.out I1.out I2.out .i64 .i64 _ _ n rfl rfl Ot Ot (by rw[I3.out];omega) OE (NZ _) ?_;intro w1 hown hgrow)
 have hbel:On w.heap.size w w1:=(below_drewN (Below.refl w.heap.size w) nq).grown hgrow (NZ _) (fun _ h=>Ox)
 simp only[NY.heap_drewN] at hown⊢
 have hrow:=il hown
 have HS:=NW (show Ma w a w.heap.size n (m+2) (aA b) (.slice (N3 ⟨w1.heap.size,0,N0⟩) 0 0) (.int .i64 ((n:Int)-1)) (w1.alloc (.cells #[] 3)) from
  ⟨n,[],NZ _,rfl,⟨⟨_,0,rfl,Ow,OE,fun h=>by simp at h⟩,⟨fun _ h=>by simp at h,lC⟩,Ow,fun _ _ h=>by simp at h⟩,by rw[←HN.out,zV,Nat.zero_mod];rfl,⟨_,Ow,hrow.alloc _,hbel.alloc hbel.size _⟩⟩)
 clear hown hgrow hrow hbel
 go_loopw [9,10] (fun r i wr=>Ma w a w.heap.size n (m+2) (aA b) r i wr) (fun _ i _=>(Oh i+1).toNat)
 case atStart=>exact HS.out
 case round=>
  obtain⟨k,l,hk,rfl,hR,hlv,hQ⟩:=hrel
  have hlt:aA l<aA b:=by rw[hlv];exact Nat.mod_lt _ HV0.out
  have HLV:=NW hlv
  have HR:=NW hR
  have HQ:=NW hQ
  have HLT:=NW hlt
  obtain⟨q,hql,hrow,hbel⟩:=hQ
  rcases k with _|k
  ·have CT:=NW (dD wr wr.heap.size _ q (hrow.sl hrow.lt))
   rw[hql] at CT
   obtain⟨Ar,cr,hv,_⟩:=id hR.sl
   subst hv
   have HP:=NW (show∀vq,vF (aA a) (aA b) w (.returned (.tuple #[vq,.slice Ar l.length cr])) wr from fun vq=>⟨vq,_,l,rfl,hR.sl.all,hR.canon,hlv,hbel⟩)
   clear hR hlt hlv hrow hbel hql
   go_wp2_with(go_at_call 303;go_must(refine CT.out.mono ?_);rintro e W1 ⟨rfl,rfl⟩)
   go_ret2
   exact HP.out _
  ·have sa:=HA.out.below hbel
   have hxa:fv a k<1000000:=aw hsa k
   obtain⟨_,_,e,_,_,hac⟩:=sa
   injection e with e1 e2 e3
   clear e2
   subst e1 e3
   obtain⟨ba,oa,rfl,_,hcell⟩:=hac O9
   have hc:=hcell k O9
   obtain⟨x,hxx⟩:∃x,fv a k=x:=⟨_,rfl⟩
   rw[hxx] at hc hxa
   have HMD:=NW (show aA (aj (x::l))%aA b=Jl a k%aA b by rw[ft,mO,hlv,Nat.add_comm,Og,wZ,vB (a:=a) (k:=k) O9,hxx])
   clear hlv
   have ek:((k+1:Nat):Int)-1=(k:Int):=Ot
   rw[ek]
   obtain⟨Ar,cr,hv,_⟩:=id hR.sl
   subst hv
   have hxc:∀y∈x::l,y<B6:=fun y hy=>by
    rcases List.mem_cons.1 hy with h|h
    ·rw[h];exact hxa
    ·exact hR.canon.small y h
   have HC:=NW (dE (l:=x::l) hxc)
   have HLL:=NW (show(aj (x::l)).length≤m+3 from Ok (aI _) (by rw[List.length_cons];have:=hR.len;omega))
   have HV:=NW (show aA (aj (x::l))<1000000*aA b by rw[ft,mO];omega)
   have hlen10:l.length≤10000000:=by have:=hR.len;omega
   obtain⟨r1,hr1⟩:∃r1,aj (x::l)=r1:=⟨_,rfl⟩
   rw[hr1] at HC HLL HV HMD
   have HR1:=NW hr1
   have HSL:=NW (hR.sl.all)
   have HNIL:=NW hR.nil
   have HBW:=NW ((HB.out.below hbel).more hbel.size)
   have HQS:=NW hbel.size
   have hp2s:fv r1 (m+2)<1000000:=aw HC.out.small _
   have hp1s:fv r1 (m+1)<1000000:=aw HC.out.small _
   have hp0s:fv r1 m<1000000:=aw HC.out.small _
   have hest:=HE.out r1 HLL.out
   obtain⟨p2,nl⟩:∃p,fv r1 (m+2)=p:=⟨_,rfl⟩
   obtain⟨p1,ja⟩:∃p,fv r1 (m+1)=p:=⟨_,rfl⟩
   obtain⟨p0,hp0⟩:∃p,fv r1 m=p:=⟨_,rfl⟩
   rw[nl,ja,hp0] at hest
   rw[nl] at hp2s
   rw[ja] at hp1s
   rw[hp0] at hp0s
   have P2:=NW nl
   have P1:=NW ja
   have P0:=NW hp0
   obtain⟨u,hu⟩:∃u,(p2*1000000+p1)*1000000+p0=u:=⟨_,rfl⟩
   obtain⟨t,ht⟩:∃t,y1*1000000+y0+1=t:=⟨_,rfl⟩
   obtain⟨g,hg⟩:∃g,u/t=g:=⟨_,rfl⟩
   have w6:Oe.wrap ((((p2:Int)*1000000+p1)*1000000+p0).tdiv ((y1:Int)*1000000+y0+1))=(g:Int):=by
    have:=MV (t:=t) (u:=u) Ot Ot hg
    rw[←this,←hu,←ht];simp
   have hgs:g<1000000000000:=by
    rw[←hg]
    exact(Nat.div_lt_iff_lt_mul Ot).2 Ot
   have HEST:=NW (show g*aA b≤aA r1 by rw[←hg,←hu,←ht];exact hest)
   have hnz:¬((y1:Int)*1000000+y0+1=0):=Ot
   have HFG:=NW (Gz hgs)
   have HSB:=NW hcb.small
   have HR1L:=NW (show r1.length≤1000000 by have:=HLL.out;omega)
   have HBL:=NW (show b.length≤1000000 by have:=HM.out;omega)
   clear hR hlt hrow hbel hql hcell hac hxx hxc hr1 hest nl ja hp0 hu ht hg
   go_wp2_with(first
    |(go_at_call 306;go_loud (refine(jS w3 r1 l3 _ _ HS4.out HS5.out HC.out.small HS6.out HR1L.out).mono ?_);rintro e w4 ⟨v4,l4,rfl,hs7,hc7,hl7,hx7,hf7⟩)
    |(go_at_call 307;go_loud (refine(nr _ b [g] _ _ ((HBW.out.grow hx2).new _) (show aR _ _ (.slice (N3 ⟨w2.heap.size,0,N0⟩) 1 1) [g] from(row_one w2 g).sl (row_one w2 g).lt) HSB.out HFG.out HBL.out Ow).mono ?_);rintro e w3 ⟨v3,l3,rfl,hs3,hc3,⟨hv3,hl3⟩,hx3,hf3⟩;have HS4:=NW (show aR w3 w3.heap.size (FN v2 (x::l)) r1 from(HS3.out.new _).grow hx3);have HS5:=NW hs3;have HS6:=NW hc3.small)
    |(go_at_call 305;first|(refine(oI w2 _ _ r1 _ (m+2) p2 HS3.out P2.out Ot Ot).mono ?_;rintro e W1 ⟨rfl,rfl⟩)|(refine(oI w2 _ _ r1 _ (m+1) p1 HS3.out P1.out Ot Ot).mono ?_;rintro e W1 ⟨rfl,rfl⟩)|(go_loud (refine(oI w2 _ _ r1 _ m p0 HS3.out P0.out Ot Ot).mono ?_);rintro e W1 ⟨rfl,rfl⟩))
    |(go_at_call 303;go_loud (refine(dD w2 _ v2 (x::l) HS2.out).mono ?_);rintro e W1 ⟨rfl,rfl⟩)
    |(at_builtin;refine Lg _ rfl _ _ rfl wr x rfl rfl rfl (HSL.out.new _) HNIL.out hlen10 ?_;intro v2 w2 hs2 hf2 hx2;have HS2:=NW hs2;have HS3:=NW (show aR w2 w2.heap.size (FN v2 (x::l)) r1 from HR1.out▸hs2.trimmed)))
   have hxt:Ext wr w3:=hx2.trans (((Below.refl _ _).alloc (NZ _) _).trans (hx3.mono Ow) |>.mono hx2.size)
   have hxw:Ext wr w4:=hxt.trans (hx7.mono hxt.size)
   have hv3':aA l3=g*aA b:=by rw[hv3,jL,Og]
   have hle3:aA l3≤aA r1:=by rw[hv3'];exact HEST.out
   have hll3:=js hc3 HC.out.small hle3
   have hv4:aA l4=aA r1-aA l3:=by rw[hl7];exact pX HC.out.small HS6.out hll3 hle3
   have hl4:l4.length≤m+3:=by rw[hl7];exact Ok (aI _) (by rw[aY];exact HLL.out)
   have HI:=NW (show Jg w w.heap.size n (m+2) (aA b) (aA r1) v4 (.int .i64 (g:Int)) w4 from
    ⟨g,l4,rfl,⟨hs7.fresh hf7 (Nat.lt_of_lt_of_le HQ.out.lt hxt.size),hc7,hl4,fun m' c e=>(hf7 _ _ _ e).1 rfl⟩,by rw[hv4,hv3'];have:=HEST.out;omega,HQ.out.ext hxw⟩)
   clear hxt hxw hv3' hle3 hll3 hv4 hl4 hs7 hc7 hl7 hx7 hf7 hs3 hc3 hv3 hl3 hx3 hf3
   go_loopw [9,11] (fun r z wi=>Jg w w.heap.size n (m+2) (aA b) (aA r1) r z wi) (fun r _ wi=>Aq r wi)
   case atStart=>exact HI.out
   case round=>
    obtain⟨z,l5,rfl,hR5,he5,hQ5⟩:=hrel
    have hz6:=J3 he5 HV.out
    obtain⟨A5,c5,hv5,_⟩:=id hR5.sl
    subst hv5
    have S5:=NW hR5.sl.all
    have hxw5:Ext w wr:=by obtain⟨_,_,_,h⟩:=hQ5;exact h
    have B5:=NW ((HB.out.below hxw5).more hxw5.size)
    have CS:=NW (pP wr l5 b _ _ S5.out B5.out hR5.canon hcb)
    have Q5:=NW hQ5
    have R5:=NW hR5
    have E5:=NW he5
    have hL5:l5.length≤1000000:=by have:=hR5.len;omega
    by_cases hge:aA b≤aA l5
    ·have HGE:=NW hge
     clear hR5 hQ5 he5 hxw5 hge
     go_wp2_with(first
      |(go_at_call 306;go_loud (refine(jS w6 l5 b _ _ (S5.out.grow X6.out) (B5.out.grow X6.out) R5.out.canon.small HSB.out hL5).mono ?_);rintro e w7 ⟨v7,l7,rfl,hs7,hc7,hl7,hx7,hf7⟩)
      |(go_at_call 308;go_loud (refine CS.out.mono ?_);rintro e w6 ⟨⟨c,rfl,h1,h2⟩,hx6⟩;have X6:=NW hx6;have hc0:0≤c:=Int.not_lt.1 (fun h=>absurd (h1 h) (Nat.not_lt.2 HGE.out));clear h1 h2 hx6))
     have hb5:=js hcb R5.out.canon.small HGE.out
     have hv7:aA l7=aA l5-aA b:=by rw[hl7];exact pX R5.out.canon.small HSB.out hb5 HGE.out
     have hx67:Ext wr w7:=X6.out.trans (hx7.mono X6.out.size)
     refine⟨⟨z+1,l7,Ow,⟨hs7.fresh hf7 (Nat.lt_of_lt_of_le Q5.out.lt X6.out.size),hc7,by rw[hl7];exact Ok (aI _) (by rw[aY];exact R5.out.len),fun m' c e=>(hf7 _ _ _ e).1 rfl⟩,?_,Q5.out.ext hx67⟩,?_⟩
     ·have:=E5.out
      have:=HGE.out
      rw[hv7,Nat.add_mul,Nat.one_mul];omega
     ·rw[lI hs7,lI S5.out,hv7]
      have:=HV0.out
      have:=HGE.out
      omega
    ·have HGE:=NW hge
     have HL5:=NW (show l5.length≤m+2 by have:=js R5.out.canon HSB.out Ot;rw[HM.out] at this;exact this)
     clear hR5 hQ5 he5 hxw5 hge
     go_wp2_with(go_at_call 308;go_loud (refine CS.out.mono ?_);rintro e w6 ⟨⟨c,rfl,h1,h2⟩,hx6⟩;have X6:=NW hx6;have hc0:¬0≤c:=(fun h=>absurd (h2 Ot).1 HGE.out);obtain⟨q6,hq6,hr6,hb6⟩:=Q5.out.ext hx6;have Q6:=NW hq6;have R6:=NW hr6;have B6':=NW hb6;have hx:=hr6.cell (j:=k) Ot;have hfr:=hr6.frozen k;obtain⟨y,hyy⟩:∃y,fv q6 k=y:=⟨_,rfl⟩;rw[hyy] at hx;clear h1 h2 hx6 hq6 hr6 hb6 hyy)
     have ho:=(cV.refl w.heap.size w6).set k (.int .i64 (z:Int))
     refine⟨⟨k,l5,Ot,rfl,⟨ho.Kx (R5.out.sl.ext X6.out),R5.out.canon,HL5.out,R5.out.nil⟩,by rw[←HMD.out,←E5.out,Nat.add_mul_mod_self_right,Nat.mod_eq_of_lt (by have:=HGE.out;omega)],⟨q6.set k z,by rw[List.length_set];exact Q6.out,R6.out.set (by have:=Q6.out;omega) z,B6'.out.setCell (p:=⟨w.heap.size,k,N0⟩) (NZ _) _⟩⟩,?_⟩
     simp[Oh]
end
end Go.Proofs.YtnpihidbkhehjaaGreatDoor
