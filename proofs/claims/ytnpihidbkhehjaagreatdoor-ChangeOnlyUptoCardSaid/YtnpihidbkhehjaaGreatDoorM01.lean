/- ChangeOnly of kingpostlaw58: part 1 of its proof (merged and shortened by program). -/
import Derived.Test.YtnpihidbkhehjaaGreatDoorProg
import Derived.WalkKit
import Derived.WalkSpells
import Derived.WalkLawsBesides
import Derived.Lib.Hide
import Derived.Deep.QuietTactic
import Derived.BigQuiet
import Derived.OwnWalk
import Derived.RangeFuncNested
import Derived.RangeFuncBound
import Derived.RangeFuncCalls
import Derived.RangeFuncLeaves
import Derived.Shelf.Abstract
import Derived.OwnWalkIn
import Derived.TacticsInMore
import Derived.LoopNIn
import Derived.LoopIn
import Derived.StillTailTactics
import Derived.OrdersIn
set_option linter.unusedVariables false
set_option linter.unusedSimpArgs false
set_option linter.defProp false
set_option maxHeartbeats 8000000
set_option maxRecDepth 100000
open Go.RowKit Go.Shelf Go.Proofs.Tryz
open Array renaming getElem?_eq_some_iff→Od
open Bool renaming false→N1,true→Oc
open Go renaming World→NY,Value→N2,undef→N7,wpOp_step→Ob,Calls→Of,maxLen→Ol,TypeId→Oo
open Go.AllReady renaming cons→Oj,nil→Oq
open Go.IntKind renaming i64→Oe
open Go.IntWalk renaming i64_in→Om
open Go.Lib renaming hid→NW
open Go.RowKit renaming intOf→Oh,Below→On
open Go.World renaming size_alloc→Oi
open List renaming getD_eq_getElem?_getD→N8,length_map→N9,getElem?_eq_getElem→Oa
open Nat renaming le_refl→NZ,mul_comm→Og,le_trans→Ok
open Option renaming none→N0,some→N3
namespace Go.Proofs.YtnpihidbkhehjaaGreatDoor
theorem Ot{p:Prop}(h:p:=by omega):p:=h
theorem Ou{p:Prop}(h:p:=by kernel_rfl):p:=h
theorem Ov{p:Prop}(h:p:=by decide):p:=h
theorem Ow{p:Prop}(h:p:=by simp):p:=h
theorem Ox{p:Prop}(h:p:=by cases h):p:=h
theorem Oy{p:Prop}(h:p:=by simp[Oh];omega):p:=h
theorem Oz{p:Prop}(h:p:=by rw[decide_eq_false_iff_not];omega):p:=h
theorem OA{p:Prop}(h:p:=by rw[HR.out];rfl):p:=h
theorem OB{p:Prop}(h:p:=by simp;omega):p:=h
theorem OC{p:Prop}(h:p:=by rw[beq_eq_false_iff_ne];intro e;exact hc0 (UInt8.toNat.inj (by show c0.toNat=45;exact Int.ofNat.inj e))):p:=h
theorem OD{p:Prop}(h:p:=by assumption):p:=h
theorem OE{p:Prop}(h:p:=by unfold Ol;omega):p:=h
theorem OF{p:Prop}(h:p:=by rw[beq_eq_false_iff_ne];omega):p:=h
theorem OG{p:Prop}(h:p:=by first|with_reducible exact rZ _ _ _ _|with_reducible exact wE _ _ _ _|with_reducible exact tA _ _ _ _|with_reducible exact xI _ _ _ _):p:=h
theorem OH{p:Prop}(h:p:=by rw[decide_eq_true_eq];omega):p:=h
theorem OI{p:Prop}(h:p:=by first|omega|(simp;done)|(simp;omega)):p:=h
theorem OJ{p:Prop}(h:p:=by rw[Addr.add_lit,Nat.zero_add,(af.new wr 3 [.int .i64 (x:Int)]).cell];exact hj):p:=h
theorem OK{p:Prop}(h:p:=by simp; omega):p:=h
theorem OL{p:Prop}(h:p:=by rw[HE.out];rfl):p:=h
theorem OM{p:Prop}(h:p:=by simp[MapKept.IsKey]):p:=h
theorem ON{p:Prop}(h:p:=by rw[←hW0];exact(Below.refl _ _).alloc (NZ _) _):p:=h
theorem OO{p:Prop}(h:p:=by decide +kernel):p:=h
theorem OP{p:Prop}(h:p:=by simp [Oh]; omega):p:=h
theorem OQ{p:Prop}(h:p:=by have:=eA hn;simp at this hr;omega):p:=h
theorem OR{p:Prop}(h:p:=by rfl):p:=h
theorem OS{p:Prop}(h:p:=by rw[getD_replicate_false] at hl;cases hl):p:=h
theorem OT{p:Prop}(h:p:=by rw[HV.out];rfl):p:=h
theorem OU{p:Prop}(h:p:=by first|omega|(simp;done)|(simp[World.setCell];omega)):p:=h
theorem OV{p:Prop}(h:p:=by show c0.toNat=45;exact Int.ofNat.inj e):p:=h
theorem OW{p:Prop}(h:p:=by rw[←hB,aM (fun r hr=>hw r (List.mem_of_mem_drop hr)),List.length_drop,hn]):p:=h
theorem OX{p:Prop}(h:p:=by simp only[Nat.min_def];split <;>omega):p:=h
theorem OY{p:Prop}(h:p:=by rw[decide_eq_false_iff_not];exact h1):p:=h
theorem OZ{p:Prop}(h:p:=by rw[hnum];rfl):p:=h
theorem O0{p:Prop}(h:p:=by first|exact HX.out|exact below_drewN HX.out _|exact Below.refl _ _):p:=h
theorem O1{p:Prop}(h:p:=by rw[hk];rfl):p:=h
theorem O2{p:Prop}(h:p:=by rw[decide_eq_false_iff_not];exact h2):p:=h
theorem O3{p:Prop}(h:p:=by unfold ej;rw[h];rfl):p:=h
theorem O4{p:Prop}(h:p:=by unfold cT;rw[h];rfl):p:=h
theorem O5{p:Prop}(h:p:=by simpa using h):p:=h
theorem O7{p:Prop}(h:p:=by simp[ByteArray.size]):p:=h
theorem O8{p:Prop}(h:p:=by simp[Act.eval,Act.put]):p:=h
theorem O9{p:Prop}(h:p:=by have:=HN.out;omega):p:=h
theorem Pb{p:Prop}(h:p:=by rw[kh,List.length_append,List.length_singleton,show((j:Int)-6).toNat=b by omega];exact Ad HVV.out (ES hb HXV.out)):p:=h
theorem Pc{p:Prop}(h:p:=by first|rfl|(simp only[World.drewN_drewN];rfl)):p:=h
theorem Pd{p:Prop}(h:p:=by rw[←hW0];exact EC.new w _):p:=h
theorem Pe{p:Prop}(h:p:=by rw[decide_eq_false_iff_not];exact h3):p:=h
theorem Pf{p:Prop}(h:p:=by rw[List.length_append,Lib.byteCells_length,List.length_append,Lib.strCells_length,av,av,gV];omega):p:=h
theorem Pg{p:Prop}(h:p:=by rw[inv.size];omega):p:=h
theorem Ph{p:Prop}(h:p:=by rw[bne_iff_ne];omega):p:=h
theorem Pj{p:Prop}(h:p:=by simp[Value.oneCell']):p:=h
theorem Pk{p:Prop}(h:p:=by rw[bne_iff_ne];intro e;exact hc (UInt8.toNat.inj (by show c.toNat=47;exact Int.ofNat.inj e))):p:=h
theorem Pm{p:Prop}(h:p:=by rw[decide_eq_false_iff_not];exact h4):p:=h
theorem Pn{p:Prop}(h:p:=by rw[aM (mj hw hx i),iP rows i x (by omega),hn]):p:=h
theorem Po{p:Prop}(h:p:=by injection e with e;injection e with e1 e2;exact⟨e1,e2⟩):p:=h
theorem Pp{p:Prop}(h:p:=by simp at hD;omega):p:=h
theorem Pq{p:Prop}(h:p:=by rw[←HVS.out,HR.out];unfold oo;rw[List.map_append];rfl):p:=h
theorem Pr{p:Prop}(h:p:=by simp only[List.size_toArray,hx,hm];omega):p:=h
theorem Ps{p:Prop}(h:p:=by rw[N9];exact hlen):p:=h
theorem Pt{p:Prop}(h:p:=by simp_all):p:=h
theorem Pu{p:Prop}(h:p:=by simp[ByteArray.getElem_eq_getElem_data]):p:=h
theorem Pv{p:Prop}(h:p:=by obtain⟨_,_,_,h2,h3,_⟩:=hr;unfold Ol at h3;omega):p:=h
theorem Pw{p:Prop}(h:p:=by rw[fu hk hl] at h;cases h):p:=h
theorem Px{p:Prop}(h:p:=by have:=h1.below.size;have:=hA.1.size;simp at *;omega):p:=h
theorem Py{p:Prop}(h:p:=by rw[hOPS];rfl):p:=h
theorem Pz{p:Prop}(h:p:=by simpa using hi):p:=h
theorem PC{p:Prop}(h:p:=by rw[HF.out];rfl):p:=h
theorem PD{p:Prop}(h:p:=by rw[bne_iff_ne];exact hc0):p:=h
theorem PE{p:Prop}(h:p:=by first|omega|(simp;omega)):p:=h
theorem PF{p:Prop}(h:p:=by rw[decide_eq_false_iff_not];exact h5):p:=h
theorem PG{p:Prop}(h:p:=by rw[←List.flatten_append,List.take_append_drop]):p:=h
theorem PH{p:Prop}(h:p:=by rw[av] at hw2;exact hw2):p:=h
theorem PI{p:Prop}(h:p:=by intro u hu;simp at hu;subst hu;rfl):p:=h
theorem PJ{p:Prop}(h:p:=by have:=HXX.out;have:=HYY.out;omega):p:=h
theorem PK{p:Prop}(h:p:=by have:=hne _ h;simp at this;omega):p:=h
theorem PL{p:Prop}(h:p:=by rw[av];omega):p:=h
theorem PM{p:Prop}(h:p:=by rw[N9];exact hi):p:=h
theorem PN{p:Prop}(h:p:=by decide+kernel):p:=h
theorem PO{p:Prop}(h:p:=by simpa using hl):p:=h
theorem PQ{p:Prop}(h:p:=by rw[hz2];omega):p:=h
theorem PR{p:Prop}(h:p:=by rw[N9];exact h0):p:=h
theorem PS{p:Prop}(h:p:=by rw[e];rfl):p:=h

end Go.Proofs.YtnpihidbkhehjaaGreatDoor
open Go.Proofs.YtnpihidbkhehjaaGreatDoor
namespace Kp
abbrev B:Nat:=1000000000
def S(f:Nat→Nat):Nat→Nat
 |0=>0
 |n+1=>S f n+f n*B^n
theorem Ah(f:Nat→Nat):S f 0=0:=rfl
theorem bn(f:Nat→Nat)(n:Nat):S f (n+1)=S f n+f n*B^n:=rfl
theorem xB(n:Nat):0<B^n:=Nat.pow_pos Ov
theorem dO{f g:Nat→Nat}{n:Nat}(h:∀k,k<n→f k=g k):S f n=S g n:=by
 induction n with
 |zero=>rfl
 |succ n ih=>rw[bn,bn,ih (fun k hk=>h k Ot),h n Ot]
theorem nI{f:Nat→Nat}{n:Nat}(h:∀k,k<n→f k<B):S f n<B^n:=by
 induction n with
 |zero=>simp[S]
 |succ n ih=>
  rw[bn,Nat.pow_succ]
  have h1:=ih (fun k hk=>h k Ot)
  have h2:f n+1≤B:=h n Ot
  have h3:(f n+1)*B^n≤B*B^n:=Nat.mul_le_mul_right _ h2
  rw[Nat.add_mul,Nat.one_mul,Og B] at h3
  omega
theorem mF{f:Nat→Nat}{n:Nat}(h:∀k,k<n→f k=0):S f n=0:=by
 induction n with
 |zero=>rfl
 |succ n ih=>rw[bn,ih (fun k hk=>h k Ot),h n Ot];simp
theorem nF(f:Nat→Nat)(m n:Nat):S f (m+n)=S f m+B^m*S (fun k=>f (m+k)) n:=by
 induction n with
 |zero=>simp[S]
 |succ n ih=>
  rw[←Nat.add_assoc,bn,ih,bn,Nat.mul_add,Nat.pow_add]
  have:f (m+n)*(B^m*B^n)=B^m*(f (m+n)*B^n):=by
   rw[Nat.mul_left_comm]
  omega
theorem Jj{f:Nat→Nat}{m n:Nat}(h:m≤n)(hz:∀k,m≤k→k<n→f k=0):S f n=S f m:=by
 obtain⟨d,rfl⟩:∃d,n=m+d:=⟨n-m,Ot⟩
 rw[nF,mF (f:=fun k=>f (m+k)) (fun k hk=>hz _ Ot Ot)];simp
theorem Lo{f g:Nat→Nat}{n:Nat}(hf:∀k,k<n→f k<B)(hg:∀k,k<n→g k<B)(h:S f n=S g n):∀k,k<n→f k=g k:=by
 induction n with
 |zero=>intro k hk;omega
 |succ n ih=>
  rw[bn,bn] at h
  have h1:=nI (fun k (hk:k<n)=>hf k Ot)
  have h2:=nI (fun k (hk:k<n)=>hg k Ot)
  have hp:=xB n
  have e1:(S f n+f n*B^n)/B^n=f n:=by
   rw[Nat.add_mul_div_right _ _ hp,Nat.div_eq_of_lt h1];omega
  have e2:(S g n+g n*B^n)/B^n=g n:=by
   rw[Nat.add_mul_div_right _ _ hp,Nat.div_eq_of_lt h2];omega
  have e:f n=g n:=by rw[←e1,←e2,h]
  rw[e] at h
  have h3:S f n=S g n:=Ot
  intro k hk
  by_cases hkn:k=n
  ·rw[hkn];exact e
  ·exact ih (fun k hk=>hf k Ot) (fun k hk=>hg k Ot) h3 k Ot
theorem Bj{X V U c P q xi vi ui c':Nat}(h:X+q*V=U+c*P)(hs:xi+q*vi+c=ui+c'*B):
  (X+xi*P)+q*(V+vi*P)=(U+ui*P)+c'*(P*B):=by
 have h1:=congrArg (· *P) hs
 simp only[Nat.add_mul] at h1
 rw[Nat.mul_add]
 have e1:q*(vi*P)=q*vi*P:=(Nat.mul_assoc _ _ _).symm
 have e2:c'*(P*B)=c'*B*P:=by rw[Og P B,Nat.mul_assoc]
 rw[e1,e2];omega
theorem uZ{X V U c P q xi vi ui c':Nat}(h:X+c*P=U+q*V)(hs:xi+c'*B=ui+q*vi+c):
  (X+xi*P)+c'*(P*B)=(U+ui*P)+q*(V+vi*P):=by
 have h1:=congrArg (· *P) hs
 simp only[Nat.add_mul] at h1
 rw[Nat.mul_add]
 have e1:q*(vi*P)=q*vi*P:=(Nat.mul_assoc _ _ _).symm
 have e2:c'*(P*B)=c'*B*P:=by rw[Og P B,Nat.mul_assoc]
 rw[e1,e2];omega
theorem BS{X V U q P:Nat}{c:Nat}(h:X+q*V=U+c*P)(hX:X<P)(_hU:U<P):(c=0↔q*V≤U):=by
 constructor
 ·intro hc;subst hc;omega
 ·intro hq
  by_cases hc:c=0
  ·exact hc
  ·exfalso
   have:1*P≤c*P:=Nat.mul_le_mul_right _ Ot
   omega
theorem ur{X Y V U q c d P:Nat}(h:X+q*V=U+c*P)(h2:Y+d*P=X+q*V)(hY:Y<P)(hU:U<P):Y=U:=by
 have h3:Y+d*P=U+c*P:=Ot
 have e1:(Y+d*P)%P=Y:=by rw[Nat.add_mul_mod_self_right,Nat.mod_eq_of_lt hY]
 have e2:(U+c*P)%P=U:=by rw[Nat.add_mul_mod_self_right,Nat.mod_eq_of_lt hU]
 rw[←e1,h3,e2]
theorem Ce{U V t q v1 P:Nat}(hU:U<(t+1)*P)(hV:v1*P≤V)(hq:t<(q+1)*v1):U<(q+1)*V:=by
 have h1:(t+1)*P≤(q+1)*v1*P:=Nat.mul_le_mul_right _ Ot
 have h2:(q+1)*(v1*P)≤(q+1)*V:=Nat.mul_le_mul_left _ hV
 rw[←Nat.mul_assoc] at h2
 omega
theorem DP{U V t q r v1 v2 u2 P:Nat}(ht:q*v1+r=t)(hU:U<(t*B+u2+1)*P)(hV:(v1*B+v2)*P≤V)
  (hg:r*B+u2<q*v2):U<q*V:=by
 have h1:q*((v1*B+v2)*P)≤q*V:=Nat.mul_le_mul_left _ hV
 have h2:t*B+u2+1≤q*(v1*B+v2):=by
  have:t*B=q*(v1*B)+r*B:=by rw[←ht,Nat.add_mul,Nat.mul_assoc]
  rw[Nat.mul_add];omega
 have h3:(t*B+u2+1)*P≤q*(v1*B+v2)*P:=Nat.mul_le_mul_right _ h2
 rw[Nat.mul_assoc] at h3
 omega
theorem Hc{U V q:Nat}(hU:U<B*V)(hq:B≤q):U<q*V:=
 Nat.lt_of_lt_of_le hU (Nat.mul_le_mul_right _ hq)
def fv(l:List Nat):Nat→Nat:=fun k=>l.getD k 0
def val(l:List Nat):Nat:=S (fv l) l.length
def Small(l:List Nat):Prop:=∀d,d∈l→d<B
def mf(l:List Nat):Prop:=∀d,l.getLast?=N3 d→d≠0
structure Canon(l:List Nat):Prop where
 small:Small l
 trim:mf l
theorem ai{l:List Nat}(h:Small l)(k:Nat):fv l k<B:=by
 unfold fv
 rw[N8]
 rcases Nat.lt_or_ge k l.length with hk|hk
 ·rw[Oa hk];exact h _ (List.getElem_mem hk)
 ·rw[List.getElem?_eq_none hk];decide
theorem ju{l:List Nat}{k:Nat}(h:l.length≤k):fv l k=0:=by
 unfold fv
 rw[N8,List.getElem?_eq_none h];rfl
theorem jA{l:List Nat}{k:Nat}(h:k<l.length):fv l k=l[k]:=by
 unfold fv
 rw[N8,Oa h];rfl
theorem gK{l:List Nat}{n:Nat}(h:l.length≤n):S (fv l) n=val l:=Jj h (fun _ hk _=>ju hk)
theorem mn{l:List Nat}(h:Small l):val l<B^l.length:=nI (fun k _=>ai h k)
theorem wI(l:List Nat)(d:Nat):val (l++[d])=val l+d*B^l.length:=by
 unfold val
 rw[List.length_append]
 show S _ (l.length+1)=_
 rw[bn,dO (g:=fv l)]
 ·unfold fv;simp
 ·intro k hk;unfold fv;simp[List.getElem?_append_left hk]
theorem kI(l:List Nat):val (l++[0])=val l:=by rw[wI];simp
theorem Small.snoc{l:List Nat}{d:Nat}(h:Small l)(hd:d<B):Small (l++[d]):=by
 intro x hx
 rcases List.mem_append.1 hx with hx|hx
 ·exact h x hx
 ·rw[List.mem_singleton.1 hx];exact hd
theorem Small.uh{l:List Nat}{d:Nat}(h:Small (l++[d])):Small l:=fun x hx=>h x (by simp[hx])
theorem jh(l:List Nat):l=[]∨∃m d,l=m++[d]:=by
 rcases List.eq_nil_or_concat l with h|⟨m,d,h⟩
 ·exact .inl h
 ·exact .inr ⟨m,d,O5⟩
theorem mf.last{l:List Nat}{d:Nat}(h:mf (l++[d])):d≠0:=h d Ow
theorem lC:mf []:=by intro d h;simp at h
theorem qT{l:List Nat}{d:Nat}(h:d≠0):mf (l++[d]):=by intro x hx;simp at hx;omega
theorem uE{l:List Nat}(h:mf l)(hl:l≠[]):B^(l.length-1)≤val l:=by
 rcases jh l with rfl|⟨m,d,rfl⟩
 ·exact absurd rfl hl
 ·rw[wI]
  have hd:=h.last
  have:1*B^m.length≤d*B^m.length:=Nat.mul_le_mul_right _ Ot
  simp only[List.length_append,List.length_singleton,Nat.add_sub_cancel]
  omega
theorem Ba{l:List Nat}(h:mf l)(hl:l≠[]):0<val l:=Nat.lt_of_lt_of_le (xB _) (uE h hl)
theorem val_eq_zero{l:List Nat}(h:mf l):val l=0↔l=[]:=by
 constructor
 ·intro h0
  by_cases hl:l=[]
  ·exact hl
  ·have:=Ba h hl;omega
 ·rintro rfl;rfl
theorem bm{a b:List Nat}(ha:Small a)(hb:mf b)(h:a.length<b.length):val a<val b:=by
 have h1:=mn ha
 have h2:=uE hb (by rintro rfl;simp at h)
 have h3:B^a.length≤B^(b.length-1):=Nat.pow_le_pow_right Ov Ot
 omega
def aj(l:List Nat):List Nat:=(l.reverse.dropWhile (· ==0)).reverse
theorem dd(l:List Nat):aj (l++[0])=aj l:=by unfold aj;simp
theorem fG{l:List Nat}{d:Nat}(h:d≠0):aj (l++[d])=l++[d]:=by unfold aj;simp[h]
theorem kp:aj []=[]:=rfl
theorem dV{p:List Nat→Prop}(h0:p [])(hs:∀l d,p l→p (l++[d]))(l:List Nat):p l:=by
 have:∀m:List Nat,p m.reverse:=by
  intro m
  induction m with
  |nil=>exact h0
  |cons d m ih=>rw[List.reverse_cons];exact hs _ _ ih
 have h:=this l.reverse
 rwa[List.reverse_reverse] at h
theorem eN(l:List Nat):val (aj l)=val l:=by
 refine dV (p:=fun l=>val (aj l)=val l) rfl (fun l d ih=> ?_) l
 by_cases hd:d=0
 ·subst hd;rw[dd,kI,ih]
 ·rw[fG hd]
theorem mg(l:List Nat):∃m,l=aj l++List.replicate m 0:=by
 refine dV (p:=fun l=>∃m,l=aj l++List.replicate m 0) ⟨0,rfl⟩ (fun l d ih=> ?_) l
 by_cases hd:d=0
 ·subst hd
  obtain⟨m,hm⟩:=ih
  refine⟨m+1,?_⟩
  rw[dd,List.replicate_succ',←List.append_assoc,←hm]
 ·exact⟨0,by rw[fG hd];simp⟩
theorem dA{l:List Nat}(h:Small l):Canon (aj l):=by
 revert h
 refine dV (p:=fun l=>Small l→Canon (aj l)) (fun _=>⟨fun d h=>by simp[kp] at h,lC⟩) (fun l d ih h=> ?_) l
 by_cases hd:d=0
 ·subst hd;rw[dd];exact ih h.uh
 ·rw[fG hd];exact⟨h,qT hd⟩
theorem Jh{f g:Nat→Nat}{n i:Nat}(hi:i<n)(hf:∀k,k<n→f k<B)(he:∀k,i<k→k<n→f k=g k)(hlt:f i<g i):S f n<S g n:=by
 obtain⟨d,rfl⟩:∃d,n=(i+1)+d:=⟨n-(i+1),Ot⟩
 rw[nF f (i+1),nF g (i+1),dO (f:=fun k=>f (i+1+k)) (g:=fun k=>g (i+1+k)) (fun k hk=>he _ Ot Ot),bn,bn]
 have h1:=nI (n:=i) (fun k hk=>hf k Ot)
 have h2:(f i+1)*B^i≤g i*B^i:=Nat.mul_le_mul_right _ hlt
 rw[Nat.add_mul,Nat.one_mul] at h2
 omega
def sh(f:Nat→Nat)(i:Nat):Nat→Nat:=fun k=>f (i+k)
theorem H7(f:Nat→Nat)(i n:Nat):S (sh f i) (n+1)=f i+B*S (sh f (i+1)) n:=by
 have h:=nF (sh f i) 1 n
 rw[Nat.add_comm 1 n] at h
 rw[h,bn,Ah,Nat.zero_add,Nat.pow_zero,Nat.mul_one,Nat.pow_one]
 have:S (fun k=>sh f i (1+k)) n=S (sh f (i+1)) n:=dO (fun k _=>by unfold sh;congr 1;omega)
 rw[this];unfold sh;simp
theorem zA{d T Q r a n:Nat}(h:T=d*Q+r)(hn:n=a+r*B):
  a+B*T=d*(n/d+B*Q)+n%d:=by
 have h1:d*(n/d)+n%d=n:=Nat.div_add_mod n d
 have h2:B*T=d*(B*Q)+B*r:=by rw[h,Nat.mul_add,Nat.mul_left_comm]
 rw[Nat.mul_add,Og r B] at *
 omega
theorem F0{d r a n:Nat}(hr:r<d)(ha:a<B)(hn:n=a+r*B):n/d<B∧n%d<d:=by
 refine⟨?_,Nat.mod_lt _ Ot⟩
 rw[Nat.div_lt_iff_lt_mul Ot]
 have:(r+1)*B≤d*B:=Nat.mul_le_mul_right _ hr
 rw[Nat.add_mul,Nat.one_mul,Og d B] at this
 omega
theorem xX{X c O x V P:Nat}(h:X+c*(P*B)=O+x*V)(hO:O<P)(hV:V<P)(hx:x<B):c=0:=by
 by_cases hc:c=0
 ·exact hc
 ·exfalso
  have h1:1*(P*B)≤c*(P*B):=Nat.mul_le_mul_right _ Ot
  have h2:x*V≤x*P:=Nat.mul_le_mul_left _ Ot
  have h3:(x+1)*P≤B*P:=Nat.mul_le_mul_right _ hx
  rw[Nat.add_mul,Nat.one_mul,Og B P] at h3
  omega
theorem zh{f g:Nat→Nat}{m j n:Nat}(hm:j+n≤m)(hlo:∀k,k<j→g k=f k)(hhi:∀k,j+n≤k→k<m→g k=f k):
  S g m+B^j*S (sh f j) n=S f m+B^j*S (sh g j) n:=by
 obtain⟨d,rfl⟩:∃d,m=(j+n)+d:=⟨m-(j+n),Ot⟩
 rw[nF g,nF f,nF g j n,nF f j n,dO (f:=fun k=>g (j+n+k)) (g:=fun k=>f (j+n+k)) (fun k hk=>hhi _ Ot Ot),dO (f:=g) (g:=f) (n:=j) (fun k hk=>hlo k hk)]
 show _+B^j*S (sh g j) n+_+B^j*S (sh f j) n=_+B^j*S (sh f j) n+_+B^j*S (sh g j) n
 omega
theorem zv{a b f Q R:Nat}(hf:0<f)(_hb:0<b)(h:a*f=Q*(b*f)+R)(hR:R<b*f):Q=a/b∧R=(a%b)*f:=by
 have h1:Q*b≤a:=by
  have:(Q*b)*f≤a*f:=by rw[Nat.mul_assoc];omega
  exact Nat.le_of_mul_le_mul_right this hf
 have h2:a<(Q+1)*b:=by
  have:a*f<((Q+1)*b)*f:=by rw[Nat.mul_assoc,Nat.add_mul,Nat.one_mul];omega
  exact Nat.lt_of_mul_lt_mul_right this
 have hQ:Q=a/b:=by
  rw[eq_comm]
  refine Nat.div_eq_of_lt_le ?_ ?_
  ·rw[Og] at h1;rwa[Og]
  ·exact h2
 refine⟨hQ,?_⟩
 have h3:=Nat.div_add_mod a b
 rw[←hQ] at h3
 have h4:(b*Q+a%b)*f=a*f:=by rw[h3]
 rw[Nat.add_mul] at h4
 have h5:Q*(b*f)=b*Q*f:=by rw[←Nat.mul_assoc,Og Q b]
 omega
end Kp
namespace Go.Proofs.YtnpihidbkhehjaaGreatDoor
section
open Kp
theorem sW{k:IntKind}{a b:Int}(h:a=b):Ending.returned (.int k a)= .returned (.int k b):=by rw[h]
def aR(w:NY)(b0:Nat)(v:N2)(l:List Nat):Prop:=
 ∃A cap,v= .slice A l.length cap∧l.length≤cap∧cap≤Ol∧
  (0<l.length→∃b off,A=N3 ⟨b,off,N0⟩∧b<b0∧∀j,j<l.length→w.cell? ⟨b,off+j,N0⟩=N3 (.int .i64 (fv l j)))
theorem aR.keep{w w':NY}{b0:Nat}{v:N2}{l:List Nat}(h:aR w b0 v l)(hk:∀p:Addr,p.block<b0→w'.cell? p=w.cell? p):aR w' b0 v l:=by
 obtain⟨A,cap,rfl,h1,h2,hc⟩:=h
 refine⟨A,cap,rfl,h1,h2,fun hn=> ?_⟩
 obtain⟨b,off,e,hb,hcell⟩:=hc hn
 exact⟨b,off,e,hb,fun j hj=>(hk _ hb).trans (hcell j hj)⟩
theorem aR.more{w:NY}{b0 b1:Nat}{v:N2}{l:List Nat}(h:aR w b0 v l)(hb:b0≤b1):aR w b1 v l:=by
 obtain⟨A,cap,rfl,h1,h2,hc⟩:=h
 refine⟨A,cap,rfl,h1,h2,fun hn=> ?_⟩
 obtain⟨b,off,e,hb,hcell⟩:=hc hn
 exact⟨b,off,e,Ot,hcell⟩
theorem aR.below{w w':NY}{b0:Nat}{v:N2}{l:List Nat}(h:aR w b0 v l)(hb:On b0 w w'):aR w' b0 v l:=h.keep fun _ hp=>hb.cell hp
theorem aR.len{w:NY}{b0:Nat}{v:N2}{l:List Nat}(h:aR w b0 v l):l.length≤9223372036854775807:=by
 obtain⟨_,_,_,h1,h2,_⟩:=h
 unfold Ol at h2;omega
theorem ov(w:NY)(b0:Nat)(v:N2)(l:List Nat)(i:Nat)(h:aR w b0 v l)(hi:i≤4611686018427387904):
  Of prog 321 #[v,.int .i64 i] w fun e w'=>e= .returned (.int .i64 (fv l i))∧w=w':=by
 obtain⟨A,cap,rfl,hl,hm,hc⟩:=h
 unfold Ol at hm
 by_cases hlt:i<l.length
 ·obtain⟨b,off,rfl,_,hcell⟩:=hc Ot
  have hx:=hcell i hlt
  clear hcell
  go_enter func321,ntmps321
  go_wp2
  go_ret
  exact⟨rfl,rfl⟩
 ·go_enter func321,ntmps321
  go_wp2
  go_ret
  exact⟨sW (by rw[ju Ot];rfl),rfl⟩
def Hp:N2→Nat
 | .slice _ n _=>n
 |_=>0
theorem qZ{l:List Nat}{k:Nat}(hk:k<l.length)(h0:fv l k=0)(h:aj (l.take (k+1))=aj l):aj (l.take k)=aj l:=by
 rw[←h,List.take_succ_eq_append_getElem hk]
 rw[jA hk] at h0
 rw[h0,dd]
theorem sJ{l:List Nat}{k:Nat}(hk:k<l.length)(h0:fv l k≠0)(h:aj (l.take (k+1))=aj l):(aj l).length=k+1:=by
 rw[←h,List.take_succ_eq_append_getElem hk]
 rw[jA hk] at h0
 rw[fG h0];simp;omega
theorem xZ(w:NY)(A:Option Addr)(cap:Nat)(l:List Nat)(h1:l.length≤cap)(h2:cap≤Ol)
  (hc:0<l.length→∃b off,A=N3 ⟨b,off,N0⟩∧∀j,j<l.length→w.cell? ⟨b,off+j,N0⟩=N3 (.int .i64 (fv l j))):
  Of prog 289 #[.slice A l.length cap] w fun e w'=>e= .returned (.slice A (aj l).length cap)∧w=w':=by
 unfold Ol at h2
 go_enter func289,ntmps289
 go_wp2
 go_loop [0] (fun v=>∃k:Nat,k≤l.length∧v= .slice A k cap∧Hid (aj (l.take k)=aj l)) (fun v=>Hp v)
 case atStart=>exact⟨l.length,NZ _,rfl,by simp[Hid]⟩
 case round=>
  obtain⟨k,hk,rfl,ht⟩:=hrel
  rcases k with _|k
  ·go_wp2
   go_ret
   exact⟨by have:=ht.out;simp[kp] at this;rw[this];rfl,rfl⟩
  ·obtain⟨b,off,rfl,hcell⟩:=hc Ot
   have hx:=hcell k Ot
   by_cases h0:fv l k=0
   ·have hz:((fv l k:Int)==0)=Oc:=by rw[h0];rfl
    have H0:=NW h0
    clear h0 hcell
    go_wp2
    go_round
    case rel=>exact⟨k,Ot,rfl,qZ Ot H0.out ht.out⟩
    case measure=>simp[Hp]
   ·have hz:((fv l k:Int)==0)=N1:=OF
    have H0:=NW h0
    clear h0 hcell
    go_wp2
    go_ret
    exact⟨by rw[sJ Ot H0.out ht.out];rfl,rfl⟩
end
section
open Kp
def Row(w:NY)(g cap:Nat)(l:List Nat):Prop:=
 ∃cur:Array N2,w.heap[g]?=N3 (.cells cur 3 (0,0))∧cur.size=cap∧l.length≤cap∧cap≤Ol∧∀j,j<l.length→cur[j]?=N3 (.int .i64 (fv l j))
theorem Row.lt{w:NY}{g cap:Nat}{l:List Nat}(h:Row w g cap l):g<w.heap.size:=by
 obtain⟨cur,hh,_⟩:=h
 exact(Od.1 hh).1
theorem Row.cell{w:NY}{g cap:Nat}{l:List Nat}(h:Row w g cap l){j:Nat}(hj:j<l.length):w.cell? ⟨g,j,N0⟩=N3 (.int .i64 (fv l j)):=by
 obtain⟨cur,hh,_,_,_,hc⟩:=h
 simp[World.cell?,hh,hc j hj]
theorem Row.frozen{w:NY}{g cap:Nat}{l:List Nat}(h:Row w g cap l)(j:Nat):w.frozen? ⟨g,j,N0⟩=N1:=by
 obtain⟨cur,hh,_⟩:=h
 simp[World.frozen?,hh]
theorem eY{l:List Nat}{j x k:Nat}(hj:j<l.length):fv (l.set j x) k=if k=j then x else fv l k:=by
 unfold fv
 simp only[N8,List.getElem?_set]
 by_cases h:j=k
 ·subst h;simp[hj]
 ·simp[h,Ne.symm h]
theorem Row.set{w:NY}{g cap:Nat}{l:List Nat}(h:Row w g cap l){j:Nat}(hj:j<l.length)(x:Nat):Row (w.setCell ⟨g,j,N0⟩ (.int .i64 x)) g cap (l.set j x):=by
 obtain⟨cur,hh,h1,h2,h3,hc⟩:=h
 refine⟨cur.setIfInBounds j (.int .i64 x),?_,by simp[h1],by simpa using h2,h3,fun k hk=> ?_⟩
 ·simp[World.setCell,Array.getElem?_modify,hh]
 ·simp only[List.length_set] at hk
  rw[eY hj,Array.getElem?_setIfInBounds]
  by_cases hkj:j=k
  ·subst hkj;simp[h1];omega
  ·rw[if_neg hkj,if_neg (Ne.symm hkj)];exact hc k hk
theorem Row.keep{w w':NY}{g cap:Nat}{l:List Nat}(h:Row w g cap l)(hk:w'.heap[g]?=w.heap[g]?):Row w' g cap l:=by
 obtain⟨cur,hh,r⟩:=h
 exact⟨cur,hk.trans hh,r⟩
theorem Row.drew{w:NY}{g cap:Nat}{l:List Nat}(h:Row w g cap l):Row w.drew g cap l:=h
theorem Row.drewN{w:NY}{g cap:Nat}{l:List Nat}(h:Row w g cap l)(n:Nat):Row (w.drewN n) g cap l:=h
theorem Row.sl{w:NY}{g cap b0:Nat}{l:List Nat}(h:Row w g cap l)(hg:g<b0):aR w b0 (.slice (N3 ⟨g,0,N0⟩) l.length cap) l:=by
 have h':=h
 obtain⟨cur,hh,h1,h2,h3,hc⟩:=h
 exact⟨_,cap,rfl,h2,h3,fun _=>⟨g,0,rfl,hg,fun j hj=>by rw[Nat.zero_add];exact h'.cell hj⟩⟩
structure cV(g:Nat)(w w':NY):Prop where
 os:w'.os=w.os
 tape:w'.tape=w.tape
 output:w'.output=w.output
 size:w'.heap.size=w.heap.size
 block:∀k,k≠g→w'.heap[k]?=w.heap[k]?
theorem cV.refl(g:Nat)(w:NY):cV g w w:=⟨rfl,rfl,rfl,rfl,fun _ _=>rfl⟩
theorem cV.drewN{g:Nat}{w w':NY}(h:cV g w w')(n:Nat):cV g w (w'.drewN n):=⟨h.os,h.tape,h.output,h.size,h.block⟩
theorem cV.drew{g:Nat}{w w':NY}(h:cV g w w'):cV g w w'.drew:=⟨h.os,h.tape,h.output,h.size,h.block⟩
theorem cV.set{g:Nat}{w w':NY}(h:cV g w w')(j:Nat)(x:N2):cV g w (w'.setCell ⟨g,j,N0⟩ x):=
 ⟨h.os,h.tape,h.output,by simpa[World.setCell] using h.size,fun k hk=>(Below.heap_setCell w' ⟨g,j,N0⟩ x k hk).trans (h.block k hk)⟩
theorem cV.trans{g:Nat}{a b c:NY}(h:cV g a b)(k:cV g b c):cV g a c:=
 ⟨k.os.trans h.os,k.tape.trans h.tape,k.output.trans h.output,k.size.trans h.size,fun i hi=>(k.block i hi).trans (h.block i hi)⟩
theorem cV.cell{g:Nat}{w w':NY}(h:cV g w w'){p:Addr}(hp:p.block≠g):w'.cell? p=w.cell? p:=World.cell?_of_block (h.block _ hp)
theorem cV.sl{g b0:Nat}{w w':NY}(h:cV g w w'){v:N2}{l:List Nat}(hs:aR w b0 v l)(hb:b0≤g):aR w' b0 v l:=hs.keep fun p hp=>h.cell Ot
theorem cV.below{g b0:Nat}{w w':NY}(h:cV g w w')(hb:b0≤g):On b0 w w':=
 ⟨h.os,h.tape,h.output,by rw[h.size];exact NZ _,fun k hk=>h.block k Ot⟩
theorem vg{w:NY}{p:Addr}{v:N2}(h:w.cell? p=N3 v):p.block<w.heap.size:=by
 rcases Nat.lt_or_ge p.block w.heap.size with hlt|hge
 ·exact hlt
 ·unfold World.cell? at h;rw[Array.getElem?_eq_none hge] at h;simp at h
def Bn(w:NY)(g:Nat)(v:N2)(l:List Nat):Prop:=
 ∃A cap,v= .slice A l.length cap∧l.length≤cap∧cap≤Ol∧
  (0<l.length→∃b off,A=N3 ⟨b,off,N0⟩∧b≠g∧∀j,j<l.length→w.cell? ⟨b,off+j,N0⟩=N3 (.int .i64 (fv l j)))
theorem Bn.all{w:NY}{g:Nat}{v:N2}{l:List Nat}(h:Bn w g v l):aR w w.heap.size v l:=by
 obtain⟨A,cap,rfl,h1,h2,hc⟩:=h
 refine⟨A,cap,rfl,h1,h2,fun hn=> ?_⟩
 obtain⟨b,off,e,hb,hcell⟩:=hc hn
 exact⟨b,off,e,vg (hcell 0 hn),hcell⟩
theorem cV.Kx{g:Nat}{w w':NY}(h:cV g w w'){v:N2}{l:List Nat}(hs:Bn w g v l):Bn w' g v l:=by
 obtain⟨A,cap,rfl,h1,h2,hc⟩:=hs
 refine⟨A,cap,rfl,h1,h2,fun hn=> ?_⟩
 obtain⟨b,off,e,hb,hcell⟩:=hc hn
 exact⟨b,off,e,hb,fun j hj=>(h.cell hb).trans (hcell j hj)⟩
theorem aR.cI{w:NY}{b0 g:Nat}{v:N2}{l:List Nat}(h:aR w b0 v l)(hg:b0≤g):Bn w g v l:=by
 obtain⟨A,cap,rfl,h1,h2,hc⟩:=h
 refine⟨A,cap,rfl,h1,h2,fun hn=> ?_⟩
 obtain⟨b,off,e,hb,hcell⟩:=hc hn
 exact⟨b,off,e,Ot,hcell⟩
theorem Row.Kx{w:NY}{g g' cap:Nat}{l:List Nat}(h:Row w g cap l)(hg:g≠g'):Bn w g' (.slice (N3 ⟨g,0,N0⟩) l.length cap) l:=by
 have h':=h
 obtain⟨cur,hh,h1,h2,h3,hc⟩:=h
 exact⟨_,cap,rfl,h2,h3,fun _=>⟨g,0,rfl,hg,fun j hj=>by rw[Nat.zero_add];exact h'.cell hj⟩⟩
end
section
open Kp
theorem bI{n:Int}(h0: -9223372036854775808≤n)(h1:n≤9223372036854775807):Oe.wrap n=n:=Om _ Ot
def j2(w:NY)(g cap:Nat)(u v:List Nat)(j q k c:Nat)(u':List Nat)(w':NY):Prop:=
 Row w' g cap u'∧u'.length=u.length∧Small u'∧(∀i,i<j∨j+k≤i→fv u' i=fv u i)∧
  S (sh (fv u') j) k+q*S (fv v) k=S (sh (fv u) j) k+c*B^k∧c≤2000000010∧cV g w w'
def E7(w:NY)(g cap:Nat)(u v:List Nat)(j q:Nat)(c i:N2)(w':NY):Prop:=
 ∃(k cN:Nat) (u':List Nat),k≤v.length+1∧i= .int .i64 k∧c= .int .i64 cN∧j2 w g cap u v j q k cN u' w'
def Fa(w:NY)(g cap:Nat)(u v:List Nat)(j q:Nat)(e:Ending)(w':NY):Prop:=
 ∃(c:Nat) (u':List Nat),e= .returned (.bool (decide (0<c)))∧j2 w g cap u v j q (v.length+1) c u' w'
theorem zk(w:NY)(b0:Nat)(v:N2)(l:List Nat)(i:Nat)(h:aR w b0 v l)(hi:i≤4611686018427387904):
  Of prog 321 #[v,.int .i64 i] w fun e w'=>e= .returned (.int .i64 (fv l i))∧w'=w:=
 (ov w b0 v l i h hi).mono fun _ _ h=>⟨h.1,h.2.symm⟩
theorem j8{q x:Nat}(hq:q≤2000000000)(hx:x<1000000000):0≤(q:Int)*(x:Int)∧(q:Int)*(x:Int)≤2000000000000000000:=by
 have h:q*x≤2000000000*1000000000:=Nat.mul_le_mul hq Ot
 have e:((q*x:Nat):Int)=(q:Int)*(x:Int):=Ow
 omega
theorem xG{l:List Nat}{j k x:Nat}(h:j+k<l.length):S (sh (fv (l.set (j+k) x)) j) (k+1)=S (sh (fv l) j) k+x*B^k:=by
 rw[bn,dO (g:=sh (fv l) j)]
 ·have:sh (fv (l.set (j+k) x)) j k=x:=by unfold sh;rw[eY h,if_pos rfl]
  rw[this]
 ·intro i hi;unfold sh;rw[eY h,if_neg Ot]
theorem Small.set{l:List Nat}(h:Small l){j x:Nat}(hx:x<B):Small (l.set j x):=by
 intro d hd
 rcases List.mem_or_eq_of_mem_set hd with h1|h1
 ·exact h d h1
 ·rw[h1];exact hx
theorem qW{w wr:NY}{g cap:Nat}{u v u':List Nat}{j q k c x c':Nat}(n:Nat)(H:j2 w g cap u v j q k c u' wr)(hj:j+k<u.length)
  (hx:x<1000000000)(hc':c'≤2000000010)(he:x+q*fv v k+c=fv u' (j+k)+c'*1000000000):
  j2 w g cap u v j q (k+1) c' (u'.set (j+k) x) ((wr.drewN n).setCell ⟨g,j+k,N0⟩ (.int .i64 x)):=by
 obtain⟨hR,hl,hS,hsame,heq,hc,hO⟩:=H
 refine⟨(hR.drewN n).set Ot x,PO,Small.set hS hx,fun i hi=> ?_,?_,hc',(hO.drewN n).set _ _⟩
 ·rw[eY Ot,if_neg Ot];exact hsame i Ot
 ·rw[xG Ot,bn (fv v),bn (sh (fv u) j),Nat.pow_succ]
  refine Bj heq ?_
  have:sh (fv u) j k=fv u' (j+k):=(hsame _ Ot).symm
  rw[this];exact he
theorem Et{a c p:Nat}(h:(a:Int)-c-p<0)(hc:c≤2000000010)(hp:p≤2000000000000000000):
  ∃c' x:Nat,(-((a:Int)-c-p)+1000000000-1)/1000000000=c'∧(a:Int)-c-p+(c':Int)*1000000000=x∧x<1000000000∧c'≤2000000010∧x+p+c=a+c'*1000000000:=by
 refine⟨((-((a:Int)-c-p)+1000000000-1)/1000000000).toNat,((a:Int)-c-p+((-((a:Int)-c-p)+1000000000-1)/1000000000)*1000000000).toNat,?_,?_,?_,?_,?_⟩<;>omega
theorem Ex(w:NY)(g cap:Nat)(u v:List Nat)(vv:N2)(j q:Nat)(hr:Row w g cap u)(hv:Bn w g vv v)(hu:Small u)(hvs:Small v)
  (hj:j+v.length+1≤u.length)(hq:q≤2000000000)(hlen:u.length≤4294967296):
  Of prog 295 #[.slice (N3 ⟨g,0,N0⟩) u.length cap,vv,.int .i64 j,.int .i64 q] w (Fa w g cap u v j q):=by
 have hcap:u.length≤cap∧cap≤9223372036854775807:=Pv
 obtain⟨A,vcap,rfl,hv1,hv2,hvc⟩:=id hv
 unfold Ol at hv2
 go_enter func295,ntmps295
 go_wp2
 go_loopw [9,15] (fun c i wr=>E7 w g cap u v j q c i wr) (fun _ i _=>v.length+1-(Oh i).toNat)
 case atStart=>exact⟨0,0,u,Ot,rfl,rfl,hr,rfl,hu,fun _ _=>rfl,by simp[S],Ot,cV.refl _ _⟩
 case round=>
  obtain⟨k,c,u',hk,rfl,rfl,hrel⟩:=hrel
  obtain⟨hR,hl,hS,hsame,heq,hc,hO⟩:=id hrel
  by_cases hlt:k<v.length+1
  ·have hx:=hR.cell (j:=j+k) Ot
   have hfr:=hR.frozen (j+k)
   have hub:fv u' (j+k)<1000000000:=ai hS (j+k)
   have hvb:fv v k<1000000000:=ai hvs k
   obtain⟨hp0,ja⟩:=j8 hq hvb
   have hsv:=(hO.Kx hv).all
   have w1:Oe.wrap ((j:Int)+k)=j+k:=bI Ot Ot
   have w1a:0≤(j:Int)+k:=Ot
   have w1b:((j:Int)+k).toNat=j+k:=Ot
   have w2:Oe.wrap ((fv u' (j+k):Int)-c)=fv u' (j+k)-c:=bI Ot Ot
   have w3:Oe.wrap ((q:Int)*(fv v k:Int))=q*fv v k:=bI Ot Ot
   have w4:Oe.wrap ((fv u' (j+k):Int)-c-(q:Int)*(fv v k:Int))=fv u' (j+k)-c-q*fv v k:=bI Ot Ot
   have w1c:(j:Int)+k<u.length:=Ot
   have H:=NW hrel
   clear hrel heq hsame hl hS hR hO
   go_wp2_with fail
   go_quiet ((go_at_call 321;exact Calls.quiet_of_same (zk _ _ _ v k hsv Ot)))
   go_wp2
   ·have hneg:(fv u' (j+k):Int)-c-(q:Int)*(fv v k:Int)<0:=OD
    have ep:((q:Int)*(fv v k:Int))=((q*fv v k:Nat):Int):=Ow
    rw[ep] at hneg ja⊢
    obtain⟨c',x,e1,e2,hx1,hc1,he⟩:=Et hneg hc Ot
    rw[e1,e2]
    exact⟨⟨k+1,c',_,Ot,by go_num,rfl,qW nq H.out Ot hx1 hc1 he⟩,Oy⟩
   ·have hpos:0≤(fv u' (j+k):Int)-c-(q:Int)*(fv v k:Int):=OD
    have ep:((q:Int)*(fv v k:Int))=((q*fv v k:Nat):Int):=Ow
    rw[ep] at hpos ja⊢
    have e2:(fv u' (j+k):Int)-c-((q*fv v k:Nat):Int)=((fv u' (j+k)-c-q*fv v k:Nat):Int):=Ot
    rw[e2]
    exact⟨⟨k+1,0,_,Ot,by go_num,rfl,qW nq H.out Ot Ot Ot Ot⟩,Oy⟩
  ·obtain rfl:k=v.length+1:=Ot
   go_wp2
   go_ret
   exact⟨c,u',rfl,hrel⟩
end
section
open Kp
def ir(w:NY)(g cap:Nat)(u v:List Nat)(j q k c:Nat)(u':List Nat)(w':NY):Prop:=
 Row w' g cap u'∧u'.length=u.length∧Small u'∧(∀i,i<j∨j+k≤i→fv u' i=fv u i)∧
  S (sh (fv u') j) k+c*B^k=S (sh (fv u) j) k+q*S (fv v) k∧c≤2000000010∧cV g w w'
def Es(w:NY)(g cap:Nat)(u v:List Nat)(j q:Nat)(c i:N2)(w':NY):Prop:=
 ∃(k cN:Nat) (u':List Nat),k≤v.length+1∧i= .int .i64 k∧c= .int .i64 cN∧ir w g cap u v j q k cN u' w'
def Ef(w:NY)(g cap:Nat)(u v:List Nat)(j q:Nat)(e:Ending)(w':NY):Prop:=
 ∃(c:Nat) (u':List Nat),e= .returned (.slice (N3 ⟨g,0,N0⟩) u.length cap)∧ir w g cap u v j q (v.length+1) c u' w'
theorem q8{w wr:NY}{g cap:Nat}{u v u':List Nat}{j q k c x c':Nat}(n:Nat)(H:ir w g cap u v j q k c u' wr)(hj:j+k<u.length)
  (hx:x<1000000000)(hc':c'≤2000000010)(he:x+c'*1000000000=fv u' (j+k)+q*fv v k+c):
  ir w g cap u v j q (k+1) c' (u'.set (j+k) x) ((wr.drewN n).setCell ⟨g,j+k,N0⟩ (.int .i64 x)):=by
 obtain⟨hR,hl,hS,hsame,heq,hc,hO⟩:=H
 refine⟨(hR.drewN n).set Ot x,PO,Small.set hS hx,fun i hi=> ?_,?_,hc',(hO.drewN n).set _ _⟩
 ·rw[eY Ot,if_neg Ot];exact hsame i Ot
 ·rw[xG Ot,bn (fv v),bn (sh (fv u) j),Nat.pow_succ]
  refine uZ heq ?_
  have:sh (fv u) j k=fv u' (j+k):=(hsame _ Ot).symm
  rw[this];exact he
theorem xT(w:NY)(g cap:Nat)(u v:List Nat)(vv:N2)(j q:Nat)(hr:Row w g cap u)(hv:Bn w g vv v)(hu:Small u)(hvs:Small v)
  (hj:j+v.length+1≤u.length)(hq:q≤2000000000)(hlen:u.length≤4294967296):
  Of prog 296 #[.slice (N3 ⟨g,0,N0⟩) u.length cap,vv,.int .i64 j,.int .i64 q] w (Ef w g cap u v j q):=by
 have hcap:u.length≤cap∧cap≤9223372036854775807:=Pv
 obtain⟨A,vcap,rfl,hv1,hv2,hvc⟩:=id hv
 unfold Ol at hv2
 go_enter func296,ntmps296
 go_wp2
 go_loopw [9,15] (fun c i wr=>Es w g cap u v j q c i wr) (fun _ i _=>v.length+1-(Oh i).toNat)
 case atStart=>exact⟨0,0,u,Ot,rfl,rfl,hr,rfl,hu,fun _ _=>rfl,by simp[S],Ot,cV.refl _ _⟩
 case round=>
  obtain⟨k,c,u',hk,rfl,rfl,hrel⟩:=hrel
  obtain⟨hR,hl,hS,hsame,heq,hc,hO⟩:=id hrel
  by_cases hlt:k<v.length+1
  ·have hx:=hR.cell (j:=j+k) Ot
   have hfr:=hR.frozen (j+k)
   have hub:fv u' (j+k)<1000000000:=ai hS (j+k)
   have hvb:fv v k<1000000000:=ai hvs k
   obtain⟨hp0,ja⟩:=j8 hq hvb
   have hsv:=(hO.Kx hv).all
   have w1:Oe.wrap ((j:Int)+k)=j+k:=bI Ot Ot
   have w1a:0≤(j:Int)+k:=Ot
   have w1b:((j:Int)+k).toNat=j+k:=Ot
   have w3:Oe.wrap ((q:Int)*(fv v k:Int))=q*fv v k:=bI Ot Ot
   have w2:Oe.wrap ((fv u' (j+k):Int)+(q:Int)*(fv v k:Int))=fv u' (j+k)+q*fv v k:=bI Ot Ot
   have w4:Oe.wrap ((fv u' (j+k):Int)+(q:Int)*(fv v k:Int)+c)=fv u' (j+k)+q*fv v k+c:=bI Ot Ot
   have w1c:(j:Int)+k<u.length:=Ot
   have H:=NW hrel
   clear hrel heq hsame hl hS hR hO
   go_wp2_with fail
   go_quiet ((go_at_call 321;exact Calls.quiet_of_same (zk _ _ _ v k hsv Ot)))
   go_wp2
   have ep:((q:Int)*(fv v k:Int))=((q*fv v k:Nat):Int):=Ow
   rw[ep] at ja⊢
   have e1:((fv u' (j+k):Int)+((q*fv v k:Nat):Int)+c)/1000000000=(((fv u' (j+k)+q*fv v k+c)/1000000000:Nat):Int):=Ot
   have e2:((fv u' (j+k):Int)+((q*fv v k:Nat):Int)+c)%1000000000=(((fv u' (j+k)+q*fv v k+c)%1000000000:Nat):Int):=Ot
   rw[e1,e2]
   exact⟨⟨k+1,_,_,Ot,by go_num,rfl,q8 nq H.out Ot Ot Ot Ot⟩,Oy⟩
  ·obtain rfl:k=v.length+1:=Ot
   go_wp2
   go_ret
   exact⟨c,u',rfl,hrel⟩
end
section
open Kp
def sX(U V un u1 v1 q r:Nat):Prop:=
 q*v1+r=un*1000000000+u1∧U<(q+1)*V∧q≤2000000000∧r<1000000000
def GX(w:NY)(U V un u1 v1:Nat)(q r:N2)(w':NY):Prop:=
 ∃qN rN n:Nat,q= .int .i64 qN∧r= .int .i64 rN∧sX U V un u1 v1 qN rN∧w'=w.drewN n
def Iu(w:NY)(U V:Nat)(e:Ending)(w':NY):Prop:=
 ∃q n:Nat,e= .returned (.int .i64 q)∧U<(q+1)*V∧q≤2000000000∧w'=w.drewN n
theorem GP{v:List Nat}(hn:2≤v.length):fv v (v.length-1)*B^(v.length-1)≤val v∧(fv v (v.length-1)*B+fv v (v.length-2))*B^(v.length-2)≤val v:=by
 obtain⟨m,hm⟩:∃m,v.length=m+2:=⟨v.length-2,Ot⟩
 unfold val
 rw[hm,bn,bn]
 show fv v (m+1)*B^(m+1)≤_∧(fv v (m+1)*B+fv v m)*B^m≤_
 refine⟨Nat.le_add_left _ _,?_⟩
 rw[Nat.pow_succ,Nat.add_mul]
 have:fv v (m+1)*(B^m*B)=fv v (m+1)*B*B^m:=by rw[Og (B^m),Nat.mul_assoc]
 omega
theorem Hh{u:List Nat}{j n:Nat}(hu:Small u)(hn:2≤n):
  S (sh (fv u) j) (n+1)<(fv u (j+n)*B+fv u (j+n-1)+1)*B^(n-1)∧
  S (sh (fv u) j) (n+1)<((fv u (j+n)*B+fv u (j+n-1))*B+fv u (j+n-2)+1)*B^(n-2):=by
 obtain⟨m,rfl⟩:∃m,n=m+2:=⟨n-2,Ot⟩
 have h1:S (sh (fv u) j) (m+1)<B^(m+1):=nI (fun k _=>ai hu _)
 have h0:S (sh (fv u) j) m<B^m:=nI (fun k _=>ai hu _)
 rw[bn,bn (sh (fv u) j) (m+1)]
 show S (sh (fv u) j) (m+1)+fv u (j+(m+1))*B^(m+1)+fv u (j+(m+2))*B^(m+2)<(fv u (j+(m+2))*B+fv u (j+(m+1))+1)*B^(m+1)∧
  S (sh (fv u) j) (m+1)+fv u (j+(m+1))*B^(m+1)+fv u (j+(m+2))*B^(m+2)<((fv u (j+(m+2))*B+fv u (j+(m+1)))*B+fv u (j+m)+1)*B^m
 generalize fv u (j+(m+2))=a
 generalize fv u (j+(m+1))=b
 have ea:a*B^(m+2)=a*B*B^(m+1):=by rw[Nat.pow_succ B (m+1),Og (B^(m+1)),Nat.mul_assoc]
 constructor
 ·rw[Nat.add_mul,Nat.add_mul,Nat.one_mul,ea];omega
 ·rw[bn]
  show S (sh (fv u) j) m+fv u (j+m)*B^m+b*B^(m+1)+a*B^(m+2)<_
  generalize fv u (j+m)=c
  have e1:((a*B+b)*B+c+1)*B^m=a*B^(m+2)+b*B^(m+1)+c*B^m+B^m:=by
   rw[ea,Nat.pow_succ,Nat.add_mul,Nat.add_mul,Nat.one_mul,Nat.add_mul,Nat.add_mul]
   have x1:a*B*B*B^m=a*B*(B^m*B):=by rw[Nat.mul_assoc (a*B),Og B (B^m)]
   have x2:b*B*B^m=b*(B^m*B):=by rw[Nat.mul_assoc,Og B (B^m)]
   omega
  rw[e1];omega
theorem Ct{U V un u1 v1 P:Nat}(hU:U<(un*B+u1+1)*P)(hV:v1*P≤V)(hb:v1<1000000000)(hub:u1<1000000000)(h1:1≤v1)(htop:un≤v1):
  sX U V un u1 v1 ((un*1000000000+u1)/v1) ((un*1000000000+u1)%v1):=by
 obtain⟨t,ht⟩:∃t,un*B+u1=t:=⟨_,rfl⟩
 rw[ht] at hU
 have ht2:un*1000000000+u1=t:=ht
 unfold sX
 rw[ht2]
 have hdm:=Nat.div_add_mod t v1
 have hm:=Nat.mod_lt t h1
 refine⟨by rw[Og];exact hdm,Ce hU hV ?_,?_,Ot⟩
 ·rw[Nat.add_mul,Nat.one_mul,Og];omega
 ·have:t≤2000000000*v1:=Ot
  exact Nat.div_le_of_le_mul (by rw[Og];exact this)
theorem DV{U V un u1 u2 v1 v2 q r P:Nat}(hs:U<((un*B+u1)*B+u2+1)*P)(hv:(v1*B+v2)*P≤V)(hU:U<B*V)(h:sX U V un u1 v1 q r)
  (hc:1000000000≤q∨r*1000000000+u2<q*v2):
  1≤q∧U<(q-1+1)*V∧(q-1)*v1+(r+v1)=un*1000000000+u1:=by
 obtain⟨he,hlt,hq,hr⟩:=h
 have h1:1≤q:=by
  rcases hc with hc|hc
  ·omega
  ·rcases Nat.eq_zero_or_pos q with h0|h0
   ·subst h0;omega
   ·exact h0
 refine⟨h1,?_,?_⟩
 ·rw[Nat.sub_add_cancel h1]
  rcases hc with hc|hc
  ·exact Hc hU hc
  ·exact DP he hs hv hc
 ·have:q*v1=(q-1)*v1+v1:=by
   rw[←Nat.succ_mul,Nat.succ_eq_add_one,Nat.sub_add_cancel h1]
  omega
theorem Ia{un u1 v1:Nat}(h1:un<1000000000)(h2:u1<1000000000)(h3:1≤v1):
  Oe.wrap (((un:Int)*1000000000+u1).tdiv v1)=(((un*1000000000+u1)/v1:Nat):Int):=by
 rw[IntWalk.i64_quo _ _ ⟨Ot,Ot,Ot⟩];simp
theorem Hj{un u1 v1:Nat}:((un:Int)*1000000000+u1).tmod v1=(((un*1000000000+u1)%v1:Nat):Int):=by
 rw[IntWalk.rem_in _ _ Ot];simp
theorem ve(w:NY)(g ucap:Nat)(u v:List Nat)(A:Option Addr)(vcap j b0:Nat)(hr:Row w g ucap u)(hv:aR w b0 (.slice A v.length vcap) v)(hu:Small u)(hvs:Small v)
  (hn:2≤v.length)(hj:j+v.length<u.length)(_hlen:u.length≤4294967296)(h1:1≤fv v (v.length-1))(htop:fv u (j+v.length)≤fv v (v.length-1))
  (hU:S (sh (fv u) j) (v.length+1)<B*val v):
  Of prog 294 #[.slice (N3 ⟨g,0,N0⟩) u.length ucap,.slice A v.length vcap,.int .i64 j] w (Iu w (S (sh (fv u) j) (v.length+1)) (val v)):=by
 have hcap:u.length≤ucap∧ucap≤9223372036854775807:=Pv
 obtain⟨A',vcap',e,hv1,hv2,hvc⟩:=hv
 injection e with e1 e2 e3
 subst e1 e3
 obtain⟨b,off,rfl,_,hvcell⟩:=hvc Ot
 unfold Ol at hv2
 have sg:=Hh (j:=j) hu hn
 have vt:=GP hn
 have c0:=hr.cell hj
 have c1:=hr.cell (j:=j+v.length-1) Ot
 have c2:=hr.cell (j:=j+v.length-2) Ot
 have d1:=hvcell (v.length-1) Ot
 have d2:=hvcell (v.length-2) Ot
 have bu0:fv u (j+v.length)<1000000000:=ai hu _
 have bu1:fv u (j+v.length-1)<1000000000:=ai hu _
 have bu2:fv u (j+v.length-2)<1000000000:=ai hu _
 have bv1:fv v (v.length-1)<1000000000:=ai hvs _
 have bv2:fv v (v.length-2)<1000000000:=ai hvs _
 have hstart:=NW (Ct sg.1 vt.1 bv1 bu1 h1 htop)
 have hless:=NW (fun q r=>DV (q:=q) (r:=r) sg.2 vt.2 hU)
 clear hvcell hvc hr hU htop hvs hu sg vt
 generalize S (sh (fv u) j) (v.length+1)=U at *
 generalize val v=V at *
 generalize fv u (j+v.length)=un at *
 generalize fv u (j+v.length-1)=u1 at *
 generalize fv u (j+v.length-2)=u2 at *
 generalize fv v (v.length-1)=v1 at *
 generalize fv v (v.length-2)=v2 at *
 have y1:un<1000000000:=Ot
 have y2:u1<1000000000:=Ot
 have y3:1≤v1:=Ot
 have hv0:¬v1=0:=Ot
 have x1:(j:Int)+v.length<u.length:=Ot
 have x2:(j:Int)+v.length-1<u.length:=Ot
 have x3:0≤(j:Int)+v.length-1:=Ot
 have x4:0≤(v.length:Int)-1:=Ot
 have x5:(v.length:Int)-1<v.length:=Ot
 have w1:Oe.wrap ((j:Int)+v.length)=j+v.length:=bI Ot Ot
 have w1b:((j:Int)+v.length).toNat=j+v.length:=Ot
 have w2:Oe.wrap ((j:Int)+v.length-1)=j+v.length-1:=bI Ot Ot
 have w2b:((j:Int)+v.length-1).toNat=j+v.length-1:=Ot
 have w3:Oe.wrap ((un:Int)*1000000000)=un*1000000000:=bI Ot Ot
 have w4:Oe.wrap ((un:Int)*1000000000+u1)=un*1000000000+u1:=bI Ot Ot
 have w5:Oe.wrap ((v.length:Int)-1)=v.length-1:=bI Ot Ot
 have w5b:((v.length:Int)-1).toNat=v.length-1:=Ot
 have w6:=Ia (un:=un) (u1:=u1) (v1:=v1) y1 y2 y3
 have w7:=Hj (un:=un) (u1:=u1) (v1:=v1)
 go_enter func294,ntmps294
 go_wp2_with fail
 go_quiet (fail)
 go_wp2_with fail
 go_quiet (fail)
 go_wp2_with fail
 clear w1 w1b w2 w2b w3 w4 w6 w7 w5 w5b x1 x2 x3 x4 x5
 go_loopw [9,10] (fun q r wr=>GX w U V un u1 v1 q r wr) (fun q _ _=>(Oh q).toNat)
 case atStart=>exact⟨_,_,_,rfl,rfl,hstart.out,World.drewN_drewN _ _ _⟩
 case round=>
  obtain⟨q,r,n,rfl,rfl,hrel,rfl⟩:=hrel
  obtain⟨_,_,hq,hr⟩:=id hrel
  have H:=NW hrel
  clear hrel hstart
  have p1:=j8 hq bv2
  by_cases hA:1000000000≤q
  ·have hl:=hless.out q r H.out (.inl hA)
   have HL:=NW hl.2
   have hq1:=hl.1
   clear hl
   have hA':(1000000000:Int)≤q:=Ot
   have x4:0≤(v.length:Int)-1:=Ot
   have x5:(v.length:Int)-1<v.length:=Ot
   have e1:(q:Int)-1=((q-1:Nat):Int):=Ot
   have E1:=NW e1
   clear e1
   have hB0:r+v1<1000000000∨¬r+v1<1000000000:=Ot
   have w8:Oe.wrap ((q:Int)-1)=q-1:=bI Ot Ot
   have w9:Oe.wrap ((r:Int)+v1)=r+v1:=bI Ot Ot
   have w5:Oe.wrap ((v.length:Int)-1)=v.length-1:=bI Ot Ot
   have w5b:((v.length:Int)-1).toNat=v.length-1:=Ot
   rcases hB0 with hB0|hB0
   ·have hB:(r:Int)+v1<1000000000:=Ot
    have hB2:decide ((1000000000:Int)≤(r:Int)+v1)=N1:=OB
    go_wp2_with fail
    go_quiet (fail)
    go_wp2_with fail
    go_quiet (fail)
    clear w8 w9 w5 w5b
    go_wp2_with fail
    rw[E1.out]
    exact⟨⟨q-1,r+v1,_,rfl,by go_num,⟨HL.out.2,HL.out.1,Ot,hB0⟩,Pc⟩,Oy⟩
   ·have hB:(1000000000:Int)≤(r:Int)+v1:=Ot
    have hB2:decide ((1000000000:Int)≤(r:Int)+v1)=Oc:=OB
    go_wp2_with fail
    go_quiet (fail)
    go_wp2_with fail
    go_quiet (fail)
    clear w8 w9 w5 w5b
    go_wp2_with fail
    rw[E1.out]
    go_ret
    exact⟨q-1,_,rfl,HL.out.1,Ot,Pc⟩
  ·by_cases hC:r*1000000000+u2<q*v2
   ·have hl:=hless.out q r H.out (.inr hC)
    have HL:=NW hl.2
    have hq1:=hl.1
    clear hl
    have hC':(r:Int)*1000000000+u2<(q:Int)*v2:=by
     have:((q*v2:Nat):Int)=(q:Int)*v2:=Ow
     omega
    have x4:0≤(v.length:Int)-1:=Ot
    have x5:(v.length:Int)-1<v.length:=Ot
    have x6:0≤(v.length:Int)-2:=Ot
    have x7:(v.length:Int)-2<v.length:=Ot
    have x8:0≤(j:Int)+v.length-2:=Ot
    have x9:(j:Int)+v.length-2<u.length:=Ot
    have hr':(r:Int)<1000000000:=Ot
    have hA1:decide ((1000000000:Int)≤q)=N1:=OB
    have y6:((v.length:Int)-2).toNat=v.length-2:=Ot
    have y8:((j:Int)+v.length-2).toNat=j+v.length-2:=Ot
    have w10:Oe.wrap ((v.length:Int)-2)=v.length-2:=bI Ot Ot
    have w11:Oe.wrap ((j:Int)+v.length)=j+v.length:=bI Ot Ot
    have w12:Oe.wrap ((j:Int)+v.length-2)=j+v.length-2:=bI Ot Ot
    have w13:Oe.wrap ((q:Int)*v2)=q*v2:=bI Ot Ot
    have w14:Oe.wrap ((r:Int)*1000000000)=r*1000000000:=bI Ot Ot
    have w15:Oe.wrap ((r:Int)*1000000000+u2)=r*1000000000+u2:=bI Ot Ot
    have e1:(q:Int)-1=((q-1:Nat):Int):=Ot
    have E1:=NW e1
    clear e1
    have hB0:r+v1<1000000000∨¬r+v1<1000000000:=Ot
    have w8:Oe.wrap ((q:Int)-1)=q-1:=bI Ot Ot
    have w9:Oe.wrap ((r:Int)+v1)=r+v1:=bI Ot Ot
    have w5:Oe.wrap ((v.length:Int)-1)=v.length-1:=bI Ot Ot
    have w5b:((v.length:Int)-1).toNat=v.length-1:=Ot
    rcases hB0 with hB0|hB0
    ·have hB:(r:Int)+v1<1000000000:=Ot
     have hB2:decide ((1000000000:Int)≤(r:Int)+v1)=N1:=OB
     go_wp2_with fail
     go_quiet (fail)
     go_wp2_with fail
     go_quiet (fail)
     clear w8 w9 w5 w5b w10 w11 w12 w13 w14 w15 y6 y8
     go_wp2_with fail
     rw[E1.out]
     exact⟨⟨q-1,r+v1,_,rfl,by go_num,⟨HL.out.2,HL.out.1,Ot,hB0⟩,Pc⟩,Oy⟩
    ·have hB:(1000000000:Int)≤(r:Int)+v1:=Ot
     have hB2:decide ((1000000000:Int)≤(r:Int)+v1)=Oc:=OB
     go_wp2_with fail
     go_quiet (fail)
     go_wp2_with fail
     go_quiet (fail)
     clear w8 w9 w5 w5b w10 w11 w12 w13 w14 w15 y6 y8
     go_wp2_with fail
     rw[E1.out]
     go_ret
     exact⟨q-1,_,rfl,HL.out.1,Ot,Pc⟩
   ·have hC':¬(r:Int)*1000000000+u2<(q:Int)*v2:=by
     have:((q*v2:Nat):Int)=(q:Int)*v2:=Ow
     omega
    have hC2:decide ((r:Int)*1000000000+u2<(q:Int)*v2)=N1:=OB
    have x4:0≤(v.length:Int)-1:=Ot
    have x5:(v.length:Int)-1<v.length:=Ot
    have x6:0≤(v.length:Int)-2:=Ot
    have x7:(v.length:Int)-2<v.length:=Ot
    have x8:0≤(j:Int)+v.length-2:=Ot
    have x9:(j:Int)+v.length-2<u.length:=Ot
    have hr':(r:Int)<1000000000:=Ot
    have hA1:decide ((1000000000:Int)≤q)=N1:=OB
    have y6:((v.length:Int)-2).toNat=v.length-2:=Ot
    have y8:((j:Int)+v.length-2).toNat=j+v.length-2:=Ot
    have w10:Oe.wrap ((v.length:Int)-2)=v.length-2:=bI Ot Ot
    have w11:Oe.wrap ((j:Int)+v.length)=j+v.length:=bI Ot Ot
    have w12:Oe.wrap ((j:Int)+v.length-2)=j+v.length-2:=bI Ot Ot
    have w13:Oe.wrap ((q:Int)*v2)=q*v2:=bI Ot Ot
    have w14:Oe.wrap ((r:Int)*1000000000)=r*1000000000:=bI Ot Ot
    have w15:Oe.wrap ((r:Int)*1000000000+u2)=r*1000000000+u2:=bI Ot Ot
    go_wp2_with fail
    go_quiet (fail)
    clear w10 w11 w12 w13 w14 w15 y6 y8
    go_wp2_with fail
    go_ret
    exact⟨q,_,rfl,H.out.2.1,Ot,Pc⟩
end
section
open Kp
theorem dW:(prog.info? 3).map (fun i=>(i.zero,i.size,i.bytes))=N3 (N3 (.int .i64 0),1,8):=Ou
theorem oQ{w:NY}{base g cap n:Nat}{xs:List N2}{l:List Nat}(h:w.ownsRow base 3 1 (.slice (N3 ⟨g,0,N0⟩) n cap) n xs)(hn:l.length=n)
  (hx:∀j,j<l.length→xs[j]?=N3 (.int .i64 (fv l j))):Row w g cap l:=by
 obtain⟨hl,h|⟨g',cap',cur,e,hb,hh,h1,h2,h3,h4⟩⟩:=h
 ·obtain⟨h,_⟩:=h;cases h
 ·injection e with e1 e2 e3
  injection e1 with e1
  injection e1 with e1
  subst e1 e3
  refine⟨cur,hh,Ot,Ot,h2,fun j hj=> ?_⟩
  have:=hx j hj
  rw[←h4,List.getElem?_take,if_pos Ot] at this
  simpa using this
theorem yG{w:NY}{base g cap:Nat}{l:List Nat}(h:Row w g cap l)(hb:base≤g):
  w.ownsRow base 3 1 (.slice (N3 ⟨g,0,N0⟩) l.length cap) l.length (l.map fun(d:Nat)=>Value.int .i64 (d:Int)):=by
 obtain⟨cur,hh,h1,h2,h3,hc⟩:=h
 refine⟨Ow,.inr ⟨g,cap,cur,rfl,hb,hh,h2,h3,Ot,?_⟩⟩
 apply List.ext_getElem?
 intro j
 rw[List.getElem?_take]
 by_cases hj:j<l.length
 ·rw[if_pos Ot,List.getElem?_map,Oa hj]
  have:=hc j hj
  rw[jA hj] at this
  simpa using this
 ·rw[if_neg Ot,List.getElem?_map,List.getElem?_eq_none Ot];rfl
theorem iU(n k:Nat):fv (List.replicate n 0) k=0:=by
 unfold fv
 rw[N8,List.getElem?_replicate]
 split <;>rfl
theorem mS(n:Nat):Small (List.replicate n 0):=by
 intro d hd
 rw[List.eq_of_mem_replicate hd];decide
theorem il{w:NY}{base g n:Nat}(h:w.ownsRow base 3 1 (.slice (N3 ⟨g,0,N0⟩) n n) n (madeCells (Value.int .i64 0).cells (n*1)).toList):Row w g n (List.replicate n 0):=by
 refine oQ h Ow (fun j hj=> ?_)
 simp at hj
 rw[iU]
 simp[madeCells,Value.cells,hj,Nat.mod_one]
theorem aI(l:List Nat):(aj l).length≤l.length:=by
 obtain⟨m,hm⟩:=mg l
 have:=congrArg List.length hm
 simp at this;omega
theorem pV{l:List Nat}{j:Nat}(hj:j<(aj l).length):fv (aj l) j=fv l j:=by
 obtain⟨m,hm⟩:=mg l
 have hl:=aI l
 have:l[j]?=(aj l)[j]?:=by
  have e:l[j]?=(aj l++List.replicate m 0)[j]?:=by rw[←hm]
  rw[e,List.getElem?_append_left hj]
 unfold fv
 rw[N8,N8,this]
theorem Row.trimmed{w:NY}{g cap:Nat}{l:List Nat}(h:Row w g cap l):Row w g cap (aj l):=by
 have hl:=aI l
 obtain⟨cur,hh,h1,h2,h3,hc⟩:=h
 exact⟨cur,hh,h1,Ot,h3,fun j hj=>by rw[pV hj];exact hc j Ot⟩
theorem gX{w:NY}{g cap n:Nat}{l:List Nat}(h:Row w g cap l)(hn:l.length=n):
  Of prog 289 #[.slice (N3 ⟨g,0,N0⟩) n cap] w fun e w'=>e= .returned (.slice (N3 ⟨g,0,N0⟩) (aj l).length cap)∧w=w':=by
 subst hn
 have h':=h
 obtain⟨cur,hh,h1,h2,h3,hc⟩:=h
 exact xZ w _ cap l h2 h3 (fun _=>⟨g,0,rfl,fun j hj=>by rw[Nat.zero_add];exact h'.cell hj⟩)
def mi(w1:NY)(g n:Nat)(a b:List Nat)(i:Nat)(out:List Nat)(w':NY):Prop:=
 Row w' g n out∧out.length=n∧Small out∧(∀k,i+b.length≤k→fv out k=0)∧S (fv out) n=S (fv a) i*val b∧cV g w1 w'
def CK(w1:NY)(g n:Nat)(a b:List Nat)(i:N2)(w':NY):Prop:=
 ∃(k:Nat) (out:List Nat),k≤a.length∧i= .int .i64 k∧mi w1 g n a b k out w'
def Gy(w0:NY)(g cap:Nat)(u v:List Nat)(j q:Nat)(c i:N2)(w':NY):Prop:=
 ∃(k cN:Nat) (u':List Nat),k≤v.length+1∧i= .int .i64 k∧c= .int .i64 cN∧ir w0 g cap u v j q k cN u' w'
theorem BN{w1 wo wr:NY}{g n:Nat}{a b out out':List Nat}{i c:Nat}(hn:n=a.length+b.length+1)(hi:i<a.length)(ha:Small a)(hb:Small b)(h:mi w1 g n a b i out wo)
  (hr:ir wo g n out b i (fv a i) (b.length+1) c out' wr):mi w1 g n a b (i+1) out' wr:=by
 obtain⟨hR,hl,hS,hz,he,hO⟩:=h
 obtain⟨hR',hl',hS',hsame,he',hc,hO'⟩:=hr
 have hx:fv a i<B:=ai ha i
 have hV:S (fv b) (b.length+1)=val b:=gK Ot
 have hO1:S (sh (fv out) i) (b.length+1)<B^b.length:=by
  rw[bn]
  have:sh (fv out) i b.length=0:=hz _ Ot
  rw[this,Nat.zero_mul,Nat.add_zero]
  exact nI (fun k _=>ai hS _)
 rw[hV,Nat.pow_succ] at he'
 have hc0:=xX he' hO1 (mn hb) hx
 subst hc0
 have ht:=zh (f:=fv out) (g:=fv out') (m:=n) (j:=i) (n:=b.length+1) Ot (fun k hk=>hsame k (.inl hk)) (fun k hk _=>hsame k (.inr hk))
 refine⟨hR',Ot,hS',fun k hk=> ?_,?_,hO.trans hO'⟩
 ·rw[hsame k (.inr Ot)];exact hz k Ot
 ·rw[bn (fv a),Nat.add_mul,←he]
  have e1:S (sh (fv out') i) (b.length+1)=S (sh (fv out) i) (b.length+1)+fv a i*val b:=Ot
  rw[e1,Nat.mul_add] at ht
  have e2:B^i*(fv a i*val b)=fv a i*B^i*val b:=by rw[←Nat.mul_assoc,Og (B^i)]
  omega
def Bq(w0 w:NY)(v:N2)(l:List Nat):Prop:=
 ∃g cap,v= .slice (N3 ⟨g,0,N0⟩) l.length cap∧w0.heap.size≤g∧Row w g cap l
def q9(w:NY)(a b:List Nat)(e:Ending)(w':NY):Prop:=
 ∃v l,e= .returned v∧Bq w w' v l∧Canon l∧val l=val a*val b∧l.length≤a.length+b.length+1∧On w.heap.size w w'
theorem mM(w:NY)(a b:List Nat)(va vb:N2)(ha:aR w w.heap.size va a)(hb:aR w w.heap.size vb b)(hsa:Small a)(hsb:Small b)(hla:a.length≤1000000)(hlb:b.length≤1000000):
  Of prog 292 #[va,vb] w (q9 w a b):=by
 obtain⟨A,ca,rfl,ha1,ha2,hac⟩:=id ha
 obtain⟨A',cb,rfl,hb1,hb2,hbc⟩:=id hb
 unfold Ol at ha2 hb2
 obtain⟨i0,hi,hz0,hz1,hz2⟩:=info_parts dW
 go_enter func292,ntmps292
 go_wp2_with(at_make;refine wpList_make_full _ rfl _ _ 25 rfl w.heap.size 3 i0 (.int .i64 0) 1 underlying25 hi hz0 hz1 .i64 .i64 _ _ (a.length+b.length+1) rfl rfl Ot Ot PQ OE (NZ _) ?_;intro w1 hown hgrow)
 have hrow:=il hown
 have hbel:On w.heap.size w w1:=(Below.refl _ w).grown hgrow (NZ _) Ow
 have sa1:=ha.below hbel
 have sb1:=hb.below hbel
 have hstart:mi w1 w.heap.size (a.length+b.length+1) a b 0 (List.replicate (a.length+b.length+1) 0) w1:=
  ⟨hrow,Ow,mS _,fun _ _=>iU _ _,by rw[mF (fun k _=>iU _ k),Ah,Nat.zero_mul],cV.refl _ _⟩
 clear hown hgrow hrow ha hb hi hz0 hz1 hz2 hac hbc
 go_loopw [20] (fun i wr=>CK w1 w.heap.size (a.length+b.length+1) a b i wr) (fun i _=>a.length-(Oh i).toNat)
 case atStart=>exact⟨0,_,Ot,rfl,hstart⟩
 case round=>
  obtain⟨i,out,hi,rfl,hrel⟩:=hrel
  clear hstart
  obtain⟨wo,rfl⟩:∃wo:NY,wo=wr:=⟨_,rfl⟩
  obtain⟨hR,hl,hS,hz,he,hO⟩:=id hrel
  by_cases hlt:i<a.length
  ·have sa:=hO.sl sa1 (NZ _)
   have sb:=hO.sl sb1 (NZ _)
   have hxb:fv a i<1000000000:=ai hsa i
   have h0:ir wo w.heap.size (a.length+b.length+1) out b i (fv a i) 0 0 out wo:=⟨hR,rfl,hS,fun _ _=>rfl,by simp[S],Ot,cV.refl _ _⟩
   obtain⟨_,_,e,_,_,hac⟩:=sa
   injection e with e1 e2 e3
   subst e1 e3
   obtain⟨ba,oa,rfl,_,hcell⟩:=hac Ot
   have hc:=hcell i hlt
   have H:=NW hrel
   clear hcell hac hrel he hz hR hO sa1 sb1
   go_wp2_with fail
   go_loopw [8,28] (fun c k wi=>Gy wo w.heap.size (a.length+b.length+1) out b i (fv a i) c k wi) (fun _ k _=>b.length+1-(Oh k).toNat)
   case atStart=>exact⟨0,0,out,Ot,rfl,rfl,h0⟩
   case round=>
    obtain⟨k,c,u',hk,rfl,rfl,hin⟩:=hrel
    clear h0
    obtain⟨hR,hl',hS',hsame,heq,hc',hO⟩:=id hin
    by_cases hkl:k<b.length+1
    ·have hx:=hR.cell (j:=i+k) Ot
     have hfr:=hR.frozen (i+k)
     have hub:fv u' (i+k)<1000000000:=ai hS' (i+k)
     have hvb:fv b k<1000000000:=ai hsb k
     obtain⟨hp0,ja⟩:=j8 (q:=fv a i) Ot hvb
     have hsv:=hO.sl sb (NZ _)
     have w1:Oe.wrap ((i:Int)+k)=i+k:=bI Ot Ot
     have w1a:0≤(i:Int)+k:=Ot
     have w1b:((i:Int)+k).toNat=i+k:=Ot
     have w1c:(i:Int)+k<a.length+b.length+1:=Ot
     have w3:Oe.wrap ((fv a i:Int)*(fv b k:Int))=fv a i*fv b k:=bI Ot Ot
     have w2:Oe.wrap ((fv u' (i+k):Int)+(fv a i:Int)*(fv b k:Int))=fv u' (i+k)+fv a i*fv b k:=bI Ot Ot
     have w4:Oe.wrap ((fv u' (i+k):Int)+(fv a i:Int)*(fv b k:Int)+c)=fv u' (i+k)+fv a i*fv b k+c:=bI Ot Ot
     have HI:=NW hin
     clear hin heq hsame hl' hS' hR hO
     go_wp2_with fail
     go_quiet ((go_at_call 321;exact Calls.quiet_of_same (zk _ w.heap.size _ b k hsv Ot)))
     go_wp2
     have ep:((fv a i:Int)*(fv b k:Int))=((fv a i*fv b k:Nat):Int):=Ow
     rw[ep] at ja⊢
     have e1:((fv u' (i+k):Int)+((fv a i*fv b k:Nat):Int)+c)/1000000000=(((fv u' (i+k)+fv a i*fv b k+c)/1000000000:Nat):Int):=Ot
     have e2:((fv u' (i+k):Int)+((fv a i*fv b k:Nat):Int)+c)%1000000000=(((fv u' (i+k)+fv a i*fv b k+c)%1000000000:Nat):Int):=Ot
     rw[e1,e2]
     exact⟨⟨k+1,_,_,Ot,by go_num,rfl,q8 nq HI.out Ot Ot Ot Ot⟩,Oy⟩
    ·obtain rfl:k=b.length+1:=Ot
     have hnext:=NW (BN rfl hlt hsa hsb H.out hin)
     clear hin heq hsame hl' hS' hR hO
     go_wp2_with fail
     exact⟨⟨i+1,u',Ot,by go_num,hnext.out⟩,Oy⟩
  ·obtain rfl:i=a.length:=Ot
   have hfin:q9 w a b (.returned (.slice (N3 ⟨w.heap.size,0,N0⟩) (aj out).length (a.length+b.length+1))) wo:=by
    refine⟨_,aj out,rfl,⟨_,_,rfl,NZ _,?_⟩,dA hS,?_,?_,hbel.trans (hO.below (NZ _))⟩
    ·exact hR.trimmed
    ·rw[eN];show S (fv out) out.length=S (fv a) a.length*val b;rw[hl,he]
    ·exact Ok (aI _) Ot
   have HF:=NW hfin
   have HT:=NW (gX hR hl)
   clear hfin hrel he hz hR hO sa1 sb1 hl
   go_wp2_with(go_at_call 289;refine HT.out.mono ?_;rintro e w' ⟨rfl,rfl⟩)
   go_ret
   exact HF.out
end
section
structure al(n0:Nat)(W W':NY):Prop where
 os:W'.os=W.os
 tape:W'.tape=W.tape
 output:W'.output=W.output
 size:W.heap.size≤W'.heap.size
 low:∀b,b<n0→W'.heap[b]?=W.heap[b]?
 cells:∀(b:Nat) (cs:Array N2) (t:Oo) (m:Nat×Nat),W.heap[b]?=N3 (Obj.cells cs t m)→W'.heap[b]?=N3 (Obj.cells cs t m)
theorem al.aH{n0:Nat}{W W':NY}(h:On W.heap.size W W')(hn:n0≤W.heap.size):al n0 W W':=
 ⟨h.os,h.tape,h.output,h.size,fun b hb=>h.block b Ot,fun b cs t m hb=>(h.block b (Od.1 hb).1).trans hb⟩
theorem al.putObj{n0 l:Nat}{W:NY}{o:Obj}(o':Obj)(hl:W.heap[l]?=N3 o)(ho:o.isCells=N1)(hn:n0≤l):al n0 W (W.putObj l o'):=
 ⟨rfl,rfl,rfl,Ow,fun b hb=>NY.putObj_heap_other Ot,fun b cs t m hb=>(NY.putObj_heap_other (fun e=>by subst e;rw[hb] at hl;cases hl;cases ho)).trans hb⟩
theorem al.trans{n0:Nat}{A B C:NY}(h:al n0 A B)(k:al n0 B C):al n0 A C:=
 ⟨k.os.trans h.os,k.tape.trans h.tape,k.output.trans h.output,Ok h.size k.size,fun b hb=>(k.low b hb).trans (h.low b hb),fun b cs t m hb=>k.cells b cs t m (h.cells b cs t m hb)⟩
theorem al.below{n0:Nat}{W W':NY}(h:al n0 W W'):On n0 W W':=⟨h.os,h.tape,h.output,h.size,h.low⟩
theorem al.cell{n0:Nat}{W W':NY}(h:al n0 W W'){p:Addr}{v:N2}(hc:W.cell? p=N3 v):W'.cell? p=N3 v:=by
 unfold World.cell? at hc⊢
 cases ho:W.heap[p.block]? with
 |none=>rw[ho] at hc;simp at hc
 |some o=>
  cases o with
  |cells cs t m=>rw[ho] at hc;rw[h.cells _ _ _ _ ho];exact hc
  |_=>rw[ho] at hc;simp at hc
def wv(P:Program)(g:Nat)(lb:Array N2)(X:Nat→Array N2→Prop)(M:NY→Prop)(N:Nat):Prop:=
 ∀(m l:Nat) (J Jx:Nat→NY→Prop) (W:NY),
  (∀k W1,J k W1→M W1)→(∀k W1 W2,J k W1→On W1.heap.size W1 W2→J k W2)→(∀k W1 W2,Jx k W1→On W1.heap.size W1 W2→Jx k W2)→
  (∀k x W1,k<N→X k x→J k W1→YieldAt Fence.wide (m-1) P l x W1 fun e W'=>(e= .returned (.bool Oc)∧J (k+1) W')∨(e= .returned (.bool N1)∧Jx k W'))→
  J 0 W→CallsIn Fence.wide m P g (#[.func (.yield l) #[] #[]]++lb) W fun e W'=>(∃v,e= .returned v)∧(J N W'∨∃k,k<N∧Jx k W')
def iV(I:Nat→NY→Prop)(Ix:Code→Nat→NY→Prop)(k:Nat)(W:NY):Exit→Act→NY→Prop
 | .normal,_,W'=>KeepsOthers W W'∧I (k+1) W'
 | .ret,_,W'=>KeepsOthers W W'∧Ix .ret k W'
 | .exit id,_,W'=>KeepsOthers W W'∧Ix (.exit id) k W'
 | .goto t,_,W'=>KeepsOthers W W'∧Ix (.goto t) k W'
 | .panic _,_,_=>False
 | .outgrown,_,_=>False
variable {P : Program}
theorem ef{n:Nat}{g:Operand}{ps:Array Tmp}{assign body:Code}{Q:Exit→Act→NY→Prop}{a:Act}{w:NY}
  {gf:Nat}{lb:Array N2}(hg:a.eval g= .func (.func gf) #[] lb)(eg:∀args w,(callFunc gf args).run P w= .ok (.enter gf args) w)
  {X:Nat→Array N2→Prop}{M:NY→Prop}{N:Nat}(hseq:wv P gf lb X M N)(hps:∀k x,X k x→x.size=ps.size)
  (I:Nat→NY→Prop)(Ix:Code→Nat→NY→Prop)(hI:∀k W W',I k W→al w.heap.size W W'→I k W')(hIx:∀c k W W',Ix c k W→al w.heap.size W W'→Ix c k W')
  (hM:∀k W,I k W→M W)(h0:I 0 w)
  (hround:∀(l k:Nat) (x:Array N2) (W:NY) (K:Act→NY→Prop),k<N→X k x→I k W→
   (∀a',(∀W2,I k W2→w.heap.size<W2.heap.size→body.wpIn (Fence.wide.inRound l) (n-1-1) P (iV I Ix k W2) a' W2)→K a' W)→
   assign.wpIn (Fence.wide.inRound l) (n-1-1) P (Exit.then K (fun _ _ _=>False)) {tmps:=(ps.zip x).foldl (fun t (p,v)=>t.setIfInBounds p v) a.tmps,defers:=[]} W)
  (hdone:∀(D:Nat) (W:NY),w.heap.size≤D→I N W→W.heap[D]?=N3 (.deferred (N3 []))→Q .normal {a with defers:={target:= .collected D,args:=#[]}::a.defers} W)
  (hstop:∀(D:Nat) (c:Code) (k:Nat) (W:NY),w.heap.size≤D→k<N→Ix c k W→W.heap[D]?=N3 (.deferred (N3 []))→c.wpIn Fence.wide n P Q {a with defers:={target:= .collected D,args:=#[]}::a.defers} W):
  (Code.rangeFunc g ps assign body).wpIn Fence.wide n P Q a w:=by
 refine wpIn_rangeFunc ?_
 intro fn hfn
 obtain⟨R,hR⟩:∃R:LoopState→Option Code→Loop,R=fun st pe=>{state:=st,pending:=pe,fn,tmps:=a.tmps,params:=ps,assign,body,defers:=w.heap.size}:=⟨_,rfl⟩
 obtain⟨W1,hW1⟩:∃W1,(w.alloc (.deferred (N3 []))).alloc (.loop (R .ready N0))=W1:=⟨_,rfl⟩
 have hL:W1.heap[w.heap.size+1]?=N3 (.loop (R .ready N0)):=by
  have:=NY.alloc_heap_new (w.alloc (.deferred (N3 []))) (.loop (R .ready N0))
  rwa[Oi,hW1] at this
 have hD:W1.heap[w.heap.size]?=N3 (.deferred (N3 [])):=by
  rw[←hW1];exact(Below.heap_alloc _ _ _ Ow).trans (NY.alloc_heap_new w _)
 have hb1:On w.heap.size w W1:=by rw[←hW1];exact((Below.refl _ w).alloc (NZ _) _).alloc Ow _
 have hI1:I 0 W1:=hI 0 _ _ h0 (al.aH hb1 (NZ _))
 refine⟨w.heap.size+1,[{target:= .collected w.heap.size,args:=#[]}],W1,{target:= .fn (.func gf) lb,args:=#[.func (.yield (w.heap.size+1)) #[] #[]]},W1,gf,
  #[.func (.yield (w.heap.size+1)) #[] #[]]++lb,W1,?_,?_,?_,?_,?_,?_⟩
 ·rw[←hW1,hR];exact run_enterLoop_outer _ _ _ _ _
 ·simp only[resolve,hg];simp[go_sem]
 ·intro _ _;trivial
 ·simp[invoke,go_sem,eg]
 ·intro h;cases h
 ·have recKeep:∀{A C:NY} {st:LoopState} {pe:Option Code},A.heap[w.heap.size+1]?=N3 (.loop (R st pe))→On A.heap.size A C→C.heap[w.heap.size+1]?=N3 (.loop (R st pe)):=
   fun h hb=>(hb.block _ (Od.1 h).1).trans h
  have defKeep:∀{A C:NY},A.heap[w.heap.size]?=N3 (.deferred (N3 []))→On A.heap.size A C→C.heap[w.heap.size]?=N3 (.deferred (N3 [])):=
   fun h hb=>(hb.block _ (Od.1 h).1).trans h
  refine(hseq (n-1) (w.heap.size+1)
   (fun k W=>I k W∧W.heap[w.heap.size+1]?=N3 (.loop (R .ready N0))∧W.heap[w.heap.size]?=N3 (.deferred (N3 [])))
   (fun k W=>∃c,Ix c k W∧W.heap[w.heap.size+1]?=N3 (.loop (R .done (N3 c)))∧W.heap[w.heap.size]?=N3 (.deferred (N3 [])))
   W1 (fun k W h=>hM k W h.1)
   (fun k A C h hb=>⟨hI k _ _ h.1 (al.aH hb (by have:=(Od.1 h.2.2).1;omega)),recKeep h.2.1 hb,defKeep h.2.2 hb⟩)
   (fun k A C h hb=>by
    obtain⟨c,h1,h2,h3⟩:=h
    exact⟨c,hIx c k _ _ h1 (al.aH hb (by have:=(Od.1 h3).1;omega)),recKeep h2 hb,defKeep h3 hb⟩)
   ?_ ⟨hI1,hL,hD⟩).mono ?_
  ·rintro k x W hk hx ⟨hi,hl,hd⟩
   have hlt:w.heap.size+1<W.heap.size:=(Od.1 hl).1
   have hy:=run_yield (P:=P) (args:=x) hl (by rw[hR];exact hps k x hx)
   rw[hR] at hy
   refine⟨fn,_,assign,body,hy,roundIn_of_wpIn hfn (hround _ k x W _ hk hx hi fun a' hbody=>⟨_,run_beginRound hl (by rw[hR]),?_⟩)⟩
   obtain⟨W2,hW2⟩:∃W2,W.putObj (w.heap.size+1) (.loop {R .ready N0 with state:= .busy})=W2:=⟨_,rfl⟩
   rw[hW2]
   have hl2:W2.heap[w.heap.size+1]?=N3 (.loop {R .ready N0 with state:= .busy}):=by rw[←hW2];exact NY.putObj_heap_same hlt
   have hd2:W2.heap[w.heap.size]?=N3 (.deferred (N3 [])):=by rw[←hW2];exact(NY.putObj_heap_other Ot).trans hd
   have hi2:I k W2:=by rw[←hW2];exact hI k _ _ hi (al.putObj _ hl rfl Ot)
   refine wpIn_mono (hbody W2 hi2 (by have:=(Od.1 hl2).1;omega)) ?_
   have fin:∀(jump:Option Code) (W3:NY),KeepsOthers W2 W3→∃W4,(Instr.endRound (w.heap.size+1) jump).run P W3= .ok (.bool jump.isNone) W4∧al w.heap.size W3 W4∧
     W4.heap[w.heap.size+1]?=N3 (.loop (R (if jump.isNone then .ready else .done) jump))∧W4.heap[w.heap.size]?=N3 (.deferred (N3 [])):=fun jump W3 hk3=>by
    have hl3:=hk3.same _ _ hl2 rfl
    have hr:=run_endRound (P:=P) jump hl3
    refine⟨_,hr,al.putObj _ hl3 rfl Ot,?_,(NY.putObj_heap_other Ot).trans (hk3.same _ _ hd2 rfl)⟩
    rw[NY.putObj_heap_same (Od.1 hl3).1,hR]
   rintro e a3 W3 hp
   cases e with
   |normal=>
    obtain⟨hk3,hi3⟩:=hp
    obtain⟨W4,hr,hs,hl4,hd4⟩:=fin N0 W3 hk3
    exact⟨_,_,hr,.inl ⟨rfl,hI _ _ _ hi3 hs,hl4,hd4⟩⟩
   |ret=>
    obtain⟨hk3,hi3⟩:=hp
    obtain⟨W4,hr,hs,hl4,hd4⟩:=fin (N3 .ret) W3 hk3
    exact⟨_,_,hr,.inr ⟨rfl,.ret,hIx _ _ _ _ hi3 hs,hl4,hd4⟩⟩
   |exit id=>
    obtain⟨hk3,hi3⟩:=hp
    obtain⟨W4,hr,hs,hl4,hd4⟩:=fin (N3 (.exit id)) W3 hk3
    exact⟨_,_,hr,.inr ⟨rfl,.exit id,hIx _ _ _ _ hi3 hs,hl4,hd4⟩⟩
   |goto t=>
    obtain⟨hk3,hi3⟩:=hp
    obtain⟨W4,hr,hs,hl4,hd4⟩:=fin (N3 (.goto t)) W3 hk3
    exact⟨_,_,hr,.inr ⟨rfl,.goto t,hIx _ _ _ _ hi3 hs,hl4,hd4⟩⟩
   |panic ch=>exact hp.elim
   |outgrown=>exact hp.elim
  ·rintro e W2 ⟨⟨v,rfl⟩,(⟨hi,hl,hd⟩|⟨k,hk,c,hi,hl,hd⟩)⟩
   ·have hr:=run_endLoop (P:=P) hl (by rw[hR];simp)
    exact⟨N0,_,by rw[hr,hR],hdone _ _ (NZ _) (hI _ _ _ hi (al.putObj _ hl rfl Ot)) ((NY.putObj_heap_other Ot).trans hd)⟩
   ·have hr:=run_endLoop (P:=P) hl (by rw[hR];simp)
    exact⟨N3 c,_,by rw[hr,hR],hstop _ c k _ (NZ _) hk (hIx _ _ _ _ hi (al.putObj _ hl rfl Ot)) ((NY.putObj_heap_other Ot).trans hd)⟩
end
section
attribute [local go_sem] Oper.semAt_some
def Av(Bs:Nat)(A:Option Addr)(n cap:Nat)(Y:Nat→Int→Prop)(W:NY):Prop:=
 W.cell? ⟨Bs,0,N0⟩=N3 (.slice A n cap)∧(0<n→∃b off,A=N3 ⟨b,off,N0⟩∧∀j,j<n→∃x:Int,W.cell? ⟨b,off+j,N0⟩=N3 (.int .i64 x)∧Y j x)
def LN(n:Nat)(Y:Nat→Int→Prop)(k:Nat)(x:Array N2):Prop:=∃v:Int,Y (n-1-k) v∧x=#[.int .i64 ((n-1-k:Nat):Int),.int .i64 v]
theorem eC(Bs:Nat)(A:Option Addr)(n cap:Nat)(Y:Nat→Int→Prop)(hn:n≤4294967296):
  wv prog 322 #[.pointer (N3 ⟨Bs,0,N0⟩)] (LN n Y) (Av Bs A n cap Y) n:=by
 intro m l J Jx W hM hJ hJx hY h0
 refine callsIn_of_wp func322 rfl trivial ?_ rfl
 have hc0:=(hM 0 W h0).1
 simp only[ntmps322,List.size_toArray,List.length_cons,List.length_nil,Nat.reduceAdd,Nat.reduceSub,Array.replicate_succ,Array.replicate_zero,List.push_toArray,List.append_toArray,List.nil_append,List.cons_append]
 gi_wp2
 gi_loopw [3] (fun i wr=>∃k:Nat,k≤n∧i= .int .i64 ((n:Int)-1-k)∧J k wr) (fun i _=>(Oh i+1).toNat)
 case atStart=>exact⟨0,Ot,Ow,h0⟩
 case round=>
  obtain⟨k,hk,rfl,hj⟩:=hrel
  obtain⟨hc,hcs⟩:=hM k wr hj
  by_cases hlt:k<n
  ·obtain⟨b,off,rfl,hcell⟩:=hcs Ot
   obtain⟨x,hx,hYx⟩:=hcell (n-1-k) Ot
   obtain⟨fn,tmps,assign,body,hy,hR⟩:=hY k _ wr hlt ⟨x,hYx,rfl⟩ hj
   have e1:((n-1-k:Nat):Int)=(n:Int)-1-k:=Ot
   rw[e1] at hy
   have e2:((n:Int)-1-k).toNat=n-1-k:=Ot
   have e3:0≤(n:Int)-1-k:=Ot
   have e4:(n:Int)-1-k<n:=Ot
   have e5:decide ((k:Int)≤(n:Int)-1)=Oc:=OB
   clear hcell hcs e1
   gi_wp2
   refine⟨fun h=>Ox,hR.mono ?_⟩
   rintro e W3 (⟨rfl,hJ3⟩|⟨rfl,hJx3⟩)
   ·gi_wp2
    go_roundw
    case rel=>exact⟨k+1,Ot,OB,hJ3⟩
    case measure=>simp[Oh];omega
   ·gi_wp2
    refine bodyPost_ret (results_none rfl _ _ _) rfl ?_
    exact⟨⟨_,rfl⟩,.inr ⟨k,hlt,hJx3⟩⟩
  ·obtain rfl:k=n:=Ot
   have e1:¬(0≤(k:Int)-1-k):=Ot
   gi_wp2
   go_end0
   exact⟨⟨_,rfl⟩,.inl hj⟩
theorem eT(w:NY)(A:Option Addr)(n cap:Nat):
  Of prog 293 #[.slice A n cap] w fun e w'=>e= .returned (.func (.func 322) #[] #[.pointer (N3 ⟨w.heap.size,0,N0⟩)])∧w'=w.alloc (.cells #[.slice A n cap] 25):=by
 go_enter func293,ntmps293
 go_wp2
 go_ret
 exact⟨rfl,rfl⟩
end
section
open Kp
attribute [local go_sem] Oper.semAt_some
theorem GI(w:NY)(x y z:Obj):(((w.alloc x).alloc y).alloc z).heap[w.heap.size]?=N3 x:=by
 rw[Below.heap_alloc _ _ _ OB,Below.heap_alloc _ _ _ Ow];exact NY.alloc_heap_new w x
theorem Ag(w:NY)(x y z:Obj):(((w.alloc x).alloc y).alloc z).heap[w.heap.size+1]?=N3 y:=by
 rw[Below.heap_alloc _ _ _ Ow]
 have:=NY.alloc_heap_new (w.alloc x) y
 rwa[Oi] at this
theorem Is(w:NY)(x y z:Obj):(((w.alloc x).alloc y).alloc z).heap[w.heap.size+2]?=N3 z:=by
 have:=NY.alloc_heap_new ((w.alloc x).alloc y) z
 rwa[Oi,Oi] at this
theorem mC(w:NY)(x y z:Obj):On w.heap.size w (((w.alloc x).alloc y).alloc z):=
 (((Below.refl _ _).alloc (NZ _) _).alloc Ow _).alloc OB _
def uI(w:NY)(a b:List Nat)(e:Ending)(w':NY):Prop:=
 ∃c:Int,e= .returned (.int .i64 c)∧(c<0↔val a<val b)∧(0<c↔val b<val a)∧On w.heap.size w w'
theorem Gq{a b:List Nat}(ha:Canon a)(hb:Canon b)(h:a.length≠b.length):
  ((a.length:Int)-b.length<0↔val a<val b)∧(0<(a.length:Int)-b.length↔val b<val a):=by
 rcases Nat.lt_or_gt_of_ne h with h|h
 ·have:=bm ha.small hb.trim h
  constructor <;>constructor <;>intro _<;>omega
 ·have:=bm hb.small ha.trim h
  constructor <;>constructor <;>intro _<;>omega
theorem Ku{a b:List Nat}{i:Nat}(ha:Canon a)(hb:Canon b)(hl:a.length=b.length)(hi:i<a.length)(hs:∀k,i<k→k<a.length→fv a k=fv b k)(hne:fv a i≠fv b i):
  ((fv a i:Int)-fv b i<0↔val a<val b)∧(0<(fv a i:Int)-fv b i↔val b<val a):=by
 unfold val
 rw[←hl]
 rcases Nat.lt_or_gt_of_ne hne with h|h
 ·have:=Jh hi (fun k _=>ai ha.small k) hs h
  constructor <;>constructor <;>intro _<;>omega
 ·have:=Jh hi (fun k _=>ai hb.small k) (fun k h1 h2=>(hs k h1 h2).symm) h
  constructor <;>constructor <;>intro _<;>omega
theorem Dm{a b:List Nat}(hl:a.length=b.length)(hs:∀k,k<a.length→fv a k=fv b k):val a=val b:=by
 unfold val
 rw[←hl];exact dO hs
theorem uS(w:NY)(a b:List Nat)(va vb:N2)(ha:aR w w.heap.size va a)(hb:aR w w.heap.size vb b)(hca:Canon a)(hcb:Canon b)(hne:a.length≠b.length):
  Of prog 290 #[va,vb] w (uI w a b):=by
 have hc:=NW (Gq hca hcb hne)
 obtain⟨A,ca,rfl,ha1,ha2,hac⟩:=ha
 obtain⟨A',cb,rfl,hb1,hb2,hbc⟩:=hb
 unfold Ol at ha2 hb2
 clear hac hbc
 have hne':((a.length:Int) !=b.length)=Oc:=Ph
 clear hne
 go_enter func290,ntmps290
 go_wp2
 exact bodyPost_ret (v:= .int .i64 ((a.length:Int)-b.length)) (by simp[results,results290,go_sem]) rfl ⟨_,rfl,hc.out.1,hc.out.2,by exact((Below.refl _ _).alloc (NZ _) _).alloc Ow _⟩
theorem aR.stays{n0 b0:Nat}{W W':NY}{v:N2}{l:List Nat}(h:aR W b0 v l)(hs:al n0 W W'):aR W' b0 v l:=by
 obtain⟨A,cap,rfl,h1,h2,hc⟩:=h
 refine⟨A,cap,rfl,h1,h2,fun hn=> ?_⟩
 obtain⟨b,off,e,hb,hcell⟩:=hc hn
 exact⟨b,off,e,hb,fun j hj=>hs.cell (hcell j hj)⟩
structure zp(w:NY)(a b:List Nat)(A:Option Addr)(ca:Nat)(A':Option Addr)(cb:Nat)(k:Nat)(W:NY):Prop where
 box:W.heap[w.heap.size]?=N3 (.cells #[.slice A' b.length cb] 25 (0,0))
 res:W.heap[w.heap.size+1]?=N3 (.cells #[.int .i64 0] 3 (0,0))
 it:W.heap[w.heap.size+2]?=N3 (.cells #[.slice A a.length ca] 25 (0,0))
 sa:aR W w.heap.size (.slice A a.length ca) a
 sb:aR W w.heap.size (.slice A' b.length cb) b
 same:∀j,a.length-k≤j→j<a.length→fv a j=fv b j
 low:On w.heap.size w W
theorem zp.stays{w:NY}{a b:List Nat}{A:Option Addr}{ca:Nat}{A':Option Addr}{cb k n0:Nat}{W W':NY}(h:zp w a b A ca A' cb k W)(hs:al n0 W W')(hn:w.heap.size≤n0):zp w a b A ca A' cb k W':=
 ⟨hs.cells _ _ _ _ h.box,hs.cells _ _ _ _ h.res,hs.cells _ _ _ _ h.it,h.sa.stays hs,h.sb.stays hs,h.same,h.low.trans (hs.below.mono hn)⟩
structure AF(w:NY)(a b:List Nat)(c:Code)(k:Nat)(W:NY):Prop where
 ret:c= .ret
 res:∃x:Int,W.heap[w.heap.size+1]?=N3 (.cells #[.int .i64 x] 3 (0,0))∧(x<0↔val a<val b)∧(0<x↔val b<val a)
 low:On w.heap.size w W
theorem AF.stays{w:NY}{a b:List Nat}{c:Code}{k n0:Nat}{W W':NY}(h:AF w a b c k W)(hs:al n0 W W')(hn:w.heap.size≤n0):AF w a b c k W':=by
 obtain⟨e,⟨x,hx,h1,h2⟩,hl⟩:=h
 exact⟨e,⟨x,hs.cells _ _ _ _ hx,h1,h2⟩,hl.trans (hs.below.mono hn)⟩
theorem cell_of_heap{W:NY}{b:Nat}{v:N2}{t:Oo}(h:W.heap[b]?=N3 (.cells #[v] t (0,0))):W.cell? ⟨b,0,N0⟩=N3 v:=by simp[World.cell?,h]
theorem frozen_of_heap{W:NY}{b:Nat}{v:N2}{t:Oo}(h:W.heap[b]?=N3 (.cells #[v] t (0,0))):W.frozen? ⟨b,0,N0⟩=N1:=by simp[World.frozen?,h]
theorem zp.back{w:NY}{a b:List Nat}{A:Option Addr}{ca:Nat}{A':Option Addr}{cb k:Nat}{W:NY}(h:zp w a b A ca A' cb k W):
  Av (w.heap.size+2) A a.length ca (fun j x=>x=fv a j) W:=by
 refine⟨cell_of_heap h.it,fun hn=> ?_⟩
 obtain⟨_,_,e,_,_,hc⟩:=h.sa
 injection e with e1 e2 e3
 subst e1 e3
 obtain⟨b,off,e,_,hcell⟩:=hc hn
 exact⟨b,off,e,fun j hj=>⟨_,hcell j hj,rfl⟩⟩
theorem tJ(w:NY)(a b:List Nat)(va vb:N2)(ha:aR w w.heap.size va a)(hb:aR w w.heap.size vb b)(hca:Canon a)(hcb:Canon b)(hl:a.length=b.length)(hlen:a.length≤4294967296):
  Of prog 290 #[va,vb] w (uI w a b):=by
 obtain⟨A,ca,rfl,ha1,ha2,hac⟩:=id ha
 obtain⟨A',cb,rfl,hb1,hb2,hbc⟩:=id hb
 unfold Ol at ha2 hb2
 refine(callsIn_wide (n:=9)).1 (callsIn_of_wp_marks func290 rfl trivial ?_)
 simp only[ntmps290,List.size_toArray,List.length_cons,List.length_nil,Nat.reduceAdd,Nat.reduceSub,Array.replicate_succ,Array.replicate_zero,List.push_toArray,List.append_toArray,List.nil_append,List.cons_append]
 have hne':((a.length:Int) !=b.length)=N1:=by rw[hl];simp
 have HL:=NW hl
 clear hl hac hbc
 gi_wp2_with(refine⟨trivial,?_⟩;gi_at_call 293;refine(callsIn_wide.2 (eT _ _ _ _)).mono ?_;rintro e w' ⟨rfl,rfl⟩)
 refine ef (gf:=322) (lb:=#[.pointer (N3 ⟨w.heap.size+2,0,N0⟩)]) rfl (enters_of func322 Ou rfl)
  (eC (w.heap.size+2) A a.length ca (fun j x=>x=fv a j) hlen) (fun k x ⟨_,_,e⟩=>PS)
  (zp w a b A ca A' cb) (AF w a b) (fun k W W' h hs=>h.stays hs OB) (fun c k W W' h hs=>h.stays hs OB) (fun k W h=>h.back) ?start ?round ?done ?stop
 case start=>
  refine⟨GI _ _ _ _,Ag _ _ _ _,Is _ _ _ _,?_,?_,fun j h1 h2=>Ot,mC _ _ _ _⟩
  ·exact ha.below (mC _ _ _ _)
  ·exact hb.below (mC _ _ _ _)
 case round=>
  intro l k x W K hk hx hi hK
  obtain⟨v,rfl,rfl⟩:=hx
  have HK:=NW hK
  clear hK
  gi_wp2
  refine HK.out _ (fun W2 hi2 _=> ?_)
  clear HK hi
  have hl:=HL.out
  have c1:=cell_of_heap hi2.box
  have c2:=cell_of_heap hi2.res
  have f2:=frozen_of_heap hi2.res
  obtain⟨_,_,e,_,_,hbc⟩:=hi2.sb
  injection e with e1 e2 e3
  subst e1 e3
  obtain⟨bb,bo,rfl,_,hcell⟩:=hbc Ot
  have hx:=hcell (a.length-1-k) Ot
  clear hcell hbc
  have i1:((a.length-1-k:Nat):Int)<b.length:=Ot
  have ba:fv a (a.length-1-k)<1000000000:=ai hca.small _
  have bb1:fv b (a.length-1-k)<1000000000:=ai hcb.small _
  by_cases hne:fv a (a.length-1-k)=fv b (a.length-1-k)
  ·have hne':((fv a (a.length-1-k):Int) !=fv b (a.length-1-k))=N1:=by rw[hne];simp
   have hsame:∀j,a.length-(k+1)≤j→j<a.length→fv a j=fv b j:=fun j h1 h2=>by
    by_cases hj:j=a.length-1-k
    ·rw[hj];exact hne
    ·exact hi2.same j Ot h2
   have HN:zp w a b A ca (N3 ⟨bb,bo,N0⟩) cb (k+1) W2:=⟨hi2.box,hi2.res,hi2.it,hi2.sa,hi2.sb,hsame,hi2.low⟩
   clear hne hsame hl
   gi_wp2
   exact⟨KeepsOthers.refl _,HN⟩
  ·have hne':((fv a (a.length-1-k):Int) !=fv b (a.length-1-k))=Oc:=Ph
   have hat:=NW (Ku hca hcb hl (i:=a.length-1-k) Ot (fun j h1 h2=>hi2.same j Ot h2) hne)
   clear hne hl
   gi_wp2
   exact⟨KeepsOthers.setCell _ _ _,rfl,⟨_,by have:=hi2.res;simp[World.setCell,Array.getElem?_modify,this],hat.out.1,hat.out.2⟩,hi2.low.setCell (p:=⟨w.heap.size+1,0,N0⟩) Ow _⟩
 case done=>
  intro D W hD hi hK
  have c2:=cell_of_heap hi.res
  have f2:=frozen_of_heap hi.res
  have hv:=Dm HL.out (fun k hk=>hi.same k Ot hk)
  gi_wp2
  refine⟨Ow,.inl ⟨_,_,rfl,run_takeDeferred ((KeepsOthers.setCell _ _ _).same D _ hK rfl),?_⟩⟩
  have hc:=(al.putObj (n0:=w.heap.size) (.deferred N0) ((KeepsOthers.setCell W ⟨w.heap.size+1,0,N0⟩ (.int .i64 0)).same D _ hK rfl) rfl Pp).cell (World.cell?_setCell_same' W ⟨w.heap.size+1,0,N0⟩ (.int .i64 0) (by rw[c2];rfl))
  have hB:On w.heap.size w ((W.setCell ⟨w.heap.size+1,0,N0⟩ (.int .i64 0)).putObj D (.deferred N0)):=
   (hi.low.setCell (p:=⟨w.heap.size+1,0,N0⟩) Ow _).trans (al.putObj (n0:=w.heap.size) (.deferred N0) ((KeepsOthers.setCell W ⟨w.heap.size+1,0,N0⟩ (.int .i64 0)).same D _ hK rfl) rfl Pp).below
  exact⟨.int .i64 0,by simp[results,results290,go_sem,hc],0,rfl,by rw[hv];omega,by rw[hv];omega,hB⟩
 case stop=>
  rintro D c k W hD hk ⟨rfl,⟨x,hx,h1,h2⟩,hl⟩ hK
  gi_wp2
  refine⟨Ow,.inl ⟨_,_,rfl,run_takeDeferred hK,?_⟩⟩
  have hs:=al.putObj (n0:=w.heap.size) (.deferred N0) hK rfl Pp
  have hc:=hs.cell (cell_of_heap hx)
  exact⟨.int .i64 x,by simp[results,results290,go_sem,hc],x,rfl,h1,h2,hl.trans hs.below⟩
theorem fV(w:NY)(a b:List Nat)(va vb:N2)(ha:aR w w.heap.size va a)(hb:aR w w.heap.size vb b)(hca:Canon a)(hcb:Canon b)(hlen:a.length≤4294967296):
  Of prog 290 #[va,vb] w (uI w a b):=by
 by_cases hl:a.length=b.length
 ·exact tJ w a b va vb ha hb hca hcb hl hlen
 ·exact uS w a b va vb ha hb hca hcb hl
end
section
def fO(ops:Array Oper):Bool:=ops.all fun o=>match o.op with| .defer _=>N1|_=>Oc
theorem jd{ops:Array Oper}(h:fO ops=Oc){i:Nat}{o:Oper}(hi:ops[i]?=N3 o)(c:Call):o.op≠ .defer c:=by
 intro e
 unfold fO at h
 rw[Array.all_eq_true] at h
 obtain⟨hlt,hv⟩:=Od.1 hi
 have:=h i hlt
 rw[hv,e] at this
 cases this
variable {P : Program} {Q : Exit → Act → NY → Prop}
theorem nk{n:Nat}{row:String}{args:Array N2}{w:NY}{R:N2→NY→Prop}(h:Rows P row args w R):RowsIn Fence.wide n P row args w R:=
 fun c cs _=>let⟨v,w',r,s⟩:=h c cs;⟨v,w',r,stepsIn_wide.2 s⟩
theorem Oper.vm{l n:Nat}{o:Oper}{a:Act}{w:NY}{K:Act→NY→Prop}(hd:∀c,o.op≠ .defer c)(h:o.wp P a w K Q):o.wpIn (Fence.wide.inRound l) n P a w K Q:=by
 unfold Oper.wpIn
 refine⟨fun _ _=>trivial,?_⟩
 show Oper.uponIn _ _ _ _ _ _ _ ((o.semAt (N3 l) a.eval).run P w)
 rw[Oper.semAt_some l a.eval o hd]
 unfold Oper.wp at h
 generalize(execOp a.eval o).run P w=r at *
 cases r with
 |ok x w'=>
  cases x with
  |value v=>exact h
  |skip=>exact h
  |defer d=>exact h
  |enter f args=>exact⟨fun h=>Ox,CallsIn.inRound l (callsIn_wide.2 h)⟩
  |row row args=>exact⟨fun h=>Ox,nk (n:=n-1) h⟩
  |_=>exact h.elim
 |halt x w'=>
  cases x with
  |panic v=>exact h
  |_=>exact h.elim
theorem eG{l n:Nat}{md:Region.Mode}{ops:Array Oper}(hd:fO ops=Oc)(hlo:¬LetsOut Q):
  ∀(fuel:Nat) (listed:Array Bool) (a:Act) (w:NY),wpAny P md ops Q fuel listed a w→wpAnyIn (Fence.wide.inRound l) n P md ops Q fuel listed a w
 |0,_,_,_,h=>h
 |fuel+1,listed,a,w,h=>by
  refine⟨h.1,fun i hi=> ?_⟩
  have h2:=h.2 i hi
  unfold wpOp at h2
  unfold wpOpIn
  cases ho:ops[i]? with
  |none=>rw[ho] at h2;exact eG hd hlo fuel _ _ _ h2
  |some o=>
   rw[ho] at h2
   simp only at h2⊢
   split
   ·rename_i hw
    rw[if_pos hw] at h2
    rcases h2 with h2|⟨_,h2⟩
    ·exact Oper.vm (fun c=>jd hd ho c) (Oper.wp_mono (fun a' w' h3=>eG hd hlo fuel _ _ _ h3) h2)
    ·exact absurd h2 hlo
   ·rename_i hw
    rw[if_neg hw] at h2
    exact⟨fun _ _=>trivial,eG hd hlo fuel _ _ _ h2⟩
def jj(R:Act→NY→Prop):Exit→Act→NY→Prop
 | .normal,a,w=>R a w
 |_,_,_=>False
theorem bR{R:Act→NY→Prop}{a:Act}{w:NY}(h:R a w):jj R .normal a w:=h
theorem yK{n:Nat}{c:Code}{a:Act}{w:NY}(h:c.wp P (jj (Q .normal)) a w):c.wpIn Fence.wide n P Q a w:=
 wpIn_wide.2 (wp_mono h fun e _ _ h=>by cases e<;>first|exact h|exact h.elim)
end
end Go.Proofs.YtnpihidbkhehjaaGreatDoor
