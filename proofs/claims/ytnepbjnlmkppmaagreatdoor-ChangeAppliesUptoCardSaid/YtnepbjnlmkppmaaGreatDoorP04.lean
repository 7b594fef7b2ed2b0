/- ChangeApplies of kingpostlaw58: part 4 of its proof (merged and shortened by program). -/
import Derived.Test.YtnepbjnlmkppmaaGreatDoorP01
set_option linter.unusedVariables false
set_option linter.unusedSimpArgs false
set_option linter.defProp false
set_option maxHeartbeats 8000000
set_option maxRecDepth 100000
open Go.RowKit Go.Shelf Go.Proofs.Tryz
open Bool renaming false→O,true→Y
open Decidable renaming decide→YG
open Go renaming World→U,Calls→XY
open Go.Ending renaming returned→YC
open Go.IntKind renaming i64→F
open Go.Lib renaming hid→A
open Go.Proofs.Tryz renaming prog→Xz
open Go.Value renaming int→G,tuple→YF
open List renaming getD_eq_getElem?_getD→XJ
open Nat renaming mul_comm→Yd
open Go.Proofs.YtnepbjnlmkppmaaGreatDoor
variable{a b:List Nat}
namespace Go.Proofs.YtnepbjnlmkppmaaGreatDoor
section
open Kp
def xa{k:IntKind}{a b a' c:Int}(h1:a=a')(h2:b=c):Ending.returned (YF #[.int k a,.int k b])=YC (YF #[.int k a',.int k c]):=by rw[h1,h2]
def Lh(x y c:Nat)(w:U)(hx:x<1000000000)(hy:y<1000000000)(g:c<=1):
  XY Xz 339 #[G F (x:Int),G F (y:Int),G F (c:Int)] w λe w'=>e=YC (YF #[G F (((x+y+c)%1000000000:Nat):Int),G F (((x+y+c)/1000000000:Nat):Int)])/\w'=w:=by
 have a:((x:Int)+(y:Int)+(c:Int))%1000000000=(((x+y+c)%1000000000:Nat):Int):=D;have b:((x:Int)+(y:Int)+(c:Int))/1000000000=(((x+y+c)/1000000000:Nat):Int):=D;have d:=A a;have f:=A b;clear a b;go_enter func339,ntmps339;go_wp2;go_ret2;exact⟨xa d.o f.o,H⟩
def FH(x y c:Nat)(w:U)(hx:x<1000000000)(hy:y<1000000000)(b:c<=1):
  XY Xz 340 #[G F (x:Int),G F (y:Int),G F (c:Int)] w λe w'=>e=YC (YF #[G F ((if y+c<=x then x-(y+c) else x+1000000000-(y+c):Nat):Int),G F ((if y+c<=x then 0 else 1:Nat):Int)])/\w'=w:=by
 by_cases h:y+c<=x
 ·have a:=A (show(x:Int)-y-c=((x-(y+c):Nat):Int) by omega);have t:YG (0<=(x:Int)-y-c)=Y:=Zo;exact a09
 ·have a:=A (show(x:Int)-y-c+1000000000=((x+1000000000-(y+c):Nat):Int) by omega);have t:YG (0<=(x:Int)-y-c)=O:=YU;exact a09
def pW(a b:List Nat):Nat->Nat×Nat
 |0=>(0,0)
 |k+1=>((C a k+C b k+(pW a b k).2)%1000000000,(C a k+C b k+(pW a b k).2)/1000000000)
def nW(a b:List Nat):Nat->Nat×Nat
 |0=>(0,0)
 |k+1=>(if C b k+(nW a b k).2<=C a k then C a k-(C b k+(nW a b k).2) else C a k+1000000000-(C b k+(nW a b k).2),if C b k+(nW a b k).2<=C a k then 0 else 1)
theorem NP(c:Small a)(d:Small b)(k:Nat):(pW a b k).2<=1/\(pW a b (k+1)).1<1000000000:=by
 have key:∀k,(pW a b k).2<=1:=by
  intro k;cases k with
  |zero=>exact Nat.zero_le _
  |succ k=>
   induction k with
   |zero=>
    have h1:=aB c 0;have h2:=aB d 0;show(C a 0+C b 0+0)/1000000000<=1;have g:C a 0<1000000000:=h1;have e:C b 0<1000000000:=h2;omega
   |succ k f=>
    have h1:C a (k+1)<1000000000:=aB c _;have h2:C b (k+1)<1000000000:=aB d _;show(C a (k+1)+C b (k+1)+(pW a b (k+1)).2)/1000000000<=1;omega
 exact⟨key k,Nat.mod_lt _ YK⟩
theorem Fv(c:Small a)(d:Small b)(k:Nat):(nW a b k).2<=1/\(nW a b (k+1)).1<1000000000:=by
 have key:∀k,(nW a b k).2<=1:=by
  intro k;cases k with
  |zero=>exact Nat.zero_le _
  |succ k=>show(if _ then 0 else 1)<=1;split <;>omega
 refine⟨key k,?_⟩;have h1:C a k<1000000000:=aB c _;have h2:C b k<1000000000:=aB d _;have e:=key k;rw[nW];dsimp only;by_cases h:C b k+(nW a b k).2<=C a k
 ·rw[XT h];omega
 ·rw[XQ h];omega
theorem QD(k:Nat):S (C (cJ (pW a b) k)) k+(pW a b k).2*B^k=S (C a) k+S (C b) k:=by
 induction k with
 |zero=>rfl
 |succ k g=>
  have e:S (C (cJ (pW a b) (k+1))) k=S (C (cJ (pW a b) k)) k:=fu λi hi=>by
   exact a1b
  have d:C (cJ (pW a b) (k+1)) k=(pW a b (k+1)).1:=by
   exact a1a
  rw[cF,cF,cF,e,d,Nat.pow_succ];have h:=Nat.div_add_mod (C a k+C b k+(pW a b k).2) 1000000000;have h1:(pW a b (k+1)).1=(C a k+C b k+(pW a b k).2)%1000000000:=rfl;have h2:(pW a b (k+1)).2=(C a k+C b k+(pW a b k).2)/1000000000:=rfl;rw[<-h1,<-h2] at h;have c:=Yv (· *B^k) h;simp only[Nat.add_mul] at c;have f:(pW a b (k+1)).2*(B^k*B)=1000000000*(pW a b (k+1)).2*B^k:=by
   show _=B*(pW a b (k+1)).2*B^k;rw[Yd (B^k) B,<-Nat.mul_assoc,Yd _ B]
  rw[f];generalize 1000000000*(pW a b (k+1)).2*B^k=u at *;generalize(pW a b (k+1)).1*B^k=v at *;generalize C a k*B^k=p at *;generalize C b k*B^k=q at *;generalize(pW a b k).2*B^k=r at *;omega
theorem QK(c:Small a)(d:Small b)(k:Nat):S (C (cJ (nW a b) k)) k+S (C b) k=S (C a) k+(nW a b k).2*B^k:=by
 induction k with
 |zero=>rfl
 |succ k m=>
  have e:S (C (cJ (nW a b) (k+1))) k=S (C (cJ (nW a b) k)) k:=fu λi hi=>by
   exact a1b
  have g:C (cJ (nW a b) (k+1)) k=(nW a b (k+1)).1:=by
   exact a1a
  rw[cF,cF,cF,e,g,Nat.pow_succ];have h1:C a k<1000000000:=aB c _;have h2:C b k<1000000000:=aB d _;have l:=(Fv c d k).1;have h:(nW a b (k+1)).1+C b k+(nW a b k).2=C a k+(nW a b (k+1)).2*1000000000:=by
   rw[nW];dsimp only;by_cases h:C b k+(nW a b k).2<=C a k
   ·rw[XT h,XT h];omega
   ·rw[XQ h,XQ h];omega
  have f:=Yv (· *B^k) h;simp only[Nat.add_mul] at f;have j:(nW a b (k+1)).2*(B^k*B)=(nW a b (k+1)).2*1000000000*B^k:=by
   show _=(nW a b (k+1)).2*B*B^k;rw[Yd (B^k) B,<-Nat.mul_assoc]
  rw[j];generalize(nW a b (k+1)).2*1000000000*B^k=u at *;generalize(nW a b (k+1)).1*B^k=v at *;generalize C a k*B^k=p at *;generalize C b k*B^k=q at *;generalize(nW a b k).2*B^k=r at *;omega
end
end Go.Proofs.YtnepbjnlmkppmaaGreatDoor

