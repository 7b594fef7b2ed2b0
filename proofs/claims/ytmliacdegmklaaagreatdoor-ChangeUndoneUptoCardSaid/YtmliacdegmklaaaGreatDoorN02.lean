/- ChangeUndone of kingpostlaw58: part 2 of its proof (merged and shortened by program). -/
import Derived.Lib.SlTrimSet
import Derived.Lib.ItoaNum
import Derived.Lib.AtoiAll
import Derived.Lib.Strings
import Derived.Lib.Atoi
import Derived.Lib.AtoiTie
import Derived.Shelf.Strings.SlTrimAscii
import Derived.Lib.AtoiErrMem
import Derived.WideLaws
import Derived.Lib.OthersKept
import Derived.Lib.OwnKind
import Derived.Lib.BufferKept
import Derived.Lib.Split
import Derived.Lib.SplitLaws
import Derived.Lib.AtoiAllCases
import Derived.Laws.Rows
import Derived.Laws.Tables
import Derived.Test.YtmliacdegmklaaaGreatDoorN00
import Derived.Test.YtmliacdegmklaaaGreatDoorN01
set_option linter.unusedVariables false
set_option linter.unusedSimpArgs false
set_option linter.defProp false
set_option maxHeartbeats 8000000
set_option maxRecDepth 100000
open Go.RowKit Go.Shelf Go.Proofs.Tryz
open Array renaming getElem?_eq_some_iff→VF
open Bool renaming false→Vw,true→VD
open Go renaming World→Vt,Value→Vy,undef→VB,wpOp_step→VE,Calls→VJ,maxLen→VP,TypeId→VR,Addr→VT
open Go.AllReady renaming cons→VO,nil→VU
open Go.Ending renaming returned→V0
open Go.IntKind renaming i64→VH
open Go.IntWalk renaming i64_in→VQ
open Go.Lib renaming hid→Vs
open Go.RowKit renaming intOf→VN,Below→VS
open Go.Value renaming slice→VV,string→VW,bool→VX,pointer→VY,int→VZ,agg→V5,tuple→V6
open Go.World renaming alloc_heap_new→VG,size_alloc→VK
open List renaming getD_eq_getElem?_getD→Vv,getElem?_eq_getElem→VA,length_map→VC,length_append→VM,length→ln
open Nat renaming le_refl→Vu,le_trans→VI,mul_comm→VL
open Option renaming none→Vx,some→Vz
open Go.Proofs.YtmliacdegmklaaaGreatDoor
variable{cs old:Array Vy}{lim lim':List Nat}{r a ds s:List UInt8}{rest xs bs' bs:List Vy}{b n i k n0 B0 bi ca b0 blk:Nat}{m:Nat×Nat}{A:Option VT}{c:UInt8}{t T:VR}{W W' w w':Vt}{p v1 v2:Vy}
namespace Kp
section
open Go
def gh(b:UInt8):Bool:=48<=b&&b<=57
def Ft:List UInt8:=[48,49,50,51,52,53,54,55,56,57]
def BV(b:UInt8):Ft.contains b=gh b:=by
 have h:∀n:Fin 256,Ft.contains (UInt8.ofNat n.1)=gh (UInt8.ofNat n.1):=Xf;have:=h ⟨b.toNat,b.toNat_lt⟩;exact XY
def wT(l:List UInt8):Lib.trimS l Ft=[]↔l.all gh=VD:=by
 have h1:∀m:List UInt8,Lib.trimLeftS m Ft=[]↔m.all gh=VD:=by
  intro m;unfold Lib.trimLeftS;simp only[BV]
  induction m with
  |nil=>simp
  |cons b m ih=>
   by_cases hb:gh b=VD
   ·simp[hb,ih]
   ·simp[hb]
 unfold Lib.trimS;rw[h1];unfold Lib.trimRightS;simp only[BV];constructor
 ·intro h;rw[List.all_eq_true] at h⊢;intro b hb;have h2:∀m:List UInt8,(∀x∈m.dropWhile (λx=>gh x),gh x=VD)->∀x∈m,gh x=VD:=by
   intro m
   induction m with
   |nil=>intro _ x hx;cases hx
   |cons c m ih=>
    intro hm x hx;by_cases hc:gh c=VD
    ·rw[List.dropWhile_cons_of_pos hc] at hm;rcases List.mem_cons.1 hx with rfl|hx
     ·exact hc
     ·exact ih hm x hx
    ·rw[List.dropWhile_cons_of_neg hc] at hm;exact hm x hx
  exact h2 l.reverse (λx hx=>h x (List.mem_reverse.2 hx)) b (List.mem_reverse.2 hb)
 ·intro h;rw[List.all_eq_true] at h⊢;intro b hb;exact h b (List.mem_reverse.1 ((List.dropWhile_suffix _).mem (List.mem_reverse.1 hb)))
def own(l:List UInt8):List UInt8:=Lib.trimPrefix l [45]
def aT(l:List UInt8):Bool:=(own l).all gh&& !(own l).isEmpty&&(!((own l).head?==Vz 48)||l==[48])
def jC(l:List UInt8):Int:=if aT l then(if 300<(own l).length then 4 else 0) else 11
theorem Ir{l r:List UInt8}(h:own l=c::r)(hc:c=48)(hl:¬l=[48]):jC l=11:=by
 unfold jC aT;rw[h,hc];simp[hl]
theorem BM{l r:List UInt8}(h:own l=c::r)(ht:(!(Lib.trimS (c::r) Ft).isEmpty)=VD):jC l=11:=by
 have:(c::r).all gh=Vw:=by
  rw[Bool.eq_false_iff];intro h1;rw[(wT _).2 h1] at ht;simp at ht
 unfold jC aT;rw[h,this];simp
theorem oQ{l r:List UInt8}(h:own l=c::r)(hc:¬c=48\/l=[48])(ht:(!(Lib.trimS (c::r) Ft).isEmpty)=Vw):jC l=if 300<ln r+1 then 4 else 0:=by
 have:(c::r).all gh=VD:=(wT _).1 (by simpa using ht);have hf:aT l=VD:=by
  unfold aT;rw[h,this];rcases hc with hc|hc
  ·simp[hc]
  ·simp[hc]
 unfold jC;rw[hf,h];simp
theorem QU(h:(c.toNat:Int)=48):c=48:=UInt8.toNat.inj Wf
end
section
open Go
def iL(b:UInt8):Nat:=b.toNat-48
def kx{b:UInt8}(h:gh b=VD):iL b<10/\48<=b.toNat/\b.toNat<=57:=by
 unfold gh at h;simp[UInt8.le_iff_toNat_le] at h;unfold iL;omega
def aw(l:List UInt8):Nat:=l.foldl (λa b=>a*10+iL b) 0
def uP(l:List UInt8)(b:UInt8):aw (l++[b])=aw l*10+iL b:=by simp[aw]
def zm{b:UInt8}(h:gh b=VD):Lib.digitVal b=Vz (iL b):=by
 have:=kx h;unfold Lib.digitVal;rw[if_pos V7];rfl
def C9(l:List UInt8)(h:l.all gh=VD):∀acc,Lib.decFrom acc l=Vz (l.foldl (λa b=>a*10+iL b) acc):=by
 induction l with
 |nil=>intro acc;rfl
 |cons b r ih=>
  intro acc;simp only[List.all_cons,Bool.and_eq_true] at h;simp only[Lib.decFrom,zm h.1,List.foldl_cons];exact ih h.2 _
def pU{l:List UInt8}(h:l.all gh=VD)(hn:l≠[]):Lib.decNat l=Vz (aw l):=by
 unfold Lib.decNat;rw[if_neg (by simpa using hn),C9 l h];rfl
def dg(l:List UInt8)(p:Nat):Nat:=iL (l.getD (ln l-1-p) 48)
def low(l:List UInt8):Nat->Nat
 |0=>0
 |i+1=>low l i+dg l i*10^i
def BQ(l:List UInt8):∀a:Nat,l.foldl (λa b=>a*10+iL b) a=a*10^ln l+aw l:=by
 induction l with
 |nil=>intro a;simp[aw]
 |cons b r ih=>
  intro a;simp only[List.foldl_cons,List.length_cons];have e:aw (b::r)=r.foldl (λa b=>a*10+iL b) (0*10+iL b):=rfl;rw[ih,e,ih];rw[Nat.pow_succ,Nat.add_mul,Nat.zero_mul,Nat.zero_add];have:a*10*10^ln r=a*(10^ln r*10):=by rw[Nat.mul_assoc,VL 10]
  omega
def gE(b:UInt8)(r:List UInt8):aw (b::r)=iL b*10^ln r+aw r:=by
 have:=BQ r (iL b);unfold aw at *;simp only[List.foldl_cons,Nat.zero_mul,Nat.zero_add];exact this
def Lm(b:UInt8)(r:List UInt8)(i:Nat)(hi:i<=ln r):low (b::r) i=low r i:=by
 induction i with
 |zero=>rfl
 |succ i ih=>
  rw[low,low,ih V7];have:dg (b::r) i=dg r i:=by
   unfold dg;have e:(b::r).length-1-i=(ln r-1-i)+1:=Wf;rw[e];simp
  rw[this]
def P3(l:List UInt8):low l (ln l)=aw l:=by
 induction l with
 |nil=>rfl
 |cons b r ih=>
  rw[List.length_cons,low,Lm b r _ (Vu _),ih,gE];have:dg (b::r) (ln r)=iL b:=by unfold dg;simp
  rw[this];omega
def QO{l:List UInt8}(h:l.all gh=VD)(i:Nat):dg l i<10:=by
 unfold dg;rw[Vv];cases hx:l[ln l-1-i]? with
 |none=>decide
 |some b=>
  rw[List.all_eq_true] at h;exact(kx (h b (List.mem_of_getElem? hx))).1
structure RY(l:List UInt8)(i:Nat)(lim:List Nat):Prop where
 small:Small lim
 eq:S (fv lim) (ln lim)=low l i
 part:fv lim (i/9)<10^(i%9)
 zero:∀k,i/9<k->fv lim k=0
def PE(i:Nat):10^(i%9)*B^(i/9)=10^i:=by
 have:B=10^9:=rfl;rw[this,<-Nat.pow_mul,<-Nat.pow_add]
 congr 1
 omega
def Jl{f g:Nat->Nat}{n j x:Nat}(hj:j<n)(hs:∀k,k≠j->g k=f k)(hx:g j=f j+x):S g n=S f n+x*B^j:=by
 have h:=Et (f:=f) (g:=g) (m:=n) (j:=j) (n:=1) V7 (λk hk=>hs k V7) (λk hk _=>hs k V7);have e:∀h:Nat->Nat,S (sh h j) 1=h j:=λh=>by unfold S S sh;simp
 rw[e,e,hx,Nat.mul_add] at h;have:B^j*x=x*B^j:=VL _ _;omega
theorem RY.step{l:List UInt8}(h:RY l i lim)(hd:l.all gh=VD)(hn:i/9<ln lim)(hl:ln lim'=ln lim)
  (hs:∀k,k≠i/9->fv lim' k=fv lim k)(hx:fv lim' (i/9)=fv lim (i/9)+dg l i*10^(i%9)):RY l (i+1) lim':=by
 have h10:=QO hd i;have hb:fv lim' (i/9)<10^(i%9+1):=by
  rw[hx,Nat.pow_succ];have:dg l i*10^(i%9)<=9*10^(i%9):=Nat.mul_le_mul_right _ V7;have:=h.part;omega
 have hB:fv lim' (i/9)<B:=by
  have:10^(i%9+1)<=10^9:=Nat.pow_le_pow_right V9 V7;exact Nat.lt_of_lt_of_le hb this
 refine⟨?_,?_,?_,?_⟩
 ·intro x hx';obtain⟨k,hk,e⟩:=List.mem_iff_getElem.1 hx';rw[<-e,<-lT hk];by_cases hki:k=i/9
  ·rw[hki];exact hB
  ·rw[hs k hki];exact aB h.small k
 ·rw[hl,Jl hn hs hx,h.eq,low,Nat.mul_assoc,PE]
 ·by_cases h8:i%9=8
  ·have e1:(i+1)/9=i/9+1:=V7;have e2:(i+1)%9=0:=V7;rw[e1,e2,hs _ V7,h.zero _ V7];decide
  ·have e1:(i+1)/9=i/9:=V7;have e2:(i+1)%9=i%9+1:=V7;rw[e1,e2];exact hb
 ·intro k hk;have:i/9<k:=V7;rw[hs k V7];exact h.zero k this
def RY.start(l:List UInt8)(n:Nat):RY l 0 (List.replicate n 0):=by
 have hz:∀k,fv (List.replicate n 0) k=0:=λk=>by unfold fv;rw[Vv,List.getElem?_replicate];split <;>rfl
 refine⟨λd hd=>by rw[List.eq_of_mem_replicate hd];decide,?_,by rw[hz];decide,λk _=>hz k⟩;rw[rr (λk _=>hz k)];rfl
end
end Kp
namespace Go.Proofs.YtmliacdegmklaaaGreatDoor
section
open Kp
abbrev tx(l:List UInt8):ByteArray:=⟨l.toArray⟩
def bf(l:List UInt8):(tx l).data.toList=l:=Wa
def ak(l:List UInt8):(tx l).size=ln l:=WQ
def oT(s:ByteArray):tx s.data.toList=s:=by cases s;simp
def Bv(l:List UInt8)(w:Vt)(hl:ln l<=1000000):
  VJ prog 344 #[VW (tx l),VW ⟨#[48,49,50,51,52,53,54,55,56,57]⟩] w λe w'=>e=V0 (VW (tx (Lib.trimS l Ft)))/\VS w.heap.size w w':=by
 have h:=Go.Proofs.Any.strings_Trim_laid O4 V8 (tx l) ⟨#[48,49,50,51,52,53,54,55,56,57]⟩ w XC V9 (ascii_of_all V9);rw[bf] at h;exact h
def cD{k:IntKind}{a b:Int}(h:a=b):Ending.returned (.int k a)=V0 (.int k b):=by rw[h]
def uQ(l:List UInt8)(w:Vt)(hl:ln l<=1000000):
  VJ prog 324 #[VW (tx l)] w λe w'=>e=V0 (VZ VH (jC l))/\VS w.heap.size w w':=by
 have hp:=Vs (strings_TrimPrefix (tx l) (tx [45]) w);obtain⟨ds,hds⟩:∃ds,own l=ds:=⟨_,rfl⟩;have hdl:ln ds<=ln l:=by rw[<-hds];unfold own Lib.trimPrefix;split <;>simp
 have hds':Lib.trimPrefix l [45]=ds:=hds;have HDS:=Vs hds;rw[hds'] at hp;clear hds hds';cases ds with
 |nil=>
  go_enter func324,ntmps324;go_wp2_with(go_at_call 243;refine hp.o.mono ?_;rintro e w' ⟨rfl,rfl⟩)
  go_ret;exact⟨cD (by unfold jC aT;rw[HDS.o];rfl),Below.refl _ _⟩
 |cons c r=>
  go_enter func324,ntmps324;go_wp2_with(first|(go_at_call 243;refine hp.o.mono ?_;rintro e w' ⟨rfl,rfl⟩)|(go_at_call 344;refine(Bv (c::r) _ (by simp at hdl⊢;omega)).mono ?_;rintro e w2 ⟨rfl,hB⟩))
  ·go_ret;exact⟨cD (BM HDS.o Wi).symm,hB⟩
  ·have hl0:l=[48]:=Wi;have h300:300<(ln r:Int)+1:=Wi;go_ret;exact⟨cD (by rw[oQ HDS.o (.inr hl0) Wi,if_pos V7]),hB⟩
  ·have hl0:l=[48]:=Wi;have h300:(ln r:Int)+1<=300:=Wi;go_ret;exact⟨cD (by rw[oQ HDS.o (.inr hl0) Wi,if_neg V7]),hB⟩
  ·have h48:(c.toNat:Int)=48:=Wi;go_ret;exact⟨cD (Ir HDS.o (QU h48) Wi).symm,Below.refl _ _⟩
  ·go_ret;exact⟨cD (BM HDS.o Wi).symm,hB⟩
  ·have h48:¬(c.toNat:Int)=48:=Wi;have h300:300<(ln r:Int)+1:=Wi;go_ret;exact⟨cD (by rw[oQ HDS.o (.inl (λh=>h48 (by rw[h];rfl))) Wi,if_pos V7]),hB⟩
  ·have h48:¬(c.toNat:Int)=48:=Wi;have h300:(ln r:Int)+1<=300:=Wi;go_ret;exact⟨cD (by rw[oQ HDS.o (.inl (λh=>h48 (by rw[h];rfl))) Wi,if_neg V7]),hB⟩
end
section
open Kp
attribute [local go_sem] Oper.semAt_some
def RJ(Bs:Nat)(l:List UInt8)(W:Vt):Prop:=W.cell? ⟨Bs,0,Vx⟩=Vz (VW (tx l))
def Th(l:List UInt8)(k:Nat)(x:Array Vy):Prop:=x=#[VZ VH (k:Int),VZ VH (dg l k:Int)]
theorem S7{l:List UInt8}(hk:k<ln l):dg l k=iL (l[ln l-1-k]'V7):=by
 unfold dg;rw[Vv,VA V7];rfl
def Cb(Bs:Nat)(l:List UInt8)(hn:ln l<=1000000)(hd:l.all gh=VD):
  CE prog 345 #[VY (Vz ⟨Bs,0,Vx⟩)] (Th l) (RJ Bs l) (ln l):=by
 intro m lp J Jx W hM hJ hJx hY h0;refine callsIn_of_wp func345 rfl trivial ?_ rfl;have hc0:=hM 0 W h0;unfold RJ at hc0;simp only[ntmps345,List.size_toArray,List.length_cons,List.length_nil,Nat.reduceAdd,Nat.reduceSub,Array.replicate_succ,Array.replicate_zero,List.push_toArray,List.append_toArray,List.nil_append,List.cons_append]
 gi_wp2
 gi_loopw [6] (λi wr=>∃k:Nat,k<=ln l/\i=VZ VH (k:Int)/\J k wr) (λi _=>((ln l:Int)-VN i).toNat)
 case atStart=>exact⟨0,V7,Wa,h0⟩
 case round=>
  obtain⟨k,hk,rfl,hj⟩:=hrel;have hc:=hM k wr hj;unfold RJ at hc;by_cases hlt:k<ln l
  ·obtain⟨fn,tmps,assign,body,hy,hR⟩:=hY k _ wr hlt rfl hj;have e1:((ln l:Int)-1-k).toNat=ln l-1-k:=V7;have hb:ln l-1-k<(tx l).size:=XC;have ev:((((tx l)[ln l-1-k]'hb).toNat:Int)-48)%256=(dg l k:Int):=by
    have hx:(tx l)[ln l-1-k]'hb=l[ln l-1-k]'V7:=rfl;rw[hx,S7 hlt];have:=kx (List.all_eq_true.1 hd _ (List.getElem_mem (n:=ln l-1-k) (h:=V7)));unfold iL at *;omega
   have HD:=Vs hd;clear hd;exact Yk
  ·obtain rfl:k=ln l:=V7;exact Yg
def Fx(w:Vt)(s:ByteArray):
  VJ prog 325 #[VW s] w λe w'=>e=V0 (.func (.func 345) #[] #[VY (Vz ⟨w.heap.size,0,Vx⟩)])/\w'=w.alloc (.cells #[VW s] 9):=by
 go_enter func325,ntmps325;go_wp2;go_ret;exact⟨rfl,rfl⟩
end
section
open Kp
attribute [local go_sem] Oper.semAt_some
def fE(W:Vt)(b:Nat)(t:VR)(u v:Vy):Prop:=W.heap[b]?=Vz (.cells #[u,v] t (0,0))
theorem fE.cell0{u v:Vy}(h:fE W b t u v):W.cell? ⟨b,0,Vx⟩=Vz u:=by unfold fE at h;simp[World.cell?,h]
theorem fE.dZ{u v:Vy}(h:fE W b t u v):W.cell? ⟨b,1,Vx⟩=Vz v:=by unfold fE at h;simp[World.cell?,h]
theorem fE.frozen{u v:Vy}(h:fE W b t u v)(i:Nat):W.frozen? ⟨b,i,Vx⟩=Vw:=by unfold fE at h;simp[World.frozen?,h]
theorem fE.stays{u v:Vy}(h:fE W b t u v)(hs:aF n0 W W'):fE W' b t u v:=hs.cells _ _ _ _ h
theorem fE.lt{u v:Vy}(h:fE W b t u v):b<W.heap.size:=(VF.1 h).1
theorem fE.dz{u v:Vy}(h:fE W b t u v){p:VT}(hp:b≠p.block)(x:Vy):fE (W.setCell p x) b t u v:=(Below.heap_setCell W p x b hp).trans h
theorem fE.mD{u v:Vy}(h:fE W b t u v)(x:Vy):fE (W.setCell ⟨b,0,Vx⟩ x) b t x v:=by
 unfold fE at h⊢;simp[World.setCell,Array.getElem?_modify,h]
theorem fE.p8{u v:Vy}(h:fE W b t u v)(x:Vy):fE (W.setCell ⟨b,1,Vx⟩ x) b t u x:=by
 unfold fE at h⊢;simp[World.setCell,Array.getElem?_modify,h]
theorem fE.alloc{u v:Vy}(h:fE W b t u v)(o:Obj):fE (W.alloc o) b t u v:=(Below.heap_alloc W o b h.lt).trans h
theorem fE.drew{u v:Vy}(h:fE W b t u v):fE W.drew b t u v:=h
theorem fE.at_{u v:Vy}(h:W.heap.size=n):fE (W.alloc (.cells #[u,v] t)) n t u v:=by subst h;exact VG W _
structure IS(w:Vt)(ds:List UInt8)(neg:Bool)(n:Nat)(k:Nat)(lim:List Nat)(u:Nat)(W:Vt):Prop where
 res:fE W w.heap.size 326 (VX Vw) (VV Vx 0 0)
 row:Row W (w.heap.size+1) n lim
 x:fE W (w.heap.size+2) 326 (VX neg) (VV (Vz ⟨w.heap.size+1,0,Vx⟩) n n)
 unit:Bx W (w.heap.size+3) 3 (VZ VH u)
 it:Bx W (w.heap.size+4) 9 (VW (tx ds))
 len:ln lim=n
 hu:k%9≠0->u=10^(k%9)
 m:RY ds k lim
 low:VS w.heap.size w W
theorem IS.stays{neg:Bool}{u n0:Nat}(h:IS w ds neg n k lim u W)(hs:aF n0 W W')(hn:w.heap.size<=n0):IS w ds neg n k lim u W':=
 ⟨h.res.stays hs,h.row.stays hs,h.x.stays hs,h.unit.stays hs,h.it.stays hs,h.len,h.hu,h.m,h.low.trans (hs.below.mono hn)⟩
def D5(w:Vt)(ds:List UInt8)(neg:Bool)(n:Nat)(k:Nat)(W:Vt):Prop:=∃lim u,IS w ds neg n k lim u W
theorem FZ{neg:Bool}{u:Nat}(h:IS w ds neg n k lim u W)(hd:ds.all gh=VD)(hk:k/9<n)(hu:u=10^(k%9)):
  IS w ds neg n (k+1) (lim.set (k/9) (fv lim (k/9)+dg ds k*u)) (u*10) ((W.setCell ⟨w.heap.size+1,k/9,Vx⟩ (VZ VH ((fv lim (k/9):Int)+(dg ds k:Int)*u))).setCell ⟨w.heap.size+3,0,Vx⟩ (VZ VH ((u:Int)*10))):=by
 obtain⟨res,row,x,unit,it,len,_,m,low⟩:=h;have e1:((fv lim (k/9):Int)+(dg ds k:Int)*u)=((fv lim (k/9)+dg ds k*u:Nat):Int):=Wa;have e2:((u:Int)*10)=((u*10:Nat):Int):=Wa;rw[e1,e2];refine⟨(res.dz Wa _).dz Wa _,(row.set V7 _).dz Wa _,(x.dz Wa _).dz Wa _,(unit.dz Wa _).put _,(it.dz Wa _).dz Wa _,by simpa using len,?_,?_,?_⟩
 ·intro h9;rw[hu,<-Nat.pow_succ]
  congr 1;omega
 ·refine m.step hd V7 Wa (λj hj=>by rw[iw V7,if_neg hj]) ?_;rw[iw V7,if_pos rfl,hu]
 ·exact(low.setCell (p:=⟨w.heap.size+1,_,Vx⟩) Wa _).setCell (p:=⟨w.heap.size+3,0,Vx⟩) Wa _
theorem Rc{neg:Bool}{u:Nat}(h:IS w ds neg n k lim u W)(hk:k%9=0):
  IS w ds neg n k lim 1 (W.setCell ⟨w.heap.size+3,0,Vx⟩ (VZ VH 1)):=
 ⟨h.res.dz Wa _,h.row.dz Wa _,h.x.dz Wa _,h.unit.put _,h.it.dz Wa _,h.len,λh=>absurd hk h,h.m,h.low.setCell (p:=⟨w.heap.size+3,0,Vx⟩) Wa _⟩
theorem IS.drew{neg:Bool}{u:Nat}(h:IS w ds neg n k lim u W):IS w ds neg n k lim u W.drew:=
 ⟨h.res,h.row,h.x,h.unit,h.it,h.len,h.hu,h.m,h.low.drew⟩
theorem nD{neg:Bool}{u g1 o1 g2 o2:Nat}
  (h:IS w ds neg n k lim u ((W.setCell ⟨g1,o1,Vx⟩ v1).setCell ⟨g2,o2,Vx⟩ v2)):
  KeepsOthers W ((W.setCell ⟨g1,o1,Vx⟩ v1).setCell ⟨g2,o2,Vx⟩ v2).drew/\D5 w ds neg n k ((W.setCell ⟨g1,o1,Vx⟩ v1).setCell ⟨g2,o2,Vx⟩ v2).drew:=
 ⟨((KeepsOthers.setCell _ _ _).trans (KeepsOthers.setCell _ _ _)).trans (KeepsOthers.drew _),_,_,h.drew⟩
theorem vU{w W0 W:Vt}{neg:Bool}{u g1 o1 g2 o2:Nat}(hk:KeepsOthers W0 W)
  (h:IS w ds neg n k lim u ((W.setCell ⟨g1,o1,Vx⟩ v1).setCell ⟨g2,o2,Vx⟩ v2)):
  KeepsOthers W0 ((W.setCell ⟨g1,o1,Vx⟩ v1).setCell ⟨g2,o2,Vx⟩ v2).drew/\D5 w ds neg n k ((W.setCell ⟨g1,o1,Vx⟩ v1).setCell ⟨g2,o2,Vx⟩ v2).drew:=
 ⟨hk.trans (nD h).1,(nD h).2⟩
def Kg(w:Vt)(s:List UInt8)(e:Ending)(w':Vt):Prop:=
 ∃v l,e=V0 (V5 #[VX (Lib.hasPrefix s [45]),v])/\Hw w w' v l/\Canon l/\val l=aw (own s)/\ln l<=(own s).length/\VS w.heap.size w w'
def lZ(w:Vt)(s:List UInt8)(hd:(own s).all gh=VD)(hl:ln s<=1000000):
  VJ prog 296 #[VW (tx s)] w (Kg w s):=by
 obtain⟨ds,hds⟩:∃ds,own s=ds:=⟨_,rfl⟩;obtain⟨neg,hneg⟩:∃neg,Lib.hasPrefix s [45]=neg:=⟨_,rfl⟩;have hdl:ln ds<=ln s:=by rw[<-hds];unfold own Lib.trimPrefix;split <;>simp
 have hds':Lib.trimPrefix s [45]=ds:=hds;have hcut:∀W,VJ prog 290 #[VW (tx s),VW ⟨#[45]⟩] W λe w'=>e=V0 (V6 #[VW (tx ds),VX neg])/\w'=W:=λW=>by
  have:=strings_CutPrefix (tx s) (tx [45]) W;rw[bf,bf,hds',hneg] at this;exact this
 rw[hds] at hd;have HDS:=Vs hds;have HNEG:=Vs hneg;have HD:=Vs hd;have HCUT:=Vs hcut;clear hds hds' hneg hcut hd;have w1:((ln ds:Int)+9-1)/9=(((ln ds+8)/9:Nat):Int):=V7;obtain⟨n,hn⟩:∃n,(ln ds+8)/9=n:=⟨_,rfl⟩;rw[hn] at w1;have HN0:=Vs hn;have hn1:n<=1000000:=V7;have hn2:ln ds<=n*9:=V7;clear hn;have hmk:=lk n V7;refine(callsIn_wide (n:=9)).1 (callsIn_of_wp_marks func296 rfl trivial ?_);simp only[ntmps296,List.size_toArray,List.length_cons,List.length_nil,Nat.reduceAdd,Nat.reduceSub,Array.replicate_succ,Array.replicate_zero,List.push_toArray,List.append_toArray,List.nil_append,List.cons_append];gi_wp2_with(refine⟨trivial,?_⟩;first|(gi_at_call 290;refine(callsIn_wide.2 (HCUT.o _)).mono ?_;rintro e w' ⟨rfl,rfl⟩)|(gi_at_call 325;refine(callsIn_wide.2 (Fx _ _)).mono ?_;rintro e w' ⟨rfl,rfl⟩))
 refine fQ (gf:=345) (lb:=#[VY (Vz ⟨w.heap.size+4,0,Vx⟩)]) rfl (enters_of func345 V8 rfl)
  (Cb (w.heap.size+4) ds V7 HD.o) (λk x e=>XB)
  (D5 w ds neg n) (λ_ _ _=>False) (λk W W' ⟨q,r,h⟩ hs=>⟨q,r,h.stays hs Wf⟩) (λc k W W' h hs=>h) (λk W ⟨q,r,h⟩=>h.it.cell) ?start ?round ?done ?stop
 case start=>
  have hB:VS w.heap.size w (((((w.alloc (.cells #[VX Vw,VV Vx 0 0] 326)).alloc (.cells (pW n) 3)).alloc (.cells #[VX neg,VV (Vz ⟨w.heap.size+1,0,Vx⟩) n n] 326)).alloc (.cells #[VZ VH 1] 3)).alloc (.cells #[VW (tx ds)] 9)):=
   (rm w _ _ _).trans ((((Below.refl _ _).alloc Wf _).alloc Wf _))
  refine⟨List.replicate n 0,1,((((fE.at_ rfl).alloc _).alloc _).alloc _).alloc _,?_,((fE.at_ Wa).alloc _).alloc _,(Bx.at_ Wa).alloc _,Bx.at_ Wa,Wa,λh=>absurd rfl h,RY.start ds n,hB⟩;have:=rn (w.alloc (.cells #[VX Vw,VV Vx 0 0] 326)) n V7;simp only[VK] at this;exact((this.alloc _).alloc _).alloc _
 case round=>
  intro l k x W K hk hx hi hK;unfold Th at hx;subst hx;have HK:=Vs hK;clear hK
  gi_wp2
  refine HK.o _ (λW2 hi2 _=> ?_);clear HK hi;obtain⟨lim,u,h⟩:=hi2;have hkn:k/9<n:=V7;have hdg:=QO HD.o k;have hfv:fv lim (k/9)<1000000000:=aB h.m.small _;have hq:((k:Int)/9).toNat=k/9:=V7;have i0:0<=(k:Int)/9:=V7;have i1:(k:Int)/9<n:=V7;by_cases h9:k%9=0
  ·have h1:=Rc h h9;obtain⟨W3,hW3⟩:∃W3,W2.setCell ⟨w.heap.size+3,0,Vx⟩ (VZ VH 1)=W3:=⟨_,rfl⟩;have hk3:=Vs (show KeepsOthers W2 W3 by rw[<-hW3];exact KeepsOthers.setCell _ _ _);rw[hW3] at h1;obtain⟨u1,hu1⟩:∃u1:Nat,u1=1:=⟨_,rfl⟩;rw[<-hu1] at h1;have hu:u1=10^(k%9):=by rw[h9,hu1]
   clear hu1;have HN:=Vs (FZ h1 HD.o hkn hu);have f2:=h.unit.frozen;have b2:=h.unit.cell;have hub:u1<=100000000:=by
    exact Ym
   have hmul:dg ds k*u1<=900000000:=by
    calc dg ds k*u1<=9*100000000:=Nat.mul_le_mul V7 hub
     _=900000000:=rfl
   have hmul':(dg ds k:Int)*(u1:Int)<=900000000:=by rw[<-Int.natCast_mul];omega
   have hmul0:0<=(dg ds k:Int)*(u1:Int):=by rw[<-Int.natCast_mul];omega
   have b0:=h1.x.dZ;have b1:=h1.unit.cell;have f1:=h1.unit.frozen;have f3:=h1.row.frozen (k/9);have b3:=h1.row.cell (j:=k/9) (by rw[h1.len];omega);have wq:VH.wrap ((k:Int)/9)=(k:Int)/9:=cC V7 V7;have w5:VH.wrap ((dg ds k:Int)*(u1:Int))=dg ds k*u1:=cC V7 V7;have w6:VH.wrap ((fv lim (k/9):Int)+(dg ds k:Int)*(u1:Int))=fv lim (k/9)+dg ds k*u1:=cC V7 V7;have w7:VH.wrap ((u1:Int)*10)=u1*10:=cC V7 V7;have ht:((k:Int)%9==0)=VD:=by rw[beq_iff_eq];omega
   have HW3:=Vs hW3;clear h h1 h9 hW3 hu hmul
   gi_wp2
   rw[HW3.o];refine wpIn_region_any V8 (gJ V8 (by rintro⟨_,_,h⟩;exact h) _ _ _ _ ?_)
   try(change wpAny _ _ _ _ _ _ _ (Vt.drew _))
   refine wpAny_take (i:=0) (v:= ?vc1) rfl V8 V8 V8 (λ_ _ _ h=>h) (Or.inl ⟨Wl,?hyc1⟩) ?_
   case hyc1=>(intro w;go_simp;try with_reducible rfl)
   refine wpAny_take (i:=2) (v:= ?vc2) rfl V8 V8 V8 (λ_ _ _ h=>h) (Or.inl ⟨Wl,?hyc2⟩) ?_
   case hyc2=>(intro w;go_simp;try with_reducible rfl)
   refine wpAny_take (i:=3) (v:= ?vc3) rfl V8 V8 V8 (λ_ _ _ h=>h) (Or.inl ⟨Wl,?hyc3⟩) ?_
   case hyc3=>(intro w;go_simp;try with_reducible rfl)
   refine wpAny_take (i:=6) (v:= ?vc4) rfl V8 V8 V8 (λ_ _ _ h=>h) (Or.inl ⟨Wl,?hyc4⟩) ?_
   case hyc4=>(intro w;go_simp;try with_reducible rfl)
   refine wpAny_ready (rs:=[1,7]) V8 Wa ?_;refine VO rfl (λK hK=> ?_) ?_
   ·go_simp;refine hK _ _ ?_;clear hK K;refine wpAny_take (i:=4) (v:= ?vc5) rfl V8 V8 V8 (λ_ _ _ h=>h) (Or.inl ⟨Wl,?hyc5⟩) ?_
    case hyc5=>(intro w;go_simp;try with_reducible rfl)
    refine wpAny_ready (rs:=[5,7]) V8 Wa ?_;refine VO rfl (λK hK=> ?_) ?_
    ·go_simp;refine hK _ _ ?_;clear hK K;refine wpAny_ready (rs:=[7]) V8 Wa ?_;refine VO rfl (λK hK=> ?_) ?_
     ·go_simp;refine hK _ _ ?_;clear hK K;refine wpAny_take (i:=8) (v:= ?vc6) rfl V8 V8 V8 (λ_ _ _ h=>h) (Or.inl ⟨Wl,?hyc6⟩) ?_
      case hyc6=>(intro w;go_simp;try with_reducible rfl)
      refine wpAny_take (i:=9) (v:= ?vc7) rfl V8 V8 V8 (λ_ _ _ h=>h) (Or.inl ⟨Wl,?hyc7⟩) ?_
      case hyc7=>(intro w;go_simp;try with_reducible rfl)
      refine wpAny_take (i:=10) (v:= ?vc8) rfl V8 V8 V8 (λ_ _ _ h=>h) (Or.inl ⟨Wl,?hyc8⟩) ?_
      case hyc8=>(intro w;go_simp;try with_reducible rfl)
      exact Yn
     exact VU
    refine VO rfl (λK hK=> ?_) ?_
    ·go_simp;refine hK _ _ ?_;clear hK K;refine wpAny_take (i:=8) (v:= ?vc9) rfl V8 V8 V8 (λ_ _ _ h=>h) (Or.inl ⟨Wl,?hyc9⟩) ?_
     case hyc9=>(intro w;go_simp;try with_reducible rfl)
     refine wpAny_ready (rs:=[5]) V8 Wa ?_;refine VO rfl (λK hK=> ?_) ?_
     ·go_simp;refine hK _ _ ?_;clear hK K;refine wpAny_take (i:=9) (v:= ?vc10) rfl V8 V8 V8 (λ_ _ _ h=>h) (Or.inl ⟨Wl,?hyc10⟩) ?_
      case hyc10=>(intro w;go_simp;try with_reducible rfl)
      refine wpAny_take (i:=10) (v:= ?vc11) rfl V8 V8 V8 (λ_ _ _ h=>h) (Or.inl ⟨Wl,?hyc11⟩) ?_
      case hyc11=>(intro w;go_simp;try with_reducible rfl)
      exact Yn
     exact VU
    exact VU
   refine VO rfl (λK hK=> ?_) ?_
   ·go_simp;refine hK _ _ ?_;clear hK K;refine wpAny_take (i:=8) (v:= ?vc12) rfl V8 V8 V8 (λ_ _ _ h=>h) (Or.inl ⟨Wl,?hyc12⟩) ?_
    case hyc12=>(intro w;go_simp;try with_reducible rfl)
    refine wpAny_ready (rs:=[1]) V8 Wa ?_;refine VO rfl (λK hK=> ?_) ?_
    ·go_simp;refine hK _ _ ?_;clear hK K;refine wpAny_take (i:=4) (v:= ?vc13) rfl V8 V8 V8 (λ_ _ _ h=>h) (Or.inl ⟨Wl,?hyc13⟩) ?_
     case hyc13=>(intro w;go_simp;try with_reducible rfl)
     refine wpAny_ready (rs:=[5]) V8 Wa ?_;refine VO rfl (λK hK=> ?_) ?_
     ·go_simp;refine hK _ _ ?_;clear hK K;refine wpAny_take (i:=9) (v:= ?vc14) rfl V8 V8 V8 (λ_ _ _ h=>h) (Or.inl ⟨Wl,?hyc14⟩) ?_
      case hyc14=>(intro w;go_simp;try with_reducible rfl)
      refine wpAny_take (i:=10) (v:= ?vc15) rfl V8 V8 V8 (λ_ _ _ h=>h) (Or.inl ⟨Wl,?hyc15⟩) ?_
      case hyc15=>(intro w;go_simp;try with_reducible rfl)
      exact Yn
     exact VU
    exact VU
   exact VU
  ·have hu:=h.hu h9;have HN:=Vs (FZ h HD.o hkn hu);have hub:u<=100000000:=by
    exact Ym
   have hmul:dg ds k*u<=900000000:=by
    calc dg ds k*u<=9*100000000:=Nat.mul_le_mul V7 hub
     _=900000000:=rfl
   have hmul':(dg ds k:Int)*(u:Int)<=900000000:=by rw[<-Int.natCast_mul];omega
   have hmul0:0<=(dg ds k:Int)*(u:Int):=by rw[<-Int.natCast_mul];omega
   have b0:=h.x.dZ;have b1:=h.unit.cell;have f1:=h.unit.frozen;have f3:=h.row.frozen (k/9);have b3:=h.row.cell (j:=k/9) (by rw[h.len];omega);have wq:VH.wrap ((k:Int)/9)=(k:Int)/9:=cC V7 V7;have w5:VH.wrap ((dg ds k:Int)*(u:Int))=dg ds k*u:=cC V7 V7;have w6:VH.wrap ((fv lim (k/9):Int)+(dg ds k:Int)*(u:Int))=fv lim (k/9)+dg ds k*u:=cC V7 V7;have w7:VH.wrap ((u:Int)*10)=u*10:=cC V7 V7;have ht:((k:Int)%9==0)=Vw:=Wj;clear h h9 hu hmul
   gi_wp2
   refine wpIn_region_any V8 (gJ V8 (by rintro⟨_,_,h⟩;exact h) _ _ _ _ ?_)
   try(change wpAny _ _ _ _ _ _ _ (Vt.drew _))
   refine wpAny_take (i:=0) (v:= ?vb1) rfl V8 V8 V8 (λ_ _ _ h=>h) (Or.inl ⟨Wl,?hyb1⟩) ?_
   case hyb1=>(intro w;go_simp;try with_reducible rfl)
   refine wpAny_take (i:=2) (v:= ?vb2) rfl V8 V8 V8 (λ_ _ _ h=>h) (Or.inl ⟨Wl,?hyb2⟩) ?_
   case hyb2=>(intro w;go_simp;try with_reducible rfl)
   refine wpAny_take (i:=3) (v:= ?vb3) rfl V8 V8 V8 (λ_ _ _ h=>h) (Or.inl ⟨Wl,?hyb3⟩) ?_
   case hyb3=>(intro w;go_simp;try with_reducible rfl)
   refine wpAny_take (i:=6) (v:= ?vb4) rfl V8 V8 V8 (λ_ _ _ h=>h) (Or.inl ⟨Wl,?hyb4⟩) ?_
   case hyb4=>(intro w;go_simp;try with_reducible rfl)
   refine wpAny_ready (rs:=[1,7]) V8 Wa ?_;refine VO rfl (λK hK=> ?_) ?_
   ·go_simp;refine hK _ _ ?_;clear hK K;refine wpAny_take (i:=4) (v:= ?vb5) rfl V8 V8 V8 (λ_ _ _ h=>h) (Or.inl ⟨Wl,?hyb5⟩) ?_
    case hyb5=>(intro w;go_simp;try with_reducible rfl)
    refine wpAny_ready (rs:=[5,7]) V8 Wa ?_;refine VO rfl (λK hK=> ?_) ?_
    ·go_simp;refine hK _ _ ?_;clear hK K;refine wpAny_ready (rs:=[7]) V8 Wa ?_;refine VO rfl (λK hK=> ?_) ?_
     ·go_simp;refine hK _ _ ?_;clear hK K;refine wpAny_take (i:=8) (v:= ?vb6) rfl V8 V8 V8 (λ_ _ _ h=>h) (Or.inl ⟨Wl,?hyb6⟩) ?_
      case hyb6=>(intro w;go_simp;try with_reducible rfl)
      refine wpAny_take (i:=9) (v:= ?vb7) rfl V8 V8 V8 (λ_ _ _ h=>h) (Or.inl ⟨Wl,?hyb7⟩) ?_
      case hyb7=>(intro w;go_simp;try with_reducible rfl)
      refine wpAny_take (i:=10) (v:= ?vb8) rfl V8 V8 V8 (λ_ _ _ h=>h) (Or.inl ⟨Wl,?hyb8⟩) ?_
      case hyb8=>(intro w;go_simp;try with_reducible rfl)
      exact Yl
     exact VU
    refine VO rfl (λK hK=> ?_) ?_
    ·go_simp;refine hK _ _ ?_;clear hK K;refine wpAny_take (i:=8) (v:= ?vb9) rfl V8 V8 V8 (λ_ _ _ h=>h) (Or.inl ⟨Wl,?hyb9⟩) ?_
     case hyb9=>(intro w;go_simp;try with_reducible rfl)
     refine wpAny_ready (rs:=[5]) V8 Wa ?_;refine VO rfl (λK hK=> ?_) ?_
     ·go_simp;refine hK _ _ ?_;clear hK K;refine wpAny_take (i:=9) (v:= ?vb10) rfl V8 V8 V8 (λ_ _ _ h=>h) (Or.inl ⟨Wl,?hyb10⟩) ?_
      case hyb10=>(intro w;go_simp;try with_reducible rfl)
      refine wpAny_take (i:=10) (v:= ?vb11) rfl V8 V8 V8 (λ_ _ _ h=>h) (Or.inl ⟨Wl,?hyb11⟩) ?_
      case hyb11=>(intro w;go_simp;try with_reducible rfl)
      exact Yl
     exact VU
    exact VU
   refine VO rfl (λK hK=> ?_) ?_
   ·go_simp;refine hK _ _ ?_;clear hK K;refine wpAny_take (i:=8) (v:= ?vb12) rfl V8 V8 V8 (λ_ _ _ h=>h) (Or.inl ⟨Wl,?hyb12⟩) ?_
    case hyb12=>(intro w;go_simp;try with_reducible rfl)
    refine wpAny_ready (rs:=[1]) V8 Wa ?_;refine VO rfl (λK hK=> ?_) ?_
    ·go_simp;refine hK _ _ ?_;clear hK K;refine wpAny_take (i:=4) (v:= ?vb13) rfl V8 V8 V8 (λ_ _ _ h=>h) (Or.inl ⟨Wl,?hyb13⟩) ?_
     case hyb13=>(intro w;go_simp;try with_reducible rfl)
     refine wpAny_ready (rs:=[5]) V8 Wa ?_;refine VO rfl (λK hK=> ?_) ?_
     ·go_simp;refine hK _ _ ?_;clear hK K;refine wpAny_take (i:=9) (v:= ?vb14) rfl V8 V8 V8 (λ_ _ _ h=>h) (Or.inl ⟨Wl,?hyb14⟩) ?_
      case hyb14=>(intro w;go_simp;try with_reducible rfl)
      refine wpAny_take (i:=10) (v:= ?vb15) rfl V8 V8 V8 (λ_ _ _ h=>h) (Or.inl ⟨Wl,?hyb15⟩) ?_
      case hyb15=>(intro w;go_simp;try with_reducible rfl)
      exact Yl
     exact VU
    exact VU
   exact VU
 case done=>
  rintro D W hD ⟨lim,u,h⟩ hK;have c1:=h.x.dZ;have c0:=h.x.cell0;have f1:=h.x.frozen 1;have d0:=h.res.cell0;have d1:=h.res.dZ;have g0:=h.res.frozen 0;have g1:=h.res.frozen 1;have hw1:=h.row;have HI:=Vs h;clear h;gi_wp2_with(refine⟨trivial,?_⟩;gi_at_call 326;refine(callsIn_wide.2 (kJ hw1 HI.o.len)).mono ?_;rintro e w' ⟨rfl,rfl⟩)
  have hh:=HI.o;obtain⟨X,hX⟩:∃X,((W.setCell ⟨w.heap.size+2,1,Vx⟩ (VV (Vz ⟨w.heap.size+1,0,Vx⟩) (aA lim).length n)).setCell ⟨w.heap.size,0,Vx⟩ (VX neg)).setCell ⟨w.heap.size,1,Vx⟩ (VV (Vz ⟨w.heap.size+1,0,Vx⟩) (aA lim).length n)=X:=⟨_,rfl⟩;have k1:X.heap[D]?=Vz (.deferred (Vz [])):=by
   rw[<-hX];exact(((KeepsOthers.setCell _ _ _).trans (KeepsOthers.setCell _ _ _)).trans (KeepsOthers.setCell _ _ _)).same D _ hK rfl
  have k2:fE X w.heap.size 326 (VX neg) (VV (Vz ⟨w.heap.size+1,0,Vx⟩) (aA lim).length n):=by
   rw[<-hX];exact((hh.res.dz Wa _).mD _).p8 _
  have k3:Row X (w.heap.size+1) n lim:=by rw[<-hX];exact((hh.row.dz Wa _).dz Wa _).dz Wa _
  have k5:VS w.heap.size w X:=by
   rw[<-hX];exact((hh.low.setCell (p:=⟨w.heap.size+2,1,Vx⟩) Wa _).setCell (p:=⟨w.heap.size,0,Vx⟩) Wa _).setCell (p:=⟨w.heap.size,1,Vx⟩) Wa _
  rw[hX];refine⟨Wa,.inl ⟨_,_,rfl,run_takeDeferred k1,?_⟩⟩;have hs:=aF.putObj (n0:=w.heap.size) (.deferred Vx) k1 rfl Xj;have q0:=(k2.stays hs).cell0;have q1:=(k2.stays hs).dZ;have hm:=hh.m;refine⟨V5 #[VX neg,VV (Vz ⟨w.heap.size+1,0,Vx⟩) (aA lim).length n],by simp[results,results296,go_sem,q0,q1],_,aA lim,by rw[HNEG.o],⟨_,_,rfl,V7,(k3.stays hs).trimmed⟩,eD hm.small,?_,?_,k5.trans hs.below⟩
  ·rw[gO,HDS.o,<-P3];exact hm.eq
  ·have:=aR lim;have:=hh.len;have:=HN0.o;rw[HDS.o];omega
 case stop=>intro D c k W hD hk h;exact h.elim
end
section
open Kp
theorem Hs{P:Program}{n:String}(h:w.var? P n=Vz cs)(hb:VS B0 w w')(hB:w.heap.size<=B0):w'.var? P n=Vz cs:=by
 unfold Vt.var? at h⊢;cases hg:P.globalNamed n with
 |none=>rw[hg] at h;cases h
 |some g=>
  rw[hg] at h;simp only[Option.bind_some] at h⊢;have hlt:g<w.heap.size:=by
   rcases Nat.lt_or_ge g w.heap.size with h'|h'
   ·exact h'
   ·rw[Array.getElem?_eq_none h'] at h;cases h
  rw[hb.block g V7];exact h
theorem below_drewN(h:VS B0 w w')(n:Nat):VS B0 w (w'.drewN n):=⟨h.os,h.tape,h.output,h.size,h.block⟩
def du(a b:List UInt8):Int:=if jC a=0 then jC b else jC a
def il(a b:List UInt8)(w:Vt)(ha:ln a<=1000000)(hb:ln b<=1000000):
  VJ prog 294 #[VW (tx a),VW (tx b)] w λe w'=>e=V0 (VZ VH (du a b))/\VS w.heap.size w w':=by
 by_cases h0:jC a=0
 ·have h0':(jC a !=0)=Vw:=by simp[h0]
  have H0:=Vs h0;clear h0;go_enter func294,ntmps294;go_wp2_with(go_at_call 324;refine(uQ _ _ Wi).mono ?_;first|(rintro e w1 ⟨rfl,hB1⟩))
  go_ret;exact⟨cD (by unfold du;rw[H0.o,if_pos rfl]),VS.trans Wi (VS.mono Wi (Below.size Wi))⟩
 ·have h0':(jC a !=0)=VD:=by simpa using h0
  have H0:=Vs h0;clear h0;go_enter func294,ntmps294;go_wp2_with(go_at_call 324;refine(uQ _ _ Wi).mono ?_;first|(rintro e w1 ⟨rfl,hB1⟩))
  go_ret;exact⟨cD (by unfold du;rw[if_neg H0.o]),hB1⟩
def num(l:List UInt8):Int:=if Lib.hasPrefix l [45] then -(aw (own l):Int) else aw (own l)
def Lp{l:List UInt8}(h:aT l=VD):Lib.atoi l=Vz (num l):=by
 unfold aT at h;simp only[Bool.and_eq_true,Bool.not_eq_true'] at h;obtain⟨⟨hd,hne⟩,_⟩:=h;have hne':own l≠[]:=by intro e;rw[e] at hne;simp at hne
 have hdec:=pU hd hne';unfold num;cases l with
 |nil=>exact absurd rfl hne'
 |cons b r=>
  by_cases hb:b=45
  ·subst hb;have e1:Lib.hasPrefix (45::r) [45]=VD:=by simp[Lib.hasPrefix]
   have e2:own (45::r)=r:=by unfold own Lib.trimPrefix;rw[if_pos e1];rfl
   rw[e2] at hdec;rw[e1,e2];simp[Lib.atoi,hdec]
  ·have e1:Lib.hasPrefix (b::r) [45]=Vw:=by simp[Lib.hasPrefix,List.isPrefixOf,Ne.symm hb]
   have e2:own (b::r)=b::r:=by unfold own Lib.trimPrefix;rw[e1];rfl
   rw[e2] at hdec hd;rw[e1,e2];have hb43:b≠43:=by
    intro e;subst e;simp[gh] at hd
   simp[Lib.atoi,hdec,hb,hb43]
def vM(a b:List UInt8)(w:Vt)(h:18<ln a\/18<ln b)(ha:ln a<=1000000)(hb:ln b<=1000000):
  VJ prog 295 #[VW (tx a),VW (tx b),VZ VH 18] w λe w'=>e=V0 (V6 #[VZ VH 0,VZ VH 0,VX Vw])/\VS w.heap.size w w':=by
 by_cases h1:18<ln a
 ·exact Yo
 ·have h2:18<ln b:=V7;exact Yo
def Hj(a:List UInt8)(ha:ln a<=18)(fa:aT a=VD)(w:Vt):
  VJ prog 187 #[VW (tx a)] w λe w'=>e=V0 (V6 #[VZ VH (num a),.nilIface])/\VS w.heap.size w w':=
 (strconv_Atoi (tx a) (num a) (by rw[ak];exact ha) (by rw[bf];exact Lp fa) w).mono λ_ _ ⟨h1,t,h2⟩=>⟨h1,by rw[h2];exact Lib.bytesWorld_below _ _ _⟩
def nE(a b:List UInt8)(w:Vt)(ha:ln a<=18)(hb:ln b<=18)(fa:aT a=VD)(fb:aT b=VD):
  VJ prog 295 #[VW (tx a),VW (tx b),VZ VH 18] w λe w'=>e=V0 (V6 #[VZ VH (num a),VZ VH (num b),VX VD])/\VS w.heap.size w w':=by
 have hnil:=λW=>run_eql_nil_nil (P:=prog) W 212 V8
 go_enter func295,ntmps295;go_wp2_with(go_at_call 187;refine(Hj _ Wi Wi _).mono ?_;rintro e w1 ⟨rfl,hB1⟩)
 go_quiet (fail)
 go_wp2;have hB:VS w.heap.size w w1:=VS.trans Wi (VS.mono Wi (Below.size Wi));exact bodyPost_ret (v:= V6 #[VZ VH (num a),VZ VH (num b),VX VD]) (by simp[results,results295,go_sem]) rfl ⟨rfl,below_drewN hB _⟩
end
section
open Kp
def Bd(B b:Nat)(T:VR)(p:Vy)(rest bs:List Vy)(w:Vt):Prop:=
 B<=b/\∃v,w.heap[b]?=Vz (.cells (p::v::rest).toArray T (0,0))/\w.ownsRow B 5 1 v (ln bs) bs/\v.ownBlock≠Vz b
structure Sk(T:VR)(n:Nat):Prop where
 lies:liesAt prog prog.depth T (n/prog.cellsOf T) 0 121 1=VD
 ne:T≠5
def mS:Sk 121 2:=⟨V8,V9⟩
def pC:Sk 123 4:=⟨V8,V9⟩
def BU(b:Nat)(p:Vy):Prop:=p=VY Vx\/p=VY (Vz ⟨b,0,Vx⟩)
abbrev sV(b:Nat):Vy:= VY (Vz ⟨b,0,Vx⟩)
def p9:(prog.info? 121).map (·.size)=Vz 2:=V8
def wR:(prog.info? 5).map (λi=>(i.zero,i.size,i.bytes))=Vz (Vz (VZ .u8 0),1,1):=V8
theorem iP{p v:Vy}(h:w.heap[b]?=Vz (.cells (p::v::rest).toArray T (0,0))):w.cell? ⟨b,0,Vx⟩=Vz p:=by simp[World.cell?,h]
theorem iW{p v:Vy}(h:w.heap[b]?=Vz (.cells (p::v::rest).toArray T (0,0))):w.cell? ⟨b,1,Vx⟩=Vz v:=by simp[World.cell?,h]
theorem nv(h:w.heap[b]?=Vz (.cells cs T (0,0)))(i:Nat):w.frozen? ⟨b,i,Vx⟩=Vw:=by simp[World.frozen?,h]
theorem Ew{cs:List Vy}(h:w.heap[b]?=Vz (.cells cs.toArray T (0,0))):w.shape? b=Vz (T,ln cs):=by simp[World.shape?,h]
def Er(b:Nat)(w:Vt)(h0:w.cell? ⟨b,0,Vx⟩=Vz (sV b)):
  VJ prog 229 #[sV b] w λe w'=>e=V0 (V6 #[])/\w'=w:=by
 obtain⟨j,hj,_⟩:=Option.map_eq_some_iff.1 p9;go_enter func229,ntmps229;go_wp2;rw[Lib.run_neq_ptr_same w _ underlying118 hj];go_wp2;go_end0;exact⟨rfl,rfl⟩
def Bn(b:Nat)(T:VR)(n:Nat)(w:Vt)(h0:w.cell? ⟨b,0,Vx⟩=Vz (VY Vx))(hsh:w.shape? b=Vz (T,n))(hn:2<=n)(hT:Sk T n)(hfz:w.frozen? ⟨b,0,Vx⟩=Vw):
  VJ prog 229 #[sV b] w λe w'=>e=V0 (V6 #[])/\w'=w.setCell ⟨b,0,Vx⟩ (sV b):=by
 obtain⟨j,hj,hjs⟩:=Option.map_eq_some_iff.1 p9;go_enter func229,ntmps229;go_wp2;rw[Lib.run_to_unsafe w ⟨b,0,Vx⟩ underlying118 underlying283 hj (by rw[hjs];decide) hsh (by show 0<n;omega)];simp only[Result.andThen];rw[Oper.upon_value];go_wp2;rw[run_callFunc_extern func256 V8 V8 V8 (e:=Extern.AbiNoEscape.same) V8];rw[Lib.run_noEscape];simp only[Result.andThen];rw[Oper.upon_value];go_wp2;rw[Lib.run_from_unsafe w ⟨b,0,Vx⟩ underlying283 underlying118 hj hsh hT.lies];simp only[Result.andThen];rw[Oper.upon_value];go_wp2;go_end0;exact⟨rfl,rfl⟩
theorem IP{p v:Vy}(h:w.heap[b]?=Vz (.cells (p::v::rest).toArray T (0,0)))(x:Vy):
  (w.setCell ⟨b,0,Vx⟩ x).heap[b]?=Vz (.cells (x::v::rest).toArray T (0,0)):=by simp[World.setCell,Array.getElem?_modify,h]
theorem Jz{p v:Vy}(h:w.heap[b]?=Vz (.cells (p::v::rest).toArray T (0,0)))(x:Vy):
  (w.setCell ⟨b,1,Vx⟩ x).heap[b]?=Vz (.cells (p::x::rest).toArray T (0,0)):=by simp[World.setCell,Array.getElem?_modify,h]
theorem yK{B b i n:Nat}{v:Vy}(h:w.ownsRow B 5 1 v n xs)(hne:v.ownBlock≠Vz b)(x:Vy):(w.setCell ⟨b,i,Vx⟩ x).ownsRow B 5 1 v n xs:=
 h.kept (row:=Vz b) ⟨rfl,rfl,rfl,by simp[World.setCell],λk _ hk=>Below.heap_setCell _ _ _ _ (λe=>hk (by simp[e]))⟩ (Or.inr hne)
structure bm(B b:Nat)(w w':Vt):Prop where
 low:VS B w w'
 kept:Lib.OthersKept 5 (Vz b) w w'
def bm.trans{B b:Nat}{a c d:Vt}(h:bm B b a c)(k:bm B b c d):bm B b a d:=⟨h.low.trans k.low,h.kept.trans k.kept⟩
def bm.refl(B b:Nat)(w:Vt):bm B b w w:=⟨Below.refl _ _,Lib.OthersKept.refl _ _ _⟩
theorem bm.others{B b:Nat}(h:bm B b w w')(hb:w.heap[b]?=Vz (.cells cs t m)):KeepsOthers w w':=
 ⟨h.low.size,λk o hk ho=>h.kept k o hk (λe=>by cases e;rw[hb] at hk;cases hk;cases ho) (λc fz e=>by subst e;cases ho)⟩
def xN(B b:Nat)(T:VR)(p:Vy)(rest bs:List Vy)(w:Vt)(h:Bd B b T p rest bs w)(hp:BU b p)(hT:Sk T (ln rest+2)):
  VJ prog 229 #[sV b] w λe w'=>e=V0 (V6 #[])/\Bd B b T (sV b) rest bs w'/\bm B b w w':=by
 obtain⟨hB,v,hb,hown,hne⟩:=h;rcases hp with rfl|rfl
 ·refine(Bn b T (ln rest+2) w (iP hb) (Ew hb) V7 hT (nv hb 0)).mono ?_;rintro e w' ⟨rfl,rfl⟩;exact⟨rfl,⟨hB,v,IP hb _,yK hown hne _,hne⟩,(Below.refl _ _).setCell (p:=⟨b,0,Vx⟩) hB _,(Lib.OthersKept.refl _ _ _).setCell ⟨b,0,Vx⟩ rfl _⟩
 ·refine(Er b w (iP hb)).mono ?_;rintro e w' ⟨rfl,rfl⟩;exact⟨rfl,⟨hB,v,hb,hown,hne⟩,bm.refl _ _ _⟩
theorem MO{B b:Nat}{p v v':Vy}(hB:B<=b)(hb:w.heap[b]?=Vz (.cells (p::v::rest).toArray T (0,0)))(hown:w.ownsRow B 5 1 v' (ln bs') bs')(hTe:T≠5):
  Bd B b T p rest bs' (w.setCell ⟨b,1,Vx⟩ v'):=by
 have hne:=Lib.ownBlock_ne hown hb hTe;exact⟨hB,v',Jz hb _,yK hown hne _,hne⟩
def jo(B b:Nat)(T:VR)(p:Vy)(rest bs:List Vy)(s:ByteArray)(w:Vt)(h:Bd B b T p rest bs w)(hp:BU b p)(hT:Sk T (ln rest+2))(hlen:ln bs+s.size<=140737488355328)(hBw:B<=w.heap.size):
  VJ prog 181 #[sV b,VW s] w λe w'=>e=V0 (V6 #[VZ VH s.size,.nilIface])/\Bd B b T (sV b) rest (bs++Lib.strCells s) w'/\bm B b w w':=by
 obtain⟨i0,hi,hz0,hz1,hz2⟩:=info_parts wR;go_enter func181,ntmps181;go_wp2_with(go_at_call 229;refine(xN B b T p rest bs _ h hp hT).mono ?_)
 rintro e w1 ⟨rfl,h1,hk1⟩;obtain⟨hB,v,hbk,hown,hne⟩:=h1;have c0:=iP hbk;have c1:=iW hbk;go_wp2_with(at_builtin;refine Lib.wpList_append_own_string _ rfl _ _ 119 9 rfl B 5 i0 underlying119 underlying9 hi hz0 hz1 hz2 _ _ _ rfl hown s rfl ?c3 ?c4 ?c5 ?_)
 case c3=>unfold VP;omega
 case c4=>omega
 case c5=>have:=hk1.low.size;omega
 intro v' w2 hown' hgrow _;have hlt:b<w1.heap.size:=(VF.1 hbk).1;have hb2:w2.heap[b]?=Vz (.cells (sV b::v::rest).toArray T (0,0)):=by
  rw[hgrow.block b hlt (λe=>hne e.symm)];exact hbk
 have d0:=iP hb2;have d1:=iW hb2;have f1:=nv hb2 1;obtain⟨ao,n',cap,rfl⟩:∃ao n' cap,v'=VV ao n' cap:=by
  exact Yp
 go_wp2;go_ret2;refine⟨rfl,?_,?_,?_⟩
 ·exact MO hB hb2 (bs':=bs++Lib.strCells s) (by simpa[Lib.strCells_length] using hown') hT.ne
 ·exact(hk1.low.grown hgrow (by have:=hk1.low.size;omega) (λk hk=>(hown.lt k hk).1)).setCell (p:=⟨b,1,Vx⟩) hB _
 ·exact(hk1.kept.grown hgrow (Lib.ownsRow_kind hown)).setCell ⟨b,1,Vx⟩ rfl _
def yq(B b:Nat)(T:VR)(p:Vy)(rest bs:List Vy)(c:Int)(w:Vt)(h:Bd B b T p rest bs w)(hp:BU b p)(hT:Sk T (ln rest+2))(hlen:ln bs+1<=140737488355328)(hBw:B<=w.heap.size):
  VJ prog 180 #[sV b,VZ .u8 c] w λe w'=>e=V0 .nilIface/\Bd B b T (sV b) rest (bs++[VZ .u8 c]) w'/\bm B b w w':=by
 obtain⟨i0,hi,hz0,hz1,hz2⟩:=info_parts wR;go_enter func180,ntmps180;go_wp2_with(go_at_call 229;refine(xN B b T p rest bs _ h hp hT).mono ?_)
 rintro e w1 ⟨rfl,h1,hk1⟩;obtain⟨hB,v,hbk,hown,hne⟩:=h1;have c0:=iP hbk;have c1:=iW hbk;go_wp2_with(at_builtin;refine wpList_append_own _ rfl _ _ 119 rfl B 5 i0 (VZ .u8 0) 1 1 underlying119 hi hz0 hz1 hz2 rfl V9 _ _ _ rfl (hown.alloc _) ⟨w1.heap.size,0,Vx⟩ 1 1 [VZ .u8 c] rfl rfl ?c1 ?c2 ?c3 ?c4 ?c5 ?_)
 case c1=>
  intro j u hj
  match j,hj with
  |0,hj=>simp at hj;subst hj;simp[VT.add]
 case c2=>intro u hu;simp at hu;subst hu;rfl
 case c3=>unfold VP;omega
 case c4=>omega
 case c5=>have:=hk1.low.size;simp;omega
 intro v' w2 hown' hgrow _;have hlt:b<w1.heap.size:=(VF.1 hbk).1;have hb2:w2.heap[b]?=Vz (.cells (sV b::v::rest).toArray T (0,0)):=by
  rw[hgrow.block b Wf (λe=>hne e.symm),Lib.alloc_old w1 _ b hlt];exact hbk
 have d0:=iP hb2;have d1:=iW hb2;have f1:=nv hb2 1;obtain⟨ao,n',cap,rfl⟩:∃ao n' cap,v'=VV ao n' cap:=by
  exact Yp
 go_wp2;go_ret;refine⟨rfl,?_,?_,?_⟩
 ·exact MO hB hb2 (bs':=bs++[VZ .u8 c]) (by simpa using hown') hT.ne
 ·exact((hk1.low.alloc (by have:=hk1.low.size;omega) _).grown hgrow (by have:=hk1.low.size;simp;omega) (λk hk=>(hown.lt k hk).1)).setCell (p:=⟨b,1,Vx⟩) hB _
 ·exact((hk1.kept.alloc _).grown hgrow (Lib.ownsRow_kind (hown.alloc _))).setCell ⟨b,1,Vx⟩ rfl _
def Lj(B b:Nat)(T:VR)(p:Vy)(rest bs:List Vy)(w:Vt)(h:Bd B b T p rest bs w):
  VJ prog 179 #[sV b] w λe w'=>e=V0 (VZ VH (ln bs))/\w'=w:=by
 obtain⟨hB,v,hbk,hown,hne⟩:=h;have c1:=iW hbk;obtain⟨ao,cap,rfl⟩:∃ao cap,v=VV ao (ln bs) cap:=by
  rcases hown.2 with⟨hv,h0⟩|⟨g,cap,cur,hv,_⟩
  ·exact⟨_,_,by rw[hv,h0]⟩
  ·exact⟨_,_,hv⟩
 clear hbk hown hne;go_enter func179,ntmps179;go_wp2;go_ret;exact⟨rfl,rfl⟩
end
section
open Kp
def nz(B b:Nat)(T:VR)(p:Vy)(rest:List Vy)(l:List UInt8)(w:Vt)(h:Bd B b T p rest (Lib.byteCells l) w)(h0:l≠[]):
  VJ prog 59 #[sV b] w λe w'=>e=V0 (VW (tx l))/\bm B b w w':=by
 obtain⟨hB,v,hbk,hown,hne⟩:=h;have hl0:ln l≠0:=by simpa using h0
 rw[Lib.byteCells_length] at hown;obtain⟨g,cap,cur,rfl,hbg,hg,hnc,hcm,hcs,htake⟩:∃g cap cur,v=VV (Vz ⟨g,0,Vx⟩) (ln l) cap/\B<=g/\w.heap[g]?=Vz (.cells cur 5 (0,0))/\ln l<=cap/\cap<=VP/\cur.size=cap*1/\cur.toList.take (ln l*1)=Lib.byteCells l:=by
  rcases hown.2 with⟨_,hz⟩|⟨g,cap,cur,hv,r⟩
  ·exact absurd hz hl0
  ·exact⟨g,cap,cur,hv,r⟩
 have c1:w.drew.cell? ⟨b,1,Vx⟩=Vz (VV (Vz ⟨g,0,Vx⟩) (ln l) cap):=iW (w:=w.drew) hbk;have hSD:(Builtin.unsafeSliceData_ #[119] 163 #[VV (Vz ⟨g,0,Vx⟩) (ln l) cap]).run prog w.drew= .ok (VY (Vz ⟨g,0,Vx⟩)) w.drew:=
  Lib.run_unsafeSliceData_row _ _ _ _ _ _ V7
 have hUS:(Builtin.unsafeString_ #[163,3] 9 #[VY (Vz ⟨g,0,Vx⟩),VZ VH (ln l)]).run prog w.drew= .ok (VW (tx l)) (w.drew.freeze ⟨g,0,Vx⟩ (ln l)):=by
  refine Lib.run_unsafeString_row w.drew 163 3 9 5 underlying163 V8 g cur.size (by have hg':w.drew.heap[g]?=Vz (.cells cur 5 (0,0)):=hg;simp[World.shape?,hg']) l h0 V7 (by unfold VP at hcm;omega) ?_;intro j x hx;have:=hown.cells (g:=g) rfl j (VZ .u8 x.toNat) (by simp[Lib.byteCells,hx]);exact this
 clear hown htake hne hcm hnc hcs;have mixed:prog.follows .mixedOrders=VD:=V8;go_enter func59,ntmps59;go_wp2;go_region_o
 all_goals(go_wp2;go_ret;exact⟨rfl,Lib.below_freeze (Below.drew (Below.refl B w)) (p:=⟨g,0,Vx⟩) hbg _,(Lib.OthersKept.refl _ _ _).drew.freeze ⟨g,0,Vx⟩ _ ⟨_,_,hg⟩⟩)
end
section
open Kp
attribute [local go_sem] Oper.semAt_some
abbrev aW(w:Vt):Prop:=Lib.TabIs prog w "internal/strconv.uint64pow10" .u64 Lib.pow10Tab
theorem aW.below(h:aW w)(hb:VS B0 w w')(hB:w.heap.size<=B0):aW w':=Hs h hb hB
def jq(n:Int)(w:Vt)(h0: -9223372036854775808<=n)(h1:n<=9223372036854775807)(ht:aW w):
  VJ prog 182 #[VZ VH n] w λe w'=>e=V0 (VW (tx (Lib.itoa n)))/\VS w.heap.size w w':=
 (strconv_Itoa n h0 h1 w ht).mono λ_ _ ⟨e,k,os,hw⟩=>⟨e,by rw[hw];exact⟨rfl,rfl,rfl,by simp[Sort.grow,Vt.drewN],λb hb=>by simp[Sort.grow,Vt.drewN,Array.getElem?_append,hb]⟩⟩
def pP(n k:Nat)(hk:1<=k)(h:n<10^k):Lib.nDigits n<=k:=by
 induction k generalizing n with
 |zero=>omega
 |succ k ih=>
  exact Yq
def mN(n:Nat)(h:n<1000000000):(Lib.itoa (n:Int)).length<=9:=by
 unfold Lib.itoa;rw[if_neg V7,Int.toNat_natCast,Lib.decDigits_length];exact pP n 9 V9 h
def FO(n:Int):Lib.itoa n≠[]:=by
 unfold Lib.itoa;split
 ·simp
 ·intro h;have:=congrArg List.length h;rw[Lib.decDigits_length,Lib.nDigits] at this;split at this<;>simp at this
def pL(first:Bool)(n:Nat):List UInt8:=if first then Lib.itoa n else Lib.repeatL [48] (9-(Lib.itoa n).length)++Lib.itoa n
def lP(l:List Nat):Nat->List UInt8
 |0=>[]
 |k+1=>lP l k++pL (k==0) (fv l (ln l-1-k))
def T5(l:List Nat):List UInt8:=if l=[] then [48] else lP l (ln l)
def iV(c:Nat):(Lib.repeatL [48] c).length=c:=by
 induction c with
 |zero=>rfl
 |succ c ih=>simp[Lib.repeatL,ih]
theorem Kk{b:Bool}(h:n<1000000000):(pL b n).length<=9:=by
 have:=mN n h;unfold pL;split
 ·exact this
 ·simp[iV];omega
def sX{l:List Nat}(h:Small l)(k:Nat):(lP l k).length<=9*k:=by
 induction k with
 |zero=>simp[lP]
 |succ k ih=>
  have:=Kk (b:=k==0) (aB h (ln l-1-k));simp[lP];omega
theorem Ns{l:List Nat}(hk:0<k):lP l k≠[]:=by
 cases k with
 |zero=>omega
 |succ k=>
  intro h;simp[lP,pL] at h;obtain⟨_,h⟩:=h;split at h
  ·exact FO _ h
  ·simp at h;exact FO _ h.2
def cO(a b:List UInt8):Lib.byteCells (a++b)=Lib.byteCells a++Lib.byteCells b:=by simp[Lib.byteCells]
theorem wO{n0 B n:Nat}{v:Vy}(h:w.ownsRow B 5 1 v n xs)(hs:aF n0 w w'):w'.ownsRow B 5 1 v n xs:=by
 obtain⟨hl,h|⟨g,cap,cur,e,hb,hh,r⟩⟩:=h
 ·exact⟨hl,.inl h⟩
 ·exact⟨hl,.inr ⟨g,cap,cur,e,hb,hs.cells _ _ _ _ hh,r⟩⟩
theorem Bd.stays{B b n0:Nat}(h:Bd B b T p rest bs w)(hs:aF n0 w w'):Bd B b T p rest bs w':=by
 obtain⟨hB,v,hb,hown,hne⟩:=h;exact⟨hB,v,hs.cells _ _ _ _ hb,wO hown hs,hne⟩
theorem Bd.below{B b:Nat}(h:Bd B b T p rest bs w)(hs:VS w.heap.size w w'):Bd B b T p rest bs w':=
 h.stays (aF.aZ hs (Vu _))
theorem fE.bd{B b c:Nat}{u v:Vy}(h:fE w c t u v)(hk:bm B b w w')(hc:c≠b)(ht:t≠5):fE w' c t u v:=
 hk.kept c _ h (λe=>hc (by cases e;rfl)) (λcs fz e=>ht (by cases e;rfl))
theorem Bx.bd{B b c:Nat}{v:Vy}(h:Bx w c t v)(hk:bm B b w w')(hc:c≠b)(ht:t≠5):Bx w' c t v:=
 hk.kept c _ h (λe=>hc (by cases e;rfl)) (λcs fz e=>ht (by cases e;rfl))
def JK(neg:Bool):List UInt8:=if neg then [45] else []
def zT(neg:Bool):(JK neg).length<=1:=by cases neg<;>simp[JK]
def AD(neg:Bool)(l:List Nat):List UInt8:=if l=[] then [48] else JK neg++lP l (ln l)
def JG(l:List Nat):AD Vw l=T5 l:=by unfold AD T5 JK;simp
structure OW(neg:Bool)(bi:Nat)(w:Vt)(l:List Nat)(A:Option VT)(ca:Nat)(k:Nat)(W:Vt):Prop where
 x:fE W w.heap.size 326 (VX neg) (VV A (ln l) ca)
 bd:∃p,BU (w.heap.size+1) p/\Bd w.heap.size (w.heap.size+1) 121 p [] (Lib.byteCells (JK neg++lP l k)) W
 it:Bx W bi 25 (VV A (ln l) ca)
 bi:w.heap.size+2<=bi
 low:VS w.heap.size w W
theorem OW.stays{neg:Bool}{l:List Nat}(h:OW neg bi w l A ca k W)(hs:aF n0 W W')(hn:w.heap.size<=n0):OW neg bi w l A ca k W':=by
 obtain⟨p,hp,hb⟩:=h.bd;exact⟨h.x.stays hs,⟨p,hp,hb.stays hs⟩,h.it.stays hs,h.bi,h.low.trans (hs.below.mono hn)⟩
theorem OW.sl{neg:Bool}{l:List Nat}(h:OW neg bi w l A ca k W)(ha:bB w w.heap.size (VV A (ln l) ca) l):bB W w.heap.size (VV A (ln l) ca) l:=ha.below h.low
theorem sS{neg:Bool}{w W2 W6:Vt}{l:List Nat}(h:OW neg bi w l A ca k W2)(hk:bm w.heap.size (w.heap.size+1) W2 W6)
  (hb:Bd w.heap.size (w.heap.size+1) 121 (sV (w.heap.size+1)) [] (Lib.byteCells (JK neg++lP l (k+1))) W6):
  KeepsOthers W2 W6/\OW neg bi w l A ca (k+1) W6:=by
 obtain⟨p,hp,hB,v,hb0,_⟩:=h.bd;exact⟨hk.others hb0,h.x.bd hk V7 V9,⟨_,.inr rfl,hb⟩,h.it.bd hk (by have:=h.bi;omega) V9,h.bi,h.low.trans hk.low⟩
theorem bm.aZ{B b:Nat}(h:VS w.heap.size w w')(hB:B<=w.heap.size):bm B b w w':=
 ⟨h.mono hB,(Lib.OthersKept.refl _ _ _).below h⟩
def M4(w:Vt)(neg:Bool)(l:List Nat)(e:Ending)(w':Vt):Prop:=e=V0 (VW (tx (AD neg l)))/\VS w.heap.size w w'
def Ek(w:Vt)(neg:Bool)(A:Option VT)(ca:Nat):VJ prog 334 #[V5 #[VX neg,VV A 0 ca]] w (M4 w neg []):=by
 go_enter func334,ntmps334;go_wp2;go_ret;exact⟨rfl,(Below.refl _ _).alloc (Vu _) _⟩
def Em(w:Vt)(neg:Bool)(l:List Nat)(v:Vy)(ha:bB w w.heap.size v l)(hs:Small l)(hlen:ln l<=1000000)(ht:aW w):
  VJ prog 334 #[V5 #[VX neg,v]] w (M4 w neg l):=by
 obtain⟨A,ca,rfl,ha1,ha2,hac⟩:=id ha;clear hac;unfold VP at ha2;by_cases hne:l=[]
 ·subst hne;exact Ek w neg A ca
 have hpos:0<ln l:=List.length_pos_iff.2 hne;have HNE:=Vs hne;have HT:=Vs ht;have HS:=Vs hs;clear hne ht hs;have hl0:((ln l:Int)==0)=Vw:=Wj;refine(callsIn_wide (n:=9)).1 (callsIn_of_wp_marks func334 rfl trivial ?_);simp only[ntmps334,List.size_toArray,List.length_cons,List.length_nil,Nat.reduceAdd,Nat.reduceSub,Array.replicate_succ,Array.replicate_zero,List.push_toArray,List.append_toArray,List.nil_append,List.cons_append];cases neg with
 |false=>
  gi_wp2_with(refine⟨trivial,?_⟩;gi_at_call 330;refine(callsIn_wide.2 (iB _ _ _ _)).mono ?_;rintro e w' ⟨rfl,rfl⟩)
  refine fQ (gf:=347) (lb:=#[VY (Vz ⟨w.heap.size+2,0,Vx⟩)]) rfl (enters_of func347 V8 rfl)
   (gB (w.heap.size+2) A (ln l) ca (λj x=>x=fv l j) V7) (λk x ⟨_,_,e⟩=>XB)
   (OW Vw (w.heap.size+2) w l A ca) (λ_ _ _=>False) (λk W W' h hs=>h.stays hs Wf) (λc k W W' h hs=>h) (λk W h=>vo h.it (h.sl ha)) ?start ?round ?done ?stop
  case start=>
   have hB:=rm w (.cells #[VX Vw,VV A (ln l) ca] 326) (.cells #[VY Vx,VV Vx 0 0] 121) (.cells #[VV A (ln l) ca] 25);refine⟨((fE.at_ rfl).alloc _).alloc _,⟨_,.inl rfl,V7,VV Vx 0 0,?_,⟨rfl,.inl ⟨rfl,rfl⟩⟩,by simp[Value.ownBlock]⟩,Bx.at_ Wa,V7,hB⟩;exact FL _ _ _ _
  case round=>
   intro lp k x W K hk hx hi hK;obtain⟨v,rfl,rfl⟩:=hx;have HK:=Vs hK;clear hK
   gi_wp2
   refine HK.o _ (λW2 hi2 _=> ?_);clear HK hi;have hsz:=hi2.low.size;have hfv:fv l (ln l-1-k)<1000000000:=aB HS.o _;have hshort:=mN _ hfv;have hwl:=sX HS.o k;have hsg:=zT Vw;exact Yr
  case done=>
   rintro D W hD h hK;obtain⟨p,hp,hb⟩:=h.bd;have cs:=Vs (nz w.heap.size (w.heap.size+1) _ p [] (JK Vw++lP l (ln l)) W hb (λh=>Ns hpos (List.append_eq_nil_iff.1 h).2));have HI:=Vs h;clear h hb;gi_wp2_with(refine⟨trivial,?_⟩;gi_at_call 59;refine(callsIn_wide.2 cs.o).mono ?_;rintro e w' ⟨rfl,hB'⟩)
   have k1:w'.heap[D]?=Vz (.deferred (Vz [])):=hB'.kept D _ hK (λe=>by cases e;simp at hD;omega) (λc fz e=>by cases e);refine⟨Wa,.inl ⟨_,_,rfl,run_takeDeferred k1,?_⟩⟩;have hs:=aF.putObj (n0:=w.heap.size) (.deferred Vx) k1 rfl Xj;refine⟨VW (tx (JK Vw++lP l (ln l))),by simp[results,results334,go_sem],?_,HI.o.low.trans (hB'.low.trans hs.below)⟩;unfold AD;rw[if_neg HNE.o]
  case stop=>intro D c k W hD hk h;exact h.elim
 |true=>
  have b0:=Vs (show Bd w.heap.size (w.heap.size+1) 121 (VY Vx) [] (Lib.byteCells []) ((w.alloc (.cells #[VX VD,VV A (ln l) ca] 326)).alloc (.cells #[VY Vx,VV Vx 0 0] 121)) from
   ⟨V7,VV Vx 0 0,by have:=VG (w.alloc (.cells #[VX VD,VV A (ln l) ca] 326)) (.cells #[VY Vx,VV Vx 0 0] 121);rw[VK] at this;exact this,⟨rfl,.inl ⟨rfl,rfl⟩⟩,by simp[Value.ownBlock]⟩)
  have X0:=Vs (show fE ((w.alloc (.cells #[VX VD,VV A (ln l) ca] 326)).alloc (.cells #[VY Vx,VV Vx 0 0] 121)) w.heap.size 326 (VX VD) (VV A (ln l) ca) from(fE.at_ rfl).alloc _);have L0:=Vs (show VS w.heap.size w ((w.alloc (.cells #[VX VD,VV A (ln l) ca] 326)).alloc (.cells #[VY Vx,VV Vx 0 0] 121)) from((Below.refl _ _).alloc (Vu _) _).alloc Wa _);have cb:=Vs (yq w.heap.size (w.heap.size+1) _ (VY Vx) [] (Lib.byteCells []) 45 _ b0.o (.inl rfl) mS (by simp[Lib.byteCells]) L0.o.size);gi_wp2_with(refine⟨trivial,?_⟩;first
   |(gi_at_call 330;refine(callsIn_wide.2 (iB _ _ _ _)).mono ?_;rintro e w' ⟨rfl,rfl⟩)
   |(gi_at_call 180;refine(callsIn_wide.2 cb.o).mono ?_;rintro e W1 ⟨rfl,hb1,hk1⟩;have X1:=Vs (X0.o.bd hk1 V7 V9);have hz1:=hk1.low.size;have hc1:=X1.o.dZ))
  have hz1':w.heap.size+2<=W1.heap.size:=by simp at hz1;omega
  refine fQ (gf:=347) (lb:=#[VY (Vz ⟨W1.heap.size,0,Vx⟩)]) rfl (enters_of func347 V8 rfl)
   (gB (W1.heap.size) A (ln l) ca (λj x=>x=fv l j) V7) (λk x ⟨_,_,e⟩=>XB)
   (OW VD (W1.heap.size) w l A ca) (λ_ _ _=>False) (λk W W' h hs=>h.stays hs Wf) (λc k W W' h hs=>h) (λk W h=>vo h.it (h.sl ha)) ?start ?round ?done ?stop
  case start=>
   have hA:VS W1.heap.size W1 (W1.alloc (.cells #[VV A (ln l) ca] 25)):=(Below.refl _ _).alloc (Vu _) _;exact⟨X1.o.alloc _,⟨_,.inr rfl,hb1.below hA⟩,Bx.at_ rfl,hz1',(L0.o.trans hk1.low).trans (hA.mono V7)⟩
  case round=>
   intro lp k x W K hk hx hi hK;obtain⟨v,rfl,rfl⟩:=hx;have HK:=Vs hK;clear hK
   gi_wp2
   refine HK.o _ (λW2 hi2 _=> ?_);clear HK hi;have hsz:=hi2.low.size;have hfv:fv l (ln l-1-k)<1000000000:=aB HS.o _;have hshort:=mN _ hfv;have hwl:=sX HS.o k;have hsg:=zT VD;exact Yr
  case done=>
   rintro D W hD h hK;obtain⟨p,hp,hb⟩:=h.bd;have cs:=Vs (nz w.heap.size (w.heap.size+1) _ p [] (JK VD++lP l (ln l)) W hb (λh=>Ns hpos (List.append_eq_nil_iff.1 h).2));have HI:=Vs h;clear h hb;gi_wp2_with(refine⟨trivial,?_⟩;gi_at_call 59;refine(callsIn_wide.2 cs.o).mono ?_;rintro e w' ⟨rfl,hB'⟩)
   have k1:w'.heap[D]?=Vz (.deferred (Vz [])):=hB'.kept D _ hK (λe=>by cases e;simp at hD;omega) (λc fz e=>by cases e);refine⟨Wa,.inl ⟨_,_,rfl,run_takeDeferred k1,?_⟩⟩;have hs:=aF.putObj (n0:=w.heap.size) (.deferred Vx) k1 rfl Xj;refine⟨VW (tx (JK VD++lP l (ln l))),by simp[results,results334,go_sem],?_,HI.o.low.trans (hB'.low.trans hs.below)⟩;unfold AD;rw[if_neg HNE.o]
  case stop=>intro D c k W hD hk h;exact h.elim
end
section
open Kp
def Ic(l:List Nat):List UInt8×Int:=if 300<(own (T5 l)).length then([],4) else(T5 l,0)
def iY(w:Vt)(r:List UInt8×Int)(e:Ending)(w':Vt):Prop:=e=V0 (V6 #[VW (tx r.1),VZ VH r.2])/\VS w.heap.size w w'
def qI(l:List UInt8):(own l).length<=ln l:=by unfold own Lib.trimPrefix;split <;>simp
def dC(s:List UInt8)(w:Vt):VJ prog 243 #[VW (tx s),VW ⟨#[45]⟩] w λe w'=>e=V0 (VW (tx (own s)))/\w'=w:=by
 have:=strings_TrimPrefix (tx s) (tx [45]) w;rw[bf,bf] at this;exact this
def qe(neg:Bool)(l:List Nat):List UInt8×Int:=if 300<(own (AD neg l)).length then([],4) else(AD neg l,0)
def DZ(l:List Nat):qe Vw l=Ic l:=by unfold qe Ic;rw[JG]
def Qj(neg:Bool){l:List Nat}(h:Small l):(AD neg l).length<=9*ln l+2:=by
 unfold AD;split
 ·simp
 ·have:=sX h (ln l);have:=zT neg;rw[VM];omega
def rY(w:Vt)(neg:Bool)(l:List Nat)(v:Vy)(ha:bB w w.heap.size v l)(hs:Small l)(hlen:ln l<=1000000)(ht:aW w):
  VJ prog 298 #[V5 #[VX neg,v]] w (iY w (qe neg l)):=by
 obtain⟨A,ca,rfl,ha1,ha2,hac⟩:=id ha;clear hac ha1 ha2;have hB0:VS w.heap.size w (w.alloc (.cells #[VX neg,VV A (ln l) ca] 326)):=(Below.refl _ _).alloc (Vu _) _;have ha'':bB (w.alloc (.cells #[VX neg,VV A (ln l) ca] 326)) (w.alloc (.cells #[VX neg,VV A (ln l) ca] 326)).heap.size (VV A (ln l) ca) l:=ha.new _;have cw:=Vs (Em _ neg l _ ha'' hs hlen (ht.below hB0 (Vu _)));have h1:=Qj neg hs;have h2:=qI (AD neg l);have HB0:=Vs hB0;clear ha ha'' hs ht hB0;by_cases h300:300<(own (AD neg l)).length
 ·have HR:=Vs (show qe neg l=([],4) by unfold qe;rw[if_pos h300]);exact Yt
 ·have HR:=Vs (show qe neg l=(AD neg l,0) by unfold qe;rw[if_neg h300]);exact Yt
def BP(w:Vt)(l:List Nat)(v:Vy)(ha:bB w w.heap.size v l)(hs:Small l)(hlen:ln l<=1000000)(ht:aW w):
  VJ prog 298 #[V5 #[VX Vw,v]] w (iY w (Ic l)):=by
 rw[<-DZ];exact rY w Vw l v ha hs hlen ht
noncomputable def pS(a b:List UInt8):List UInt8×Int:=
 if du a b=0 then(if ln a<=18/\ln b<=18 then(Lib.itoa (Nat.gcd (aw (own a)) (aw (own b)):Nat),0) else Ic (cI (Nat.gcd (aw (own a)) (aw (own b))))) else([],du a b)
def kK{a b:List UInt8}(h:du a b=0):jC a=0/\jC b=0:=by
 unfold du at h;split at h
 ·rename_i h1;exact⟨h1,h⟩
 ·rename_i h1;exact absurd h h1
theorem fy(h:jC a=0):aT a=VD/\(own a).length<=300:=by
 unfold jC at h;split at h
 ·rename_i h1;split at h
  ·omega
  ·exact⟨h1,V7⟩
 ·omega
theorem cV(h:aT a=VD):(own a).all gh=VD:=by
 unfold aT at h;simp only[Bool.and_eq_true] at h;exact h.1.1
def kB{l:List UInt8}(h:l.all gh=VD):aw l<10^ln l:=by
 induction l with
 |nil=>decide
 |cons b r ih=>
  simp only[List.all_cons,Bool.and_eq_true] at h;have h1:=(kx h.1).1;have h2:=ih h.2;rw[gE,List.length_cons,Nat.pow_succ];have:iL b*10^ln r<=9*10^ln r:=Nat.mul_le_mul_right _ V7;omega
def tI(l:List UInt8):(num l).natAbs=aw (own l):=by unfold num;split <;>simp
def Mf{l:List UInt8}(h:aT l=VD)(hl:ln l<=18):(num l).natAbs<1000000000000000000:=by
 rw[tI];have h1:=kB (cV h);have h2:=qI l;have:10^(own l).length<=10^18:=Nat.pow_le_pow_right V9 V7;exact Nat.lt_of_lt_of_le h1 this
def Nx(w:Vt)(g:Nat)(x y:Vy)(wr:Vt):Prop:=
 ∃xi yi:Int,x=VZ VH xi/\y=VZ VH yi/\xi.natAbs<1000000000000000000/\yi.natAbs<1000000000000000000/\Nat.gcd xi.natAbs yi.natAbs=g/\VS w.heap.size w wr
def Oh{w wr:Vt}{g n:Nat}{xi yi:Int}(h0:¬yi=0)(hy:yi.natAbs<1000000000000000000)(hg:Nat.gcd xi.natAbs yi.natAbs=g)(hB:VS w.heap.size w wr):
  Nx w g (VZ VH yi) (VZ VH (xi.tmod yi)) (wr.drewN n)/\(xi.tmod yi).natAbs<yi.natAbs:=by
 have h1:(xi.tmod yi).natAbs=xi.natAbs%yi.natAbs:=Int.natAbs_tmod _ _;have h2:xi.natAbs%yi.natAbs<yi.natAbs:=Nat.mod_lt _ V7;refine⟨⟨yi,_,rfl,rfl,hy,V7,?_,below_drewN hB _⟩,V7⟩;rw[h1,Nat.gcd_comm,<-Nat.gcd_rec,Nat.gcd_comm];exact hg
def Pk(a b:List UInt8)(w:Vt)(ha:ln a<=1000000)(hb:ln b<=1000000)(h:du a b≠0):
  VJ prog 260 #[VW (tx a),VW (tx b)] w (iY w (pS a b)):=by
 have HR:=Vs (show pS a b=([],du a b) by unfold pS;rw[if_neg h]);have h':(du a b !=0)=VD:=WB;clear h;go_enter func260,ntmps260;go_wp2_with(go_at_call 294;refine(il _ _ _ Wi Wi).mono ?_;rintro e w1 ⟨rfl,hB1⟩)
 go_ret2;rw[HR.o];exact⟨rfl,hB1⟩
def JH(a b:List UInt8)(w:Vt)(ha:ln a<=18)(hb:ln b<=18)(h:du a b=0)(ht:aW w):
  VJ prog 260 #[VW (tx a),VW (tx b)] w (iY w (pS a b)):=by
 have HR:=Vs (show pS a b=(Lib.itoa (Nat.gcd (aw (own a)) (aw (own b)):Nat),0) by unfold pS;rw[if_pos h,if_pos ⟨ha,hb⟩]);obtain⟨ca,cb⟩:=kK h;have fa:=(fy ca).1;have fb:=(fy cb).1;have h':(du a b !=0)=Vw:=WB;have ha':ln a<=1000000:=V7;have hb':ln b<=1000000:=V7;have HA:=Vs (Mf fa ha);have HB:=Vs (Mf fb hb);have HT:=Vs ht;clear h ca cb ht;go_enter func260,ntmps260;go_wp2_with(first|(go_at_call 294;refine(il _ _ _ Wi Wi).mono ?_;rintro e w1 ⟨rfl,hB1⟩)|(go_at_call 295;refine(nE _ _ _ Wi Wi Wi Wi).mono ?_;rintro e w2 ⟨rfl,hB2⟩))
 have hB:=hB1.trans (hB2.mono hB1.size);go_loopw [7,8] (λx y wr=>Nx w (Nat.gcd (aw (own a)) (aw (own b))) x y wr) (λ_ y _=>(VN y).natAbs)
 case atStart=>exact⟨_,_,rfl,rfl,HA.o,HB.o,by rw[tI,tI],hB⟩
 case round=>
  obtain⟨xi,yi,rfl,rfl,hx,hy,hg,hBr⟩:=hrel;by_cases h0:yi=0
  ·subst h0;rw[Int.natAbs_zero,Nat.gcd_zero_right] at hg;obtain⟨G,hG⟩:∃G,Nat.gcd (aw (own a)) (aw (own b))=G:=⟨_,rfl⟩;rw[hG] at hg HR;have hmx:max xi (-xi)=(G:Int):=V7;have hGb:G<1000000000000000000:=V7;have ct:=Vs (jq (G:Int) wr V7 V7 (HT.o.below hBr (Vu _)));clear hg hG hx hy;go_wp2_with(go_at_call 182;refine ct.o.mono ?_;rintro e w3 ⟨rfl,hB3⟩)
   go_ret2;rw[HR.o];exact⟨rfl,hBr.trans (hB3.mono hBr.size)⟩
  ·have hn:=Vs (λn=>Oh (n:=n) h0 hy hg hBr);have h0':(yi !=0)=VD:=by simpa using h0
   clear hg;go_wp2;go_quiet (fail)
   go_roundw
   case rel=>exact⟨_,_,_,_,_,_,_,_,(hn.o _).1,rfl⟩
   case measure=>exact(hn.o 0).2
end
section
open Kp
def RP(v:Vy)(w:Vt):Nat:=
 match v with
 | VV (Vz a) n _=>S (λj=>match w.cell? ⟨a.block,a.off+j,Vx⟩ with|some (.int _ x)=>x.toNat|_=>0) n
 |_=>0
theorem F0{v:Vy}{l:List Nat}(h:bB w b0 v l):RP v w=val l:=by
 obtain⟨A,cap,rfl,_,_,hc⟩:=h;by_cases hl:0<ln l
 ·obtain⟨b,off,rfl,_,hcell⟩:=hc hl;unfold RP val;refine dU (λj hj=> ?_);simp only;rw[hcell j hj];simp
 ·have:l=[]:=XI;subst this;cases A<;>rfl
structure KpL(w:Vt)(g:Nat)(x y:Vy)(wr:Vt):Prop where
 ex:∃a b,bB wr wr.heap.size x a/\bB wr wr.heap.size y b/\Canon a/\Canon b/\ln a<=400000/\ln b<=400000/\Nat.gcd (val a) (val b)=g
 low:VS w.heap.size w wr
def IH{r b:List Nat}(hr:Canon r)(hb:Canon b)(h:val r<val b):ln r<=ln b:=by
 rcases Nat.lt_or_ge (ln b) (ln r) with hlt|hge
 ·have:=bT hb.small hr.trim hlt;omega
 ·exact hge
def JV(a b:List UInt8)(w:Vt)(ha:ln a<=1000000)(hb:ln b<=1000000)(h18:18<ln a\/18<ln b)(h:du a b=0)(ht:aW w):
  VJ prog 260 #[VW (tx a),VW (tx b)] w (iY w (pS a b)):=by
 have HR:=Vs (show pS a b=Ic (cI (Nat.gcd (aw (own a)) (aw (own b)))) by unfold pS;rw[if_pos h,if_neg V7]);obtain⟨ca,cb⟩:=kK h;obtain⟨fa,la⟩:=fy ca;obtain⟨fb,lb⟩:=fy cb;have da:=cV fa;have db:=cV fb;have h':(du a b !=0)=Vw:=WB;have hfd:∀(p:Bool) (A:Option VT) (n c:Nat) (W:Vt),(Instr.field 326 (V5 #[VX p,VV A n c]) 1).run prog W= .ok (VV A n c) W:=λ_ _ _ _ _=>V8
 have HT:=Vs ht;have HLA:=Vs la;have HLB:=Vs lb;clear h ca cb ht fa fb la lb;go_enter func260,ntmps260;go_wp2_with(first|(go_at_call 294;refine(il _ _ _ Wi Wi).mono ?_;rintro e w1 ⟨rfl,hB1⟩)|(go_at_call 295;refine(vM _ _ _ Wi Wi Wi).mono ?_;rintro e w2 ⟨rfl,hB2⟩)|(go_at_call 296;refine(lZ _ _ Wi Wi).mono ?_;rintro e w3 ⟨v3,l3,rfl,⟨g3,cap3,rfl,hg3,hr3⟩,hc3,hv3,hl3,hB3⟩;have HV3:=Vs hv3;clear hv3))
 rename_i wa la ga capa hga hra hca hla hBa HVa _ _;have hB:=((hB1.trans (hB2.mono hB1.size)).trans (hBa.mono (by have:=hB1.size;have:=hB2.size;omega))).trans (hB3.mono (by have:=hB1.size;have:=hB2.size;have:=hBa.size;omega));have hsa:bB w3 w3.heap.size (VV (Vz ⟨ga,0,Vx⟩) (ln la) capa) la:=(hra.sl hra.lt).grow hB3;have hsb:bB w3 w3.heap.size (VV (Vz ⟨g3,0,Vx⟩) (ln l3) cap3) l3:=hr3.sl hr3.lt;have hst:KpL w (Nat.gcd (aw (own a)) (aw (own b))) (VV (Vz ⟨ga,0,Vx⟩) (ln la) capa) (VV (Vz ⟨g3,0,Vx⟩) (ln l3) cap3) w3:=
  ⟨⟨la,l3,hsa,hsb,hca,hc3,by have:=HLA.o;omega,by have:=HLB.o;omega,by rw[HVa.o,HV3.o]⟩,hB⟩
 have HST:=Vs hst;clear hst hsa hsb hra hr3 hla hl3 hca hc3;go_loopw [10,11] (λx y wr=>KpL w (Nat.gcd (aw (own a)) (aw (own b))) x y wr) (λ_ y wr=>RP y wr)
 case atStart=>exact HST.o
 case round=>
  obtain⟨⟨a',b',sx,sy,cx,cy,lx,ly,hg⟩,hBr⟩:=hrel;have hvy:=F0 sy;obtain⟨Ay,cpy,rfl,hy1,hy2,_⟩:=id sy;obtain⟨Ax,cpx,rfl,hx1,hx2,_⟩:=id sx;unfold VP at hy2 hx2;have HSX:=Vs sx;have HSY:=Vs sy;have HVY:=Vs hvy;by_cases h0:b'=[]
  ·subst h0;have e1:val ([]:List Nat)=0:=rfl;rw[e1,Nat.gcd_zero_right] at hg;have hlim:=mQ cx hg;rw[hlim] at HR;have cr:=Vs (BP wr a' _ sx cx.small V7 (HT.o.below hBr (Vu _)));clear hg hlim sx sy hvy;go_wp2_with(go_at_call 298;refine cr.o.mono ?_;rintro e w4 ⟨rfl,hB4⟩)
   go_ret2;rw[HR.o];exact⟨rfl,hBr.trans (hB4.mono hBr.size)⟩
  ·have hpos:0<ln b':=List.length_pos_iff.2 h0;have hpos':decide (0<(ln b':Int))=VD:=Wn;have cd:=Vs (Ei wr a' b' _ _ sx sy cx cy lx h0);have HG:=Vs hg;clear sx sy hvy hg;go_wp2_with(go_at_call 297;refine cd.o.mono ?_;rintro e w4 ⟨vq,vr,ql,rl,rfl,hsq,hcq,hvq,hsr,hcr,hvr,hB4⟩)
   have hlt:val rl<val b':=by rw[hvr];exact Nat.mod_lt _ (Gy cy.trim h0)
   refine⟨⟨⟨b',rl,HSY.o.grow hB4,hsr,cy,hcr,ly,?_,?_⟩,hBr.trans (hB4.mono hBr.size)⟩,?_⟩
   ·have:=IH hcr cy hlt;omega
   ·rw[hvr,Nat.gcd_comm,<-Nat.gcd_rec,Nat.gcd_comm];exact HG.o
   ·rw[F0 hsr,HVY.o];exact hlt
def OQ(a b:List UInt8)(w:Vt)(ha:ln a<=1000000)(hb:ln b<=1000000)(ht:aW w):
  VJ prog 260 #[VW (tx a),VW (tx b)] w (iY w (pS a b)):=by
 by_cases h:du a b=0
 ·by_cases h18:ln a<=18/\ln b<=18
  ·exact JH a b w h18.1 h18.2 h ht
  ·exact JV a b w ha hb V7 h ht
 ·exact Pk a b w ha hb h
end
section
open Kp
def lead(s:List UInt8):List UInt8:=s.takeWhile gh
def dk(s:List UInt8):Option (Nat×List UInt8):=
 if(lead s).length=0\/8<(lead s).length\/(1<(lead s).length/\s.head?=Vz 48) then Vx else Vz (aw (lead s),s.drop (lead s).length)
theorem qX(h:(s.take k).all gh=VD)(hk:k<=ln s):k<=(lead s).length:=by
 induction s generalizing k with
 |nil=>simp at hk;omega
 |cons b r ih=>
  cases k with
  |zero=>omega
  |succ k=>
   simp only[List.take_succ_cons,List.all_cons,Bool.and_eq_true] at h;have:=ih h.2 (by simpa using hk);unfold lead at *;rw[List.takeWhile_cons_of_pos h.1];exact XY
def qn(s:List UInt8):(lead s).all gh=VD:=by
 unfold lead
 induction s with
 |nil=>rfl
 |cons b r ih=>
  by_cases h:gh b=VD
  ·rw[List.takeWhile_cons_of_pos h,List.all_cons,h,ih];rfl
  ·rw[List.takeWhile_cons_of_neg h];rfl
def yv(s:List UInt8):s.take (lead s).length=lead s:=by
 have:lead s<+:s:=List.takeWhile_prefix _;obtain⟨t,ht⟩:=this;have h:(lead s++t).take (lead s).length=lead s:=Wa;rwa[ht] at h
theorem xa(h:(s.take k).all gh=VD)(hk:k<ln s)(hb:gh s[k]=Vw):(lead s).length=k:=by
 have h1:=qX h V7;rcases Nat.lt_or_ge k (lead s).length with h2|h2
 ·have h3:=qn s;rw[List.all_eq_true] at h3;have h4:s[k]∈lead s:=by
   have e:(lead s)[k]=s[k]:=by
    have:(s.take (lead s).length)[k]'Wf=s[k]:=Wa;rw[<-this];congr 1;rw[yv]
   rw[<-e];exact List.getElem_mem _
  rw[h3 _ h4] at hb;cases hb
 ·omega
theorem A0(h:(s.take (ln s)).all gh=VD):(lead s).length=ln s:=by
 have h1:=qX h (Vu _);have:(lead s).length<=ln s:=(List.takeWhile_prefix _).length_le;omega
def Ks(s:List UInt8)(n i:Vy):Prop:=
 ∃k:Nat,k<=ln s/\k<=9/\n=VZ VH (aw (s.take k):Int)/\i=VZ VH (k:Int)/\(s.take k).all gh=VD
theorem mE(hk:k<ln s):aw (s.take (k+1))=aw (s.take k)*10+iL s[k]:=by
 rw[List.take_succ_eq_append_getElem hk,uP]
theorem CN(hk:k<ln s)(h:(s.take k).all gh=VD)(hb:gh s[k]=VD):(s.take (k+1)).all gh=VD:=by
 rw[List.take_succ_eq_append_getElem hk,List.all_append,h];simp[hb]
def yM(b:UInt8):gh b=(decide (48<=(b.toNat:Int))&&decide ((b.toNat:Int)<=57)):=by
 have h:∀n:Fin 256,gh (UInt8.ofNat n.1)=(decide (48<=((UInt8.ofNat n.1).toNat:Int))&&decide (((UInt8.ofNat n.1).toNat:Int)<=57)):=Xf;have:=h ⟨b.toNat,b.toNat_lt⟩;exact XY
def nt(s:List UInt8):Vy:=match dk s with|none=> V6 #[VZ VH 0,VW ⟨#[]⟩,VX Vw]|some (n,r)=> V6 #[VZ VH n,VW (tx r),VX VD]
theorem oA(h:(k<=8/\(lead s).length=k)\/(k=9/\8<(lead s).length))(hk:k=0\/8<k\/(1<k/\s.head?=Vz 48)):nt s=V6 #[VZ VH 0,VW ⟨#[]⟩,VX Vw]:=by
 unfold nt dk;rw[if_pos];rcases h with⟨h1,h2⟩|⟨h1,h2⟩
 ·rw[h2];omega
 ·exact .inr (.inl h2)
theorem oF(h:(k<=8/\(lead s).length=k)\/(k=9/\8<(lead s).length))(hk:¬(k=0\/8<k\/(1<k/\s.head?=Vz 48))):nt s=V6 #[VZ VH (aw (s.take k)),VW (tx (s.drop k)),VX VD]:=by
 unfold nt dk;rcases h with⟨h1,h2⟩|⟨h1,h2⟩
 ·rw[if_neg (by rw[h2];exact hk),<-yv s,h2];simp
 ·omega
theorem mA{h:0<(tx s).size}(h48:(((tx s)[0]'h).toNat:Int)=48):s.head?=Vz 48:=by
 cases s with
 |nil=>simp[ak] at h
 |cons b r=>simp only[List.head?_cons];rw[QU (c:=b) h48]
theorem ti{h:0<(tx s).size}(h48:¬(((tx s)[0]'h).toNat:Int)=48):¬s.head?=Vz 48:=by
 cases s with
 |nil=>simp[ak] at h
 |cons b r=>
  simp only[List.head?_cons,Option.some.injEq];intro e;subst e;exact h48 rfl
def lg(s:List UInt8)(k:Nat):(tx s).extract k (ln s)=tx (s.drop k):=by
 unfold tx;rw[Lib.extract_eq]
 congr 2
 rw[List.take_of_length_le];simp
def sn (s : List UInt8) (w : Vt) (hs : ln s <= 1000000) :
    VJ prog 292 #[VW (tx s)] w λe w' => e =V0 (nt s) /\ VS w.heap.size w w' := by
  go_enter func292, ntmps292;go_wp2
  go_loop [5, 6] (λn i => Ks s n i) (λ_ i => ((10 : Int) - VN i).toNat)
  case atStart => exact ⟨0, V7, V7, rfl, rfl, rfl⟩
  case round =>
    obtain ⟨k, hk, hk9, rfl, rfl, hall⟩ := hrel;by_cases hgo : k < ln s /\ k <= 8 /\ ∃ h : k < ln s, gh (s[k]'h) = VD
    · obtain ⟨hlt, hk8, _, hd⟩ := hgo
      have hb : k < (tx s).size := by rw [ak]; exact hlt
      have hx : (tx s)[k]'hb = s[k] := rfl;have hdl := kx hd;have d1 : 48 <= (((tx s)[k]'hb).toNat : Int) := by rw [hx]; omega
      have d2 : (((tx s)[k]'hb).toNat : Int) <= 57 := by rw [hx]; omega
      have d3 : ((((tx s)[k]'hb).toNat : Int) - 48) % 256 = (iL s[k] : Int) := by rw [hx]; unfold iL; omega
      have hnb := kB hall;have hnb2 : aw (s.take k) < 1000000000 := Nat.lt_of_lt_of_le hnb (show 10 ^ (s.take k).length <= 10 ^ 9 from Nat.pow_le_pow_right V9 (by rw [List.length_take]; omega));have hnx : Ks s (VZ VH (10 * (aw (s.take k) : Int) + ((((tx s)[k]'hb).toNat : Int) - 48))) (VZ VH ((k : Int) + 1)) := ⟨k + 1, V7, V7, by rw [mE hlt, hx]; congr 1; unfold iL; omega, Wa, CN hlt hall hd⟩;have HNX := Vs hnx;have hd10 : iL s[k] < 10 := hdl.1;clear hnx hnb hdl hx hall hd;go_wp2;exact ⟨HNX.o, WI⟩
    · have hL : (k <= 8 /\ (lead s).length = k) \/ (k = 9 /\ 8 < (lead s).length) := by
        by_cases h9 : k = 9
        · exact .inr ⟨h9, by have := qX hall hk; omega⟩
        · refine .inl ⟨V7, ?_⟩
          by_cases hlt : k < ln s
          · refine xa hall hlt ?_
            cases hd : gh s[k] with
            | false => rfl
            | true => exact absurd ⟨hlt, V7, hlt, hd⟩ hgo
          · have e : k = ln s := by omega
            rw [e] at hall; rw [e]; exact A0 hall
      have hstop : k < ln s -> k <= 8 -> ∃ h : k < ln s, gh (s[k]'h) = Vw := λhlt h8 => ⟨hlt, by
        cases hd : gh s[k] with
        | false => rfl
        | true => exact absurd ⟨hlt, h8, hlt, hd⟩ hgo⟩
      have HL := Vs hL;have HALL := Vs hall;clear hgo hL hall;have hwhy : (¬ k < ln s) \/ (k = 9 /\ k < ln s) \/ (k <= 8 /\ ∃ h : k < (tx s).size, (((tx s)[k]'h).toNat : Int) < 48) \/ (k <= 8 /\ ∃ h : k < (tx s).size, 57 < (((tx s)[k]'h).toNat : Int)) := by
        by_cases h1 : k < ln s
        · by_cases h2 : k <= 8
          · obtain ⟨_, hdb⟩ := hstop h1 h2
            have h1' : k < (tx s).size := by rw [ak]; exact h1
            rw [yM] at hdb;simp only [Bool.and_eq_false_iff, decide_eq_false_iff_not] at hdb;rcases hdb with h | h
            · exact .inr (.inr (.inl ⟨h2, h1', by show ((s[k]).toNat : Int) < 48; omega⟩))
            · exact .inr (.inr (.inr ⟨h2, h1', by show 57 < ((s[k]).toNat : Int); omega⟩))
          · exact .inr (.inl ⟨V7, h1⟩)
        · exact .inl h1
      clear hstop;rcases hwhy with hw | ⟨hw1, hw2⟩ | ⟨hw1, hw2, hw3⟩ | ⟨hw1, hw2, hw3⟩
      · skip
        go_wp2;all_goals first
          | (have hr : k = 0 \/ 8 < k \/ (1 < k /\ s.head? = Vz 48) := by
               first
                 | omega
                 | (rename_i h; simp only [beq_iff_eq] at h; omega)
                 | (rename_i h; rcases h with (h | h) | h
                    ·exact Yv
                    · omega
                    · exact .inr (.inr ⟨V7, mA WB⟩))
                 | (rename_i h _; rcases h with (h | h) | h
                    ·exact Yv
                    · omega
                    · exact .inr (.inr ⟨V7, mA WB⟩))
                 | (rename_i h _ _; simp only [beq_iff_eq] at h; omega)
                 | (rename_i h _; simp only [beq_iff_eq] at h; omega)
                 | (rename_i h _ _ _; simp only [beq_iff_eq] at h; omega)
                 | (rename_i h _ _ _ _; simp only [beq_iff_eq] at h; omega)
             exact bodyPost_ret (v := nt s) (by rw [oA HL.o hr]; simp [results, results292, go_sem]) rfl ⟨rfl, Below.refl _ _⟩)
          | (have hr : ¬ (k = 0 \/ 8 < k \/ (1 < k /\ s.head? = Vz 48)) := by
               first
                 | omega
                 | (rename_i h _ _; have h48 := ti (s := s) (by simpa using h.2); rintro (h1 | h1 | ⟨_, h1⟩) <;> first | omega | exact h48 h1)
             go_quiet (fail)
             go_wp2;exact bodyPost_ret (v := nt s) (by rw [oF HL.o hr]; simp [lg, results, results292, go_sem]) rfl ⟨rfl, below_drewN (Below.refl _ _) _⟩)
      · have hw3 : 8 < (k : Int) := by omega
        clear hw1;go_wp2;all_goals first
          | (have hr : k = 0 \/ 8 < k \/ (1 < k /\ s.head? = Vz 48) := by
               first
                 | omega
                 | (rename_i h; simp only [beq_iff_eq] at h; omega)
                 | (rename_i h; rcases h with (h | h) | h
                    ·exact Yv
                    · omega
                    · exact .inr (.inr ⟨V7, mA WB⟩))
                 | (rename_i h _; rcases h with (h | h) | h
                    ·exact Yv
                    · omega
                    · exact .inr (.inr ⟨V7, mA WB⟩))
                 | (rename_i h _ _; simp only [beq_iff_eq] at h; omega)
                 | (rename_i h _; simp only [beq_iff_eq] at h; omega)
                 | (rename_i h _ _ _; simp only [beq_iff_eq] at h; omega)
                 | (rename_i h _ _ _ _; simp only [beq_iff_eq] at h; omega)
             exact bodyPost_ret (v := nt s) (by rw [oA HL.o hr]; simp [results, results292, go_sem]) rfl ⟨rfl, Below.refl _ _⟩)
          | (have hr : ¬ (k = 0 \/ 8 < k \/ (1 < k /\ s.head? = Vz 48)) := by
               first
                 | omega
                 | (rename_i h _ _; have h48 := ti (s := s) (by simpa using h.2); rintro (h1 | h1 | ⟨_, h1⟩) <;> first | omega | exact h48 h1)
             go_quiet (fail)
             go_wp2;exact bodyPost_ret (v := nt s) (by rw [oF HL.o hr]; simp [lg, results, results292, go_sem]) rfl ⟨rfl, below_drewN (Below.refl _ _) _⟩)
      ·exact Yu
      ·exact Yu
end
section
open Kp
theorem cj(h:dk s=Vz (n,r)):n<1000000000:=by
 unfold dk at h;split at h
 ·cases h
 ·rename_i hk;simp only[Option.some.injEq,Prod.mk.injEq] at h;rw[<-h.1];have h1:=kB (qn s);have:10^(lead s).length<=10^8:=Nat.pow_le_pow_right V9 V7;omega
theorem gA(h:dk s=Vz (n,r)):ln r<=ln s:=by
 unfold dk at h;split at h
 ·cases h
 ·simp only[Option.some.injEq,Prod.mk.injEq] at h;rw[<-h.2];simp
def KY(w:Vt)(g:Nat)(x y:Vy)(wr:Vt):Prop:=
 ∃a b:Nat,x=VZ VH a/\y=VZ VH b/\a<1000000000/\b<1000000000/\Nat.gcd a b=g/\VS w.heap.size w wr
def Lq(a b:Nat)(w:Vt)(ha:a<1000000000)(hb:b<1000000000):
  VJ prog 293 #[VZ VH a,VZ VH b] w λe w'=>e=V0 (VZ VH (Nat.gcd a b:Nat))/\VS w.heap.size w w':=by
 go_enter func293,ntmps293;go_wp2;go_loopw [0,1] (λx y wr=>KY w (Nat.gcd a b) x y wr) (λ_ y _=>(VN y).natAbs)
 case atStart=>exact⟨a,b,rfl,rfl,ha,hb,rfl,Below.refl _ _⟩
 case round=>
  obtain⟨x,y,rfl,rfl,hx,hy,hg,hBr⟩:=hrel;by_cases h0:y=0
  ·subst h0;rw[Nat.gcd_zero_right] at hg;have HG:=Vs hg;clear hg;have ht:(((0:Nat):Int) !=0)=Vw:=rfl;go_wp2;go_ret;exact⟨cD (by rw[HG.o]),hBr⟩
  ·have h0':((y:Int) !=0)=VD:=WX;have hm:((x:Int).tmod (y:Int))=((x%y:Nat):Int):=by rw[Int.tmod_eq_emod_of_nonneg V7];rfl
   have hlt:x%y<y:=Nat.mod_lt _ V7;have hn:=Vs (λn=>show KY w (Nat.gcd a b) (VZ VH y) (VZ VH ((x:Int).tmod (y:Int))) (wr.drewN n) from⟨y,x%y,rfl,by rw[hm],hy,V7,by rw[Nat.gcd_comm,<-Nat.gcd_rec,Nat.gcd_comm];exact hg,below_drewN hBr n⟩);have HM:=Vs (show(VN (VZ VH ((x:Int).tmod (y:Int)))).natAbs<(VN (VZ VH (y:Int))).natAbs by rw[hm];simp[VN];exact hlt);clear hg hm hlt;go_wp2;go_quiet (fail)
   go_roundw
   case rel=>exact⟨_,_,_,_,_,_,_,_,hn.o _,rfl⟩
   case measure=>exact HM.o
def bH(a:List UInt8):Bool:=match dk (own a) with
 |none=>Vw
 |some (n,r)=>if(own a).length<ln a/\n=0 then Vw else match r with
  |[]=>VD
  |c::r'=>if c=47 then(match dk r' with
    |none=>Vw
    |some (d,q)=>q.isEmpty&&decide (2<=d)&&decide (Nat.gcd n d=1)) else Vw
def uu(a:List UInt8):Int×Int:=match dk (own a) with
 |none=>(0,0)
 |some (n,r)=>((if(own a).length<ln a then -(n:Int) else n),match r with
  |[]=>1
  |_::r'=>match dk r' with
   |none=>0
   |some (d,_)=>(d:Int))
def cZ(a:List UInt8):Int×Int:=if bH a then uu a else(0,0)
def cM(w:Vt)(a:List UInt8)(e:Ending)(w':Vt):Prop:=∃x y:Int,e=V0 (V6 #[V5 #[VZ VH x,VZ VH y],VX (bH a)])/\cZ a=(x,y)/\VS w.heap.size w w'
def xH(a:List UInt8):(∃r,a=45::r/\own a=r)\/(own a=a/\∀b,a.head?=Vz b->b≠45):=by
 cases a with
 |nil=>exact .inr ⟨rfl,λb h=>Wb⟩
 |cons c r=>
  by_cases hc:c=45
  ·subst hc;exact .inl ⟨r,rfl,rfl⟩
  ·refine .inr ⟨?_,λb h=>by cases h;exact hc⟩;unfold own Lib.trimPrefix;have:Lib.hasPrefix (c::r) [45]=Vw:=by simp[Lib.hasPrefix,List.isPrefixOf,Ne.symm hc]
   rw[this];rfl
theorem ij(h:dk s=Vx):nt s=V6 #[VZ VH 0,VW ⟨#[]⟩,VX Vw]:=by unfold nt;rw[h]
theorem aI(h:dk s=Vz (n,r)):nt s=V6 #[VZ VH n,VW (tx r),VX VD]:=by unfold nt;rw[h]
theorem fE.below{u v:Vy}(h:fE W b t u v)(hb:VS B0 W W')(hlt:b<B0):fE W' b t u v:=(hb.block b hlt).trans h
theorem iU{B:Nat}(h:VS B w W)(hc:VS W.heap.size W W')(hB:B<=W.heap.size):VS B w W':=h.trans (hc.mono hB)
def aS(c:UInt8)(r:List UInt8):(tx (c::r)).extract 1 (ln r+1)=tx r:=by
 have:=lg (c::r) 1;exact XY
theorem gP(h:c≠45):own (c::r)=c::r:=by
 rcases xH (c::r) with⟨r',e,_⟩|⟨e,_⟩
 ·cases e;exact absurd rfl h
 ·exact e
theorem FJ{a:Act}{x y:Int}{b:Bool}(hX:fE W blk 289 (VZ VH x) (VZ VH y))
  (h2:a.tmps[2]?=Vz (VY (Vz ⟨blk,0,Vx⟩)))(h3:a.tmps[3]?=Vz (VX b))(hd:a.defers=[])(hok:bH s=b)(hz:cZ s=(x,y))(hB:VS w.heap.size w W):
  bodyPost prog f259 (cM w s) .ret a W:=by
 have c0:=hX.cell0;have c1:=hX.dZ;refine bodyPost_ret (v:= V6 #[V5 #[VZ VH x,VZ VH y],VX b]) ?_ hd ⟨x,y,by rw[hok],hz,hB⟩;simp[results,results259,go_sem,h2,h3,c0,c1]
def cU{p:Prop}(h:p:=by
 go_enter func259,ntmps259;go_wp2_with(first
  |(go_at_call 292;refine(sn _ _ Wi).mono ?_;first
    |(rintro e w1 ⟨rfl,hB1⟩;rw[HV.o];have X1:=Vs ((fE.at_ rfl).below hB1 Wa);have c0:=X1.o.cell0;have c1:=X1.o.dZ;have f0:=X1.o.frozen 0;have f1:=X1.o.frozen 1;have l1:=X1.o.lt)
    |(rintro e w2 ⟨rfl,hB2⟩;rw[HV2.o];have X2:=Vs (((X1.o.alloc _).below hB2 Wf));have Y2:=Vs ((fE.at_ rfl).below hB2 Wa);have d0:=X2.o.cell0;have d1:=X2.o.dZ;have g0:=X2.o.frozen 0;have g1:=X2.o.frozen 1;have e0:=Y2.o.cell0;have e1:=Y2.o.dZ;have k0:=Y2.o.frozen 0;have k1:=Y2.o.frozen 1;have l2:=Y2.o.lt))
  |(go_at_call 293;refine(Lq _ _ _ Wi Wi).mono ?_;rintro e w3 ⟨rfl,hB3⟩;have X3:=Vs ((X2.o.dz (p:=⟨w1.heap.size,1,Vx⟩) Wf _).below hB3 (by simpa[World.setCell] using by omega));have Y3:=Vs ((Y2.o.p8 _).below hB3 (by simpa[World.setCell] using l2));have m0:=X3.o.cell0;have m1:=X3.o.dZ;have n0:=X3.o.frozen 0;have n1:=X3.o.frozen 1;have o0:=Y3.o.cell0;have o1:=Y3.o.dZ;have q0:=Y3.o.frozen 0;have q1:=Y3.o.frozen 1))
 refine FJ (blk:=w.heap.size) ?nofX rfl rfl rfl HOK.o HZ.o ?nofB
 case nofX=>repeat first|with_reducible apply fE.mD|with_reducible apply fE.p8|with_reducible apply fE.dz|with_reducible apply fE.alloc|with_reducible exact X3.o|with_reducible exact X2.o|with_reducible exact X1.o|omega|(simp;done)|(simp;omega)
 case nofB=>repeat first|with_reducible refine Below.setCell ?_ Wo _|with_reducible refine Below.alloc ?_ Wo _|with_reducible refine iU ?_ Wi Wz|with_reducible exact Below.refl _ _):p:=h
def zC(r:List UInt8)(w:Vt)(hr:ln r<=1000000)(hn:dk r=Vx):VJ prog 259 #[VW (tx (45::r))] w (cM w (45::r)):=by
 have ho:own (45::r)=r:=rfl;have hok:bH (45::r)=Vw:=by unfold bH;simp[ho,hn]
 have HOK:=Vs hok;have HZ:=Vs (show cZ (45::r)=(0,0) by unfold cZ;rw[hok];rfl);have HV:=Vs (ij hn);have hx:=aS 45 r;clear hok ho hn;exact cU
def Aq(r:List UInt8)(w:Vt)(hr:ln r<=1000000)(n:Nat)(q:List UInt8)(hn:dk r=Vz (n,q))(hn0:n=0):VJ prog 259 #[VW (tx (45::r))] w (cM w (45::r)):=by
 have ho:own (45::r)=r:=rfl;have hok:bH (45::r)=Vw:=by unfold bH;simp[ho,hn,hn0]
 have HOK:=Vs hok;have HZ:=Vs (show cZ (45::r)=(0,0) by unfold cZ;rw[hok];rfl);have HV:=Vs (aI hn);have hnl:=cj hn;have t4:VH.wrap (-(n:Int))= -(n:Int):=cC V7 V7;have t1:((n:Int)==0)=VD:=by rw[beq_iff_eq];omega
 have hx:=aS 45 r;clear hok ho hn hn0;exact cU
def Cv(r:List UInt8)(w:Vt)(hr:ln r<=1000000)(n:Nat)(hn:dk r=Vz (n,[]))(hn0:n≠0):VJ prog 259 #[VW (tx (45::r))] w (cM w (45::r)):=by
 have ho:own (45::r)=r:=rfl;have hok:bH (45::r)=VD:=by unfold bH;simp[ho,hn,hn0]
 have HOK:=Vs hok;have HZ:=Vs (show cZ (45::r)=((-(n:Int)),1) by unfold cZ;rw[hok];unfold uu;simp[ho,hn]);have HV:=Vs (aI hn);have hnl:=cj hn;have t4:VH.wrap (-(n:Int))= -(n:Int):=cC V7 V7;have t1:((n:Int)==0)=Vw:=Wj;have hx:=aS 45 r;clear hok ho hn hn0;exact cU
def sJ(r:List UInt8)(w:Vt)(hr:ln r<=1000000)(n:Nat)(c:UInt8)(r':List UInt8)(hn:dk r=Vz (n,(c::r')))(hn0:n≠0)(hc:c≠47):VJ prog 259 #[VW (tx (45::r))] w (cM w (45::r)):=by
 have ho:own (45::r)=r:=rfl;have hok:bH (45::r)=Vw:=by unfold bH;simp[ho,hn,hn0,hc]
 have HOK:=Vs hok;have HZ:=Vs (show cZ (45::r)=(0,0) by unfold cZ;rw[hok];rfl);have HV:=Vs (aI hn);have hnl:=cj hn;have t4:VH.wrap (-(n:Int))= -(n:Int):=cC V7 V7;have t1:((n:Int)==0)=Vw:=Wj;have t5:((((tx (c::r'))[0]'WQ).toNat:Int) !=47)=VD:=Xc;have hx:=aS 45 r;clear hok ho hn hn0 hc;exact cU
def wI(r:List UInt8)(w:Vt)(hr:ln r<=1000000)(n:Nat)(r':List UInt8)(hn:dk r=Vz (n,(47::r')))(hn0:n≠0)(hd:dk r'=Vx):VJ prog 259 #[VW (tx (45::r))] w (cM w (45::r)):=by
 have ho:own (45::r)=r:=rfl;have hok:bH (45::r)=Vw:=by unfold bH;simp[ho,hn,hn0,hd]
 have HOK:=Vs hok;have HZ:=Vs (show cZ (45::r)=(0,0) by unfold cZ;rw[hok];rfl);have HV:=Vs (aI hn);have hnl:=cj hn;have t4:VH.wrap (-(n:Int))= -(n:Int):=cC V7 V7;have t1:((n:Int)==0)=Vw:=Wj;have hr':ln r'<=1000000:=Wv;have hx':=aS 47 r';have HV2:=Vs (ij hd);have hx:=aS 45 r;clear hok ho hn hn0 hd;exact cU
def zt(r:List UInt8)(w:Vt)(hr:ln r<=1000000)(n:Nat)(r':List UInt8)(hn:dk r=Vz (n,(47::r')))(hn0:n≠0)(d:Nat)(cq:UInt8)(q:List UInt8)(hd:dk r'=Vz (d,(cq::q))):VJ prog 259 #[VW (tx (45::r))] w (cM w (45::r)):=by
 have ho:own (45::r)=r:=rfl;have hok:bH (45::r)=Vw:=by unfold bH;simp[ho,hn,hn0,hd]
 have HOK:=Vs hok;have HZ:=Vs (show cZ (45::r)=(0,0) by unfold cZ;rw[hok];rfl);have HV:=Vs (aI hn);have hnl:=cj hn;have t4:VH.wrap (-(n:Int))= -(n:Int):=cC V7 V7;have t1:((n:Int)==0)=Vw:=Wj;have hr':ln r'<=1000000:=Wv;have hx':=aS 47 r';have HV2:=Vs (aI hd);have hdl:=cj hd;have hx:=aS 45 r;clear hok ho hn hn0 hd;exact cU
def vZ(r:List UInt8)(w:Vt)(hr:ln r<=1000000)(n:Nat)(r':List UInt8)(hn:dk r=Vz (n,(47::r')))(hn0:n≠0)(d:Nat)(hd:dk r'=Vz (d,[]))(hd2:¬2<=d):VJ prog 259 #[VW (tx (45::r))] w (cM w (45::r)):=by
 have ho:own (45::r)=r:=rfl;have hok:bH (45::r)=Vw:=by unfold bH;simp[ho,hn,hn0,hd];intro h;exact absurd h hd2
 have HOK:=Vs hok;have HZ:=Vs (show cZ (45::r)=(0,0) by unfold cZ;rw[hok];rfl);have HV:=Vs (aI hn);have hnl:=cj hn;have t4:VH.wrap (-(n:Int))= -(n:Int):=cC V7 V7;have t1:((n:Int)==0)=Vw:=Wj;have hr':ln r'<=1000000:=Wv;have hx':=aS 47 r';have HV2:=Vs (aI hd);have hdl:=cj hd;have t2:decide ((d:Int)<2)=VD:=Wn;have hx:=aS 45 r;clear hok ho hn hn0 hd2 hd;exact cU
def vL(r:List UInt8)(w:Vt)(hr:ln r<=1000000)(n:Nat)(r':List UInt8)(hn:dk r=Vz (n,(47::r')))(hn0:n≠0)(d:Nat)(hd:dk r'=Vz (d,[]))(hd2:2<=d)(hg:¬Nat.gcd n d=1):VJ prog 259 #[VW (tx (45::r))] w (cM w (45::r)):=by
 have ho:own (45::r)=r:=rfl;have hok:bH (45::r)=Vw:=by unfold bH;simp[ho,hn,hn0,hd,hg]
 have HOK:=Vs hok;have HZ:=Vs (show cZ (45::r)=(0,0) by unfold cZ;rw[hok];rfl);have HV:=Vs (aI hn);have hnl:=cj hn;have t4:VH.wrap (-(n:Int))= -(n:Int):=cC V7 V7;have t1:((n:Int)==0)=Vw:=Wj;have hr':ln r'<=1000000:=Wv;have hx':=aS 47 r';have HV2:=Vs (aI hd);have hdl:=cj hd;have t2:decide ((d:Int)<2)=Vw:=Wd;have t3:(((Nat.gcd n d:Nat):Int) !=1)=VD:=WX;have hx:=aS 45 r;clear hok ho hn hn0 hd2 hg hd;exact cU
def EV(r:List UInt8)(w:Vt)(hr:ln r<=1000000)(n:Nat)(r':List UInt8)(hn:dk r=Vz (n,(47::r')))(hn0:n≠0)(d:Nat)(hd:dk r'=Vz (d,[]))(hd2:2<=d)(hg:Nat.gcd n d=1):VJ prog 259 #[VW (tx (45::r))] w (cM w (45::r)):=by
 have ho:own (45::r)=r:=rfl;have hok:bH (45::r)=VD:=by unfold bH;simp[ho,hn,hn0,hd,hg,hd2]
 have HOK:=Vs hok;have HZ:=Vs (show cZ (45::r)=((-(n:Int)),(d:Int)) by unfold cZ;rw[hok];unfold uu;simp[ho,hn,hd]);have HV:=Vs (aI hn);have hnl:=cj hn;have t4:VH.wrap (-(n:Int))= -(n:Int):=cC V7 V7;have t1:((n:Int)==0)=Vw:=Wj;have hr':ln r'<=1000000:=Wv;have hx':=aS 47 r';have HV2:=Vs (aI hd);have hdl:=cj hd;have t2:decide ((d:Int)<2)=Vw:=Wd;have t3:(((Nat.gcd n d:Nat):Int) !=1)=Vw:=by rw[hg];rfl
 have hx:=aS 45 r;clear hok ho hn hn0 hd2 hg hd;exact cU
def Ad(c0:UInt8)(r:List UInt8)(w:Vt)(hr:(c0::r).length<=1000000)(hc0:c0≠45)(hn:dk (c0::r)=Vx):VJ prog 259 #[VW (tx (c0::r))] w (cM w (c0::r)):=by
 have ho:own (c0::r)=(c0::r):=gP hc0;have hok:bH (c0::r)=Vw:=by unfold bH;simp[ho,hn]
 have HOK:=Vs hok;have HZ:=Vs (show cZ (c0::r)=(0,0) by unfold cZ;rw[hok];rfl);have HV:=Vs (ij hn);exact Yw
def Cm(c0:UInt8)(r:List UInt8)(w:Vt)(hr:(c0::r).length<=1000000)(hc0:c0≠45)(n:Nat)(hn:dk (c0::r)=Vz (n,[])):VJ prog 259 #[VW (tx (c0::r))] w (cM w (c0::r)):=by
 have ho:own (c0::r)=(c0::r):=gP hc0;have hok:bH (c0::r)=VD:=by unfold bH;simp[ho,hn]
 have HOK:=Vs hok;have HZ:=Vs (show cZ (c0::r)=((n:Int),1) by unfold cZ;rw[hok];unfold uu;simp[ho,hn]);have HV:=Vs (aI hn);have hnl:=cj hn;have t4:VH.wrap (-(n:Int))= -(n:Int):=cC V7 V7;exact Yw
def sC(c0:UInt8)(r:List UInt8)(w:Vt)(hr:(c0::r).length<=1000000)(hc0:c0≠45)(n:Nat)(c:UInt8)(r':List UInt8)(hn:dk (c0::r)=Vz (n,(c::r')))(hc:c≠47):VJ prog 259 #[VW (tx (c0::r))] w (cM w (c0::r)):=by
 have ho:own (c0::r)=(c0::r):=gP hc0;have hok:bH (c0::r)=Vw:=by unfold bH;simp[ho,hn,hc]
 have HOK:=Vs hok;have HZ:=Vs (show cZ (c0::r)=(0,0) by unfold cZ;rw[hok];rfl);have HV:=Vs (aI hn);have hnl:=cj hn;have t4:VH.wrap (-(n:Int))= -(n:Int):=cC V7 V7;have t5:((((tx (c::r'))[0]'WQ).toNat:Int) !=47)=VD:=Xc;have h45:((((tx (c0::r))[0]'WQ).toNat:Int)==45)=Vw:=Wg;clear hok ho hn hc hc0;exact cU
def wH(c0:UInt8)(r:List UInt8)(w:Vt)(hr:(c0::r).length<=1000000)(hc0:c0≠45)(n:Nat)(r':List UInt8)(hn:dk (c0::r)=Vz (n,(47::r')))(hd:dk r'=Vx):VJ prog 259 #[VW (tx (c0::r))] w (cM w (c0::r)):=by
 have ho:own (c0::r)=(c0::r):=gP hc0;have hok:bH (c0::r)=Vw:=by unfold bH;simp[ho,hn,hd]
 have HOK:=Vs hok;have HZ:=Vs (show cZ (c0::r)=(0,0) by unfold cZ;rw[hok];rfl);have HV:=Vs (aI hn);have hnl:=cj hn;have t4:VH.wrap (-(n:Int))= -(n:Int):=cC V7 V7;have hr':ln r'<=1000000:=Wv;have hx':=aS 47 r';have HV2:=Vs (ij hd);exact Yx
def zK(c0:UInt8)(r:List UInt8)(w:Vt)(hr:(c0::r).length<=1000000)(hc0:c0≠45)(n:Nat)(r':List UInt8)(hn:dk (c0::r)=Vz (n,(47::r')))(d:Nat)(cq:UInt8)(q:List UInt8)(hd:dk r'=Vz (d,(cq::q))):VJ prog 259 #[VW (tx (c0::r))] w (cM w (c0::r)):=by
 have ho:own (c0::r)=(c0::r):=gP hc0;have hok:bH (c0::r)=Vw:=by unfold bH;simp[ho,hn,hd]
 have HOK:=Vs hok;have HZ:=Vs (show cZ (c0::r)=(0,0) by unfold cZ;rw[hok];rfl);have HV:=Vs (aI hn);have hnl:=cj hn;have t4:VH.wrap (-(n:Int))= -(n:Int):=cC V7 V7;have hr':ln r'<=1000000:=Wv;have hx':=aS 47 r';have HV2:=Vs (aI hd);have hdl:=cj hd;exact Yx
def wb(c0:UInt8)(r:List UInt8)(w:Vt)(hr:(c0::r).length<=1000000)(hc0:c0≠45)(n:Nat)(r':List UInt8)(hn:dk (c0::r)=Vz (n,(47::r')))(d:Nat)(hd:dk r'=Vz (d,[]))(hd2:¬2<=d):VJ prog 259 #[VW (tx (c0::r))] w (cM w (c0::r)):=by
 have ho:own (c0::r)=(c0::r):=gP hc0;have hok:bH (c0::r)=Vw:=by unfold bH;simp[ho,hn,hd];intro h;exact absurd h hd2
 have HOK:=Vs hok;have HZ:=Vs (show cZ (c0::r)=(0,0) by unfold cZ;rw[hok];rfl);have HV:=Vs (aI hn);have hnl:=cj hn;have t4:VH.wrap (-(n:Int))= -(n:Int):=cC V7 V7;have hr':ln r'<=1000000:=Wv;have hx':=aS 47 r';have HV2:=Vs (aI hd);have hdl:=cj hd;have t2:decide ((d:Int)<2)=VD:=Wn;have h45:((((tx (c0::r))[0]'WQ).toNat:Int)==45)=Vw:=Wg;clear hok ho hn hd2 hd hc0;exact cU
def um(c0:UInt8)(r:List UInt8)(w:Vt)(hr:(c0::r).length<=1000000)(hc0:c0≠45)(n:Nat)(r':List UInt8)(hn:dk (c0::r)=Vz (n,(47::r')))(d:Nat)(hd:dk r'=Vz (d,[]))(hd2:2<=d)(hg:¬Nat.gcd n d=1):VJ prog 259 #[VW (tx (c0::r))] w (cM w (c0::r)):=by
 have ho:own (c0::r)=(c0::r):=gP hc0;have hok:bH (c0::r)=Vw:=by unfold bH;simp[ho,hn,hd,hg]
 have HOK:=Vs hok;have HZ:=Vs (show cZ (c0::r)=(0,0) by unfold cZ;rw[hok];rfl);have HV:=Vs (aI hn);have hnl:=cj hn;have t4:VH.wrap (-(n:Int))= -(n:Int):=cC V7 V7;have hr':ln r'<=1000000:=Wv;have hx':=aS 47 r';have HV2:=Vs (aI hd);have hdl:=cj hd;have t2:decide ((d:Int)<2)=Vw:=Wd;have t3:(((Nat.gcd n d:Nat):Int) !=1)=VD:=WX;exact Yy
def EP(c0:UInt8)(r:List UInt8)(w:Vt)(hr:(c0::r).length<=1000000)(hc0:c0≠45)(n:Nat)(r':List UInt8)(hn:dk (c0::r)=Vz (n,(47::r')))(d:Nat)(hd:dk r'=Vz (d,[]))(hd2:2<=d)(hg:Nat.gcd n d=1):VJ prog 259 #[VW (tx (c0::r))] w (cM w (c0::r)):=by
 have ho:own (c0::r)=(c0::r):=gP hc0;have hok:bH (c0::r)=VD:=by unfold bH;simp[ho,hn,hd,hg,hd2]
 have HOK:=Vs hok;have HZ:=Vs (show cZ (c0::r)=((n:Int),(d:Int)) by unfold cZ;rw[hok];unfold uu;simp[ho,hn,hd]);have HV:=Vs (aI hn);have hnl:=cj hn;have t4:VH.wrap (-(n:Int))= -(n:Int):=cC V7 V7;have hr':ln r'<=1000000:=Wv;have hx':=aS 47 r';have HV2:=Vs (aI hd);have hdl:=cj hd;have t2:decide ((d:Int)<2)=Vw:=Wd;have t3:(((Nat.gcd n d:Nat):Int) !=1)=Vw:=by rw[hg];rfl
 exact Yy
end
section
open Kp
def OF(w:Vt):VJ prog 259 #[VW (tx [])] w (cM w []):=by
 have HOK:=Vs (show bH []=Vw by rfl);have HV:=Vs (ij (s:=[]) Wl);have hr:([]:List UInt8).length<=1000000:=Wa;go_enter func259,ntmps259;go_wp2_with(go_at_call 292;refine(sn [] _ hr).mono ?_;rintro e w1 ⟨rfl,hB1⟩;rw[HV.o];have X1:=Vs ((fE.at_ rfl).below hB1 Wa);have c0:=X1.o.cell0;have c1:=X1.o.dZ;have f0:=X1.o.frozen 0;have f1:=X1.o.frozen 1;have l1:=X1.o.lt)
 refine FJ (blk:=w.heap.size) (x:=0) (y:=0) ?nofX rfl rfl rfl HOK.o rfl ?nofB
 case nofX=>repeat first|with_reducible apply fE.mD|with_reducible apply fE.p8|with_reducible exact X1.o
 case nofB=>repeat first|with_reducible refine Below.setCell ?_ Wo _|with_reducible refine Below.alloc ?_ Wo _|with_reducible refine iU ?_ Wi Wz|with_reducible exact Below.refl _ _
def lE(a:List UInt8)(w:Vt)(hs:ln a<=1000000):VJ prog 259 #[VW (tx a)] w (cM w a):=by
 cases a with
 |nil=>exact OF w
 |cons c0 r=>
  by_cases hc0:c0=45
  ·subst hc0;have hr:ln r<=1000000:=by simp at hs;omega
   cases hn:dk r with
   |none=>exact zC r w hr hn
   |some p=>
    obtain⟨n,q⟩:=p;by_cases hn0:n=0
    ·exact Aq r w hr n q hn hn0
    ·cases q with
     |nil=>exact Cv r w hr n hn hn0
     |cons c r'=>
      by_cases hc:c=47
      ·subst hc;cases hd:dk r' with
       |none=>exact wI r w hr n r' hn hn0 hd
       |some p=>
        obtain⟨d,q⟩:=p;cases q with
        |cons cq q=>exact zt r w hr n r' hn hn0 d cq q hd
        |nil=>
         by_cases hd2:2<=d
         ·by_cases hg:Nat.gcd n d=1
          ·exact EV r w hr n r' hn hn0 d hd hd2 hg
          ·exact vL r w hr n r' hn hn0 d hd hd2 hg
         ·exact vZ r w hr n r' hn hn0 d hd hd2
      ·exact sJ r w hr n c r' hn hn0 hc
  ·cases hn:dk (c0::r) with
   |none=>exact Ad c0 r w hs hc0 hn
   |some p=>
    obtain⟨n,q⟩:=p;cases q with
    |nil=>exact Cm c0 r w hs hc0 n hn
    |cons c r'=>
     by_cases hc:c=47
     ·subst hc;cases hd:dk r' with
      |none=>exact wH c0 r w hs hc0 n r' hn hd
      |some p=>
       obtain⟨d,q⟩:=p;cases q with
       |cons cq q=>exact zK c0 r w hs hc0 n r' hn d cq q hd
       |nil=>
        by_cases hd2:2<=d
        ·by_cases hg:Nat.gcd n d=1
         ·exact EP c0 r w hs hc0 n r' hn d hd hd2 hg
         ·exact um c0 r w hs hc0 n r' hn d hd hd2 hg
        ·exact wb c0 r w hs hc0 n r' hn d hd hd2
     ·exact sC c0 r w hs hc0 n c r' hn hc
def jW(s:List UInt8):Nat:=if 1<(lead s).length/\s.head?=Vz 48 then 0 else(lead s).length
def Nz(s:List UInt8)(i:Vy):Prop:=∃k:Nat,k<=ln s/\i=VZ VH (k:Int)/\(s.take k).all gh=VD
def Dw(s:List UInt8)(w:Vt)(hs:ln s<=1000000):
  VJ prog 291 #[VW (tx s)] w λe w'=>e=V0 (VZ VH (jW s))/\w'=w:=by
 go_enter func291,ntmps291;go_wp2
 go_loop [3] (λi=>Nz s i) (λi=>((ln s:Int)-VN i).toNat)
 case atStart=>exact⟨0,V7,rfl,rfl⟩
 case round=>
  obtain⟨k,hk,rfl,hall⟩:=hrel;by_cases hgo:∃h:k<ln s,gh (s[k]'h)=VD
  ·obtain⟨hlt,hd⟩:=hgo;have hb:k<(tx s).size:=by rw[ak];exact hlt
   have hx:(tx s)[k]'hb=s[k]:=rfl;have hdl:=kx hd;have d1:48<=(((tx s)[k]'hb).toNat:Int):=by rw[hx];omega
   have d2:(((tx s)[k]'hb).toNat:Int)<=57:=by rw[hx];omega
   have hnx:Nz s (VZ VH ((k:Int)+1)):=⟨k+1,V7,Wa,CN hlt hall hd⟩;have HNX:=Vs hnx;clear hnx hdl hx hall hd;go_wp2;exact⟨HNX.o,Wc⟩
  ·have hL:(lead s).length=k:=by
    by_cases hlt:k<ln s
    ·refine xa hall hlt ?_;cases hd:gh s[k] with
     |false=>rfl
     |true=>exact absurd ⟨hlt,hd⟩ hgo
    ·have e:k=ln s:=V7;rw[e] at hall;rw[e];exact A0 hall
   have hwhy:(¬k<ln s)\/(∃h:k<(tx s).size,(((tx s)[k]'h).toNat:Int)<48)\/(∃h:k<(tx s).size,57<(((tx s)[k]'h).toNat:Int)):=by
    by_cases h1:k<ln s
    ·have hdb:gh s[k]=Vw:=by
      cases hd:gh s[k] with
      |false=>rfl
      |true=>exact absurd ⟨h1,hd⟩ hgo
     have h1':k<(tx s).size:=by rw[ak];exact h1
     rw[yM] at hdb;simp only[Bool.and_eq_false_iff,decide_eq_false_iff_not] at hdb;rcases hdb with h|h
     ·exact .inr (.inl ⟨h1',by show((s[k]).toNat:Int)<48;omega⟩)
     ·exact .inr (.inr ⟨h1',by show 57<((s[k]).toNat:Int);omega⟩)
    ·exact .inl h1
   have HL:=Vs hL;clear hgo hL hall;by_cases hz:1<k/\s.head?=Vz 48
   ·obtain⟨h1,h48⟩:=hz;have HR:=Vs (show jW s=0 by unfold jW;rw[HL.o,if_pos ⟨h1,h48⟩]);have h0:0<(tx s).size:=XC;have t48:((((tx s)[0]'h0).toNat:Int)==48)=VD:=by
     rw[beq_iff_eq];cases s with
     |nil=>cases h48
     |cons b r=>simp only[List.head?_cons,Option.some.injEq] at h48;subst h48;rfl
    clear h48;have h1':decide (1<(k:Int))=VD:=Wn;rcases hwhy with hw|⟨hw2,hw3⟩|⟨hw2,hw3⟩
    ·go_wp2;go_ret;exact⟨cD We,rfl⟩
    ·have hw4:k<ln s:=Xw;go_wp2;go_ret;exact⟨cD We,rfl⟩
    ·have hw4:k<ln s:=Xw;go_wp2;go_ret;exact⟨cD We,rfl⟩
   ·have HR:=Vs (show jW s=k by unfold jW;rw[HL.o,if_neg hz]);by_cases h1:1<k
    ·have h48:¬s.head?=Vz 48:=λh=>hz ⟨h1,h⟩
     have h0:0<(tx s).size:=XC;have t48:((((tx s)[0]'h0).toNat:Int)==48)=Vw:=by
      rw[beq_eq_false_iff_ne];intro e;exact h48 (mA e)
     have h1':decide (1<(k:Int))=VD:=Wn;clear hz h48;exact Yz
    ·have h1':decide (1<(k:Int))=Vw:=Wd;clear hz;exact Yz
end
section
open Kp
def yX(a sep:List UInt8):(Lib.cut a sep).1.length<=ln a/\(Lib.cut a sep).2.1.length<=ln a:=by
 unfold Lib.cut;split
 ·simp;omega
 ·simp
abbrev fG(w:Vt):Prop:=∃m:Int,w.cell? ⟨1,0,Vx⟩=Vz (VZ VH m)
theorem fG.below(h:fG w)(hb:VS B0 w w')(hB:w.heap.size<=B0):fG w':=by
 obtain⟨m,hm⟩:=h;have:=zq hm;exact⟨m,(hb.cell V7).trans hm⟩
def Li(a:List UInt8)(w:Vt)(hs:ln a<=1000000)(hm:fG w):
  VJ prog 289 #[VW (tx a),VW ⟨#[47]⟩] w λe w'=>e=V0 (V6 #[VW (tx (Lib.cut a [47]).1),VW (tx (Lib.cut a [47]).2.1),VX (Lib.cut a [47]).2.2])/\VS w.heap.size w w':=by
 obtain⟨m,hm⟩:=hm;have h:=strings_Cut (tx a) (tx [47]) m w XC hm;rw[bf,bf] at h;exact h.mono λ_ _ ⟨h1,n,h2⟩=>⟨h1,by rw[h2];exact below_drewN (Below.refl _ _) n⟩
def ud(a:List UInt8)(w:Vt):
  VJ prog 290 #[VW (tx a),VW ⟨#[45]⟩] w λe w'=>e=V0 (V6 #[VW (tx (own a)),VX (Lib.hasPrefix a [45])])/\w'=w:=by
 have h:=strings_CutPrefix (tx a) (tx [45]) w;rw[bf,bf] at h;exact h
def pQ(s:List UInt8):Bool:=decide (¬jW s=0)&&decide (¬jW s<ln s)
theorem gR(h0:¬jW s=0)(h1:¬jW s<ln s):pQ s=VD:=by unfold pQ;simp[h0];omega
def dP(a:List UInt8):Option (List UInt8×List UInt8):=
 let n:=(Lib.cut a [47]).1
 let d:=(Lib.cut a [47]).2.1
 if pQ (own n)=Vw\/(Lib.hasPrefix n [45]=VD/\own n=[48]) then Vx
 else if(Lib.cut a [47]).2.2=Vw then Vz (n,[49])
 else if pQ d=Vw\/d=[48]\/d=[49] then Vx
 else Vz (n,d)
def Ah (w : Vt) (r : Option (List UInt8 × List UInt8)) (e : Ending) (w' : Vt) : Prop :=
  (match r with
   | none => e =V0 (V6 #[V5 #[VW ⟨#[]⟩, VW ⟨#[]⟩], VX Vw])
   | some (n, d) => e =V0 (V6 #[V5 #[VW (tx n), VW (tx d)], VX VD])) /\ VS w.heap.size w w'
theorem yJ{a:Act}{r:Option (List UInt8×List UInt8)}(hr:r=Vx)(hX:fE W blk 264 (VW ⟨#[]⟩) (VW ⟨#[]⟩))
  (h2:a.tmps[2]?=Vz (VY (Vz ⟨blk,0,Vx⟩)))(h3:a.tmps[3]?=Vz (VX Vw))(hd:a.defers=[])(hB:VS w.heap.size w W):
  bodyPost prog f258 (Ah w r) .ret a W:=by
 have c0:=hX.cell0;have c1:=hX.dZ;subst hr;refine bodyPost_ret (v:= V6 #[V5 #[VW ⟨#[]⟩,VW ⟨#[]⟩],VX Vw]) ?_ hd ⟨rfl,hB⟩;simp[results,results258,go_sem,h2,h3,c0,c1]
theorem yI{a:Act}{r:Option (List UInt8×List UInt8)}{n d:List UInt8}(hr:r=Vz (n,d))(hX:fE W blk 264 (VW (tx n)) (VW (tx d)))
  (h2:a.tmps[2]?=Vz (VY (Vz ⟨blk,0,Vx⟩)))(h3:a.tmps[3]?=Vz (VX VD))(hd:a.defers=[])(hB:VS w.heap.size w W):
  bodyPost prog f258 (Ah w r) .ret a W:=by
 have c0:=hX.cell0;have c1:=hX.dZ;subst hr;refine bodyPost_ret (v:= V6 #[V5 #[VW (tx n),VW (tx d)],VX VD]) ?_ hd ⟨rfl,hB⟩;simp[results,results258,go_sem,h2,h3,c0,c1]
def ia{p:Prop}(h:p:=by
 try clear hk
 try clear hz
 try clear hj
 try clear hi'
 clear hm h1 h2 h3 ho hp;go_enter func258,ntmps258;go_wp2_with(first
  |(go_at_call 289;refine(Li a _ hs (HM.o.below ((Below.refl _ _).alloc (Vu _) _) (Vu _))).mono ?_;rintro e w1 ⟨rfl,hB1⟩;rw[HC1.o,HC2.o,HC3.o];have X1:=Vs ((fE.at_ rfl).below hB1 Wa);have c0:=X1.o.cell0;have c1:=X1.o.dZ;have f0:=X1.o.frozen 0;have f1:=X1.o.frozen 1;have l1:=X1.o.lt)
  |(go_at_call 290;refine(ud _ _).mono ?_;rintro e w2 ⟨rfl,rfl⟩;rw[HO.o,HP.o])
  |(go_at_call 291;refine(Dw _ _ (by first|assumption|decide)).mono ?_;rintro e w2 ⟨rfl,rfl⟩))
 first
  |refine yI (blk:=w.heap.size) HR.o ?cutX rfl rfl rfl ?cutB
  |refine yJ (blk:=w.heap.size) HR.o ?cutX rfl rfl rfl ?cutB
 case cutX=>repeat first|with_reducible apply fE.mD|with_reducible apply fE.p8|with_reducible exact X1.o
 case cutB=>repeat first|with_reducible refine Below.setCell ?_ Wo _|with_reducible refine Below.alloc ?_ Wo _|with_reducible refine iU ?_ Wi Wz|with_reducible exact Below.refl _ _):p:=h
set_option maxHeartbeats 40000000 in
def ME(a:List UInt8)(w:Vt)(hs:ln a<=1000000)(hm:fG w):VJ prog 258 #[VW (tx a)] w (Ah w (dP a)):=by
 obtain⟨n,h1⟩:∃n,(Lib.cut a [47]).1=n:=⟨_,rfl⟩;obtain⟨d,h2⟩:∃d,(Lib.cut a [47]).2.1=d:=⟨_,rfl⟩;obtain⟨is,h3⟩:∃is,(Lib.cut a [47]).2.2=is:=⟨_,rfl⟩;obtain⟨o,ho⟩:∃o,own n=o:=⟨_,rfl⟩;obtain⟨neg,hp⟩:∃neg,Lib.hasPrefix n [45]=neg:=⟨_,rfl⟩;have hol:ln o<=1000000:=by have:=qI n;have:=(yX a [47]).1;rw[h1] at this;rw[<-ho];omega
 have hdl:ln d<=1000000:=by have:=(yX a [47]).2;rw[h2] at this;omega
 have HC1:=Vs h1;have HC2:=Vs h2;have HC3:=Vs h3;have HO:=Vs ho;have HP:=Vs hp;have HM:=Vs hm;by_cases hk:jW o=0
 ·
  have HR:=Vs (show dP a=Vx by unfold dP;simp only[];rw[h1,h2,h3,ho,hp];rw[if_pos (.inl (by unfold pQ;simp[hk]))]);have k0:((jW o:Int)==0)=VD:=by rw[beq_iff_eq];omega
  exact ia
 have k0:((jW o:Int)==0)=Vw:=Wj;by_cases hl:jW o<ln o
 ·
  have HR:=Vs (show dP a=Vx by unfold dP;simp only[];rw[h1,h2,h3,ho,hp];rw[if_pos (.inl (by unfold pQ;simp[hk,hl]))]);have kt:decide (jW o<ln o)=VD:=Wn;exact ia
 have kt:decide (jW o<ln o)=Vw:=Wd;by_cases hz:neg=VD/\o=[48]
 ·
  obtain⟨hneg,hz⟩:=hz;have HR:=Vs (show dP a=Vx by unfold dP;simp only[];rw[h1,h2,h3,ho,hp];rw[if_pos (.inr ⟨hneg,hz⟩)]);subst hneg;subst hz;exact ia
 have hz1:neg=VD->(o==[48])=Vw:=λh=>by rw[beq_eq_false_iff_ne];exactλe=>hz ⟨h,e⟩
 cases hi:is with
 |false=>
  have HR:=Vs (show dP a=Vz (n,[49]) by unfold dP;simp only[];rw[h1,h2,h3,ho,hp];rw[if_neg (λh=>h.elim (λh=>Xr) hz)];rw[if_pos hi]);exact YA
 |true=>
  have hi':¬is=Vw:=by rw[hi];decide
  by_cases hj:jW d=0
  ·
   have HR:=Vs (show dP a=Vx by unfold dP;simp only[];rw[h1,h2,h3,ho,hp];rw[if_neg (λh=>h.elim (λh=>Xr) hz)];rw[if_neg hi'];rw[if_pos (.inl (by unfold pQ;simp[hj]))]);have j0:((jW d:Int)==0)=VD:=by rw[beq_iff_eq];omega
   exact YA
  have j0:((jW d:Int)==0)=Vw:=Wj;by_cases hm2:jW d<ln d
  ·
   have HR:=Vs (show dP a=Vx by unfold dP;simp only[];rw[h1,h2,h3,ho,hp];rw[if_neg (λh=>h.elim (λh=>Xr) hz)];rw[if_neg hi'];rw[if_pos (.inl (by unfold pQ;simp[hj,hm2]))]);have jt:decide (jW d<ln d)=VD:=Wn;exact YA
  have jt:decide (jW d<ln d)=Vw:=Wd;by_cases h48:d=[48]
  ·
   have HR:=Vs (show dP a=Vx by unfold dP;simp only[];rw[h1,h2,h3,ho,hp];rw[if_neg (λh=>h.elim (λh=>Xr) hz)];rw[if_neg hi'];rw[if_pos (.inr (.inl h48))]);subst h48;exact YA
  have h48b:(d==[48])=Vw:=by rw[beq_eq_false_iff_ne];exact h48
  by_cases h49:d=[49]
  ·
   have HR:=Vs (show dP a=Vx by unfold dP;simp only[];rw[h1,h2,h3,ho,hp];rw[if_neg (λh=>h.elim (λh=>Xr) hz)];rw[if_neg hi'];rw[if_pos (.inr (.inr h49))]);clear h48;subst h49;exact YA
  have h49b:(d==[49])=Vw:=by rw[beq_eq_false_iff_ne];exact h49
  have HR:=Vs (show dP a=Vz (n,d) by unfold dP;simp only[];rw[h1,h2,h3,ho,hp];rw[if_neg (λh=>h.elim (λh=>Xr) hz)];rw[if_neg hi'];rw[if_neg (λh=>h.elim (λh=>by rw[gR hj hm2] at h;cases h) (λh=>h.elim h48 h49))]);exact YA
end
end Go.Proofs.YtmliacdegmklaaaGreatDoor
namespace Kp
section
open Go
abbrev By:Type:=List UInt8
structure Ed where
 kind:Int
 index:Int
 sx:Int
 sy:Int
 srise:Int
 srun:Int
 gable:Bool
 splate:Int
 sover:Int
 oside:Int
 oleft:By
 oright:By
 olow:By
 ohigh:By
 zkind:Int
 zwidth:Int
 zdepth:Int
 bwidth:Int
 bdepth:Int
 blength:Int
 bcount:Int
 bcost:Int
 gaps:List (Int×Int)
 lkind:Int
 lside:Int
 lweight:By
 awidth:Int
 adepth:Int
 aspacing:Int
 aload:Int
 aspan:Int
 twidth:Int
 tlength:Int
 tlap:Int
 ttail:Int
 number:Int
 text:By
def ef:Ed:=⟨0,0,0,0,0,0,Vw,0,0,0,[],[],[],[],0,0,0,0,0,0,0,0,[],0,0,[],0,0,0,0,0,0,0,0,0,0,[]⟩
def gx(e:Ed):Ed:=
 if e.kind=1 then{ef with kind:=e.kind,text:=e.text}
 else if e.kind=2 then{ef with kind:=e.kind,index:=e.index,sx:=e.sx,sy:=e.sy,srise:=e.srise,srun:=e.srun,gable:=e.gable,splate:=e.splate,sover:=e.sover}
 else if e.kind=3\/e.kind=12 then{ef with kind:=e.kind,index:=e.index,number:=e.number}
 else if e.kind=4\/e.kind=8 then{ef with kind:=e.kind,number:=e.number}
 else if e.kind=5 then{ef with kind:=e.kind,index:=e.index,oside:=e.oside,oleft:=e.oleft,oright:=e.oright,olow:=e.olow,ohigh:=e.ohigh}
 else if e.kind=6 then{ef with kind:=e.kind,zkind:=e.zkind,zwidth:=e.zwidth,zdepth:=e.zdepth}
 else if e.kind=7 then{ef with kind:=e.kind,index:=e.index,bwidth:=e.bwidth,bdepth:=e.bdepth,blength:=e.blength,bcount:=e.bcount,bcost:=e.bcost,gaps:=e.gaps}
 else if e.kind=9 then{ef with kind:=e.kind,twidth:=e.twidth,tlength:=e.tlength,tlap:=e.tlap,ttail:=e.ttail}
 else if e.kind=10 then{ef with kind:=e.kind,index:=e.index,lkind:=e.lkind,lside:=e.lside,lweight:=e.lweight}
 else if e.kind=11 then{ef with kind:=e.kind,awidth:=e.awidth,adepth:=e.adepth,aspacing:=e.aspacing,aload:=e.aload,aspan:=e.aspan}
 else{ef with kind:=e.kind}
def qu(bs s:By):By:=if bs=[] then s else bs++32::s
def fk(bs:By)(ws:List By):By:=ws.foldl qu bs
def EZ(bs:By)(w:By)(ws:List By):fk bs (w::ws)=fk (qu bs w) ws:=rfl
def He(bs:By)(a b:List By):fk bs (a++b)=fk (fk bs a) b:=by simp[fk]
def mV:List By:=[[99,111,109,109,111,110],[104,105,112,106,97,99,107],[118,97,108,108,101,121,106,97,99,107],[99,114,105,112,112,108,101],[111,116,104,101,114],[104,105,112],[118,97,108,108,101,121],[114,105,100,103,101],[112,117,114,108,105,110],[112,108,97,116,101],[116,114,105,109,109,101,114],[104,101,97,100,101,114]]
abbrev uI:By:=[110,97,109,101]
abbrev uE:By:=[115,105,100,101]
abbrev kE:By:=[115,112,97,99,105,110,103]
abbrev jf:By:=[112,117,114,108,105,110]
abbrev gz:By:=[111,112,101,110,105,110,103]
abbrev py:By:=[115,105,122,101]
abbrev wA:By:=[98,97,114]
abbrev qp:By:=[107,101,114,102]
abbrev uF:By:=[116,105,108,101]
abbrev px:By:=[108,111,97,100]
abbrev pk:By:=[115,112,97,110]
abbrev iu:By:=[114,101,109,111,118,101]
def kindOf(w:By):Int:=
 if w=uI then 1
 else if w=uE then 2
 else if w=kE then 3
 else if w=jf then 4
 else if w=gz then 5
 else if w=py then 6
 else if w=wA then 7
 else if w=qp then 8
 else if w=uF then 9
 else if w=px then 10
 else if w=pk then 11
 else if w=iu then 12
 else 0
def xt(n:Int):Bool:=n==4||n==5||n==6||n==7||n==10||n==11
def yN(n:Int):By:=
 if n=4 then jf
 else if n=5 then gz
 else if n=6 then py
 else if n=7 then wA
 else if n=10 then px
 else if n=11 then pk
 else []
def TA(w:By):Int:=
 if w=jf then 4
 else if w=gz then 5
 else if w=py then 6
 else if w=wA then 7
 else if w=px then 10
 else if w=pk then 11
 else 0
def Tf(z:Int):By:=mV.getD (z-1).toNat []
def QW(w:By):Int:=if w∈mV then(mV.idxOf w:Int) else -1
def pw(b:UInt8):Bool:=(decide (97<=b.toNat)&&decide (b.toNat<=122))||(decide (65<=b.toNat)&&decide (b.toNat<=90))||(decide (48<=b.toNat)&&decide (b.toNat<=57))
def pX(s:By):Bool:=s.all pw&& !s.isEmpty&&decide (ln s<=16)
def qk(l:List Int):List By:=l.map Lib.itoa
def RR(l:List (Int×Int)):List Int:=l.flatMap (λg=>[g.1,g.2])
def U9(b:Bool):Int:=if b then 1 else 0
def iO(e:Ed):List Int:=
 if e.kind=1 then []
 else if e.kind=2 then [e.index,e.sx,e.sy,e.srise,e.srun,e.splate,e.sover,U9 e.gable]
 else if e.kind=3 then [e.index,e.number]
 else if e.kind=4 then [e.number]
 else if e.kind=5 then [e.index,e.oside]
 else if e.kind=6 then [e.zwidth,e.zdepth]
 else if e.kind=7 then [e.index,e.bwidth,e.bdepth,e.blength,e.bcount,e.bcost]++RR e.gaps
 else if e.kind=8 then [e.number]
 else if e.kind=9 then [e.twidth,e.tlength,e.tlap,e.ttail]
 else if e.kind=10 then [e.index,e.lkind,e.lside]
 else if e.kind=11 then [e.awidth,e.adepth,e.aspacing,e.aload,e.aspan]
 else [e.index]
def numsOf(e:Ed):List By:=
 if e.kind=5 then [e.oleft,e.oright,e.olow,e.ohigh]
 else if e.kind=10 then [e.lweight]
 else []
def qb(e:Ed):List By:=
 if e.kind=1 then [uI,e.text]
 else if e.kind=2 then [uE]
 else if e.kind=3 then [kE]
 else if e.kind=4 then [jf]
 else if e.kind=5 then [gz]
 else if e.kind=6 then [py,Tf e.zkind]
 else if e.kind=7 then [wA]
 else if e.kind=8 then [qp]
 else if e.kind=9 then [uF]
 else if e.kind=10 then [px]
 else if e.kind=11 then [pk]
 else [iu,yN e.number]
def jc(e:Ed):List By:=qb e++qk (iO e)++numsOf e
def Dk(n:Int):Bool:=decide (n< -1073741824)||decide (1073741824<n)
def pj(x:Int)(l:List Int):Int:=if l.any Dk then 2 else x
def Ud(chk:By->Int)(x:Int)(l:List By):Int:=l.foldl (λx a=>if x=0 then chk a else x) x
abbrev sF:Type:=List By×Bool
def rW(r:sF):By×sF:=match r.1 with
 |[]=>([],([],VD))
 |w::t=>(w,(t,r.2))
def nZ(w:By):Int×Bool:=match Lib.atoiAll w with
 | .ok v=>(v,Vw)
 | .range=>(Lib.atoiSat w,VD)
 |_=>(0,VD)
def rI(r:sF):Int×sF:=((nZ (rW r).1).1,((rW r).2.1,(rW r).2.2||(nZ (rW r).1).2))
def rG:Nat->sF->List (Int×Int)×sF
 |0,r=>([],r)
 |n+1,r=>match r.1 with
  |[]=>([],r)
  |_::_=>(((rI r).1,(rI (rI r).2).1)::(rG n (rI (rI r).2).2).1,(rG n (rI (rI r).2).2).2)
def wL:Nat->sF->List Int×sF
 |0,r=>([],r)
 |n+1,r=>((rI r).1::(wL n (rI r).2).1,(wL n (rI r).2).2)
def Ua:Nat->sF->List By×sF
 |0,r=>([],r)
 |n+1,r=>((rW r).1::(Ua n (rW r).2).1,(Ua n (rW r).2).2)
def rE(r:sF):Ed×sF:=
 let k:=kindOf (rW r).1
 let r1:=(rW r).2
 let e:Ed:={ef with kind:=k}
 if k=1 then({e with text:=(rW r1).1},(rW r1).2)
 else if k=2 then
  let l:=(wL 8 r1).1
  ({e with index:=l.getD 0 0,sx:=l.getD 1 0,sy:=l.getD 2 0,srise:=l.getD 3 0,srun:=l.getD 4 0,splate:=l.getD 5 0,sover:=l.getD 6 0,gable:=l.getD 7 0==1},(wL 8 r1).2)
 else if k=3 then({e with index:=(wL 2 r1).1.getD 0 0,number:=(wL 2 r1).1.getD 1 0},(wL 2 r1).2)
 else if k=4\/k=8 then({e with number:=(rI r1).1},(rI r1).2)
 else if k=5 then
  let l:=(wL 2 r1).1
  let ws:=(Ua 4 (wL 2 r1).2).1
  ({e with index:=l.getD 0 0,oside:=l.getD 1 0,oleft:=ws.getD 0 [],oright:=ws.getD 1 [],olow:=ws.getD 2 [],ohigh:=ws.getD 3 []},(Ua 4 (wL 2 r1).2).2)
 else if k=6 then
  let l:=(wL 2 (rW r1).2).1
  ({e with zkind:=1+QW (rW r1).1,zwidth:=l.getD 0 0,zdepth:=l.getD 1 0},(wL 2 (rW r1).2).2)
 else if k=7 then
  let l:=(wL 6 r1).1
  let r2:=(wL 6 r1).2
  ({e with index:=l.getD 0 0,bwidth:=l.getD 1 0,bdepth:=l.getD 2 0,blength:=l.getD 3 0,bcount:=l.getD 4 0,bcost:=l.getD 5 0,gaps:=(rG (ln r2.1) r2).1},(rG (ln r2.1) r2).2)
 else if k=9 then
  let l:=(wL 4 r1).1
  ({e with twidth:=l.getD 0 0,tlength:=l.getD 1 0,tlap:=l.getD 2 0,ttail:=l.getD 3 0},(wL 4 r1).2)
 else if k=10 then
  let l:=(wL 3 r1).1
  ({e with index:=l.getD 0 0,lkind:=l.getD 1 0,lside:=l.getD 2 0,lweight:=(rW (wL 3 r1).2).1},(rW (wL 3 r1).2).2)
 else if k=11 then
  let l:=(wL 5 r1).1
  ({e with awidth:=l.getD 0 0,adepth:=l.getD 1 0,aspacing:=l.getD 2 0,aload:=l.getD 3 0,aspan:=l.getD 4 0},(wL 5 r1).2)
 else if k=12 then({e with number:=TA (rW r1).1,index:=(rI (rW r1).2).1},(rI (rW r1).2).2)
 else(e,r1)
end
section
open Go
theorem j8(h:i<10):gh (UInt8.ofNat (48+i))=VD/\iL (UInt8.ofNat (48+i))=i:=by
 have hh:∀n:Fin 10,gh (UInt8.ofNat (48+n.1))=VD/\iL (UInt8.ofNat (48+n.1))=n.1:=Xf;exact hh ⟨i,h⟩
def dB(u:Nat):(Lib.decDigits u).all gh=VD/\aw (Lib.decDigits u)=u/\Lib.decDigits u≠[]:=by
 induction u using Nat.strongRecOn with
 |_ u ih=>
  rw[Lib.decDigits];split
  ·rename_i h;obtain⟨h1,h2⟩:=j8 h;exact⟨by rw[List.all_cons,h1];rfl,by show 0*10+iL _=u;rw[h2];omega,Wa⟩
  ·rename_i h;obtain⟨a,b,_⟩:=ih (u/10) V7;obtain⟨h1,h2⟩:=j8 (i:=u%10) V7;refine⟨by rw[List.all_append,a,List.all_cons,h1];rfl,?_,Wa⟩;rw[uP,b,h2];omega
def zj(n k:Nat)(hk:1<=k)(h:n<10^k):Lib.nDigits n<=k:=by
 induction k generalizing n with
 |zero=>omega
 |succ k ih=>
  exact Yq
def xj(n:Int):Lib.atoi (Lib.itoa n)=Vz n:=by
 unfold Lib.itoa;split
 ·rename_i h;obtain⟨a,b,c⟩:=dB n.natAbs;simp only[Lib.atoi,beq_self_eq_true,if_true,pU a c,b,Option.map_some]
  congr 1;omega
 ·rename_i h;obtain⟨a,b,c⟩:=dB n.toNat;cases hd:Lib.decDigits n.toNat with
  |nil=>exact absurd hd c
  |cons x r=>
   rw[hd] at a b c;have hx:gh x=VD:=by simp only[List.all_cons,Bool.and_eq_true] at a;exact a.1
   have h1:(x==45)=Vw:=by rw[beq_eq_false_iff_ne];intro e;subst e;revert hx;decide
   have h2:(x==43)=Vw:=by rw[beq_eq_false_iff_ne];intro e;subst e;revert hx;decide
   simp only[Lib.atoi,h1,h2,Bool.false_eq_true,if_false,pU a c,b,Option.map_some]
   congr 1;omega
def LO(a b:List Int):qk (a++b)=qk a++qk b:=by simp[qk]
end
end Kp
namespace Go.Proofs.YtmliacdegmklaaaGreatDoor
section
open Kp
noncomputable def bU(a:List UInt8):Int:=match dP a with
 |none=>11
 |some (n,d)=>
  if bH a=VD then 0
  else if 300<(own n).length\/300<ln d then 4
  else if d=[49] then 0
  else if¬(pS n d).2=0\/¬(pS n d).1=[49] then 11
  else 0
def yA(w:Vt)(a:List UInt8)(e:Ending)(w':Vt):Prop:=∃x y:ByteArray,e=V0 (V6 #[V5 #[VW x,VW y],VZ VH (bU a)])/\(bU a=0->∃n d,dP a=Vz (n,d)/\x=tx n/\y=tx d)/\VS w.heap.size w w'
theorem Ny{a:Act}{x y:ByteArray}{c:Int}(hr:bU s=c)(hX:fE W blk 264 (VW x) (VW y))
  (h2:a.tmps[2]?=Vz (VY (Vz ⟨blk,0,Vx⟩)))(h3:a.tmps[3]?=Vz (VZ VH c))(hd:a.defers=[])(hp:c=0->∃n d,dP s=Vz (n,d)/\x=tx n/\y=tx d)(hB:VS w.heap.size w W):
  bodyPost prog Tryz.f231 (yA w s) .ret a W:=by
 have c0:=hX.cell0;have c1:=hX.dZ;refine bodyPost_ret (v:= V6 #[V5 #[VW x,VW y],VZ VH c]) ?_ hd ⟨x,y,by rw[hr],by rw[hr];exact hp,hB⟩;simp[results,results231,go_sem,h2,h3,c0,c1]
def qG{a n d:List UInt8}(h:dP a=Vz (n,d)):ln n<=ln a/\ln d<=ln a+1:=by
 have hl:=yX a [47];unfold dP at h;simp only[] at h;split at h
 ·cases h
 split at h
 ·simp only[Option.some.injEq,Prod.mk.injEq] at h;rw[<-h.1,<-h.2];exact⟨hl.1,Wa⟩
 split at h
 ·cases h
 ·simp only[Option.some.injEq,Prod.mk.injEq] at h;rw[<-h.1,<-h.2];exact⟨hl.1,V7⟩
def kY{p:Prop}(h:p:=by
 try clear hl
 try clear ho
 try clear h5
 try clear hg
 try clear h6
 try clear hn
 clear hm ht hc;go_enter func231,ntmps231;go_wp2_with(first
  |(go_at_call 258;refine(ME a _ hs (HM.o.below ((Below.refl _ _).alloc (Vu _) _) (Vu _))).mono ?_;rw[HC.o];rintro e w1 ⟨rfl,hB1⟩;have X1:=Vs ((fE.at_ rfl).below hB1 Wa);have c0:=X1.o.cell0;have c1:=X1.o.dZ;have f0:=X1.o.frozen 0;have f1:=X1.o.frozen 1;have l1:=X1.o.lt)
  |(go_at_call 259;refine(lE a _ hs).mono ?_;rintro e w2 ⟨nx,ny,rfl,_,hB2⟩;rw[HN.o];have X2:=Vs ((X1.o.alloc _).below hB2 Wf);have Y2:=Vs ((fE.at_ rfl).below hB2 Wa);have d0:=X2.o.cell0;have d1:=X2.o.dZ;have g0:=X2.o.frozen 0;have g1:=X2.o.frozen 1;have e0:=Y2.o.cell0;have e1:=Y2.o.dZ;have l2:=Y2.o.lt;have l3:=X2.o.lt)
  |(go_at_call 243;refine(dC _ _).mono ?_;rintro e w5 ⟨rfl,rfl⟩;rw[HO.o])
  |(go_at_call 260;refine(OQ _ _ _ Wi Wi (HT.o.below (B0:=w.heap.size) (by repeat first|with_reducible refine Below.setCell ?_ Wo _|with_reducible refine Below.alloc ?_ Wo _|with_reducible refine iU ?_ Wi Wz|with_reducible exact Below.refl _ _) (Vu _))).mono ?_;rw[HG.o];rintro e w3 ⟨rfl,hB3⟩;have X3:=Vs ((X2.o.alloc _).below hB3 Wf);have Y3:=Vs ((Y2.o.alloc _).below hB3 Wf);have m0:=X3.o.cell0;have m1:=X3.o.dZ;have n0:=X3.o.frozen 0;have n1:=X3.o.frozen 1;have o0:=Y3.o.cell0;have o1:=Y3.o.dZ))
 first
  |refine Ny (blk:=w.heap.size) (x:=⟨#[]⟩) (y:=⟨#[]⟩) HR.o ?rrX rfl rfl rfl (λh=>absurd h V9) ?rrB
  |refine Ny (blk:=w.heap.size) (x:=tx _) (y:=tx _) HR.o ?rrX rfl rfl rfl (λ_=>⟨_,_,HC.o,rfl,rfl⟩) ?rrB
 case rrX=>repeat first|with_reducible apply fE.mD|with_reducible apply fE.p8|with_reducible apply fE.dz|with_reducible apply fE.alloc|with_reducible exact X3.o|with_reducible exact X2.o|with_reducible exact X1.o|omega|(simp;done)|(simp;omega)
 case rrB=>repeat first|with_reducible refine Below.setCell ?_ Wo _|with_reducible refine Below.alloc ?_ Wo _|with_reducible refine iU ?_ Wi Wz|with_reducible exact Below.refl _ _):p:=h
set_option maxHeartbeats 40000000 in
def oz(a:List UInt8)(w:Vt)(hs:ln a<=300000)(hm:fG w)(ht:aW w):VJ prog 231 #[VW (tx a)] w (yA w a):=by
 have HM:=Vs hm;have HT:=Vs ht;cases hc:dP a with
 |none=>
  replace hs:ln a<=1000000:=V7
  have HR:=Vs (show bU a=11 by unfold bU;rw[hc]);have HC:=Vs hc;exact kY
 |some p=>
  obtain⟨n,d⟩:=p;have hl:=qG hc;have hnl:ln n<=1000000:=V7;have hdl:ln d<=1000000:=V7
  replace hs:ln a<=1000000:=V7
  have HC:=Vs hc;by_cases hn:bH a=VD
  ·
   have HR:=Vs (show bU a=0 by unfold bU;rw[hc];simp only[];rw[if_pos hn]);have HN:=Vs hn;exact kY
  have HN:=Vs (show bH a=Vw by simpa using hn);obtain⟨o,ho⟩:∃o,own n=o:=⟨_,rfl⟩;have HO:=Vs ho;by_cases h3:300<ln o
  ·
   have HR:=Vs (show bU a=4 by unfold bU;rw[hc];simp only[];rw[if_neg hn];rw[ho,if_pos (.inl h3)]);exact kY
  by_cases h4:300<ln d
  ·
   have HR:=Vs (show bU a=4 by unfold bU;rw[hc];simp only[];rw[if_neg hn];rw[ho,if_pos (.inr h4)]);exact kY
  by_cases h5:d=[49]
  ·
   have HR:=Vs (show bU a=0 by unfold bU;rw[hc];simp only[];rw[if_neg hn];rw[ho,if_neg (λh=>h.elim h3 h4)];rw[if_pos h5]);subst h5;exact kY
  have h5b:(d==[49])=Vw:=by rw[beq_eq_false_iff_ne];exact h5
  obtain⟨⟨g,ge⟩,hg⟩:∃p,pS n d=p:=⟨_,rfl⟩;have HG:=Vs hg;by_cases h6:ge=0
  ·by_cases h7:g=[49]
   ·
    have HR:=Vs (show bU a=0 by unfold bU;rw[hc];simp only[];rw[if_neg hn];rw[ho,if_neg (λh=>h.elim h3 h4)];rw[if_neg h5];rw[hg,if_neg (λh=>h.elim (λx=>x h6) (λx=>x h7))]);subst h6;subst h7;exact kY
   ·
    have HR:=Vs (show bU a=11 by unfold bU;rw[hc];simp only[];rw[if_neg hn];rw[ho,if_neg (λh=>h.elim h3 h4)];rw[if_neg h5];rw[hg,if_pos (.inr h7)]);subst h6;have h7b:(g==[49])=Vw:=by rw[beq_eq_false_iff_ne];exact h7
    exact kY
  ·
   have HR:=Vs (show bU a=11 by unfold bU;rw[hc];simp only[];rw[if_neg hn];rw[ho,if_neg (λh=>h.elim h3 h4)];rw[if_neg h5];rw[hg,if_pos (.inl h6)]);have h6b:(ge !=0)=VD:=by rw[bne_iff_ne];exact h6
   exact kY
def uD(a:List UInt8)(w:Vt)(hs:ln a<=300000)(hm:fG w)(ht:aW w):
  VJ prog 183 #[VW (tx a)] w λe w'=>e=V0 (VZ VH (bU a))/\VS w.heap.size w w':=by
 have hr:=Vs (oz a w hs hm ht);clear hm ht;go_enter func183,ntmps183;go_wp2_with(go_at_call 231;refine hr.o.mono ?_;rintro e w1 ⟨x,y,rfl,_,hB1⟩;have hz1:=hB1.size)
 go_ret;exact⟨rfl,by repeat first|with_reducible refine Below.setCell ?_ Wo _|with_reducible refine Below.alloc ?_ Wo _|with_reducible refine iU ?_ Wi Wz|with_reducible exact Below.refl _ _⟩
end
section
open Kp
def aE(e:Ed)(g:Vy):Array Vy:=#[VZ VH e.kind,VZ VH e.index,VZ VH e.sx,VZ VH e.sy,VZ VH e.srise,VZ VH e.srun,VX e.gable,VZ VH e.splate,VZ VH e.sover,VZ VH e.oside,VW (tx e.oleft),VW (tx e.oright),VW (tx e.olow),VW (tx e.ohigh),VZ VH e.zkind,VZ VH e.zwidth,VZ VH e.zdepth,VZ VH e.bwidth,VZ VH e.bdepth,VZ VH e.blength,VZ VH e.bcount,VZ VH e.bcost,g,VZ VH e.lkind,VZ VH e.lside,VW (tx e.lweight),VZ VH e.awidth,VZ VH e.adepth,VZ VH e.aspacing,VZ VH e.aload,VZ VH e.aspan,VZ VH e.twidth,VZ VH e.tlength,VZ VH e.tlap,VZ VH e.ttail,VZ VH e.number,VW (tx e.text)]
abbrev df:Vy:= VV Vx 0 0
def J9(k:Int):Ed:={ef with kind:=k}
def aM(e:Ed)(g:Vy):(aE e g).size=37:=rfl
attribute [local go_sem] aM
def fC(e:Ed)(g:Vy):(aE e g)[0]?=Vz (VZ VH e.kind):=rfl
def fH(e:Ed)(g:Vy):(aE e g)[1]?=Vz (VZ VH e.index):=rfl
def iy(e:Ed)(g:Vy):(aE e g)[2]?=Vz (VZ VH e.sx):=rfl
def gU(e:Ed)(g:Vy):(aE e g)[3]?=Vz (VZ VH e.sy):=rfl
def iA(e:Ed)(g:Vy):(aE e g)[4]?=Vz (VZ VH e.srise):=rfl
def ik(e:Ed)(g:Vy):(aE e g)[5]?=Vz (VZ VH e.srun):=rfl
def gW(e:Ed)(g:Vy):(aE e g)[6]?=Vz (VX e.gable):=rfl
def gV(e:Ed)(g:Vy):(aE e g)[7]?=Vz (VZ VH e.splate):=rfl
def im(e:Ed)(g:Vy):(aE e g)[8]?=Vz (VZ VH e.sover):=rfl
def gY(e:Ed)(g:Vy):(aE e g)[9]?=Vz (VZ VH e.oside):=rfl
def eP(e:Ed)(g:Vy):(aE e g)[10]?=Vz (VW (tx e.oleft)):=rfl
def eN(e:Ed)(g:Vy):(aE e g)[11]?=Vz (VW (tx e.oright)):=rfl
def eV(e:Ed)(g:Vy):(aE e g)[12]?=Vz (VW (tx e.olow)):=rfl
def eK(e:Ed)(g:Vy):(aE e g)[13]?=Vz (VW (tx e.ohigh)):=rfl
def eY(e:Ed)(g:Vy):(aE e g)[14]?=Vz (VZ VH e.zkind):=rfl
def eR(e:Ed)(g:Vy):(aE e g)[15]?=Vz (VZ VH e.zwidth):=rfl
def eQ(e:Ed)(g:Vy):(aE e g)[16]?=Vz (VZ VH e.zdepth):=rfl
def er(e:Ed)(g:Vy):(aE e g)[17]?=Vz (VZ VH e.bwidth):=rfl
def eu(e:Ed)(g:Vy):(aE e g)[18]?=Vz (VZ VH e.bdepth):=rfl
def ey(e:Ed)(g:Vy):(aE e g)[19]?=Vz (VZ VH e.blength):=rfl
def eh(e:Ed)(g:Vy):(aE e g)[20]?=Vz (VZ VH e.bcount):=rfl
def ej(e:Ed)(g:Vy):(aE e g)[21]?=Vz (VZ VH e.bcost):=rfl
def dY(e:Ed)(g:Vy):(aE e g)[22]?=Vz (g):=rfl
def eT(e:Ed)(g:Vy):(aE e g)[23]?=Vz (VZ VH e.lkind):=rfl
def eO(e:Ed)(g:Vy):(aE e g)[24]?=Vz (VZ VH e.lside):=rfl
def eU(e:Ed)(g:Vy):(aE e g)[25]?=Vz (VW (tx e.lweight)):=rfl
def eS(e:Ed)(g:Vy):(aE e g)[26]?=Vz (VZ VH e.awidth):=rfl
def eI(e:Ed)(g:Vy):(aE e g)[27]?=Vz (VZ VH e.adepth):=rfl
def eM(e:Ed)(g:Vy):(aE e g)[28]?=Vz (VZ VH e.aspacing):=rfl
def eJ(e:Ed)(g:Vy):(aE e g)[29]?=Vz (VZ VH e.aload):=rfl
def eX(e:Ed)(g:Vy):(aE e g)[30]?=Vz (VZ VH e.aspan):=rfl
def fm(e:Ed)(g:Vy):(aE e g)[31]?=Vz (VZ VH e.twidth):=rfl
def fu(e:Ed)(g:Vy):(aE e g)[32]?=Vz (VZ VH e.tlength):=rfl
def ft(e:Ed)(g:Vy):(aE e g)[33]?=Vz (VZ VH e.tlap):=rfl
def fo(e:Ed)(g:Vy):(aE e g)[34]?=Vz (VZ VH e.ttail):=rfl
def dX(e:Ed)(g:Vy):(aE e g)[35]?=Vz (VZ VH e.number):=rfl
def eZ(e:Ed)(g:Vy):(aE e g)[36]?=Vz (VW (tx e.text)):=rfl
attribute [local go_sem] fC fH iy gU iA ik gW gV im gY eP eN eV eK eY eR eQ er eu ey eh ej dY eT eO eU eS eI eM eJ eX fm fu ft fo dX eZ
theorem fN(c:Array Vy)(t:VR)(n:Nat)(cs:Array Vy)(hn:n=w.heap.size):(w.alloc (.cells c t)).setRow n cs=w.alloc (.cells cs t):=by
 subst hn;unfold World.setRow Vt.alloc
 congr 1
 apply Array.ext_getElem?;intro k;simp only[Array.getElem?_modify,Array.getElem?_push];by_cases hk:k=w.heap.size
 ·subst hk;simp
 ·simp[hk,Ne.symm hk]
theorem kU(o:Obj)(n:Nat)(cs:Array Vy)(hn:n<w.heap.size):(w.alloc o).setRow n cs=(w.setRow n cs).alloc o:=by
 unfold World.setRow Vt.alloc
 congr 1
 apply Array.ext_getElem?;intro k;simp only[Array.getElem?_modify,Array.getElem?_push,Array.size_modify];by_cases hk:k=w.heap.size
 ·subst hk;simp[Nat.ne_of_lt hn]
 ·simp[hk]
def kR(w:Vt)(n:Nat)(cs:Array Vy):w.drew.setRow n cs=(w.setRow n cs).drew:=rfl
def jV(w:Vt)(k n:Nat)(cs:Array Vy):(w.drewN k).setRow n cs=(w.setRow n cs).drewN k:=rfl
attribute [local go_sem] fN kU kR jV
theorem setRow_heap(h:w.heap[n]?=Vz (.cells old t (0,0)))(cs:Array Vy):(w.setRow n cs).heap[n]?=Vz (.cells cs t (0,0)):=by
 simp[World.setRow,Array.getElem?_modify,h]
theorem ah{B n:Nat}(h:VS B w W)(hn:B<=n)(cs:Array Vy):VS B w (W.setRow n cs):=
 h.trans ⟨rfl,rfl,rfl,by simp[World.setRow],λk hk=>by simp only[World.setRow,Array.getElem?_modify];rw[if_neg V7]⟩
def lA(w:Vt)(a b:Obj):((w.alloc a).alloc b).heap[w.heap.size]?=Vz a:=by
 rw[heap_alloc_old _ _ Wa,heap_alloc_new]
def qw(w:Vt)(a b c:Obj):(((w.alloc a).alloc b).alloc c).heap[w.heap.size]?=Vz a:=by
 rw[heap_alloc_old _ _ Wf,lA]
def Cr(w:Vt)(a b c:Obj):(((w.alloc a).alloc b).alloc c).heap[w.heap.size+1]?=Vz b:=by
 rw[heap_alloc_old _ _ Wa];have:=heap_alloc_new (w.alloc a) b;exact XY
def wZ(w:Vt)(a b c:Obj):(((w.alloc a).alloc b).alloc c).heap[w.heap.size+1+1]?=Vz c:=by
 have:=heap_alloc_new ((w.alloc a).alloc b) c;exact XY
def Bu(w:Vt)(a b c:Obj):(((w.alloc a).alloc b).alloc c).drew.heap[w.heap.size+1]?=Vz b:=Cr w a b c
def yR(w:Vt)(a b c:Obj):(((w.alloc a).alloc b).alloc c).drew.heap[w.heap.size+1+1]?=Vz c:=wZ w a b c
end
end Go.Proofs.YtmliacdegmklaaaGreatDoor
