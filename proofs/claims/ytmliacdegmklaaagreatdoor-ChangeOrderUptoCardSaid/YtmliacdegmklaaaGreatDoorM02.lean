/- ChangeReplays of kingpostlaw58: part 2 of its proof (merged and shortened by program). -/
import Derived.Lib.SlTrimSet
import Derived.Lib.ItoaNum
import Derived.Lib.AtoiAll
import Derived.Lib.Strings
import Derived.Lib.Atoi
import Derived.Lib.AtoiTie
import Derived.Shelf.Strings.SlTrimAscii
import Derived.Lib.AtoiErrMem
import Derived.WideLaws
import Derived.Lib.OthersKept
import Derived.Lib.OwnKind
import Derived.Lib.BufferKept
import Derived.Lib.Split
import Derived.Lib.SplitLaws
import Derived.Lib.AtoiAllCases
import Derived.Laws.Rows
import Derived.Laws.Tables
import Derived.Test.YtmliacdegmklaaaGreatDoorM00
import Derived.Test.YtmliacdegmklaaaGreatDoorM01
set_option linter.unusedVariables false
set_option linter.unusedSimpArgs false
set_option linter.defProp false
set_option maxHeartbeats 8000000
set_option maxRecDepth 100000
open Go.RowKit Go.Shelf Go.Proofs.Tryz
open Array renaming getElem?_eq_some_iff→Vz
open Bool renaming false→Vp,true→Vv,and_eq_true_iff→Vw
open Go renaming World→Vl,Value→Vr,undef→Vs,wpOp_step→Vx,Calls→VC,maxLen→VJ,TypeId→VK,Addr→VM,Rows→VP
open Go.AllReady renaming cons→VH,nil→VO
open Go.Ending renaming returned→VV
open Go.IntKind renaming i64→VA
open Go.IntWalk renaming i64_in→VI
open Go.Lib renaming hid→Vk
open Go.RowKit renaming intOf→VG,Below→VL
open Go.Value renaming slice→VQ,string→VR,bool→VS,pointer→VT,int→VU,agg→VW,tuple→VX
open Go.World renaming alloc_heap_new→Vy,size_alloc→VF
open List renaming getD_eq_getElem?_getD→Vn,getElem?_eq_getElem→Vt,length_map→Vu,length_append→VD
open Nat renaming le_refl→Vm,le_trans→VB,mul_comm→VE
open Option renaming none→Vo,some→Vq
open Option.some renaming inj→VN
open Go.Proofs.YtmliacdegmklaaaGreatDoor
namespace Kp
section
open Go
def fJ(b:UInt8):Bool:=48<=b&&b<=57
def FX:List UInt8:=[48,49,50,51,52,53,54,55,56,57]
def BL(b:UInt8):FX.contains b=fJ b:=by
 have h:∀n:Fin 256,FX.contains (UInt8.ofNat n.1)=fJ (UInt8.ofNat n.1):=WN;have:=h ⟨b.toNat,b.toNat_lt⟩;exact Ya
def yo(l:List UInt8):Lib.trimS l FX=[]↔l.all fJ=Vv:=by
 have h1:∀m:List UInt8,Lib.trimLeftS m FX=[]↔m.all fJ=Vv:=by
  intro m;unfold Lib.trimLeftS;simp only[BL]
  induction m with
  |nil=>simp
  |cons b m ih=>
   by_cases hb:fJ b=Vv
   ·simp[hb,ih]
   ·simp[hb]
 unfold Lib.trimS;rw[h1];unfold Lib.trimRightS;simp only[BL];constructor
 ·intro h;rw[List.all_eq_true] at h⊢;intro b hb;have h2:∀m:List UInt8,(∀x∈m.dropWhile (λx=>fJ x),fJ x=Vv)->∀x∈m,fJ x=Vv:=by
   intro m
   induction m with
   |nil=>intro _ x hx;cases hx
   |cons c m ih=>
    intro hm x hx;by_cases hc:fJ c=Vv
    ·rw[List.dropWhile_cons_of_pos hc] at hm;rcases List.mem_cons.1 hx with rfl|hx
     ·exact hc
     ·exact ih hm x hx
    ·rw[List.dropWhile_cons_of_neg hc] at hm;exact hm x hx
  exact h2 l.reverse (λx hx=>h x (List.mem_reverse.2 hx)) b (List.mem_reverse.2 hb)
 ·intro h;rw[List.all_eq_true] at h⊢;intro b hb;exact h b (List.mem_reverse.1 ((List.dropWhile_suffix _).mem (List.mem_reverse.1 hb)))
def own(l:List UInt8):List UInt8:=Lib.trimPrefix l [45]
def aT(l:List UInt8):Bool:=(own l).all fJ&& !(own l).isEmpty&&(!((own l).head?==Vq 48)||l==[48])
def jB(l:List UInt8):Int:=if aT l then(if 300<(own l).length then 4 else 0) else 11
def IX{l r:List UInt8}{c:UInt8}(h:own l=c::r)(hc:c=48)(hl:¬l=[48]):jB l=11:=by
 unfold jB aT;rw[h,hc];simp[hl]
def DQ{l r:List UInt8}{c:UInt8}(h:own l=c::r)(ht:(!(Lib.trimS (c::r) FX).isEmpty)=Vv):jB l=11:=by
 have:(c::r).all fJ=Vp:=by
  rw[Bool.eq_false_iff];intro h1;rw[(yo _).2 h1] at ht;simp at ht
 unfold jB aT;rw[h,this];simp
def oB{l r:List UInt8}{c:UInt8}(h:own l=c::r)(hc:¬c=48\/l=[48])(ht:(!(Lib.trimS (c::r) FX).isEmpty)=Vp):jB l=if 300<r.length+1 then 4 else 0:=by
 have:(c::r).all fJ=Vv:=(yo _).1 (by simpa using ht);have hf:aT l=Vv:=by
  unfold aT;rw[h,this];rcases hc with hc|hc
  ·simp[hc]
  ·simp[hc]
 unfold jB;rw[hf,h];simp
def Rg{c:UInt8}(h:(c.toNat:Int)=48):c=48:=UInt8.toNat.inj Wa
end
section
open Go
def iD(b:UInt8):Nat:=b.toNat-48
def ky{b:UInt8}(h:fJ b=Vv):iD b<10/\48<=b.toNat/\b.toNat<=57:=by
 unfold fJ at h;simp[UInt8.le_iff_toNat_le] at h;unfold iD;omega
def aw(l:List UInt8):Nat:=l.foldl (λa b=>a*10+iD b) 0
def uO(l:List UInt8)(b:UInt8):aw (l++[b])=aw l*10+iD b:=by simp[aw]
def zw{b:UInt8}(h:fJ b=Vv):Lib.digitVal b=Vq (iD b):=by
 have:=ky h;unfold Lib.digitVal;rw[if_pos VY];rfl
def Ct(l:List UInt8)(h:l.all fJ=Vv):∀acc,Lib.decFrom acc l=Vq (l.foldl (λa b=>a*10+iD b) acc):=by
 induction l with
 |nil=>intro acc;rfl
 |cons b r ih=>
  intro acc;simp only[List.all_cons,Bool.and_eq_true] at h;simp only[Lib.decFrom,zw h.1,List.foldl_cons];exact ih h.2 _
def py{l:List UInt8}(h:l.all fJ=Vv)(hn:l≠[]):Lib.decNat l=Vq (aw l):=by
 unfold Lib.decNat;rw[if_neg (by simpa using hn),Ct l h];rfl
def dg(l:List UInt8)(p:Nat):Nat:=iD (l.getD (l.length-1-p) 48)
def low(l:List UInt8):Nat->Nat
 |0=>0
 |i+1=>low l i+dg l i*10^i
def DM(l:List UInt8):∀a:Nat,l.foldl (λa b=>a*10+iD b) a=a*10^l.length+aw l:=by
 induction l with
 |nil=>intro a;simp[aw]
 |cons b r ih=>
  intro a;simp only[List.foldl_cons,List.length_cons];have e:aw (b::r)=r.foldl (λa b=>a*10+iD b) (0*10+iD b):=rfl;rw[ih,e,ih];rw[Nat.pow_succ,Nat.add_mul,Nat.zero_mul,Nat.zero_add];have:a*10*10^r.length=a*(10^r.length*10):=by rw[Nat.mul_assoc,VE 10]
  omega
def gD(b:UInt8)(r:List UInt8):aw (b::r)=iD b*10^r.length+aw r:=by
 have:=DM r (iD b);unfold aw at *;simp only[List.foldl_cons,Nat.zero_mul,Nat.zero_add];exact this
def LK(b:UInt8)(r:List UInt8)(i:Nat)(hi:i<=r.length):low (b::r) i=low r i:=by
 induction i with
 |zero=>rfl
 |succ i ih=>
  rw[low,low,ih VY];have:dg (b::r) i=dg r i:=by
   unfold dg;have e:(b::r).length-1-i=(r.length-1-i)+1:=Wa;rw[e];simp
  rw[this]
def Qj(l:List UInt8):low l l.length=aw l:=by
 induction l with
 |nil=>rfl
 |cons b r ih=>
  rw[List.length_cons,low,LK b r _ (Vm _),ih,gD];have:dg (b::r) r.length=iD b:=by unfold dg;simp
  rw[this];omega
def QY{l:List UInt8}(h:l.all fJ=Vv)(i:Nat):dg l i<10:=by
 unfold dg;rw[Vn];cases hx:l[l.length-1-i]? with
 |none=>decide
 |some b=>
  rw[List.all_eq_true] at h;exact(ky (h b (List.mem_of_getElem? hx))).1
structure SI(l:List UInt8)(i:Nat)(lim:List Nat):Prop where
 small:Small lim
 eq:S (fv lim) lim.length=low l i
 part:fv lim (i/9)<10^(i%9)
 zero:∀k,i/9<k->fv lim k=0
def QK(i:Nat):10^(i%9)*B^(i/9)=10^i:=by
 have:B=10^9:=rfl;rw[this,<-Nat.pow_mul,<-Nat.pow_add]
 congr 1
 omega
def IQ{f g:Nat->Nat}{n j x:Nat}(hj:j<n)(hs:∀k,k≠j->g k=f k)(hx:g j=f j+x):S g n=S f n+x*B^j:=by
 have h:=Fo (f:=f) (g:=g) (m:=n) (j:=j) (n:=1) VY (λk hk=>hs k VY) (λk hk _=>hs k VY);have e:∀h:Nat->Nat,S (sh h j) 1=h j:=λh=>by unfold S S sh;simp
 rw[e,e,hx,Nat.mul_add] at h;have:B^j*x=x*B^j:=VE _ _;omega
def SI.step{l:List UInt8}{i:Nat}{lim lim':List Nat}(h:SI l i lim)(hd:l.all fJ=Vv)(hn:i/9<lim.length)(hl:lim'.length=lim.length)
  (hs:∀k,k≠i/9->fv lim' k=fv lim k)(hx:fv lim' (i/9)=fv lim (i/9)+dg l i*10^(i%9)):SI l (i+1) lim':=by
 have h10:=QY hd i;have hb:fv lim' (i/9)<10^(i%9+1):=by
  rw[hx,Nat.pow_succ];have:dg l i*10^(i%9)<=9*10^(i%9):=Nat.mul_le_mul_right _ VY;have:=h.part;omega
 have hB:fv lim' (i/9)<B:=by
  have:10^(i%9+1)<=10^9:=Nat.pow_le_pow_right V0 VY;exact Nat.lt_of_lt_of_le hb this
 refine⟨?_,?_,?_,?_⟩
 ·intro x hx';obtain⟨k,hk,e⟩:=List.mem_iff_getElem.1 hx';rw[<-e,<-lP hk];by_cases hki:k=i/9
  ·rw[hki];exact hB
  ·rw[hs k hki];exact aA h.small k
 ·rw[hl,IQ hn hs hx,h.eq,low,Nat.mul_assoc,QK]
 ·by_cases h8:i%9=8
  ·have e1:(i+1)/9=i/9+1:=VY;have e2:(i+1)%9=0:=VY;rw[e1,e2,hs _ VY,h.zero _ VY];decide
  ·have e1:(i+1)/9=i/9:=VY;have e2:(i+1)%9=i%9+1:=VY;rw[e1,e2];exact hb
 ·intro k hk;have:i/9<k:=VY;rw[hs k VY];exact h.zero k this
def SI.start(l:List UInt8)(n:Nat):SI l 0 (List.replicate n 0):=by
 have hz:∀k,fv (List.replicate n 0) k=0:=λk=>by unfold fv;rw[Vn,List.getElem?_replicate];split <;>rfl
 refine⟨λd hd=>by rw[List.eq_of_mem_replicate hd];decide,?_,by rw[hz];decide,λk _=>hz k⟩;rw[q8 (λk _=>hz k)];rfl
end
end Kp
namespace Go.Proofs.YtmliacdegmklaaaGreatDoor
section
open Kp
abbrev tx(l:List UInt8):ByteArray:=⟨l.toArray⟩
def bn(l:List UInt8):(tx l).data.toList=l:=V5
def ai(l:List UInt8):(tx l).size=l.length:=WO
def lr(s:ByteArray):tx s.data.toList=s:=by cases s;simp
def Ca(l:List UInt8)(w:Vl)(hl:l.length<=1000000):
  VC prog 344 #[VR (tx l),VR ⟨#[48,49,50,51,52,53,54,55,56,57]⟩] w λe w'=>e=VV (VR (tx (Lib.trimS l FX)))/\VL w.heap.size w w':=by
 have h:=Go.Proofs.Any.strings_Trim_laid Px VZ (tx l) ⟨#[48,49,50,51,52,53,54,55,56,57]⟩ w XD V0 (ascii_of_all V0);rw[bn] at h;exact h
def cE{k:IntKind}{a b:Int}(h:a=b):Ending.returned (.int k a)=VV (.int k b):=by rw[h]
def uA(l:List UInt8)(w:Vl)(hl:l.length<=1000000):
  VC prog 324 #[VR (tx l)] w λe w'=>e=VV (VU VA (jB l))/\VL w.heap.size w w':=by
 have hp:=Vk (strings_TrimPrefix (tx l) (tx [45]) w);obtain⟨ds,hds⟩:∃ds,own l=ds:=⟨_,rfl⟩;have hdl:ds.length<=l.length:=by rw[<-hds];unfold own Lib.trimPrefix;split <;>simp
 have hds':Lib.trimPrefix l [45]=ds:=hds;have HDS:=Vk hds;rw[hds'] at hp;clear hds hds';cases ds with
 |nil=>
  go_enter func324,ntmps324;go_wp2_with(go_at_call 243;refine hp.o.mono ?_;rintro e w' ⟨rfl,rfl⟩)
  go_ret;exact⟨cE (by unfold jB aT;rw[HDS.o];rfl),Below.refl _ _⟩
 |cons c r=>
  go_enter func324,ntmps324;go_wp2_with(first|(go_at_call 243;refine hp.o.mono ?_;rintro e w' ⟨rfl,rfl⟩)|(go_at_call 344;refine(Ca (c::r) _ (by simp at hdl⊢;omega)).mono ?_;rintro e w2 ⟨rfl,hB⟩))
  ·go_ret;exact⟨cE (DQ HDS.o Wd).symm,hB⟩
  ·have hl0:l=[48]:=Wd;have h300:300<(r.length:Int)+1:=Wd;go_ret;exact⟨cE (by rw[oB HDS.o (.inr hl0) Wd,if_pos VY]),hB⟩
  ·have hl0:l=[48]:=Wd;have h300:(r.length:Int)+1<=300:=Wd;go_ret;exact⟨cE (by rw[oB HDS.o (.inr hl0) Wd,if_neg VY]),hB⟩
  ·have h48:(c.toNat:Int)=48:=Wd;go_ret;exact⟨cE (IX HDS.o (Rg h48) Wd).symm,Below.refl _ _⟩
  ·go_ret;exact⟨cE (DQ HDS.o Wd).symm,hB⟩
  ·have h48:¬(c.toNat:Int)=48:=Wd;have h300:300<(r.length:Int)+1:=Wd;go_ret;exact⟨cE (by rw[oB HDS.o (.inl (λh=>h48 (by rw[h];rfl))) Wd,if_pos VY]),hB⟩
  ·have h48:¬(c.toNat:Int)=48:=Wd;have h300:(r.length:Int)+1<=300:=Wd;go_ret;exact⟨cE (by rw[oB HDS.o (.inl (λh=>h48 (by rw[h];rfl))) Wd,if_neg VY]),hB⟩
end
section
open Kp
attribute [local go_sem] Oper.semAt_some
def RL(Bs:Nat)(l:List UInt8)(W:Vl):Prop:=W.cell? ⟨Bs,0,Vo⟩=Vq (VR (tx l))
def TN(l:List UInt8)(k:Nat)(x:Array Vr):Prop:=x=#[VU VA (k:Int),VU VA (dg l k:Int)]
def T9{l:List UInt8}{k:Nat}(hk:k<l.length):dg l k=iD (l[l.length-1-k]'VY):=by
 unfold dg;rw[Vn,Vt VY];rfl
def Dn(Bs:Nat)(l:List UInt8)(hn:l.length<=1000000)(hd:l.all fJ=Vv):
  DX prog 345 #[VT (Vq ⟨Bs,0,Vo⟩)] (TN l) (RL Bs l) l.length:=by
 intro m lp J Jx W hM hJ hJx hY h0;refine callsIn_of_wp func345 rfl trivial ?_ rfl;have hc0:=hM 0 W h0;unfold RL at hc0;simp only[ntmps345,List.size_toArray,List.length_cons,List.length_nil,Nat.reduceAdd,Nat.reduceSub,Array.replicate_succ,Array.replicate_zero,List.push_toArray,List.append_toArray,List.nil_append,List.cons_append]
 gi_wp2
 gi_loopw [6] (λi wr=>∃k:Nat,k<=l.length/\i=VU VA (k:Int)/\J k wr) (λi _=>((l.length:Int)-VG i).toNat)
 case atStart=>exact⟨0,VY,V5,h0⟩
 case round=>
  obtain⟨k,hk,rfl,hj⟩:=hrel;have hc:=hM k wr hj;unfold RL at hc;by_cases hlt:k<l.length
  ·obtain⟨fn,tmps,assign,body,hy,hR⟩:=hY k _ wr hlt rfl hj;have e1:((l.length:Int)-1-k).toNat=l.length-1-k:=VY;have hb:l.length-1-k<(tx l).size:=XD;have ev:((((tx l)[l.length-1-k]'hb).toNat:Int)-48)%256=(dg l k:Int):=by
    have hx:(tx l)[l.length-1-k]'hb=l[l.length-1-k]'VY:=rfl;rw[hx,T9 hlt];have:=ky (List.all_eq_true.1 hd _ (List.getElem_mem (n:=l.length-1-k) (h:=VY)));unfold iD at *;omega
   have HD:=Vk hd;clear hd;exact Ym
  ·obtain rfl:k=l.length:=VY;exact Yi
def EZ(w:Vl)(s:ByteArray):
  VC prog 325 #[VR s] w λe w'=>e=VV (.func (.func 345) #[] #[VT (Vq ⟨w.heap.size,0,Vo⟩)])/\w'=w.alloc (.cells #[VR s] 9):=by
 go_enter func325,ntmps325;go_wp2;go_ret;exact⟨rfl,rfl⟩
end
section
open Kp
attribute [local go_sem] Oper.semAt_some
def eN(W:Vl)(b:Nat)(t:VK)(u v:Vr):Prop:=W.heap[b]?=Vq (.cells #[u,v] t (0,0))
def eN.cell0{W:Vl}{b:Nat}{t:VK}{u v:Vr}(h:eN W b t u v):W.cell? ⟨b,0,Vo⟩=Vq u:=by unfold eN at h;simp[World.cell?,h]
def eN.dX{W:Vl}{b:Nat}{t:VK}{u v:Vr}(h:eN W b t u v):W.cell? ⟨b,1,Vo⟩=Vq v:=by unfold eN at h;simp[World.cell?,h]
def eN.frozen{W:Vl}{b:Nat}{t:VK}{u v:Vr}(h:eN W b t u v)(i:Nat):W.frozen? ⟨b,i,Vo⟩=Vp:=by unfold eN at h;simp[World.frozen?,h]
def eN.stays{n0:Nat}{W W':Vl}{b:Nat}{t:VK}{u v:Vr}(h:eN W b t u v)(hs:aE n0 W W'):eN W' b t u v:=hs.cells _ _ _ _ h
def eN.lt{W:Vl}{b:Nat}{t:VK}{u v:Vr}(h:eN W b t u v):b<W.heap.size:=(Vz.1 h).1
def eN.dx{W:Vl}{b:Nat}{t:VK}{u v:Vr}(h:eN W b t u v){p:VM}(hp:b≠p.block)(x:Vr):eN (W.setCell p x) b t u v:=(Below.heap_setCell W p x b hp).trans h
def eN.mQ{W:Vl}{b:Nat}{t:VK}{u v:Vr}(h:eN W b t u v)(x:Vr):eN (W.setCell ⟨b,0,Vo⟩ x) b t x v:=by
 unfold eN at h⊢;simp[World.setCell,Array.getElem?_modify,h]
def eN.qe{W:Vl}{b:Nat}{t:VK}{u v:Vr}(h:eN W b t u v)(x:Vr):eN (W.setCell ⟨b,1,Vo⟩ x) b t u x:=by
 unfold eN at h⊢;simp[World.setCell,Array.getElem?_modify,h]
def eN.alloc{W:Vl}{b:Nat}{t:VK}{u v:Vr}(h:eN W b t u v)(o:Obj):eN (W.alloc o) b t u v:=(Below.heap_alloc W o b h.lt).trans h
def eN.drew{W:Vl}{b:Nat}{t:VK}{u v:Vr}(h:eN W b t u v):eN W.drew b t u v:=h
def eN.at_{W:Vl}{t:VK}{u v:Vr}{n:Nat}(h:W.heap.size=n):eN (W.alloc (.cells #[u,v] t)) n t u v:=by subst h;exact Vy W _
structure It(w:Vl)(ds:List UInt8)(neg:Bool)(n:Nat)(k:Nat)(lim:List Nat)(u:Nat)(W:Vl):Prop where
 res:eN W w.heap.size 326 (VS Vp) (VQ Vo 0 0)
 row:Row W (w.heap.size+1) n lim
 x:eN W (w.heap.size+2) 326 (VS neg) (VQ (Vq ⟨w.heap.size+1,0,Vo⟩) n n)
 unit:Bx W (w.heap.size+3) 3 (VU VA u)
 it:Bx W (w.heap.size+4) 9 (VR (tx ds))
 len:lim.length=n
 hu:k%9≠0->u=10^(k%9)
 m:SI ds k lim
 low:VL w.heap.size w W
def It.stays{w:Vl}{ds:List UInt8}{neg:Bool}{n k:Nat}{lim:List Nat}{u n0:Nat}{W W':Vl}(h:It w ds neg n k lim u W)(hs:aE n0 W W')(hn:w.heap.size<=n0):It w ds neg n k lim u W':=
 ⟨h.res.stays hs,h.row.stays hs,h.x.stays hs,h.unit.stays hs,h.it.stays hs,h.len,h.hu,h.m,h.low.trans (hs.below.mono hn)⟩
def FI(w:Vl)(ds:List UInt8)(neg:Bool)(n:Nat)(k:Nat)(W:Vl):Prop:=∃lim u,It w ds neg n k lim u W
def Gj{w W:Vl}{ds:List UInt8}{neg:Bool}{n k:Nat}{lim:List Nat}{u:Nat}(h:It w ds neg n k lim u W)(hd:ds.all fJ=Vv)(hk:k/9<n)(hu:u=10^(k%9)):
  It w ds neg n (k+1) (lim.set (k/9) (fv lim (k/9)+dg ds k*u)) (u*10) ((W.setCell ⟨w.heap.size+1,k/9,Vo⟩ (VU VA ((fv lim (k/9):Int)+(dg ds k:Int)*u))).setCell ⟨w.heap.size+3,0,Vo⟩ (VU VA ((u:Int)*10))):=by
 obtain⟨res,row,x,unit,it,len,_,m,low⟩:=h;have e1:((fv lim (k/9):Int)+(dg ds k:Int)*u)=((fv lim (k/9)+dg ds k*u:Nat):Int):=V5;have e2:((u:Int)*10)=((u*10:Nat):Int):=V5;rw[e1,e2];refine⟨(res.dx V5 _).dx V5 _,(row.set VY _).dx V5 _,(x.dx V5 _).dx V5 _,(unit.dx V5 _).put _,(it.dx V5 _).dx V5 _,by simpa using len,?_,?_,?_⟩
 ·intro h9;rw[hu,<-Nat.pow_succ]
  congr 1;omega
 ·refine m.step hd VY V5 (λj hj=>by rw[ie VY,if_neg hj]) ?_;rw[ie VY,if_pos rfl,hu]
 ·exact(low.setCell (p:=⟨w.heap.size+1,_,Vo⟩) V5 _).setCell (p:=⟨w.heap.size+3,0,Vo⟩) V5 _
def RR{w W:Vl}{ds:List UInt8}{neg:Bool}{n k:Nat}{lim:List Nat}{u:Nat}(h:It w ds neg n k lim u W)(hk:k%9=0):
  It w ds neg n k lim 1 (W.setCell ⟨w.heap.size+3,0,Vo⟩ (VU VA 1)):=
 ⟨h.res.dx V5 _,h.row.dx V5 _,h.x.dx V5 _,h.unit.put _,h.it.dx V5 _,h.len,λh=>absurd hk h,h.m,h.low.setCell (p:=⟨w.heap.size+3,0,Vo⟩) V5 _⟩
def It.drew{w:Vl}{ds:List UInt8}{neg:Bool}{n k:Nat}{lim:List Nat}{u:Nat}{W:Vl}(h:It w ds neg n k lim u W):It w ds neg n k lim u W.drew:=
 ⟨h.res,h.row,h.x,h.unit,h.it,h.len,h.hu,h.m,h.low.drew⟩
def nQ{w W:Vl}{ds:List UInt8}{neg:Bool}{n k:Nat}{lim:List Nat}{u g1 o1 g2 o2:Nat}{v1 v2:Vr}
  (h:It w ds neg n k lim u ((W.setCell ⟨g1,o1,Vo⟩ v1).setCell ⟨g2,o2,Vo⟩ v2)):
  KeepsOthers W ((W.setCell ⟨g1,o1,Vo⟩ v1).setCell ⟨g2,o2,Vo⟩ v2).drew/\FI w ds neg n k ((W.setCell ⟨g1,o1,Vo⟩ v1).setCell ⟨g2,o2,Vo⟩ v2).drew:=
 ⟨((KeepsOthers.setCell _ _ _).trans (KeepsOthers.setCell _ _ _)).trans (KeepsOthers.drew _),_,_,h.drew⟩
def ud{w W0 W:Vl}{ds:List UInt8}{neg:Bool}{n k:Nat}{lim:List Nat}{u g1 o1 g2 o2:Nat}{v1 v2:Vr}(hk:KeepsOthers W0 W)
  (h:It w ds neg n k lim u ((W.setCell ⟨g1,o1,Vo⟩ v1).setCell ⟨g2,o2,Vo⟩ v2)):
  KeepsOthers W0 ((W.setCell ⟨g1,o1,Vo⟩ v1).setCell ⟨g2,o2,Vo⟩ v2).drew/\FI w ds neg n k ((W.setCell ⟨g1,o1,Vo⟩ v1).setCell ⟨g2,o2,Vo⟩ v2).drew:=
 ⟨hk.trans (nQ h).1,(nQ h).2⟩
def Mb(w:Vl)(s:List UInt8)(e:Ending)(w':Vl):Prop:=
 ∃v l,e=VV (VW #[VS (Lib.hasPrefix s [45]),v])/\Jd w w' v l/\Canon l/\val l=aw (own s)/\l.length<=(own s).length/\VL w.heap.size w w'
def mc(w:Vl)(s:List UInt8)(hd:(own s).all fJ=Vv)(hl:s.length<=1000000):
  VC prog 296 #[VR (tx s)] w (Mb w s):=by
 obtain⟨ds,hds⟩:∃ds,own s=ds:=⟨_,rfl⟩;obtain⟨neg,hneg⟩:∃neg,Lib.hasPrefix s [45]=neg:=⟨_,rfl⟩;have hdl:ds.length<=s.length:=by rw[<-hds];unfold own Lib.trimPrefix;split <;>simp
 have hds':Lib.trimPrefix s [45]=ds:=hds;have hcut:∀W,VC prog 290 #[VR (tx s),VR ⟨#[45]⟩] W λe w'=>e=VV (VX #[VR (tx ds),VS neg])/\w'=W:=λW=>by
  have:=strings_CutPrefix (tx s) (tx [45]) W;rw[bn,bn,hds',hneg] at this;exact this
 rw[hds] at hd;have HDS:=Vk hds;have HNEG:=Vk hneg;have HD:=Vk hd;have HCUT:=Vk hcut;clear hds hds' hneg hcut hd;have w1:((ds.length:Int)+9-1)/9=(((ds.length+8)/9:Nat):Int):=VY;obtain⟨n,hn⟩:∃n,(ds.length+8)/9=n:=⟨_,rfl⟩;rw[hn] at w1;have HN0:=Vk hn;have hn1:n<=1000000:=VY;have hn2:ds.length<=n*9:=VY;clear hn;have hmk:=lz n VY;refine(callsIn_wide (n:=9)).1 (callsIn_of_wp_marks func296 rfl trivial ?_);simp only[ntmps296,List.size_toArray,List.length_cons,List.length_nil,Nat.reduceAdd,Nat.reduceSub,Array.replicate_succ,Array.replicate_zero,List.push_toArray,List.append_toArray,List.nil_append,List.cons_append];gi_wp2_with(refine⟨trivial,?_⟩;first|(gi_at_call 290;refine(callsIn_wide.2 (HCUT.o _)).mono ?_;rintro e w' ⟨rfl,rfl⟩)|(gi_at_call 325;refine(callsIn_wide.2 (EZ _ _)).mono ?_;rintro e w' ⟨rfl,rfl⟩))
 refine fe (gf:=345) (lb:=#[VT (Vq ⟨w.heap.size+4,0,Vo⟩)]) rfl (enters_of func345 VZ rfl)
  (Dn (w.heap.size+4) ds VY HD.o) (λk x e=>XC)
  (FI w ds neg n) (λ_ _ _=>False) (λk W W' ⟨q,r,h⟩ hs=>⟨q,r,h.stays hs Wa⟩) (λc k W W' h hs=>h) (λk W ⟨q,r,h⟩=>h.it.cell) ?start ?round ?done ?stop
 case start=>
  have hB:VL w.heap.size w (((((w.alloc (.cells #[VS Vp,VQ Vo 0 0] 326)).alloc (.cells (pL n) 3)).alloc (.cells #[VS neg,VQ (Vq ⟨w.heap.size+1,0,Vo⟩) n n] 326)).alloc (.cells #[VU VA 1] 3)).alloc (.cells #[VR (tx ds)] 9)):=
   (qV w _ _ _).trans ((((Below.refl _ _).alloc Wa _).alloc Wa _))
  refine⟨List.replicate n 0,1,((((eN.at_ rfl).alloc _).alloc _).alloc _).alloc _,?_,((eN.at_ V5).alloc _).alloc _,(Bx.at_ V5).alloc _,Bx.at_ V5,V5,λh=>absurd rfl h,SI.start ds n,hB⟩;have:=re (w.alloc (.cells #[VS Vp,VQ Vo 0 0] 326)) n VY;simp only[VF] at this;exact((this.alloc _).alloc _).alloc _
 case round=>
  intro l k x W K hk hx hi hK;unfold TN at hx;subst hx;have HK:=Vk hK;clear hK
  gi_wp2
  refine HK.o _ (λW2 hi2 _=> ?_);clear HK hi;obtain⟨lim,u,h⟩:=hi2;have hkn:k/9<n:=VY;have hdg:=QY HD.o k;have hfv:fv lim (k/9)<1000000000:=aA h.m.small _;have hq:((k:Int)/9).toNat=k/9:=VY;have i0:0<=(k:Int)/9:=VY;have i1:(k:Int)/9<n:=VY;by_cases h9:k%9=0
  ·have h1:=RR h h9;obtain⟨W3,hW3⟩:∃W3,W2.setCell ⟨w.heap.size+3,0,Vo⟩ (VU VA 1)=W3:=⟨_,rfl⟩;have hk3:=Vk (show KeepsOthers W2 W3 by rw[<-hW3];exact KeepsOthers.setCell _ _ _);rw[hW3] at h1;obtain⟨u1,hu1⟩:∃u1:Nat,u1=1:=⟨_,rfl⟩;rw[<-hu1] at h1;have hu:u1=10^(k%9):=by rw[h9,hu1]
   clear hu1;have HN:=Vk (Gj h1 HD.o hkn hu);have f2:=h.unit.frozen;have b2:=h.unit.cell;have hub:u1<=100000000:=by
    exact Yo
   have hmul:dg ds k*u1<=900000000:=by
    calc dg ds k*u1<=9*100000000:=Nat.mul_le_mul VY hub
     _=900000000:=rfl
   have hmul':(dg ds k:Int)*(u1:Int)<=900000000:=by rw[<-Int.natCast_mul];omega
   have hmul0:0<=(dg ds k:Int)*(u1:Int):=by rw[<-Int.natCast_mul];omega
   have b0:=h1.x.dX;have b1:=h1.unit.cell;have f1:=h1.unit.frozen;have f3:=h1.row.frozen (k/9);have b3:=h1.row.cell (j:=k/9) (by rw[h1.len];omega);have wq:VA.wrap ((k:Int)/9)=(k:Int)/9:=cD VY VY;have w5:VA.wrap ((dg ds k:Int)*(u1:Int))=dg ds k*u1:=cD VY VY;have w6:VA.wrap ((fv lim (k/9):Int)+(dg ds k:Int)*(u1:Int))=fv lim (k/9)+dg ds k*u1:=cD VY VY;have w7:VA.wrap ((u1:Int)*10)=u1*10:=cD VY VY;have ht:((k:Int)%9==0)=Vv:=by rw[beq_iff_eq];omega
   have HW3:=Vk hW3;clear h h1 h9 hW3 hu hmul
   gi_wp2
   rw[HW3.o];refine wpIn_region_any VZ (gQ VZ (by rintro⟨_,_,h⟩;exact h) _ _ _ _ ?_)
   try(change wpAny _ _ _ _ _ _ _ (Vl.drew _))
   refine wpAny_take (i:=0) (v:= ?vc1) rfl VZ VZ VZ (λ_ _ _ h=>h) (Or.inl ⟨Wn,?hyc1⟩) ?_
   case hyc1=>(intro w;go_simp;try with_reducible rfl)
   refine wpAny_take (i:=2) (v:= ?vc2) rfl VZ VZ VZ (λ_ _ _ h=>h) (Or.inl ⟨Wn,?hyc2⟩) ?_
   case hyc2=>(intro w;go_simp;try with_reducible rfl)
   refine wpAny_take (i:=3) (v:= ?vc3) rfl VZ VZ VZ (λ_ _ _ h=>h) (Or.inl ⟨Wn,?hyc3⟩) ?_
   case hyc3=>(intro w;go_simp;try with_reducible rfl)
   refine wpAny_take (i:=6) (v:= ?vc4) rfl VZ VZ VZ (λ_ _ _ h=>h) (Or.inl ⟨Wn,?hyc4⟩) ?_
   case hyc4=>(intro w;go_simp;try with_reducible rfl)
   refine wpAny_ready (rs:=[1,7]) VZ V5 ?_;refine VH rfl (λK hK=> ?_) ?_
   ·go_simp;refine hK _ _ ?_;clear hK K;refine wpAny_take (i:=4) (v:= ?vc5) rfl VZ VZ VZ (λ_ _ _ h=>h) (Or.inl ⟨Wn,?hyc5⟩) ?_
    case hyc5=>(intro w;go_simp;try with_reducible rfl)
    refine wpAny_ready (rs:=[5,7]) VZ V5 ?_;refine VH rfl (λK hK=> ?_) ?_
    ·go_simp;refine hK _ _ ?_;clear hK K;refine wpAny_ready (rs:=[7]) VZ V5 ?_;refine VH rfl (λK hK=> ?_) ?_
     ·go_simp;refine hK _ _ ?_;clear hK K;refine wpAny_take (i:=8) (v:= ?vc6) rfl VZ VZ VZ (λ_ _ _ h=>h) (Or.inl ⟨Wn,?hyc6⟩) ?_
      case hyc6=>(intro w;go_simp;try with_reducible rfl)
      refine wpAny_take (i:=9) (v:= ?vc7) rfl VZ VZ VZ (λ_ _ _ h=>h) (Or.inl ⟨Wn,?hyc7⟩) ?_
      case hyc7=>(intro w;go_simp;try with_reducible rfl)
      refine wpAny_take (i:=10) (v:= ?vc8) rfl VZ VZ VZ (λ_ _ _ h=>h) (Or.inl ⟨Wn,?hyc8⟩) ?_
      case hyc8=>(intro w;go_simp;try with_reducible rfl)
      exact Yp
     exact VO
    refine VH rfl (λK hK=> ?_) ?_
    ·go_simp;refine hK _ _ ?_;clear hK K;refine wpAny_take (i:=8) (v:= ?vc9) rfl VZ VZ VZ (λ_ _ _ h=>h) (Or.inl ⟨Wn,?hyc9⟩) ?_
     case hyc9=>(intro w;go_simp;try with_reducible rfl)
     refine wpAny_ready (rs:=[5]) VZ V5 ?_;refine VH rfl (λK hK=> ?_) ?_
     ·go_simp;refine hK _ _ ?_;clear hK K;refine wpAny_take (i:=9) (v:= ?vc10) rfl VZ VZ VZ (λ_ _ _ h=>h) (Or.inl ⟨Wn,?hyc10⟩) ?_
      case hyc10=>(intro w;go_simp;try with_reducible rfl)
      refine wpAny_take (i:=10) (v:= ?vc11) rfl VZ VZ VZ (λ_ _ _ h=>h) (Or.inl ⟨Wn,?hyc11⟩) ?_
      case hyc11=>(intro w;go_simp;try with_reducible rfl)
      exact Yp
     exact VO
    exact VO
   refine VH rfl (λK hK=> ?_) ?_
   ·go_simp;refine hK _ _ ?_;clear hK K;refine wpAny_take (i:=8) (v:= ?vc12) rfl VZ VZ VZ (λ_ _ _ h=>h) (Or.inl ⟨Wn,?hyc12⟩) ?_
    case hyc12=>(intro w;go_simp;try with_reducible rfl)
    refine wpAny_ready (rs:=[1]) VZ V5 ?_;refine VH rfl (λK hK=> ?_) ?_
    ·go_simp;refine hK _ _ ?_;clear hK K;refine wpAny_take (i:=4) (v:= ?vc13) rfl VZ VZ VZ (λ_ _ _ h=>h) (Or.inl ⟨Wn,?hyc13⟩) ?_
     case hyc13=>(intro w;go_simp;try with_reducible rfl)
     refine wpAny_ready (rs:=[5]) VZ V5 ?_;refine VH rfl (λK hK=> ?_) ?_
     ·go_simp;refine hK _ _ ?_;clear hK K;refine wpAny_take (i:=9) (v:= ?vc14) rfl VZ VZ VZ (λ_ _ _ h=>h) (Or.inl ⟨Wn,?hyc14⟩) ?_
      case hyc14=>(intro w;go_simp;try with_reducible rfl)
      refine wpAny_take (i:=10) (v:= ?vc15) rfl VZ VZ VZ (λ_ _ _ h=>h) (Or.inl ⟨Wn,?hyc15⟩) ?_
      case hyc15=>(intro w;go_simp;try with_reducible rfl)
      exact Yp
     exact VO
    exact VO
   exact VO
  ·have hu:=h.hu h9;have HN:=Vk (Gj h HD.o hkn hu);have hub:u<=100000000:=by
    exact Yo
   have hmul:dg ds k*u<=900000000:=by
    calc dg ds k*u<=9*100000000:=Nat.mul_le_mul VY hub
     _=900000000:=rfl
   have hmul':(dg ds k:Int)*(u:Int)<=900000000:=by rw[<-Int.natCast_mul];omega
   have hmul0:0<=(dg ds k:Int)*(u:Int):=by rw[<-Int.natCast_mul];omega
   have b0:=h.x.dX;have b1:=h.unit.cell;have f1:=h.unit.frozen;have f3:=h.row.frozen (k/9);have b3:=h.row.cell (j:=k/9) (by rw[h.len];omega);have wq:VA.wrap ((k:Int)/9)=(k:Int)/9:=cD VY VY;have w5:VA.wrap ((dg ds k:Int)*(u:Int))=dg ds k*u:=cD VY VY;have w6:VA.wrap ((fv lim (k/9):Int)+(dg ds k:Int)*(u:Int))=fv lim (k/9)+dg ds k*u:=cD VY VY;have w7:VA.wrap ((u:Int)*10)=u*10:=cD VY VY;have ht:((k:Int)%9==0)=Vp:=We;clear h h9 hu hmul
   gi_wp2
   refine wpIn_region_any VZ (gQ VZ (by rintro⟨_,_,h⟩;exact h) _ _ _ _ ?_)
   try(change wpAny _ _ _ _ _ _ _ (Vl.drew _))
   refine wpAny_take (i:=0) (v:= ?vb1) rfl VZ VZ VZ (λ_ _ _ h=>h) (Or.inl ⟨Wn,?hyb1⟩) ?_
   case hyb1=>(intro w;go_simp;try with_reducible rfl)
   refine wpAny_take (i:=2) (v:= ?vb2) rfl VZ VZ VZ (λ_ _ _ h=>h) (Or.inl ⟨Wn,?hyb2⟩) ?_
   case hyb2=>(intro w;go_simp;try with_reducible rfl)
   refine wpAny_take (i:=3) (v:= ?vb3) rfl VZ VZ VZ (λ_ _ _ h=>h) (Or.inl ⟨Wn,?hyb3⟩) ?_
   case hyb3=>(intro w;go_simp;try with_reducible rfl)
   refine wpAny_take (i:=6) (v:= ?vb4) rfl VZ VZ VZ (λ_ _ _ h=>h) (Or.inl ⟨Wn,?hyb4⟩) ?_
   case hyb4=>(intro w;go_simp;try with_reducible rfl)
   refine wpAny_ready (rs:=[1,7]) VZ V5 ?_;refine VH rfl (λK hK=> ?_) ?_
   ·go_simp;refine hK _ _ ?_;clear hK K;refine wpAny_take (i:=4) (v:= ?vb5) rfl VZ VZ VZ (λ_ _ _ h=>h) (Or.inl ⟨Wn,?hyb5⟩) ?_
    case hyb5=>(intro w;go_simp;try with_reducible rfl)
    refine wpAny_ready (rs:=[5,7]) VZ V5 ?_;refine VH rfl (λK hK=> ?_) ?_
    ·go_simp;refine hK _ _ ?_;clear hK K;refine wpAny_ready (rs:=[7]) VZ V5 ?_;refine VH rfl (λK hK=> ?_) ?_
     ·go_simp;refine hK _ _ ?_;clear hK K;refine wpAny_take (i:=8) (v:= ?vb6) rfl VZ VZ VZ (λ_ _ _ h=>h) (Or.inl ⟨Wn,?hyb6⟩) ?_
      case hyb6=>(intro w;go_simp;try with_reducible rfl)
      refine wpAny_take (i:=9) (v:= ?vb7) rfl VZ VZ VZ (λ_ _ _ h=>h) (Or.inl ⟨Wn,?hyb7⟩) ?_
      case hyb7=>(intro w;go_simp;try with_reducible rfl)
      refine wpAny_take (i:=10) (v:= ?vb8) rfl VZ VZ VZ (λ_ _ _ h=>h) (Or.inl ⟨Wn,?hyb8⟩) ?_
      case hyb8=>(intro w;go_simp;try with_reducible rfl)
      exact Yn
     exact VO
    refine VH rfl (λK hK=> ?_) ?_
    ·go_simp;refine hK _ _ ?_;clear hK K;refine wpAny_take (i:=8) (v:= ?vb9) rfl VZ VZ VZ (λ_ _ _ h=>h) (Or.inl ⟨Wn,?hyb9⟩) ?_
     case hyb9=>(intro w;go_simp;try with_reducible rfl)
     refine wpAny_ready (rs:=[5]) VZ V5 ?_;refine VH rfl (λK hK=> ?_) ?_
     ·go_simp;refine hK _ _ ?_;clear hK K;refine wpAny_take (i:=9) (v:= ?vb10) rfl VZ VZ VZ (λ_ _ _ h=>h) (Or.inl ⟨Wn,?hyb10⟩) ?_
      case hyb10=>(intro w;go_simp;try with_reducible rfl)
      refine wpAny_take (i:=10) (v:= ?vb11) rfl VZ VZ VZ (λ_ _ _ h=>h) (Or.inl ⟨Wn,?hyb11⟩) ?_
      case hyb11=>(intro w;go_simp;try with_reducible rfl)
      exact Yn
     exact VO
    exact VO
   refine VH rfl (λK hK=> ?_) ?_
   ·go_simp;refine hK _ _ ?_;clear hK K;refine wpAny_take (i:=8) (v:= ?vb12) rfl VZ VZ VZ (λ_ _ _ h=>h) (Or.inl ⟨Wn,?hyb12⟩) ?_
    case hyb12=>(intro w;go_simp;try with_reducible rfl)
    refine wpAny_ready (rs:=[1]) VZ V5 ?_;refine VH rfl (λK hK=> ?_) ?_
    ·go_simp;refine hK _ _ ?_;clear hK K;refine wpAny_take (i:=4) (v:= ?vb13) rfl VZ VZ VZ (λ_ _ _ h=>h) (Or.inl ⟨Wn,?hyb13⟩) ?_
     case hyb13=>(intro w;go_simp;try with_reducible rfl)
     refine wpAny_ready (rs:=[5]) VZ V5 ?_;refine VH rfl (λK hK=> ?_) ?_
     ·go_simp;refine hK _ _ ?_;clear hK K;refine wpAny_take (i:=9) (v:= ?vb14) rfl VZ VZ VZ (λ_ _ _ h=>h) (Or.inl ⟨Wn,?hyb14⟩) ?_
      case hyb14=>(intro w;go_simp;try with_reducible rfl)
      refine wpAny_take (i:=10) (v:= ?vb15) rfl VZ VZ VZ (λ_ _ _ h=>h) (Or.inl ⟨Wn,?hyb15⟩) ?_
      case hyb15=>(intro w;go_simp;try with_reducible rfl)
      exact Yn
     exact VO
    exact VO
   exact VO
 case done=>
  rintro D W hD ⟨lim,u,h⟩ hK;have c1:=h.x.dX;have c0:=h.x.cell0;have f1:=h.x.frozen 1;have d0:=h.res.cell0;have d1:=h.res.dX;have g0:=h.res.frozen 0;have g1:=h.res.frozen 1;have hw1:=h.row;have HI:=Vk h;clear h;gi_wp2_with(refine⟨trivial,?_⟩;gi_at_call 326;refine(callsIn_wide.2 (kH hw1 HI.o.len)).mono ?_;rintro e w' ⟨rfl,rfl⟩)
  have hh:=HI.o;obtain⟨X,hX⟩:∃X,((W.setCell ⟨w.heap.size+2,1,Vo⟩ (VQ (Vq ⟨w.heap.size+1,0,Vo⟩) (az lim).length n)).setCell ⟨w.heap.size,0,Vo⟩ (VS neg)).setCell ⟨w.heap.size,1,Vo⟩ (VQ (Vq ⟨w.heap.size+1,0,Vo⟩) (az lim).length n)=X:=⟨_,rfl⟩;have k1:X.heap[D]?=Vq (.deferred (Vq [])):=by
   rw[<-hX];exact(((KeepsOthers.setCell _ _ _).trans (KeepsOthers.setCell _ _ _)).trans (KeepsOthers.setCell _ _ _)).same D _ hK rfl
  have k2:eN X w.heap.size 326 (VS neg) (VQ (Vq ⟨w.heap.size+1,0,Vo⟩) (az lim).length n):=by
   rw[<-hX];exact((hh.res.dx V5 _).mQ _).qe _
  have k3:Row X (w.heap.size+1) n lim:=by rw[<-hX];exact((hh.row.dx V5 _).dx V5 _).dx V5 _
  have k5:VL w.heap.size w X:=by
   rw[<-hX];exact((hh.low.setCell (p:=⟨w.heap.size+2,1,Vo⟩) V5 _).setCell (p:=⟨w.heap.size,0,Vo⟩) V5 _).setCell (p:=⟨w.heap.size,1,Vo⟩) V5 _
  rw[hX];refine⟨V5,.inl ⟨_,_,rfl,run_takeDeferred k1,?_⟩⟩;have hs:=aE.putObj (n0:=w.heap.size) (.deferred Vo) k1 rfl Xj;have q0:=(k2.stays hs).cell0;have q1:=(k2.stays hs).dX;have hm:=hh.m;refine⟨VW #[VS neg,VQ (Vq ⟨w.heap.size+1,0,Vo⟩) (az lim).length n],by simp[results,results296,go_sem,q0,q1],_,az lim,by rw[HNEG.o],⟨_,_,rfl,VY,(k3.stays hs).trimmed⟩,ei hm.small,?_,?_,k5.trans hs.below⟩
  ·rw[gR,HDS.o,<-Qj];exact hm.eq
  ·have:=aR lim;have:=hh.len;have:=HN0.o;rw[HDS.o];omega
 case stop=>intro D c k W hD hk h;exact h.elim
end
section
open Kp
def IH{P:Program}{n:String}{w w':Vl}{cs:Array Vr}(h:w.var? P n=Vq cs){B0:Nat}(hb:VL B0 w w')(hB:w.heap.size<=B0):w'.var? P n=Vq cs:=by
 unfold Vl.var? at h⊢;cases hg:P.globalNamed n with
 |none=>rw[hg] at h;cases h
 |some g=>
  rw[hg] at h;simp only[Option.bind_some] at h⊢;have hlt:g<w.heap.size:=by
   rcases Nat.lt_or_ge g w.heap.size with h'|h'
   ·exact h'
   ·rw[Array.getElem?_eq_none h'] at h;cases h
  rw[hb.block g VY];exact h
def below_drewN{B0:Nat}{w w':Vl}(h:VL B0 w w')(n:Nat):VL B0 w (w'.drewN n):=⟨h.os,h.tape,h.output,h.size,h.block⟩
def dv(a b:List UInt8):Int:=if jB a=0 then jB b else jB a
def ik(a b:List UInt8)(w:Vl)(ha:a.length<=1000000)(hb:b.length<=1000000):
  VC prog 294 #[VR (tx a),VR (tx b)] w λe w'=>e=VV (VU VA (dv a b))/\VL w.heap.size w w':=by
 by_cases h0:jB a=0
 ·have h0':(jB a !=0)=Vp:=by simp[h0]
  have H0:=Vk h0;clear h0;go_enter func294,ntmps294;go_wp2_with(go_at_call 324;refine(uA _ _ Wd).mono ?_;first|(rintro e w1 ⟨rfl,hB1⟩))
  go_ret;exact⟨cE (by unfold dv;rw[H0.o,if_pos rfl]),VL.trans Wd (VL.mono Wd (Below.size Wd))⟩
 ·have h0':(jB a !=0)=Vv:=by simpa using h0
  have H0:=Vk h0;clear h0;go_enter func294,ntmps294;go_wp2_with(go_at_call 324;refine(uA _ _ Wd).mono ?_;first|(rintro e w1 ⟨rfl,hB1⟩))
  go_ret;exact⟨cE (by unfold dv;rw[if_neg H0.o]),hB1⟩
def num(l:List UInt8):Int:=if Lib.hasPrefix l [45] then -(aw (own l):Int) else aw (own l)
def Mu{l:List UInt8}(h:aT l=Vv):Lib.atoi l=Vq (num l):=by
 unfold aT at h;simp only[Bool.and_eq_true,Bool.not_eq_true'] at h;obtain⟨⟨hd,hne⟩,_⟩:=h;have hne':own l≠[]:=by intro e;rw[e] at hne;simp at hne
 have hdec:=py hd hne';unfold num;cases l with
 |nil=>exact absurd rfl hne'
 |cons b r=>
  by_cases hb:b=45
  ·subst hb;have e1:Lib.hasPrefix (45::r) [45]=Vv:=by simp[Lib.hasPrefix]
   have e2:own (45::r)=r:=by unfold own Lib.trimPrefix;rw[if_pos e1];rfl
   rw[e2] at hdec;rw[e1,e2];simp[Lib.atoi,hdec]
  ·have e1:Lib.hasPrefix (b::r) [45]=Vp:=by simp[Lib.hasPrefix,List.isPrefixOf,Ne.symm hb]
   have e2:own (b::r)=b::r:=by unfold own Lib.trimPrefix;rw[e1];rfl
   rw[e2] at hdec hd;rw[e1,e2];have hb43:b≠43:=by
    intro e;subst e;simp[fJ] at hd
   simp[Lib.atoi,hdec,hb,hb43]
def wb(a b:List UInt8)(w:Vl)(h:18<a.length\/18<b.length)(ha:a.length<=1000000)(hb:b.length<=1000000):
  VC prog 295 #[VR (tx a),VR (tx b),VU VA 18] w λe w'=>e=VV (VX #[VU VA 0,VU VA 0,VS Vp])/\VL w.heap.size w w':=by
 by_cases h1:18<a.length
 ·exact Yq
 ·have h2:18<b.length:=VY;exact Yq
def JE(a:List UInt8)(ha:a.length<=18)(fa:aT a=Vv)(w:Vl):
  VC prog 187 #[VR (tx a)] w λe w'=>e=VV (VX #[VU VA (num a),.nilIface])/\VL w.heap.size w w':=
 (strconv_Atoi (tx a) (num a) (by rw[ai];exact ha) (by rw[bn];exact Mu fa) w).mono λ_ _ ⟨h1,t,h2⟩=>⟨h1,by rw[h2];exact Lib.bytesWorld_below _ _ _⟩
def nK(a b:List UInt8)(w:Vl)(ha:a.length<=18)(hb:b.length<=18)(fa:aT a=Vv)(fb:aT b=Vv):
  VC prog 295 #[VR (tx a),VR (tx b),VU VA 18] w λe w'=>e=VV (VX #[VU VA (num a),VU VA (num b),VS Vv])/\VL w.heap.size w w':=by
 have hnil:=λW=>run_eql_nil_nil (P:=prog) W 212 VZ
 go_enter func295,ntmps295;go_wp2_with(go_at_call 187;refine(JE _ Wd Wd _).mono ?_;rintro e w1 ⟨rfl,hB1⟩)
 go_quiet (fail)
 go_wp2;have hB:VL w.heap.size w w1:=VL.trans Wd (VL.mono Wd (Below.size Wd));exact bodyPost_ret (v:= VX #[VU VA (num a),VU VA (num b),VS Vv]) (by simp[results,results295,go_sem]) rfl ⟨rfl,below_drewN hB _⟩
end
section
open Kp
def Bd(B b:Nat)(T:VK)(p:Vr)(rest bs:List Vr)(w:Vl):Prop:=
 B<=b/\∃v,w.heap[b]?=Vq (.cells (p::v::rest).toArray T (0,0))/\w.ownsRow B 5 1 v bs.length bs/\v.ownBlock≠Vq b
structure SR(T:VK)(n:Nat):Prop where
 lies:liesAt prog prog.depth T (n/prog.cellsOf T) 0 121 1=Vv
 ne:T≠5
def mZ:SR 121 2:=⟨VZ,V0⟩
def pE:SR 123 4:=⟨VZ,V0⟩
def CZ(b:Nat)(p:Vr):Prop:=p=VT Vo\/p=VT (Vq ⟨b,0,Vo⟩)
abbrev sY(b:Nat):Vr:= VT (Vq ⟨b,0,Vo⟩)
def qL:(prog.info? 121).map (·.size)=Vq 2:=VZ
def xf:(prog.info? 5).map (λi=>(i.zero,i.size,i.bytes))=Vq (Vq (VU .u8 0),1,1):=VZ
def iI{w:Vl}{b:Nat}{T:VK}{p v:Vr}{rest:List Vr}(h:w.heap[b]?=Vq (.cells (p::v::rest).toArray T (0,0))):w.cell? ⟨b,0,Vo⟩=Vq p:=by simp[World.cell?,h]
def iG{w:Vl}{b:Nat}{T:VK}{p v:Vr}{rest:List Vr}(h:w.heap[b]?=Vq (.cells (p::v::rest).toArray T (0,0))):w.cell? ⟨b,1,Vo⟩=Vq v:=by simp[World.cell?,h]
def nR{w:Vl}{b:Nat}{T:VK}{cs:Array Vr}(h:w.heap[b]?=Vq (.cells cs T (0,0)))(i:Nat):w.frozen? ⟨b,i,Vo⟩=Vp:=by simp[World.frozen?,h]
def Fq{w:Vl}{b:Nat}{T:VK}{cs:List Vr}(h:w.heap[b]?=Vq (.cells cs.toArray T (0,0))):w.shape? b=Vq (T,cs.length):=by simp[World.shape?,h]
def FN(b:Nat)(w:Vl)(h0:w.cell? ⟨b,0,Vo⟩=Vq (sY b)):
  VC prog 229 #[sY b] w λe w'=>e=VV (VX #[])/\w'=w:=by
 obtain⟨j,hj,_⟩:=Option.map_eq_some_iff.1 qL;go_enter func229,ntmps229;go_wp2;rw[Lib.run_neq_ptr_same w _ underlying118 hj];go_wp2;go_end0;exact⟨rfl,rfl⟩
def Bh(b:Nat)(T:VK)(n:Nat)(w:Vl)(h0:w.cell? ⟨b,0,Vo⟩=Vq (VT Vo))(hsh:w.shape? b=Vq (T,n))(hn:2<=n)(hT:SR T n)(hfz:w.frozen? ⟨b,0,Vo⟩=Vp):
  VC prog 229 #[sY b] w λe w'=>e=VV (VX #[])/\w'=w.setCell ⟨b,0,Vo⟩ (sY b):=by
 obtain⟨j,hj,hjs⟩:=Option.map_eq_some_iff.1 qL;go_enter func229,ntmps229;go_wp2;rw[Lib.run_to_unsafe w ⟨b,0,Vo⟩ underlying118 underlying283 hj (by rw[hjs];decide) hsh (by show 0<n;omega)];simp only[Result.andThen];rw[Oper.upon_value];go_wp2;rw[run_callFunc_extern func256 VZ VZ VZ (e:=Extern.AbiNoEscape.same) VZ];rw[Lib.run_noEscape];simp only[Result.andThen];rw[Oper.upon_value];go_wp2;rw[Lib.run_from_unsafe w ⟨b,0,Vo⟩ underlying283 underlying118 hj hsh hT.lies];simp only[Result.andThen];rw[Oper.upon_value];go_wp2;go_end0;exact⟨rfl,rfl⟩
def Io{w:Vl}{b:Nat}{T:VK}{p v:Vr}{rest:List Vr}(h:w.heap[b]?=Vq (.cells (p::v::rest).toArray T (0,0)))(x:Vr):
  (w.setCell ⟨b,0,Vo⟩ x).heap[b]?=Vq (.cells (x::v::rest).toArray T (0,0)):=by simp[World.setCell,Array.getElem?_modify,h]
def JG{w:Vl}{b:Nat}{T:VK}{p v:Vr}{rest:List Vr}(h:w.heap[b]?=Vq (.cells (p::v::rest).toArray T (0,0)))(x:Vr):
  (w.setCell ⟨b,1,Vo⟩ x).heap[b]?=Vq (.cells (p::x::rest).toArray T (0,0)):=by simp[World.setCell,Array.getElem?_modify,h]
def yL{w:Vl}{B b i n:Nat}{v:Vr}{xs:List Vr}(h:w.ownsRow B 5 1 v n xs)(hne:v.ownBlock≠Vq b)(x:Vr):(w.setCell ⟨b,i,Vo⟩ x).ownsRow B 5 1 v n xs:=
 h.kept (row:=Vq b) ⟨rfl,rfl,rfl,by simp[World.setCell],λk _ hk=>Below.heap_setCell _ _ _ _ (λe=>hk (by simp[e]))⟩ (Or.inr hne)
structure bz(B b:Nat)(w w':Vl):Prop where
 low:VL B w w'
 kept:Lib.OthersKept 5 (Vq b) w w'
def bz.trans{B b:Nat}{a c d:Vl}(h:bz B b a c)(k:bz B b c d):bz B b a d:=⟨h.low.trans k.low,h.kept.trans k.kept⟩
def bz.refl(B b:Nat)(w:Vl):bz B b w w:=⟨Below.refl _ _,Lib.OthersKept.refl _ _ _⟩
def bz.others{B b:Nat}{w w':Vl}(h:bz B b w w'){cs:Array Vr}{t:VK}{m:Nat×Nat}(hb:w.heap[b]?=Vq (.cells cs t m)):KeepsOthers w w':=
 ⟨h.low.size,λk o hk ho=>h.kept k o hk (λe=>by cases e;rw[hb] at hk;cases hk;cases ho) (λc fz e=>by subst e;cases ho)⟩
def ye(B b:Nat)(T:VK)(p:Vr)(rest bs:List Vr)(w:Vl)(h:Bd B b T p rest bs w)(hp:CZ b p)(hT:SR T (rest.length+2)):
  VC prog 229 #[sY b] w λe w'=>e=VV (VX #[])/\Bd B b T (sY b) rest bs w'/\bz B b w w':=by
 obtain⟨hB,v,hb,hown,hne⟩:=h;rcases hp with rfl|rfl
 ·refine(Bh b T (rest.length+2) w (iI hb) (Fq hb) VY hT (nR hb 0)).mono ?_;rintro e w' ⟨rfl,rfl⟩;exact⟨rfl,⟨hB,v,Io hb _,yL hown hne _,hne⟩,(Below.refl _ _).setCell (p:=⟨b,0,Vo⟩) hB _,(Lib.OthersKept.refl _ _ _).setCell ⟨b,0,Vo⟩ rfl _⟩
 ·refine(FN b w (iI hb)).mono ?_;rintro e w' ⟨rfl,rfl⟩;exact⟨rfl,⟨hB,v,hb,hown,hne⟩,bz.refl _ _ _⟩
def Kp{B b:Nat}{T:VK}{p v v':Vr}{rest bs':List Vr}{w:Vl}(hB:B<=b)(hb:w.heap[b]?=Vq (.cells (p::v::rest).toArray T (0,0)))(hown:w.ownsRow B 5 1 v' bs'.length bs')(hTe:T≠5):
  Bd B b T p rest bs' (w.setCell ⟨b,1,Vo⟩ v'):=by
 have hne:=Lib.ownBlock_ne hown hb hTe;exact⟨hB,v',JG hb _,yL hown hne _,hne⟩
def jl(B b:Nat)(T:VK)(p:Vr)(rest bs:List Vr)(s:ByteArray)(w:Vl)(h:Bd B b T p rest bs w)(hp:CZ b p)(hT:SR T (rest.length+2))(hlen:bs.length+s.size<=140737488355328)(hBw:B<=w.heap.size):
  VC prog 181 #[sY b,VR s] w λe w'=>e=VV (VX #[VU VA s.size,.nilIface])/\Bd B b T (sY b) rest (bs++Lib.strCells s) w'/\bz B b w w':=by
 obtain⟨i0,hi,hz0,hz1,hz2⟩:=info_parts xf;go_enter func181,ntmps181;go_wp2_with(go_at_call 229;refine(ye B b T p rest bs _ h hp hT).mono ?_)
 rintro e w1 ⟨rfl,h1,hk1⟩;obtain⟨hB,v,hbk,hown,hne⟩:=h1;have c0:=iI hbk;have c1:=iG hbk;go_wp2_with(at_builtin;refine Lib.wpList_append_own_string _ rfl _ _ 119 9 rfl B 5 i0 underlying119 underlying9 hi hz0 hz1 hz2 _ _ _ rfl hown s rfl ?c3 ?c4 ?c5 ?_)
 case c3=>unfold VJ;omega
 case c4=>omega
 case c5=>have:=hk1.low.size;omega
 intro v' w2 hown' hgrow _;have hlt:b<w1.heap.size:=(Vz.1 hbk).1;have hb2:w2.heap[b]?=Vq (.cells (sY b::v::rest).toArray T (0,0)):=by
  rw[hgrow.block b hlt (λe=>hne e.symm)];exact hbk
 have d0:=iI hb2;have d1:=iG hb2;have f1:=nR hb2 1;obtain⟨ao,n',cap,rfl⟩:∃ao n' cap,v'=VQ ao n' cap:=by
  exact Yr
 go_wp2;go_ret2;refine⟨rfl,?_,?_,?_⟩
 ·exact Kp hB hb2 (bs':=bs++Lib.strCells s) (by simpa[Lib.strCells_length] using hown') hT.ne
 ·exact(hk1.low.grown hgrow (by have:=hk1.low.size;omega) (λk hk=>(hown.lt k hk).1)).setCell (p:=⟨b,1,Vo⟩) hB _
 ·exact(hk1.kept.grown hgrow (Lib.ownsRow_kind hown)).setCell ⟨b,1,Vo⟩ rfl _
def xX(B b:Nat)(T:VK)(p:Vr)(rest bs:List Vr)(c:Int)(w:Vl)(h:Bd B b T p rest bs w)(hp:CZ b p)(hT:SR T (rest.length+2))(hlen:bs.length+1<=140737488355328)(hBw:B<=w.heap.size):
  VC prog 180 #[sY b,VU .u8 c] w λe w'=>e=VV .nilIface/\Bd B b T (sY b) rest (bs++[VU .u8 c]) w'/\bz B b w w':=by
 obtain⟨i0,hi,hz0,hz1,hz2⟩:=info_parts xf;go_enter func180,ntmps180;go_wp2_with(go_at_call 229;refine(ye B b T p rest bs _ h hp hT).mono ?_)
 rintro e w1 ⟨rfl,h1,hk1⟩;obtain⟨hB,v,hbk,hown,hne⟩:=h1;have c0:=iI hbk;have c1:=iG hbk;go_wp2_with(at_builtin;refine wpList_append_own _ rfl _ _ 119 rfl B 5 i0 (VU .u8 0) 1 1 underlying119 hi hz0 hz1 hz2 rfl V0 _ _ _ rfl (hown.alloc _) ⟨w1.heap.size,0,Vo⟩ 1 1 [VU .u8 c] rfl rfl ?c1 ?c2 ?c3 ?c4 ?c5 ?_)
 case c1=>
  intro j u hj
  match j,hj with
  |0,hj=>simp at hj;subst hj;simp[VM.add]
 case c2=>intro u hu;simp at hu;subst hu;rfl
 case c3=>unfold VJ;omega
 case c4=>omega
 case c5=>have:=hk1.low.size;simp;omega
 intro v' w2 hown' hgrow _;have hlt:b<w1.heap.size:=(Vz.1 hbk).1;have hb2:w2.heap[b]?=Vq (.cells (sY b::v::rest).toArray T (0,0)):=by
  rw[hgrow.block b Wa (λe=>hne e.symm),Lib.alloc_old w1 _ b hlt];exact hbk
 have d0:=iI hb2;have d1:=iG hb2;have f1:=nR hb2 1;obtain⟨ao,n',cap,rfl⟩:∃ao n' cap,v'=VQ ao n' cap:=by
  exact Yr
 go_wp2;go_ret;refine⟨rfl,?_,?_,?_⟩
 ·exact Kp hB hb2 (bs':=bs++[VU .u8 c]) (by simpa using hown') hT.ne
 ·exact((hk1.low.alloc (by have:=hk1.low.size;omega) _).grown hgrow (by have:=hk1.low.size;simp;omega) (λk hk=>(hown.lt k hk).1)).setCell (p:=⟨b,1,Vo⟩) hB _
 ·exact((hk1.kept.alloc _).grown hgrow (Lib.ownsRow_kind (hown.alloc _))).setCell ⟨b,1,Vo⟩ rfl _
def MI(B b:Nat)(T:VK)(p:Vr)(rest bs:List Vr)(w:Vl)(h:Bd B b T p rest bs w):
  VC prog 179 #[sY b] w λe w'=>e=VV (VU VA bs.length)/\w'=w:=by
 obtain⟨hB,v,hbk,hown,hne⟩:=h;have c1:=iG hbk;obtain⟨ao,cap,rfl⟩:∃ao cap,v=VQ ao bs.length cap:=by
  rcases hown.2 with⟨hv,h0⟩|⟨g,cap,cur,hv,_⟩
  ·exact⟨_,_,by rw[hv,h0]⟩
  ·exact⟨_,_,hv⟩
 clear hbk hown hne;go_enter func179,ntmps179;go_wp2;go_ret;exact⟨rfl,rfl⟩
end
section
open Kp
def nC(B b:Nat)(T:VK)(p:Vr)(rest:List Vr)(l:List UInt8)(w:Vl)(h:Bd B b T p rest (Lib.byteCells l) w)(h0:l≠[]):
  VC prog 59 #[sY b] w λe w'=>e=VV (VR (tx l))/\bz B b w w':=by
 obtain⟨hB,v,hbk,hown,hne⟩:=h;have hl0:l.length≠0:=by simpa using h0
 rw[Lib.byteCells_length] at hown;obtain⟨g,cap,cur,rfl,hbg,hg,hnc,hcm,hcs,htake⟩:∃g cap cur,v=VQ (Vq ⟨g,0,Vo⟩) l.length cap/\B<=g/\w.heap[g]?=Vq (.cells cur 5 (0,0))/\l.length<=cap/\cap<=VJ/\cur.size=cap*1/\cur.toList.take (l.length*1)=Lib.byteCells l:=by
  rcases hown.2 with⟨_,hz⟩|⟨g,cap,cur,hv,r⟩
  ·exact absurd hz hl0
  ·exact⟨g,cap,cur,hv,r⟩
 have c1:w.drew.cell? ⟨b,1,Vo⟩=Vq (VQ (Vq ⟨g,0,Vo⟩) l.length cap):=iG (w:=w.drew) hbk;have hSD:(Builtin.unsafeSliceData_ #[119] 163 #[VQ (Vq ⟨g,0,Vo⟩) l.length cap]).run prog w.drew= .ok (VT (Vq ⟨g,0,Vo⟩)) w.drew:=
  Lib.run_unsafeSliceData_row _ _ _ _ _ _ VY
 have hUS:(Builtin.unsafeString_ #[163,3] 9 #[VT (Vq ⟨g,0,Vo⟩),VU VA l.length]).run prog w.drew= .ok (VR (tx l)) (w.drew.freeze ⟨g,0,Vo⟩ l.length):=by
  refine Lib.run_unsafeString_row w.drew 163 3 9 5 underlying163 VZ g cur.size (by have hg':w.drew.heap[g]?=Vq (.cells cur 5 (0,0)):=hg;simp[World.shape?,hg']) l h0 VY (by unfold VJ at hcm;omega) ?_;intro j x hx;have:=hown.cells (g:=g) rfl j (VU .u8 x.toNat) (by simp[Lib.byteCells,hx]);exact this
 clear hown htake hne hcm hnc hcs;have mixed:prog.follows .mixedOrders=Vv:=VZ;go_enter func59,ntmps59;go_wp2;go_region_o
 all_goals(go_wp2;go_ret;exact⟨rfl,Lib.below_freeze (Below.drew (Below.refl B w)) (p:=⟨g,0,Vo⟩) hbg _,(Lib.OthersKept.refl _ _ _).drew.freeze ⟨g,0,Vo⟩ _ ⟨_,_,hg⟩⟩)
end
section
open Kp
attribute [local go_sem] Oper.semAt_some
abbrev aU(w:Vl):Prop:=Lib.TabIs prog w "internal/strconv.uint64pow10" .u64 Lib.pow10Tab
def aU.below{w w':Vl}(h:aU w){B0:Nat}(hb:VL B0 w w')(hB:w.heap.size<=B0):aU w':=IH h hb hB
def jo(n:Int)(w:Vl)(h0: -9223372036854775808<=n)(h1:n<=9223372036854775807)(ht:aU w):
  VC prog 182 #[VU VA n] w λe w'=>e=VV (VR (tx (Lib.itoa n)))/\VL w.heap.size w w':=
 (strconv_Itoa n h0 h1 w ht).mono λ_ _ ⟨e,k,os,hw⟩=>⟨e,by rw[hw];exact⟨rfl,rfl,rfl,by simp[Sort.grow,Vl.drewN],λb hb=>by simp[Sort.grow,Vl.drewN,Array.getElem?_append,hb]⟩⟩
def pA(n k:Nat)(hk:1<=k)(h:n<10^k):Lib.nDigits n<=k:=by
 induction k generalizing n with
 |zero=>omega
 |succ k ih=>
  exact Ys
def mV(n:Nat)(h:n<1000000000):(Lib.itoa (n:Int)).length<=9:=by
 unfold Lib.itoa;rw[if_neg VY,Int.toNat_natCast,Lib.decDigits_length];exact pA n 9 V0 h
def GR(n:Int):Lib.itoa n≠[]:=by
 unfold Lib.itoa;split
 ·simp
 ·intro h;have:=congrArg List.length h;rw[Lib.decDigits_length,Lib.nDigits] at this;split at this<;>simp at this
def pG(first:Bool)(n:Nat):List UInt8:=if first then Lib.itoa n else Lib.repeatL [48] (9-(Lib.itoa n).length)++Lib.itoa n
def lY(l:List Nat):Nat->List UInt8
 |0=>[]
 |k+1=>lY l k++pG (k==0) (fv l (l.length-1-k))
def Uf(l:List Nat):List UInt8:=if l=[] then [48] else lY l l.length
def iH(c:Nat):(Lib.repeatL [48] c).length=c:=by
 induction c with
 |zero=>rfl
 |succ c ih=>simp[Lib.repeatL,ih]
def Nk{b:Bool}{n:Nat}(h:n<1000000000):(pG b n).length<=9:=by
 have:=mV n h;unfold pG;split
 ·exact this
 ·simp[iH];omega
def tC{l:List Nat}(h:Small l)(k:Nat):(lY l k).length<=9*k:=by
 induction k with
 |zero=>simp[lY]
 |succ k ih=>
  have:=Nk (b:=k==0) (aA h (l.length-1-k));simp[lY];omega
def MO{l:List Nat}{k:Nat}(hk:0<k):lY l k≠[]:=by
 cases k with
 |zero=>omega
 |succ k=>
  intro h;simp[lY,pG] at h;obtain⟨_,h⟩:=h;split at h
  ·exact GR _ h
  ·simp at h;exact GR _ h.2
def cP(a b:List UInt8):Lib.byteCells (a++b)=Lib.byteCells a++Lib.byteCells b:=by simp[Lib.byteCells]
def wB{w w':Vl}{n0 B n:Nat}{v:Vr}{xs:List Vr}(h:w.ownsRow B 5 1 v n xs)(hs:aE n0 w w'):w'.ownsRow B 5 1 v n xs:=by
 obtain⟨hl,h|⟨g,cap,cur,e,hb,hh,r⟩⟩:=h
 ·exact⟨hl,.inl h⟩
 ·exact⟨hl,.inr ⟨g,cap,cur,e,hb,hs.cells _ _ _ _ hh,r⟩⟩
def Bd.stays{B b n0:Nat}{T:VK}{p:Vr}{rest bs:List Vr}{w w':Vl}(h:Bd B b T p rest bs w)(hs:aE n0 w w'):Bd B b T p rest bs w':=by
 obtain⟨hB,v,hb,hown,hne⟩:=h;exact⟨hB,v,hs.cells _ _ _ _ hb,wB hown hs,hne⟩
def Bd.below{B b:Nat}{T:VK}{p:Vr}{rest bs:List Vr}{w w':Vl}(h:Bd B b T p rest bs w)(hs:VL w.heap.size w w'):Bd B b T p rest bs w':=
 h.stays (aE.be hs (Vm _))
def eN.bd{B b c:Nat}{t:VK}{u v:Vr}{w w':Vl}(h:eN w c t u v)(hk:bz B b w w')(hc:c≠b)(ht:t≠5):eN w' c t u v:=
 hk.kept c _ h (λe=>hc (by cases e;rfl)) (λcs fz e=>ht (by cases e;rfl))
def Bx.bd{B b c:Nat}{t:VK}{v:Vr}{w w':Vl}(h:Bx w c t v)(hk:bz B b w w')(hc:c≠b)(ht:t≠5):Bx w' c t v:=
 hk.kept c _ h (λe=>hc (by cases e;rfl)) (λcs fz e=>ht (by cases e;rfl))
def Kh(neg:Bool):List UInt8:=if neg then [45] else []
def AL(neg:Bool):(Kh neg).length<=1:=by cases neg<;>simp[Kh]
def AS(neg:Bool)(l:List Nat):List UInt8:=if l=[] then [48] else Kh neg++lY l l.length
def IF(l:List Nat):AS Vp l=Uf l:=by unfold AS Uf Kh;simp
structure PD(neg:Bool)(bi:Nat)(w:Vl)(l:List Nat)(A:Option VM)(ca:Nat)(k:Nat)(W:Vl):Prop where
 x:eN W w.heap.size 326 (VS neg) (VQ A l.length ca)
 bd:∃p,CZ (w.heap.size+1) p/\Bd w.heap.size (w.heap.size+1) 121 p [] (Lib.byteCells (Kh neg++lY l k)) W
 it:Bx W bi 25 (VQ A l.length ca)
 bi:w.heap.size+2<=bi
 low:VL w.heap.size w W
def PD.stays{neg:Bool}{bi:Nat}{w:Vl}{l:List Nat}{A:Option VM}{ca k n0:Nat}{W W':Vl}(h:PD neg bi w l A ca k W)(hs:aE n0 W W')(hn:w.heap.size<=n0):PD neg bi w l A ca k W':=by
 obtain⟨p,hp,hb⟩:=h.bd;exact⟨h.x.stays hs,⟨p,hp,hb.stays hs⟩,h.it.stays hs,h.bi,h.low.trans (hs.below.mono hn)⟩
def PD.sl{neg:Bool}{bi:Nat}{w:Vl}{l:List Nat}{A:Option VM}{ca k:Nat}{W:Vl}(h:PD neg bi w l A ca k W)(ha:bE w w.heap.size (VQ A l.length ca) l):bE W w.heap.size (VQ A l.length ca) l:=ha.below h.low
def sP{neg:Bool}{bi:Nat}{w W2 W6:Vl}{l:List Nat}{A:Option VM}{ca k:Nat}(h:PD neg bi w l A ca k W2)(hk:bz w.heap.size (w.heap.size+1) W2 W6)
  (hb:Bd w.heap.size (w.heap.size+1) 121 (sY (w.heap.size+1)) [] (Lib.byteCells (Kh neg++lY l (k+1))) W6):
  KeepsOthers W2 W6/\PD neg bi w l A ca (k+1) W6:=by
 obtain⟨p,hp,hB,v,hb0,_⟩:=h.bd;exact⟨hk.others hb0,h.x.bd hk VY V0,⟨_,.inr rfl,hb⟩,h.it.bd hk (by have:=h.bi;omega) V0,h.bi,h.low.trans hk.low⟩
def bz.be{B b:Nat}{w w':Vl}(h:VL w.heap.size w w')(hB:B<=w.heap.size):bz B b w w':=
 ⟨h.mono hB,(Lib.OthersKept.refl _ _ _).below h⟩
def Np(w:Vl)(neg:Bool)(l:List Nat)(e:Ending)(w':Vl):Prop:=e=VV (VR (tx (AS neg l)))/\VL w.heap.size w w'
def EK(w:Vl)(neg:Bool)(A:Option VM)(ca:Nat):VC prog 334 #[VW #[VS neg,VQ A 0 ca]] w (Np w neg []):=by
 go_enter func334,ntmps334;go_wp2;go_ret;exact⟨rfl,(Below.refl _ _).alloc (Vm _) _⟩
def F8(w:Vl)(neg:Bool)(l:List Nat)(v:Vr)(ha:bE w w.heap.size v l)(hs:Small l)(hlen:l.length<=1000000)(ht:aU w):
  VC prog 334 #[VW #[VS neg,v]] w (Np w neg l):=by
 obtain⟨A,ca,rfl,ha1,ha2,hac⟩:=id ha;clear hac;unfold VJ at ha2;by_cases hne:l=[]
 ·subst hne;exact EK w neg A ca
 have hpos:0<l.length:=List.length_pos_iff.2 hne;have HNE:=Vk hne;have HT:=Vk ht;have HS:=Vk hs;clear hne ht hs;have hl0:((l.length:Int)==0)=Vp:=We;refine(callsIn_wide (n:=9)).1 (callsIn_of_wp_marks func334 rfl trivial ?_);simp only[ntmps334,List.size_toArray,List.length_cons,List.length_nil,Nat.reduceAdd,Nat.reduceSub,Array.replicate_succ,Array.replicate_zero,List.push_toArray,List.append_toArray,List.nil_append,List.cons_append];cases neg with
 |false=>
  gi_wp2_with(refine⟨trivial,?_⟩;gi_at_call 330;refine(callsIn_wide.2 (ir _ _ _ _)).mono ?_;rintro e w' ⟨rfl,rfl⟩)
  refine fe (gf:=347) (lb:=#[VT (Vq ⟨w.heap.size+2,0,Vo⟩)]) rfl (enters_of func347 VZ rfl)
   (fQ (w.heap.size+2) A l.length ca (λj x=>x=fv l j) VY) (λk x ⟨_,_,e⟩=>XC)
   (PD Vp (w.heap.size+2) w l A ca) (λ_ _ _=>False) (λk W W' h hs=>h.stays hs Wa) (λc k W W' h hs=>h) (λk W h=>ug h.it (h.sl ha)) ?start ?round ?done ?stop
  case start=>
   have hB:=qV w (.cells #[VS Vp,VQ A l.length ca] 326) (.cells #[VT Vo,VQ Vo 0 0] 121) (.cells #[VQ A l.length ca] 25);refine⟨((eN.at_ rfl).alloc _).alloc _,⟨_,.inl rfl,VY,VQ Vo 0 0,?_,⟨rfl,.inl ⟨rfl,rfl⟩⟩,by simp[Value.ownBlock]⟩,Bx.at_ V5,VY,hB⟩;exact GX _ _ _ _
  case round=>
   intro lp k x W K hk hx hi hK;obtain⟨v,rfl,rfl⟩:=hx;have HK:=Vk hK;clear hK
   gi_wp2
   refine HK.o _ (λW2 hi2 _=> ?_);clear HK hi;have hsz:=hi2.low.size;have hfv:fv l (l.length-1-k)<1000000000:=aA HS.o _;have hshort:=mV _ hfv;have hwl:=tC HS.o k;have hsg:=AL Vp;exact Yt
  case done=>
   rintro D W hD h hK;obtain⟨p,hp,hb⟩:=h.bd;have cs:=Vk (nC w.heap.size (w.heap.size+1) _ p [] (Kh Vp++lY l l.length) W hb (λh=>MO hpos (List.append_eq_nil_iff.1 h).2));have HI:=Vk h;clear h hb;gi_wp2_with(refine⟨trivial,?_⟩;gi_at_call 59;refine(callsIn_wide.2 cs.o).mono ?_;rintro e w' ⟨rfl,hB'⟩)
   have k1:w'.heap[D]?=Vq (.deferred (Vq [])):=hB'.kept D _ hK (λe=>by cases e;simp at hD;omega) (λc fz e=>by cases e);refine⟨V5,.inl ⟨_,_,rfl,run_takeDeferred k1,?_⟩⟩;have hs:=aE.putObj (n0:=w.heap.size) (.deferred Vo) k1 rfl Xj;refine⟨VR (tx (Kh Vp++lY l l.length)),by simp[results,results334,go_sem],?_,HI.o.low.trans (hB'.low.trans hs.below)⟩;unfold AS;rw[if_neg HNE.o]
  case stop=>intro D c k W hD hk h;exact h.elim
 |true=>
  have b0:=Vk (show Bd w.heap.size (w.heap.size+1) 121 (VT Vo) [] (Lib.byteCells []) ((w.alloc (.cells #[VS Vv,VQ A l.length ca] 326)).alloc (.cells #[VT Vo,VQ Vo 0 0] 121)) from
   ⟨VY,VQ Vo 0 0,by have:=Vy (w.alloc (.cells #[VS Vv,VQ A l.length ca] 326)) (.cells #[VT Vo,VQ Vo 0 0] 121);rw[VF] at this;exact this,⟨rfl,.inl ⟨rfl,rfl⟩⟩,by simp[Value.ownBlock]⟩)
  have X0:=Vk (show eN ((w.alloc (.cells #[VS Vv,VQ A l.length ca] 326)).alloc (.cells #[VT Vo,VQ Vo 0 0] 121)) w.heap.size 326 (VS Vv) (VQ A l.length ca) from(eN.at_ rfl).alloc _);have L0:=Vk (show VL w.heap.size w ((w.alloc (.cells #[VS Vv,VQ A l.length ca] 326)).alloc (.cells #[VT Vo,VQ Vo 0 0] 121)) from((Below.refl _ _).alloc (Vm _) _).alloc V5 _);have cb:=Vk (xX w.heap.size (w.heap.size+1) _ (VT Vo) [] (Lib.byteCells []) 45 _ b0.o (.inl rfl) mZ (by simp[Lib.byteCells]) L0.o.size);gi_wp2_with(refine⟨trivial,?_⟩;first
   |(gi_at_call 330;refine(callsIn_wide.2 (ir _ _ _ _)).mono ?_;rintro e w' ⟨rfl,rfl⟩)
   |(gi_at_call 180;refine(callsIn_wide.2 cb.o).mono ?_;rintro e W1 ⟨rfl,hb1,hk1⟩;have X1:=Vk (X0.o.bd hk1 VY V0);have hz1:=hk1.low.size;have hc1:=X1.o.dX))
  have hz1':w.heap.size+2<=W1.heap.size:=by simp at hz1;omega
  refine fe (gf:=347) (lb:=#[VT (Vq ⟨W1.heap.size,0,Vo⟩)]) rfl (enters_of func347 VZ rfl)
   (fQ (W1.heap.size) A l.length ca (λj x=>x=fv l j) VY) (λk x ⟨_,_,e⟩=>XC)
   (PD Vv (W1.heap.size) w l A ca) (λ_ _ _=>False) (λk W W' h hs=>h.stays hs Wa) (λc k W W' h hs=>h) (λk W h=>ug h.it (h.sl ha)) ?start ?round ?done ?stop
  case start=>
   have hA:VL W1.heap.size W1 (W1.alloc (.cells #[VQ A l.length ca] 25)):=(Below.refl _ _).alloc (Vm _) _;exact⟨X1.o.alloc _,⟨_,.inr rfl,hb1.below hA⟩,Bx.at_ rfl,hz1',(L0.o.trans hk1.low).trans (hA.mono VY)⟩
  case round=>
   intro lp k x W K hk hx hi hK;obtain⟨v,rfl,rfl⟩:=hx;have HK:=Vk hK;clear hK
   gi_wp2
   refine HK.o _ (λW2 hi2 _=> ?_);clear HK hi;have hsz:=hi2.low.size;have hfv:fv l (l.length-1-k)<1000000000:=aA HS.o _;have hshort:=mV _ hfv;have hwl:=tC HS.o k;have hsg:=AL Vv;exact Yt
  case done=>
   rintro D W hD h hK;obtain⟨p,hp,hb⟩:=h.bd;have cs:=Vk (nC w.heap.size (w.heap.size+1) _ p [] (Kh Vv++lY l l.length) W hb (λh=>MO hpos (List.append_eq_nil_iff.1 h).2));have HI:=Vk h;clear h hb;gi_wp2_with(refine⟨trivial,?_⟩;gi_at_call 59;refine(callsIn_wide.2 cs.o).mono ?_;rintro e w' ⟨rfl,hB'⟩)
   have k1:w'.heap[D]?=Vq (.deferred (Vq [])):=hB'.kept D _ hK (λe=>by cases e;simp at hD;omega) (λc fz e=>by cases e);refine⟨V5,.inl ⟨_,_,rfl,run_takeDeferred k1,?_⟩⟩;have hs:=aE.putObj (n0:=w.heap.size) (.deferred Vo) k1 rfl Xj;refine⟨VR (tx (Kh Vv++lY l l.length)),by simp[results,results334,go_sem],?_,HI.o.low.trans (hB'.low.trans hs.below)⟩;unfold AS;rw[if_neg HNE.o]
  case stop=>intro D c k W hD hk h;exact h.elim
end
section
open Kp
def Jq(l:List Nat):List UInt8×Int:=if 300<(own (Uf l)).length then([],4) else(Uf l,0)
def iV(w:Vl)(r:List UInt8×Int)(e:Ending)(w':Vl):Prop:=e=VV (VX #[VR (tx r.1),VU VA r.2])/\VL w.heap.size w w'
def qx(l:List UInt8):(own l).length<=l.length:=by unfold own Lib.trimPrefix;split <;>simp
def dD(s:List UInt8)(w:Vl):VC prog 243 #[VR (tx s),VR ⟨#[45]⟩] w λe w'=>e=VV (VR (tx (own s)))/\w'=w:=by
 have:=strings_TrimPrefix (tx s) (tx [45]) w;rw[bn,bn] at this;exact this
def qI(neg:Bool)(l:List Nat):List UInt8×Int:=if 300<(own (AS neg l)).length then([],4) else(AS neg l,0)
def EF(l:List Nat):qI Vp l=Jq l:=by unfold qI Jq;rw[IF]
def PC(neg:Bool){l:List Nat}(h:Small l):(AS neg l).length<=9*l.length+2:=by
 unfold AS;split
 ·simp
 ·have:=tC h l.length;have:=AL neg;rw[VD];omega
def rY(w:Vl)(neg:Bool)(l:List Nat)(v:Vr)(ha:bE w w.heap.size v l)(hs:Small l)(hlen:l.length<=1000000)(ht:aU w):
  VC prog 298 #[VW #[VS neg,v]] w (iV w (qI neg l)):=by
 obtain⟨A,ca,rfl,ha1,ha2,hac⟩:=id ha;clear hac ha1 ha2;have hB0:VL w.heap.size w (w.alloc (.cells #[VS neg,VQ A l.length ca] 326)):=(Below.refl _ _).alloc (Vm _) _;have ha'':bE (w.alloc (.cells #[VS neg,VQ A l.length ca] 326)) (w.alloc (.cells #[VS neg,VQ A l.length ca] 326)).heap.size (VQ A l.length ca) l:=ha.new _;have cw:=Vk (F8 _ neg l _ ha'' hs hlen (ht.below hB0 (Vm _)));have h1:=PC neg hs;have h2:=qx (AS neg l);have HB0:=Vk hB0;clear ha ha'' hs ht hB0;by_cases h300:300<(own (AS neg l)).length
 ·have HR:=Vk (show qI neg l=([],4) by unfold qI;rw[if_pos h300]);exact Yv
 ·have HR:=Vk (show qI neg l=(AS neg l,0) by unfold qI;rw[if_neg h300]);exact Yv
def CI(w:Vl)(l:List Nat)(v:Vr)(ha:bE w w.heap.size v l)(hs:Small l)(hlen:l.length<=1000000)(ht:aU w):
  VC prog 298 #[VW #[VS Vp,v]] w (iV w (Jq l)):=by
 rw[<-EF];exact rY w Vp l v ha hs hlen ht
noncomputable def pr(a b:List UInt8):List UInt8×Int:=
 if dv a b=0 then(if a.length<=18/\b.length<=18 then(Lib.itoa (Nat.gcd (aw (own a)) (aw (own b)):Nat),0) else Jq (cH (Nat.gcd (aw (own a)) (aw (own b))))) else([],dv a b)
def kK{a b:List UInt8}(h:dv a b=0):jB a=0/\jB b=0:=by
 unfold dv at h;split at h
 ·rename_i h1;exact⟨h1,h⟩
 ·rename_i h1;exact absurd h h1
def eK{a:List UInt8}(h:jB a=0):aT a=Vv/\(own a).length<=300:=by
 unfold jB at h;split at h
 ·rename_i h1;split at h
  ·omega
  ·exact⟨h1,VY⟩
 ·omega
def cV{a:List UInt8}(h:aT a=Vv):(own a).all fJ=Vv:=by
 unfold aT at h;simp only[Bool.and_eq_true] at h;exact h.1.1
def kI{l:List UInt8}(h:l.all fJ=Vv):aw l<10^l.length:=by
 induction l with
 |nil=>decide
 |cons b r ih=>
  simp only[List.all_cons,Bool.and_eq_true] at h;have h1:=(ky h.1).1;have h2:=ih h.2;rw[gD,List.length_cons,Nat.pow_succ];have:iD b*10^r.length<=9*10^r.length:=Nat.mul_le_mul_right _ VY;omega
def sV(l:List UInt8):(num l).natAbs=aw (own l):=by unfold num;split <;>simp
def NI{l:List UInt8}(h:aT l=Vv)(hl:l.length<=18):(num l).natAbs<1000000000000000000:=by
 rw[sV];have h1:=kI (cV h);have h2:=qx l;have:10^(own l).length<=10^18:=Nat.pow_le_pow_right V0 VY;exact Nat.lt_of_lt_of_le h1 this
def L9(w:Vl)(g:Nat)(x y:Vr)(wr:Vl):Prop:=
 ∃xi yi:Int,x=VU VA xi/\y=VU VA yi/\xi.natAbs<1000000000000000000/\yi.natAbs<1000000000000000000/\Nat.gcd xi.natAbs yi.natAbs=g/\VL w.heap.size w wr
def P4{w wr:Vl}{g n:Nat}{xi yi:Int}(h0:¬yi=0)(hy:yi.natAbs<1000000000000000000)(hg:Nat.gcd xi.natAbs yi.natAbs=g)(hB:VL w.heap.size w wr):
  L9 w g (VU VA yi) (VU VA (xi.tmod yi)) (wr.drewN n)/\(xi.tmod yi).natAbs<yi.natAbs:=by
 have h1:(xi.tmod yi).natAbs=xi.natAbs%yi.natAbs:=Int.natAbs_tmod _ _;have h2:xi.natAbs%yi.natAbs<yi.natAbs:=Nat.mod_lt _ VY;refine⟨⟨yi,_,rfl,rfl,hy,VY,?_,below_drewN hB _⟩,VY⟩;rw[h1,Nat.gcd_comm,<-Nat.gcd_rec,Nat.gcd_comm];exact hg
def QG(a b:List UInt8)(w:Vl)(ha:a.length<=1000000)(hb:b.length<=1000000)(h:dv a b≠0):
  VC prog 260 #[VR (tx a),VR (tx b)] w (iV w (pr a b)):=by
 have HR:=Vk (show pr a b=([],dv a b) by unfold pr;rw[if_neg h]);have h':(dv a b !=0)=Vv:=Wy;clear h;go_enter func260,ntmps260;go_wp2_with(go_at_call 294;refine(ik _ _ _ Wd Wd).mono ?_;rintro e w1 ⟨rfl,hB1⟩)
 go_ret2;rw[HR.o];exact⟨rfl,hB1⟩
def I8(a b:List UInt8)(w:Vl)(ha:a.length<=18)(hb:b.length<=18)(h:dv a b=0)(ht:aU w):
  VC prog 260 #[VR (tx a),VR (tx b)] w (iV w (pr a b)):=by
 have HR:=Vk (show pr a b=(Lib.itoa (Nat.gcd (aw (own a)) (aw (own b)):Nat),0) by unfold pr;rw[if_pos h,if_pos ⟨ha,hb⟩]);obtain⟨ca,cb⟩:=kK h;have fa:=(eK ca).1;have fb:=(eK cb).1;have h':(dv a b !=0)=Vp:=Wy;have ha':a.length<=1000000:=VY;have hb':b.length<=1000000:=VY;have HA:=Vk (NI fa ha);have HB:=Vk (NI fb hb);have HT:=Vk ht;clear h ca cb ht;go_enter func260,ntmps260;go_wp2_with(first|(go_at_call 294;refine(ik _ _ _ Wd Wd).mono ?_;rintro e w1 ⟨rfl,hB1⟩)|(go_at_call 295;refine(nK _ _ _ Wd Wd Wd Wd).mono ?_;rintro e w2 ⟨rfl,hB2⟩))
 have hB:=hB1.trans (hB2.mono hB1.size);go_loopw [7,8] (λx y wr=>L9 w (Nat.gcd (aw (own a)) (aw (own b))) x y wr) (λ_ y _=>(VG y).natAbs)
 case atStart=>exact⟨_,_,rfl,rfl,HA.o,HB.o,by rw[sV,sV],hB⟩
 case round=>
  obtain⟨xi,yi,rfl,rfl,hx,hy,hg,hBr⟩:=hrel;by_cases h0:yi=0
  ·subst h0;rw[Int.natAbs_zero,Nat.gcd_zero_right] at hg;obtain⟨G,hG⟩:∃G,Nat.gcd (aw (own a)) (aw (own b))=G:=⟨_,rfl⟩;rw[hG] at hg HR;have hmx:max xi (-xi)=(G:Int):=VY;have hGb:G<1000000000000000000:=VY;have ct:=Vk (jo (G:Int) wr VY VY (HT.o.below hBr (Vm _)));clear hg hG hx hy;go_wp2_with(go_at_call 182;refine ct.o.mono ?_;rintro e w3 ⟨rfl,hB3⟩)
   go_ret2;rw[HR.o];exact⟨rfl,hBr.trans (hB3.mono hBr.size)⟩
  ·have hn:=Vk (λn=>P4 (n:=n) h0 hy hg hBr);have h0':(yi !=0)=Vv:=by simpa using h0
   clear hg;go_wp2;go_quiet (fail)
   go_roundw
   case rel=>exact⟨_,_,_,_,_,_,_,_,(hn.o _).1,rfl⟩
   case measure=>exact(hn.o 0).2
end
section
open Kp
def Sf(v:Vr)(w:Vl):Nat:=
 match v with
 | VQ (Vq a) n _=>S (λj=>match w.cell? ⟨a.block,a.off+j,Vo⟩ with|some (.int _ x)=>x.toNat|_=>0) n
 |_=>0
def Ho{w:Vl}{b0:Nat}{v:Vr}{l:List Nat}(h:bE w b0 v l):Sf v w=val l:=by
 obtain⟨A,cap,rfl,_,_,hc⟩:=h;by_cases hl:0<l.length
 ·obtain⟨b,off,rfl,_,hcell⟩:=hc hl;unfold Sf val;refine dV (λj hj=> ?_);simp only;rw[hcell j hj];simp
 ·have:l=[]:=XJ;subst this;cases A<;>rfl
structure Mo(w:Vl)(g:Nat)(x y:Vr)(wr:Vl):Prop where
 ex:∃a b,bE wr wr.heap.size x a/\bE wr wr.heap.size y b/\Canon a/\Canon b/\a.length<=400000/\b.length<=400000/\Nat.gcd (val a) (val b)=g
 low:VL w.heap.size w wr
def JP{r b:List Nat}(hr:Canon r)(hb:Canon b)(h:val r<val b):r.length<=b.length:=by
 rcases Nat.lt_or_ge b.length r.length with hlt|hge
 ·have:=bP hb.small hr.trim hlt;omega
 ·exact hge
def ME(a b:List UInt8)(w:Vl)(ha:a.length<=1000000)(hb:b.length<=1000000)(h18:18<a.length\/18<b.length)(h:dv a b=0)(ht:aU w):
  VC prog 260 #[VR (tx a),VR (tx b)] w (iV w (pr a b)):=by
 have HR:=Vk (show pr a b=Jq (cH (Nat.gcd (aw (own a)) (aw (own b)))) by unfold pr;rw[if_pos h,if_neg VY]);obtain⟨ca,cb⟩:=kK h;obtain⟨fa,la⟩:=eK ca;obtain⟨fb,lb⟩:=eK cb;have da:=cV fa;have db:=cV fb;have h':(dv a b !=0)=Vp:=Wy;have hfd:∀(p:Bool) (A:Option VM) (n c:Nat) (W:Vl),(Instr.field 326 (VW #[VS p,VQ A n c]) 1).run prog W= .ok (VQ A n c) W:=λ_ _ _ _ _=>VZ
 have HT:=Vk ht;have HLA:=Vk la;have HLB:=Vk lb;clear h ca cb ht fa fb la lb;go_enter func260,ntmps260;go_wp2_with(first|(go_at_call 294;refine(ik _ _ _ Wd Wd).mono ?_;rintro e w1 ⟨rfl,hB1⟩)|(go_at_call 295;refine(wb _ _ _ Wd Wd Wd).mono ?_;rintro e w2 ⟨rfl,hB2⟩)|(go_at_call 296;refine(mc _ _ Wd Wd).mono ?_;rintro e w3 ⟨v3,l3,rfl,⟨g3,cap3,rfl,hg3,hr3⟩,hc3,hv3,hl3,hB3⟩;have HV3:=Vk hv3;clear hv3))
 rename_i wa la ga capa hga hra hca hla hBa HVa _ _;have hB:=((hB1.trans (hB2.mono hB1.size)).trans (hBa.mono (by have:=hB1.size;have:=hB2.size;omega))).trans (hB3.mono (by have:=hB1.size;have:=hB2.size;have:=hBa.size;omega));have hsa:bE w3 w3.heap.size (VQ (Vq ⟨ga,0,Vo⟩) la.length capa) la:=(hra.sl hra.lt).grow hB3;have hsb:bE w3 w3.heap.size (VQ (Vq ⟨g3,0,Vo⟩) l3.length cap3) l3:=hr3.sl hr3.lt;have hst:Mo w (Nat.gcd (aw (own a)) (aw (own b))) (VQ (Vq ⟨ga,0,Vo⟩) la.length capa) (VQ (Vq ⟨g3,0,Vo⟩) l3.length cap3) w3:=
  ⟨⟨la,l3,hsa,hsb,hca,hc3,by have:=HLA.o;omega,by have:=HLB.o;omega,by rw[HVa.o,HV3.o]⟩,hB⟩
 have HST:=Vk hst;clear hst hsa hsb hra hr3 hla hl3 hca hc3;go_loopw [10,11] (λx y wr=>Mo w (Nat.gcd (aw (own a)) (aw (own b))) x y wr) (λ_ y wr=>Sf y wr)
 case atStart=>exact HST.o
 case round=>
  obtain⟨⟨a',b',sx,sy,cx,cy,lx,ly,hg⟩,hBr⟩:=hrel;have hvy:=Ho sy;obtain⟨Ay,cpy,rfl,hy1,hy2,_⟩:=id sy;obtain⟨Ax,cpx,rfl,hx1,hx2,_⟩:=id sx;unfold VJ at hy2 hx2;have HSX:=Vk sx;have HSY:=Vk sy;have HVY:=Vk hvy;by_cases h0:b'=[]
  ·subst h0;have e1:val ([]:List Nat)=0:=rfl;rw[e1,Nat.gcd_zero_right] at hg;have hlim:=mE cx hg;rw[hlim] at HR;have cr:=Vk (CI wr a' _ sx cx.small VY (HT.o.below hBr (Vm _)));clear hg hlim sx sy hvy;go_wp2_with(go_at_call 298;refine cr.o.mono ?_;rintro e w4 ⟨rfl,hB4⟩)
   go_ret2;rw[HR.o];exact⟨rfl,hBr.trans (hB4.mono hBr.size)⟩
  ·have hpos:0<b'.length:=List.length_pos_iff.2 h0;have hpos':decide (0<(b'.length:Int))=Vv:=Wh;have cd:=Vk (E6 wr a' b' _ _ sx sy cx cy lx h0);have HG:=Vk hg;clear sx sy hvy hg;go_wp2_with(go_at_call 297;refine cd.o.mono ?_;rintro e w4 ⟨vq,vr,ql,rl,rfl,hsq,hcq,hvq,hsr,hcr,hvr,hB4⟩)
   have hlt:val rl<val b':=by rw[hvr];exact Nat.mod_lt _ (Gx cy.trim h0)
   refine⟨⟨⟨b',rl,HSY.o.grow hB4,hsr,cy,hcr,ly,?_,?_⟩,hBr.trans (hB4.mono hBr.size)⟩,?_⟩
   ·have:=JP hcr cy hlt;omega
   ·rw[hvr,Nat.gcd_comm,<-Nat.gcd_rec,Nat.gcd_comm];exact HG.o
   ·rw[Ho hsr,HVY.o];exact hlt
def PU(a b:List UInt8)(w:Vl)(ha:a.length<=1000000)(hb:b.length<=1000000)(ht:aU w):
  VC prog 260 #[VR (tx a),VR (tx b)] w (iV w (pr a b)):=by
 by_cases h:dv a b=0
 ·by_cases h18:a.length<=18/\b.length<=18
  ·exact I8 a b w h18.1 h18.2 h ht
  ·exact ME a b w ha hb VY h ht
 ·exact QG a b w ha hb h
end
section
open Kp
def lead(s:List UInt8):List UInt8:=s.takeWhile fJ
def dk(s:List UInt8):Option (Nat×List UInt8):=
 if(lead s).length=0\/8<(lead s).length\/(1<(lead s).length/\s.head?=Vq 48) then Vo else Vq (aw (lead s),s.drop (lead s).length)
def rf{s:List UInt8}{k:Nat}(h:(s.take k).all fJ=Vv)(hk:k<=s.length):k<=(lead s).length:=by
 induction s generalizing k with
 |nil=>simp at hk;omega
 |cons b r ih=>
  cases k with
  |zero=>omega
  |succ k=>
   simp only[List.take_succ_cons,List.all_cons,Bool.and_eq_true] at h;have:=ih h.2 (by simpa using hk);unfold lead at *;rw[List.takeWhile_cons_of_pos h.1];exact Ya
def qK(s:List UInt8):(lead s).all fJ=Vv:=by
 unfold lead
 induction s with
 |nil=>rfl
 |cons b r ih=>
  by_cases h:fJ b=Vv
  ·rw[List.takeWhile_cons_of_pos h,List.all_cons,h,ih];rfl
  ·rw[List.takeWhile_cons_of_neg h];rfl
def xL(s:List UInt8):s.take (lead s).length=lead s:=by
 have:lead s<+:s:=List.takeWhile_prefix _;obtain⟨t,ht⟩:=this;have h:(lead s++t).take (lead s).length=lead s:=V5;rwa[ht] at h
def yH{s:List UInt8}{k:Nat}(h:(s.take k).all fJ=Vv)(hk:k<s.length)(hb:fJ s[k]=Vp):(lead s).length=k:=by
 have h1:=rf h VY;rcases Nat.lt_or_ge k (lead s).length with h2|h2
 ·have h3:=qK s;rw[List.all_eq_true] at h3;have h4:s[k]∈lead s:=by
   have e:(lead s)[k]=s[k]:=by
    have:(s.take (lead s).length)[k]'Wa=s[k]:=V5;rw[<-this];congr 1;rw[xL]
   rw[<-e];exact List.getElem_mem _
  rw[h3 _ h4] at hb;cases hb
 ·omega
def Bp{s:List UInt8}(h:(s.take s.length).all fJ=Vv):(lead s).length=s.length:=by
 have h1:=rf h (Vm _);have:(lead s).length<=s.length:=(List.takeWhile_prefix _).length_le;omega
def Lu(s:List UInt8)(n i:Vr):Prop:=
 ∃k:Nat,k<=s.length/\k<=9/\n=VU VA (aw (s.take k):Int)/\i=VU VA (k:Int)/\(s.take k).all fJ=Vv
def mX{s:List UInt8}{k:Nat}(hk:k<s.length):aw (s.take (k+1))=aw (s.take k)*10+iD s[k]:=by
 rw[List.take_succ_eq_append_getElem hk,uO]
def DT{s:List UInt8}{k:Nat}(hk:k<s.length)(h:(s.take k).all fJ=Vv)(hb:fJ s[k]=Vv):(s.take (k+1)).all fJ=Vv:=by
 rw[List.take_succ_eq_append_getElem hk,List.all_append,h];simp[hb]
def AN(b:UInt8):fJ b=(decide (48<=(b.toNat:Int))&&decide ((b.toNat:Int)<=57)):=by
 have h:∀n:Fin 256,fJ (UInt8.ofNat n.1)=(decide (48<=((UInt8.ofNat n.1).toNat:Int))&&decide (((UInt8.ofNat n.1).toNat:Int)<=57)):=WN;have:=h ⟨b.toNat,b.toNat_lt⟩;exact Ya
def nN(s:List UInt8):Vr:=match dk s with|none=> VX #[VU VA 0,VR ⟨#[]⟩,VS Vp]|some (n,r)=> VX #[VU VA n,VR (tx r),VS Vv]
def oG{s:List UInt8}{k:Nat}(h:(k<=8/\(lead s).length=k)\/(k=9/\8<(lead s).length))(hk:k=0\/8<k\/(1<k/\s.head?=Vq 48)):nN s=VX #[VU VA 0,VR ⟨#[]⟩,VS Vp]:=by
 unfold nN dk;rw[if_pos];rcases h with⟨h1,h2⟩|⟨h1,h2⟩
 ·rw[h2];omega
 ·exact .inr (.inl h2)
def ou{s:List UInt8}{k:Nat}(h:(k<=8/\(lead s).length=k)\/(k=9/\8<(lead s).length))(hk:¬(k=0\/8<k\/(1<k/\s.head?=Vq 48))):nN s=VX #[VU VA (aw (s.take k)),VR (tx (s.drop k)),VS Vv]:=by
 unfold nN dk;rcases h with⟨h1,h2⟩|⟨h1,h2⟩
 ·rw[if_neg (by rw[h2];exact hk),<-xL s,h2];simp
 ·omega
def mF{s:List UInt8}{h:0<(tx s).size}(h48:(((tx s)[0]'h).toNat:Int)=48):s.head?=Vq 48:=by
 cases s with
 |nil=>simp[ai] at h
 |cons b r=>simp only[List.head?_cons];rw[Rg (c:=b) h48]
def tB{s:List UInt8}{h:0<(tx s).size}(h48:¬(((tx s)[0]'h).toNat:Int)=48):¬s.head?=Vq 48:=by
 cases s with
 |nil=>simp[ai] at h
 |cons b r=>
  simp only[List.head?_cons,Option.some.injEq];intro e;subst e;exact h48 rfl
def lv(s:List UInt8)(k:Nat):(tx s).extract k s.length=tx (s.drop k):=by
 unfold tx;rw[Lib.extract_eq]
 congr 2
 rw[List.take_of_length_le];simp
def rX (s : List UInt8) (w : Vl) (hs : s.length <= 1000000) :
    VC prog 292 #[VR (tx s)] w λe w' => e =VV (nN s) /\ VL w.heap.size w w' := by
  go_enter func292, ntmps292;go_wp2
  go_loop [5, 6] (λn i => Lu s n i) (λ_ i => ((10 : Int) - VG i).toNat)
  case atStart => exact ⟨0, VY, VY, rfl, rfl, rfl⟩
  case round =>
    obtain ⟨k, hk, hk9, rfl, rfl, hall⟩ := hrel;by_cases hgo : k < s.length /\ k <= 8 /\ ∃ h : k < s.length, fJ (s[k]'h) = Vv
    · obtain ⟨hlt, hk8, _, hd⟩ := hgo
      have hb : k < (tx s).size := by rw [ai]; exact hlt
      have hx : (tx s)[k]'hb = s[k] := rfl;have hdl := ky hd;have d1 : 48 <= (((tx s)[k]'hb).toNat : Int) := by rw [hx]; omega
      have d2 : (((tx s)[k]'hb).toNat : Int) <= 57 := by rw [hx]; omega
      have d3 : ((((tx s)[k]'hb).toNat : Int) - 48) % 256 = (iD s[k] : Int) := by rw [hx]; unfold iD; omega
      have hnb := kI hall;have hnb2 : aw (s.take k) < 1000000000 := Nat.lt_of_lt_of_le hnb (show 10 ^ (s.take k).length <= 10 ^ 9 from Nat.pow_le_pow_right V0 (by rw [List.length_take]; omega));have hnx : Lu s (VU VA (10 * (aw (s.take k) : Int) + ((((tx s)[k]'hb).toNat : Int) - 48))) (VU VA ((k : Int) + 1)) := ⟨k + 1, VY, VY, by rw [mX hlt, hx]; congr 1; unfold iD; omega, V5, DT hlt hall hd⟩;have HNX := Vk hnx;have hd10 : iD s[k] < 10 := hdl.1;clear hnx hnb hdl hx hall hd;go_wp2;exact ⟨HNX.o, WC⟩
    · have hL : (k <= 8 /\ (lead s).length = k) \/ (k = 9 /\ 8 < (lead s).length) := by
        by_cases h9 : k = 9
        · exact .inr ⟨h9, by have := rf hall hk; omega⟩
        · refine .inl ⟨VY, ?_⟩
          by_cases hlt : k < s.length
          · refine yH hall hlt ?_
            cases hd : fJ s[k] with
            | false => rfl
            | true => exact absurd ⟨hlt, VY, hlt, hd⟩ hgo
          · have e : k = s.length := by omega
            rw [e] at hall; rw [e]; exact Bp hall
      have hstop : k < s.length -> k <= 8 -> ∃ h : k < s.length, fJ (s[k]'h) = Vp := λhlt h8 => ⟨hlt, by
        cases hd : fJ s[k] with
        | false => rfl
        | true => exact absurd ⟨hlt, h8, hlt, hd⟩ hgo⟩
      have HL := Vk hL;have HALL := Vk hall;clear hgo hL hall;have hwhy : (¬ k < s.length) \/ (k = 9 /\ k < s.length) \/ (k <= 8 /\ ∃ h : k < (tx s).size, (((tx s)[k]'h).toNat : Int) < 48) \/ (k <= 8 /\ ∃ h : k < (tx s).size, 57 < (((tx s)[k]'h).toNat : Int)) := by
        by_cases h1 : k < s.length
        · by_cases h2 : k <= 8
          · obtain ⟨_, hdb⟩ := hstop h1 h2
            have h1' : k < (tx s).size := by rw [ai]; exact h1
            rw [AN] at hdb;simp only [Bool.and_eq_false_iff, decide_eq_false_iff_not] at hdb;rcases hdb with h | h
            · exact .inr (.inr (.inl ⟨h2, h1', by show ((s[k]).toNat : Int) < 48; omega⟩))
            · exact .inr (.inr (.inr ⟨h2, h1', by show 57 < ((s[k]).toNat : Int); omega⟩))
          · exact .inr (.inl ⟨VY, h1⟩)
        · exact .inl h1
      clear hstop;rcases hwhy with hw | ⟨hw1, hw2⟩ | ⟨hw1, hw2, hw3⟩ | ⟨hw1, hw2, hw3⟩
      · skip
        go_wp2;all_goals first
          | (have hr : k = 0 \/ 8 < k \/ (1 < k /\ s.head? = Vq 48) := by
               first
                 | omega
                 | (rename_i h; simp only [beq_iff_eq] at h; omega)
                 | (rename_i h; rcases h with (h | h) | h
                    ·exact Yx
                    · omega
                    · exact .inr (.inr ⟨VY, mF Wy⟩))
                 | (rename_i h _; rcases h with (h | h) | h
                    ·exact Yx
                    · omega
                    · exact .inr (.inr ⟨VY, mF Wy⟩))
                 | (rename_i h _ _; simp only [beq_iff_eq] at h; omega)
                 | (rename_i h _; simp only [beq_iff_eq] at h; omega)
                 | (rename_i h _ _ _; simp only [beq_iff_eq] at h; omega)
                 | (rename_i h _ _ _ _; simp only [beq_iff_eq] at h; omega)
             exact bodyPost_ret (v := nN s) (by rw [oG HL.o hr]; simp [results, results292, go_sem]) rfl ⟨rfl, Below.refl _ _⟩)
          | (have hr : ¬ (k = 0 \/ 8 < k \/ (1 < k /\ s.head? = Vq 48)) := by
               first
                 | omega
                 | (rename_i h _ _; have h48 := tB (s := s) (by simpa using h.2); rintro (h1 | h1 | ⟨_, h1⟩) <;> first | omega | exact h48 h1)
             go_quiet (fail)
             go_wp2;exact bodyPost_ret (v := nN s) (by rw [ou HL.o hr]; simp [lv, results, results292, go_sem]) rfl ⟨rfl, below_drewN (Below.refl _ _) _⟩)
      · have hw3 : 8 < (k : Int) := by omega
        clear hw1;go_wp2;all_goals first
          | (have hr : k = 0 \/ 8 < k \/ (1 < k /\ s.head? = Vq 48) := by
               first
                 | omega
                 | (rename_i h; simp only [beq_iff_eq] at h; omega)
                 | (rename_i h; rcases h with (h | h) | h
                    ·exact Yx
                    · omega
                    · exact .inr (.inr ⟨VY, mF Wy⟩))
                 | (rename_i h _; rcases h with (h | h) | h
                    ·exact Yx
                    · omega
                    · exact .inr (.inr ⟨VY, mF Wy⟩))
                 | (rename_i h _ _; simp only [beq_iff_eq] at h; omega)
                 | (rename_i h _; simp only [beq_iff_eq] at h; omega)
                 | (rename_i h _ _ _; simp only [beq_iff_eq] at h; omega)
                 | (rename_i h _ _ _ _; simp only [beq_iff_eq] at h; omega)
             exact bodyPost_ret (v := nN s) (by rw [oG HL.o hr]; simp [results, results292, go_sem]) rfl ⟨rfl, Below.refl _ _⟩)
          | (have hr : ¬ (k = 0 \/ 8 < k \/ (1 < k /\ s.head? = Vq 48)) := by
               first
                 | omega
                 | (rename_i h _ _; have h48 := tB (s := s) (by simpa using h.2); rintro (h1 | h1 | ⟨_, h1⟩) <;> first | omega | exact h48 h1)
             go_quiet (fail)
             go_wp2;exact bodyPost_ret (v := nN s) (by rw [ou HL.o hr]; simp [lv, results, results292, go_sem]) rfl ⟨rfl, below_drewN (Below.refl _ _) _⟩)
      ·exact Yw
      ·exact Yw
end
section
open Kp
def cn{s:List UInt8}{n:Nat}{r:List UInt8}(h:dk s=Vq (n,r)):n<1000000000:=by
 unfold dk at h;split at h
 ·cases h
 ·rename_i hk;simp only[Option.some.injEq,Prod.mk.injEq] at h;rw[<-h.1];have h1:=kI (qK s);have:10^(lead s).length<=10^8:=Nat.pow_le_pow_right V0 VY;omega
def fR{s:List UInt8}{n:Nat}{r:List UInt8}(h:dk s=Vq (n,r)):r.length<=s.length:=by
 unfold dk at h;split at h
 ·cases h
 ·simp only[Option.some.injEq,Prod.mk.injEq] at h;rw[<-h.2];simp
def Lf(w:Vl)(g:Nat)(x y:Vr)(wr:Vl):Prop:=
 ∃a b:Nat,x=VU VA a/\y=VU VA b/\a<1000000000/\b<1000000000/\Nat.gcd a b=g/\VL w.heap.size w wr
def MP(a b:Nat)(w:Vl)(ha:a<1000000000)(hb:b<1000000000):
  VC prog 293 #[VU VA a,VU VA b] w λe w'=>e=VV (VU VA (Nat.gcd a b:Nat))/\VL w.heap.size w w':=by
 go_enter func293,ntmps293;go_wp2;go_loopw [0,1] (λx y wr=>Lf w (Nat.gcd a b) x y wr) (λ_ y _=>(VG y).natAbs)
 case atStart=>exact⟨a,b,rfl,rfl,ha,hb,rfl,Below.refl _ _⟩
 case round=>
  obtain⟨x,y,rfl,rfl,hx,hy,hg,hBr⟩:=hrel;by_cases h0:y=0
  ·subst h0;rw[Nat.gcd_zero_right] at hg;have HG:=Vk hg;clear hg;have ht:(((0:Nat):Int) !=0)=Vp:=rfl;go_wp2;go_ret;exact⟨cE (by rw[HG.o]),hBr⟩
  ·have h0':((y:Int) !=0)=Vv:=WW;have hm:((x:Int).tmod (y:Int))=((x%y:Nat):Int):=by rw[Int.tmod_eq_emod_of_nonneg VY];rfl
   have hlt:x%y<y:=Nat.mod_lt _ VY;have hn:=Vk (λn=>show Lf w (Nat.gcd a b) (VU VA y) (VU VA ((x:Int).tmod (y:Int))) (wr.drewN n) from⟨y,x%y,rfl,by rw[hm],hy,VY,by rw[Nat.gcd_comm,<-Nat.gcd_rec,Nat.gcd_comm];exact hg,below_drewN hBr n⟩);have HM:=Vk (show(VG (VU VA ((x:Int).tmod (y:Int)))).natAbs<(VG (VU VA (y:Int))).natAbs by rw[hm];simp[VG];exact hlt);clear hg hm hlt;go_wp2;go_quiet (fail)
   go_roundw
   case rel=>exact⟨_,_,_,_,_,_,_,_,hn.o _,rfl⟩
   case measure=>exact HM.o
def bJ(a:List UInt8):Bool:=match dk (own a) with
 |none=>Vp
 |some (n,r)=>if(own a).length<a.length/\n=0 then Vp else match r with
  |[]=>Vv
  |c::r'=>if c=47 then(match dk r' with
    |none=>Vp
    |some (d,q)=>q.isEmpty&&decide (2<=d)&&decide (Nat.gcd n d=1)) else Vp
def tM(a:List UInt8):Int×Int:=match dk (own a) with
 |none=>(0,0)
 |some (n,r)=>((if(own a).length<a.length then -(n:Int) else n),match r with
  |[]=>1
  |_::r'=>match dk r' with
   |none=>0
   |some (d,_)=>(d:Int))
def de(a:List UInt8):Int×Int:=if bJ a then tM a else(0,0)
def cQ(w:Vl)(a:List UInt8)(e:Ending)(w':Vl):Prop:=∃x y:Int,e=VV (VX #[VW #[VU VA x,VU VA y],VS (bJ a)])/\de a=(x,y)/\VL w.heap.size w w'
def xq(a:List UInt8):(∃r,a=45::r/\own a=r)\/(own a=a/\∀b,a.head?=Vq b->b≠45):=by
 cases a with
 |nil=>exact .inr ⟨rfl,λb h=>V6⟩
 |cons c r=>
  by_cases hc:c=45
  ·subst hc;exact .inl ⟨r,rfl,rfl⟩
  ·refine .inr ⟨?_,λb h=>by cases h;exact hc⟩;unfold own Lib.trimPrefix;have:Lib.hasPrefix (c::r) [45]=Vp:=by simp[Lib.hasPrefix,List.isPrefixOf,Ne.symm hc]
   rw[this];rfl
def im{s:List UInt8}(h:dk s=Vo):nN s=VX #[VU VA 0,VR ⟨#[]⟩,VS Vp]:=by unfold nN;rw[h]
def aK{s:List UInt8}{n:Nat}{r:List UInt8}(h:dk s=Vq (n,r)):nN s=VX #[VU VA n,VR (tx r),VS Vv]:=by unfold nN;rw[h]
def eN.below{B0:Nat}{W W':Vl}{b:Nat}{t:VK}{u v:Vr}(h:eN W b t u v)(hb:VL B0 W W')(hlt:b<B0):eN W' b t u v:=(hb.block b hlt).trans h
def iS{B:Nat}{w W W':Vl}(h:VL B w W)(hc:VL W.heap.size W W')(hB:B<=W.heap.size):VL B w W':=h.trans (hc.mono hB)
def aQ(c:UInt8)(r:List UInt8):(tx (c::r)).extract 1 (r.length+1)=tx r:=by
 have:=lv (c::r) 1;exact Ya
def gJ{c:UInt8}{r:List UInt8}(h:c≠45):own (c::r)=c::r:=by
 rcases xq (c::r) with⟨r',e,_⟩|⟨e,_⟩
 ·cases e;exact absurd rfl h
 ·exact e
def Hd{w W:Vl}{a:Act}{s:List UInt8}{blk:Nat}{x y:Int}{b:Bool}(hX:eN W blk 289 (VU VA x) (VU VA y))
  (h2:a.tmps[2]?=Vq (VT (Vq ⟨blk,0,Vo⟩)))(h3:a.tmps[3]?=Vq (VS b))(hd:a.defers=[])(hok:bJ s=b)(hz:de s=(x,y))(hB:VL w.heap.size w W):
  bodyPost prog f259 (cQ w s) .ret a W:=by
 have c0:=hX.cell0;have c1:=hX.dX;refine bodyPost_ret (v:= VX #[VW #[VU VA x,VU VA y],VS b]) ?_ hd ⟨x,y,by rw[hok],hz,hB⟩;simp[results,results259,go_sem,h2,h3,c0,c1]
def cT{p:Prop}(h:p:=by
 go_enter func259,ntmps259;go_wp2_with(first
  |(go_at_call 292;refine(rX _ _ Wd).mono ?_;first
    |(rintro e w1 ⟨rfl,hB1⟩;rw[HV.o];have X1:=Vk ((eN.at_ rfl).below hB1 V5);have c0:=X1.o.cell0;have c1:=X1.o.dX;have f0:=X1.o.frozen 0;have f1:=X1.o.frozen 1;have l1:=X1.o.lt)
    |(rintro e w2 ⟨rfl,hB2⟩;rw[HV2.o];have X2:=Vk (((X1.o.alloc _).below hB2 Wa));have Y2:=Vk ((eN.at_ rfl).below hB2 V5);have d0:=X2.o.cell0;have d1:=X2.o.dX;have g0:=X2.o.frozen 0;have g1:=X2.o.frozen 1;have e0:=Y2.o.cell0;have e1:=Y2.o.dX;have k0:=Y2.o.frozen 0;have k1:=Y2.o.frozen 1;have l2:=Y2.o.lt))
  |(go_at_call 293;refine(MP _ _ _ Wd Wd).mono ?_;rintro e w3 ⟨rfl,hB3⟩;have X3:=Vk ((X2.o.dx (p:=⟨w1.heap.size,1,Vo⟩) Wa _).below hB3 (by simpa[World.setCell] using by omega));have Y3:=Vk ((Y2.o.qe _).below hB3 (by simpa[World.setCell] using l2));have m0:=X3.o.cell0;have m1:=X3.o.dX;have n0:=X3.o.frozen 0;have n1:=X3.o.frozen 1;have o0:=Y3.o.cell0;have o1:=Y3.o.dX;have q0:=Y3.o.frozen 0;have q1:=Y3.o.frozen 1))
 refine Hd (blk:=w.heap.size) ?nofX rfl rfl rfl HOK.o HZ.o ?nofB
 case nofX=>repeat first|with_reducible apply eN.mQ|with_reducible apply eN.qe|with_reducible apply eN.dx|with_reducible apply eN.alloc|with_reducible exact X3.o|with_reducible exact X2.o|with_reducible exact X1.o|omega|(simp;done)|(simp;omega)
 case nofB=>repeat first|with_reducible refine Below.setCell ?_ Wi _|with_reducible refine Below.alloc ?_ Wi _|with_reducible refine iS ?_ Wd Ww|with_reducible exact Below.refl _ _):p:=h
def zQ(r:List UInt8)(w:Vl)(hr:r.length<=1000000)(hn:dk r=Vo):VC prog 259 #[VR (tx (45::r))] w (cQ w (45::r)):=by
 have ho:own (45::r)=r:=rfl;have hok:bJ (45::r)=Vp:=by unfold bJ;simp[ho,hn]
 have HOK:=Vk hok;have HZ:=Vk (show de (45::r)=(0,0) by unfold de;rw[hok];rfl);have HV:=Vk (im hn);have hx:=aQ 45 r;clear hok ho hn;exact cT
def zH(r:List UInt8)(w:Vl)(hr:r.length<=1000000)(n:Nat)(q:List UInt8)(hn:dk r=Vq (n,q))(hn0:n=0):VC prog 259 #[VR (tx (45::r))] w (cQ w (45::r)):=by
 have ho:own (45::r)=r:=rfl;have hok:bJ (45::r)=Vp:=by unfold bJ;simp[ho,hn,hn0]
 have HOK:=Vk hok;have HZ:=Vk (show de (45::r)=(0,0) by unfold de;rw[hok];rfl);have HV:=Vk (aK hn);have hnl:=cn hn;have t4:VA.wrap (-(n:Int))= -(n:Int):=cD VY VY;have t1:((n:Int)==0)=Vv:=by rw[beq_iff_eq];omega
 have hx:=aQ 45 r;clear hok ho hn hn0;exact cT
def CJ(r:List UInt8)(w:Vl)(hr:r.length<=1000000)(n:Nat)(hn:dk r=Vq (n,[]))(hn0:n≠0):VC prog 259 #[VR (tx (45::r))] w (cQ w (45::r)):=by
 have ho:own (45::r)=r:=rfl;have hok:bJ (45::r)=Vv:=by unfold bJ;simp[ho,hn,hn0]
 have HOK:=Vk hok;have HZ:=Vk (show de (45::r)=((-(n:Int)),1) by unfold de;rw[hok];unfold tM;simp[ho,hn]);have HV:=Vk (aK hn);have hnl:=cn hn;have t4:VA.wrap (-(n:Int))= -(n:Int):=cD VY VY;have t1:((n:Int)==0)=Vp:=We;have hx:=aQ 45 r;clear hok ho hn hn0;exact cT
def sC(r:List UInt8)(w:Vl)(hr:r.length<=1000000)(n:Nat)(c:UInt8)(r':List UInt8)(hn:dk r=Vq (n,(c::r')))(hn0:n≠0)(hc:c≠47):VC prog 259 #[VR (tx (45::r))] w (cQ w (45::r)):=by
 have ho:own (45::r)=r:=rfl;have hok:bJ (45::r)=Vp:=by unfold bJ;simp[ho,hn,hn0,hc]
 have HOK:=Vk hok;have HZ:=Vk (show de (45::r)=(0,0) by unfold de;rw[hok];rfl);have HV:=Vk (aK hn);have hnl:=cn hn;have t4:VA.wrap (-(n:Int))= -(n:Int):=cD VY VY;have t1:((n:Int)==0)=Vp:=We;have t5:((((tx (c::r'))[0]'WO).toNat:Int) !=47)=Vv:=Xb;have hx:=aQ 45 r;clear hok ho hn hn0 hc;exact cT
def xb(r:List UInt8)(w:Vl)(hr:r.length<=1000000)(n:Nat)(r':List UInt8)(hn:dk r=Vq (n,(47::r')))(hn0:n≠0)(hd:dk r'=Vo):VC prog 259 #[VR (tx (45::r))] w (cQ w (45::r)):=by
 have ho:own (45::r)=r:=rfl;have hok:bJ (45::r)=Vp:=by unfold bJ;simp[ho,hn,hn0,hd]
 have HOK:=Vk hok;have HZ:=Vk (show de (45::r)=(0,0) by unfold de;rw[hok];rfl);have HV:=Vk (aK hn);have hnl:=cn hn;have t4:VA.wrap (-(n:Int))= -(n:Int):=cD VY VY;have t1:((n:Int)==0)=Vp:=We;have hr':r'.length<=1000000:=Wr;have hx':=aQ 47 r';have HV2:=Vk (im hd);have hx:=aQ 45 r;clear hok ho hn hn0 hd;exact cT
def Aa(r:List UInt8)(w:Vl)(hr:r.length<=1000000)(n:Nat)(r':List UInt8)(hn:dk r=Vq (n,(47::r')))(hn0:n≠0)(d:Nat)(cq:UInt8)(q:List UInt8)(hd:dk r'=Vq (d,(cq::q))):VC prog 259 #[VR (tx (45::r))] w (cQ w (45::r)):=by
 have ho:own (45::r)=r:=rfl;have hok:bJ (45::r)=Vp:=by unfold bJ;simp[ho,hn,hn0,hd]
 have HOK:=Vk hok;have HZ:=Vk (show de (45::r)=(0,0) by unfold de;rw[hok];rfl);have HV:=Vk (aK hn);have hnl:=cn hn;have t4:VA.wrap (-(n:Int))= -(n:Int):=cD VY VY;have t1:((n:Int)==0)=Vp:=We;have hr':r'.length<=1000000:=Wr;have hx':=aQ 47 r';have HV2:=Vk (aK hd);have hdl:=cn hd;have hx:=aQ 45 r;clear hok ho hn hn0 hd;exact cT
def wK(r:List UInt8)(w:Vl)(hr:r.length<=1000000)(n:Nat)(r':List UInt8)(hn:dk r=Vq (n,(47::r')))(hn0:n≠0)(d:Nat)(hd:dk r'=Vq (d,[]))(hd2:¬2<=d):VC prog 259 #[VR (tx (45::r))] w (cQ w (45::r)):=by
 have ho:own (45::r)=r:=rfl;have hok:bJ (45::r)=Vp:=by unfold bJ;simp[ho,hn,hn0,hd];intro h;exact absurd h hd2
 have HOK:=Vk hok;have HZ:=Vk (show de (45::r)=(0,0) by unfold de;rw[hok];rfl);have HV:=Vk (aK hn);have hnl:=cn hn;have t4:VA.wrap (-(n:Int))= -(n:Int):=cD VY VY;have t1:((n:Int)==0)=Vp:=We;have hr':r'.length<=1000000:=Wr;have hx':=aQ 47 r';have HV2:=Vk (aK hd);have hdl:=cn hd;have t2:decide ((d:Int)<2)=Vv:=Wh;have hx:=aQ 45 r;clear hok ho hn hn0 hd2 hd;exact cT
def um(r:List UInt8)(w:Vl)(hr:r.length<=1000000)(n:Nat)(r':List UInt8)(hn:dk r=Vq (n,(47::r')))(hn0:n≠0)(d:Nat)(hd:dk r'=Vq (d,[]))(hd2:2<=d)(hg:¬Nat.gcd n d=1):VC prog 259 #[VR (tx (45::r))] w (cQ w (45::r)):=by
 have ho:own (45::r)=r:=rfl;have hok:bJ (45::r)=Vp:=by unfold bJ;simp[ho,hn,hn0,hd,hg]
 have HOK:=Vk hok;have HZ:=Vk (show de (45::r)=(0,0) by unfold de;rw[hok];rfl);have HV:=Vk (aK hn);have hnl:=cn hn;have t4:VA.wrap (-(n:Int))= -(n:Int):=cD VY VY;have t1:((n:Int)==0)=Vp:=We;have hr':r'.length<=1000000:=Wr;have hx':=aQ 47 r';have HV2:=Vk (aK hd);have hdl:=cn hd;have t2:decide ((d:Int)<2)=Vp:=V8;have t3:(((Nat.gcd n d:Nat):Int) !=1)=Vv:=WW;have hx:=aQ 45 r;clear hok ho hn hn0 hd2 hg hd;exact cT
def FF(r:List UInt8)(w:Vl)(hr:r.length<=1000000)(n:Nat)(r':List UInt8)(hn:dk r=Vq (n,(47::r')))(hn0:n≠0)(d:Nat)(hd:dk r'=Vq (d,[]))(hd2:2<=d)(hg:Nat.gcd n d=1):VC prog 259 #[VR (tx (45::r))] w (cQ w (45::r)):=by
 have ho:own (45::r)=r:=rfl;have hok:bJ (45::r)=Vv:=by unfold bJ;simp[ho,hn,hn0,hd,hg,hd2]
 have HOK:=Vk hok;have HZ:=Vk (show de (45::r)=((-(n:Int)),(d:Int)) by unfold de;rw[hok];unfold tM;simp[ho,hn,hd]);have HV:=Vk (aK hn);have hnl:=cn hn;have t4:VA.wrap (-(n:Int))= -(n:Int):=cD VY VY;have t1:((n:Int)==0)=Vp:=We;have hr':r'.length<=1000000:=Wr;have hx':=aQ 47 r';have HV2:=Vk (aK hd);have hdl:=cn hd;have t2:decide ((d:Int)<2)=Vp:=V8;have t3:(((Nat.gcd n d:Nat):Int) !=1)=Vp:=by rw[hg];rfl
 have hx:=aQ 45 r;clear hok ho hn hn0 hd2 hg hd;exact cT
def zI(c0:UInt8)(r:List UInt8)(w:Vl)(hr:(c0::r).length<=1000000)(hc0:c0≠45)(hn:dk (c0::r)=Vo):VC prog 259 #[VR (tx (c0::r))] w (cQ w (c0::r)):=by
 have ho:own (c0::r)=(c0::r):=gJ hc0;have hok:bJ (c0::r)=Vp:=by unfold bJ;simp[ho,hn]
 have HOK:=Vk hok;have HZ:=Vk (show de (c0::r)=(0,0) by unfold de;rw[hok];rfl);have HV:=Vk (im hn);exact Yy
def Dt(c0:UInt8)(r:List UInt8)(w:Vl)(hr:(c0::r).length<=1000000)(hc0:c0≠45)(n:Nat)(hn:dk (c0::r)=Vq (n,[])):VC prog 259 #[VR (tx (c0::r))] w (cQ w (c0::r)):=by
 have ho:own (c0::r)=(c0::r):=gJ hc0;have hok:bJ (c0::r)=Vv:=by unfold bJ;simp[ho,hn]
 have HOK:=Vk hok;have HZ:=Vk (show de (c0::r)=((n:Int),1) by unfold de;rw[hok];unfold tM;simp[ho,hn]);have HV:=Vk (aK hn);have hnl:=cn hn;have t4:VA.wrap (-(n:Int))= -(n:Int):=cD VY VY;exact Yy
def sF(c0:UInt8)(r:List UInt8)(w:Vl)(hr:(c0::r).length<=1000000)(hc0:c0≠45)(n:Nat)(c:UInt8)(r':List UInt8)(hn:dk (c0::r)=Vq (n,(c::r')))(hc:c≠47):VC prog 259 #[VR (tx (c0::r))] w (cQ w (c0::r)):=by
 have ho:own (c0::r)=(c0::r):=gJ hc0;have hok:bJ (c0::r)=Vp:=by unfold bJ;simp[ho,hn,hc]
 have HOK:=Vk hok;have HZ:=Vk (show de (c0::r)=(0,0) by unfold de;rw[hok];rfl);have HV:=Vk (aK hn);have hnl:=cn hn;have t4:VA.wrap (-(n:Int))= -(n:Int):=cD VY VY;have t5:((((tx (c::r'))[0]'WO).toNat:Int) !=47)=Vv:=Xb;have h45:((((tx (c0::r))[0]'WO).toNat:Int)==45)=Vp:=Wb;clear hok ho hn hc hc0;exact cT
def wU(c0:UInt8)(r:List UInt8)(w:Vl)(hr:(c0::r).length<=1000000)(hc0:c0≠45)(n:Nat)(r':List UInt8)(hn:dk (c0::r)=Vq (n,(47::r')))(hd:dk r'=Vo):VC prog 259 #[VR (tx (c0::r))] w (cQ w (c0::r)):=by
 have ho:own (c0::r)=(c0::r):=gJ hc0;have hok:bJ (c0::r)=Vp:=by unfold bJ;simp[ho,hn,hd]
 have HOK:=Vk hok;have HZ:=Vk (show de (c0::r)=(0,0) by unfold de;rw[hok];rfl);have HV:=Vk (aK hn);have hnl:=cn hn;have t4:VA.wrap (-(n:Int))= -(n:Int):=cD VY VY;have hr':r'.length<=1000000:=Wr;have hx':=aQ 47 r';have HV2:=Vk (im hd);exact Yz
def AJ(c0:UInt8)(r:List UInt8)(w:Vl)(hr:(c0::r).length<=1000000)(hc0:c0≠45)(n:Nat)(r':List UInt8)(hn:dk (c0::r)=Vq (n,(47::r')))(d:Nat)(cq:UInt8)(q:List UInt8)(hd:dk r'=Vq (d,(cq::q))):VC prog 259 #[VR (tx (c0::r))] w (cQ w (c0::r)):=by
 have ho:own (c0::r)=(c0::r):=gJ hc0;have hok:bJ (c0::r)=Vp:=by unfold bJ;simp[ho,hn,hd]
 have HOK:=Vk hok;have HZ:=Vk (show de (c0::r)=(0,0) by unfold de;rw[hok];rfl);have HV:=Vk (aK hn);have hnl:=cn hn;have t4:VA.wrap (-(n:Int))= -(n:Int):=cD VY VY;have hr':r'.length<=1000000:=Wr;have hx':=aQ 47 r';have HV2:=Vk (aK hd);have hdl:=cn hd;exact Yz
def wS(c0:UInt8)(r:List UInt8)(w:Vl)(hr:(c0::r).length<=1000000)(hc0:c0≠45)(n:Nat)(r':List UInt8)(hn:dk (c0::r)=Vq (n,(47::r')))(d:Nat)(hd:dk r'=Vq (d,[]))(hd2:¬2<=d):VC prog 259 #[VR (tx (c0::r))] w (cQ w (c0::r)):=by
 have ho:own (c0::r)=(c0::r):=gJ hc0;have hok:bJ (c0::r)=Vp:=by unfold bJ;simp[ho,hn,hd];intro h;exact absurd h hd2
 have HOK:=Vk hok;have HZ:=Vk (show de (c0::r)=(0,0) by unfold de;rw[hok];rfl);have HV:=Vk (aK hn);have hnl:=cn hn;have t4:VA.wrap (-(n:Int))= -(n:Int):=cD VY VY;have hr':r'.length<=1000000:=Wr;have hx':=aQ 47 r';have HV2:=Vk (aK hd);have hdl:=cn hd;have t2:decide ((d:Int)<2)=Vv:=Wh;have h45:((((tx (c0::r))[0]'WO).toNat:Int)==45)=Vp:=Wb;clear hok ho hn hd2 hd hc0;exact cT
def vX(c0:UInt8)(r:List UInt8)(w:Vl)(hr:(c0::r).length<=1000000)(hc0:c0≠45)(n:Nat)(r':List UInt8)(hn:dk (c0::r)=Vq (n,(47::r')))(d:Nat)(hd:dk r'=Vq (d,[]))(hd2:2<=d)(hg:¬Nat.gcd n d=1):VC prog 259 #[VR (tx (c0::r))] w (cQ w (c0::r)):=by
 have ho:own (c0::r)=(c0::r):=gJ hc0;have hok:bJ (c0::r)=Vp:=by unfold bJ;simp[ho,hn,hd,hg]
 have HOK:=Vk hok;have HZ:=Vk (show de (c0::r)=(0,0) by unfold de;rw[hok];rfl);have HV:=Vk (aK hn);have hnl:=cn hn;have t4:VA.wrap (-(n:Int))= -(n:Int):=cD VY VY;have hr':r'.length<=1000000:=Wr;have hx':=aQ 47 r';have HV2:=Vk (aK hd);have hdl:=cn hd;have t2:decide ((d:Int)<2)=Vp:=V8;have t3:(((Nat.gcd n d:Nat):Int) !=1)=Vv:=WW;exact YA
def Fv(c0:UInt8)(r:List UInt8)(w:Vl)(hr:(c0::r).length<=1000000)(hc0:c0≠45)(n:Nat)(r':List UInt8)(hn:dk (c0::r)=Vq (n,(47::r')))(d:Nat)(hd:dk r'=Vq (d,[]))(hd2:2<=d)(hg:Nat.gcd n d=1):VC prog 259 #[VR (tx (c0::r))] w (cQ w (c0::r)):=by
 have ho:own (c0::r)=(c0::r):=gJ hc0;have hok:bJ (c0::r)=Vv:=by unfold bJ;simp[ho,hn,hd,hg,hd2]
 have HOK:=Vk hok;have HZ:=Vk (show de (c0::r)=((n:Int),(d:Int)) by unfold de;rw[hok];unfold tM;simp[ho,hn,hd]);have HV:=Vk (aK hn);have hnl:=cn hn;have t4:VA.wrap (-(n:Int))= -(n:Int):=cD VY VY;have hr':r'.length<=1000000:=Wr;have hx':=aQ 47 r';have HV2:=Vk (aK hd);have hdl:=cn hd;have t2:decide ((d:Int)<2)=Vp:=V8;have t3:(((Nat.gcd n d:Nat):Int) !=1)=Vp:=by rw[hg];rfl
 exact YA
end
section
open Kp
def PJ(w:Vl):VC prog 259 #[VR (tx [])] w (cQ w []):=by
 have HOK:=Vk (show bJ []=Vp by rfl);have HV:=Vk (im (s:=[]) Wn);have hr:([]:List UInt8).length<=1000000:=V5;go_enter func259,ntmps259;go_wp2_with(go_at_call 292;refine(rX [] _ hr).mono ?_;rintro e w1 ⟨rfl,hB1⟩;rw[HV.o];have X1:=Vk ((eN.at_ rfl).below hB1 V5);have c0:=X1.o.cell0;have c1:=X1.o.dX;have f0:=X1.o.frozen 0;have f1:=X1.o.frozen 1;have l1:=X1.o.lt)
 refine Hd (blk:=w.heap.size) (x:=0) (y:=0) ?nofX rfl rfl rfl HOK.o rfl ?nofB
 case nofX=>repeat first|with_reducible apply eN.mQ|with_reducible apply eN.qe|with_reducible exact X1.o
 case nofB=>repeat first|with_reducible refine Below.setCell ?_ Wi _|with_reducible refine Below.alloc ?_ Wi _|with_reducible refine iS ?_ Wd Ww|with_reducible exact Below.refl _ _
def lG(a:List UInt8)(w:Vl)(hs:a.length<=1000000):VC prog 259 #[VR (tx a)] w (cQ w a):=by
 cases a with
 |nil=>exact PJ w
 |cons c0 r=>
  by_cases hc0:c0=45
  ·subst hc0;have hr:r.length<=1000000:=by simp at hs;omega
   cases hn:dk r with
   |none=>exact zQ r w hr hn
   |some p=>
    obtain⟨n,q⟩:=p;by_cases hn0:n=0
    ·exact zH r w hr n q hn hn0
    ·cases q with
     |nil=>exact CJ r w hr n hn hn0
     |cons c r'=>
      by_cases hc:c=47
      ·subst hc;cases hd:dk r' with
       |none=>exact xb r w hr n r' hn hn0 hd
       |some p=>
        obtain⟨d,q⟩:=p;cases q with
        |cons cq q=>exact Aa r w hr n r' hn hn0 d cq q hd
        |nil=>
         by_cases hd2:2<=d
         ·by_cases hg:Nat.gcd n d=1
          ·exact FF r w hr n r' hn hn0 d hd hd2 hg
          ·exact um r w hr n r' hn hn0 d hd hd2 hg
         ·exact wK r w hr n r' hn hn0 d hd hd2
      ·exact sC r w hr n c r' hn hn0 hc
  ·cases hn:dk (c0::r) with
   |none=>exact zI c0 r w hs hc0 hn
   |some p=>
    obtain⟨n,q⟩:=p;cases q with
    |nil=>exact Dt c0 r w hs hc0 n hn
    |cons c r'=>
     by_cases hc:c=47
     ·subst hc;cases hd:dk r' with
      |none=>exact wU c0 r w hs hc0 n r' hn hd
      |some p=>
       obtain⟨d,q⟩:=p;cases q with
       |cons cq q=>exact AJ c0 r w hs hc0 n r' hn d cq q hd
       |nil=>
        by_cases hd2:2<=d
        ·by_cases hg:Nat.gcd n d=1
         ·exact Fv c0 r w hs hc0 n r' hn d hd hd2 hg
         ·exact vX c0 r w hs hc0 n r' hn d hd hd2 hg
        ·exact wS c0 r w hs hc0 n r' hn d hd hd2
     ·exact sF c0 r w hs hc0 n c r' hn hc
def jY(s:List UInt8):Nat:=if 1<(lead s).length/\s.head?=Vq 48 then 0 else(lead s).length
def KY(s:List UInt8)(i:Vr):Prop:=∃k:Nat,k<=s.length/\i=VU VA (k:Int)/\(s.take k).all fJ=Vv
def Cm(s:List UInt8)(w:Vl)(hs:s.length<=1000000):
  VC prog 291 #[VR (tx s)] w λe w'=>e=VV (VU VA (jY s))/\w'=w:=by
 go_enter func291,ntmps291;go_wp2
 go_loop [3] (λi=>KY s i) (λi=>((s.length:Int)-VG i).toNat)
 case atStart=>exact⟨0,VY,rfl,rfl⟩
 case round=>
  obtain⟨k,hk,rfl,hall⟩:=hrel;by_cases hgo:∃h:k<s.length,fJ (s[k]'h)=Vv
  ·obtain⟨hlt,hd⟩:=hgo;have hb:k<(tx s).size:=by rw[ai];exact hlt
   have hx:(tx s)[k]'hb=s[k]:=rfl;have hdl:=ky hd;have d1:48<=(((tx s)[k]'hb).toNat:Int):=by rw[hx];omega
   have d2:(((tx s)[k]'hb).toNat:Int)<=57:=by rw[hx];omega
   have hnx:KY s (VU VA ((k:Int)+1)):=⟨k+1,VY,V5,DT hlt hall hd⟩;have HNX:=Vk hnx;clear hnx hdl hx hall hd;go_wp2;exact⟨HNX.o,V7⟩
  ·have hL:(lead s).length=k:=by
    by_cases hlt:k<s.length
    ·refine yH hall hlt ?_;cases hd:fJ s[k] with
     |false=>rfl
     |true=>exact absurd ⟨hlt,hd⟩ hgo
    ·have e:k=s.length:=VY;rw[e] at hall;rw[e];exact Bp hall
   have hwhy:(¬k<s.length)\/(∃h:k<(tx s).size,(((tx s)[k]'h).toNat:Int)<48)\/(∃h:k<(tx s).size,57<(((tx s)[k]'h).toNat:Int)):=by
    by_cases h1:k<s.length
    ·have hdb:fJ s[k]=Vp:=by
      cases hd:fJ s[k] with
      |false=>rfl
      |true=>exact absurd ⟨h1,hd⟩ hgo
     have h1':k<(tx s).size:=by rw[ai];exact h1
     rw[AN] at hdb;simp only[Bool.and_eq_false_iff,decide_eq_false_iff_not] at hdb;rcases hdb with h|h
     ·exact .inr (.inl ⟨h1',by show((s[k]).toNat:Int)<48;omega⟩)
     ·exact .inr (.inr ⟨h1',by show 57<((s[k]).toNat:Int);omega⟩)
    ·exact .inl h1
   have HL:=Vk hL;clear hgo hL hall;by_cases hz:1<k/\s.head?=Vq 48
   ·obtain⟨h1,h48⟩:=hz;have HR:=Vk (show jY s=0 by unfold jY;rw[HL.o,if_pos ⟨h1,h48⟩]);have h0:0<(tx s).size:=XD;have t48:((((tx s)[0]'h0).toNat:Int)==48)=Vv:=by
     rw[beq_iff_eq];cases s with
     |nil=>cases h48
     |cons b r=>simp only[List.head?_cons,Option.some.injEq] at h48;subst h48;rfl
    clear h48;have h1':decide (1<(k:Int))=Vv:=Wh;rcases hwhy with hw|⟨hw2,hw3⟩|⟨hw2,hw3⟩
    ·go_wp2;go_ret;exact⟨cE V9,rfl⟩
    ·have hw4:k<s.length:=Xx;go_wp2;go_ret;exact⟨cE V9,rfl⟩
    ·have hw4:k<s.length:=Xx;go_wp2;go_ret;exact⟨cE V9,rfl⟩
   ·have HR:=Vk (show jY s=k by unfold jY;rw[HL.o,if_neg hz]);by_cases h1:1<k
    ·have h48:¬s.head?=Vq 48:=λh=>hz ⟨h1,h⟩
     have h0:0<(tx s).size:=XD;have t48:((((tx s)[0]'h0).toNat:Int)==48)=Vp:=by
      rw[beq_eq_false_iff_ne];intro e;exact h48 (mF e)
     have h1':decide (1<(k:Int))=Vv:=Wh;clear hz h48;exact YB
    ·have h1':decide (1<(k:Int))=Vp:=V8;clear hz;exact YB
end
section
open Kp
def yM(a sep:List UInt8):(Lib.cut a sep).1.length<=a.length/\(Lib.cut a sep).2.1.length<=a.length:=by
 unfold Lib.cut;split
 ·simp;omega
 ·simp
abbrev eO(w:Vl):Prop:=∃m:Int,w.cell? ⟨1,0,Vo⟩=Vq (VU VA m)
def eO.below{w w':Vl}(h:eO w){B0:Nat}(hb:VL B0 w w')(hB:w.heap.size<=B0):eO w':=by
 obtain⟨m,hm⟩:=h;have:=zK hm;exact⟨m,(hb.cell VY).trans hm⟩
def Ok(a:List UInt8)(w:Vl)(hs:a.length<=1000000)(hm:eO w):
  VC prog 289 #[VR (tx a),VR ⟨#[47]⟩] w λe w'=>e=VV (VX #[VR (tx (Lib.cut a [47]).1),VR (tx (Lib.cut a [47]).2.1),VS (Lib.cut a [47]).2.2])/\VL w.heap.size w w':=by
 obtain⟨m,hm⟩:=hm;have h:=strings_Cut (tx a) (tx [47]) m w XD hm;rw[bn,bn] at h;exact h.mono λ_ _ ⟨h1,n,h2⟩=>⟨h1,by rw[h2];exact below_drewN (Below.refl _ _) n⟩
def tZ(a:List UInt8)(w:Vl):
  VC prog 290 #[VR (tx a),VR ⟨#[45]⟩] w λe w'=>e=VV (VX #[VR (tx (own a)),VS (Lib.hasPrefix a [45])])/\w'=w:=by
 have h:=strings_CutPrefix (tx a) (tx [45]) w;rw[bn,bn] at h;exact h
def pO(s:List UInt8):Bool:=decide (¬jY s=0)&&decide (¬jY s<s.length)
def gP{s:List UInt8}(h0:¬jY s=0)(h1:¬jY s<s.length):pO s=Vv:=by unfold pO;simp[h0];omega
def dP(a:List UInt8):Option (List UInt8×List UInt8):=
 let n:=(Lib.cut a [47]).1
 let d:=(Lib.cut a [47]).2.1
 if pO (own n)=Vp\/(Lib.hasPrefix n [45]=Vv/\own n=[48]) then Vo
 else if(Lib.cut a [47]).2.2=Vp then Vq (n,[49])
 else if pO d=Vp\/d=[48]\/d=[49] then Vo
 else Vq (n,d)
def zU (w : Vl) (r : Option (List UInt8 × List UInt8)) (e : Ending) (w' : Vl) : Prop :=
  (match r with
   | none => e =VV (VX #[VW #[VR ⟨#[]⟩, VR ⟨#[]⟩], VS Vp])
   | some (n, d) => e =VV (VX #[VW #[VR (tx n), VR (tx d)], VS Vv])) /\ VL w.heap.size w w'
def zl{w W:Vl}{a:Act}{r:Option (List UInt8×List UInt8)}{blk:Nat}(hr:r=Vo)(hX:eN W blk 264 (VR ⟨#[]⟩) (VR ⟨#[]⟩))
  (h2:a.tmps[2]?=Vq (VT (Vq ⟨blk,0,Vo⟩)))(h3:a.tmps[3]?=Vq (VS Vp))(hd:a.defers=[])(hB:VL w.heap.size w W):
  bodyPost prog f258 (zU w r) .ret a W:=by
 have c0:=hX.cell0;have c1:=hX.dX;subst hr;refine bodyPost_ret (v:= VX #[VW #[VR ⟨#[]⟩,VR ⟨#[]⟩],VS Vp]) ?_ hd ⟨rfl,hB⟩;simp[results,results258,go_sem,h2,h3,c0,c1]
def AI{w W:Vl}{a:Act}{r:Option (List UInt8×List UInt8)}{blk:Nat}{n d:List UInt8}(hr:r=Vq (n,d))(hX:eN W blk 264 (VR (tx n)) (VR (tx d)))
  (h2:a.tmps[2]?=Vq (VT (Vq ⟨blk,0,Vo⟩)))(h3:a.tmps[3]?=Vq (VS Vv))(hd:a.defers=[])(hB:VL w.heap.size w W):
  bodyPost prog f258 (zU w r) .ret a W:=by
 have c0:=hX.cell0;have c1:=hX.dX;subst hr;refine bodyPost_ret (v:= VX #[VW #[VR (tx n),VR (tx d)],VS Vv]) ?_ hd ⟨rfl,hB⟩;simp[results,results258,go_sem,h2,h3,c0,c1]
def gU{p:Prop}(h:p:=by
 try clear hk
 try clear hz
 try clear hj
 try clear hi'
 clear hm h1 h2 h3 ho hp;go_enter func258,ntmps258;go_wp2_with(first
  |(go_at_call 289;refine(Ok a _ hs (HM.o.below ((Below.refl _ _).alloc (Vm _) _) (Vm _))).mono ?_;rintro e w1 ⟨rfl,hB1⟩;rw[HC1.o,HC2.o,HC3.o];have X1:=Vk ((eN.at_ rfl).below hB1 V5);have c0:=X1.o.cell0;have c1:=X1.o.dX;have f0:=X1.o.frozen 0;have f1:=X1.o.frozen 1;have l1:=X1.o.lt)
  |(go_at_call 290;refine(tZ _ _).mono ?_;rintro e w2 ⟨rfl,rfl⟩;rw[HO.o,HP.o])
  |(go_at_call 291;refine(Cm _ _ (by first|assumption|decide)).mono ?_;rintro e w2 ⟨rfl,rfl⟩))
 first
  |refine AI (blk:=w.heap.size) HR.o ?cutX rfl rfl rfl ?cutB
  |refine zl (blk:=w.heap.size) HR.o ?cutX rfl rfl rfl ?cutB
 case cutX=>repeat first|with_reducible apply eN.mQ|with_reducible apply eN.qe|with_reducible exact X1.o
 case cutB=>repeat first|with_reducible refine Below.setCell ?_ Wi _|with_reducible refine Below.alloc ?_ Wi _|with_reducible refine iS ?_ Wd Ww|with_reducible exact Below.refl _ _):p:=h
set_option maxHeartbeats 40000000 in
def Ny(a:List UInt8)(w:Vl)(hs:a.length<=1000000)(hm:eO w):VC prog 258 #[VR (tx a)] w (zU w (dP a)):=by
 obtain⟨n,h1⟩:∃n,(Lib.cut a [47]).1=n:=⟨_,rfl⟩;obtain⟨d,h2⟩:∃d,(Lib.cut a [47]).2.1=d:=⟨_,rfl⟩;obtain⟨is,h3⟩:∃is,(Lib.cut a [47]).2.2=is:=⟨_,rfl⟩;obtain⟨o,ho⟩:∃o,own n=o:=⟨_,rfl⟩;obtain⟨neg,hp⟩:∃neg,Lib.hasPrefix n [45]=neg:=⟨_,rfl⟩;have hol:o.length<=1000000:=by have:=qx n;have:=(yM a [47]).1;rw[h1] at this;rw[<-ho];omega
 have hdl:d.length<=1000000:=by have:=(yM a [47]).2;rw[h2] at this;omega
 have HC1:=Vk h1;have HC2:=Vk h2;have HC3:=Vk h3;have HO:=Vk ho;have HP:=Vk hp;have HM:=Vk hm;by_cases hk:jY o=0
 ·
  have HR:=Vk (show dP a=Vo by unfold dP;simp only[];rw[h1,h2,h3,ho,hp];rw[if_pos (.inl (by unfold pO;simp[hk]))]);have k0:((jY o:Int)==0)=Vv:=by rw[beq_iff_eq];omega
  exact gU
 have k0:((jY o:Int)==0)=Vp:=We;by_cases hl:jY o<o.length
 ·
  have HR:=Vk (show dP a=Vo by unfold dP;simp only[];rw[h1,h2,h3,ho,hp];rw[if_pos (.inl (by unfold pO;simp[hk,hl]))]);have kt:decide (jY o<o.length)=Vv:=Wh;exact gU
 have kt:decide (jY o<o.length)=Vp:=V8;by_cases hz:neg=Vv/\o=[48]
 ·
  obtain⟨hneg,hz⟩:=hz;have HR:=Vk (show dP a=Vo by unfold dP;simp only[];rw[h1,h2,h3,ho,hp];rw[if_pos (.inr ⟨hneg,hz⟩)]);subst hneg;subst hz;exact gU
 have hz1:neg=Vv->(o==[48])=Vp:=λh=>by rw[beq_eq_false_iff_ne];exactλe=>hz ⟨h,e⟩
 cases hi:is with
 |false=>
  have HR:=Vk (show dP a=Vq (n,[49]) by unfold dP;simp only[];rw[h1,h2,h3,ho,hp];rw[if_neg (λh=>h.elim (λh=>Xq) hz)];rw[if_pos hi]);exact YC
 |true=>
  have hi':¬is=Vp:=by rw[hi];decide
  by_cases hj:jY d=0
  ·
   have HR:=Vk (show dP a=Vo by unfold dP;simp only[];rw[h1,h2,h3,ho,hp];rw[if_neg (λh=>h.elim (λh=>Xq) hz)];rw[if_neg hi'];rw[if_pos (.inl (by unfold pO;simp[hj]))]);have j0:((jY d:Int)==0)=Vv:=by rw[beq_iff_eq];omega
   exact YC
  have j0:((jY d:Int)==0)=Vp:=We;by_cases hm2:jY d<d.length
  ·
   have HR:=Vk (show dP a=Vo by unfold dP;simp only[];rw[h1,h2,h3,ho,hp];rw[if_neg (λh=>h.elim (λh=>Xq) hz)];rw[if_neg hi'];rw[if_pos (.inl (by unfold pO;simp[hj,hm2]))]);have jt:decide (jY d<d.length)=Vv:=Wh;exact YC
  have jt:decide (jY d<d.length)=Vp:=V8;by_cases h48:d=[48]
  ·
   have HR:=Vk (show dP a=Vo by unfold dP;simp only[];rw[h1,h2,h3,ho,hp];rw[if_neg (λh=>h.elim (λh=>Xq) hz)];rw[if_neg hi'];rw[if_pos (.inr (.inl h48))]);subst h48;exact YC
  have h48b:(d==[48])=Vp:=by rw[beq_eq_false_iff_ne];exact h48
  by_cases h49:d=[49]
  ·
   have HR:=Vk (show dP a=Vo by unfold dP;simp only[];rw[h1,h2,h3,ho,hp];rw[if_neg (λh=>h.elim (λh=>Xq) hz)];rw[if_neg hi'];rw[if_pos (.inr (.inr h49))]);clear h48;subst h49;exact YC
  have h49b:(d==[49])=Vp:=by rw[beq_eq_false_iff_ne];exact h49
  have HR:=Vk (show dP a=Vq (n,d) by unfold dP;simp only[];rw[h1,h2,h3,ho,hp];rw[if_neg (λh=>h.elim (λh=>Xq) hz)];rw[if_neg hi'];rw[if_neg (λh=>h.elim (λh=>by rw[gP hj hm2] at h;cases h) (λh=>h.elim h48 h49))]);exact YC
end
end Go.Proofs.YtmliacdegmklaaaGreatDoor
namespace Kp
section
open Go
abbrev By:Type:=List UInt8
structure Ed where
 kind:Int
 index:Int
 sx:Int
 sy:Int
 srise:Int
 srun:Int
 gable:Bool
 splate:Int
 sover:Int
 oside:Int
 oleft:By
 oright:By
 olow:By
 ohigh:By
 zkind:Int
 zwidth:Int
 zdepth:Int
 bwidth:Int
 bdepth:Int
 blength:Int
 bcount:Int
 bcost:Int
 gaps:List (Int×Int)
 lkind:Int
 lside:Int
 lweight:By
 awidth:Int
 adepth:Int
 aspacing:Int
 aload:Int
 aspan:Int
 twidth:Int
 tlength:Int
 tlap:Int
 ttail:Int
 number:Int
 text:By
def dM:Ed:=⟨0,0,0,0,0,0,Vp,0,0,0,[],[],[],[],0,0,0,0,0,0,0,0,[],0,0,[],0,0,0,0,0,0,0,0,0,0,[]⟩
def fN(e:Ed):Ed:=
 if e.kind=1 then{dM with kind:=e.kind,text:=e.text}
 else if e.kind=2 then{dM with kind:=e.kind,index:=e.index,sx:=e.sx,sy:=e.sy,srise:=e.srise,srun:=e.srun,gable:=e.gable,splate:=e.splate,sover:=e.sover}
 else if e.kind=3\/e.kind=12 then{dM with kind:=e.kind,index:=e.index,number:=e.number}
 else if e.kind=4\/e.kind=8 then{dM with kind:=e.kind,number:=e.number}
 else if e.kind=5 then{dM with kind:=e.kind,index:=e.index,oside:=e.oside,oleft:=e.oleft,oright:=e.oright,olow:=e.olow,ohigh:=e.ohigh}
 else if e.kind=6 then{dM with kind:=e.kind,zkind:=e.zkind,zwidth:=e.zwidth,zdepth:=e.zdepth}
 else if e.kind=7 then{dM with kind:=e.kind,index:=e.index,bwidth:=e.bwidth,bdepth:=e.bdepth,blength:=e.blength,bcount:=e.bcount,bcost:=e.bcost,gaps:=e.gaps}
 else if e.kind=9 then{dM with kind:=e.kind,twidth:=e.twidth,tlength:=e.tlength,tlap:=e.tlap,ttail:=e.ttail}
 else if e.kind=10 then{dM with kind:=e.kind,index:=e.index,lkind:=e.lkind,lside:=e.lside,lweight:=e.lweight}
 else if e.kind=11 then{dM with kind:=e.kind,awidth:=e.awidth,adepth:=e.adepth,aspacing:=e.aspacing,aload:=e.aload,aspan:=e.aspan}
 else{dM with kind:=e.kind}
def qJ(bs s:By):By:=if bs=[] then s else bs++32::s
def eD(bs:By)(ws:List By):By:=ws.foldl qJ bs
def FU(bs:By)(w:By)(ws:List By):eD bs (w::ws)=eD (qJ bs w) ws:=rfl
def Jr(bs:By)(a b:List By):eD bs (a++b)=eD (eD bs a) b:=by simp[eD]
def ew:List By:=[[99,111,109,109,111,110],[104,105,112,106,97,99,107],[118,97,108,108,101,121,106,97,99,107],[99,114,105,112,112,108,101],[111,116,104,101,114],[104,105,112],[118,97,108,108,101,121],[114,105,100,103,101],[112,117,114,108,105,110],[112,108,97,116,101],[116,114,105,109,109,101,114],[104,101,97,100,101,114]]
abbrev vB:By:=[110,97,109,101]
abbrev tX:By:=[115,105,100,101]
abbrev kC:By:=[115,112,97,99,105,110,103]
abbrev jd:By:=[112,117,114,108,105,110]
abbrev fP:By:=[111,112,101,110,105,110,103]
abbrev o6:By:=[115,105,122,101]
abbrev wv:By:=[98,97,114]
abbrev pU:By:=[107,101,114,102]
abbrev uW:By:=[116,105,108,101]
abbrev ph:By:=[108,111,97,100]
abbrev pg:By:=[115,112,97,110]
abbrev ig:By:=[114,101,109,111,118,101]
def kindOf(w:By):Int:=
 if w=vB then 1
 else if w=tX then 2
 else if w=kC then 3
 else if w=jd then 4
 else if w=fP then 5
 else if w=o6 then 6
 else if w=wv then 7
 else if w=pU then 8
 else if w=uW then 9
 else if w=ph then 10
 else if w=pg then 11
 else if w=ig then 12
 else 0
def yn(n:Int):Bool:=n==4||n==5||n==6||n==7||n==10||n==11
def zP(n:Int):By:=
 if n=4 then jd
 else if n=5 then fP
 else if n=6 then o6
 else if n=7 then wv
 else if n=10 then ph
 else if n=11 then pg
 else []
def Tj(w:By):Int:=
 if w=jd then 4
 else if w=fP then 5
 else if w=o6 then 6
 else if w=wv then 7
 else if w=ph then 10
 else if w=pg then 11
 else 0
def Te(z:Int):By:=ew.getD (z-1).toNat []
def SK(w:By):Int:=if w∈ew then(ew.idxOf w:Int) else -1
def oW(b:UInt8):Bool:=(decide (97<=b.toNat)&&decide (b.toNat<=122))||(decide (65<=b.toNat)&&decide (b.toNat<=90))||(decide (48<=b.toNat)&&decide (b.toNat<=57))
def pH(s:By):Bool:=s.all oW&& !s.isEmpty&&decide (s.length<=16)
def qB(l:List Int):List By:=l.map Lib.itoa
def Sr(l:List (Int×Int)):List Int:=l.flatMap (λg=>[g.1,g.2])
def U0(b:Bool):Int:=if b then 1 else 0
def iN(e:Ed):List Int:=
 if e.kind=1 then []
 else if e.kind=2 then [e.index,e.sx,e.sy,e.srise,e.srun,e.splate,e.sover,U0 e.gable]
 else if e.kind=3 then [e.index,e.number]
 else if e.kind=4 then [e.number]
 else if e.kind=5 then [e.index,e.oside]
 else if e.kind=6 then [e.zwidth,e.zdepth]
 else if e.kind=7 then [e.index,e.bwidth,e.bdepth,e.blength,e.bcount,e.bcost]++Sr e.gaps
 else if e.kind=8 then [e.number]
 else if e.kind=9 then [e.twidth,e.tlength,e.tlap,e.ttail]
 else if e.kind=10 then [e.index,e.lkind,e.lside]
 else if e.kind=11 then [e.awidth,e.adepth,e.aspacing,e.aload,e.aspan]
 else [e.index]
def numsOf(e:Ed):List By:=
 if e.kind=5 then [e.oleft,e.oright,e.olow,e.ohigh]
 else if e.kind=10 then [e.lweight]
 else []
def qg(e:Ed):List By:=
 if e.kind=1 then [vB,e.text]
 else if e.kind=2 then [tX]
 else if e.kind=3 then [kC]
 else if e.kind=4 then [jd]
 else if e.kind=5 then [fP]
 else if e.kind=6 then [o6,Te e.zkind]
 else if e.kind=7 then [wv]
 else if e.kind=8 then [pU]
 else if e.kind=9 then [uW]
 else if e.kind=10 then [ph]
 else if e.kind=11 then [pg]
 else [ig,zP e.number]
def iY(e:Ed):List By:=qg e++qB (iN e)++numsOf e
def C8(n:Int):Bool:=decide (n< -1073741824)||decide (1073741824<n)
def o8(x:Int)(l:List Int):Int:=if l.any C8 then 2 else x
def UA(chk:By->Int)(x:Int)(l:List By):Int:=l.foldl (λx a=>if x=0 then chk a else x) x
abbrev sH:Type:=List By×Bool
def rW(r:sH):By×sH:=match r.1 with
 |[]=>([],([],Vv))
 |w::t=>(w,(t,r.2))
def nw(w:By):Int×Bool:=match Lib.atoiAll w with
 | .ok v=>(v,Vp)
 | .range=>(Lib.atoiSat w,Vv)
 |_=>(0,Vv)
def rI(r:sH):Int×sH:=((nw (rW r).1).1,((rW r).2.1,(rW r).2.2||(nw (rW r).1).2))
def rG:Nat->sH->List (Int×Int)×sH
 |0,r=>([],r)
 |n+1,r=>match r.1 with
  |[]=>([],r)
  |_::_=>(((rI r).1,(rI (rI r).2).1)::(rG n (rI (rI r).2).2).1,(rG n (rI (rI r).2).2).2)
def wu:Nat->sH->List Int×sH
 |0,r=>([],r)
 |n+1,r=>((rI r).1::(wu n (rI r).2).1,(wu n (rI r).2).2)
def Ui:Nat->sH->List By×sH
 |0,r=>([],r)
 |n+1,r=>((rW r).1::(Ui n (rW r).2).1,(Ui n (rW r).2).2)
def rE(r:sH):Ed×sH:=
 let k:=kindOf (rW r).1
 let r1:=(rW r).2
 let e:Ed:={dM with kind:=k}
 if k=1 then({e with text:=(rW r1).1},(rW r1).2)
 else if k=2 then
  let l:=(wu 8 r1).1
  ({e with index:=l.getD 0 0,sx:=l.getD 1 0,sy:=l.getD 2 0,srise:=l.getD 3 0,srun:=l.getD 4 0,splate:=l.getD 5 0,sover:=l.getD 6 0,gable:=l.getD 7 0==1},(wu 8 r1).2)
 else if k=3 then({e with index:=(wu 2 r1).1.getD 0 0,number:=(wu 2 r1).1.getD 1 0},(wu 2 r1).2)
 else if k=4\/k=8 then({e with number:=(rI r1).1},(rI r1).2)
 else if k=5 then
  let l:=(wu 2 r1).1
  let ws:=(Ui 4 (wu 2 r1).2).1
  ({e with index:=l.getD 0 0,oside:=l.getD 1 0,oleft:=ws.getD 0 [],oright:=ws.getD 1 [],olow:=ws.getD 2 [],ohigh:=ws.getD 3 []},(Ui 4 (wu 2 r1).2).2)
 else if k=6 then
  let l:=(wu 2 (rW r1).2).1
  ({e with zkind:=1+SK (rW r1).1,zwidth:=l.getD 0 0,zdepth:=l.getD 1 0},(wu 2 (rW r1).2).2)
 else if k=7 then
  let l:=(wu 6 r1).1
  let r2:=(wu 6 r1).2
  ({e with index:=l.getD 0 0,bwidth:=l.getD 1 0,bdepth:=l.getD 2 0,blength:=l.getD 3 0,bcount:=l.getD 4 0,bcost:=l.getD 5 0,gaps:=(rG r2.1.length r2).1},(rG r2.1.length r2).2)
 else if k=9 then
  let l:=(wu 4 r1).1
  ({e with twidth:=l.getD 0 0,tlength:=l.getD 1 0,tlap:=l.getD 2 0,ttail:=l.getD 3 0},(wu 4 r1).2)
 else if k=10 then
  let l:=(wu 3 r1).1
  ({e with index:=l.getD 0 0,lkind:=l.getD 1 0,lside:=l.getD 2 0,lweight:=(rW (wu 3 r1).2).1},(rW (wu 3 r1).2).2)
 else if k=11 then
  let l:=(wu 5 r1).1
  ({e with awidth:=l.getD 0 0,adepth:=l.getD 1 0,aspacing:=l.getD 2 0,aload:=l.getD 3 0,aspan:=l.getD 4 0},(wu 5 r1).2)
 else if k=12 then({e with number:=Tj (rW r1).1,index:=(rI (rW r1).2).1},(rI (rW r1).2).2)
 else(e,r1)
end
section
open Go
def ke{i:Nat}(h:i<10):fJ (UInt8.ofNat (48+i))=Vv/\iD (UInt8.ofNat (48+i))=i:=by
 have hh:∀n:Fin 10,fJ (UInt8.ofNat (48+n.1))=Vv/\iD (UInt8.ofNat (48+n.1))=n.1:=WN;exact hh ⟨i,h⟩
def dC(u:Nat):(Lib.decDigits u).all fJ=Vv/\aw (Lib.decDigits u)=u/\Lib.decDigits u≠[]:=by
 induction u using Nat.strongRecOn with
 |_ u ih=>
  rw[Lib.decDigits];split
  ·rename_i h;obtain⟨h1,h2⟩:=ke h;exact⟨by rw[List.all_cons,h1];rfl,by show 0*10+iD _=u;rw[h2];omega,V5⟩
  ·rename_i h;obtain⟨a,b,_⟩:=ih (u/10) VY;obtain⟨h1,h2⟩:=ke (i:=u%10) VY;refine⟨by rw[List.all_append,a,List.all_cons,h1];rfl,?_,V5⟩;rw[uO,b,h2];omega
def Ag(n k:Nat)(hk:1<=k)(h:n<10^k):Lib.nDigits n<=k:=by
 induction k generalizing n with
 |zero=>omega
 |succ k ih=>
  exact Ys
def yd(n:Int):Lib.atoi (Lib.itoa n)=Vq n:=by
 unfold Lib.itoa;split
 ·rename_i h;obtain⟨a,b,c⟩:=dC n.natAbs;simp only[Lib.atoi,beq_self_eq_true,if_true,py a c,b,Option.map_some]
  congr 1;omega
 ·rename_i h;obtain⟨a,b,c⟩:=dC n.toNat;cases hd:Lib.decDigits n.toNat with
  |nil=>exact absurd hd c
  |cons x r=>
   rw[hd] at a b c;have hx:fJ x=Vv:=by simp only[List.all_cons,Bool.and_eq_true] at a;exact a.1
   have h1:(x==45)=Vp:=by rw[beq_eq_false_iff_ne];intro e;subst e;revert hx;decide
   have h2:(x==43)=Vp:=by rw[beq_eq_false_iff_ne];intro e;subst e;revert hx;decide
   simp only[Lib.atoi,h1,h2,Bool.false_eq_true,if_false,py a c,b,Option.map_some]
   congr 1;omega
def KH(a b:List Int):qB (a++b)=qB a++qB b:=by simp[qB]
end
end Kp
namespace Go.Proofs.YtmliacdegmklaaaGreatDoor
section
open Kp
noncomputable def bS(a:List UInt8):Int:=match dP a with
 |none=>11
 |some (n,d)=>
  if bJ a=Vv then 0
  else if 300<(own n).length\/300<d.length then 4
  else if d=[49] then 0
  else if¬(pr n d).2=0\/¬(pr n d).1=[49] then 11
  else 0
def zu(w:Vl)(a:List UInt8)(e:Ending)(w':Vl):Prop:=∃x y:ByteArray,e=VV (VX #[VW #[VR x,VR y],VU VA (bS a)])/\(bS a=0->∃n d,dP a=Vq (n,d)/\x=tx n/\y=tx d)/\VL w.heap.size w w'
def Nl{w W:Vl}{a:Act}{s:List UInt8}{blk:Nat}{x y:ByteArray}{c:Int}(hr:bS s=c)(hX:eN W blk 264 (VR x) (VR y))
  (h2:a.tmps[2]?=Vq (VT (Vq ⟨blk,0,Vo⟩)))(h3:a.tmps[3]?=Vq (VU VA c))(hd:a.defers=[])(hp:c=0->∃n d,dP s=Vq (n,d)/\x=tx n/\y=tx d)(hB:VL w.heap.size w W):
  bodyPost prog Tryz.f231 (zu w s) .ret a W:=by
 have c0:=hX.cell0;have c1:=hX.dX;refine bodyPost_ret (v:= VX #[VW #[VR x,VR y],VU VA c]) ?_ hd ⟨x,y,by rw[hr],by rw[hr];exact hp,hB⟩;simp[results,results231,go_sem,h2,h3,c0,c1]
def qc{a n d:List UInt8}(h:dP a=Vq (n,d)):n.length<=a.length/\d.length<=a.length+1:=by
 have hl:=yM a [47];unfold dP at h;simp only[] at h;split at h
 ·cases h
 split at h
 ·simp only[Option.some.injEq,Prod.mk.injEq] at h;rw[<-h.1,<-h.2];exact⟨hl.1,V5⟩
 split at h
 ·cases h
 ·simp only[Option.some.injEq,Prod.mk.injEq] at h;rw[<-h.1,<-h.2];exact⟨hl.1,VY⟩
def kV{p:Prop}(h:p:=by
 try clear hl
 try clear ho
 try clear h5
 try clear hg
 try clear h6
 try clear hn
 clear hm ht hc;go_enter func231,ntmps231;go_wp2_with(first
  |(go_at_call 258;refine(Ny a _ hs (HM.o.below ((Below.refl _ _).alloc (Vm _) _) (Vm _))).mono ?_;rw[HC.o];rintro e w1 ⟨rfl,hB1⟩;have X1:=Vk ((eN.at_ rfl).below hB1 V5);have c0:=X1.o.cell0;have c1:=X1.o.dX;have f0:=X1.o.frozen 0;have f1:=X1.o.frozen 1;have l1:=X1.o.lt)
  |(go_at_call 259;refine(lG a _ hs).mono ?_;rintro e w2 ⟨nx,ny,rfl,_,hB2⟩;rw[HN.o];have X2:=Vk ((X1.o.alloc _).below hB2 Wa);have Y2:=Vk ((eN.at_ rfl).below hB2 V5);have d0:=X2.o.cell0;have d1:=X2.o.dX;have g0:=X2.o.frozen 0;have g1:=X2.o.frozen 1;have e0:=Y2.o.cell0;have e1:=Y2.o.dX;have l2:=Y2.o.lt;have l3:=X2.o.lt)
  |(go_at_call 243;refine(dD _ _).mono ?_;rintro e w5 ⟨rfl,rfl⟩;rw[HO.o])
  |(go_at_call 260;refine(PU _ _ _ Wd Wd (HT.o.below (B0:=w.heap.size) (by repeat first|with_reducible refine Below.setCell ?_ Wi _|with_reducible refine Below.alloc ?_ Wi _|with_reducible refine iS ?_ Wd Ww|with_reducible exact Below.refl _ _) (Vm _))).mono ?_;rw[HG.o];rintro e w3 ⟨rfl,hB3⟩;have X3:=Vk ((X2.o.alloc _).below hB3 Wa);have Y3:=Vk ((Y2.o.alloc _).below hB3 Wa);have m0:=X3.o.cell0;have m1:=X3.o.dX;have n0:=X3.o.frozen 0;have n1:=X3.o.frozen 1;have o0:=Y3.o.cell0;have o1:=Y3.o.dX))
 first
  |refine Nl (blk:=w.heap.size) (x:=⟨#[]⟩) (y:=⟨#[]⟩) HR.o ?rrX rfl rfl rfl (λh=>absurd h V0) ?rrB
  |refine Nl (blk:=w.heap.size) (x:=tx _) (y:=tx _) HR.o ?rrX rfl rfl rfl (λ_=>⟨_,_,HC.o,rfl,rfl⟩) ?rrB
 case rrX=>repeat first|with_reducible apply eN.mQ|with_reducible apply eN.qe|with_reducible apply eN.dx|with_reducible apply eN.alloc|with_reducible exact X3.o|with_reducible exact X2.o|with_reducible exact X1.o|omega|(simp;done)|(simp;omega)
 case rrB=>repeat first|with_reducible refine Below.setCell ?_ Wi _|with_reducible refine Below.alloc ?_ Wi _|with_reducible refine iS ?_ Wd Ww|with_reducible exact Below.refl _ _):p:=h
set_option maxHeartbeats 40000000 in
def oC(a:List UInt8)(w:Vl)(hs:a.length<=300000)(hm:eO w)(ht:aU w):VC prog 231 #[VR (tx a)] w (zu w a):=by
 have HM:=Vk hm;have HT:=Vk ht;cases hc:dP a with
 |none=>
  replace hs:a.length<=1000000:=VY
  have HR:=Vk (show bS a=11 by unfold bS;rw[hc]);have HC:=Vk hc;exact kV
 |some p=>
  obtain⟨n,d⟩:=p;have hl:=qc hc;have hnl:n.length<=1000000:=VY;have hdl:d.length<=1000000:=VY
  replace hs:a.length<=1000000:=VY
  have HC:=Vk hc;by_cases hn:bJ a=Vv
  ·
   have HR:=Vk (show bS a=0 by unfold bS;rw[hc];simp only[];rw[if_pos hn]);have HN:=Vk hn;exact kV
  have HN:=Vk (show bJ a=Vp by simpa using hn);obtain⟨o,ho⟩:∃o,own n=o:=⟨_,rfl⟩;have HO:=Vk ho;by_cases h3:300<o.length
  ·
   have HR:=Vk (show bS a=4 by unfold bS;rw[hc];simp only[];rw[if_neg hn];rw[ho,if_pos (.inl h3)]);exact kV
  by_cases h4:300<d.length
  ·
   have HR:=Vk (show bS a=4 by unfold bS;rw[hc];simp only[];rw[if_neg hn];rw[ho,if_pos (.inr h4)]);exact kV
  by_cases h5:d=[49]
  ·
   have HR:=Vk (show bS a=0 by unfold bS;rw[hc];simp only[];rw[if_neg hn];rw[ho,if_neg (λh=>h.elim h3 h4)];rw[if_pos h5]);subst h5;exact kV
  have h5b:(d==[49])=Vp:=by rw[beq_eq_false_iff_ne];exact h5
  obtain⟨⟨g,ge⟩,hg⟩:∃p,pr n d=p:=⟨_,rfl⟩;have HG:=Vk hg;by_cases h6:ge=0
  ·by_cases h7:g=[49]
   ·
    have HR:=Vk (show bS a=0 by unfold bS;rw[hc];simp only[];rw[if_neg hn];rw[ho,if_neg (λh=>h.elim h3 h4)];rw[if_neg h5];rw[hg,if_neg (λh=>h.elim (λx=>x h6) (λx=>x h7))]);subst h6;subst h7;exact kV
   ·
    have HR:=Vk (show bS a=11 by unfold bS;rw[hc];simp only[];rw[if_neg hn];rw[ho,if_neg (λh=>h.elim h3 h4)];rw[if_neg h5];rw[hg,if_pos (.inr h7)]);subst h6;have h7b:(g==[49])=Vp:=by rw[beq_eq_false_iff_ne];exact h7
    exact kV
  ·
   have HR:=Vk (show bS a=11 by unfold bS;rw[hc];simp only[];rw[if_neg hn];rw[ho,if_neg (λh=>h.elim h3 h4)];rw[if_neg h5];rw[hg,if_pos (.inl h6)]);have h6b:(ge !=0)=Vv:=by rw[bne_iff_ne];exact h6
   exact kV
def uC(a:List UInt8)(w:Vl)(hs:a.length<=300000)(hm:eO w)(ht:aU w):
  VC prog 183 #[VR (tx a)] w λe w'=>e=VV (VU VA (bS a))/\VL w.heap.size w w':=by
 have hr:=Vk (oC a w hs hm ht);clear hm ht;go_enter func183,ntmps183;go_wp2_with(go_at_call 231;refine hr.o.mono ?_;rintro e w1 ⟨x,y,rfl,_,hB1⟩;have hz1:=hB1.size)
 go_ret;exact⟨rfl,by repeat first|with_reducible refine Below.setCell ?_ Wi _|with_reducible refine Below.alloc ?_ Wi _|with_reducible refine iS ?_ Wd Ww|with_reducible exact Below.refl _ _⟩
end
section
open Kp
def aL(e:Ed)(g:Vr):Array Vr:=#[VU VA e.kind,VU VA e.index,VU VA e.sx,VU VA e.sy,VU VA e.srise,VU VA e.srun,VS e.gable,VU VA e.splate,VU VA e.sover,VU VA e.oside,VR (tx e.oleft),VR (tx e.oright),VR (tx e.olow),VR (tx e.ohigh),VU VA e.zkind,VU VA e.zwidth,VU VA e.zdepth,VU VA e.bwidth,VU VA e.bdepth,VU VA e.blength,VU VA e.bcount,VU VA e.bcost,g,VU VA e.lkind,VU VA e.lside,VR (tx e.lweight),VU VA e.awidth,VU VA e.adepth,VU VA e.aspacing,VU VA e.aload,VU VA e.aspan,VU VA e.twidth,VU VA e.tlength,VU VA e.tlap,VU VA e.ttail,VU VA e.number,VR (tx e.text)]
abbrev df:Vr:= VQ Vo 0 0
def Ng(k:Int):Ed:={dM with kind:=k}
def aS(e:Ed)(g:Vr):(aL e g).size=37:=rfl
attribute [local go_sem] aS
def gO(e:Ed)(g:Vr):(aL e g)[0]?=Vq (VU VA e.kind):=rfl
def ia(e:Ed)(g:Vr):(aL e g)[1]?=Vq (VU VA e.index):=rfl
def kp(e:Ed)(g:Vr):(aL e g)[2]?=Vq (VU VA e.sx):=rfl
def kv(e:Ed)(g:Vr):(aL e g)[3]?=Vq (VU VA e.sy):=rfl
def kE(e:Ed)(g:Vr):(aL e g)[4]?=Vq (VU VA e.srise):=rfl
def km(e:Ed)(g:Vr):(aL e g)[5]?=Vq (VU VA e.srun):=rfl
def kF(e:Ed)(g:Vr):(aL e g)[6]?=Vq (VS e.gable):=rfl
def kL(e:Ed)(g:Vr):(aL e g)[7]?=Vq (VU VA e.splate):=rfl
def kD(e:Ed)(g:Vr):(aL e g)[8]?=Vq (VU VA e.sover):=rfl
def ki(e:Ed)(g:Vr):(aL e g)[9]?=Vq (VU VA e.oside):=rfl
def fZ(e:Ed)(g:Vr):(aL e g)[10]?=Vq (VR (tx e.oleft)):=rfl
def fW(e:Ed)(g:Vr):(aL e g)[11]?=Vq (VR (tx e.oright)):=rfl
def fX(e:Ed)(g:Vr):(aL e g)[12]?=Vq (VR (tx e.olow)):=rfl
def fV(e:Ed)(g:Vr):(aL e g)[13]?=Vq (VR (tx e.ohigh)):=rfl
def gx(e:Ed)(g:Vr):(aL e g)[14]?=Vq (VU VA e.zkind):=rfl
def gy(e:Ed)(g:Vr):(aL e g)[15]?=Vq (VU VA e.zwidth):=rfl
def gw(e:Ed)(g:Vr):(aL e g)[16]?=Vq (VU VA e.zdepth):=rfl
def fD(e:Ed)(g:Vr):(aL e g)[17]?=Vq (VU VA e.bwidth):=rfl
def fu(e:Ed)(g:Vr):(aL e g)[18]?=Vq (VU VA e.bdepth):=rfl
def fG(e:Ed)(g:Vr):(aL e g)[19]?=Vq (VU VA e.blength):=rfl
def fF(e:Ed)(g:Vr):(aL e g)[20]?=Vq (VU VA e.bcount):=rfl
def fL(e:Ed)(g:Vr):(aL e g)[21]?=Vq (VU VA e.bcost):=rfl
def eQ(e:Ed)(g:Vr):(aL e g)[22]?=Vq (g):=rfl
def gm(e:Ed)(g:Vr):(aL e g)[23]?=Vq (VU VA e.lkind):=rfl
def gH(e:Ed)(g:Vr):(aL e g)[24]?=Vq (VU VA e.lside):=rfl
def gz(e:Ed)(g:Vr):(aL e g)[25]?=Vq (VR (tx e.lweight)):=rfl
def gh(e:Ed)(g:Vr):(aL e g)[26]?=Vq (VU VA e.awidth):=rfl
def gB(e:Ed)(g:Vr):(aL e g)[27]?=Vq (VU VA e.adepth):=rfl
def gG(e:Ed)(g:Vr):(aL e g)[28]?=Vq (VU VA e.aspacing):=rfl
def gi(e:Ed)(g:Vr):(aL e g)[29]?=Vq (VU VA e.aload):=rfl
def gE(e:Ed)(g:Vr):(aL e g)[30]?=Vq (VU VA e.aspan):=rfl
def iu(e:Ed)(g:Vr):(aL e g)[31]?=Vq (VU VA e.twidth):=rfl
def gY(e:Ed)(g:Vr):(aL e g)[32]?=Vq (VU VA e.tlength):=rfl
def gX(e:Ed)(g:Vr):(aL e g)[33]?=Vq (VU VA e.tlap):=rfl
def iv(e:Ed)(g:Vr):(aL e g)[34]?=Vq (VU VA e.ttail):=rfl
def eV(e:Ed)(g:Vr):(aL e g)[35]?=Vq (VU VA e.number):=rfl
def gj(e:Ed)(g:Vr):(aL e g)[36]?=Vq (VR (tx e.text)):=rfl
attribute [local go_sem] gO ia kp kv kE km kF kL kD ki fZ fW fX fV gx gy gw fD fu fG fF fL eQ gm gH gz gh gB gG gi gE iu gY gX iv eV gj
def fg{w:Vl}(c:Array Vr)(t:VK)(n:Nat)(cs:Array Vr)(hn:n=w.heap.size):(w.alloc (.cells c t)).setRow n cs=w.alloc (.cells cs t):=by
 subst hn;unfold World.setRow Vl.alloc
 congr 1
 apply Array.ext_getElem?;intro k;simp only[Array.getElem?_modify,Array.getElem?_push];by_cases hk:k=w.heap.size
 ·subst hk;simp
 ·simp[hk,Ne.symm hk]
def kX{w:Vl}(o:Obj)(n:Nat)(cs:Array Vr)(hn:n<w.heap.size):(w.alloc o).setRow n cs=(w.setRow n cs).alloc o:=by
 unfold World.setRow Vl.alloc
 congr 1
 apply Array.ext_getElem?;intro k;simp only[Array.getElem?_modify,Array.getElem?_push,Array.size_modify];by_cases hk:k=w.heap.size
 ·subst hk;simp[Nat.ne_of_lt hn]
 ·simp[hk]
def kW(w:Vl)(n:Nat)(cs:Array Vr):w.drew.setRow n cs=(w.setRow n cs).drew:=rfl
def jZ(w:Vl)(k n:Nat)(cs:Array Vr):(w.drewN k).setRow n cs=(w.setRow n cs).drewN k:=rfl
attribute [local go_sem] fg kX kW jZ
def setRow_heap{w:Vl}{n:Nat}{t:VK}{old:Array Vr}(h:w.heap[n]?=Vq (.cells old t (0,0)))(cs:Array Vr):(w.setRow n cs).heap[n]?=Vq (.cells cs t (0,0)):=by
 simp[World.setRow,Array.getElem?_modify,h]
def af{B n:Nat}{w W:Vl}(h:VL B w W)(hn:B<=n)(cs:Array Vr):VL B w (W.setRow n cs):=
 h.trans ⟨rfl,rfl,rfl,by simp[World.setRow],λk hk=>by simp only[World.setRow,Array.getElem?_modify];rw[if_neg VY]⟩
def lD(w:Vl)(a b:Obj):((w.alloc a).alloc b).heap[w.heap.size]?=Vq a:=by
 rw[heap_alloc_old _ _ V5,heap_alloc_new]
def qG(w:Vl)(a b c:Obj):(((w.alloc a).alloc b).alloc c).heap[w.heap.size]?=Vq a:=by
 rw[heap_alloc_old _ _ Wa,lD]
def DG(w:Vl)(a b c:Obj):(((w.alloc a).alloc b).alloc c).heap[w.heap.size+1]?=Vq b:=by
 rw[heap_alloc_old _ _ V5];have:=heap_alloc_new (w.alloc a) b;exact Ya
def xn(w:Vl)(a b c:Obj):(((w.alloc a).alloc b).alloc c).heap[w.heap.size+1+1]?=Vq c:=by
 have:=heap_alloc_new ((w.alloc a).alloc b) c;exact Ya
def Cq(w:Vl)(a b c:Obj):(((w.alloc a).alloc b).alloc c).drew.heap[w.heap.size+1]?=Vq b:=DG w a b c
def zy(w:Vl)(a b c:Obj):(((w.alloc a).alloc b).alloc c).drew.heap[w.heap.size+1+1]?=Vq c:=xn w a b c
end
end Go.Proofs.YtmliacdegmklaaaGreatDoor
