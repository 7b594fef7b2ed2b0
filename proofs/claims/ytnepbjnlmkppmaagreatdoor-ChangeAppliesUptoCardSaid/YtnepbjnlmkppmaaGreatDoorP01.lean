/- ChangeApplies of kingpostlaw58: part 1 of its proof (merged and shortened by program). -/
import Derived.WalkKit
import Derived.WalkSpells
import Derived.WalkLawsBesides
import Derived.Lib.Hide
import Derived.Deep.QuietTactic
import Derived.BigQuiet
import Derived.OwnWalk
import Derived.RangeFuncNested
import Derived.RangeFuncBound
import Derived.RangeFuncCalls
import Derived.RangeFuncLeaves
import Derived.Shelf.Abstract
import Derived.OwnWalkIn
import Derived.TacticsInMore
import Derived.LoopNIn
import Derived.LoopIn
import Derived.StillTailTactics
import Derived.OrdersIn
import Derived.BigRegionIn
import Derived.Deep.RegionWith
import Derived.Lib.SlTrimSet
import Derived.Lib.ItoaNum
import Derived.Lib.AtoiAll
import Derived.Lib.Strings
import Derived.Lib.Atoi
import Derived.Lib.AtoiTie
import Derived.Shelf.Strings.SlTrimAscii
import Derived.Lib.AtoiErrMem
import Derived.WideLaws
import Derived.Lib.OthersKept
import Derived.Lib.OwnKind
import Derived.Lib.BufferKept
import Derived.Maps.AppendAt
import Derived.Lib.Split
import Derived.Lib.SplitLaws
import Derived.Lib.AtoiAllCases
import Derived.Laws.AppendOwn
import Derived.Test.YtnepbjnlmkppmaaGreatDoorP00
set_option linter.unusedVariables false
set_option linter.unusedSimpArgs false
set_option linter.defProp false
set_option maxHeartbeats 8000000
set_option maxRecDepth 100000
open Go.RowKit Go.Shelf Go.Proofs.Tryz
open Array renaming getElem?_eq_some_iff→XV
open Bool renaming false→O,true→Y
open Decidable renaming decide→YG
open Go renaming World→U,undef→M,Value→Z,wpOp_step→XR,Calls→XY,TypeId→Yj,maxLen→Yk,Addr→Ym
open Go.AllReady renaming cons→Yi,nil→Yo
open Go.Ending renaming returned→YC
open Go.IntKind renaming i64→F
open Go.IntWalk renaming i64_in→Yh
open Go.Lib renaming hid→A
open Go.Proofs.Tryz renaming prog→Xz,underlying34→XA,underlying50→XB
open Go.RowKit renaming intOf→Yf,Below→Yl
open Go.Value renaming slice→V,string→Yy,bool→Yz,pointer→YA,int→G,agg→YE,tuple→YF
open Go.World renaming alloc_heap_new→XZ,size_alloc→Ya
open List renaming getD_eq_getElem?_getD→XJ,getElem?_eq_getElem→XO,length_map→XP,length_append→Yc,length→ln
open Nat renaming le_refl→XE,mul_comm→Yd,le_trans→Ye
open Option renaming none→I,some→L
namespace Go.Proofs.YtnepbjnlmkppmaaGreatDoor
theorem _root_.Go.RowKit.Hid.o{p:Prop}(h:Go.RowKit.Hid p):p:=h
section
variable{p:Prop}
def H:=@rfl
theorem gz{b:Sort _}(a:b):∃x,x=a:=⟨a,rfl⟩
theorem aa{b:Sort _}(a:b):∃x,a=x:=⟨a,rfl⟩
theorem D(h:p:=by omega):p:=h
theorem R(h:p:=by kernel_rfl):p:=h
theorem YK(h:p:=by decide):p:=h
theorem YL(h:p:=by simp):p:=h
theorem YM(h:p:=by cases h):p:=h
theorem YN(h:p:=by rw[hk];rfl):p:=h
theorem YO(h:p:=by simp[Yf];omega):p:=h
theorem YP(h:p:=by simp;omega):p:=h
theorem YQ(h:p:=by rw[HR.o];rfl):p:=h
theorem YR(h:p:=by unfold Yk;omega):p:=h
theorem YS(h:p:=by rw[XN];intro e;exact b (UInt8.toNat.inj (by show c0.toNat=45;exact Int.ofNat.inj e))):p:=h
theorem YT(h:p:=by assumption):p:=h
theorem YU(h:p:=by rw[XL];omega):p:=h
theorem YV(h:p:=by first|with_reducible exact zi _ _ _ _|with_reducible exact Cp _ _ _ _|with_reducible exact AJ _ _ _ _|with_reducible exact Ei _ _ _ _):p:=h
theorem YW(h:p:=by first|omega|(simp;done)|(simp;omega)):p:=h
theorem YX(h:p:=by unfold dj;rw[h];rfl):p:=h
theorem YY(h:p:=by unfold bP;rw[h];rfl):p:=h
theorem YZ(h:p:=by have:=c.nums;rw[g.o] at this;exact this):p:=h
theorem Y1(h:p:=by rw[Addr.add_lit,Nat.zero_add,(ai.new wr 3 [G F (x:Int)]).cell];exact hj):p:=h
theorem Y4(h:p:=by rw[XN];omega):p:=h
theorem Y5(h:p:=by have:=c.ints;rw[j.o] at this;exact this):p:=h
theorem Y6(h:p:=by rw[g.o];rfl):p:=h
theorem Y7(h:p:=by simp; omega):p:=h
theorem Y8(h:p:=by simp[MapKept.IsKey]):p:=h
theorem Y9(h:p:=by have:=z.o y;rwa[show e.index.toNat=i by omega] at this):p:=h
theorem Za(h:p:=by decide +kernel):p:=h
theorem Zb(h:p:=by rfl):p:=h
theorem Zc(h:p:=by have:=iC a;simp at this c;omega):p:=h
theorem Zd(h:p:=by rw[getD_replicate_false] at a;cases a):p:=h
theorem Ze(h:p:=by rw[<-o];exact(XI _ _).alloc (XE _) _):p:=h
theorem Zf(h:p:=by rw[f.o];rfl):p:=h
theorem Zg(h:p:=by first|omega|(simp;done)|(simp[World.setCell];omega)):p:=h
theorem Zh(h:p:=by show c0.toNat=45;exact Int.ofNat.inj e):p:=h
theorem Zi(h:p:=by rw[<-k,bI (λr hr=>b r (List.mem_of_mem_drop hr)),List.length_drop,c]):p:=h
theorem Zj(h:p:=by simp only[Nat.min_def];split <;>omega):p:=h
theorem Zk(h:p:=by simpa using h):p:=h
theorem Zl(h:p:=by rw[o];rfl):p:=h
theorem Zm(h:p:=by have:=J.o;omega):p:=h
theorem Zn(h:p:=by rw[r.o];rfl):p:=h
theorem Zo(h:p:=by rw[XX];omega):p:=h
theorem Zp(h:p:=by first|exact Ext.ah _|exact dM _ _):p:=h
theorem Zq(h:p:=by first|exact r.o|exact below_drewN r.o _|exact XI _ _):p:=h
theorem Zr(h:p:=by simp[ByteArray.size]):p:=h
theorem Zs(h:p:=by have:=m.o.lt;omega):p:=h
theorem Zt(h:p:=by simp[Act.eval,Act.put]):p:=h
theorem Zu(h:p:=by first|rfl|(simp only[World.drewN_drewN];rfl)):p:=h
theorem Zv(h:p:=by rw[<-o];exact EC.new w _):p:=h
theorem Zw(h:p:=by simp [Yf]; omega):p:=h
theorem Zx(h:p:=by first|exact dM _ _|exact Ext.ah _):p:=h
theorem Zy(h:p:=by simp[ByteArray.getElem_eq_getElem_data]):p:=h
theorem Zz(h:p:=by decide+kernel):p:=h
theorem ZA(h:p:=by rw[pC,Yc,List.length_singleton,show((j:Int)-6).toNat=b by omega];exact Ip X.o (Oc hb an.o)):p:=h
theorem ZB(h:p:=by rw[af];omega):p:=h
theorem ZC(h:p:=by rw[a.size];omega):p:=h
theorem ZD(h:p:=by simp[Value.oneCell']):p:=h
theorem ZE(h:p:=by rw[bI (q8 b hx i),mP rows i x (by omega),c]):p:=h
theorem ZF(h:p:=by simpa using hi):p:=h
theorem ZG(h:p:=by rw[HF.o];rfl):p:=h
theorem ZH(h:p:=by first | assumption | simp_all):p:=h
theorem ZI(h:p:=by injection e with e;injection e with e1 e2;exact⟨e1,e2⟩):p:=h
theorem ZJ(h:p:=by simp at t;omega):p:=h
theorem ZK(h:p:=by rw[o.o.1,o.o.2];exact t):p:=h
theorem ZL(h:p:=by rw[<-P.o,o.o];unfold uL;rw[List.map_append];rfl):p:=h
theorem ZM(h:p:=by unfold cj;rw[XT (by omega)]):p:=h
theorem ZN(h:p:=by unfold cj;rw[XQ (by omega)]):p:=h
theorem ZO(h:p:=by simp only[List.size_toArray,hx,d];omega):p:=h
theorem ZP(h:p:=by rw[XP];exact q):p:=h
theorem ZQ(h:p:=by rw[Array.length_toList];exact h):p:=h
theorem ZR(h:p:=by obtain⟨_,_,_,h2,h3,_⟩:=d;unfold Yk at h3;omega):p:=h
theorem ZS(h:p:=by rw[iX hk q] at h;cases h):p:=h
theorem ZT(h:p:=by first|omega|(simp;omega)):p:=h
theorem ZU(h:p:=by rw[<-List.flatten_append,List.take_append_drop]):p:=h
theorem ZV(h:p:=by rw[af] at g;exact g):p:=h
theorem ZW(h:p:=by intro u hu;simp at hu;subst hu;rfl):p:=h
theorem ZX(h:p:=by have:=L.o;have:=P.o;omega):p:=h
theorem ZY(h:p:=by have:=ab _ h;simp at this;omega):p:=h
theorem ZZ(h:p:=by rw[Yn];omega):p:=h
theorem Z4(h:p:=by rw[e];rfl):p:=h
theorem Z6(h:p:=by rw[XP];exact hi):p:=h
theorem Z7(h:p:=by rw[XL];exact h1):p:=h
theorem Z8(h:p:=by rw[E];omega):p:=h
theorem Z9(h:p:=by first|rfl|trivial):p:=h
theorem a0a(h:p:=by simpa using r):p:=h
theorem a0b(h:p:=by rw[XP];exact r):p:=h
theorem a0c(h:p:=by rw[XL];exact h2):p:=h
theorem a0d(h:p:=by simp_all):p:=h
def XI:=@Below.refl
def XL:=@decide_eq_false_iff_not
def XN:=@beq_eq_false_iff_ne
def XQ:=@if_neg
def XT:=@if_pos
def XU:=@decide_eq_false
def XX:=@decide_eq_true_eq
def Yb:=@decide_eq_true
def Yg:=@beq_iff_eq
def Yn:=@bne_iff_ne
def Yp:=@of_decide_eq_false
def Yq:=@of_decide_eq_true
def Yr:=@if_true
def Ys:=@decide_eq_decide
def Yt:=@beq_self_eq_true
def Yu:=@if_false
def Yv:=@congrArg
def Yw:=@Lib.OthersKept.refl
theorem a0e(h:p:=by
 unfold C
 rw[XJ]
 rcases Nat.lt_or_ge k (ln l) with hk|hk
 ·rw[XO hk];exact h _ (List.getElem_mem hk)
 ·rw[List.getElem?_eq_none hk];decide):p:=h
theorem a0f(h:p:=by
 by_cases hd:d=0
 ·subst hd;rw[fo];exact a h.Bm
 ·rw[jR hd];exact⟨h,yx hd⟩):p:=h
theorem a0g(h:p:=by
 obtain⟨ab,ac,rfl,h1,h2,hc⟩:=h
 refine⟨ab,ac,H,h1,h2,λhn=> ?_⟩
 obtain⟨b,off,e,hb,hcell⟩:=hc hn
 exact⟨b,off,e,D,hcell⟩):p:=h
theorem a0h(h:p:=by
 go_wp2
 go_ret
 exact⟨H,H⟩):p:=h
theorem a0i(h:p:=by
 have g:((C l k:Int)==0)=O:=Y4
 have f:=A a
 clear a c
 go_wp2
 go_ret
 exact⟨by rw[yJ D f.o d.o];rfl,rfl⟩):p:=h
theorem a0j(h:p:=by
 go_wp2
 go_ret
 exact⟨by have:=d.o;simp[o9] at this;rw[this];rfl,rfl⟩):p:=h
theorem a0k(h:p:=by
 unfold C
 simp only[XJ,List.getElem?_set]
 by_cases h:j=k
 ·subst h;simp[a]
 ·simp[h,Ne.symm h]):p:=h
theorem a0l(h:p:=by
 simp only[List.length_set] at hk
 rw[jq b,Array.getElem?_setIfInBounds]
 by_cases hkj:j=k
 ·subst hkj;simp[h1];omega
 ·rw[XQ hkj,XQ (Ne.symm hkj)];exact a k hk):p:=h
theorem a0m(h:p:=by
 have h':=h
 obtain⟨cur,hh,h1,h2,h3,hc⟩:=h
 exact⟨_,ac,H,h2,h3,λ_=>⟨g,0,rfl,a,λj hj=>by rw[Nat.zero_add];exact h'.cell hj⟩⟩):p:=h
theorem a0n(h:p:=by
 intro d hd
 rcases List.mem_or_eq_of_mem_set hd with h1|h1
 ·exact h d h1
 ·rw[h1];exact hx):p:=h
theorem a0o(h:p:=by
 have:sh (C u) j k=C a (j+k):=(b _ D).symm
 rw[this];exact e):p:=h
theorem a0p(h:p:=by
 go_wp2_with fail
 rw[E1.o]
 go_ret
 exact⟨q-1,_,H,J.o.1,D,Zu⟩):p:=h
theorem a0q(h:p:=by
 go_wp2_with fail
 rw[E1.o]
 exact⟨⟨q-1,r+v1,_,H,by go_num,⟨J.o.2,J.o.1,D,c⟩,Zu⟩,YO⟩):p:=h
theorem a0r(h:p:=by
 simpa using this):p:=h
theorem a0s(h:p:=by
 have i:=run_endLoop (P:=P) b (by rw[f];simp)
 exact⟨L c,_,by rw[i,f],ae _ c k _ (XE _) hk (A _ _ _ _ hi (aI.putObj _ b rfl D)) ((World.putObj_heap_other D).trans u)⟩):p:=h
theorem a0t(h:p:=by
 have i:=run_endLoop (P:=P) b (by rw[f];simp)
 exact⟨I,_,by rw[i,f],Y _ _ (XE _) (z _ _ _ hi (aI.putObj _ b rfl D)) ((World.putObj_heap_other D).trans u)⟩):p:=h
theorem a0u(h:p:=by
 obtain⟨j,hi3⟩:=s
 obtain⟨m,i,hs,hl4,hd4⟩:=E (L (.goto t)) d j
 exact⟨_,_,i,.inr ⟨H,.goto t,A _ _ _ _ hi3 hs,hl4,hd4⟩⟩):p:=h
theorem a0v(h:p:=by
 obtain⟨j,hi3⟩:=s
 obtain⟨m,i,hs,hl4,hd4⟩:=E (L (.exit O)) d j
 exact⟨_,_,i,.inr ⟨H,.exit O,A _ _ _ _ hi3 hs,hl4,hd4⟩⟩):p:=h
theorem a0w(h:p:=by
 obtain⟨j,hi3⟩:=s
 obtain⟨m,i,hs,hl4,hd4⟩:=E (L .ret) d j
 exact⟨_,_,i,.inr ⟨H,.ret,A _ _ _ _ hi3 hs,hl4,hd4⟩⟩):p:=h
theorem a0x(h:p:=by
 obtain⟨j,hi3⟩:=s
 obtain⟨m,i,hs,hl4,hd4⟩:=E I d j
 exact⟨_,_,i,.inl ⟨H,z _ _ _ hi3 hs,hl4,hd4⟩⟩):p:=h
theorem a0y(h:p:=by
 have:=XZ (w.alloc (.deferred (L []))) (.loop (R .ready I))
 rwa[Ya,y] at this):p:=h
theorem a0z(h:p:=by
 gi_wp2
 go_end0
 exact⟨⟨_,H⟩,.inl d⟩):p:=h
theorem a0A(h:p:=by
 constructor <;>constructor <;>intro _<;>omega):p:=h
theorem a0B(h:p:=by
 refine wpAny_ready (rs:=[9]) R YL ?_
 refine Yi H (λf b=> ?_) ?_
 ·go_simp
  refine b _ _ ?_
  clear b f
  refine wpAny_ready (rs:=[10]) R YL ?_
  refine Yi H (λf b=> ?_) ?_
  ·go_simp
   refine b _ _ ?_
   clear b f
   refine wpAny_done R ?_ _
   gi_wp2
   exact lK E.o
  exact Yo
 exact Yo):p:=h
theorem a0C(h:p:=by
 refine wpAny_ready (rs:=[10]) R YL ?_
 refine Yi H (λf b=> ?_) ?_
 ·go_simp
  refine b _ _ ?_
  clear b f
  refine wpAny_done R ?_ _
  gi_wp2
  exact lK E.o
 exact Yo):p:=h
theorem a0D(h:p:=by
 gi_wp2
 refine⟨λh=>YM,C.mono ?_⟩
 rintro e W3 (⟨rfl,hJ3⟩|⟨rfl,hJx3⟩)
 ·gi_wp2
  go_roundw
  case rel=>exact⟨k+1,D,YL,hJ3⟩
  case measure=>simp[Yf];omega
 ·gi_wp2
  refine bodyPost_ret (results_none H _ _ _) H ?_
  exact⟨⟨_,H⟩,.inr ⟨k,g,hJx3⟩⟩):p:=h
theorem a0E(h:p:=by
 refine wpAny_ready (rs:=[11]) R YL ?_
 refine Yi H (λb a=> ?_) ?_
 ·go_simp
  refine a _ _ ?_
  clear a b
  refine wpAny_done R ?_ _
  gi_wp2
  exact oA E.o
 exact Yo):p:=h
theorem a0F(h:p:=by
 rw[hu]
 calc 10^(k%9)<=10^8:=Nat.pow_le_pow_right YK D
  _=100000000:=rfl):p:=h
theorem a0G(h:p:=by
 refine wpAny_ready (rs:=[11]) R YL ?_
 refine Yi H (λb a=> ?_) ?_
 ·go_simp
  refine a _ _ ?_
  clear a b
  refine wpAny_done R ?_ _
  gi_wp2
  exact xb af.o E.o
 exact Yo):p:=h
theorem a0H(h:p:=by
 clear h
 go_enter func291,ntmps291
 go_wp2
 exact bodyPost_ret (v:= YF #[G F 0,G F 0,Yz O]) (by simp[results,results291,go_sem]) H ⟨H,XI _ _⟩):p:=h
theorem a0I(h:p:=by
 rcases f.2 with⟨hv,_⟩|⟨g,ac,cur,hv,_⟩
 ·exact⟨_,_,_,hv⟩
 ·exact⟨_,_,_,hv⟩):p:=h
theorem a0J(h:p:=by
 by_cases h10:n<10
 ·rw[Lib.nDigits_small h10];omega
 ·rw[Lib.nDigits,dif_neg h10]
  have:n/10<10^k:=by rw[Nat.div_lt_iff_lt_mul YK];rw[Nat.pow_succ] at h;exact h
  have hk1:1<=k:=by
   rcases Nat.eq_zero_or_pos k with h0|h0
   ·subst h0;simp at this;omega
   ·exact h0
  have:=a (n/10) hk1 this
  omega):p:=h
theorem a0K(h:p:=by
 have hci:=A (kg (C l (ln l-1-k)) P D D (HT.o.below m.low (XE _)))
 have f:=A m
 clear m
 obtain⟨n,hn⟩:=aa (C l (ln l-1-k))
 rw[hn] at hci B M⊢
 have HN:=A hn
 clear hn
 by_cases hk0:k=0
 ·subst hk0
  have z:YG (((ln l-1-0:Nat):Int)<(ln l:Int)-1)=O:=YU
  gi_wp2_with(refine⟨trivial,?_⟩;first|(gi_at_call 170;refine(CallsIn.inRound g (callsIn_wide.2 hci.o)).mono ?_;rintro e W3 ⟨rfl,hB3⟩;have H3:=A (f.o.stays (aI.aY hB3 (XE _)) u);have c3:=H3.o.x.fJ)|(gi_at_call 169;skip))
  have h3:=H3.o
  obtain⟨p,i,hb3⟩:=h3.bd
  have hsz3:=h3.low.size
  refine(CallsIn.inRound g (callsIn_wide.2 (ke w.heap.size (w.heap.size+1) _ p [] _ (tx (Lib.itoa (n:Int))) W3 hb3 i nJ (by rw[Lib.byteCells_length,Yc,af];omega) hsz3))).mono ?_
  rintro e W6 ⟨rfl,hb6,hk6⟩
  clear h3 i hb3
  gi_wp2
  refine uB f.o ((aA.aY hB3 u).trans hk6) ?_
  have e1:mK l (0+1)=mK l 0++Lib.itoa n:=by
   show mK l 0++qp Y _=_
   rw[HN.o];rfl
  rw[e1,<-List.append_assoc,dz]
  exact hb6
 ·have z:YG (((ln l-1-k:Nat):Int)<(ln l:Int)-1)=Y:=Zo
  obtain⟨c,hc⟩:=aa (9-(Lib.itoa (n:Int)).length:Nat)
  have hcI:(9:Int)-((Lib.itoa (n:Int)).length:Int)=(c:Int):=D
  have hc9:c<=9:=D
  have HC:=A hc
  clear hc
  gi_wp2_with(refine⟨trivial,?_⟩;first|(gi_at_call 170;refine(CallsIn.inRound g (callsIn_wide.2 hci.o)).mono ?_;rintro e W3 ⟨rfl,hB3⟩;have H3:=A (f.o.stays (aI.aY hB3 (XE _)) u);have c3:=H3.o.x.fJ)|(gi_at_call 337;refine(CallsIn.inRound g (callsIn_wide.2 (strings_Repeat ⟨#[48]⟩ c _ D (by show 1*c<=_;omega)))).mono ?_;rintro e W4 ⟨rfl,hB4⟩)|(gi_at_call 169;skip))
  have h3:=H3.o
  have h4:=h3.stays (aI.aY hB4 (XE _)) h3.low.size
  have k4:=(aA.aY (b:=w.heap.size+1) hB3 u).trans (aA.aY hB4 h3.low.size)
  obtain⟨p,i,hb4⟩:=h4.bd
  have hsz4:=h4.low.size
  refine(CallsIn.inRound g (callsIn_wide.2 (ke w.heap.size (w.heap.size+1) _ p [] _ (tx (Lib.repeatL [48] c)) W4 hb4 i nJ (by rw[Lib.byteCells_length,Yc,af,jH];omega) hsz4))).mono ?_
  rintro e W5 ⟨rfl,hb5,hk5⟩
  have HK5:=A (k4.trans hk5)
  have hsz5:=(h4.low.trans hk5.low).size
  clear h3 h4 i hb4 k4 hk5
  gi_wp2_with(refine⟨trivial,?_⟩;gi_at_call 169;skip)
  refine(CallsIn.inRound g (callsIn_wide.2 (ke w.heap.size (w.heap.size+1) _ _ [] _ (tx (Lib.itoa (n:Int))) W5 hb5 (.inr H) nJ (by rw[Yc,Lib.byteCells_length,Yc,Lib.strCells_length,af,af,jH];omega) hsz5))).mono ?_
  rintro e W6 ⟨rfl,hb6,hk6⟩
  gi_wp2
  refine uB f.o (HK5.o.trans hk6) ?_
  have e1:mK l (k+1)=mK l k++Lib.repeatL [48] c++Lib.itoa n:=by
   show mK l k++qp (k==0) _=_
   have e0:(k==0)=O:=by simpa using hk0
   rw[HN.o,e0,List.append_assoc,<-HC.o];rfl
  rw[e1,<-List.append_assoc,<-List.append_assoc,dz,dz]
  exact hb6):p:=h
theorem a0L(h:p:=by
 have e:C (m++[d]) ((m++[d]).length-1)=d:=by unfold C;simp
 rw[e];omega):p:=h
theorem a0M(h:p:=by
 go_enter func294,ntmps294
 go_wp2_with(first|(go_at_call 323;refine m.o.mono ?_;rintro e w1 ⟨rfl,hB1⟩)|(go_at_call 248;refine(eG _ _).mono ?_;rintro e w2 ⟨rfl,rfl⟩))
 go_ret2
 rw[i.o]
 exact⟨H,g.o.trans (hB1.mono g.o.size)⟩):p:=h
theorem a0N(h:p:=by
  have hw4 : k < ln s := by rw [af] at l; exact l
  go_wp2
  all_goals first
    | (have b : k = 0 \/ 8 < k \/ (1 < k /\ s.head? = L 48) := by
         first
           | omega
           | (rename_i h; simp only [Yg] at h; omega)
           | (rename_i h; rcases h with (h | h) | h
              · simp only [Yg] at h; omega
              · omega
              · exact .inr (.inr ⟨D, nB Zk⟩))
           | (rename_i h _; rcases h with (h | h) | h
              · simp only [Yg] at h; omega
              · omega
              · exact .inr (.inr ⟨D, nB Zk⟩))
           | (rename_i h _ _; simp only [Yg] at h; omega)
           | (rename_i h _; simp only [Yg] at h; omega)
           | (rename_i h _ _ _; simp only [Yg] at h; omega)
           | (rename_i h _ _ _ _; simp only [Yg] at h; omega)
       exact bodyPost_ret (v := oe s) (by rw [pz f.o b]; simp [results, results288, go_sem]) H ⟨H, XI _ _⟩)
    | (have b : ¬ (k = 0 \/ 8 < k \/ (1 < k /\ s.head? = L 48)) := by
         first
           | omega
           | (rename_i h _ _; have j := uC (s := s) (by simpa using h.2); rintro (h1 | h1 | ⟨_, h1⟩) <;> first | omega | exact j h1)
       go_quiet (fail)
       go_wp2
       exact bodyPost_ret (v := oe s) (by rw [pd f.o b]; simp [lQ, results, results288, go_sem]) H ⟨H, below_drewN (XI _ _) _⟩)):p:=h
theorem a0O(h:p:=by
  simp only [Yg] at h; omega):p:=h
theorem a0P(h:p:=by
 have h45:((((tx (c0::r))[0]'Zr).toNat:Int)==45)=O:=YS
 clear c d a b
 exact dE):p:=h
theorem a0Q(h:p:=by
 have h45:((((tx (c0::r))[0]'Zr).toNat:Int)==45)=O:=YS
 clear k l a j b
 exact dE):p:=h
theorem a0R(h:p:=by
 have h45:((((tx (c0::r))[0]'Zr).toNat:Int)==45)=O:=YS
 clear k m a q l j b
 exact dE):p:=h
theorem a0S(h:p:=by
 rcases y with B|⟨g,t⟩|⟨g,t⟩
 ·go_wp2
  go_ret
  exact⟨cU (by rw[HR.o]),H⟩
 ·have o:k<ln s:=ZV
  go_wp2
  go_ret
  exact⟨cU (by rw[HR.o]),H⟩
 ·have o:k<ln s:=ZV
  go_wp2
  go_ret
  exact⟨cU (by rw[HR.o]),H⟩):p:=h
theorem a0T(h:p:=by
 subst hi
 cases neg
 all_goals
  try have t:=t rfl
  exact jm):p:=h
theorem a0U(h:p:=by
 obtain⟨p,hp,hB,v,hb,hown,hne⟩:=h
 exact⟨p,hp,hB,v,by simp[World.setCell,Array.getElem?_modify,hb],uG hown hne _,hne⟩):p:=h
theorem a0V(h:p:=by
 have e:l.take k=l:=List.take_of_length_le D
 rw[e] at d
 have q:=A d
 have hlt':YG ((k:Int)<(ln l:Int))=O:=YU
 clear d
 go_wp2
 go_end0
 exact⟨H,q.o,f⟩):p:=h
theorem a0W(h:p:=by
 go_wp2_with(first|(go_at_call 170;refine v.o.mono ?_;rintro e W1 ⟨rfl,g⟩;have ae:=g.size)|(go_at_call 96;refine(bV B b 2 num _ (Lib.itoa n) W1 (q.o.below g) D D).mono ?_;rintro e W2 ⟨rfl,t,y⟩))
 refine⟨J.o _ ((Q.o.trans (aA.aY g D)).trans y) ZK,YO⟩):p:=h
theorem a0X(h:p:=by
 obtain⟨k,hk,rfl,hall⟩:=hrel
 by_cases hlt:k<ln s
 ·have hb:k<(tx s).size:=by rw[af];exact hlt
  have hx:(tx s)[k]'hb=s[k]:=rfl
  cases hn:qk s[k] with
  |true=>
   have hnx:If s (G F ((k:Int)+1)):=⟨k+1,D,YL,by rw[List.take_succ_eq_append_getElem hlt,List.all_append,hall];simp[hn]⟩
   have HNX:=A hnx
   have hr:(97<=(((tx s)[k]'hb).toNat:Int)/\(((tx s)[k]'hb).toNat:Int)<=122)\/(65<=(((tx s)[k]'hb).toNat:Int)/\(((tx s)[k]'hb).toNat:Int)<=90)\/(48<=(((tx s)[k]'hb).toNat:Int)/\(((tx s)[k]'hb).toNat:Int)<=57):=by
    rw[hx]
    unfold qk at hn
    simp only[Bool.or_eq_true,Bool.and_eq_true,XX] at hn
    omega
   clear hnx hn hall hx
   rcases hr with⟨h1,h2⟩|⟨h1,h2⟩|⟨h1,h2⟩
   ·go_wp2
    all_goals first
     |exact⟨HNX.o,YO⟩
     |(exfalso;omega)
   ·go_wp2
    all_goals first
     |exact⟨HNX.o,YO⟩
     |(exfalso;omega)
   ·go_wp2
    all_goals first
     |exact⟨HNX.o,YO⟩
     |(exfalso;omega)
  |false=>
   have HR:=A (show kH s=O by
    unfold kH
    have:s.all qk=O:=by
     rw[Bool.eq_false_iff]
     intro h
     rw[List.all_eq_true] at h
     have:=h _ (List.getElem_mem hlt)
     rw[hn] at this;cases this
    rw[this];rfl)
   have hr:((((tx s)[k]'hb).toNat:Int)<48)\/(57<(((tx s)[k]'hb).toNat:Int)/\(((tx s)[k]'hb).toNat:Int)<65)\/(90<(((tx s)[k]'hb).toNat:Int)/\(((tx s)[k]'hb).toNat:Int)<97)\/(122<(((tx s)[k]'hb).toNat:Int)):=by
    rw[hx]
    unfold qk at hn
    simp only[Bool.or_eq_false_iff,Bool.and_eq_false_iff,XL] at hn
    omega
   clear hn hall hx
   rcases hr with h1|⟨h1,h2⟩|⟨h1,h2⟩|h1
   ·go_wp2
    all_goals first
     |(go_ret;exact⟨YQ,rfl⟩)
     |(exfalso;omega)
   ·go_wp2
    all_goals first
     |(go_ret;exact⟨YQ,rfl⟩)
     |(exfalso;omega)
   ·go_wp2
    all_goals first
     |(go_ret;exact⟨YQ,rfl⟩)
     |(exfalso;omega)
   ·go_wp2
    all_goals first
     |(go_ret;exact⟨YQ,rfl⟩)
     |(exfalso;omega)
 ·have e:s.take k=s:=List.take_of_length_le D
  rw[e] at hall
  have HA:=A hall
  have hlt':YG ((k:Int)<(ln s:Int))=O:=YU
  clear hall e
  cases s with
  |nil=>
   go_wp2
   go_ret
   exact⟨H,H⟩
  |cons b r=>
   have HR:=A (show kH (b::r)=YG ((ln r:Int)+1<=16) by
    unfold kH
    rw[HA.o]
    simp
    omega)
   have hle:(ln r:Int)+1<=(k:Int):=by simp at hlt;omega
   have hlt2:YG ((k:Int)<(ln r:Int)+1)=O:=YU
   go_wp2
   go_ret
   exact⟨YQ,rfl⟩):p:=h
theorem a0Y(h:p:=by
 clear h1 X d k g n
 go_enter func107,ntmps107
 go_wp2
 go_ret
 exact⟨H,i.o,cC.set w lo 0 _⟩):p:=h
theorem a0Z(h:p:=by
 go_wp2
 go_ret
 exact⟨H,by rw[c.o];exact m.o Y,n.o.trans (cC.set _ lo 1 _)⟩):p:=h
theorem a00(h:p:=by
 have:(w.setRow n cs).heap[c]?=w.heap[c]?:=by simp only[World.setRow,Array.getElem?_modify];rw[XQ (Ne.symm b)]
 exact this.trans h):p:=h
theorem a01(h:p:=by
 rintro a' w' ⟨v,rfl,hx,hv,hf⟩
 refine R _ _ w' (a.set hi r) (uU r ZC S hu) ⟨N _ _ g.d hx,λj hj hl=> ?_,λj k hj hk hjk h1 h2 h3 h4=> ?_⟩
 ·by_cases hji:j=i
  ·subst hji;simpa using hv
  ·rw[getD_set_ne O (Ne.symm hji)] at hl
   simp only[XQ hji]
   exact M _ _ _ _ (g.v j hj hl) hx
 ·by_cases hji:j=i
  ·subst hji
   rw[getD_set_ne O hjk] at h4
   simp only[XT,XQ (Ne.symm hjk)]
   obtain⟨b,rfl,y⟩:=hf h1
   obtain⟨b',e',hb'⟩:=F k _ _ hk h2 (g.v k hk h4)
   rw[e']
   intro h;injection h with h;injection h with h;injection h with h;omega
  ·rw[getD_set_ne O (Ne.symm hji)] at h3
   by_cases hki:k=i
   ·subst hki
    simp only[XT,XQ hji]
    obtain⟨b,rfl,y⟩:=hf h2
    obtain⟨b',e',hb'⟩:=F j _ _ hj h1 (g.v j hj h3)
    rw[e']
    intro h;injection h with h;injection h with h;injection h with h;omega
   ·rw[getD_set_ne O (Ne.symm hki)] at h4
    simp only[XQ hji,XQ hki]
    exact g.ne j k hj hk hjk h1 h2 h3 h4):p:=h
theorem a02(h:p:=by
 rcases Nat.lt_or_ge i n with h|h
 ·exact h
 ·exact absurd hi (tail_waits B A C a (n-d) d H s (getD_in u t) i h)):p:=h
theorem a03(h:p:=by
 have l:ops[d]?=L (ops[d]'D):=Array.getElem?_eq_getElem D
 have:d∈Region.ready md ops ag:=mem_ready.2 ⟨getD_in u t,_,l,λe c _=>E _ (mY z s l e c)⟩
 rw[G] at this;cases this):p:=h
theorem a04(h:p:=by
 exact tail J w g.d (λi hi=>g.v i hi (m i hi)) (λi j hi hj hij h1 h2=>g.ne i j hi hj hij h1 h2 (m i hi) (m j hj))):p:=h
theorem a05(h:p:=by
 apply Array.ext
 ·simp[a.size];omega
 ·intro i h1 h2
  rw[a.size] at h1
  by_cases hi:i<n
  ·have:=m i hi
   simp[a.size,h1] at this
   rw[Array.getElem_append_left ZF]
   simp[this]
  ·have:=a.tail i D h1
   simp[a.size,h1] at this
   rw[Array.getElem_append_right ZF]
   simp[this]):p:=h
theorem a06(h:p:=by
 exact⟨a,.inl b⟩):p:=h
theorem a07(h:p:=by
 obtain⟨_,⟨rfl,_⟩|⟨g,ac,cur,rfl,_⟩⟩:=h
 ·exact⟨_,_,_,H⟩
 ·exact⟨_,_,_,H⟩):p:=h
theorem a08(h:p:=by
 exact⟨I,0,by rw[d],D,YR,λb=>D⟩):p:=h
theorem a09(h:p:=by
 go_enter func340,ntmps340
 go_wp2
 go_ret2
 exact⟨xa a.o H,H⟩):p:=h
theorem a1a(h:p:=by
 rw[fO];unfold C
 rw[XJ,List.getElem?_append_right (by rw[bL];omega),bL];simp):p:=h
theorem a1b(h:p:=by
 rw[fO];unfold C;simp[List.getElem?_append_left,bL,hi]):p:=h
theorem a1c(h:p:=by
 go_wp2
 go_ret
 exact⟨YQ,rfl⟩):p:=h
theorem a1d(h:p:=by
 unfold ai at *;simp[World.setCell,Array.getElem?_modify,h]):p:=h
theorem a1e(h:p:=by
 go_enter func190,ntmps190
 go_wp2
 go_ret
 exact⟨YQ,gI _ _ _⟩):p:=h
theorem a1f(h:p:=by
 rintro e W1 ⟨rfl,hX⟩
 exact f _ _ ⟨uW a b c w.heap.size _,by simp[d,d1,uW],hX,rfl,λh=>YM⟩):p:=h
theorem a1g(h:p:=by
 rintro e W1 ⟨rfl,hX⟩
 exact f _ _ ⟨uW a b c w.heap.size _,by simp[d,uW],hX,rfl,λh=>YM⟩):p:=h
theorem a1h(h:p:=by
 simp only[uW] at d
 go_simp
 exact f _ _ ⟨uW a b c w.heap.size _,by simp[d,uW],Ext.ah _,rfl,λh=>YM⟩):p:=h
theorem a1i(h:p:=by
 refine XR H (λl f=> ?_)
 go_simp
 exact f _ _ ⟨_,H,Ext.ah _,H,λh=>YM⟩):p:=h
theorem a1j(h:p:=by
 go_simp
 exact hK _ _ ⟨_,H,(XI _ _).alloc (XE _) _,⟨_,H,g.size,ai.new _ _ _⟩,λ_=>⟨_,rfl,XE _⟩⟩):p:=h
theorem a1k(h:p:=by
 go_simp
 exact hK _ _ ⟨_,H,Ext.ah _,H,λh=>YM⟩):p:=h
theorem a1l(h:p:=by
 simp[List.getD,XO hi]):p:=h
theorem a1m(h:p:=by
 have d:=A (show lR r x y k=O by rw[v.o,u,P,T,t4];rfl)
 gi_wp2_with(first
  |(refine⟨trivial,?_⟩;gi_at_call 186;refine(CallsIn.inRound l (callsIn_wide.2 (bW own _))).mono ?_;rintro e W3 ⟨rfl,hX3⟩;have E3:Ext W2 (W3.alloc (.cells (mi own.x own.y).toArray 217)):=hX3.tr ((XI _ _).alloc (XE _) _);have Q3:=ai.new W3 217 (mi own.x own.y))
  |(refine cD (bA _ _) rfl 215 (.tmp 7) rfl W.heap.size rfl 215 _ (0,0) _ (b.ext E3) underlying215 rfl R ?_)
  |(refine⟨trivial,?_⟩;gi_at_call 188;refine(CallsIn.inRound l (callsIn_wide.2 (j5 (fV r k) own a _ J K f g))).mono ?_;rintro e W5 ⟨rfl,hX5⟩;have E5:=E3.tr hX5;have cA5:=λi=>(b.ext E5).cell i;have cP5:=λi=>(N.ext E5).cell i;have cQ5:=λi=>(Q3.ext hX5).cell i;have S5:=m.stays (E5.stays (n0:=0) (Nat.zero_le _));have cS5:=S5.cell;have fS5:=S5.frozen))
 exact⟨E5.keeps,uR q.o d.o E5⟩):p:=h
theorem a1n(h:p:=by
 have d:=A (show lR r x y k=Y by rw[v.o,u,P,T,t4];rfl)
 gi_wp2_with(first
  |(refine⟨trivial,?_⟩;gi_at_call 186;refine(CallsIn.inRound l (callsIn_wide.2 (bW own _))).mono ?_;rintro e W3 ⟨rfl,hX3⟩;have E3:Ext W2 (W3.alloc (.cells (mi own.x own.y).toArray 217)):=hX3.tr ((XI _ _).alloc (XE _) _);have Q3:=ai.new W3 217 (mi own.x own.y))
  |(refine cD (bA _ _) rfl 215 (.tmp 7) rfl W.heap.size rfl 215 _ (0,0) _ (b.ext E3) underlying215 rfl R ?_)
  |(refine⟨trivial,?_⟩;gi_at_call 188;refine(CallsIn.inRound l (callsIn_wide.2 (j5 (fV r k) own a _ J K f g))).mono ?_;rintro e W5 ⟨rfl,hX5⟩;have E5:=E3.tr hX5;have cA5:=λi=>(b.ext E5).cell i;have cP5:=λi=>(N.ext E5).cell i;have cQ5:=λi=>(Q3.ext hX5).cell i;have S5:=m.stays (E5.stays (n0:=0) (Nat.zero_le _));have cS5:=S5.cell;have fS5:=S5.frozen))
 refine⟨E5.keeps.trans (KeepsOthers.setCell _ _ _),?_⟩
 have I5:=q.o.stays (E5.stays (n0:=w.heap.size) (by have:=q.o.low.size;omega)) (XE _)
 refine⟨I5.p.eC YL _,?_,I5.it.eC YL _,?_,?_⟩
 ·rw[nY,XT d.o,ad.o];exact S5.put _
 ·exact I5.sl.below ((XI _ _).setCell (p:=⟨w.heap.size+1,0,I⟩) YL _)
 ·exact I5.low.setCell (p:=⟨w.heap.size+1,0,I⟩) YL _):p:=h
theorem a1o(h:p:=by
 gi_wp2_with(first
  |(refine⟨trivial,?_⟩;gi_at_call 186;refine(CallsIn.inRound l (callsIn_wide.2 (bW own _))).mono ?_;rintro e W3 ⟨rfl,hX3⟩;have E3:Ext W2 (W3.alloc (.cells (mi own.x own.y).toArray 217)):=hX3.tr ((XI _ _).alloc (XE _) _);have Q3:=ai.new W3 217 (mi own.x own.y))
  |(refine cD (bA _ _) rfl 215 (.tmp 7) rfl W.heap.size rfl 215 _ (0,0) _ (b.ext E3) underlying215 rfl R ?_)
  |(refine⟨trivial,?_⟩;gi_at_call 188;refine(CallsIn.inRound l (callsIn_wide.2 (j5 (fV r k) own a _ J K f g))).mono ?_;rintro e W5 ⟨rfl,hX5⟩;have E5:=E3.tr hX5;have cA5:=λi=>(b.ext E5).cell i;have cP5:=λi=>(N.ext E5).cell i;have cQ5:=λi=>(Q3.ext hX5).cell i;have S5:=m.stays (E5.stays (n0:=0) (Nat.zero_le _));have cS5:=S5.cell;have fS5:=S5.frozen))
 exact⟨E5.keeps,uR q.o d.o E5⟩):p:=h
theorem a1p(h:p:=by
  refine XR H (λm a => ?_)
  go_simp
  exact a _ _ ⟨_, H, (XI _ _).alloc (XE _) _, ⟨_, H, d.size, ai.new _ _ _⟩, λ_ => ⟨_, rfl, XE _⟩⟩):p:=h
theorem a1q(h:p:=by
  refine XR H (λm a => ?_)
  go_simp
  exact a _ _ ⟨_, H, Ext.ah _, H, λh => YM⟩):p:=h
theorem a1r(h:p:=by
 obtain⟨h1,h2,h3⟩:=h
 refine⟨h1,h2,λhn=> ?_⟩
 obtain⟨b,off,e,hB,hc⟩:=h3 hn
 refine⟨b,off,e,D,λi hi=> ?_⟩
 obtain⟨T,Q,h4,h5⟩:=hc i hi
 exact⟨T,Q,h4,h5.more a⟩):p:=h
theorem a1s(h:p:=by
 go_wp2_with(go_at_call 191;refine ca.o.mono ?_;rintro e W1 ⟨rfl,R⟩)
 go_ret
 exact⟨by rw[J.o];rfl,r.o.tr R⟩):p:=h
theorem a1t(h:p:=by
 have n:=A (show Av rs i k=O by rw[a.o];rfl)
 clear a
 go_wp2
 refine⟨aq.o n.o _ (XI _ _),YO⟩):p:=h
theorem a1u(h:p:=by
 go_wp2_with(go_at_call 290;refine f.o.mono ?_;rintro e w1 ⟨rfl,hB1⟩)
 go_ret2
 rw[c.o]
 exact⟨H,hB1⟩):p:=h
theorem a1v(h:p:=by
 go_enter func273,ntmps273
 go_wp2_with(first
  |(go_at_call 247;refine i.o.mono ?_;rintro e W1 ⟨x,y,rfl,k,j⟩;obtain⟨n',d',e1,rfl,rfl⟩:=k H;rw[t.o] at e1;obtain⟨rfl,rfl⟩:n=n'/\d=d':=by{injection e1 with e1;injection e1 with e2 e3;exact⟨e2,e3⟩})
  |(go_at_call 248;refine(eG _ _).mono ?_;rintro e W2 ⟨rfl,rfl⟩;rw[u.o]))
 go_ret
 exact⟨YQ,j⟩):p:=h
theorem a1w(h:p:=by
 go_enter func194,ntmps194
 go_wp2_with(first
  |(go_at_call 245;refine s.o.mono ?_;rintro e W1 ⟨rfl,g⟩;have V:=λi=>(v.o.ext g).cell i;have m:=A (Ext.tr l.o g);have HR:=A (v.o.ext g);clear g)
  |(go_at_call 246;((with_reducible refine(E.o _ m.o).mono ?_);rintro e Z ⟨rfl,q⟩;have q2:=λi=>(HR.o.ext q).cell i;have HX2:=A (Ext.tr m.o q);clear q))
  |(go_at_call 246;((with_reducible refine(S.o _ HX2.o).mono ?_);rintro e W3 ⟨rfl,hX3⟩)))
 go_ret
 exact⟨Zf,Ext.tr HX2.o hX3⟩):p:=h
theorem a1x(h:p:=by
 refine⟨⟨k+1,D,YL,?_,fQ a.o S (λq f=>(aH n.o q f).1)⟩,YO⟩
 rw[HQ.o,aE,List.map_append,List.flatten_append,Yc]
 exact Z):p:=h
theorem a1y(h:p:=by
 rw[g]
 have HQ:=A B
 have t:=A g
 have HD:=A o
 clear l j f B g o y
 go_wp2
 go_round
 case rel=>exact⟨k+1,D,by go_num,by rw[HQ.o,t.o,HD.o]⟩
 case measure=>simp[Yf];omega):p:=h
theorem a1z(h:p:=by
 rintro a' w' ⟨v,rfl,hv⟩
 refine F _ _ w' (a.set hi g) (uU g ZC q hu) ?_
 rw[zb ZC]
 exact hv):p:=h
theorem a1A(h:p:=by
 rw[h] at a
 injection a with a;injection a with _ h2 _
 exact d h2):p:=h
theorem a1B(h:p:=by
 go_ret
 exact⟨YQ,a.o⟩):p:=h
theorem a1C(h:p:=by
 go_wp2
 go_quiet (fail)
 go_wp2
 refine⟨⟨k+1,D,YL,below_drewN (M.o _) _,λj K=> ?_⟩,YO⟩
 by_cases hjk:j=k
 ·rw[hjk];exact T.o
 ·exact C.o j D):p:=h
theorem a1D(h:p:=by
 clear q
 go_wp2
 go_ret
 exact⟨Y6,a.o.tr (M.o _)⟩):p:=h
theorem a1E(h:p:=by
 go_wp2
 go_ret
 exact⟨Y6,a.o⟩):p:=h
theorem a1F(h:p:=by
 have g:=A (r.o 2 (by rw[n.o,XQ D,XT (.inr t)]) YK)
 go_wp2
 go_ret
 exact⟨Y6,q.o _⟩):p:=h
theorem a1G(h:p:=by
 have g:=A (r.o 2 (by rw[n.o,XQ D,XT (.inl z)]) YK)
 go_wp2
 go_ret
 exact⟨Y6,q.o _⟩):p:=h
theorem a1H(h:p:=by
 have g:=A (r.o 8 (by rw[n.o,XT (.inr u)]) YK)
 go_wp2
 go_ret
 exact⟨Y6,q.o _⟩):p:=h
theorem a1I(h:p:=by
 have d1:YG (f<1)=Y:=by rw[XX];exact B
 have g:=A (r.o 8 (by rw[n.o,XT (.inl B)]) YK)
 go_wp2
 go_ret
 exact⟨Y6,q.o _⟩):p:=h
theorem a1J(h:p:=by
 go_enter func127,ntmps127
 go_wp2_with(first
  |(go_at_call 171;refine j.o.mono ?_;rintro e W1 ⟨rfl,g⟩)
  |(go_at_call 199;refine(u.o _).mono ?_;rintro e W3 ⟨rfl,rfl⟩)
  |(go_at_call 198;refine(s.o _ g).mono ?_;rintro e y ⟨rfl,r⟩))
 go_ret
 exact⟨Zf,Ext.tr g r⟩):p:=h
theorem a1K(h:p:=by
 go_wp2_with(go_at_call 129;refine(iV _ _ _ _).mono ?_;rintro e W1 ⟨rfl,rfl⟩;rw[d])
 go_ret
 exact⟨H,H⟩):p:=h
theorem a1L(h:p:=by
 rw[rounds_succ]
 go_wp2
 rw[rounds_succ]
 go_wp2
 rw[rounds_succ]
 go_wp2
 go_ret
 exact⟨YQ,rfl⟩):p:=h
theorem a1M(h:p:=by
 rw[rounds_succ]
 go_wp2
 rw[rounds_succ]
 go_wp2
 go_ret
 exact⟨YQ,rfl⟩):p:=h
theorem a1N(h:p:=by
 rw[rounds_succ]
 go_wp2
 go_ret
 exact⟨YQ,rfl⟩):p:=h
theorem a1O(h:p:=by
 go_enter func59,ntmps59
 go_wp2_with(go_at_call 126;refine(kh _ _ _ _).mono ?_;rintro e W1 ⟨rfl,rfl⟩;first|rw[b]|rw[c]|rw[d]|rw[f]|skip)
 go_ret
 exact⟨YQ,a.o⟩):p:=h
theorem a1P(h:p:=by
 go_wp2_with(go_at_call 50;refine(iQ _ _ _ _).mono ?_;rintro e W1 ⟨rfl,rfl⟩;rw[a])
 refine⟨⟨k+1,D,YL,trivial,λj B=> ?_⟩,YO⟩
 by_cases hjk:j=k
 ·rw[hjk];exact u.o
 ·exact r.o j D):p:=h
theorem a1Q(h:p:=by
 go_wp2_with(go_at_call 50;refine(iQ _ _ _ _).mono ?_;rintro e W1 ⟨rfl,rfl⟩;rw[a])
 go_ret
 exact⟨Y6,rfl⟩):p:=h
theorem a1R(h:p:=by
 have:=d (k-1) D 0 YK
 rwa[je D,Nat.one_mul,Nat.add_zero] at this):p:=h
theorem a1S(h:p:=by
 rw[bI (λr hr=>a r (List.mem_of_mem_take hr)),List.length_take,Nat.min_eq_left b]):p:=h
theorem a1T(h:p:=by
 obtain⟨s,_,rfl⟩:=List.mem_map.1 a;simp at hu;rcases hu with rfl|rfl|rfl|rfl|rfl<;>rfl):p:=h
theorem a1U(h:p:=by
 obtain⟨s,_,rfl⟩:=List.mem_map.1 a;simp at hu;rcases hu with rfl|rfl|rfl<;>rfl):p:=h
theorem a1V(h:p:=by
 clear K af av
 go_wp2_with(first
  |(refine wpList_append_own _ rfl _ _ 22 rfl l.heap.size 102 i0 (V I 0 0) 1 24 underlying22 I0.o I1.o I2.o I3.o rfl YK _ _ _ rfl ag.o ⟨W1.heap.size,0,I⟩ 1 1 [V J (ln ring) c1] rfl rfl (World.news_of_block (cs:=#[V J (ln ring) c1]) (t:=102) (fr:=(0,0)) NB.o) ZW YR D (Ye s.o.size r.o.size) ?_;intro v' w2 T C _;have aG:=A T;have ax:=A C;obtain⟨A3,n3,c3,ah⟩:=rX.of T;subst ah;have b3:=((d.o.below r.o d.o.lt).grown ag.o C YK).cell;have f3:=((d.o.below r.o d.o.lt).grown ag.o C YK).frozen;clear T C)
  |(go_at_call 132;refine KC.o.mono ?_;rintro e W1 ⟨v1,rfl,ae,ad⟩;obtain⟨J,c1,hv1,_⟩:=bK ae (XP _) (dB ring);subst hv1;have b1:=(d.o.below ad d.o.lt).cell;have HO1:=A ae;have r:=A (ad.tr ((XI _ _).alloc (XE _) (.cells #[V J (ln ring) c1] 102)));have b2:=(d.o.below r.o d.o.lt).cell;have ag:=A (bD HO.o r.o);have NB:=A (Bx.new W1 102 (V J (ln ring) c1));have ay:=A (ft (bD ae ((XI _ _).alloc (XE _) (.cells #[V J (ln ring) c1] 102))) s.o.size);clear ae ad))
 go_round
 case rel=>exact⟨k+1,_,_,D,by go_num,rfl,rfl,au.o.trans (by first|rfl|simp[IntWalk.i64_left]),zX s.o d.o HO.o am.o aq.o r.o (by rw[aw.o];exact ay.o) aG.o ax.o aN.o⟩
 case measure=>simp[Yf];omega):p:=h
theorem a1W(h:p:=by
 all_goals
  intro v' w1 hown hgrow hnil
  go_wp2
  go_ret
  exact j.o v' w1 hown hgrow):p:=h
theorem a1X(h:p:=by
 intro v' w1 hown hgrow hnil
 go_wp2
 go_ret
 exact j.o v' w1 (by rw[Nat.zero_add];exact hown) hgrow):p:=h
theorem a1Y(h:p:=by
 intro v' w1 hown hgrow
 rw[s.o] at hown
 refine⟨v',H,by simpa using hown,(XI base w).grown hgrow a (λq hq=>(aH b.o q hq).1)⟩):p:=h
theorem a1Z(h:p:=by
 intro W o hbW
 refine⟨_,H,⟨Q,.inr ⟨g,y,_,by rw[d],hb,setRow_heap (by rw[o];exact v) _,S,YR,M,K⟩⟩,al (hbW P) (XE _) _⟩):p:=h
theorem a2a(h:p:=by
 rw[tK ZO (by simp only[List.size_toArray,a,f];omega),k,List.size_toArray]):p:=h
theorem a2b(h:p:=by
 intro t u hu
 have ht:t<ln B:=(List.getElem?_eq_some_iff.1 hu).1
 rw[<-k,<-kL b D,List.getElem?_drop,<-J,List.getElem?_take] at hu
 rw[XT (by rw[a] at ht;omega)] at hu
 rw[show w.cell? ⟨g,i*5+t,I⟩=cur[i*5+t]? by simp[World.cell?,q]]
 simpa using hu):p:=h
theorem a2c(h:p:=by
 intro u hu
 rw[<-k] at hu
 obtain⟨r,hr,hur⟩:=List.mem_flatten.1 hu
 exact s r (List.mem_of_mem_drop hr) u hur):p:=h
theorem a2d(h:p:=by
 rw[vT ZO (by simp only[List.size_toArray,a,l];omega),k,List.size_toArray]):p:=h
theorem a2e(h:p:=by
 rw[<-v,Array.toList_append,Array.toList_append,List.append_assoc,List.take_left' o]):p:=h
theorem a2f(h:p:=by
 intro t u hu
 have ht:t<ln B:=(List.getElem?_eq_some_iff.1 hu).1
 rw[<-k,<-kL b D,List.getElem?_drop,<-J,List.getElem?_take] at hu
 rw[XT (by rw[a] at ht;omega)] at hu
 rw[show w.cell? ⟨g,i*1+t,I⟩=cur[i*1+t]? by simp[World.cell?,q]]
 simpa using hu):p:=h
theorem a2g(h:p:=by
 rw[bF q];rw[aj q] at hk;exact a k hk g):p:=h
theorem a2h(h:p:=by
 rw[aj (k:=10) YK,g];intro h;cases h):p:=h
theorem a2i(h:p:=by
 go_simp
 exact hK _ _ ⟨v,by simp[bN,ht],hn⟩):p:=h
theorem a2j(h:p:=by
 go_simp
 exact hK _ _ ⟨_,by simp[bN,jX],HI.o.pure YK rfl⟩):p:=h
theorem a2k(h:p:=by
 go_simp
 exact hK _ _ ⟨_,by simp[bN,vf],HI.o.pure YK rfl⟩):p:=h
theorem a2l(h:p:=by
 go_simp
 exact hK _ _ ⟨_,by simp[bN,sV],HI.o.pure YK rfl⟩):p:=h
theorem a2m(h:p:=by
 all_goals simp[go_sem, *]):p:=h
theorem a2n(h:p:=by
 exact⟨DK _ _ _ _ _,Dr _ _ _ _ _,⟨_,_,H,H,CJ _ _ _ _ _,CU _ _ _ _ _⟩,o4 _ _ _ _ _⟩):p:=h
theorem a2o(h:p:=by
 exact⟨DK _ _ _ _ _,Dr _ _ _ _ _,⟨_,_,H,H,CU _ _ _ _ _,CJ _ _ _ _ _⟩,o4 _ _ _ _ _⟩):p:=h
theorem a2p(h:p:=by
 refine wpAny_done R ?_ _
 cases hs:im e (eu e)
 ·have HF:=A (show cV e=9 by unfold cV;rw[XQ D,hs];rfl)
  try rw[hs]
  go_wp2
  go_ret
  exact⟨ZG,HB2.o⟩
 ·have HF:=A (show cV e=0 by unfold cV;rw[XQ D,XT hs])
  try rw[hs]
  go_wp2
  go_ret
  exact⟨ZG,HB2.o⟩):p:=h
theorem a2q(h:p:=by
 rw[z,D]
 intro e3
 injection e3 with e3;injection e3 with e3;injection e3 with e3
 omega):p:=h
theorem a2r(h:p:=by
 obtain⟨A',h1,h2⟩:=h;exact⟨A',h1,(h2.below hx).more hx.size⟩):p:=h
theorem a2s(h:p:=by
 go_enter func254,ntmps254
 go_wp2
 go_ret
 exact⟨H,H⟩):p:=h
theorem a2t(h:p:=by
 rw[bF e];rw[aj e] at c;exact h.vals m c a):p:=h
theorem a2u(h:p:=by
 injection e with e;injection e with e;injection e with e
 have:=b.lt
 omega):p:=h
theorem a2v(h:p:=by
 clear I o j
 go_enter func236,ntmps236
 go_wp2
 go_ret
 exact⟨c.o,XI _ _⟩):p:=h
theorem a2w(h:p:=by
 go_wp2_with(go_at_call 231;refine CT.o.mono ?_;rintro e W1 ⟨rfl,rfl⟩)
 go_ret
 exact HS.o):p:=h
theorem a2x(h:p:=by
 go_wp2_with fail
 go_quiet ((go_at_call 233;exact Calls.quiet_of_same (xn _ w.heap.size _ b k sb D)))
 go_wp2
 have ep:((C a i:Int)*(C b k:Int))=((C a i*C b k:Nat):Int):=YL
 rw[ep] at lL⊢
 have r:((C o (i+k):Int)+((C a i*C b k:Nat):Int)+c)/1000000=(((C o (i+k)+C a i*C b k+c)/1000000:Nat):Int):=D
 have y:((C o (i+k):Int)+((C a i*C b k:Nat):Int)+c)%1000000=(((C o (i+k)+C a i*C b k+c)%1000000:Nat):Int):=D
 rw[r,y]
 exact⟨HN.o _,YO⟩):p:=h
theorem a2y(h:p:=by
 rw[XJ,XO ZQ]
 simp[ByteArray.getElem_eq_getElem_data]):p:=h
theorem a2z(h:p:=by
 subst ac
 have hop:o+1<=P:=by
  rcases Nat.lt_or_ge o P with h|h
  ·exact h
  ·exact absurd X.o (by rw[show o=P by omega];exact al.o)
 have E:¬z=1:=D
 clear u
 go_wp2
 exact⟨⟨o+1,hop,by rw[show 6*i-(o+1)=z-1 by have:=HZ.o;omega],λj T=>(Nat.lt_or_ge j o).elim (λe=>ab.o j e) (λe=>(show j=o by omega)▸X.o),trivial⟩,by simp[LL];omega⟩):p:=h
theorem a2A(h:p:=by
 have hsl:=(HS.o.below W.o).below (g.ext.mono D)
 obtain⟨_,_,e,_,_,M⟩:=hsl
 injection e with e1 e2 e3
 clear e2
 subst e1 e3
 obtain⟨_,_,e,_,hcell⟩:=M Zm
 injection e with e
 injection e with e1 e2
 subst e1 e2
 have hci:=hcell i Zm
 have hxi:C l i<1000000:=aK t.small i
 obtain⟨x,hx⟩:=aa (C l i)
 rw[hx] at hci hxi
 have HXI:=A hx
 clear hcell M g R hx
 go_wp2_with fail
 go_loopw [5,6] (λx' k wi=>∃(j:Nat) (ys:List Nat),j<=6/\k=G F ((j:Int)+1)/\x'=G F ((x/10^j:Nat):Int)/\AQ Q (w.heap.size+1) l (6*i+j) ys wi) (λ_ k _=>7-(Yf k).toNat)
 case atStart=>exact⟨0,B,D,rfl,YL,r.o⟩
 case round=>
  obtain⟨j,ys,T,rfl,rfl,hY⟩:=hrel
  have HY:=A hY
  obtain⟨d,hd⟩:=aa (x/10^j)
  have hd6:d<1000000:=by rw[<-hd];exact Nat.lt_of_le_of_lt (Nat.div_le_self _ _) hxi
  by_cases hj6:j<6
  ·obtain⟨m,hm⟩:=aa (6*n-1-(6*i+j))
   have hm6:m<ln ys:=by rw[hY.len,J.o];omega
   have hcm:=hY.row.cell hm6
   have hfm:=hY.row.frozen m
   have e1:6*(n:Int)-6*i-((j:Int)+1)=(m:Int):=D
   have hmn:m<6*n:=D
   have hdig:48+d%10=48+jC l (6*i+j):=by rw[ni _ _ _ hj6,HXI.o,hd]
   have NX:=A (hY.next (by rw[J.o];omega) (x:=48+d%10) (j:=m) hdig (by rw[J.o];exact hm.symm))
   have hdv:d/10=x/10^(j+1):=by rw[<-hd,Nat.div_div_eq_div_mul,Nat.pow_succ]
   have HDV:=A hdv
   obtain⟨c,t⟩:=aa (48+d%10)
   have e2:48+(d:Int)%10=(c:Int):=D
   have hcs:c<256:=D
   obtain⟨o,ho⟩:=aa (C ys m)
   rw[ho] at hcm
   rw[t] at NX
   rw[hd]
   clear hY hm6 hdig hdv t ho hd hm
   go_wp2
   exact⟨⟨j+1,_,D,YL,by rw[<-HDV.o];simp,NX.o⟩,YO⟩
  ·obtain rfl:j=6:=D
   clear hY hd
   go_wp2_with fail
   exact⟨⟨i+1,ys,D,YL,by have:=HY.o;rwa[show 6*(i+1)=6*i+6 by omega]⟩,YO⟩):p:=h
theorem a2B(h:p:=by
 obtain rfl:j=e:=D
 have aj:=Aa hx D
 have hfl:¬(j:Int)<j:=D
 have hres:=r.o.num.cell 1
 have hfr:=r.o.num.frozen 1
 have hbx:Yl (w.heap.size+2) wr (wr.alloc (.cells #[G F (x:Int)] 3)):=(XI _ _).alloc (by have:=r.o.num.lt;omega) _
 have HOX:=A (bD r.o.own ((XI _ _).alloc (XE _) (.cells #[G F (x:Int)] 3)))
 have hbase:w.heap.size+2<=(wr.alloc (.cells #[G F (x:Int)] 3)).heap.size:=by have:=r.o.num.lt;simp;omega
 have hll:ln l<=100:=by have:=T.o;omega
 have HN:=A (yr r.o aj)
 clear hx hbx
 go_wp2_with(at_builtin;(refine wpList_append_own _ H _ _ _ H (w.heap.size+2) 3 i0 _ 1 8 underlying25 I0.o I1.o I2.o I3.o H D _ _ _ H HOX.o ⟨wr.heap.size,0,I⟩ 1 1 [G F (x:Int)] H Zb (λj u hj=>Y1) ZD YR D hbase ?_);intro v' w' hown' hgr' hnil;obtain⟨a,Z,c4,W⟩:=rX.of hown';subst W;obtain⟨hn0,hn1,hn2⟩:=HN.o _ w' hown' hgr';have HN2:=A hn2;clear hn2)
 exact⟨⟨(j:Int)-6,_,l++[x],H,by rw[Yc];have:=T.o;simp;omega,D,ZA,HN2.o⟩,YO⟩):p:=h
theorem a2C(h:p:=by
 have hu:F.wrap (g:Int)=g:=Yh _ D
 have NVV:=A (rd_val an.o (mJ o B) ac)
 clear B hx
 go_wp2
 exact⟨⟨10*x+g,j+1,YL,YL,D,D,NX.o,NVV.o,rfl⟩,YO⟩):p:=h
theorem a2D(h:p:=by
 go_wp2_with fail
 go_quiet (fail)
 go_wp2
 refine bodyPost_ret (jw H _ _ _) H ?_
 exact⟨YQ,below_drewN d.o _⟩):p:=h
theorem a2E(h:p:=by
 obtain rfl:k=z.size:=D
 have HR:=A (show aG z=(O,z,⟨#[]⟩,O) from j.o.2 a.o)
 go_wp2
 refine bodyPost_ret (jw H _ _ _) H ?_
 exact⟨YQ,d.o⟩):p:=h
theorem a2F(h:p:=by
 have h2:(if(z.data.toList.head?==L 45)=Y then z.extract 1 z.size else z).size<=z.size:=by
  split
  ·rw[ByteArray.size_extract];omega
  ·exact XE _
 exact key _ _ _ h2):p:=h
theorem a2G(h:p:=by
 go_wp2
 go_ret
 exact⟨H,a.o⟩):p:=h
theorem a2H(h:p:=by
 go_enter func172,ntmps172
 go_wp2_with(first
  |(go_at_call 229;have hX:=HX1;clear HX1;refine(d.o _).mono ?_;rintro e W2 ⟨rfl,hX2⟩;have HX2:=A (hX.o.tr hX2);clear hX2)
  |(go_at_call 229;refine c.o.mono ?_;rintro e W1 ⟨rfl,hX1⟩;have HX1:=A hX1;clear hX1))
 go_ret
 exact⟨H,HX2.o⟩):p:=h
theorem a2I(h:p:=by
 have hu:F.wrap (g:Int)=g:=Yh _ D
 clear e
 go_wp2
 exact⟨⟨k+1,by rw[l.o,f.o];simp,by go_num,D,a.o⟩,YO⟩):p:=h
theorem a2J(h:p:=by
 clear h
 go_enter func230,ntmps230
 go_wp2
 go_ret2
 exact⟨⟨_,_,H,λh=>YM,YK⟩,XI _ _⟩):p:=h
theorem a2K(h:p:=by
 go_enter func173, ntmps173
 go_wp2_with (first
   | (go_at_call 230; have hX := HX1; clear HX1; refine (c.o _).mono ?_; rintro e W2 ⟨⟨z2, ok2, rfl, h2, h2b⟩, hX2⟩; have HX2 := A (hX.o.tr hX2); have H2 := A h2; clear hX2 h2)
   | (go_at_call 230; refine d.o.mono ?_; rintro e W1 ⟨⟨z, ok, rfl, h1, h1b⟩, hX1⟩; have HX1 := A hX1; have H1 := A h1; clear hX1 h1))
 all_goals first
   | (go_ret3
      exact ⟨⟨_, _, _, H, h1b, h2b, λh => ⟨H1.o ZH, H2.o ZH⟩⟩, HX2.o⟩)
   | (go_ret3
      exact ⟨⟨_, _, _, H, YK, YK, λh => YM⟩, HX1.o⟩)):p:=h
theorem a2L(h:p:=by
 go_enter func45,ntmps45
 go_wp2
 go_ret
 exact⟨by rw[a.o];first|rfl|simp,rfl⟩):p:=h
theorem a2M(h:p:=by
 go_enter func14,ntmps14
 go_wp2
 refine wp_loop_rounds 2 ?_
 rw[rounds_succ]
 go_wp2_with(go_at_call 45;refine(nd _ _).mono ?_;rintro e w1 ⟨rfl,rfl⟩)
 go_ret
 exact⟨YQ,rfl⟩):p:=h
theorem a2N(h:p:=by
 intro m hm
 have:=a i Z6 m hm
 rw[c,Yd] at this
 exact this):p:=h
theorem a2O(h:p:=by
 go_enter func162,ntmps162
 go_wp2_with(go_at_call 163;refine(kN _ _ _ _).mono ?_;rintro e W1 ⟨rfl,rfl⟩)
 go_ret
 exact⟨H,H⟩):p:=h
theorem a2P(h:p:=by
 go_enter func85,ntmps85
 go_wp2
 go_ret
 exact⟨YQ,n.o⟩):p:=h
theorem a2Q(h:p:=by
 go_wp2_with(go_at_call 80;refine(iR _ _ _ _).mono ?_;rintro e W1 ⟨rfl,rfl⟩;rw[a])
 go_quiet (fail)
 go_wp2
 refine⟨⟨k+1,D,YL,by first|exact r.o|exact below_drewN r.o _,λj u=> ?_⟩,YO⟩
 by_cases hjk:j=k
 ·rw[hjk];exact B.o
 ·exact s.o j D):p:=h
theorem a2R(h:p:=by
 rw[c] at n o⊢
 have n:=A n
 have o:=A o
 clear Q E l t L z C hb u Y hz ab hn y x c d Z ad K hk O ac m v
 exact lZ):p:=h
theorem a2S(h:p:=by
 clear Q E l t L z C hb u Y hz ab hn y x c d Z ad K hk O ac m v
 exact lZ):p:=h
theorem a2T(h:p:=by
 have ag:=A (fL (X:=X) K m E l H (oV h1 h2 v C (λ_ _ q=>⟨q.p,q.u,q.o,q.z,q.b,q.l,q.s⟩)))
 clear h1 h2 Q E l t L z C hb u Y hz ab hn y x c d Z ad K hk O ac m v
 exact Af):p:=h
theorem a2U(h:p:=by
 go_simp
 exact hK _ _ ⟨_,by simp[bN,qC],HI.o.pure YK rfl⟩):p:=h
theorem a2V(h:p:=by
 simp only[Option.getD_some] at this
 rw[this];simp):p:=h
theorem a2W(h:p:=by
 go_ret
 exact⟨H,c.o.tr z.o⟩):p:=h
theorem a2X(h:p:=by
 go_wp2_with(go_at_call 155;fail)
 refine(KP.o _ z.o).mono ?_
 rintro e W2 ⟨rfl,ah⟩
 have af:=A (z.o.tr ah)
 have c5:=M.o _ af.o
 clear ah c4
 go_wp2_with(go_at_call 156;refine(KR.o _ af.o).mono ?_;rintro e W3 ⟨rfl,hX6⟩;have HX6:=A (af.o.tr hX6);clear hX6)
 go_ret
 exact⟨H,c.o.tr HX6.o⟩):p:=h
theorem a2Y(h:p:=by
 go_wp2
 go_ret
 exact⟨H,c.o.tr a.o⟩):p:=h
theorem a2Z(h:p:=by
 have h1:=Jm h hi
 have h2:=Jm h (Nat.mod_lt (i+1) (by omega:ln r>0))
 rw[jU,CE D D D D]):p:=h
theorem a3a(h:p:=by
 go_wp2_with(first
  |(at_builtin;(refine wpList_append_own _ H _ _ _ H w.heap.size 3 i0 _ 1 8 underlying25 I0.o I1.o I2.o I3.o H D _ _ _ H ae.o ⟨wr.heap.size,0,I⟩ 1 1 [G F (x:Int)] H Zb (λj u hj=>Y1) ZD YR D aq ?_);intro v' w' V R hnil)
  |(go_at_call 233;first|((with_reducible refine C1.o.mono ?_);rintro e W1 ⟨rfl,rfl⟩)|((with_reducible refine C2.o.mono ?_);rintro e W1 ⟨rfl,rfl⟩)))
 exact⟨by rw[e2];exact ay.o _ _ V R,YO⟩):p:=h
theorem a3b(h:p:=by
 intro e
 apply h2
 rw[List.head?_eq_getElem?,XO D]
 congr 1
 apply UInt8.toNat_inj.1
 show _=48
 omega):p:=h
theorem a3c(h:p:=by
 subst d
 go_wp2_with fail
 go_ret2
 exact⟨H,n.o⟩):p:=h
theorem a3d(h:p:=by
 rw[List.head?_cons]
 congr 1
 apply UInt8.toNat_inj.1
 unfold jh at l
 show _=48
 omega):p:=h
theorem a3e(h:p:=by
 go_enter func303,ntmps303
 go_wp2_with(first
  |(go_at_call 102;fail)
  |(go_at_call 99;refine j.o.mono ?_;unfold ot;rintro e W1 ⟨rfl,a⟩;have c:=A a;clear a))
 all_goals
  go_ret3
  exact⟨⟨_,_,_,H,λh=>YM⟩,c.o⟩):p:=h
theorem a3f(h:p:=by
 subst g
 go_wp2_with fail
 go_ret2
 exact⟨H,S.o⟩):p:=h
theorem a3g(h:p:=by
 obtain rfl:k=ln l:=D
 have a:v=0:=by rw[HV.o];exact bh t.o
 subst a
 go_wp2
 go_ret
 exact⟨H,d.o⟩):p:=h
theorem a3h(h:p:=by
 by_cases g2:m<b.size
 ·go_wp2
  go_ret
  exact⟨by rw[u.o (.inr g2)];rfl,j.o⟩
 ·go_wp2
  go_ret
  exact⟨by rw[H0.o D];rfl,j.o⟩):p:=h
theorem a3i(h:p:=by
 go_wp2_with(go_at_call 256;refine Z.o.mono ?_;rintro e W3 ⟨rfl,hX3⟩;have X3:=A (O.o.tr hX3);clear hX3)
 go_ret
 exact⟨Zn,X3.o⟩):p:=h
theorem a3j(h:p:=by
 have r:=A (show E=2 by rw[b,XT rfl])
 clear b
 go_wp2_with fail
 go_ret
 exact⟨Zn,c.o.tr q.o⟩):p:=h
theorem a3k(h:p:=by
 split at h
 ·obtain⟨g,h1,h2⟩:=h;exact⟨g,h1,h2.ext hx⟩
 ·exact h):p:=h
theorem a3l(h:p:=by
 go_simp
 exact b _ _ ⟨_,by simp[bN,sC],Ext.ah _,rfl,λh=>YM⟩):p:=h
theorem a3m(h:p:=by
 go_wp2_with(first
  |(refine wpList_load_row rfl 50 _ rfl _ rfl 50 _ (0,0) _ X.o XB rfl R ?_)
  |(go_at_call 29;refine v.o.mono ?_;rintro r W5 ⟨rfl,t,S⟩;have c2:=t.Ho;have c3:=t.BQ;have HW5:=A t;have K5:=A S;clear t S))
 go_quiet (fail)
 go_wp2
 go_ret2
 rw[ac.o]
 exact⟨H,below_drewN (B2.o.trans K5.o.low) _⟩):p:=h
theorem a3n(h:p:=by
 clear c h1 h6 j J z N af
 go_wp2
 go_quiet (fail)
 go_wp2
 go_meet
 exact⟨HE.o _,below_drewN s.o _⟩):p:=h
theorem a3o(h:p:=by
 go_wp2
 go_quiet (fail)
 go_wp2
 go_ret2
 rw[d.o]
 exact⟨H,below_drewN s.o _⟩):p:=h
theorem a3p(h:p:=by
 go_wp2
 go_ret2
 rw[S.o]
 exact⟨H,ah.o.tr ad.o⟩):p:=h
theorem a3q(h:p:=by
 go_wp2_with fail
 go_quiet (fail)
 go_wp2
 exact⟨⟨m+1,D,YL,below_drewN HX.o _⟩,YO⟩):p:=h
theorem a3u(h:p:=by
 have z:YG ((m:Int)<(ln l:Int))=O:=XU D
 go_wp2
 go_ret
 exact⟨H,HX.o⟩):p:=h
theorem a3v(h:p:=by
 obtain⟨u,v,f⟩:=iface_of_trod underlying193 c
 exact⟨u,v,by rw[b];cases cs;simp_all⟩):p:=h
end
end Go.Proofs.YtnepbjnlmkppmaaGreatDoor
open Go.Proofs.YtnepbjnlmkppmaaGreatDoor
variable{ag:Array Bool}{lb args cs tmps:Array Z}{z:ByteArray}{q l a u an am ao tv:List Nat}{ds s:List UInt8}{xs rest bs' bs:List Z}{n m c d v1 r k b i x j b0 g ac g' un u1 base n0 gf N ca cb B0 Bs ad bi mq nb gu cu gb cv mm:Nat}{ab A':Option Ym}{w w' wr W W':U}{t T e:Yj}{p:Ym}
namespace Kp
abbrev B:Nat:=1000000000
def S(f:Nat->Nat):Nat->Nat
 |0=>0
 |n+1=>S f n+f n*B^n
def Hn(f:Nat->Nat):S f 0=0:=rfl
def cF(f:Nat->Nat)(n:Nat):S f (n+1)=S f n+f n*B^n:=rfl
def CI(n:Nat):0<B^n:=Nat.pow_pos YK
theorem fu{f g:Nat->Nat}(h:∀k,k<n->f k=g k):S f n=S g n:=by
 induction n with
 |zero=>rfl
 |succ n a=>rw[cF,cF,a (λk hk=>h k D),h n D]
theorem uf{f:Nat->Nat}(h:∀k,k<n->f k<B):S f n<B^n:=by
 induction n with
 |zero=>simp[S]
 |succ n b=>
  rw[cF,Nat.pow_succ];have h1:=b (λk hk=>h k D);have h2:f n+1<=B:=h n D;have a:(f n+1)*B^n<=B*B^n:=Nat.mul_le_mul_right _ h2;rw[Nat.add_mul,Nat.one_mul,Yd B] at a;omega
theorem sI{f:Nat->Nat}(h:∀k,k<n->f k=0):S f n=0:=by
 induction n with
 |zero=>rfl
 |succ n a=>rw[cF,a (λk hk=>h k D),h n D];simp
def qb(f:Nat->Nat)(m n:Nat):S f (m+n)=S f m+B^m*S (λk=>f (m+k)) n:=by
 induction n with
 |zero=>simp[S]
 |succ n a=>
  rw[<-Nat.add_assoc,cF,a,cF,Nat.mul_add,Nat.pow_add];have:f (m+n)*(B^m*B^n)=B^m*(f (m+n)*B^n):=by
   rw[Nat.mul_left_comm]
  omega
theorem Sg{f:Nat->Nat}(h:m<=n)(a:∀k,m<=k->k<n->f k=0):S f n=S f m:=by
 obtain⟨d,rfl⟩:∃d,n=m+d:=⟨n-m,D⟩;rw[qb,sI (f:=λk=>f (m+k)) (λk hk=>a _ D D)];simp
theorem Vl{f g:Nat->Nat}(c:∀k,k<n->f k<B)(b:∀k,k<n->g k<B)(h:S f n=S g n):∀k,k<n->f k=g k:=by
 induction n with
 |zero=>intro k hk;omega
 |succ n j=>
  rw[cF,cF] at h;have h1:=uf (λk (hk:k<n)=>c k D);have h2:=uf (λk (hk:k<n)=>b k D);have a:=CI n;have l:(S f n+f n*B^n)/B^n=f n:=by
   rw[Nat.add_mul_div_right _ _ a,Nat.div_eq_of_lt h1];omega
  have m:(S g n+g n*B^n)/B^n=g n:=by
   rw[Nat.add_mul_div_right _ _ a,Nat.div_eq_of_lt h2];omega
  have e:f n=g n:=by rw[<-l,<-m,h]
  rw[e] at h;have d:S f n=S g n:=D;intro k hk;by_cases i:k=n
  ·rw[i];exact e
  ·exact j (λk hk=>c k D) (λk hk=>b k D) d k D
def JR{X f g c P q e a d b:Nat}(h:X+q*f=g+c*P)(k:e+q*a+c=d+b*B):
  (X+e*P)+q*(f+a*P)=(g+d*P)+b*(P*B):=by
 have h1:=Yv (· *P) k;simp only[Nat.add_mul] at h1;rw[Nat.mul_add];have i:q*(a*P)=q*a*P:=(Nat.mul_assoc _ _ _).symm;have j:b*(P*B)=b*B*P:=by rw[Yd P B,Nat.mul_assoc]
 rw[i,j];omega
def Bw{X f g c P q e a d b:Nat}(h:X+c*P=g+q*f)(k:e+b*B=d+q*a+c):
  (X+e*P)+b*(P*B)=(g+d*P)+q*(f+a*P):=by
 have h1:=Yv (· *P) k;simp only[Nat.add_mul] at h1;rw[Nat.mul_add];have i:q*(a*P)=q*a*P:=(Nat.mul_assoc _ _ _).symm;have j:b*(P*B)=b*B*P:=by rw[Yd P B,Nat.mul_assoc]
 rw[i,j];omega
theorem Kr{X d b q P:Nat}(h:X+q*d=b+c*P)(f:X<P)(e:b<P):(c=0↔q*d<=b):=by
 constructor
 ·intro a;subst a;omega
 ·intro g;by_cases a:c=0
  ·exact a
  ·exfalso;have:1*P<=c*P:=Nat.mul_le_mul_right _ D;omega
def Bj{X a e b q c d P:Nat}(h:X+q*e=b+c*P)(h2:a+d*P=X+q*e)(i:a<P)(g:b<P):a=b:=by
 have f:a+d*P=b+c*P:=D;have j:(a+d*P)%P=a:=by rw[Nat.add_mul_mod_self_right,Nat.mod_eq_of_lt i]
 have k:(b+c*P)%P=b:=by rw[Nat.add_mul_mod_self_right,Nat.mod_eq_of_lt g]
 rw[<-j,f,k]
def K8{b a t q v1 P:Nat}(d:b<(t+1)*P)(c:v1*P<=a)(e:t<(q+1)*v1):b<(q+1)*a:=by
 have h1:(t+1)*P<=(q+1)*v1*P:=Nat.mul_le_mul_right _ D;have h2:(q+1)*(v1*P)<=(q+1)*a:=Nat.mul_le_mul_left _ c;rw[<-Nat.mul_assoc] at h2;omega
def Mn{d c t q r v1 a b P:Nat}(f:q*v1+r=t)(i:d<(t*B+b+1)*P)(g:(v1*B+a)*P<=c)
  (h:r*B+b<q*a):d<q*c:=by
 have h1:q*((v1*B+a)*P)<=q*c:=Nat.mul_le_mul_left _ g;have h2:t*B+b+1<=q*(v1*B+a):=by
  have:t*B=q*(v1*B)+r*B:=by rw[<-f,Nat.add_mul,Nat.mul_assoc]
  rw[Nat.mul_add];omega
 have e:(t*B+b+1)*P<=q*(v1*B+a)*P:=Nat.mul_le_mul_right _ h2;rw[Nat.mul_assoc] at e;omega
def PK{b a q:Nat}(c:b<B*a)(d:B<=q):b<q*a:=
 Nat.lt_of_lt_of_le c (Nat.mul_le_mul_right _ d)
def C(l:List Nat):Nat->Nat:=λk=>l.getD k 0
def val(l:List Nat):Nat:=S (C l) (ln l)
def Small(l:List Nat):Prop:=∀d,d∈l->d<B
def qn(l:List Nat):Prop:=∀d,l.getLast?=L d->d≠0
structure Canon(l:List Nat):Prop where
 small:Small l
 trim:qn l
theorem aB(h:Small l)(k:Nat):C l k<B:=by
 exact a0e
theorem nk(h:ln l<=k):C l k=0:=by
 unfold C;rw[XJ,List.getElem?_eq_none h];rfl
theorem mS(h:k<ln l):C l k=l[k]:=by
 unfold C;rw[XJ,XO h];rfl
theorem kR(h:ln l<=n):S (C l) n=val l:=Sg h (λ_ hk _=>nk hk)
theorem ti(h:Small l):val l<B^ln l:=uf (λk _=>aB h k)
def DS(l:List Nat)(d:Nat):val (l++[d])=val l+d*B^ln l:=by
 unfold val;rw[Yc];show S _ (ln l+1)=_;rw[cF,fu (g:=C l)]
 ·unfold C;simp
 ·intro k hk;unfold C;simp[List.getElem?_append_left hk]
def pZ(l:List Nat):val (l++[0])=val l:=by rw[DS];simp
theorem Small.snoc(h:Small l)(a:d<B):Small (l++[d]):=by
 intro x hx;rcases List.mem_append.1 hx with hx|hx
 ·exact h x hx
 ·rw[List.mem_singleton.1 hx];exact a
theorem Small.Bm(h:Small (l++[d])):Small l:=λx hx=>h x (by simp[hx])
def nh(l:List Nat):l=[]\/∃m d,l=m++[d]:=by
 rcases List.eq_nil_or_concat l with h|⟨m,d,h⟩
 ·exact .inl h
 ·exact .inr ⟨m,d,Zk⟩
theorem qn.last(h:qn (l++[d])):d≠0:=h d YL
def rC:qn []:=by intro d h;simp at h
theorem yx(h:d≠0):qn (l++[d]):=by intro x hx;simp at hx;omega
theorem xk(h:qn l)(a:l≠[]):B^(ln l-1)<=val l:=by
 rcases nh l with rfl|⟨m,d,rfl⟩
 ·exact absurd H a
 ·rw[DS];have b:=h.last;have:1*B^ln m<=d*B^ln m:=Nat.mul_le_mul_right _ D;simp only[Yc,List.length_singleton,Nat.add_sub_cancel];omega
theorem He(h:qn l)(a:l≠[]):0<val l:=Nat.lt_of_lt_of_le (CI _) (xk h a)
theorem val_eq_zero(h:qn l):val l=0↔l=[]:=by
 constructor
 ·intro b;by_cases a:l=[]
  ·exact a
  ·have:=He h a;omega
 ·rintro rfl;rfl
def cG{a b:List Nat}(c:Small a)(d:qn b)(h:ln a<ln b):val a<val b:=by
 have h1:=ti c;have h2:=xk d (by rintro rfl;simp at h);have e:B^ln a<=B^(ln b-1):=Nat.pow_le_pow_right YK D;omega
def aD(l:List Nat):List Nat:=(l.reverse.dropWhile (· ==0)).reverse
def fo(l:List Nat):aD (l++[0])=aD l:=by unfold aD;simp
theorem jR(h:d≠0):aD (l++[d])=l++[d]:=by unfold aD;simp[h]
def o9:aD []=[]:=rfl
def ik{p:List Nat->Prop}(a:p [])(c:∀l d,p l->p (l++[d]))(l:List Nat):p l:=by
 have:∀m:List Nat,p m.reverse:=by
  intro m
  induction m with
  |nil=>exact a
  |cons d m b=>rw[List.reverse_cons];exact c _ _ b
 have h:=this l.reverse;rwa[List.reverse_reverse] at h
def jb(l:List Nat):val (aD l)=val l:=by
 refine ik (p:=λl=>val (aD l)=val l) H (λl d b=> ?_) l;by_cases a:d=0
 ·subst a;rw[fo,pZ,b]
 ·rw[jR a]
def sf(l:List Nat):∃m,l=aD l++List.replicate m 0:=by
 refine ik (p:=λl=>∃m,l=aD l++List.replicate m 0) ⟨0,H⟩ (λl d b=> ?_) l;by_cases a:d=0
 ·subst a;obtain⟨m,c⟩:=b;refine⟨m+1,?_⟩;rw[fo,List.replicate_succ',<-List.append_assoc,<-c]
 ·exact⟨0,by rw[jR a];simp⟩
theorem fZ(h:Small l):Canon (aD l):=by
 revert h;refine ik (p:=λl=>Small l->Canon (aD l)) (λ_=>⟨λd h=>by simp[o9] at h,rC⟩) (λl d a h=> ?_) l;exact a0f
theorem SS{f g:Nat->Nat}(hi:i<n)(c:∀k,k<n->f k<B)(b:∀k,i<k->k<n->f k=g k)(a:f i<g i):S f n<S g n:=by
 obtain⟨d,rfl⟩:∃d,n=(i+1)+d:=⟨n-(i+1),D⟩;rw[qb f (i+1),qb g (i+1),fu (f:=λk=>f (i+1+k)) (g:=λk=>g (i+1+k)) (λk hk=>b _ D D),cF,cF];have h1:=uf (n:=i) (λk hk=>c k D);have h2:(f i+1)*B^i<=g i*B^i:=Nat.mul_le_mul_right _ a;rw[Nat.add_mul,Nat.one_mul] at h2;omega
def sh(f:Nat->Nat)(i:Nat):Nat->Nat:=λk=>f (i+k)
def Ro(f:Nat->Nat)(i n:Nat):S (sh f i) (n+1)=f i+B*S (sh f (i+1)) n:=by
 have h:=qb (sh f i) 1 n;rw[Nat.add_comm 1 n] at h;rw[h,cF,Hn,Nat.zero_add,Nat.pow_zero,Nat.mul_one,Nat.pow_one];have:S (λk=>sh f i (1+k)) n=S (sh f (i+1)) n:=fu (λk _=>by unfold sh;congr 1;omega);rw[this];unfold sh;simp
def F4{d T Q r a n:Nat}(h:T=d*Q+r)(b:n=a+r*B):
  a+B*T=d*(n/d+B*Q)+n%d:=by
 have h1:d*(n/d)+n%d=n:=Nat.div_add_mod n d;have h2:B*T=d*(B*Q)+B*r:=by rw[h,Nat.mul_add,Nat.mul_left_comm]
 rw[Nat.mul_add,Yd r B] at *;omega
def Nz{d r a n:Nat}(b:r<d)(c:a<B)(e:n=a+r*B):n/d<B/\n%d<d:=by
 refine⟨?_,Nat.mod_lt _ D⟩;rw[Nat.div_lt_iff_lt_mul D];have:(r+1)*B<=d*B:=Nat.mul_le_mul_right _ b;rw[Nat.add_mul,Nat.one_mul,Yd d B] at this;omega
def BR{X c b x a P:Nat}(h:X+c*(P*B)=b+x*a)(f:b<P)(g:a<P)(hx:x<B):c=0:=by
 by_cases d:c=0
 ·exact d
 ·exfalso;have h1:1*(P*B)<=c*(P*B):=Nat.mul_le_mul_right _ D;have h2:x*a<=x*P:=Nat.mul_le_mul_left _ D;have e:(x+1)*P<=B*P:=Nat.mul_le_mul_right _ hx;rw[Nat.add_mul,Nat.one_mul,Yd B P] at e;omega
theorem FP{f g:Nat->Nat}(c:j+n<=m)(a:∀k,k<j->g k=f k)(b:∀k,j+n<=k->k<m->g k=f k):
  S g m+B^j*S (sh f j) n=S f m+B^j*S (sh g j) n:=by
 obtain⟨d,rfl⟩:∃d,m=(j+n)+d:=⟨m-(j+n),D⟩;rw[qb g,qb f,qb g j n,qb f j n,fu (f:=λk=>g (j+n+k)) (g:=λk=>f (j+n+k)) (λk hk=>b _ D D),fu (f:=g) (g:=f) (n:=j) (λk hk=>a k hk)];show _+B^j*S (sh g j) n+_+B^j*S (sh f j) n=_+B^j*S (sh f j) n+_+B^j*S (sh g j) n;omega
def Gq{a b f Q R:Nat}(e:0<f)(j:0<b)(h:a*f=Q*(b*f)+R)(i:R<b*f):Q=a/b/\R=(a%b)*f:=by
 have h1:Q*b<=a:=by
  have:(Q*b)*f<=a*f:=by rw[Nat.mul_assoc];omega
  exact Nat.le_of_mul_le_mul_right this e
 have h2:a<(Q+1)*b:=by
  have:a*f<((Q+1)*b)*f:=by rw[Nat.mul_assoc,Nat.add_mul,Nat.one_mul];omega
  exact Nat.lt_of_mul_lt_mul_right this
 have d:Q=a/b:=by
  rw[eq_comm];refine Nat.div_eq_of_lt_le ?_ ?_
  ·rw[Yd] at h1;rwa[Yd]
  ·exact h2
 refine⟨d,?_⟩;have c:=Nat.div_add_mod a b;rw[<-d] at c;have g:(b*Q+a%b)*f=a*f:=by rw[c]
 rw[Nat.add_mul] at g;have k:Q*(b*f)=b*Q*f:=by rw[<-Nat.mul_assoc,Yd Q b]
 omega
end Kp
namespace Go.Proofs.YtnepbjnlmkppmaaGreatDoor
section
open Kp
def Ae{k:IntKind}{a b:Int}(h:a=b):Ending.returned (.int k a)=YC (.int k b):=by rw[h]
def bT(w:U)(b0:Nat)(v:Z)(l:List Nat):Prop:=
 ∃ab ac,v=V ab (ln l) ac/\ln l<=ac/\ac<=Yk/\
  (0<ln l->∃b off,ab=L ⟨b,off,I⟩/\b<b0/\∀j,j<ln l->w.cell? ⟨b,off+j,I⟩=L (G F (C l j)))
theorem bT.keep{v:Z}(h:bT w b0 v l)(hk:∀p:Ym,p.block<b0->w'.cell? p=w.cell? p):bT w' b0 v l:=by
 obtain⟨ab,ac,rfl,h1,h2,c⟩:=h;refine⟨ab,ac,H,h1,h2,λf=> ?_⟩;obtain⟨b,off,e,a,g⟩:=c f;exact⟨b,off,e,a,λj d=>(hk _ a).trans (g j d)⟩
theorem bT.more{b0 a:Nat}{v:Z}(h:bT w b0 v l)(hb:b0<=a):bT w a v l:=by
 exact a0g
theorem bT.below{v:Z}(h:bT w b0 v l)(b:Yl b0 w w'):bT w' b0 v l:=h.keep λ_ a=>b.cell a
theorem bT.len{v:Z}(h:bT w b0 v l):ln l<=9223372036854775807:=by
 obtain⟨_,_,_,h1,h2,_⟩:=h;unfold Yk at h2;omega
def vF(w:U)(b0:Nat)(v:Z)(l:List Nat)(i:Nat)(h:bT w b0 v l)(hi:i<=4611686018427387904):
  XY Xz 335 #[v,G F i] w λe w'=>e=YC (G F (C l i))/\w=w':=by
 obtain⟨ab,ac,rfl,g,d,c⟩:=h;unfold Yk at d;by_cases f:i<ln l
 ·obtain⟨b,off,rfl,_,a⟩:=c D;have hx:=a i f;clear a;go_enter func335,ntmps335;exact a0h
 ·go_enter func335,ntmps335;go_wp2;go_ret;exact⟨Ae (by rw[nk D];rfl),H⟩
def LL:Z->Nat
 | V _ n _=>n
 |_=>0
theorem yE(hk:k<ln l)(a:C l k=0)(h:aD (l.take (k+1))=aD l):aD (l.take k)=aD l:=by
 rw[<-h,List.take_succ_eq_append_getElem hk];rw[mS hk] at a;rw[a,fo]
theorem yJ(hk:k<ln l)(a:C l k≠0)(h:aD (l.take (k+1))=aD l):(aD l).length=k+1:=by
 rw[<-h,List.take_succ_eq_append_getElem hk];rw[mS hk] at a;rw[jR a];simp;omega
def DW(w:U)(ab:Option Ym)(ac:Nat)(l:List Nat)(h1:ln l<=ac)(h2:ac<=Yk)
  (i:0<ln l->∃b off,ab=L ⟨b,off,I⟩/\∀j,j<ln l->w.cell? ⟨b,off+j,I⟩=L (G F (C l j))):
  XY Xz 315 #[V ab (ln l) ac] w λe w'=>e=YC (V ab (aD l).length ac)/\w=w':=by
 unfold Yk at h2;go_enter func315,ntmps315;go_wp2
 go_loop [0] (λv=>∃k:Nat,k<=ln l/\v=V ab k ac/\Hid (aD (l.take k)=aD l)) (λv=>LL v)
 case atStart=>exact⟨ln l,XE _,H,by simp[Hid]⟩
 case round=>
  obtain⟨k,hk,rfl,d⟩:=hrel;rcases k with _|k
  ·exact a0j
  ·obtain⟨b,off,rfl,c⟩:=i D;have hx:=c k D;by_cases a:C l k=0
   ·have g:((C l k:Int)==0)=Y:=by rw[a];rfl
    have f:=A a;clear a c;go_wp2
    go_round
    case rel=>exact⟨k,D,rfl,yE D f.o d.o⟩
    case measure=>simp[LL]
   ·exact a0i
end
section
open Kp
def Row(w:U)(g ac:Nat)(l:List Nat):Prop:=
 ∃cur:Array Z,w.heap[g]?=L (.cells cur 3 (0,0))/\cur.size=ac/\ln l<=ac/\ac<=Yk/\∀j,j<ln l->cur[j]?=L (G F (C l j))
theorem Row.lt(h:Row w g ac l):g<w.heap.size:=by
 obtain⟨cur,a,_⟩:=h;exact(XV.1 a).1
theorem Row.cell(h:Row w g ac l)(c:j<ln l):w.cell? ⟨g,j,I⟩=L (G F (C l j)):=by
 obtain⟨cur,b,_,_,_,a⟩:=h;simp[World.cell?,b,a j c]
theorem Row.frozen(h:Row w g ac l)(j:Nat):w.frozen? ⟨g,j,I⟩=O:=by
 obtain⟨cur,a,_⟩:=h;simp[World.frozen?,a]
theorem jq(a:j<ln l):C (l.set j x) k=if k=j then x else C l k:=by
 exact a0k
theorem Row.set(h:Row w g ac l)(b:j<ln l)(x:Nat):Row (w.setCell ⟨g,j,I⟩ (G F x)) g ac (l.set j x):=by
 obtain⟨cur,d,h1,h2,c,a⟩:=h;refine⟨cur.setIfInBounds j (G F x),?_,by simp[h1],by simpa using h2,c,λk hk=> ?_⟩
 ·simp[World.setCell,Array.getElem?_modify,d]
 ·exact a0l
theorem Row.keep(h:Row w g ac l)(hk:w'.heap[g]?=w.heap[g]?):Row w' g ac l:=by
 obtain⟨cur,a,r⟩:=h;exact⟨cur,hk.trans a,r⟩
theorem Row.drew(h:Row w g ac l):Row w.drew g ac l:=h
theorem Row.drewN(h:Row w g ac l)(n:Nat):Row (w.drewN n) g ac l:=h
theorem Row.sl(h:Row w g ac l)(a:g<b0):bT w b0 (V (L ⟨g,0,I⟩) (ln l) ac) l:=by
 exact a0m
structure eX(g:Nat)(w w':U):Prop where
 os:w'.os=w.os
 tape:w'.tape=w.tape
 output:w'.output=w.output
 size:w'.heap.size=w.heap.size
 block:∀k,k≠g->w'.heap[k]?=w.heap[k]?
def eX.refl(g:Nat)(w:U):eX g w w:=⟨rfl,rfl,rfl,rfl,λ_ _=>rfl⟩
theorem eX.drewN(h:eX g w w')(n:Nat):eX g w (w'.drewN n):=⟨h.os,h.tape,h.output,h.size,h.block⟩
theorem eX.drew(h:eX g w w'):eX g w w'.drew:=⟨h.os,h.tape,h.output,h.size,h.block⟩
theorem eX.set(h:eX g w w')(j:Nat)(x:Z):eX g w (w'.setCell ⟨g,j,I⟩ x):=
 ⟨h.os,h.tape,h.output,by simpa[World.setCell] using h.size,λk hk=>(Below.heap_setCell w' ⟨g,j,I⟩ x k hk).trans (h.block k hk)⟩
theorem eX.trans{a b c:U}(h:eX g a b)(k:eX g b c):eX g a c:=
 ⟨k.os.trans h.os,k.tape.trans h.tape,k.output.trans h.output,k.size.trans h.size,λi hi=>(k.block i hi).trans (h.block i hi)⟩
theorem eX.cell(h:eX g w w')(a:p.block≠g):w'.cell? p=w.cell? p:=World.cell?_of_block (h.block _ a)
theorem eX.sl(h:eX g w w'){v:Z}(a:bT w b0 v l)(c:b0<=g):bT w' b0 v l:=a.keep λp b=>h.cell D
theorem eX.below(h:eX g w w')(a:b0<=g):Yl b0 w w':=
 ⟨h.os,h.tape,h.output,by rw[h.size];exact XE _,λk hk=>h.block k D⟩
theorem Am{v:Z}(h:w.cell? p=L v):p.block<w.heap.size:=by
 rcases Nat.lt_or_ge p.block w.heap.size with b|a
 ·exact b
 ·unfold World.cell? at h;rw[Array.getElem?_eq_none a] at h;simp at h
def JP(w:U)(g:Nat)(v:Z)(l:List Nat):Prop:=
 ∃ab ac,v=V ab (ln l) ac/\ln l<=ac/\ac<=Yk/\
  (0<ln l->∃b off,ab=L ⟨b,off,I⟩/\b≠g/\∀j,j<ln l->w.cell? ⟨b,off+j,I⟩=L (G F (C l j)))
theorem JP.all{v:Z}(h:JP w g v l):bT w w.heap.size v l:=by
 obtain⟨ab,ac,rfl,h1,h2,d⟩:=h;refine⟨ab,ac,H,h1,h2,λa=> ?_⟩;obtain⟨b,off,e,f,c⟩:=d a;exact⟨b,off,e,Am (c 0 a),c⟩
theorem eX.Uf(h:eX g w w'){v:Z}(k:JP w g v l):JP w' g v l:=by
 obtain⟨ab,ac,rfl,h1,h2,c⟩:=k;refine⟨ab,ac,H,h1,h2,λf=> ?_⟩;obtain⟨b,off,e,a,i⟩:=c f;exact⟨b,off,e,a,λj d=>(h.cell a).trans (i j d)⟩
theorem bT.eC{v:Z}(h:bT w b0 v l)(a:b0<=g):JP w g v l:=by
 exact a0g
theorem Row.Uf(h:Row w g ac l)(a:g≠g'):JP w g' (V (L ⟨g,0,I⟩) (ln l) ac) l:=by
 exact a0m
end
section
open Kp
def cQ{n:Int}(a: -9223372036854775808<=n)(h1:n<=9223372036854775807):F.wrap n=n:=Yh _ D
def o8(w:U)(g ac:Nat)(u v:List Nat)(j q k c:Nat)(a:List Nat)(w':U):Prop:=
 Row w' g ac a/\ln a=ln u/\Small a/\(∀i,i<j\/j+k<=i->C a i=C u i)/\
  S (sh (C a) j) k+q*S (C v) k=S (sh (C u) j) k+c*B^k/\c<=2000000010/\eX g w w'
def Pk(w:U)(g ac:Nat)(u v:List Nat)(j q:Nat)(c i:Z)(w':U):Prop:=
 ∃(k a:Nat) (b:List Nat),k<=ln v+1/\i=G F k/\c=G F a/\o8 w g ac u v j q k a b w'
def L7(w:U)(g ac:Nat)(u v:List Nat)(j q:Nat)(e:Ending)(w':U):Prop:=
 ∃(c:Nat) (a:List Nat),e=YC (Yz (YG (0<c)))/\o8 w g ac u v j q (ln v+1) c a w'
def FG(w:U)(b0:Nat)(v:Z)(l:List Nat)(i:Nat)(h:bT w b0 v l)(hi:i<=4611686018427387904):
  XY Xz 335 #[v,G F i] w λe w'=>e=YC (G F (C l i))/\w'=w:=
 (vF w b0 v l i h hi).mono λ_ _ h=>⟨h.1,h.2.symm⟩
def py{q x:Nat}(a:q<=2000000000)(hx:x<1000000000):0<=(q:Int)*(x:Int)/\(q:Int)*(x:Int)<=2000000000000000000:=by
 have h:q*x<=2000000000*1000000000:=Nat.mul_le_mul a D;have e:((q*x:Nat):Int)=(q:Int)*(x:Int):=YL;omega
theorem Et(h:j+k<ln l):S (sh (C (l.set (j+k) x)) j) (k+1)=S (sh (C l) j) k+x*B^k:=by
 rw[cF,fu (g:=sh (C l) j)]
 ·have:sh (C (l.set (j+k) x)) j k=x:=by unfold sh;rw[jq h,XT rfl]
  rw[this]
 ·intro i hi;unfold sh;rw[jq h,XQ D]
theorem Small.set(h:Small l)(hx:x<B):Small (l.set j x):=by
 exact a0n
theorem xY{u v a:List Nat}{j q k c x d:Nat}(n:Nat)(l:o8 w g ac u v j q k c a wr)(z:j+k<ln u)
  (hx:x<1000000000)(t:d<=2000000010)(e:x+q*C v k+c=C a (j+k)+d*1000000000):
  o8 w g ac u v j q (k+1) d (a.set (j+k) x) ((wr.drewN n).setCell ⟨g,j+k,I⟩ (G F x)):=by
 obtain⟨m,r,s,b,o,y,f⟩:=l;refine⟨(m.drewN n).set D x,a0a,Small.set s hx,λi hi=> ?_,?_,t,(f.drewN n).set _ _⟩
 ·rw[jq D,XQ D];exact b i D
 ·rw[Et D,cF (C v),cF (sh (C u) j),Nat.pow_succ];refine JR o ?_;exact a0o
def M0{a c p:Nat}(h:(a:Int)-c-p<0)(e:c<=2000000010)(d:p<=2000000000000000000):
  ∃b x:Nat,(-((a:Int)-c-p)+1000000000-1)/1000000000=b/\(a:Int)-c-p+(b:Int)*1000000000=x/\x<1000000000/\b<=2000000010/\x+p+c=a+b*1000000000:=by
 refine⟨((-((a:Int)-c-p)+1000000000-1)/1000000000).toNat,((a:Int)-c-p+((-((a:Int)-c-p)+1000000000-1)/1000000000)*1000000000).toNat,?_,?_,?_,?_,?_⟩<;>omega
def Pq(w:U)(g ac:Nat)(u v:List Nat)(s:Z)(j q:Nat)(d:Row w g ac u)(m:JP w g s v)(hu:Small u)(P:Small v)
  (hj:j+ln v+1<=ln u)(M:q<=2000000000)(aa:ln u<=4294967296):
  XY Xz 321 #[V (L ⟨g,0,I⟩) (ln u) ac,s,G F j,G F q] w (L7 w g ac u v j q):=by
 have af:ln u<=ac/\ac<=9223372036854775807:=ZR;obtain⟨ab,ad,rfl,ah,N,al⟩:=id m;unfold Yk at N;go_enter func321,ntmps321;go_wp2;go_loopw [9,15] (λc i wr=>Pk w g ac u v j q c i wr) (λ_ i _=>ln v+1-(Yf i).toNat)
 case atStart=>exact⟨0,0,u,D,rfl,rfl,d,rfl,hu,λ_ _=>rfl,by simp[S],D,eX.refl _ _⟩
 case round=>
  obtain⟨k,c,a,hk,rfl,rfl,hrel⟩:=hrel;obtain⟨b,y,o,J,R,O,n⟩:=id hrel;by_cases ai:k<ln v+1
  ·have hx:=b.cell (j:=j+k) D;have ag:=b.frozen (j+k);have Y:C a (j+k)<1000000000:=aB o (j+k);have T:C v k<1000000000:=aB P k;obtain⟨X,lL⟩:=py M T;have E:=(n.Uf m).all;have w1:F.wrap ((j:Int)+k)=j+k:=cQ D D;have ae:0<=(j:Int)+k:=D;have ak:((j:Int)+k).toNat=j+k:=D;have w2:F.wrap ((C a (j+k):Int)-c)=C a (j+k)-c:=cQ D D;have w3:F.wrap ((q:Int)*(C v k:Int))=q*C v k:=cQ D D;have w4:F.wrap ((C a (j+k):Int)-c-(q:Int)*(C v k:Int))=C a (j+k)-c-q*C v k:=cQ D D;have aj:(j:Int)+k<ln u:=D;have l:=A hrel;clear hrel R J y o b n;go_wp2_with fail
   go_quiet ((go_at_call 335;exact Calls.quiet_of_same (FG _ _ _ v k E D)))
   go_wp2
   ·have r:(C a (j+k):Int)-c-(q:Int)*(C v k:Int)<0:=YT;have e:((q:Int)*(C v k:Int))=((q*C v k:Nat):Int):=YL;rw[e] at r lL⊢;obtain⟨K,x,z,f,Q,B,t⟩:=M0 r O D;rw[z,f];exact⟨⟨k+1,K,_,D,by go_num,rfl,xY nq l.o D Q B t⟩,YO⟩
   ·have W:0<=(C a (j+k):Int)-c-(q:Int)*(C v k:Int):=YT;have e:((q:Int)*(C v k:Int))=((q*C v k:Nat):Int):=YL;rw[e] at W lL⊢;have f:(C a (j+k):Int)-c-((q*C v k:Nat):Int)=((C a (j+k)-c-q*C v k:Nat):Int):=D;rw[f];exact⟨⟨k+1,0,_,D,by go_num,rfl,xY nq l.o D D D D⟩,YO⟩
  ·obtain rfl:k=ln v+1:=D;go_wp2;go_ret;exact⟨c,a,H,hrel⟩
end
section
open Kp
def lV(w:U)(g ac:Nat)(u v:List Nat)(j q k c:Nat)(a:List Nat)(w':U):Prop:=
 Row w' g ac a/\ln a=ln u/\Small a/\(∀i,i<j\/j+k<=i->C a i=C u i)/\
  S (sh (C a) j) k+c*B^k=S (sh (C u) j) k+q*S (C v) k/\c<=2000000010/\eX g w w'
def ND(w:U)(g ac:Nat)(u v:List Nat)(j q:Nat)(c i:Z)(w':U):Prop:=
 ∃(k a:Nat) (b:List Nat),k<=ln v+1/\i=G F k/\c=G F a/\lV w g ac u v j q k a b w'
def Nf(w:U)(g ac:Nat)(u v:List Nat)(j q:Nat)(e:Ending)(w':U):Prop:=
 ∃(c:Nat) (a:List Nat),e=YC (V (L ⟨g,0,I⟩) (ln u) ac)/\lV w g ac u v j q (ln v+1) c a w'
theorem zg{u v a:List Nat}{j q k c x d:Nat}(n:Nat)(l:lV w g ac u v j q k c a wr)(z:j+k<ln u)
  (hx:x<1000000000)(t:d<=2000000010)(e:x+d*1000000000=C a (j+k)+q*C v k+c):
  lV w g ac u v j q (k+1) d (a.set (j+k) x) ((wr.drewN n).setCell ⟨g,j+k,I⟩ (G F x)):=by
 obtain⟨m,r,s,b,o,y,f⟩:=l;refine⟨(m.drewN n).set D x,a0a,Small.set s hx,λi hi=> ?_,?_,t,(f.drewN n).set _ _⟩
 ·rw[jq D,XQ D];exact b i D
 ·rw[Et D,cF (C v),cF (sh (C u) j),Nat.pow_succ];refine Bw o ?_;exact a0o
def Dj(w:U)(g ac:Nat)(u v:List Nat)(m:Z)(j q:Nat)(d:Row w g ac u)(e:JP w g m v)(hu:Small u)(B:Small v)
  (Q:j+ln v+1<=ln u)(y:q<=2000000000)(O:ln u<=4294967296):
  XY Xz 322 #[V (L ⟨g,0,I⟩) (ln u) ac,m,G F j,G F q] w (Nf w g ac u v j q):=by
 have T:ln u<=ac/\ac<=9223372036854775807:=ZR;obtain⟨ab,P,rfl,X,z,ae⟩:=id e;unfold Yk at z;go_enter func322,ntmps322;go_wp2;go_loopw [9,15] (λc i wr=>ND w g ac u v j q c i wr) (λ_ i _=>ln v+1-(Yf i).toNat)
 case atStart=>exact⟨0,0,u,D,rfl,rfl,d,rfl,hu,λ_ _=>rfl,by simp[S],D,eX.refl _ _⟩
 case round=>
  obtain⟨k,c,a,hk,rfl,rfl,hrel⟩:=hrel;obtain⟨b,o,l,x,E,hc,f⟩:=id hrel;by_cases Y:k<ln v+1
  ·have hx:=b.cell (j:=j+k) D;have W:=b.frozen (j+k);have N:C a (j+k)<1000000000:=aB l (j+k);have J:C v k<1000000000:=aB B k;obtain⟨M,lL⟩:=py y J;have s:=(f.Uf e).all;have w1:F.wrap ((j:Int)+k)=j+k:=cQ D D;have R:0<=(j:Int)+k:=D;have ad:((j:Int)+k).toNat=j+k:=D;have w3:F.wrap ((q:Int)*(C v k:Int))=q*C v k:=cQ D D;have w2:F.wrap ((C a (j+k):Int)+(q:Int)*(C v k:Int))=C a (j+k)+q*C v k:=cQ D D;have w4:F.wrap ((C a (j+k):Int)+(q:Int)*(C v k:Int)+c)=C a (j+k)+q*C v k+c:=cQ D D;have aa:(j:Int)+k<ln u:=D;have n:=A hrel;clear hrel E x o l b f;go_wp2_with fail
   go_quiet ((go_at_call 335;exact Calls.quiet_of_same (FG _ _ _ v k s D)))
   go_wp2;have t:((q:Int)*(C v k:Int))=((q*C v k:Nat):Int):=YL;rw[t] at lL⊢;have r:((C a (j+k):Int)+((q*C v k:Nat):Int)+c)/1000000000=(((C a (j+k)+q*C v k+c)/1000000000:Nat):Int):=D;have K:((C a (j+k):Int)+((q*C v k:Nat):Int)+c)%1000000000=(((C a (j+k)+q*C v k+c)%1000000000:Nat):Int):=D;rw[r,K];exact⟨⟨k+1,_,_,D,by go_num,rfl,zg nq n.o D D D D⟩,YO⟩
  ·obtain rfl:k=ln v+1:=D;go_wp2;go_ret;exact⟨c,a,H,hrel⟩
end
section
open Kp
def BI(b a un u1 v1 q r:Nat):Prop:=
 q*v1+r=un*1000000000+u1/\b<(q+1)*a/\q<=2000000000/\r<1000000000
def P8(w:U)(d c un u1 v1:Nat)(q r:Z)(w':U):Prop:=
 ∃b a n:Nat,q=G F b/\r=G F a/\BI d c un u1 v1 b a/\w'=w.drewN n
def Qc(w:U)(b a:Nat)(e:Ending)(w':U):Prop:=
 ∃q n:Nat,e=YC (G F q)/\b<(q+1)*a/\q<=2000000000/\w'=w.drewN n
def PX{v:List Nat}(b:2<=ln v):C v (ln v-1)*B^(ln v-1)<=val v/\(C v (ln v-1)*B+C v (ln v-2))*B^(ln v-2)<=val v:=by
 obtain⟨m,a⟩:∃m,ln v=m+2:=⟨ln v-2,D⟩;unfold val;rw[a,cF,cF];show C v (m+1)*B^(m+1)<=_/\(C v (m+1)*B+C v m)*B^m<=_;refine⟨Nat.le_add_left _ _,?_⟩;rw[Nat.pow_succ,Nat.add_mul];have:C v (m+1)*(B^m*B)=C v (m+1)*B*B^m:=by rw[Yd (B^m),Nat.mul_assoc]
 omega
theorem RQ(hu:Small u)(i:2<=n):
  S (sh (C u) j) (n+1)<(C u (j+n)*B+C u (j+n-1)+1)*B^(n-1)/\
  S (sh (C u) j) (n+1)<((C u (j+n)*B+C u (j+n-1))*B+C u (j+n-2)+1)*B^(n-2):=by
 obtain⟨m,rfl⟩:∃m,n=m+2:=⟨n-2,D⟩;have h1:S (sh (C u) j) (m+1)<B^(m+1):=uf (λk _=>aB hu _);have e:S (sh (C u) j) m<B^m:=uf (λk _=>aB hu _);rw[cF,cF (sh (C u) j) (m+1)];show S (sh (C u) j) (m+1)+C u (j+(m+1))*B^(m+1)+C u (j+(m+2))*B^(m+2)<(C u (j+(m+2))*B+C u (j+(m+1))+1)*B^(m+1)/\
  S (sh (C u) j) (m+1)+C u (j+(m+1))*B^(m+1)+C u (j+(m+2))*B^(m+2)<((C u (j+(m+2))*B+C u (j+(m+1)))*B+C u (j+m)+1)*B^m
 generalize C u (j+(m+2))=a;generalize C u (j+(m+1))=b;have ea:a*B^(m+2)=a*B*B^(m+1):=by rw[Nat.pow_succ B (m+1),Yd (B^(m+1)),Nat.mul_assoc]
 constructor
 ·rw[Nat.add_mul,Nat.add_mul,Nat.one_mul,ea];omega
 ·rw[cF];show S (sh (C u) j) m+C u (j+m)*B^m+b*B^(m+1)+a*B^(m+2)<_;generalize C u (j+m)=c;have d:((a*B+b)*B+c+1)*B^m=a*B^(m+2)+b*B^(m+1)+c*B^m+B^m:=by
   rw[ea,Nat.pow_succ,Nat.add_mul,Nat.add_mul,Nat.one_mul,Nat.add_mul,Nat.add_mul];have g:a*B*B*B^m=a*B*(B^m*B):=by rw[Nat.mul_assoc (a*B),Yd B (B^m)]
   have f:b*B*B^m=b*(B^m*B):=by rw[Nat.mul_assoc,Yd B (B^m)]
   omega
  rw[d];omega
def Lo{b d un u1 v1 P:Nat}(c:b<(un*B+u1+1)*P)(g:v1*P<=d)(l:v1<1000000000)(k:u1<1000000000)(h1:1<=v1)(i:un<=v1):
  BI b d un u1 v1 ((un*1000000000+u1)/v1) ((un*1000000000+u1)%v1):=by
 obtain⟨t,a⟩:=aa (un*B+u1);rw[a] at c;have e:un*1000000000+u1=t:=a;unfold BI;rw[e];have f:=Nat.div_add_mod t v1;have j:=Nat.mod_lt t h1;refine⟨by rw[Yd];exact f,K8 c g ?_,?_,D⟩
 ·rw[Nat.add_mul,Nat.one_mul,Yd];omega
 ·have:t<=2000000000*v1:=D;exact Nat.div_le_of_le_mul (by rw[Yd];exact this)
def Mh{b c un u1 e v1 f q r P:Nat}(j:b<((un*B+u1)*B+e+1)*P)(i:(v1*B+f)*P<=c)(k:b<B*c)(h:BI b c un u1 v1 q r)
  (a:1000000000<=q\/r*1000000000+e<q*f):
  1<=q/\b<(q-1+1)*c/\(q-1)*v1+(r+v1)=un*1000000000+u1:=by
 obtain⟨g,n,m,l⟩:=h;have h1:1<=q:=by
  rcases a with a|a
  ·omega
  ·rcases Nat.eq_zero_or_pos q with d|d
   ·subst d;omega
   ·exact d
 refine⟨h1,?_,?_⟩
 ·rw[Nat.sub_add_cancel h1];rcases a with a|a
  ·exact PK k a
  ·exact Mn g j i a
 ·have:q*v1=(q-1)*v1+v1:=by
   rw[<-Nat.succ_mul,Nat.succ_eq_add_one,Nat.sub_add_cancel h1]
  omega
theorem Rw(h1:un<1000000000)(h2:u1<1000000000)(a:1<=v1):
  F.wrap (((un:Int)*1000000000+u1).tdiv v1)=(((un*1000000000+u1)/v1:Nat):Int):=by
 rw[IntWalk.i64_quo _ _ ⟨D,D,D⟩];simp
theorem RV:((un:Int)*1000000000+u1).tmod v1=(((un*1000000000+u1)%v1:Nat):Int):=by
 rw[IntWalk.rem_in _ _ D];simp
def BF(w:U)(g Q:Nat)(u v:List Nat)(ab:Option Ym)(ae j b0:Nat)(d:Row w g Q u)(hv:bT w b0 (V ab (ln v) ae) v)(hu:Small u)(W:Small v)
  (hn:2<=ln v)(hj:j+ln v<ln u)(aD:ln u<=4294967296)(h1:1<=C v (ln v-1))(ad:C u (j+ln v)<=C v (ln v-1))
  (hU:S (sh (C u) j) (ln v+1)<B*val v):
  XY Xz 320 #[V (L ⟨g,0,I⟩) (ln u) Q,V ab (ln v) ae,G F j] w (Qc w (S (sh (C u) j) (ln v+1)) (val v)):=by
 have aE:ln u<=Q/\Q<=9223372036854775807:=ZR;obtain⟨A',av,e,ay,am,ag⟩:=hv;injection e with l e2 e3
 subst l e3;obtain⟨b,off,rfl,_,aa⟩:=ag D;unfold Yk at am;have sg:=RQ (j:=j) hu hn;have vt:=PX hn;have c0:=d.cell hj;have c1:=d.cell (j:=j+ln v-1) D;have c2:=d.cell (j:=j+ln v-2) D;have d1:=aa (ln v-1) D;have d2:=aa (ln v-2) D;have aA:C u (j+ln v)<1000000000:=aB hu _;have ah:C u (j+ln v-1)<1000000000:=aB hu _;have az:C u (j+ln v-2)<1000000000:=aB hu _;have ai:C v (ln v-1)<1000000000:=aB W _;have ap:C v (ln v-2)<1000000000:=aB W _;have af:=A (Lo sg.1 vt.1 ai ah h1 ad);have ac:=A (λq r=>Mh (q:=q) (r:=r) sg.2 vt.2 hU);clear aa ag d hU ad W hu sg vt;generalize S (sh (C u) j) (ln v+1)=aj at *;generalize val v=al at *;generalize C u (j+ln v)=un at *;generalize C u (j+ln v-1)=u1 at *;generalize C u (j+ln v-2)=f at *;generalize C v (ln v-1)=v1 at *;generalize C v (ln v-2)=a at *;have y1:un<1000000000:=D;have y2:u1<1000000000:=D;have y3:1<=v1:=D;have ax:¬v1=0:=D;have x1:(j:Int)+ln v<ln u:=D;have x2:(j:Int)+ln v-1<ln u:=D;have x3:0<=(j:Int)+ln v-1:=D;have E:0<=(ln v:Int)-1:=D;have y:(ln v:Int)-1<ln v:=D;have w1:F.wrap ((j:Int)+ln v)=j+ln v:=cQ D D;have ar:((j:Int)+ln v).toNat=j+ln v:=D;have w2:F.wrap ((j:Int)+ln v-1)=j+ln v-1:=cQ D D;have au:((j:Int)+ln v-1).toNat=j+ln v-1:=D;have w3:F.wrap ((un:Int)*1000000000)=un*1000000000:=cQ D D;have w4:F.wrap ((un:Int)*1000000000+u1)=un*1000000000+u1:=cQ D D;have m:F.wrap ((ln v:Int)-1)=ln v-1:=cQ D D;have i:((ln v:Int)-1).toNat=ln v-1:=D;have w6:=Rw (un:=un) (u1:=u1) (v1:=v1) y1 y2 y3;have w7:=RV (un:=un) (u1:=u1) (v1:=v1);go_enter func320,ntmps320;go_wp2_with fail
 go_quiet (fail)
 go_wp2_with fail
 go_quiet (fail)
 go_wp2_with fail
 clear w1 ar w2 au w3 w4 w6 w7 m i x1 x2 x3 E y;go_loopw [9,10] (λq r wr=>P8 w aj al un u1 v1 q r wr) (λq _ _=>(Yf q).toNat)
 case atStart=>exact⟨_,_,_,H,H,af.o,World.drewN_drewN _ _ _⟩
 case round=>
  obtain⟨q,r,n,rfl,rfl,hrel,rfl⟩:=hrel;obtain⟨_,_,hq,d⟩:=id hrel;have X:=A hrel;clear hrel af;have p1:=py hq ap;by_cases hA:1000000000<=q
  ·have k:=ac.o q r X.o (.inl hA);have J:=A k.2;have ao:=k.1;clear k;have aw:(1000000000:Int)<=q:=D;have E:0<=(ln v:Int)-1:=D;have y:(ln v:Int)-1<ln v:=D;have l:(q:Int)-1=((q-1:Nat):Int):=D;have E1:=A l;clear l;have c:r+v1<1000000000\/¬r+v1<1000000000:=D;have o:F.wrap ((q:Int)-1)=q-1:=cQ D D;have s:F.wrap ((r:Int)+v1)=r+v1:=cQ D D;have m:F.wrap ((ln v:Int)-1)=ln v-1:=cQ D D;have i:((ln v:Int)-1).toNat=ln v-1:=D;rcases c with c|c
   ·have T:(r:Int)+v1<1000000000:=D;have Z:YG ((1000000000:Int)<=(r:Int)+v1)=O:=YP;go_wp2_with fail
    go_quiet (fail)
    go_wp2_with fail
    go_quiet (fail)
    clear o s m i;exact a0q
   ·have T:(1000000000:Int)<=(r:Int)+v1:=D;have Z:YG ((1000000000:Int)<=(r:Int)+v1)=Y:=YP;go_wp2_with fail
    go_quiet (fail)
    go_wp2_with fail
    go_quiet (fail)
    clear o s m i;exact a0p
  ·by_cases hC:r*1000000000+f<q*a
   ·have k:=ac.o q r X.o (.inr hC);have J:=A k.2;have ao:=k.1;clear k;have ak:(r:Int)*1000000000+f<(q:Int)*a:=by
     have:((q*a:Nat):Int)=(q:Int)*a:=YL;omega
    have E:0<=(ln v:Int)-1:=D;have y:(ln v:Int)-1<ln v:=D;have x6:0<=(ln v:Int)-2:=D;have x7:(ln v:Int)-2<ln v:=D;have x8:0<=(j:Int)+ln v-2:=D;have x9:(j:Int)+ln v-2<ln u:=D;have an:(r:Int)<1000000000:=D;have aq:YG ((1000000000:Int)<=q)=O:=YP;have z:((ln v:Int)-2).toNat=ln v-2:=D;have K:((j:Int)+ln v-2).toNat=j+ln v-2:=D;have x:F.wrap ((ln v:Int)-2)=ln v-2:=cQ D D;have M:F.wrap ((j:Int)+ln v)=j+ln v:=cQ D D;have t:F.wrap ((j:Int)+ln v-2)=j+ln v-2:=cQ D D;have P:F.wrap ((q:Int)*a)=q*a:=cQ D D;have N:F.wrap ((r:Int)*1000000000)=r*1000000000:=cQ D D;have R:F.wrap ((r:Int)*1000000000+f)=r*1000000000+f:=cQ D D;have l:(q:Int)-1=((q-1:Nat):Int):=D;have E1:=A l;clear l;have c:r+v1<1000000000\/¬r+v1<1000000000:=D;have o:F.wrap ((q:Int)-1)=q-1:=cQ D D;have s:F.wrap ((r:Int)+v1)=r+v1:=cQ D D;have m:F.wrap ((ln v:Int)-1)=ln v-1:=cQ D D;have i:((ln v:Int)-1).toNat=ln v-1:=D;rcases c with c|c
    ·have T:(r:Int)+v1<1000000000:=D;have Z:YG ((1000000000:Int)<=(r:Int)+v1)=O:=YP;go_wp2_with fail
     go_quiet (fail)
     go_wp2_with fail
     go_quiet (fail)
     clear o s m i x M t P N R z K;exact a0q
    ·have T:(1000000000:Int)<=(r:Int)+v1:=D;have Z:YG ((1000000000:Int)<=(r:Int)+v1)=Y:=YP;go_wp2_with fail
     go_quiet (fail)
     go_wp2_with fail
     go_quiet (fail)
     clear o s m i x M t P N R z K;exact a0p
   ·have ak:¬(r:Int)*1000000000+f<(q:Int)*a:=by
     have:((q*a:Nat):Int)=(q:Int)*a:=YL;omega
    have aC:YG ((r:Int)*1000000000+f<(q:Int)*a)=O:=YP;have E:0<=(ln v:Int)-1:=D;have y:(ln v:Int)-1<ln v:=D;have x6:0<=(ln v:Int)-2:=D;have x7:(ln v:Int)-2<ln v:=D;have x8:0<=(j:Int)+ln v-2:=D;have x9:(j:Int)+ln v-2<ln u:=D;have an:(r:Int)<1000000000:=D;have aq:YG ((1000000000:Int)<=q)=O:=YP;have z:((ln v:Int)-2).toNat=ln v-2:=D;have K:((j:Int)+ln v-2).toNat=j+ln v-2:=D;have x:F.wrap ((ln v:Int)-2)=ln v-2:=cQ D D;have M:F.wrap ((j:Int)+ln v)=j+ln v:=cQ D D;have t:F.wrap ((j:Int)+ln v-2)=j+ln v-2:=cQ D D;have P:F.wrap ((q:Int)*a)=q*a:=cQ D D;have N:F.wrap ((r:Int)*1000000000)=r*1000000000:=cQ D D;have R:F.wrap ((r:Int)*1000000000+f)=r*1000000000+f:=cQ D D;go_wp2_with fail
    go_quiet (fail)
    clear x M t P N R z K;go_wp2_with fail
    go_ret;exact⟨q,_,H,X.o.2.1,D,Zu⟩
end
section
open Kp
def ie:(Xz.info? 3).map (λi=>(i.zero,i.size,i.bytes))=L (L (G F 0),1,8):=R
theorem wH(h:w.ownsRow base 3 1 (V (L ⟨g,0,I⟩) n ac) n xs)(r:ln l=n)
  (hx:∀j,j<ln l->xs[j]?=L (G F (C l j))):Row w g ac l:=by
 obtain⟨k,h|⟨g',o,cur,e,q,c,h1,h2,i,f⟩⟩:=h
 ·obtain⟨h,_⟩:=h;cases h
 ·injection e with a m b
  injection a with a
  injection a with a
  subst a b;refine⟨cur,c,D,D,h2,λj d=> ?_⟩;have:=hx j d;rw[<-f,List.getElem?_take,XT D] at this;exact a0r
theorem FJ(h:Row w g ac l)(e:base<=g):
  w.ownsRow base 3 1 (V (L ⟨g,0,I⟩) (ln l) ac) (ln l) (l.map λ(d:Nat)=>Value.int .i64 (d:Int)):=by
 obtain⟨cur,f,h1,h2,c,b⟩:=h;refine⟨YL,.inr ⟨g,ac,cur,rfl,e,f,h2,c,D,?_⟩⟩;apply List.ext_getElem?;intro j;rw[List.getElem?_take];by_cases a:j<ln l
 ·rw[XT D,List.getElem?_map,XO a];have:=b j a;rw[mS a] at this;exact a0r
 ·rw[XQ D,List.getElem?_map,List.getElem?_eq_none D];rfl
def mC(n k:Nat):C (List.replicate n 0) k=0:=by
 unfold C;rw[XJ,List.getElem?_replicate];split <;>rfl
def tT(n:Nat):Small (List.replicate n 0):=by
 intro d a;rw[List.eq_of_mem_replicate a];decide
theorem lO(h:w.ownsRow base 3 1 (V (L ⟨g,0,I⟩) n n) n (madeCells (Value.int .i64 0).cells (n*1)).toList):Row w g n (List.replicate n 0):=by
 refine wH h YL (λj a=> ?_);simp at a;rw[mC];simp[madeCells,Value.cells,a,Nat.mod_one]
def bC(l:List Nat):(aD l).length<=ln l:=by
 obtain⟨m,a⟩:=sf l;have:=Yv List.length a;simp at this;omega
theorem wW(a:j<(aD l).length):C (aD l) j=C l j:=by
 obtain⟨m,b⟩:=sf l;have c:=bC l;have:l[j]?=(aD l)[j]?:=by
  have e:l[j]?=(aD l++List.replicate m 0)[j]?:=by rw[<-b]
  rw[e,List.getElem?_append_left a]
 unfold C;rw[XJ,XJ,this]
theorem Row.trimmed(h:Row w g ac l):Row w g ac (aD l):=by
 have e:=bC l;obtain⟨cur,c,h1,h2,b,a⟩:=h;exact⟨cur,c,h1,D,b,λj d=>by rw[wW d];exact a j D⟩
theorem kV(h:Row w g ac l)(d:ln l=n):
  XY Xz 315 #[V (L ⟨g,0,I⟩) n ac] w λe w'=>e=YC (V (L ⟨g,0,I⟩) (aD l).length ac)/\w=w':=by
 subst d;have b:=h;obtain⟨cur,i,h1,h2,a,f⟩:=h;exact DW w _ ac l h2 a (λ_=>⟨g,0,rfl,λj c=>by rw[Nat.zero_add];exact b.cell c⟩)
def qW(w1:U)(g n:Nat)(a b:List Nat)(i:Nat)(an:List Nat)(w':U):Prop:=
 Row w' g n an/\ln an=n/\Small an/\(∀k,i+ln b<=k->C an k=0)/\S (C an) n=S (C a) i*val b/\eX g w1 w'
def LN(w1:U)(g n:Nat)(a b:List Nat)(i:Z)(w':U):Prop:=
 ∃(k:Nat) (an:List Nat),k<=ln a/\i=G F k/\qW w1 g n a b k an w'
def Qt(d:U)(g ac:Nat)(u v:List Nat)(j q:Nat)(c i:Z)(w':U):Prop:=
 ∃(k a:Nat) (b:List Nat),k<=ln v+1/\i=G F k/\c=G F a/\lV d g ac u v j q k a b w'
theorem KY{w1 o wr:U}{a b an d:List Nat}(K:n=ln a+ln b+1)(hi:i<ln a)(x:Small a)(u:Small b)(h:qW w1 g n a b i an o)
  (F:lV o g n an b i (C a i) (ln b+1) c d wr):qW w1 g n a b (i+1) d wr:=by
 obtain⟨I,J,E,l,r,w⟩:=h;obtain⟨z,L,A,e,q,M,y⟩:=F;have hx:C a i<B:=aB x i;have v:S (C b) (ln b+1)=val b:=kR D;have t:S (sh (C an) i) (ln b+1)<B^ln b:=by
  rw[cF];have:sh (C an) i (ln b)=0:=l _ D;rw[this,Nat.zero_mul,Nat.add_zero];exact uf (λk _=>aB E _)
 rw[v,Nat.pow_succ] at q;have H:=BR q t (ti u) hx;subst H;have G:=FP (f:=C an) (g:=C d) (m:=n) (j:=i) (n:=ln b+1) D (λk hk=>e k (.inl hk)) (λk hk _=>e k (.inr hk));refine⟨z,D,A,λk hk=> ?_,?_,w.trans y⟩
 ·rw[e k (.inr D)];exact l k D
 ·rw[cF (C a),Nat.add_mul,<-r];have s:S (sh (C d) i) (ln b+1)=S (sh (C an) i) (ln b+1)+C a i*val b:=D;rw[s,Nat.mul_add] at G;have N:B^i*(C a i*val b)=C a i*B^i*val b:=by rw[<-Nat.mul_assoc,Yd (B^i)]
  omega
def Lw(a w:U)(v:Z)(l:List Nat):Prop:=
 ∃g ac,v=V (L ⟨g,0,I⟩) (ln l) ac/\a.heap.size<=g/\Row w g ac l
def xZ(w:U)(a b:List Nat)(e:Ending)(w':U):Prop:=
 ∃v l,e=YC v/\Lw w w' v l/\Canon l/\val l=val a*val b/\ln l<=ln a+ln b+1/\Yl w.heap.size w w'
def sL(w:U)(a b:List Nat)(B Q:Z)(x:bT w w.heap.size B a)(v:bT w w.heap.size Q b)(ac:Small a)(af:Small b)(au:ln a<=1000000)(aw:ln b<=1000000):
  XY Xz 318 #[B,Q] w (xZ w a b):=by
 obtain⟨ab,ca,rfl,aF,aj,n⟩:=id x;obtain⟨A',cb,rfl,av,ah,am⟩:=id v;unfold Yk at aj ah;obtain⟨i0,hi,X,aa,E⟩:=info_parts ie;go_enter func318,ntmps318;go_wp2_with(at_make;refine wpList_make_full _ H _ _ 25 H w.heap.size 3 i0 (G F 0) 1 underlying25 hi X aa .i64 .i64 _ _ (ln a+ln b+1) H H D D Z8 YR (XE _) ?_;intro w1 P T)
 have ad:=lO P;have s:Yl w.heap.size w w1:=(XI _ w).grown T (XE _) YL;have z:=x.below s;have u:=v.below s;have ag:qW w1 w.heap.size (ln a+ln b+1) a b 0 (List.replicate (ln a+ln b+1) 0) w1:=
  ⟨ad,YL,tT _,λ_ _=>mC _ _,by rw[sI (λk _=>mC _ k),Hn,Nat.zero_mul],eX.refl _ _⟩
 clear P T ad x v hi X aa E n am;go_loopw [20] (λi wr=>LN w1 w.heap.size (ln a+ln b+1) a b i wr) (λi _=>ln a-(Yf i).toNat)
 case atStart=>exact⟨0,_,D,rfl,ag⟩
 case round=>
  obtain⟨i,an,hi,rfl,hrel⟩:=hrel;clear ag;obtain⟨l,rfl⟩:∃l:U,l=wr:=⟨_,H⟩;obtain⟨d,o,N,W,t,g⟩:=id hrel;by_cases M:i<ln a
  ·have sa:=g.sl z (XE _);have sb:=g.sl u (XE _);have ax:C a i<1000000000:=aB ac i;have h0:lV l w.heap.size (ln a+ln b+1) an b i (C a i) 0 0 an l:=⟨d,H,N,λ_ _=>rfl,by simp[S],D,eX.refl _ _⟩;obtain⟨_,_,e,_,_,n⟩:=sa;injection e with r O e3
   subst r e3;obtain⟨ba,oa,rfl,_,Y⟩:=n D;have hc:=Y i M;have al:=A hrel;clear Y n hrel t W d g z u;go_wp2_with fail
   go_loopw [8,28] (λc k wi=>Qt l w.heap.size (ln a+ln b+1) an b i (C a i) c k wi) (λ_ k _=>ln b+1-(Yf k).toNat)
   case atStart=>exact⟨0,0,an,D,rfl,rfl,h0⟩
   case round=>
    obtain⟨k,c,f,hk,rfl,rfl,m⟩:=hrel;clear h0;obtain⟨d,K,y,R,ae,aC,g⟩:=id m;by_cases ap:k<ln b+1
    ·have hx:=d.cell (j:=i+k) D;have ar:=d.frozen (i+k);have az:C f (i+k)<1000000000:=aB y (i+k);have ai:C b k<1000000000:=aB af k;obtain⟨ay,lL⟩:=py (q:=C a i) D ai;have ao:=g.sl sb (XE _);have w1:F.wrap ((i:Int)+k)=i+k:=cQ D D;have aq:0<=(i:Int)+k:=D;have aE:((i:Int)+k).toNat=i+k:=D;have aA:(i:Int)+k<ln a+ln b+1:=D;have w3:F.wrap ((C a i:Int)*(C b k:Int))=C a i*C b k:=cQ D D;have w2:F.wrap ((C f (i+k):Int)+(C a i:Int)*(C b k:Int))=C f (i+k)+C a i*C b k:=cQ D D;have w4:F.wrap ((C f (i+k):Int)+(C a i:Int)*(C b k:Int)+c)=C f (i+k)+C a i*C b k+c:=cQ D D;have HI:=A m;clear m ae R K y d g;go_wp2_with fail
     go_quiet ((go_at_call 335;exact Calls.quiet_of_same (FG _ w.heap.size _ b k ao D)))
     go_wp2;have ep:((C a i:Int)*(C b k:Int))=((C a i*C b k:Nat):Int):=YL;rw[ep] at lL⊢;have r:((C f (i+k):Int)+((C a i*C b k:Nat):Int)+c)/1000000000=(((C f (i+k)+C a i*C b k+c)/1000000000:Nat):Int):=D;have O:((C f (i+k):Int)+((C a i*C b k:Nat):Int)+c)%1000000000=(((C f (i+k)+C a i*C b k+c)%1000000000:Nat):Int):=D;rw[r,O];exact⟨⟨k+1,_,_,D,by go_num,rfl,zg nq HI.o D D D D⟩,YO⟩
    ·obtain rfl:k=ln b+1:=D;have ak:=A (KY H M ac af al.o m);clear m ae R K y d g;go_wp2_with fail
     exact⟨⟨i+1,f,D,by go_num,ak.o⟩,YO⟩
  ·obtain rfl:i=ln a:=D;have J:xZ w a b (YC (V (L ⟨w.heap.size,0,I⟩) (aD an).length (ln a+ln b+1))) l:=by
    refine⟨_,aD an,H,⟨_,_,H,XE _,?_⟩,fZ N,?_,?_,s.trans (g.below (XE _))⟩
    ·exact d.trimmed
    ·rw[jb];show S (C an) (ln an)=S (C a) (ln a)*val b;rw[o,t]
    ·exact Ye (bC _) D
   have HF:=A J;have HT:=A (kV d o);clear J hrel t W d g z u o;go_wp2_with(go_at_call 315;refine HT.o.mono ?_;rintro e w' ⟨rfl,rfl⟩)
   go_ret;exact HF.o
end
section
structure aI(n0:Nat)(W W':U):Prop where
 os:W'.os=W.os
 tape:W'.tape=W.tape
 output:W'.output=W.output
 size:W.heap.size<=W'.heap.size
 low:∀b,b<n0->W'.heap[b]?=W.heap[b]?
 cells:∀(b:Nat) (cs:Array Z) (t:Yj) (m:Nat×Nat),W.heap[b]?=L (Obj.cells cs t m)->W'.heap[b]?=L (Obj.cells cs t m)
theorem aI.aY(h:Yl W.heap.size W W')(c:n0<=W.heap.size):aI n0 W W':=
 ⟨h.os,h.tape,h.output,h.size,λb a=>h.block b D,λb cs t m a=>(h.block b (XV.1 a).1).trans a⟩
theorem aI.putObj{n0 l:Nat}{o:Obj}(f:Obj)(c:W.heap[l]?=L o)(d:o.isCells=O)(g:n0<=l):aI n0 W (W.putObj l f):=
 ⟨rfl,rfl,rfl,YL,λb a=>World.putObj_heap_other D,λb cs t m a=>(World.putObj_heap_other (λe=>by subst e;rw[a] at c;cases c;cases d)).trans a⟩
theorem aI.trans{ab B C:U}(h:aI n0 ab B)(k:aI n0 B C):aI n0 ab C:=
 ⟨k.os.trans h.os,k.tape.trans h.tape,k.output.trans h.output,Ye h.size k.size,λb a=>(k.low b a).trans (h.low b a),λb cs t m a=>k.cells b cs t m (h.cells b cs t m a)⟩
theorem aI.below(h:aI n0 W W'):Yl n0 W W':=⟨h.os,h.tape,h.output,h.size,h.low⟩
theorem aI.cell(h:aI n0 W W'){v:Z}(a:W.cell? p=L v):W'.cell? p=L v:=by
 unfold World.cell? at a⊢;cases b:W.heap[p.block]? with
 |none=>rw[b] at a;simp at a
 |some o=>
  cases o with
  |cells cs t m=>rw[b] at a;rw[h.cells _ _ _ _ b];exact a
  |_=>rw[b] at a;simp at a
def Cw(P:Program)(g:Nat)(lb:Array Z)(X:Nat->Array Z->Prop)(c:U->Prop)(N:Nat):Prop:=
 ∀(m l:Nat) (J b:Nat->U->Prop) (W:U),
  (∀k W1,J k W1->c W1)->(∀k W1 a,J k W1->Yl W1.heap.size W1 a->J k a)->(∀k W1 a,b k W1->Yl W1.heap.size W1 a->b k a)->
  (∀k x W1,k<N->X k x->J k W1->YieldAt Fence.wide (m-1) P l x W1 λe W'=>(e=YC (Yz Y)/\J (k+1) W')\/(e=YC (Yz O)/\b k W'))->
  J 0 W->CallsIn Fence.wide m P g (#[.func (.yield l) #[] #[]]++lb) W λe W'=>(∃v,e=YC v)/\(J N W'\/∃k,k<N/\b k W')
def mw(c:Nat->U->Prop)(a:Code->Nat->U->Prop)(k:Nat)(W:U):Exit->Act->U->Prop
 | .normal,_,W'=>KeepsOthers W W'/\c (k+1) W'
 | .ret,_,W'=>KeepsOthers W W'/\a .ret k W'
 | .exit b,_,W'=>KeepsOthers W W'/\a (.exit b) k W'
 | .goto t,_,W'=>KeepsOthers W W'/\a (.goto t) k W'
 | .panic _,_,_=>False
 | .outgrown,_,_=>False
variable {P : Program}
theorem iu{g:Operand}{G:Array Tmp}{assign body:Code}{Q:Exit->Act->U->Prop}{a:Act}
  (hg:a.eval g= .func (.func gf) #[] lb)(eg:∀args w,(callFunc gf args).run P w= .ok (.enter gf args) w)
  {X:Nat->Array Z->Prop}{S:U->Prop}(an:Cw P gf lb X S N)(ao:∀k x,X k x->x.size=G.size)
  (o:Nat->U->Prop)(F:Code->Nat->U->Prop)(z:∀k W W',o k W->aI w.heap.size W W'->o k W')(A:∀c k W W',F c k W->aI w.heap.size W W'->F c k W')
  (hM:∀k W,o k W->S W)(h0:o 0 w)
  (aq:∀(l k:Nat) (x:Array Z) (W:U) (V:Act->U->Prop),k<N->X k x->o k W->
   (∀a',(∀r,o k r->w.heap.size<r.heap.size->body.wpIn (Fence.wide.inRound l) (n-1-1) P (mw o F k r) a' r)->V a' W)->
   assign.wpIn (Fence.wide.inRound l) (n-1-1) P (Exit.then V (λ_ _ _=>False)) {tmps:=(G.zip x).foldl (λt (p,v)=>t.setIfInBounds p v) a.tmps,defers:=[]} W)
  (Y:∀(ad:Nat) (W:U),w.heap.size<=ad->o N W->W.heap[ad]?=L (.deferred (L []))->Q .normal {a with defers:={target:= .collected ad,args:=#[]}::a.defers} W)
  (ae:∀(ad:Nat) (c:Code) (k:Nat) (W:U),w.heap.size<=ad->k<N->F c k W->W.heap[ad]?=L (.deferred (L []))->c.wpIn Fence.wide n P Q {a with defers:={target:= .collected ad,args:=#[]}::a.defers} W):
  (Code.rangeFunc g G assign body).wpIn Fence.wide n P Q a w:=by
 refine wpIn_rangeFunc ?_;intro fn am;obtain⟨R,f⟩:∃R:LoopState->Option Code->Loop,R=λst J=>{state:=st,pending:=J,fn,tmps:=a.tmps,params:=G,assign,body,defers:=w.heap.size}:=⟨_,H⟩
 obtain⟨W1,y⟩:=aa ((w.alloc (.deferred (L []))).alloc (.loop (R .ready I)));have hL:W1.heap[w.heap.size+1]?=L (.loop (R .ready I)):=by
  exact a0y
 have hD:W1.heap[w.heap.size]?=L (.deferred (L [])):=by
  rw[<-y];exact(Below.heap_alloc _ _ _ YL).trans (XZ w _)
 have al:Yl w.heap.size w W1:=by rw[<-y];exact((XI _ w).alloc (XE _) _).alloc YL _
 have ai:o 0 W1:=z 0 _ _ h0 (aI.aY al (XE _));refine⟨w.heap.size+1,[{target:= .collected w.heap.size,args:=#[]}],W1,{target:= .fn (.func gf) lb,args:=#[.func (.yield (w.heap.size+1)) #[] #[]]},W1,gf,
  #[.func (.yield (w.heap.size+1)) #[] #[]]++lb,W1,?_,?_,?_,?_,?_,?_⟩
 ·rw[<-y,f];exact run_enterLoop_outer _ _ _ _ _
 ·simp only[resolve,hg];simp[go_sem]
 ·intro _ _;trivial
 ·simp[invoke,go_sem,eg]
 ·intro h;cases h
 ·have af:∀{ab C:U} {st:LoopState} {J:Option Code},ab.heap[w.heap.size+1]?=L (.loop (R st J))->Yl ab.heap.size ab C->C.heap[w.heap.size+1]?=L (.loop (R st J)):=
   λh q=>(q.block _ (XV.1 h).1).trans h
  have ag:∀{ab C:U},ab.heap[w.heap.size]?=L (.deferred (L []))->Yl ab.heap.size ab C->C.heap[w.heap.size]?=L (.deferred (L [])):=
   λh q=>(q.block _ (XV.1 h).1).trans h
  refine(an (n-1) (w.heap.size+1)
   (λk W=>o k W/\W.heap[w.heap.size+1]?=L (.loop (R .ready I))/\W.heap[w.heap.size]?=L (.deferred (L [])))
   (λk W=>∃c,F c k W/\W.heap[w.heap.size+1]?=L (.loop (R .done (L c)))/\W.heap[w.heap.size]?=L (.deferred (L [])))
   W1 (λk W h=>hM k W h.1)
   (λk ab C h q=>⟨z k _ _ h.1 (aI.aY q (by have:=(XV.1 h.2.2).1;omega)),af h.2.1 q,ag h.2.2 q⟩)
   (λk ab C h q=>by
    obtain⟨c,h1,h2,T⟩:=h;exact⟨c,A c k _ _ h1 (aI.aY q (by have:=(XV.1 T).1;omega)),af h2 q,ag T q⟩)
   ?_ ⟨ai,hL,hD⟩).mono ?_
  ·rintro k x W hk hx ⟨hi,b,u⟩;have ak:w.heap.size+1<W.heap.size:=(XV.1 b).1;have hy:=run_yield (P:=P) (args:=x) b (by rw[f];exact ao k x hx);rw[f] at hy;refine⟨fn,_,assign,body,hy,roundIn_of_wpIn am (aq _ k x W _ hk hx hi λa' aj=>⟨_,run_beginRound b (by rw[f]),?_⟩)⟩;obtain⟨r,K⟩:=aa (W.putObj (w.heap.size+1) (.loop {R .ready I with state:= .busy}));rw[K];have ac:r.heap[w.heap.size+1]?=L (.loop {R .ready I with state:= .busy}):=by rw[<-K];exact World.putObj_heap_same ak
   have ah:r.heap[w.heap.size]?=L (.deferred (L [])):=by rw[<-K];exact(World.putObj_heap_other D).trans u
   have ap:o k r:=by rw[<-K];exact z k _ _ hi (aI.putObj _ b H D)
   refine wpIn_mono (aj r ap (by have:=(XV.1 ac).1;omega)) ?_;have E:∀(B:Option Code) (d:U),KeepsOthers r d->∃m,(Instr.endRound (w.heap.size+1) B).run P d= .ok (Yz B.isNone) m/\aI w.heap.size d m/\
     m.heap[w.heap.size+1]?=L (.loop (R (if B.isNone then .ready else .done) B))/\m.heap[w.heap.size]?=L (.deferred (L [])):=λB d j=>by
    have M:=j.same _ _ ac H;have i:=run_endRound (P:=P) B M;refine⟨_,i,aI.putObj _ M H D,?_,(World.putObj_heap_other D).trans (j.same _ _ ah H)⟩;rw[World.putObj_heap_same (XV.1 M).1,f]
   rintro e a3 d s;cases e with
   |normal=>
    exact a0x
   |ret=>
    exact a0w
   |exit O=>
    exact a0v
   |goto t=>
    exact a0u
   |panic ch=>exact s.elim
   |outgrown=>exact s.elim
  ·rintro e r ⟨⟨v,rfl⟩,(⟨hi,b,u⟩|⟨k,hk,c,hi,b,u⟩)⟩
   ·exact a0t
   ·exact a0s
end
section
attribute [local go_sem] Oper.semAt_some
def IY(Bs:Nat)(ab:Option Ym)(n ac:Nat)(a:Nat->Int->Prop)(W:U):Prop:=
 W.cell? ⟨Bs,0,I⟩=L (V ab n ac)/\(0<n->∃b off,ab=L ⟨b,off,I⟩/\∀j,j<n->∃x:Int,W.cell? ⟨b,off+j,I⟩=L (G F x)/\a j x)
def Vg(n:Nat)(a:Nat->Int->Prop)(k:Nat)(x:Array Z):Prop:=∃v:Int,a (n-1-k) v/\x=#[G F ((n-1-k:Nat):Int),G F v]
def iD(Bs:Nat)(ab:Option Ym)(n ac:Nat)(g:Nat->Int->Prop)(z:n<=4294967296):
  Cw Xz 336 #[YA (L ⟨Bs,0,I⟩)] (Vg n g) (IY Bs ab n ac g) n:=by
 intro m l J A W c M E t o;refine callsIn_of_wp func336 H trivial ?_ H;have N:=(c 0 W o).1;simp only[ntmps336,List.size_toArray,List.length_cons,List.length_nil,Nat.reduceAdd,Nat.reduceSub,Array.replicate_succ,Array.replicate_zero,List.push_toArray,List.append_toArray,List.nil_append,List.cons_append]
 gi_wp2
 gi_loopw [3] (λi wr=>∃k:Nat,k<=n/\i=G F ((n:Int)-1-k)/\J k wr) (λi _=>(Yf i+1).toNat)
 case atStart=>exact⟨0,D,YL,o⟩
 case round=>
  obtain⟨k,hk,rfl,d⟩:=hrel;obtain⟨B,q⟩:=c k wr d;by_cases j:k<n
  ·obtain⟨b,off,rfl,f⟩:=q D;obtain⟨x,hx,v⟩:=f (n-1-k) D;obtain⟨fn,tmps,assign,body,hy,r⟩:=t k _ wr j ⟨x,v,H⟩ d;have a:((n-1-k:Nat):Int)=(n:Int)-1-k:=D;rw[a] at hy;have K:((n:Int)-1-k).toNat=n-1-k:=D;have y:0<=(n:Int)-1-k:=D;have C:(n:Int)-1-k<n:=D;have O:YG ((k:Int)<=(n:Int)-1)=Y:=YP;clear f q a
   gi_wp2
   refine⟨λh=>YM,r.mono ?_⟩;rintro e w (⟨rfl,u⟩|⟨rfl,s⟩)
   ·gi_wp2
    go_roundw
    case rel=>exact⟨k+1,D,YP,u⟩
    case measure=>simp[Yf];omega
   ·gi_wp2
    refine bodyPost_ret (results_none H _ _ _) H ?_;exact⟨⟨_,H⟩,.inr ⟨k,j,s⟩⟩
  ·obtain rfl:k=n:=D;have a:¬(0<=(k:Int)-1-k):=D;exact a0z
def jk(w:U)(ab:Option Ym)(n ac:Nat):
  XY Xz 319 #[V ab n ac] w λe w'=>e=YC (.func (.func 336) #[] #[YA (L ⟨w.heap.size,0,I⟩)])/\w'=w.alloc (.cells #[V ab n ac] 25):=by
 go_enter func319,ntmps319;go_wp2;go_ret;exact⟨H,H⟩
end
section
open Kp
attribute [local go_sem] Oper.semAt_some
def Ql(w:U)(x y z:Obj):(((w.alloc x).alloc y).alloc z).heap[w.heap.size]?=L x:=by
 rw[Below.heap_alloc _ _ _ YP,Below.heap_alloc _ _ _ YL];exact XZ w x
def Je(w:U)(x y z:Obj):(((w.alloc x).alloc y).alloc z).heap[w.heap.size+1]?=L y:=by
 rw[Below.heap_alloc _ _ _ YL];have:=XZ (w.alloc x) y;rwa[Ya] at this
def RN(w:U)(x y z:Obj):(((w.alloc x).alloc y).alloc z).heap[w.heap.size+2]?=L z:=by
 have:=XZ ((w.alloc x).alloc y) z;rwa[Ya,Ya] at this
def sZ(w:U)(x y z:Obj):Yl w.heap.size w (((w.alloc x).alloc y).alloc z):=
 (((XI _ _).alloc (XE _) _).alloc YL _).alloc YP _
def A8(w:U)(a b:List Nat)(e:Ending)(w':U):Prop:=
 ∃c:Int,e=YC (G F c)/\(c<0↔val a<val b)/\(0<c↔val b<val a)/\Yl w.heap.size w w'
def PI{a b:List Nat}(c:Canon a)(d:Canon b)(h:ln a≠ln b):
  ((ln a:Int)-ln b<0↔val a<val b)/\(0<(ln a:Int)-ln b↔val b<val a):=by
 rcases Nat.lt_or_gt_of_ne h with h|h
 ·have:=cG c.small d.trim h;exact a0A
 ·have:=cG d.small c.trim h;exact a0A
theorem TK{a b:List Nat}(d:Canon a)(f:Canon b)(e:ln a=ln b)(hi:i<ln a)(c:∀k,i<k->k<ln a->C a k=C b k)(g:C a i≠C b i):
  ((C a i:Int)-C b i<0↔val a<val b)/\(0<(C a i:Int)-C b i↔val b<val a):=by
 unfold val;rw[<-e];rcases Nat.lt_or_gt_of_ne g with h|h
 ·have:=SS hi (λk _=>aB d.small k) c h;exact a0A
 ·have:=SS hi (λk _=>aB f.small k) (λk h1 h2=>(c k h1 h2).symm) h;exact a0A
def MT{a b:List Nat}(c:ln a=ln b)(d:∀k,k<ln a->C a k=C b k):val a=val b:=by
 unfold val;rw[<-c];exact fu d
def Bb(w:U)(a b:List Nat)(c f:Z)(l:bT w w.heap.size c a)(k:bT w w.heap.size f b)(n:Canon a)(j:Canon b)(d:ln a≠ln b):
  XY Xz 316 #[c,f] w (A8 w a b):=by
 have e:=A (PI n j d);obtain⟨ab,ca,rfl,r,m,o⟩:=l;obtain⟨A',cb,rfl,q,g,i⟩:=k;unfold Yk at m g;clear o i;have s:((ln a:Int) !=ln b)=Y:=ZZ;clear d;go_enter func316,ntmps316;go_wp2;exact bodyPost_ret (v:= G F ((ln a:Int)-ln b)) (by simp[results,results316,go_sem]) H ⟨_,H,e.o.1,e.o.2,by exact((XI _ _).alloc (XE _) _).alloc YL _⟩
theorem bT.stays{v:Z}(h:bT W b0 v l)(i:aI n0 W W'):bT W' b0 v l:=by
 obtain⟨ab,ac,rfl,h1,h2,a⟩:=h;refine⟨ab,ac,H,h1,h2,λf=> ?_⟩;obtain⟨b,off,e,c,g⟩:=a f;exact⟨b,off,e,c,λj d=>i.cell (g j d)⟩
structure Fp(w:U)(a b:List Nat)(ab:Option Ym)(ca:Nat)(A':Option Ym)(cb:Nat)(k:Nat)(W:U):Prop where
 box:W.heap[w.heap.size]?=L (.cells #[V A' (ln b) cb] 25 (0,0))
 res:W.heap[w.heap.size+1]?=L (.cells #[G F 0] 3 (0,0))
 it:W.heap[w.heap.size+2]?=L (.cells #[V ab (ln a) ca] 25 (0,0))
 sa:bT W w.heap.size (V ab (ln a) ca) a
 sb:bT W w.heap.size (V A' (ln b) cb) b
 same:∀j,ln a-k<=j->j<ln a->C a j=C b j
 low:Yl w.heap.size w W
theorem Fp.stays{a b:List Nat}(h:Fp w a b ab ca A' cb k W)(c:aI n0 W W')(d:w.heap.size<=n0):Fp w a b ab ca A' cb k W':=
 ⟨c.cells _ _ _ _ h.box,c.cells _ _ _ _ h.res,c.cells _ _ _ _ h.it,h.sa.stays c,h.sb.stays c,h.same,h.low.trans (c.below.mono d)⟩
structure IH(w:U)(a b:List Nat)(c:Code)(k:Nat)(W:U):Prop where
 ret:c= .ret
 res:∃x:Int,W.heap[w.heap.size+1]?=L (.cells #[G F x] 3 (0,0))/\(x<0↔val a<val b)/\(0<x↔val b<val a)
 low:Yl w.heap.size w W
theorem IH.stays{a b:List Nat}{c:Code}(h:IH w a b c k W)(d:aI n0 W W')(g:w.heap.size<=n0):IH w a b c k W':=by
 obtain⟨e,⟨x,hx,h1,h2⟩,f⟩:=h;exact⟨e,⟨x,d.cells _ _ _ _ hx,h1,h2⟩,f.trans (d.below.mono g)⟩
theorem cell_of_heap{v:Z}(h:W.heap[b]?=L (.cells #[v] t (0,0))):W.cell? ⟨b,0,I⟩=L v:=by simp[World.cell?,h]
theorem frozen_of_heap{v:Z}(h:W.heap[b]?=L (.cells #[v] t (0,0))):W.frozen? ⟨b,0,I⟩=O:=by simp[World.frozen?,h]
theorem Fp.back{a b:List Nat}(h:Fp w a b ab ca A' cb k W):
  IY (w.heap.size+2) ab (ln a) ca (λj x=>x=C a j) W:=by
 refine⟨cell_of_heap h.it,λl=> ?_⟩;obtain⟨_,_,e,_,_,c⟩:=h.sa;injection e with f m d
 subst f d;obtain⟨b,off,e,_,g⟩:=c l;exact⟨b,off,e,λj i=>⟨_,g j i,rfl⟩⟩
def AB(w:U)(a b:List Nat)(s B:Z)(Q:bT w w.heap.size s a)(P:bT w w.heap.size B b)(S:Canon a)(u:Canon b)(f:ln a=ln b)(ac:ln a<=4294967296):
  XY Xz 316 #[s,B] w (A8 w a b):=by
 obtain⟨ab,ca,rfl,ai,aa,ae⟩:=id Q;obtain⟨A',cb,rfl,af,T,q⟩:=id P;unfold Yk at aa T;refine(callsIn_wide (n:=9)).1 (callsIn_of_wp_marks func316 H trivial ?_);simp only[ntmps316,List.size_toArray,List.length_cons,List.length_nil,Nat.reduceAdd,Nat.reduceSub,Array.replicate_succ,Array.replicate_zero,List.push_toArray,List.append_toArray,List.nil_append,List.cons_append];have J:((ln a:Int) !=ln b)=O:=by rw[f];simp
 have K:=A f;clear f ae q;gi_wp2_with(refine⟨trivial,?_⟩;gi_at_call 319;refine(callsIn_wide.2 (jk _ _ _ _)).mono ?_;rintro e w' ⟨rfl,rfl⟩)
 refine iu (gf:=336) (lb:=#[YA (L ⟨w.heap.size+2,0,I⟩)]) H (enters_of func336 R H)
  (iD (w.heap.size+2) ab (ln a) ca (λj x=>x=C a j) ac) (λk x ⟨_,_,e⟩=>Z4)
  (Fp w a b ab ca A' cb) (IH w a b) (λk W W' h m=>h.stays m YP) (λc k W W' h m=>h.stays m YP) (λk W h=>h.back) ?start ?round ?done ?stop
 case start=>
  refine⟨Ql _ _ _ _,Je _ _ _ _,RN _ _ _ _,?_,?_,λj h1 h2=>D,sZ _ _ _ _⟩
  ·exact Q.below (sZ _ _ _ _)
  ·exact P.below (sZ _ _ _ _)
 case round=>
  intro l k x W ah hk hx hi g;obtain⟨v,rfl,rfl⟩:=hx;have N:=A g;clear g
  gi_wp2
  refine N.o _ (λW2 d _=> ?_);clear N hi;have f:=K.o;have c1:=cell_of_heap d.box;have c2:=cell_of_heap d.res;have f2:=frozen_of_heap d.res;obtain⟨_,_,e,_,_,q⟩:=d.sb;injection e with X e2 V
  subst X V;obtain⟨bb,bo,rfl,_,M⟩:=q D;have hx:=M (ln a-1-k) D;clear M q;have i1:((ln a-1-k:Nat):Int)<ln b:=D;have ba:C a (ln a-1-k)<1000000000:=aB S.small _;have ag:C b (ln a-1-k)<1000000000:=aB u.small _;by_cases o:C a (ln a-1-k)=C b (ln a-1-k)
  ·have J:((C a (ln a-1-k):Int) !=C b (ln a-1-k))=O:=by rw[o];simp
   have E:∀j,ln a-(k+1)<=j->j<ln a->C a j=C b j:=λj h1 h2=>by
    by_cases hj:j=ln a-1-k
    ·rw[hj];exact o
    ·exact d.same j D h2
   have HN:Fp w a b ab ca (L ⟨bb,bo,I⟩) cb (k+1) W2:=⟨d.box,d.res,d.it,d.sa,d.sb,E,d.low⟩;clear o E f
   gi_wp2
   exact⟨KeepsOthers.refl _,HN⟩
  ·have J:((C a (ln a-1-k):Int) !=C b (ln a-1-k))=Y:=ZZ;have z:=A (TK S u f (i:=ln a-1-k) D (λj h1 h2=>d.same j D h2) o);clear o f
   gi_wp2
   exact⟨KeepsOthers.setCell _ _ _,H,⟨_,by have:=d.res;simp[World.setCell,Array.getElem?_modify,this],z.o.1,z.o.2⟩,d.low.setCell (p:=⟨w.heap.size+1,0,I⟩) YL _⟩
 case done=>
  intro ad W t hi g;have c2:=cell_of_heap hi.res;have f2:=frozen_of_heap hi.res;have y:=MT K.o (λk hk=>hi.same k D hk)
  gi_wp2
  refine⟨YL,.inl ⟨_,_,rfl,run_takeDeferred ((KeepsOthers.setCell _ _ _).same ad _ g rfl),?_⟩⟩;have r:=(aI.putObj (n0:=w.heap.size) (.deferred I) ((KeepsOthers.setCell W ⟨w.heap.size+1,0,I⟩ (G F 0)).same ad _ g H) H ZJ).cell (World.cell?_setCell_same' W ⟨w.heap.size+1,0,I⟩ (G F 0) (by rw[c2];rfl));have hB:Yl w.heap.size w ((W.setCell ⟨w.heap.size+1,0,I⟩ (G F 0)).putObj ad (.deferred I)):=
   (hi.low.setCell (p:=⟨w.heap.size+1,0,I⟩) YL _).trans (aI.putObj (n0:=w.heap.size) (.deferred I) ((KeepsOthers.setCell W ⟨w.heap.size+1,0,I⟩ (G F 0)).same ad _ g H) H ZJ).below
  exact⟨G F 0,by simp[results,results316,go_sem,r],0,rfl,by rw[y];omega,by rw[y];omega,hB⟩
 case stop=>
  rintro ad c k W t hk ⟨rfl,⟨x,hx,h1,h2⟩,f⟩ g
  gi_wp2
  refine⟨YL,.inl ⟨_,_,rfl,run_takeDeferred g,?_⟩⟩;have m:=aI.putObj (n0:=w.heap.size) (.deferred I) g H ZJ;have r:=m.cell (cell_of_heap hx);exact⟨G F x,by simp[results,results316,go_sem,r],x,rfl,h1,h2,f.trans m.below⟩
def j7(w:U)(a b:List Nat)(d c:Z)(e:bT w w.heap.size d a)(f:bT w w.heap.size c b)(g:Canon a)(h:Canon b)(j:ln a<=4294967296):
  XY Xz 316 #[d,c] w (A8 w a b):=by
 by_cases i:ln a=ln b
 ·exact AB w a b d c e f g h i j
 ·exact Bb w a b d c e f g h i
end
section
def jW(ops:Array Oper):Bool:=ops.all λo=>match o.op with| .defer _=>O|_=>Y
theorem nt{ops:Array Oper}(h:jW ops=Y){o:Oper}(hi:ops[i]?=L o)(c:Call):o.op≠ .defer c:=by
 intro e;unfold jW at h;rw[Array.all_eq_true] at h;obtain⟨b,a⟩:=XV.1 hi;have:=h i b;rw[a,e] at this;cases this
variable {P : Program} {Q : Exit → Act → U → Prop}
theorem tZ{row:String}{R:Z->U->Prop}(h:Rows P row args w R):RowsIn Fence.wide n P row args w R:=
 λc cs _=>let⟨v,w',r,s⟩:=h c cs;⟨v,w',r,stepsIn_wide.2 s⟩
theorem Oper.BX{l n:Nat}{o:Oper}{a:Act}{b:Act->U->Prop}(e:∀c,o.op≠ .defer c)(h:o.wp P a w b Q):o.wpIn (Fence.wide.inRound l) n P a w b Q:=by
 unfold Oper.wpIn;refine⟨λ_ _=>trivial,?_⟩;show Oper.uponIn _ _ _ _ _ _ _ ((o.semAt (L l) a.eval).run P w);rw[Oper.semAt_some l a.eval o e];unfold Oper.wp at h;generalize(execOp a.eval o).run P w=r at *;cases r with
 |ok x w'=>
  cases x with
  |value v=>exact h
  |skip=>exact h
  |defer d=>exact h
  |enter f args=>exact⟨λh=>YM,CallsIn.inRound l (callsIn_wide.2 h)⟩
  |row row args=>exact⟨λh=>YM,tZ (n:=n-1) h⟩
  |_=>exact h.elim
 |halt x w'=>
  cases x with
  |panic v=>exact h
  |_=>exact h.elim
def iY{l n:Nat}{md:Region.Mode}{ops:Array Oper}(e:jW ops=Y)(d:¬LetsOut Q):
  ∀(b:Nat) (ag:Array Bool) (a:Act) (w:U),wpAny P md ops Q b ag a w->wpAnyIn (Fence.wide.inRound l) n P md ops Q b ag a w
 |0,_,_,_,h=>h
 |b+1,ag,a,w,h=>by
  refine⟨h.1,λi hi=> ?_⟩;have h2:=h.2 i hi;unfold wpOp at h2;unfold wpOpIn;cases g:ops[i]? with
  |none=>rw[g] at h2;exact iY e d b _ _ _ h2
  |some o=>
   rw[g] at h2;simp only at h2⊢;split
   ·rename_i f;rw[XT f] at h2;rcases h2 with h2|⟨_,h2⟩
    ·exact Oper.BX (λc=>nt e g c) (Oper.wp_mono (λa' w' j=>iY e d b _ _ _ j) h2)
    ·exact absurd h2 d
   ·rename_i f;rw[XQ f] at h2;exact⟨λ_ _=>trivial,iY e d b _ _ _ h2⟩
def nM(R:Act->U->Prop):Exit->Act->U->Prop
 | .normal,a,w=>R a w
 |_,_,_=>False
theorem dw{R:Act->U->Prop}{a:Act}(h:R a w):nM R .normal a w:=h
theorem F0{c:Code}{a:Act}(h:c.wp P (nM (Q .normal)) a w):c.wpIn Fence.wide n P Q a w:=
 wpIn_wide.2 (wp_mono h λe _ _ h=>by cases e<;>first|exact h|exact h.elim)
end
section
open Kp
attribute [local go_sem] Oper.semAt_some
def Bx(W:U)(b:Nat)(t:Yj)(v:Z):Prop:=W.heap[b]?=L (.cells #[v] t (0,0))
theorem Bx.cell{v:Z}(h:Bx W b t v):W.cell? ⟨b,0,I⟩=L v:=cell_of_heap h
theorem Bx.frozen{v:Z}(h:Bx W b t v):W.frozen? ⟨b,0,I⟩=O:=frozen_of_heap h
theorem Bx.stays{v:Z}(h:Bx W b t v)(a:aI n0 W W'):Bx W' b t v:=a.cells _ _ _ _ h
theorem Bx.lt{v:Z}(h:Bx W b t v):b<W.heap.size:=(XV.1 h).1
theorem Bx.eC{v:Z}(h:Bx W b t v)(a:b≠p.block)(u:Z):Bx (W.setCell p u) b t v:=(Below.heap_setCell W p u b a).trans h
theorem Bx.put{v:Z}(h:Bx W b t v)(u:Z):Bx (W.setCell ⟨b,0,I⟩ u) b t u:=by
 unfold Bx at h⊢;simp[World.setCell,Array.getElem?_modify,h]
theorem Bx.alloc{v:Z}(h:Bx W b t v)(o:Obj):Bx (W.alloc o) b t v:=(Below.heap_alloc W o b h.lt).trans h
theorem Bx.drew{v:Z}(h:Bx W b t v):Bx W.drew b t v:=h
theorem Bx.drewN{v:Z}(h:Bx W b t v)(n:Nat):Bx (W.drewN n) b t v:=h
theorem Bx.below{v:Z}(h:Bx W b t v)(a:Yl B0 W W')(c:b<B0):Bx W' b t v:=(a.block b c).trans h
def Bx.new(W:U)(t:Yj)(v:Z):Bx (W.alloc (.cells #[v] t)) W.heap.size t v:=XZ W _
theorem Bx.at_{v:Z}(h:W.heap.size=n):Bx (W.alloc (.cells #[v] t)) n t v:=by subst h;exact Bx.new W t v
theorem Row.stays(h:Row W g ac l)(b:aI n0 W W'):Row W' g ac l:=by
 obtain⟨cur,a,r⟩:=h;exact⟨cur,b.cells _ _ _ _ a,r⟩
theorem Row.eC(h:Row W g ac l)(a:g≠p.block)(u:Z):Row (W.setCell p u) g ac l:=h.keep (Below.heap_setCell W p u g a)
theorem Row.alloc(h:Row W g ac l)(o:Obj):Row (W.alloc o) g ac l:=h.keep (Below.heap_alloc W o g h.lt)
theorem Row.below(h:Row W g ac l)(a:Yl B0 W W')(b:g<B0):Row W' g ac l:=h.keep (a.block g b)
structure St(w:U)(a:List Nat)(d:Nat)(ab:Option Ym)(ca:Nat)(k:Nat)(q:List Nat)(r:Nat)(W:U):Prop where
 bd:Bx W w.heap.size 3 (G F d)
 bq:Bx W (w.heap.size+1) 25 (V (L ⟨w.heap.size+2,0,I⟩) (ln a) (ln a))
 row:Row W (w.heap.size+2) (ln a) q
 br:Bx W (w.heap.size+3) 3 (G F r)
 it:Bx W (w.heap.size+4) 25 (V ab (ln a) ca)
 sa:bT W w.heap.size (V ab (ln a) ca) a
 len:ln q=ln a
 small:Small q
 lt:r<d
 eq:S (sh (C a) (ln a-k)) k=d*S (sh (C q) (ln a-k)) k+r
 low:Yl w.heap.size w W
theorem St.stays(h:St w a d ab ca k q r W)(b:aI n0 W W')(c:w.heap.size<=n0):St w a d ab ca k q r W':=
 ⟨h.bd.stays b,h.bq.stays b,h.row.stays b,h.br.stays b,h.it.stays b,h.sa.stays b,h.len,h.small,h.lt,h.eq,h.low.trans (b.below.mono c)⟩
def OI(w:U)(a:List Nat)(d:Nat)(ab:Option Ym)(ca:Nat)(k:Nat)(W:U):Prop:=∃q r,St w a d ab ca k q r W
theorem vW(i:Bx W Bs 25 (V ab (ln a) ca))(h:bT W b0 (V ab (ln a) ca) a):
  IY Bs ab (ln a) ca (λj x=>x=C a j) W:=by
 refine⟨i.cell,λl=> ?_⟩;obtain⟨_,_,e,_,_,c⟩:=h;injection e with f m d
 subst f d;obtain⟨b,off,e,_,g⟩:=c l;exact⟨b,off,e,λj k=>⟨_,g j k,rfl⟩⟩
theorem RZ(h:St w a d ab ca k q r W)(hk:k<ln a)(l:Small a):
  (C a (ln a-1-k)+r*1000000000)/d<1000000000/\
  St w a d ab ca (k+1) (q.set (ln a-1-k) ((C a (ln a-1-k)+r*1000000000)/d)) ((C a (ln a-1-k)+r*1000000000)%d)
   ((W.setCell ⟨w.heap.size+2,ln a-1-k,I⟩ (G F ((C a (ln a-1-k)+r*1000000000)/d:Nat))).setCell ⟨w.heap.size+3,0,I⟩ (G F ((C a (ln a-1-k)+r*1000000000)%d:Nat))):=by
 obtain⟨bd,bq,row,br,it,sa,len,small,lt,eq,low⟩:=h;have j:=aB l (ln a-1-k);have b:=Nz lt j H;have g:ln a-(k+1)=ln a-1-k:=D;have n:ln a-k=(ln a-1-k)+1:=D;refine⟨b.1,(bd.eC YL _).eC YL _,(bq.eC YL _).eC YL _,(row.set D _).eC YL _,(br.eC YL _).put _,(it.eC YL _).eC YL _,?_,by simpa using len,Small.set small b.1,b.2,?_,?_⟩
 ·exact sa.keep λp c=>(World.cell?_setCell_other _ _ _ _ (λe=>by subst e;simp at c;omega)).trans (World.cell?_setCell_other _ _ _ _ (λe=>by subst e;simp at c;omega))
 ·rw[g,Ro,Ro,<-n];have f:C (q.set (ln a-1-k) ((C a (ln a-1-k)+r*1000000000)/d)) (ln a-1-k)=(C a (ln a-1-k)+r*1000000000)/d:=by rw[jq D,XT rfl]
  have m:S (sh (C (q.set (ln a-1-k) ((C a (ln a-1-k)+r*1000000000)/d))) (ln a-k)) k=S (sh (C q) (ln a-k)) k:=fu (λi _=>by unfold sh;rw[jq D,XQ D]);rw[f,m];exact F4 eq H
 ·exact(low.setCell (p:=⟨w.heap.size+2,_,I⟩) YL _).setCell (p:=⟨w.heap.size+3,0,I⟩) YL _
theorem lK{r c b f e:Nat}{v1 g:Z}
  (h:St w a d ab ca (k+1) q r ((W.setCell ⟨c,b,I⟩ v1).setCell ⟨f,e,I⟩ g)):
  KeepsOthers W ((W.setCell ⟨c,b,I⟩ v1).setCell ⟨f,e,I⟩ g).drew/\OI w a d ab ca (k+1) ((W.setCell ⟨c,b,I⟩ v1).setCell ⟨f,e,I⟩ g).drew:=
 ⟨((KeepsOthers.setCell _ _ _).trans (KeepsOthers.setCell _ _ _)).trans (KeepsOthers.drew _),q,r,h.bd,h.bq,h.row,h.br,h.it,h.sa,h.len,h.small,h.lt,h.eq,⟨h.low.os,h.low.tape,h.low.output,h.low.size,h.low.block⟩⟩
def qA(n:Nat):Array Z:=madeCells (Value.int .i64 0).cells n
def mb(n:Nat)(e:n<=1000000000)(W:U):
  (Instr.makeSlice 25 (G F (n:Int)) (G F (n:Int))).run Xz W= .ok (V (L ⟨W.heap.size,0,I⟩) n n) (W.alloc (.cells (qA n) 3)):=by
 obtain⟨d,hi,b,c,E⟩:=info_parts ie;have a:=run_make (P:=Xz) W 25 3 d _ underlying25 hi b .i64 .i64 n n D D Z8 D;simp only[Int.toNat_natCast,c,Nat.mul_one] at a;exact a
def sH(W:U)(n:Nat)(b:n<=1000000000):Row (W.alloc (.cells (qA n) 3)) W.heap.size n (List.replicate n 0):=by
 refine⟨qA n,XZ W _,by simp[qA,size_madeCells],YL,YR,λj a=> ?_⟩;simp at a;rw[mC];simp[qA,madeCells,Value.cells,a,Nat.mod_one]
def Km{a r d:Nat}(h1:a<1000000000)(h2:r<1000000000)(b:1<=d):
  F.wrap (((a:Int)+(r:Int)*1000000000).tdiv d)=(((a+r*1000000000)/d:Nat):Int):=by
 rw[IntWalk.i64_quo _ _ ⟨D,D,D⟩];simp
def Lq{a r d:Nat}:((a:Int)+(r:Int)*1000000000).tmod d=(((a+r*1000000000)%d:Nat):Int):=by
 rw[IntWalk.rem_in _ _ D];simp
def row_one(X:U)(r:Nat):Row (X.alloc (.cells #[G F r] 3)) X.heap.size 1 [r]:=by
 refine⟨#[G F r],XZ X _,H,YL,YR,λj a=> ?_⟩;have:j=0:=by simpa using a
 subst this;rfl
def NW(w:U)(a:List Nat)(d:Nat)(e:Ending)(w':U):Prop:=
 ∃f g c b,e=YC (YF #[f,g])/\Lw w w' f c/\Canon c/\val c=val a/d/\Lw w w' g b/\Canon b/\val b=val a%d/\Yl w.heap.size w w'
theorem Rm(e:ln q=ln a)(c:r<d)(b:S (sh (C a) (ln a-ln a)) (ln a)=d*S (sh (C q) (ln a-ln a)) (ln a)+r):
  val q=val a/d/\r=val a%d:=by
 have f:S (sh (C a) (ln a-ln a)) (ln a)=val a:=fu (λk _=>by unfold sh;congr 1;omega);have g:S (sh (C q) (ln a-ln a)) (ln a)=val q:=by unfold val;rw[e];exact fu (λk _=>by unfold sh;congr 1;omega)
 rw[f,g] at b;rw[b];constructor
 ·rw[Nat.mul_add_div D,Nat.div_eq_of_lt c,Nat.add_zero]
 ·rw[Nat.mul_add_mod,Nat.mod_eq_of_lt c]
def val_one(r:Nat):val [r]=r:=by simp[val,S,C]
theorem Tn(h:St w a d ab ca (ln a) q r W)(t:d<1000000000)(l:w.heap.size<=ad)(k:W.heap[ad]?=L (.deferred (L []))):
  ((W.alloc (.cells #[G F r] 3)).setCell ⟨w.heap.size+1,0,I⟩ (V (L ⟨w.heap.size+2,0,I⟩) (aD q).length (ln a))).drew.heap[ad]?=L (.deferred (L []))/\
  (((W.alloc (.cells #[G F r] 3)).setCell ⟨w.heap.size+1,0,I⟩ (V (L ⟨w.heap.size+2,0,I⟩) (aD q).length (ln a))).drew.putObj ad (.deferred I)).cell? ⟨w.heap.size+1,0,I⟩=L (V (L ⟨w.heap.size+2,0,I⟩) (aD q).length (ln a))/\
  NW w a d (YC (YF #[V (L ⟨w.heap.size+2,0,I⟩) (aD q).length (ln a),V (L ⟨W.heap.size,0,I⟩) (aD [r]).length 1])) (((W.alloc (.cells #[G F r] 3)).setCell ⟨w.heap.size+1,0,I⟩ (V (L ⟨w.heap.size+2,0,I⟩) (aD q).length (ln a))).drew.putObj ad (.deferred I)):=by
 obtain⟨X,b⟩:=aa (((W.alloc (.cells #[G F r] 3)).setCell ⟨w.heap.size+1,0,I⟩ (V (L ⟨w.heap.size+2,0,I⟩) (aD q).length (ln a))).drew);have s:w.heap.size<W.heap.size:=h.bd.lt;have f:X.heap[ad]?=L (.deferred (L [])):=by
  rw[<-b];exact(((KeepsOthers.alloc _ _).trans (KeepsOthers.setCell _ _ _)).trans (KeepsOthers.drew _)).same ad _ k H
 have g:Bx X (w.heap.size+1) 25 (V (L ⟨w.heap.size+2,0,I⟩) (aD q).length (ln a)):=by rw[<-b];exact((h.bq.alloc _).put _).drew
 have j:Row X (w.heap.size+2) (ln a) q:=by rw[<-b];exact((h.row.alloc _).eC YL _).drew
 have i:Row X W.heap.size 1 [r]:=by
  rw[<-b];exact((row_one W r).eC (by have:=h.bq.lt;simp;omega) _).drew
 have o:Yl w.heap.size w X:=by
  rw[<-b];exact(((h.low.alloc D _).setCell (p:=⟨w.heap.size+1,0,I⟩) YL _)).drew
 rw[b];have c:=aI.putObj (n0:=w.heap.size) (.deferred I) f H l;obtain⟨v1,n⟩:=Rm h.len h.lt h.eq;have m:Small [r]:=by
  intro x hx;have e:x=r:=by simpa using hx
  have:=h.lt;rw[e];show r<1000000000;omega
 refine⟨f,c.cell g.cell,_,_,aD q,aD [r],H,⟨_,_,H,D,(j.stays c).trimmed⟩,fZ h.small,by rw[jb];exact v1,⟨_,_,H,D,(i.stays c).trimmed⟩,fZ m,by rw[jb,val_one];exact n,o.trans c.below⟩
def wE(w:U)(a:List Nat)(z:Z)(d:Nat)(Y:bT w w.heap.size z a)(Q:Small a)(ac:1<=d)(ae:d<1000000000)(al:ln a<=2000000):
  XY Xz 317 #[z,G F d] w (NW w a d):=by
 obtain⟨ab,ca,rfl,ao,aa,ah⟩:=id Y;clear ah;unfold Yk at aa;refine(callsIn_wide (n:=9)).1 (callsIn_of_wp_marks func317 H trivial ?_);simp only[ntmps317,List.size_toArray,List.length_cons,List.length_nil,Nat.reduceAdd,Nat.reduceSub,Array.replicate_succ,Array.replicate_zero,List.push_toArray,List.append_toArray,List.nil_append,List.cons_append];have ag:=mb (ln a) D;gi_wp2_with(refine⟨trivial,?_⟩;gi_at_call 319;refine(callsIn_wide.2 (jk _ _ _ _)).mono ?_;rintro e w' ⟨rfl,rfl⟩)
 refine iu (gf:=336) (lb:=#[YA (L ⟨w.heap.size+4,0,I⟩)]) H (enters_of func336 R H)
  (iD (w.heap.size+4) ab (ln a) ca (λj x=>x=C a j) D) (λk x ⟨_,_,e⟩=>Z4)
  (OI w a d ab ca) (λ_ _ _=>False) (λk W W' ⟨q,r,h⟩ K=>⟨q,r,h.stays K YP⟩) (λc k W W' h K=>h) (λk W ⟨q,r,h⟩=>vW h.it h.sa) ?start ?round ?done ?stop
 case start=>
  have B:Yl w.heap.size w (((((w.alloc (.cells #[G F d] 3)).alloc (.cells #[V (L ⟨w.heap.size+1+1,0,I⟩) (ln a) (ln a)] 25)).alloc (.cells (qA (ln a)) 3)).alloc (.cells #[G F 0] 3)).alloc (.cells #[V ab (ln a) ca] 25)):=
   (sZ w _ _ _).trans ((((XI _ _).alloc YP _).alloc YP _))
  refine⟨List.replicate (ln a) 0,0,((((Bx.new w _ _).alloc _).alloc _).alloc _).alloc _,(((Bx.at_ YL).alloc _).alloc _).alloc _,?_,(Bx.at_ YL).alloc _,Bx.at_ YL,Y.below B,YL,tT _,D,by simp[S],B⟩;have:=sH ((w.alloc (.cells #[G F d] 3)).alloc (.cells #[V (L ⟨w.heap.size+1+1,0,I⟩) (ln a) (ln a)] 25)) (ln a) D;simp only[Ya] at this;exact(this.alloc _).alloc _
 case round=>
  intro l k x W f hk hx hi b;obtain⟨v,rfl,rfl⟩:=hx;have N:=A b;clear b
  gi_wp2
  refine N.o _ (λW2 af _=> ?_);clear N hi;obtain⟨q,r,h⟩:=af;have m:=RZ h hk Q;have b0:=h.bd.cell;have b1:=h.bq.cell;have b2:=h.br.cell;have f2:=h.br.frozen;have f3:=h.row.frozen (ln a-1-k);have b3:=h.row.cell (j:=ln a-1-k) (by rw[h.len];omega);have ba:C a (ln a-1-k)<1000000000:=aB Q _;have hr:r<d:=h.lt;have i1:((ln a-1-k:Nat):Int)<ln a:=D;have E:=A m.2;have u:=m.1;clear m;have ai:¬d=0:=D;have y:r<1000000000:=D;have ak:r*1000000000<1000000000000000000:=D;have w6:=Km (a:=C a (ln a-1-k)) ba y ac;have w7:=Lq (a:=C a (ln a-1-k)) (r:=r) (d:=d)
  gi_wp2
  refine wpIn_region_any R (iY R (by rintro⟨_,_,h⟩;exact h) _ _ _ _ ?_)
  try(change wpAny _ _ _ _ _ _ _ (U.drew _))
  refine wpAny_take (i:=1) (v:= ?va1) H R R R (λ_ _ _ h=>h) (Or.inl ⟨Zb,?hya1⟩) ?_
  case hya1=>(intro w;go_simp;try with_reducible rfl)
  refine wpAny_take (i:=2) (v:= ?va2) H R R R (λ_ _ _ h=>h) (Or.inl ⟨Zb,?hya2⟩) ?_
  case hya2=>(intro w;go_simp;try with_reducible rfl)
  refine wpAny_take (i:=5) (v:= ?va3) H R R R (λ_ _ _ h=>h) (Or.inl ⟨Zb,?hya3⟩) ?_
  case hya3=>(intro w;go_simp;try with_reducible rfl)
  refine wpAny_ready (rs:=[0,3,6]) R YL ?_;refine Yi H (λf b=> ?_) ?_
  ·go_simp;refine b _ _ ?_;clear b f;refine wpAny_ready (rs:=[3,6]) R YL ?_;refine Yi H (λf b=> ?_) ?_
   ·go_simp;refine b _ _ ?_;clear b f;refine wpAny_take (i:=4) (v:= ?va4) H R R R (λ_ _ _ h=>h) (Or.inl ⟨Zb,?hya4⟩) ?_
    case hya4=>(intro w;go_simp;try with_reducible rfl)
    refine wpAny_take (i:=8) (v:= ?va5) H R R R (λ_ _ _ h=>h) (Or.inl ⟨Zb,?hya5⟩) ?_
    case hya5=>(intro w;go_simp;try with_reducible rfl)
    refine wpAny_ready (rs:=[6,9]) R YL ?_;refine Yi H (λf b=> ?_) ?_
    ·go_simp;refine b _ _ ?_;clear b f;refine wpAny_take (i:=7) (v:= ?va6) H R R R (λ_ _ _ h=>h) (Or.inl ⟨Zb,?hya6⟩) ?_
     case hya6=>(intro w;go_simp;try with_reducible rfl)
     exact a0B
    refine Yi H (λf b=> ?_) ?_
    ·go_simp;refine b _ _ ?_;clear b f;refine wpAny_ready (rs:=[6]) R YL ?_;refine Yi H (λf b=> ?_) ?_
     ·go_simp;refine b _ _ ?_;clear b f;refine wpAny_take (i:=7) (v:= ?va7) H R R R (λ_ _ _ h=>h) (Or.inl ⟨Zb,?hya7⟩) ?_
      case hya7=>(intro w;go_simp;try with_reducible rfl)
      exact a0C
     exact Yo
    exact Yo
   refine Yi H (λf b=> ?_) ?_
   ·go_simp;refine b _ _ ?_;clear b f;refine wpAny_take (i:=7) (v:= ?va8) H R R R (λ_ _ _ h=>h) (Or.inl ⟨Zb,?hya8⟩) ?_
    case hya8=>(intro w;go_simp;try with_reducible rfl)
    refine wpAny_ready (rs:=[3]) R YL ?_;refine Yi H (λf b=> ?_) ?_
    ·go_simp;refine b _ _ ?_;clear b f;refine wpAny_take (i:=4) (v:= ?va9) H R R R (λ_ _ _ h=>h) (Or.inl ⟨Zb,?hya9⟩) ?_
     case hya9=>(intro w;go_simp;try with_reducible rfl)
     refine wpAny_take (i:=8) (v:= ?va10) H R R R (λ_ _ _ h=>h) (Or.inl ⟨Zb,?hya10⟩) ?_
     case hya10=>(intro w;go_simp;try with_reducible rfl)
     exact a0B
    exact Yo
   exact Yo
  refine Yi H (λf b=> ?_) ?_
  ·go_simp;refine b _ _ ?_;clear b f;refine wpAny_take (i:=4) (v:= ?va11) H R R R (λ_ _ _ h=>h) (Or.inl ⟨Zb,?hya11⟩) ?_
   case hya11=>(intro w;go_simp;try with_reducible rfl)
   refine wpAny_ready (rs:=[0,6]) R YL ?_;refine Yi H (λf b=> ?_) ?_
   ·go_simp;refine b _ _ ?_;clear b f;refine wpAny_take (i:=8) (v:= ?va12) H R R R (λ_ _ _ h=>h) (Or.inl ⟨Zb,?hya12⟩) ?_
    case hya12=>(intro w;go_simp;try with_reducible rfl)
    refine wpAny_ready (rs:=[6,9]) R YL ?_;refine Yi H (λf b=> ?_) ?_
    ·go_simp;refine b _ _ ?_;clear b f;refine wpAny_take (i:=7) (v:= ?va13) H R R R (λ_ _ _ h=>h) (Or.inl ⟨Zb,?hya13⟩) ?_
     case hya13=>(intro w;go_simp;try with_reducible rfl)
     exact a0B
    refine Yi H (λf b=> ?_) ?_
    ·go_simp;refine b _ _ ?_;clear b f;refine wpAny_ready (rs:=[6]) R YL ?_;refine Yi H (λf b=> ?_) ?_
     ·go_simp;refine b _ _ ?_;clear b f;refine wpAny_take (i:=7) (v:= ?va14) H R R R (λ_ _ _ h=>h) (Or.inl ⟨Zb,?hya14⟩) ?_
      case hya14=>(intro w;go_simp;try with_reducible rfl)
      exact a0C
     exact Yo
    exact Yo
   refine Yi H (λf b=> ?_) ?_
   ·go_simp;refine b _ _ ?_;clear b f;refine wpAny_take (i:=7) (v:= ?va15) H R R R (λ_ _ _ h=>h) (Or.inl ⟨Zb,?hya15⟩) ?_
    case hya15=>(intro w;go_simp;try with_reducible rfl)
    refine wpAny_ready (rs:=[0]) R YL ?_;refine Yi H (λf b=> ?_) ?_
    ·go_simp;refine b _ _ ?_;clear b f;refine wpAny_take (i:=8) (v:= ?va16) H R R R (λ_ _ _ h=>h) (Or.inl ⟨Zb,?hya16⟩) ?_
     case hya16=>(intro w;go_simp;try with_reducible rfl)
     exact a0B
    exact Yo
   exact Yo
  refine Yi H (λf b=> ?_) ?_
  ·go_simp;refine b _ _ ?_;clear b f;refine wpAny_take (i:=7) (v:= ?va17) H R R R (λ_ _ _ h=>h) (Or.inl ⟨Zb,?hya17⟩) ?_
   case hya17=>(intro w;go_simp;try with_reducible rfl)
   refine wpAny_ready (rs:=[0,3]) R YL ?_;refine Yi H (λf b=> ?_) ?_
   ·go_simp;refine b _ _ ?_;clear b f;refine wpAny_ready (rs:=[3]) R YL ?_;refine Yi H (λf b=> ?_) ?_
    ·go_simp;refine b _ _ ?_;clear b f;refine wpAny_take (i:=4) (v:= ?va18) H R R R (λ_ _ _ h=>h) (Or.inl ⟨Zb,?hya18⟩) ?_
     case hya18=>(intro w;go_simp;try with_reducible rfl)
     refine wpAny_take (i:=8) (v:= ?va19) H R R R (λ_ _ _ h=>h) (Or.inl ⟨Zb,?hya19⟩) ?_
     case hya19=>(intro w;go_simp;try with_reducible rfl)
     exact a0B
    exact Yo
   refine Yi H (λf b=> ?_) ?_
   ·go_simp;refine b _ _ ?_;clear b f;refine wpAny_take (i:=4) (v:= ?va20) H R R R (λ_ _ _ h=>h) (Or.inl ⟨Zb,?hya20⟩) ?_
    case hya20=>(intro w;go_simp;try with_reducible rfl)
    refine wpAny_ready (rs:=[0]) R YL ?_;refine Yi H (λf b=> ?_) ?_
    ·go_simp;refine b _ _ ?_;clear b f;refine wpAny_take (i:=8) (v:= ?va21) H R R R (λ_ _ _ h=>h) (Or.inl ⟨Zb,?hya21⟩) ?_
     case hya21=>(intro w;go_simp;try with_reducible rfl)
     exact a0B
    exact Yo
   exact Yo
  exact Yo
 case done=>
  rintro ad W t ⟨q,r,h⟩ b;have T:=h.row;have u:=h.len;have b1:=h.bq.cell;have f1:=h.bq.frozen;have b2:=h.br.cell;have y:r<1000000000:=by have:=h.lt;omega
  have aj:∀o,(W.alloc o).cell? ⟨w.heap.size+1,0,I⟩=L (V (L ⟨w.heap.size+2,0,I⟩) (ln a) (ln a)):=λo=>(h.bq.alloc o).cell
  have am:∀o,(W.alloc o).frozen? ⟨w.heap.size+1,0,I⟩=O:=λo=>(h.bq.alloc o).frozen
  have an:∀o,(W.alloc o).cell? ⟨w.heap.size+3,0,I⟩=L (G F r):=λo=>(h.br.alloc o).cell
  have P:∀X:U,Row (X.alloc (.cells #[G F r] 3)) X.heap.size 1 [r]:=λX=>row_one X r
  have HO:=A P;have J:=A T;have M:=A u;have s:=A (Tn h ae ZJ b);clear P T u ag
  gi_wp2
  refine F0 ?_;go_region_with (go_at_call 315;first|((with_reducible refine(kV (g:=w.heap.size+2) (l:=q) (Row.drew J.o) M.o).mono ?_);rintro e w' ⟨rfl,rfl⟩)|((with_reducible refine(kV (g:=w.heap.size+2) (l:=q) (Row.drew (J.o.alloc _)) M.o).mono ?_);rintro e w' ⟨rfl,rfl⟩)|((with_reducible refine(kV (l:=[r]) (n:=1) (Row.drew (HO.o W)) (List.length_singleton)).mono ?_);rintro e w' ⟨rfl,rfl⟩))
  all_goals
   refine dw ?_
   gi_wp2
   refine⟨YL,.inl ⟨_,_,rfl,run_takeDeferred s.o.1,?_⟩⟩;exact⟨YF #[V (L ⟨w.heap.size+2,0,I⟩) (aD q).length (ln a),V (L ⟨W.heap.size,0,I⟩) (aD [r]).length 1],by simp[results,results317,go_sem,s.o.2.1],s.o.2.2⟩
 case stop=>
  rintro ad c k W t hk h;exact h.elim
end
end Go.Proofs.YtnepbjnlmkppmaaGreatDoor
namespace Kp
section
open Go
def ix(b:UInt8):Bool:=48<=b&&b<=57
def FM:List UInt8:=[48,49,50,51,52,53,54,55,56,57]
def DP(b:UInt8):FM.contains b=ix b:=by
 have h:∀n:Fin 256,FM.contains (UInt8.ofNat n.1)=ix (UInt8.ofNat n.1):=Zz;have:=h ⟨b.toNat,b.toNat_lt⟩;exact a0r
def yg(l:List UInt8):Lib.trimS l FM=[]↔l.all ix=Y:=by
 have h1:∀m:List UInt8,Lib.trimLeftS m FM=[]↔m.all ix=Y:=by
  intro m;unfold Lib.trimLeftS;simp only[DP]
  induction m with
  |nil=>simp
  |cons b m f=>
   by_cases a:ix b=Y
   ·simp[a,f]
   ·simp[a]
 unfold Lib.trimS;rw[h1];unfold Lib.trimRightS;simp only[DP];constructor
 ·intro h;rw[List.all_eq_true] at h⊢;intro b a;have h2:∀m:List UInt8,(∀x∈m.dropWhile (λx=>ix x),ix x=Y)->∀x∈m,ix x=Y:=by
   intro m
   induction m with
   |nil=>intro _ x hx;cases hx
   |cons c m f=>
    intro d x hx;by_cases e:ix c=Y
    ·rw[List.dropWhile_cons_of_pos e] at d;rcases List.mem_cons.1 hx with rfl|hx
     ·exact e
     ·exact f d x hx
    ·rw[List.dropWhile_cons_of_neg e] at d;exact d x hx
  exact h2 l.reverse (λx hx=>h x (List.mem_reverse.2 hx)) b (List.mem_reverse.2 a)
 ·intro h;rw[List.all_eq_true] at h⊢;intro b a;exact h b (List.mem_reverse.1 ((List.dropWhile_suffix _).mem (List.mem_reverse.1 a)))
def own(l:List UInt8):List UInt8:=Lib.trimPrefix l [45]
def aQ(l:List UInt8):Bool:=(own l).all ix&& !(own l).isEmpty&&(!((own l).head?==L 48)||l==[48])
def kq(l:List UInt8):Int:=if aQ l then(if 300<(own l).length then 4 else 0) else 11
def Ki{l r:List UInt8}{c:UInt8}(h:own l=c::r)(a:c=48)(b:¬l=[48]):kq l=11:=by
 unfold kq aQ;rw[h,a];simp[b]
def Dh{l r:List UInt8}{c:UInt8}(h:own l=c::r)(a:(!(Lib.trimS (c::r) FM).isEmpty)=Y):kq l=11:=by
 have:(c::r).all ix=O:=by
  rw[Bool.eq_false_iff];intro h1;rw[(yg _).2 h1] at a;simp at a
 unfold kq aQ;rw[h,this];simp
def pG{l r:List UInt8}{c:UInt8}(h:own l=c::r)(a:¬c=48\/l=[48])(b:(!(Lib.trimS (c::r) FM).isEmpty)=O):kq l=if 300<ln r+1 then 4 else 0:=by
 have:(c::r).all ix=Y:=(yg _).1 (by simpa using b);have d:aQ l=Y:=by
  unfold aQ;rw[h,this];rcases a with a|a
  ·simp[a]
  ·simp[a]
 unfold kq;rw[d,h];simp
def SP{c:UInt8}(h:(c.toNat:Int)=48):c=48:=UInt8.toNat.inj YP
end
section
open Go
def jh(b:UInt8):Nat:=b.toNat-48
def lv{b:UInt8}(h:ix b=Y):jh b<10/\48<=b.toNat/\b.toNat<=57:=by
 unfold ix at h;simp[UInt8.le_iff_toNat_le] at h;unfold jh;omega
def ak(l:List UInt8):Nat:=l.foldl (λa b=>a*10+jh b) 0
def wF(l:List UInt8)(b:UInt8):ak (l++[b])=ak l*10+jh b:=by simp[ak]
def zT{b:UInt8}(h:ix b=Y):Lib.digitVal b=L (jh b):=by
 have:=lv h;unfold Lib.digitVal;rw[XT D];rfl
def DJ(l:List UInt8)(h:l.all ix=Y):∀c,Lib.decFrom c l=L (l.foldl (λa b=>a*10+jh b) c):=by
 induction l with
 |nil=>intro c;rfl
 |cons b r d=>
  intro c;simp only[List.all_cons,Bool.and_eq_true] at h;simp only[Lib.decFrom,zT h.1,List.foldl_cons];exact d h.2 _
def qo{l:List UInt8}(h:l.all ix=Y)(a:l≠[]):Lib.decNat l=L (ak l):=by
 unfold Lib.decNat;rw[XQ (by simpa using a),DJ l h];rfl
def dg(l:List UInt8)(p:Nat):Nat:=jh (l.getD (ln l-1-p) 48)
def low(l:List UInt8):Nat->Nat
 |0=>0
 |i+1=>low l i+dg l i*10^i
def Em(l:List UInt8):∀a:Nat,l.foldl (λa b=>a*10+jh b) a=a*10^ln l+ak l:=by
 induction l with
 |nil=>intro a;simp[ak]
 |cons b r c=>
  intro a;simp only[List.foldl_cons,List.length_cons];have e:ak (b::r)=r.foldl (λa b=>a*10+jh b) (0*10+jh b):=rfl;rw[c,e,c];rw[Nat.pow_succ,Nat.add_mul,Nat.zero_mul,Nat.zero_add];have:a*10*10^ln r=a*(10^ln r*10):=by rw[Nat.mul_assoc,Yd 10]
  omega
def iM(b:UInt8)(r:List UInt8):ak (b::r)=jh b*10^ln r+ak r:=by
 have:=Em r (jh b);unfold ak at *;simp only[List.foldl_cons,Nat.zero_mul,Nat.zero_add];exact this
def Nk(b:UInt8)(r:List UInt8)(i:Nat)(hi:i<=ln r):low (b::r) i=low r i:=by
 induction i with
 |zero=>rfl
 |succ i a=>
  rw[low,low,a D];have:dg (b::r) i=dg r i:=by
   unfold dg;have e:(b::r).length-1-i=(ln r-1-i)+1:=YP;rw[e];simp
  rw[this]
def QP(l:List UInt8):low l (ln l)=ak l:=by
 induction l with
 |nil=>rfl
 |cons b r a=>
  rw[List.length_cons,low,Nk b r _ (XE _),a,iM];have:dg (b::r) (ln r)=jh b:=by unfold dg;simp
  rw[this];omega
def Sn{l:List UInt8}(h:l.all ix=Y)(i:Nat):dg l i<10:=by
 unfold dg;rw[XJ];cases hx:l[ln l-1-i]? with
 |none=>decide
 |some b=>
  rw[List.all_eq_true] at h;exact(lv (h b (List.mem_of_getElem? hx))).1
structure Tc(l:List UInt8)(i:Nat)(am:List Nat):Prop where
 small:Small am
 eq:S (C am) (ln am)=low l i
 part:C am (i/9)<10^(i%9)
 zero:∀k,i/9<k->C am k=0
def Qu(i:Nat):10^(i%9)*B^(i/9)=10^i:=by
 have:B=10^9:=rfl;rw[this,<-Nat.pow_mul,<-Nat.pow_add]
 congr 1
 omega
theorem Li{f g:Nat->Nat}(b:j<n)(a:∀k,k≠j->g k=f k)(hx:g j=f j+x):S g n=S f n+x*B^j:=by
 have h:=FP (f:=f) (g:=g) (m:=n) (j:=j) (n:=1) D (λk hk=>a k D) (λk hk _=>a k D);have e:∀h:Nat->Nat,S (sh h j) 1=h j:=λh=>by unfold S S sh;simp
 rw[e,e,hx,Nat.mul_add] at h;have:B^j*x=x*B^j:=Yd _ _;omega
theorem Tc.step{l:List UInt8}(h:Tc l i am)(n:l.all ix=Y)(o:i/9<ln am)(g:ln ao=ln am)
  (a:∀k,k≠i/9->C ao k=C am k)(hx:C ao (i/9)=C am (i/9)+dg l i*10^(i%9)):Tc l (i+1) ao:=by
 have q:=Sn n i;have d:C ao (i/9)<10^(i%9+1):=by
  rw[hx,Nat.pow_succ];have:dg l i*10^(i%9)<=9*10^(i%9):=Nat.mul_le_mul_right _ D;have:=h.part;omega
 have j:C ao (i/9)<B:=by
  have:10^(i%9+1)<=10^9:=Nat.pow_le_pow_right YK D;exact Nat.lt_of_lt_of_le d this
 refine⟨?_,?_,?_,?_⟩
 ·intro x m;obtain⟨k,hk,e⟩:=List.mem_iff_getElem.1 m;rw[<-e,<-mS hk];by_cases f:k=i/9
  ·rw[f];exact j
  ·rw[a k f];exact aB h.small k
 ·rw[g,Li o a hx,h.eq,low,Nat.mul_assoc,Qu]
 ·by_cases r:i%9=8
  ·have b:(i+1)/9=i/9+1:=D;have c:(i+1)%9=0:=D;rw[b,c,a _ D,h.zero _ D];decide
  ·have b:(i+1)/9=i/9:=D;have c:(i+1)%9=i%9+1:=D;rw[b,c];exact d
 ·intro k hk;have:i/9<k:=D;rw[a k D];exact h.zero k this
def Tc.start(l:List UInt8)(n:Nat):Tc l 0 (List.replicate n 0):=by
 have a:∀k,C (List.replicate n 0) k=0:=λk=>by unfold C;rw[XJ,List.getElem?_replicate];split <;>rfl
 refine⟨λd b=>by rw[List.eq_of_mem_replicate b];decide,?_,by rw[a];decide,λk _=>a k⟩;rw[sI (λk _=>a k)];rfl
end
end Kp
namespace Go.Proofs.YtnepbjnlmkppmaaGreatDoor
section
open Kp
abbrev tx(l:List UInt8):ByteArray:=⟨l.toArray⟩
def bH(l:List UInt8):(tx l).data.toList=l:=YL
def af(l:List UInt8):(tx l).size=ln l:=Zr
def o6(s:ByteArray):tx s.data.toList=s:=by cases s;simp
def Cb(l:List UInt8)(w:U)(a:ln l<=1000000):
  XY Xz 333 #[Yy (tx l),Yy ⟨#[48,49,50,51,52,53,54,55,56,57]⟩] w λe w'=>e=YC (Yy (tx (Lib.trimS l FM)))/\Yl w.heap.size w w':=by
 have h:=Go.Proofs.Any.strings_Trim_laid Rd R (tx l) ⟨#[48,49,50,51,52,53,54,55,56,57]⟩ w ZB YK (ascii_of_all YK);rw[bH] at h;exact h
def cU{k:IntKind}{a b:Int}(h:a=b):Ending.returned (.int k a)=YC (.int k b):=by rw[h]
def xc(l:List UInt8)(w:U)(n:ln l<=1000000):
  XY Xz 313 #[Yy (tx l)] w λe w'=>e=YC (G F (kq l))/\Yl w.heap.size w w':=by
 have j:=A (strings_TrimPrefix (tx l) (tx [45]) w);obtain⟨ds,f⟩:=aa (own l);have m:ln ds<=ln l:=by rw[<-f];unfold own Lib.trimPrefix;split <;>simp
 have k:Lib.trimPrefix l [45]=ds:=f;have a:=A f;rw[k] at j;clear f k;cases ds with
 |nil=>
  go_enter func313,ntmps313;go_wp2_with(go_at_call 248;refine j.o.mono ?_;rintro e w' ⟨rfl,rfl⟩)
  go_ret;exact⟨cU (by unfold kq aQ;rw[a.o];rfl),XI _ _⟩
 |cons c r=>
  go_enter func313,ntmps313;go_wp2_with(first|(go_at_call 248;refine j.o.mono ?_;rintro e w' ⟨rfl,rfl⟩)|(go_at_call 333;refine(Cb (c::r) _ (by simp at m⊢;omega)).mono ?_;rintro e w2 ⟨rfl,b⟩))
  ·go_ret;exact⟨cU (Dh a.o YT).symm,b⟩
  ·have i:l=[48]:=YT;have g:300<(ln r:Int)+1:=YT;go_ret;exact⟨cU (by rw[pG a.o (.inr i) YT,XT D]),b⟩
  ·have i:l=[48]:=YT;have g:(ln r:Int)+1<=300:=YT;go_ret;exact⟨cU (by rw[pG a.o (.inr i) YT,XQ D]),b⟩
  ·have d:(c.toNat:Int)=48:=YT;go_ret;exact⟨cU (Ki a.o (SP d) YT).symm,XI _ _⟩
  ·go_ret;exact⟨cU (Dh a.o YT).symm,b⟩
  ·have d:¬(c.toNat:Int)=48:=YT;have g:300<(ln r:Int)+1:=YT;go_ret;exact⟨cU (by rw[pG a.o (.inl (λh=>d (by rw[h];rfl))) YT,XT D]),b⟩
  ·have d:¬(c.toNat:Int)=48:=YT;have g:(ln r:Int)+1<=300:=YT;go_ret;exact⟨cU (by rw[pG a.o (.inl (λh=>d (by rw[h];rfl))) YT,XQ D]),b⟩
end
section
open Kp
attribute [local go_sem] Oper.semAt_some
def TF(Bs:Nat)(l:List UInt8)(W:U):Prop:=W.cell? ⟨Bs,0,I⟩=L (Yy (tx l))
def Vb(l:List UInt8)(k:Nat)(x:Array Z):Prop:=x=#[G F (k:Int),G F (dg l k:Int)]
theorem UR{l:List UInt8}(hk:k<ln l):dg l k=jh (l[ln l-1-k]'D):=by
 unfold dg;rw[XJ,XO D];rfl
def Cq(Bs:Nat)(l:List UInt8)(s:ln l<=1000000)(a:l.all ix=Y):
  Cw Xz 334 #[YA (L ⟨Bs,0,I⟩)] (Vb l) (TF Bs l) (ln l):=by
 intro m t J u W b x w j f;refine callsIn_of_wp func334 H trivial ?_ H;have q:=b 0 W f;unfold TF at q;simp only[ntmps334,List.size_toArray,List.length_cons,List.length_nil,Nat.reduceAdd,Nat.reduceSub,Array.replicate_succ,Array.replicate_zero,List.push_toArray,List.append_toArray,List.nil_append,List.cons_append]
 gi_wp2
 gi_loopw [6] (λi wr=>∃k:Nat,k<=ln l/\i=G F (k:Int)/\J k wr) (λi _=>((ln l:Int)-Yf i).toNat)
 case atStart=>exact⟨0,D,YL,f⟩
 case round=>
  obtain⟨k,hk,rfl,d⟩:=hrel;have o:=b k wr d;unfold TF at o;by_cases g:k<ln l
  ·obtain⟨fn,tmps,assign,body,hy,C⟩:=j k _ wr g H d;have r:((ln l:Int)-1-k).toNat=ln l-1-k:=D;have c:ln l-1-k<(tx l).size:=ZB;have v:((((tx l)[ln l-1-k]'c).toNat:Int)-48)%256=(dg l k:Int):=by
    have hx:(tx l)[ln l-1-k]'c=l[ln l-1-k]'D:=rfl;rw[hx,UR g];have:=lv (List.all_eq_true.1 a _ (List.getElem_mem (n:=ln l-1-k) (h:=D)));unfold jh at *;omega
   have y:=A a;clear a;exact a0D
  ·obtain rfl:k=ln l:=D;exact a0z
def Gv(w:U)(s:ByteArray):
  XY Xz 314 #[Yy s] w λe w'=>e=YC (.func (.func 334) #[] #[YA (L ⟨w.heap.size,0,I⟩)])/\w'=w.alloc (.cells #[Yy s] 9):=by
 go_enter func314,ntmps314;go_wp2;go_ret;exact⟨H,H⟩
end
section
open Kp
attribute [local go_sem] Oper.semAt_some
def gR(W:U)(b:Nat)(t:Yj)(u v:Z):Prop:=W.heap[b]?=L (.cells #[u,v] t (0,0))
theorem gR.cell0{u v:Z}(h:gR W b t u v):W.cell? ⟨b,0,I⟩=L u:=by unfold gR at h;simp[World.cell?,h]
theorem gR.fJ{u v:Z}(h:gR W b t u v):W.cell? ⟨b,1,I⟩=L v:=by unfold gR at h;simp[World.cell?,h]
theorem gR.frozen{u v:Z}(h:gR W b t u v)(i:Nat):W.frozen? ⟨b,i,I⟩=O:=by unfold gR at h;simp[World.frozen?,h]
theorem gR.stays{u v:Z}(h:gR W b t u v)(a:aI n0 W W'):gR W' b t u v:=a.cells _ _ _ _ h
theorem gR.lt{u v:Z}(h:gR W b t u v):b<W.heap.size:=(XV.1 h).1
theorem gR.eC{u v:Z}(h:gR W b t u v)(a:b≠p.block)(x:Z):gR (W.setCell p x) b t u v:=(Below.heap_setCell W p x b a).trans h
theorem gR.nz{u v:Z}(h:gR W b t u v)(x:Z):gR (W.setCell ⟨b,0,I⟩ x) b t x v:=by
 unfold gR at h⊢;simp[World.setCell,Array.getElem?_modify,h]
theorem gR.ue{u v:Z}(h:gR W b t u v)(x:Z):gR (W.setCell ⟨b,1,I⟩ x) b t u x:=by
 unfold gR at h⊢;simp[World.setCell,Array.getElem?_modify,h]
theorem gR.alloc{u v:Z}(h:gR W b t u v)(o:Obj):gR (W.alloc o) b t u v:=(Below.heap_alloc W o b h.lt).trans h
theorem gR.drew{u v:Z}(h:gR W b t u v):gR W.drew b t u v:=h
theorem gR.at_{u v:Z}(h:W.heap.size=n):gR (W.alloc (.cells #[u,v] t)) n t u v:=by subst h;exact XZ W _
structure JK(w:U)(ds:List UInt8)(neg:Bool)(n:Nat)(k:Nat)(am:List Nat)(u:Nat)(W:U):Prop where
 res:gR W w.heap.size 311 (Yz O) (V I 0 0)
 row:Row W (w.heap.size+1) n am
 x:gR W (w.heap.size+2) 311 (Yz neg) (V (L ⟨w.heap.size+1,0,I⟩) n n)
 unit:Bx W (w.heap.size+3) 3 (G F u)
 it:Bx W (w.heap.size+4) 9 (Yy (tx ds))
 len:ln am=n
 hu:k%9≠0->u=10^(k%9)
 m:Tc ds k am
 low:Yl w.heap.size w W
theorem JK.stays{neg:Bool}{u n0:Nat}(h:JK w ds neg n k am u W)(a:aI n0 W W')(b:w.heap.size<=n0):JK w ds neg n k am u W':=
 ⟨h.res.stays a,h.row.stays a,h.x.stays a,h.unit.stays a,h.it.stays a,h.len,h.hu,h.m,h.low.trans (a.below.mono b)⟩
def Gg(w:U)(ds:List UInt8)(neg:Bool)(n:Nat)(k:Nat)(W:U):Prop:=∃am u,JK w ds neg n k am u W
theorem It{neg:Bool}{u:Nat}(h:JK w ds neg n k am u W)(d:ds.all ix=Y)(hk:k/9<n)(hu:u=10^(k%9)):
  JK w ds neg n (k+1) (am.set (k/9) (C am (k/9)+dg ds k*u)) (u*10) ((W.setCell ⟨w.heap.size+1,k/9,I⟩ (G F ((C am (k/9):Int)+(dg ds k:Int)*u))).setCell ⟨w.heap.size+3,0,I⟩ (G F ((u:Int)*10))):=by
 obtain⟨res,row,x,unit,it,len,_,m,low⟩:=h;have a:((C am (k/9):Int)+(dg ds k:Int)*u)=((C am (k/9)+dg ds k*u:Nat):Int):=YL;have b:((u:Int)*10)=((u*10:Nat):Int):=YL;rw[a,b];refine⟨(res.eC YL _).eC YL _,(row.set D _).eC YL _,(x.eC YL _).eC YL _,(unit.eC YL _).put _,(it.eC YL _).eC YL _,by simpa using len,?_,?_,?_⟩
 ·intro e;rw[hu,<-Nat.pow_succ]
  congr 1;omega
 ·refine m.step d D YL (λj c=>by rw[jq D,XQ c]) ?_;rw[jq D,XT rfl,hu]
 ·exact(low.setCell (p:=⟨w.heap.size+1,_,I⟩) YL _).setCell (p:=⟨w.heap.size+3,0,I⟩) YL _
theorem Tk{neg:Bool}{u:Nat}(h:JK w ds neg n k am u W)(hk:k%9=0):
  JK w ds neg n k am 1 (W.setCell ⟨w.heap.size+3,0,I⟩ (G F 1)):=
 ⟨h.res.eC YL _,h.row.eC YL _,h.x.eC YL _,h.unit.put _,h.it.eC YL _,h.len,λh=>absurd hk h,h.m,h.low.setCell (p:=⟨w.heap.size+3,0,I⟩) YL _⟩
theorem JK.drew{neg:Bool}{u:Nat}(h:JK w ds neg n k am u W):JK w ds neg n k am u W.drew:=
 ⟨h.res,h.row,h.x,h.unit,h.it,h.len,h.hu,h.m,h.low.drew⟩
theorem oA{neg:Bool}{u a e c b:Nat}{v1 d:Z}
  (h:JK w ds neg n k am u ((W.setCell ⟨a,e,I⟩ v1).setCell ⟨c,b,I⟩ d)):
  KeepsOthers W ((W.setCell ⟨a,e,I⟩ v1).setCell ⟨c,b,I⟩ d).drew/\Gg w ds neg n k ((W.setCell ⟨a,e,I⟩ v1).setCell ⟨c,b,I⟩ d).drew:=
 ⟨((KeepsOthers.setCell _ _ _).trans (KeepsOthers.setCell _ _ _)).trans (KeepsOthers.drew _),_,_,h.drew⟩
theorem xb{w W0 W:U}{neg:Bool}{u a e c b:Nat}{v1 d:Z}(hk:KeepsOthers W0 W)
  (h:JK w ds neg n k am u ((W.setCell ⟨a,e,I⟩ v1).setCell ⟨c,b,I⟩ d)):
  KeepsOthers W0 ((W.setCell ⟨a,e,I⟩ v1).setCell ⟨c,b,I⟩ d).drew/\Gg w ds neg n k ((W.setCell ⟨a,e,I⟩ v1).setCell ⟨c,b,I⟩ d).drew:=
 ⟨hk.trans (oA h).1,(oA h).2⟩
def NQ(w:U)(s:List UInt8)(e:Ending)(w':U):Prop:=
 ∃v l,e=YC (YE #[Yz (Lib.hasPrefix s [45]),v])/\Lw w w' v l/\Canon l/\val l=ak (own s)/\ln l<=(own s).length/\Yl w.heap.size w w'
def mD(w:U)(s:List UInt8)(J:(own s).all ix=Y)(hl:ln s<=1000000):
  XY Xz 292 #[Yy (tx s)] w (NQ w s):=by
 obtain⟨ds,g⟩:=aa (own s);obtain⟨neg,K⟩:=aa (Lib.hasPrefix s [45]);have ar:ln ds<=ln s:=by rw[<-g];unfold own Lib.trimPrefix;split <;>simp
 have Q:Lib.trimPrefix s [45]=ds:=g;have hcut:∀W,XY Xz 286 #[Yy (tx s),Yy ⟨#[45]⟩] W λe w'=>e=YC (YF #[Yy (tx ds),Yz neg])/\w'=W:=λW=>by
  have:=strings_CutPrefix (tx s) (tx [45]) W;rw[bH,bH,Q,K] at this;exact this
 rw[g] at J;have Z:=A g;have ak:=A K;have z:=A J;have ac:=A hcut;clear g Q K hcut J;have w1:((ln ds:Int)+9-1)/9=(((ln ds+8)/9:Nat):Int):=D;obtain⟨n,P⟩:=aa ((ln ds+8)/9);rw[P] at w1;have al:=A P;have aq:n<=1000000:=D;have au:ln ds<=n*9:=D;clear P;have ao:=mb n D;refine(callsIn_wide (n:=9)).1 (callsIn_of_wp_marks func292 H trivial ?_);simp only[ntmps292,List.size_toArray,List.length_cons,List.length_nil,Nat.reduceAdd,Nat.reduceSub,Array.replicate_succ,Array.replicate_zero,List.push_toArray,List.append_toArray,List.nil_append,List.cons_append];gi_wp2_with(refine⟨trivial,?_⟩;first|(gi_at_call 286;refine(callsIn_wide.2 (ac.o _)).mono ?_;rintro e w' ⟨rfl,rfl⟩)|(gi_at_call 314;refine(callsIn_wide.2 (Gv _ _)).mono ?_;rintro e w' ⟨rfl,rfl⟩))
 refine iu (gf:=334) (lb:=#[YA (L ⟨w.heap.size+4,0,I⟩)]) H (enters_of func334 R H)
  (Cq (w.heap.size+4) ds D z.o) (λk x e=>Z4)
  (Gg w ds neg n) (λ_ _ _=>False) (λk W W' ⟨q,r,h⟩ d=>⟨q,r,h.stays d YP⟩) (λc k W W' h d=>h) (λk W ⟨q,r,h⟩=>h.it.cell) ?start ?round ?done ?stop
 case start=>
  have hB:Yl w.heap.size w (((((w.alloc (.cells #[Yz O,V I 0 0] 311)).alloc (.cells (qA n) 3)).alloc (.cells #[Yz neg,V (L ⟨w.heap.size+1,0,I⟩) n n] 311)).alloc (.cells #[G F 1] 3)).alloc (.cells #[Yy (tx ds)] 9)):=
   (sZ w _ _ _).trans ((((XI _ _).alloc YP _).alloc YP _))
  refine⟨List.replicate n 0,1,((((gR.at_ H).alloc _).alloc _).alloc _).alloc _,?_,((gR.at_ YL).alloc _).alloc _,(Bx.at_ YL).alloc _,Bx.at_ YL,YL,λh=>absurd rfl h,Tc.start ds n,hB⟩;have:=sH (w.alloc (.cells #[Yz O,V I 0 0] 311)) n D;simp only[Ya] at this;exact((this.alloc _).alloc _).alloc _
 case round=>
  intro l k x W b hk hx hi a;unfold Vb at hx;subst hx;have HK:=A a;clear a
  gi_wp2
  refine HK.o _ (λW2 ae _=> ?_);clear HK hi;obtain⟨am,u,h⟩:=ae;have ab:k/9<n:=D;have ap:=Sn z.o k;have an:C am (k/9)<1000000000:=aB h.m.small _;have hq:((k:Int)/9).toNat=k/9:=D;have i0:0<=(k:Int)/9:=D;have i1:(k:Int)/9<n:=D;by_cases m:k%9=0
  ·have h1:=Tk h m;obtain⟨W3,y⟩:=aa (W2.setCell ⟨w.heap.size+3,0,I⟩ (G F 1));have af:=A (show KeepsOthers W2 W3 by rw[<-y];exact KeepsOthers.setCell _ _ _);rw[y] at h1;obtain⟨u1,B⟩:=gz (1:Nat);rw[<-B] at h1;have hu:u1=10^(k%9):=by rw[m,B]
   clear B;have E:=A (It h1 z.o ab hu);have f2:=h.unit.frozen;have b2:=h.unit.cell;have N:u1<=100000000:=by
    exact a0F
   have M:dg ds k*u1<=900000000:=by
    calc dg ds k*u1<=9*100000000:=Nat.mul_le_mul D N
     _=900000000:=rfl
   have ai:(dg ds k:Int)*(u1:Int)<=900000000:=by rw[<-Int.natCast_mul];omega
   have ag:0<=(dg ds k:Int)*(u1:Int):=by rw[<-Int.natCast_mul];omega
   have b0:=h1.x.fJ;have b1:=h1.unit.cell;have f1:=h1.unit.frozen;have f3:=h1.row.frozen (k/9);have b3:=h1.row.cell (j:=k/9) (by rw[h1.len];omega);have wq:F.wrap ((k:Int)/9)=(k:Int)/9:=cQ D D;have w5:F.wrap ((dg ds k:Int)*(u1:Int))=dg ds k*u1:=cQ D D;have w6:F.wrap ((C am (k/9):Int)+(dg ds k:Int)*(u1:Int))=C am (k/9)+dg ds k*u1:=cQ D D;have w7:F.wrap ((u1:Int)*10)=u1*10:=cQ D D;have ht:((k:Int)%9==0)=Y:=by rw[Yg];omega
   have ah:=A y;clear h h1 m y hu M
   gi_wp2
   rw[ah.o];refine wpIn_region_any R (iY R (by rintro⟨_,_,h⟩;exact h) _ _ _ _ ?_)
   try(change wpAny _ _ _ _ _ _ _ (U.drew _))
   refine wpAny_take (i:=0) (v:= ?vc1) H R R R (λ_ _ _ h=>h) (Or.inl ⟨Zb,?hyc1⟩) ?_
   case hyc1=>(intro w;go_simp;try with_reducible rfl)
   refine wpAny_take (i:=2) (v:= ?vc2) H R R R (λ_ _ _ h=>h) (Or.inl ⟨Zb,?hyc2⟩) ?_
   case hyc2=>(intro w;go_simp;try with_reducible rfl)
   refine wpAny_take (i:=3) (v:= ?vc3) H R R R (λ_ _ _ h=>h) (Or.inl ⟨Zb,?hyc3⟩) ?_
   case hyc3=>(intro w;go_simp;try with_reducible rfl)
   refine wpAny_take (i:=6) (v:= ?vc4) H R R R (λ_ _ _ h=>h) (Or.inl ⟨Zb,?hyc4⟩) ?_
   case hyc4=>(intro w;go_simp;try with_reducible rfl)
   refine wpAny_ready (rs:=[1,7]) R YL ?_;refine Yi H (λb a=> ?_) ?_
   ·go_simp;refine a _ _ ?_;clear a b;refine wpAny_take (i:=4) (v:= ?vc5) H R R R (λ_ _ _ h=>h) (Or.inl ⟨Zb,?hyc5⟩) ?_
    case hyc5=>(intro w;go_simp;try with_reducible rfl)
    refine wpAny_ready (rs:=[5,7]) R YL ?_;refine Yi H (λb a=> ?_) ?_
    ·go_simp;refine a _ _ ?_;clear a b;refine wpAny_ready (rs:=[7]) R YL ?_;refine Yi H (λb a=> ?_) ?_
     ·go_simp;refine a _ _ ?_;clear a b;refine wpAny_take (i:=8) (v:= ?vc6) H R R R (λ_ _ _ h=>h) (Or.inl ⟨Zb,?hyc6⟩) ?_
      case hyc6=>(intro w;go_simp;try with_reducible rfl)
      refine wpAny_take (i:=9) (v:= ?vc7) H R R R (λ_ _ _ h=>h) (Or.inl ⟨Zb,?hyc7⟩) ?_
      case hyc7=>(intro w;go_simp;try with_reducible rfl)
      refine wpAny_take (i:=10) (v:= ?vc8) H R R R (λ_ _ _ h=>h) (Or.inl ⟨Zb,?hyc8⟩) ?_
      case hyc8=>(intro w;go_simp;try with_reducible rfl)
      exact a0G
     exact Yo
    refine Yi H (λb a=> ?_) ?_
    ·go_simp;refine a _ _ ?_;clear a b;refine wpAny_take (i:=8) (v:= ?vc9) H R R R (λ_ _ _ h=>h) (Or.inl ⟨Zb,?hyc9⟩) ?_
     case hyc9=>(intro w;go_simp;try with_reducible rfl)
     refine wpAny_ready (rs:=[5]) R YL ?_;refine Yi H (λb a=> ?_) ?_
     ·go_simp;refine a _ _ ?_;clear a b;refine wpAny_take (i:=9) (v:= ?vc10) H R R R (λ_ _ _ h=>h) (Or.inl ⟨Zb,?hyc10⟩) ?_
      case hyc10=>(intro w;go_simp;try with_reducible rfl)
      refine wpAny_take (i:=10) (v:= ?vc11) H R R R (λ_ _ _ h=>h) (Or.inl ⟨Zb,?hyc11⟩) ?_
      case hyc11=>(intro w;go_simp;try with_reducible rfl)
      exact a0G
     exact Yo
    exact Yo
   refine Yi H (λb a=> ?_) ?_
   ·go_simp;refine a _ _ ?_;clear a b;refine wpAny_take (i:=8) (v:= ?vc12) H R R R (λ_ _ _ h=>h) (Or.inl ⟨Zb,?hyc12⟩) ?_
    case hyc12=>(intro w;go_simp;try with_reducible rfl)
    refine wpAny_ready (rs:=[1]) R YL ?_;refine Yi H (λb a=> ?_) ?_
    ·go_simp;refine a _ _ ?_;clear a b;refine wpAny_take (i:=4) (v:= ?vc13) H R R R (λ_ _ _ h=>h) (Or.inl ⟨Zb,?hyc13⟩) ?_
     case hyc13=>(intro w;go_simp;try with_reducible rfl)
     refine wpAny_ready (rs:=[5]) R YL ?_;refine Yi H (λb a=> ?_) ?_
     ·go_simp;refine a _ _ ?_;clear a b;refine wpAny_take (i:=9) (v:= ?vc14) H R R R (λ_ _ _ h=>h) (Or.inl ⟨Zb,?hyc14⟩) ?_
      case hyc14=>(intro w;go_simp;try with_reducible rfl)
      refine wpAny_take (i:=10) (v:= ?vc15) H R R R (λ_ _ _ h=>h) (Or.inl ⟨Zb,?hyc15⟩) ?_
      case hyc15=>(intro w;go_simp;try with_reducible rfl)
      exact a0G
     exact Yo
    exact Yo
   exact Yo
  ·have hu:=h.hu m;have E:=A (It h z.o ab hu);have N:u<=100000000:=by
    exact a0F
   have M:dg ds k*u<=900000000:=by
    calc dg ds k*u<=9*100000000:=Nat.mul_le_mul D N
     _=900000000:=rfl
   have ai:(dg ds k:Int)*(u:Int)<=900000000:=by rw[<-Int.natCast_mul];omega
   have ag:0<=(dg ds k:Int)*(u:Int):=by rw[<-Int.natCast_mul];omega
   have b0:=h.x.fJ;have b1:=h.unit.cell;have f1:=h.unit.frozen;have f3:=h.row.frozen (k/9);have b3:=h.row.cell (j:=k/9) (by rw[h.len];omega);have wq:F.wrap ((k:Int)/9)=(k:Int)/9:=cQ D D;have w5:F.wrap ((dg ds k:Int)*(u:Int))=dg ds k*u:=cQ D D;have w6:F.wrap ((C am (k/9):Int)+(dg ds k:Int)*(u:Int))=C am (k/9)+dg ds k*u:=cQ D D;have w7:F.wrap ((u:Int)*10)=u*10:=cQ D D;have ht:((k:Int)%9==0)=O:=Y4;clear h m hu M
   gi_wp2
   refine wpIn_region_any R (iY R (by rintro⟨_,_,h⟩;exact h) _ _ _ _ ?_)
   try(change wpAny _ _ _ _ _ _ _ (U.drew _))
   refine wpAny_take (i:=0) (v:= ?vb1) H R R R (λ_ _ _ h=>h) (Or.inl ⟨Zb,?hyb1⟩) ?_
   case hyb1=>(intro w;go_simp;try with_reducible rfl)
   refine wpAny_take (i:=2) (v:= ?vb2) H R R R (λ_ _ _ h=>h) (Or.inl ⟨Zb,?hyb2⟩) ?_
   case hyb2=>(intro w;go_simp;try with_reducible rfl)
   refine wpAny_take (i:=3) (v:= ?vb3) H R R R (λ_ _ _ h=>h) (Or.inl ⟨Zb,?hyb3⟩) ?_
   case hyb3=>(intro w;go_simp;try with_reducible rfl)
   refine wpAny_take (i:=6) (v:= ?vb4) H R R R (λ_ _ _ h=>h) (Or.inl ⟨Zb,?hyb4⟩) ?_
   case hyb4=>(intro w;go_simp;try with_reducible rfl)
   refine wpAny_ready (rs:=[1,7]) R YL ?_;refine Yi H (λb a=> ?_) ?_
   ·go_simp;refine a _ _ ?_;clear a b;refine wpAny_take (i:=4) (v:= ?vb5) H R R R (λ_ _ _ h=>h) (Or.inl ⟨Zb,?hyb5⟩) ?_
    case hyb5=>(intro w;go_simp;try with_reducible rfl)
    refine wpAny_ready (rs:=[5,7]) R YL ?_;refine Yi H (λb a=> ?_) ?_
    ·go_simp;refine a _ _ ?_;clear a b;refine wpAny_ready (rs:=[7]) R YL ?_;refine Yi H (λb a=> ?_) ?_
     ·go_simp;refine a _ _ ?_;clear a b;refine wpAny_take (i:=8) (v:= ?vb6) H R R R (λ_ _ _ h=>h) (Or.inl ⟨Zb,?hyb6⟩) ?_
      case hyb6=>(intro w;go_simp;try with_reducible rfl)
      refine wpAny_take (i:=9) (v:= ?vb7) H R R R (λ_ _ _ h=>h) (Or.inl ⟨Zb,?hyb7⟩) ?_
      case hyb7=>(intro w;go_simp;try with_reducible rfl)
      refine wpAny_take (i:=10) (v:= ?vb8) H R R R (λ_ _ _ h=>h) (Or.inl ⟨Zb,?hyb8⟩) ?_
      case hyb8=>(intro w;go_simp;try with_reducible rfl)
      exact a0E
     exact Yo
    refine Yi H (λb a=> ?_) ?_
    ·go_simp;refine a _ _ ?_;clear a b;refine wpAny_take (i:=8) (v:= ?vb9) H R R R (λ_ _ _ h=>h) (Or.inl ⟨Zb,?hyb9⟩) ?_
     case hyb9=>(intro w;go_simp;try with_reducible rfl)
     refine wpAny_ready (rs:=[5]) R YL ?_;refine Yi H (λb a=> ?_) ?_
     ·go_simp;refine a _ _ ?_;clear a b;refine wpAny_take (i:=9) (v:= ?vb10) H R R R (λ_ _ _ h=>h) (Or.inl ⟨Zb,?hyb10⟩) ?_
      case hyb10=>(intro w;go_simp;try with_reducible rfl)
      refine wpAny_take (i:=10) (v:= ?vb11) H R R R (λ_ _ _ h=>h) (Or.inl ⟨Zb,?hyb11⟩) ?_
      case hyb11=>(intro w;go_simp;try with_reducible rfl)
      exact a0E
     exact Yo
    exact Yo
   refine Yi H (λb a=> ?_) ?_
   ·go_simp;refine a _ _ ?_;clear a b;refine wpAny_take (i:=8) (v:= ?vb12) H R R R (λ_ _ _ h=>h) (Or.inl ⟨Zb,?hyb12⟩) ?_
    case hyb12=>(intro w;go_simp;try with_reducible rfl)
    refine wpAny_ready (rs:=[1]) R YL ?_;refine Yi H (λb a=> ?_) ?_
    ·go_simp;refine a _ _ ?_;clear a b;refine wpAny_take (i:=4) (v:= ?vb13) H R R R (λ_ _ _ h=>h) (Or.inl ⟨Zb,?hyb13⟩) ?_
     case hyb13=>(intro w;go_simp;try with_reducible rfl)
     refine wpAny_ready (rs:=[5]) R YL ?_;refine Yi H (λb a=> ?_) ?_
     ·go_simp;refine a _ _ ?_;clear a b;refine wpAny_take (i:=9) (v:= ?vb14) H R R R (λ_ _ _ h=>h) (Or.inl ⟨Zb,?hyb14⟩) ?_
      case hyb14=>(intro w;go_simp;try with_reducible rfl)
      refine wpAny_take (i:=10) (v:= ?vb15) H R R R (λ_ _ _ h=>h) (Or.inl ⟨Zb,?hyb15⟩) ?_
      case hyb15=>(intro w;go_simp;try with_reducible rfl)
      exact a0E
     exact Yo
    exact Yo
   exact Yo
 case done=>
  rintro ad W t ⟨am,u,h⟩ a;have c1:=h.x.fJ;have c0:=h.x.cell0;have f1:=h.x.frozen 1;have d0:=h.res.cell0;have d1:=h.res.fJ;have g0:=h.res.frozen 0;have g1:=h.res.frozen 1;have aj:=h.row;have S:=A h;clear h;gi_wp2_with(refine⟨trivial,?_⟩;gi_at_call 315;refine(callsIn_wide.2 (kV aj S.o.len)).mono ?_;rintro e w' ⟨rfl,rfl⟩)
  have f:=S.o;obtain⟨X,o⟩:=aa (((W.setCell ⟨w.heap.size+2,1,I⟩ (V (L ⟨w.heap.size+1,0,I⟩) (aD am).length n)).setCell ⟨w.heap.size,0,I⟩ (Yz neg)).setCell ⟨w.heap.size,1,I⟩ (V (L ⟨w.heap.size+1,0,I⟩) (aD am).length n));have k1:X.heap[ad]?=L (.deferred (L [])):=by
   rw[<-o];exact(((KeepsOthers.setCell _ _ _).trans (KeepsOthers.setCell _ _ _)).trans (KeepsOthers.setCell _ _ _)).same ad _ a H
  have k2:gR X w.heap.size 311 (Yz neg) (V (L ⟨w.heap.size+1,0,I⟩) (aD am).length n):=by
   rw[<-o];exact((f.res.eC YL _).nz _).ue _
  have k3:Row X (w.heap.size+1) n am:=by rw[<-o];exact((f.row.eC YL _).eC YL _).eC YL _
  have k5:Yl w.heap.size w X:=by
   rw[<-o];exact((f.low.setCell (p:=⟨w.heap.size+2,1,I⟩) YL _).setCell (p:=⟨w.heap.size,0,I⟩) YL _).setCell (p:=⟨w.heap.size,1,I⟩) YL _
  rw[o];refine⟨YL,.inl ⟨_,_,rfl,run_takeDeferred k1,?_⟩⟩;have d:=aI.putObj (n0:=w.heap.size) (.deferred I) k1 H ZJ;have q0:=(k2.stays d).cell0;have q1:=(k2.stays d).fJ;have T:=f.m;refine⟨YE #[Yz neg,V (L ⟨w.heap.size+1,0,I⟩) (aD am).length n],by simp[results,results292,go_sem,q0,q1],_,aD am,by rw[ak.o],⟨_,_,rfl,D,(k3.stays d).trimmed⟩,fZ T.small,?_,?_,k5.trans d.below⟩
  ·rw[jb,Z.o,<-QP];exact T.eq
  ·have:=bC am;have:=f.len;have:=al.o;rw[Z.o];omega
 case stop=>intro ad c k W t hk h;exact h.elim
end
section
open Kp
theorem JM{P:Program}{n:String}(h:w.var? P n=L cs)(c:Yl B0 w w')(d:w.heap.size<=B0):w'.var? P n=L cs:=by
 unfold U.var? at h⊢;cases b:P.globalNamed n with
 |none=>rw[b] at h;cases h
 |some g=>
  rw[b] at h;simp only[Option.bind_some] at h⊢;have e:g<w.heap.size:=by
   rcases Nat.lt_or_ge g w.heap.size with a|a
   ·exact a
   ·rw[Array.getElem?_eq_none a] at h;cases h
  rw[c.block g D];exact h
theorem below_drewN(h:Yl B0 w w')(n:Nat):Yl B0 w (w'.drewN n):=⟨h.os,h.tape,h.output,h.size,h.block⟩
def dS(a b:List UInt8):Int:=if kq a=0 then kq b else kq a
def jr(a b:List UInt8)(w:U)(i:ln a<=1000000)(j:ln b<=1000000):
  XY Xz 290 #[Yy (tx a),Yy (tx b)] w λe w'=>e=YC (G F (dS a b))/\Yl w.heap.size w w':=by
 by_cases c:kq a=0
 ·have g:(kq a !=0)=O:=by simp[c]
  have d:=A c;clear c;go_enter func290,ntmps290;go_wp2_with(go_at_call 313;refine(xc _ _ YT).mono ?_;first|(rintro e w1 ⟨rfl,f⟩))
  go_ret;exact⟨cU (by unfold dS;rw[d.o,XT rfl]),Yl.trans YT (Yl.mono YT (Below.size YT))⟩
 ·have g:(kq a !=0)=Y:=by simpa using c
  have d:=A c;clear c;go_enter func290,ntmps290;go_wp2_with(go_at_call 313;refine(xc _ _ YT).mono ?_;first|(rintro e w1 ⟨rfl,f⟩))
  go_ret;exact⟨cU (by unfold dS;rw[XQ d.o]),f⟩
def num(l:List UInt8):Int:=if Lib.hasPrefix l [45] then -(ak (own l):Int) else ak (own l)
def Mo{l:List UInt8}(h:aQ l=Y):Lib.atoi l=L (num l):=by
 unfold aQ at h;simp only[Bool.and_eq_true,Bool.not_eq_true'] at h;obtain⟨⟨g,i⟩,_⟩:=h;have j:own l≠[]:=by intro e;rw[e] at i;simp at i
 have d:=qo g j;unfold num;cases l with
 |nil=>exact absurd H j
 |cons b r=>
  by_cases f:b=45
  ·subst f;have a:Lib.hasPrefix (45::r) [45]=Y:=by simp[Lib.hasPrefix]
   have c:own (45::r)=r:=by unfold own Lib.trimPrefix;rw[XT a];rfl
   rw[c] at d;rw[a,c];simp[Lib.atoi,d]
  ·have a:Lib.hasPrefix (b::r) [45]=O:=by simp[Lib.hasPrefix,List.isPrefixOf,Ne.symm f]
   have c:own (b::r)=b::r:=by unfold own Lib.trimPrefix;rw[a];rfl
   rw[c] at d g;rw[a,c];have k:b≠43:=by
    intro e;subst e;simp[ix] at g
   simp[Lib.atoi,d,f,k]
def wI(a b:List UInt8)(w:U)(h:18<ln a\/18<ln b)(c:ln a<=1000000)(d:ln b<=1000000):
  XY Xz 291 #[Yy (tx a),Yy (tx b),G F 18] w λe w'=>e=YC (YF #[G F 0,G F 0,Yz O])/\Yl w.heap.size w w':=by
 by_cases h1:18<ln a
 ·exact a0H
 ·have h2:18<ln b:=D;exact a0H
def Kc(a:List UInt8)(b:ln a<=18)(c:aQ a=Y)(w:U):
  XY Xz 180 #[Yy (tx a)] w λe w'=>e=YC (YF #[G F (num a),.nilIface])/\Yl w.heap.size w w':=
 (strconv_Atoi (tx a) (num a) (by rw[af];exact b) (by rw[bH];exact Mo c) w).mono λ_ _ ⟨h1,t,h2⟩=>⟨h1,by rw[h2];exact Lib.bytesWorld_below _ _ _⟩
def o3(a b:List UInt8)(w:U)(d:ln a<=18)(k:ln b<=18)(j:aQ a=Y)(g:aQ b=Y):
  XY Xz 291 #[Yy (tx a),Yy (tx b),G F 18] w λe w'=>e=YC (YF #[G F (num a),G F (num b),Yz Y])/\Yl w.heap.size w w':=by
 have i:=λW=>run_eql_nil_nil (P:=Xz) W 193 R
 go_enter func291,ntmps291;go_wp2_with(go_at_call 180;refine(Kc _ YT YT _).mono ?_;rintro e w1 ⟨rfl,f⟩)
 go_quiet (fail)
 go_wp2;have c:Yl w.heap.size w w1:=Yl.trans YT (Yl.mono YT (Below.size YT));exact bodyPost_ret (v:= YF #[G F (num a),G F (num b),Yz Y]) (by simp[results,results291,go_sem]) H ⟨H,below_drewN c _⟩
end
section
open Kp
def Bd(B b:Nat)(T:Yj)(p:Z)(rest bs:List Z)(w:U):Prop:=
 B<=b/\∃v,w.heap[b]?=L (.cells (p::v::rest).toArray T (0,0))/\w.ownsRow B 5 1 v (ln bs) bs/\v.ownBlock≠L b
structure Uk(T:Yj)(n:Nat):Prop where
 lies:liesAt Xz Xz.depth T (n/Xz.cellsOf T) 0 85 1=Y
 ne:T≠5
def nJ:Uk 85 2:=⟨R,YK⟩
def qw:Uk 87 4:=⟨R,YK⟩
def ES(b:Nat)(p:Z):Prop:=p=YA I\/p=YA (L ⟨b,0,I⟩)
abbrev ou(b:Nat):Z:= YA (L ⟨b,0,I⟩)
def rT:(Xz.info? 85).map (·.size)=L 2:=R
def ym:(Xz.info? 5).map (λi=>(i.zero,i.size,i.bytes))=L (L (G .u8 0),1,1):=R
theorem jI{p v:Z}(h:w.heap[b]?=L (.cells (p::v::rest).toArray T (0,0))):w.cell? ⟨b,0,I⟩=L p:=by simp[World.cell?,h]
theorem jN{p v:Z}(h:w.heap[b]?=L (.cells (p::v::rest).toArray T (0,0))):w.cell? ⟨b,1,I⟩=L v:=by simp[World.cell?,h]
theorem oN(h:w.heap[b]?=L (.cells cs T (0,0)))(i:Nat):w.frozen? ⟨b,i,I⟩=O:=by simp[World.frozen?,h]
theorem GV{cs:List Z}(h:w.heap[b]?=L (.cells cs.toArray T (0,0))):w.shape? b=L (T,ln cs):=by simp[World.shape?,h]
def GH(b:Nat)(w:U)(c:w.cell? ⟨b,0,I⟩=L (ou b)):
  XY Xz 226 #[ou b] w λe w'=>e=YC (YF #[])/\w'=w:=by
 obtain⟨j,a,_⟩:=Option.map_eq_some_iff.1 rT;go_enter func226,ntmps226;go_wp2;rw[Lib.run_neq_ptr_same w _ underlying82 a];go_wp2;go_end0;exact⟨H,H⟩
def CZ(b:Nat)(T:Yj)(n:Nat)(w:U)(g:w.cell? ⟨b,0,I⟩=L (YA I))(a:w.shape? b=L (T,n))(k:2<=n)(d:Uk T n)(i:w.frozen? ⟨b,0,I⟩=O):
  XY Xz 226 #[ou b] w λe w'=>e=YC (YF #[])/\w'=w.setCell ⟨b,0,I⟩ (ou b):=by
 obtain⟨j,c,f⟩:=Option.map_eq_some_iff.1 rT;go_enter func226,ntmps226;go_wp2;rw[Lib.run_to_unsafe w ⟨b,0,I⟩ underlying82 underlying277 c (by rw[f];decide) a (by show 0<n;omega)];simp only[Result.andThen];rw[Oper.upon_value];go_wp2;rw[run_callFunc_extern func258 R R R (e:=Extern.AbiNoEscape.same) R];rw[Lib.run_noEscape];simp only[Result.andThen];rw[Oper.upon_value];go_wp2;rw[Lib.run_from_unsafe w ⟨b,0,I⟩ underlying277 underlying82 c a d.lies];simp only[Result.andThen];rw[Oper.upon_value];go_wp2;go_end0;exact⟨H,H⟩
theorem LH{p v:Z}(h:w.heap[b]?=L (.cells (p::v::rest).toArray T (0,0)))(x:Z):
  (w.setCell ⟨b,0,I⟩ x).heap[b]?=L (.cells (x::v::rest).toArray T (0,0)):=by simp[World.setCell,Array.getElem?_modify,h]
theorem Lf{p v:Z}(h:w.heap[b]?=L (.cells (p::v::rest).toArray T (0,0)))(x:Z):
  (w.setCell ⟨b,1,I⟩ x).heap[b]?=L (.cells (p::x::rest).toArray T (0,0)):=by simp[World.setCell,Array.getElem?_modify,h]
theorem uG{B b i n:Nat}{v:Z}(h:w.ownsRow B 5 1 v n xs)(a:v.ownBlock≠L b)(x:Z):(w.setCell ⟨b,i,I⟩ x).ownsRow B 5 1 v n xs:=
 h.kept (row:=L b) ⟨rfl,rfl,rfl,by simp[World.setCell],λk _ hk=>Below.heap_setCell _ _ _ _ (λe=>hk (by simp[e]))⟩ (Or.inr a)
structure aA(B b:Nat)(w w':U):Prop where
 low:Yl B w w'
 kept:Lib.OthersKept 5 (L b) w w'
def aA.trans{B b:Nat}{a c d:U}(h:aA B b a c)(k:aA B b c d):aA B b a d:=⟨h.low.trans k.low,h.kept.trans k.kept⟩
def aA.refl(B b:Nat)(w:U):aA B b w w:=⟨XI _ _,Yw _ _ _⟩
theorem aA.others{B b:Nat}(h:aA B b w w'){m:Nat×Nat}(d:w.heap[b]?=L (.cells cs t m)):KeepsOthers w w':=
 ⟨h.low.size,λk o hk a=>h.kept k o hk (λe=>by cases e;rw[d] at hk;cases hk;cases a) (λc f e=>by subst e;cases a)⟩
def yR(B b:Nat)(T:Yj)(p:Z)(rest bs:List Z)(w:U)(h:Bd B b T p rest bs w)(g:ES b p)(i:Uk T (ln rest+2)):
  XY Xz 226 #[ou b] w λe w'=>e=YC (YF #[])/\Bd B b T (ou b) rest bs w'/\aA B b w w':=by
 obtain⟨c,v,a,f,d⟩:=h;rcases g with rfl|rfl
 ·refine(CZ b T (ln rest+2) w (jI a) (GV a) D i (oN a 0)).mono ?_;rintro e w' ⟨rfl,rfl⟩;exact⟨H,⟨c,v,LH a _,uG f d _,d⟩,(XI _ _).setCell (p:=⟨b,0,I⟩) c _,(Yw _ _ _).setCell ⟨b,0,I⟩ H _⟩
 ·refine(GH b w (jI a)).mono ?_;rintro e w' ⟨rfl,rfl⟩;exact⟨H,⟨c,v,a,f,d⟩,aA.refl _ _ _⟩
theorem NV{B b:Nat}{p v v':Z}(e:B<=b)(a:w.heap[b]?=L (.cells (p::v::rest).toArray T (0,0)))(d:w.ownsRow B 5 1 v' (ln bs') bs')(f:T≠5):
  Bd B b T p rest bs' (w.setCell ⟨b,1,I⟩ v'):=by
 have c:=Lib.ownBlock_ne d a f;exact⟨e,v',Lf a _,uG d c _,c⟩
def ke(B b:Nat)(T:Yj)(p:Z)(rest bs:List Z)(s:ByteArray)(w:U)(h:Bd B b T p rest bs w)(z:ES b p)(m:Uk T (ln rest+2))(A:ln bs+s.size<=140737488355328)(C:B<=w.heap.size):
  XY Xz 169 #[ou b,Yy s] w λe w'=>e=YC (YF #[G F s.size,.nilIface])/\Bd B b T (ou b) rest (bs++Lib.strCells s) w'/\aA B b w w':=by
 obtain⟨x,hi,r,t,q⟩:=info_parts ym;go_enter func169,ntmps169;go_wp2_with(go_at_call 226;refine(yR B b T p rest bs _ h z m).mono ?_)
 rintro e w1 ⟨rfl,h1,d⟩;obtain⟨l,v,a,j,u⟩:=h1;have D:=jI a;have c1:=jN a;go_wp2_with(at_builtin;refine Lib.wpList_append_own_string _ H _ _ 83 9 H B 5 x underlying83 underlying9 hi r t q _ _ _ H j s H ?c3 ?c4 ?c5 ?_)
 case c3=>unfold Yk;omega
 case c4=>omega
 case c5=>have:=d.low.size;omega
 intro v' w2 f i _;have y:b<w1.heap.size:=(XV.1 a).1;have c:w2.heap[b]?=L (.cells (ou b::v::rest).toArray T (0,0)):=by
  rw[i.block b y (λe=>u e.symm)];exact a
 have E:=jI c;have d1:=jN c;have f1:=oN c 1;obtain⟨o,n,ac,rfl⟩:∃o n ac,v'=V o n ac:=by
  exact a0I
 go_wp2;go_ret2;refine⟨H,?_,?_,?_⟩
 ·exact NV l c (bs':=bs++Lib.strCells s) (by simpa[Lib.strCells_length] using f) m.ne
 ·exact(d.low.grown i (by have:=d.low.size;omega) (λk hk=>(j.lt k hk).1)).setCell (p:=⟨b,1,I⟩) l _
 ·exact(d.kept.grown i (Lib.ownsRow_kind j)).setCell ⟨b,1,I⟩ H _
def yb(B b:Nat)(T:Yj)(p:Z)(rest bs:List Z)(c:Int)(w:U)(h:Bd B b T p rest bs w)(D:ES b p)(q:Uk T (ln rest+2))(E:ln bs+1<=140737488355328)(F:B<=w.heap.size):
  XY Xz 168 #[ou b,G .u8 c] w λe w'=>e=YC .nilIface/\Bd B b T (ou b) rest (bs++[G .u8 c]) w'/\aA B b w w':=by
 obtain⟨A,hi,x,y,t⟩:=info_parts ym;go_enter func168,ntmps168;go_wp2_with(go_at_call 226;refine(yR B b T p rest bs _ h D q).mono ?_)
 rintro e w1 ⟨rfl,h1,a⟩;obtain⟨o,v,d,n,z⟩:=h1;have J:=jI d;have c1:=jN d;go_wp2_with(at_builtin;refine wpList_append_own _ H _ _ 83 H B 5 A (G .u8 0) 1 1 underlying83 hi x y t H YK _ _ _ H (n.alloc _) ⟨w1.heap.size,0,I⟩ 1 1 [G .u8 c] H H ?c1 ?c2 ?c3 ?c4 ?c5 ?_)
 case c1=>
  intro j u l
  match j,l with
  |0,l=>simp at l;subst l;simp[Ym.add]
 case c2=>intro u hu;simp at hu;subst hu;rfl
 case c3=>unfold Yk;omega
 case c4=>omega
 case c5=>have:=a.low.size;simp;omega
 intro v' w2 f m _;have C:b<w1.heap.size:=(XV.1 d).1;have i:w2.heap[b]?=L (.cells (ou b::v::rest).toArray T (0,0)):=by
  rw[m.block b YP (λe=>z e.symm),Lib.alloc_old w1 _ b C];exact d
 have K:=jI i;have d1:=jN i;have f1:=oN i 1;obtain⟨s,r,ac,rfl⟩:∃s r ac,v'=V s r ac:=by
  exact a0I
 go_wp2;go_ret;refine⟨H,?_,?_,?_⟩
 ·exact NV o i (bs':=bs++[G .u8 c]) (by simpa using f) q.ne
 ·exact((a.low.alloc (by have:=a.low.size;omega) _).grown m (by have:=a.low.size;simp;omega) (λk hk=>(n.lt k hk).1)).setCell (p:=⟨b,1,I⟩) o _
 ·exact((a.kept.alloc _).grown m (Lib.ownsRow_kind (n.alloc _))).setCell ⟨b,1,I⟩ H _
def LU(B b:Nat)(T:Yj)(p:Z)(rest bs:List Z)(w:U)(h:Bd B b T p rest bs w):
  XY Xz 167 #[ou b] w λe w'=>e=YC (G F (ln bs))/\w'=w:=by
 obtain⟨k,v,c,d,j⟩:=h;have c1:=jN c;obtain⟨f,ac,rfl⟩:∃f ac,v=V f (ln bs) ac:=by
  rcases d.2 with⟨a,i⟩|⟨g,ac,cur,a,_⟩
  ·exact⟨_,_,by rw[a,i]⟩
  ·exact⟨_,_,a⟩
 clear c d j;go_enter func167,ntmps167;go_wp2;go_ret;exact⟨H,H⟩
end
section
open Kp
def oP(B b:Nat)(T:Yj)(p:Z)(rest:List Z)(l:List UInt8)(w:U)(h:Bd B b T p rest (Lib.byteCells l) w)(d:l≠[]):
  XY Xz 30 #[ou b] w λe w'=>e=YC (Yy (tx l))/\aA B b w w':=by
 obtain⟨z,v,i,a,n⟩:=h;have s:ln l≠0:=by simpa using d
 rw[Lib.byteCells_length] at a;obtain⟨g,ac,cur,rfl,u,c,q,f,y,t⟩:∃g ac cur,v=V (L ⟨g,0,I⟩) (ln l) ac/\B<=g/\w.heap[g]?=L (.cells cur 5 (0,0))/\ln l<=ac/\ac<=Yk/\cur.size=ac*1/\cur.toList.take (ln l*1)=Lib.byteCells l:=by
  rcases a.2 with⟨_,k⟩|⟨g,ac,cur,m,r⟩
  ·exact absurd k s
  ·exact⟨g,ac,cur,m,r⟩
 have c1:w.drew.cell? ⟨b,1,I⟩=L (V (L ⟨g,0,I⟩) (ln l) ac):=jN (w:=w.drew) i;have E:(Builtin.unsafeSliceData_ #[83] 136 #[V (L ⟨g,0,I⟩) (ln l) ac]).run Xz w.drew= .ok (YA (L ⟨g,0,I⟩)) w.drew:=
  Lib.run_unsafeSliceData_row _ _ _ _ _ _ D
 have A:(Builtin.unsafeString_ #[136,3] 9 #[YA (L ⟨g,0,I⟩),G F (ln l)]).run Xz w.drew= .ok (Yy (tx l)) (w.drew.freeze ⟨g,0,I⟩ (ln l)):=by
  refine Lib.run_unsafeString_row w.drew 136 3 9 5 underlying136 R g cur.size (by have o:w.drew.heap[g]?=L (.cells cur 5 (0,0)):=c;simp[World.shape?,o]) l d D (by unfold Yk at f;omega) ?_;intro j x hx;have:=a.cells (g:=g) H j (G .u8 x.toNat) (by simp[Lib.byteCells,hx]);exact this
 clear a t n f q y;have C:Xz.follows .mixedOrders=Y:=R;go_enter func30,ntmps30;go_wp2;go_region_o
 all_goals(go_wp2;go_ret;exact⟨H,Lib.below_freeze (Below.drew (XI B w)) (p:=⟨g,0,I⟩) u _,(Yw _ _ _).drew.freeze ⟨g,0,I⟩ _ ⟨_,_,c⟩⟩)
end
section
open Kp
attribute [local go_sem] Oper.semAt_some
abbrev bE(w:U):Prop:=Lib.TabIs Xz w "internal/strconv.uint64pow10" .u64 Lib.pow10Tab
theorem bE.below(h:bE w)(b:Yl B0 w w')(a:w.heap.size<=B0):bE w':=JM h b a
def kg(n:Int)(w:U)(c: -9223372036854775808<=n)(h1:n<=9223372036854775807)(d:bE w):
  XY Xz 170 #[G F n] w λe w'=>e=YC (Yy (tx (Lib.itoa n)))/\Yl w.heap.size w w':=
 (strconv_Itoa n c h1 w d).mono λ_ _ ⟨e,k,os,a⟩=>⟨e,by rw[a];exact⟨H,H,H,by simp[Sort.grow,U.drewN],λb f=>by simp[Sort.grow,U.drewN,Array.getElem?_append,f]⟩⟩
def qJ(n k:Nat)(hk:1<=k)(h:n<10^k):Lib.nDigits n<=k:=by
 induction k generalizing n with
 |zero=>omega
 |succ k a=>
  exact a0J
def nu(n:Nat)(h:n<1000000000):(Lib.itoa (n:Int)).length<=9:=by
 unfold Lib.itoa;rw[XQ D,Int.toNat_natCast,Lib.decDigits_length];exact qJ n 9 YK h
def I9(n:Int):Lib.itoa n≠[]:=by
 unfold Lib.itoa;split
 ·simp
 ·intro h;have:=Yv List.length h;rw[Lib.decDigits_length,Lib.nDigits] at this;split at this<;>simp at this
def qp(first:Bool)(n:Nat):List UInt8:=if first then Lib.itoa n else Lib.repeatL [48] (9-(Lib.itoa n).length)++Lib.itoa n
def mK(l:List Nat):Nat->List UInt8
 |0=>[]
 |k+1=>mK l k++qp (k==0) (C l (ln l-1-k))
def UJ(l:List Nat):List UInt8:=if l=[] then [48] else mK l (ln l)
def jH(c:Nat):(Lib.repeatL [48] c).length=c:=by
 induction c with
 |zero=>rfl
 |succ c a=>simp[Lib.repeatL,a]
theorem OP{b:Bool}(h:n<1000000000):(qp b n).length<=9:=by
 have:=nu n h;unfold qp;split
 ·exact this
 ·simp[jH];omega
theorem uN(h:Small l)(k:Nat):(mK l k).length<=9*k:=by
 induction k with
 |zero=>simp[mK]
 |succ k a=>
  have:=OP (b:=k==0) (aB h (ln l-1-k));simp[mK];omega
theorem Nb(hk:0<k):mK l k≠[]:=by
 cases k with
 |zero=>omega
 |succ k=>
  intro h;simp[mK,qp] at h;obtain⟨_,h⟩:=h;split at h
  ·exact I9 _ h
  ·simp at h;exact I9 _ h.2
def dz(a b:List UInt8):Lib.byteCells (a++b)=Lib.byteCells a++Lib.byteCells b:=by simp[Lib.byteCells]
theorem xN{n0 B n:Nat}{v:Z}(h:w.ownsRow B 5 1 v n xs)(d:aI n0 w w'):w'.ownsRow B 5 1 v n xs:=by
 obtain⟨a,h|⟨g,ac,cur,e,b,c,r⟩⟩:=h
 ·exact⟨a,.inl h⟩
 ·exact⟨a,.inr ⟨g,ac,cur,e,b,d.cells _ _ _ _ c,r⟩⟩
theorem Bd.stays{B b n0:Nat}{p:Z}(h:Bd B b T p rest bs w)(a:aI n0 w w'):Bd B b T p rest bs w':=by
 obtain⟨e,v,c,f,d⟩:=h;exact⟨e,v,a.cells _ _ _ _ c,xN f a,d⟩
theorem Bd.below{B b:Nat}{p:Z}(h:Bd B b T p rest bs w)(a:Yl w.heap.size w w'):Bd B b T p rest bs w':=
 h.stays (aI.aY a (XE _))
theorem gR.bd{B b c:Nat}{u v:Z}(h:gR w c t u v)(hk:aA B b w w')(a:c≠b)(d:t≠5):gR w' c t u v:=
 hk.kept c _ h (λe=>a (by cases e;rfl)) (λcs f e=>d (by cases e;rfl))
theorem Bx.bd{B b c:Nat}{v:Z}(h:Bx w c t v)(hk:aA B b w w')(a:c≠b)(d:t≠5):Bx w' c t v:=
 hk.kept c _ h (λe=>a (by cases e;rfl)) (λcs f e=>d (by cases e;rfl))
def LS(neg:Bool):List UInt8:=if neg then [45] else []
def zF(neg:Bool):(LS neg).length<=1:=by cases neg<;>simp[LS]
def BL(neg:Bool)(l:List Nat):List UInt8:=if l=[] then [48] else LS neg++mK l (ln l)
def ze(l:List Nat):BL O l=UJ l:=by unfold BL UJ LS;simp
structure R9(neg:Bool)(bi:Nat)(w:U)(l:List Nat)(ab:Option Ym)(ca:Nat)(k:Nat)(W:U):Prop where
 x:gR W w.heap.size 311 (Yz neg) (V ab (ln l) ca)
 bd:∃p,ES (w.heap.size+1) p/\Bd w.heap.size (w.heap.size+1) 85 p [] (Lib.byteCells (LS neg++mK l k)) W
 it:Bx W bi 25 (V ab (ln l) ca)
 bi:w.heap.size+2<=bi
 low:Yl w.heap.size w W
theorem R9.stays{neg:Bool}(h:R9 neg bi w l ab ca k W)(a:aI n0 W W')(d:w.heap.size<=n0):R9 neg bi w l ab ca k W':=by
 obtain⟨p,b,c⟩:=h.bd;exact⟨h.x.stays a,⟨p,b,c.stays a⟩,h.it.stays a,h.bi,h.low.trans (a.below.mono d)⟩
theorem R9.sl{neg:Bool}(h:R9 neg bi w l ab ca k W)(a:bT w w.heap.size (V ab (ln l) ca) l):bT W w.heap.size (V ab (ln l) ca) l:=a.below h.low
theorem uB{neg:Bool}{w b a:U}(h:R9 neg bi w l ab ca k b)(hk:aA w.heap.size (w.heap.size+1) b a)
  (d:Bd w.heap.size (w.heap.size+1) 85 (ou (w.heap.size+1)) [] (Lib.byteCells (LS neg++mK l (k+1))) a):
  KeepsOthers b a/\R9 neg bi w l ab ca (k+1) a:=by
 obtain⟨p,e,f,v,c,_⟩:=h.bd;exact⟨hk.others c,h.x.bd hk D YK,⟨_,.inr H,d⟩,h.it.bd hk (by have:=h.bi;omega) YK,h.bi,h.low.trans hk.low⟩
theorem aA.aY{B b:Nat}(h:Yl w.heap.size w w')(a:B<=w.heap.size):aA B b w w':=
 ⟨h.mono a,(Yw _ _ _).below h⟩
def Oz(w:U)(neg:Bool)(l:List Nat)(e:Ending)(w':U):Prop:=e=YC (Yy (tx (BL neg l)))/\Yl w.heap.size w w'
def Gt(w:U)(neg:Bool)(ab:Option Ym)(ca:Nat):XY Xz 323 #[YE #[Yz neg,V ab 0 ca]] w (Oz w neg []):=by
 go_enter func323,ntmps323;go_wp2;go_ret;exact⟨H,(XI _ _).alloc (XE _) _⟩
def F8(w:U)(neg:Bool)(l:List Nat)(v:Z)(G:bT w w.heap.size v l)(a:Small l)(am:ln l<=1000000)(z:bE w):
  XY Xz 323 #[YE #[Yz neg,v]] w (Oz w neg l):=by
 obtain⟨ab,ca,rfl,ao,ag,ak⟩:=id G;clear ak;unfold Yk at ag;by_cases E:l=[]
 ·subst E;exact Gt w neg ab ca
 have Q:0<ln l:=List.length_pos_iff.2 E;have K:=A E;have HT:=A z;have y:=A a;clear E z a;have an:((ln l:Int)==0)=O:=Y4;refine(callsIn_wide (n:=9)).1 (callsIn_of_wp_marks func323 H trivial ?_);simp only[ntmps323,List.size_toArray,List.length_cons,List.length_nil,Nat.reduceAdd,Nat.reduceSub,Array.replicate_succ,Array.replicate_zero,List.push_toArray,List.append_toArray,List.nil_append,List.cons_append];cases neg with
 |false=>
  gi_wp2_with(refine⟨trivial,?_⟩;gi_at_call 319;refine(callsIn_wide.2 (jk _ _ _ _)).mono ?_;rintro e w' ⟨rfl,rfl⟩)
  refine iu (gf:=336) (lb:=#[YA (L ⟨w.heap.size+2,0,I⟩)]) H (enters_of func336 R H)
   (iD (w.heap.size+2) ab (ln l) ca (λj x=>x=C l j) D) (λk x ⟨_,_,e⟩=>Z4)
   (R9 O (w.heap.size+2) w l ab ca) (λ_ _ _=>False) (λk W W' h a=>h.stays a YP) (λc k W W' h a=>h) (λk W h=>vW h.it (h.sl G)) ?start ?round ?done ?stop
  case start=>
   have T:=sZ w (.cells #[Yz O,V ab (ln l) ca] 311) (.cells #[YA I,V I 0 0] 85) (.cells #[V ab (ln l) ca] 25);refine⟨((gR.at_ H).alloc _).alloc _,⟨_,.inl H,D,V I 0 0,?_,⟨rfl,.inl ⟨rfl,rfl⟩⟩,by simp[Value.ownBlock]⟩,Bx.at_ YL,D,T⟩;exact Je _ _ _ _
  case round=>
   intro g k x W ai hk hx hi d;obtain⟨v,rfl,rfl⟩:=hx;have o:=A d;clear d
   gi_wp2
   refine o.o _ (λP m _=> ?_);clear o hi;have u:=m.low.size;have B:C l (ln l-1-k)<1000000000:=aB y.o _;have M:=nu _ B;have ae:=uN y.o k;have X:=zF O;exact a0K
  case done=>
   rintro ad W t h d;obtain⟨p,i,q⟩:=h.bd;have cs:=A (oP w.heap.size (w.heap.size+1) _ p [] (LS O++mK l (ln l)) W q (λh=>Nb Q (List.append_eq_nil_iff.1 h).2));have f:=A h;clear h q;gi_wp2_with(refine⟨trivial,?_⟩;gi_at_call 30;refine(callsIn_wide.2 cs.o).mono ?_;rintro e w' ⟨rfl,r⟩)
   have s:w'.heap[ad]?=L (.deferred (L [])):=r.kept ad _ d (λe=>by cases e;simp at t;omega) (λc fz e=>by cases e);refine⟨YL,.inl ⟨_,_,rfl,run_takeDeferred s,?_⟩⟩;have a:=aI.putObj (n0:=w.heap.size) (.deferred I) s H ZJ;refine⟨Yy (tx (LS O++mK l (ln l))),by simp[results,results323,go_sem],?_,f.o.low.trans (r.low.trans a.below)⟩;unfold BL;rw[XQ K.o]
  case stop=>intro ad c k W t hk h;exact h.elim
 |true=>
  have b0:=A (show Bd w.heap.size (w.heap.size+1) 85 (YA I) [] (Lib.byteCells []) ((w.alloc (.cells #[Yz Y,V ab (ln l) ca] 311)).alloc (.cells #[YA I,V I 0 0] 85)) from
   ⟨D,V I 0 0,by have:=XZ (w.alloc (.cells #[Yz Y,V ab (ln l) ca] 311)) (.cells #[YA I,V I 0 0] 85);rw[Ya] at this;exact this,⟨H,.inl ⟨H,H⟩⟩,by simp[Value.ownBlock]⟩)
  have X0:=A (show gR ((w.alloc (.cells #[Yz Y,V ab (ln l) ca] 311)).alloc (.cells #[YA I,V I 0 0] 85)) w.heap.size 311 (Yz Y) (V ab (ln l) ca) from(gR.at_ H).alloc _);have S:=A (show Yl w.heap.size w ((w.alloc (.cells #[Yz Y,V ab (ln l) ca] 311)).alloc (.cells #[YA I,V I 0 0] 85)) from((XI _ _).alloc (XE _) _).alloc YL _);have cb:=A (yb w.heap.size (w.heap.size+1) _ (YA I) [] (Lib.byteCells []) 45 _ b0.o (.inl H) nJ (by simp[Lib.byteCells]) S.o.size);gi_wp2_with(refine⟨trivial,?_⟩;first
   |(gi_at_call 319;refine(callsIn_wide.2 (jk _ _ _ _)).mono ?_;rintro e w' ⟨rfl,rfl⟩)
   |(gi_at_call 168;refine(callsIn_wide.2 cb.o).mono ?_;rintro e W1 ⟨rfl,ac,F⟩;have N:=A (X0.o.bd F D YK);have ah:=F.low.size;have al:=N.o.fJ))
  have aj:w.heap.size+2<=W1.heap.size:=by simp at ah;omega
  refine iu (gf:=336) (lb:=#[YA (L ⟨W1.heap.size,0,I⟩)]) H (enters_of func336 R H)
   (iD (W1.heap.size) ab (ln l) ca (λj x=>x=C l j) D) (λk x ⟨_,_,e⟩=>Z4)
   (R9 Y (W1.heap.size) w l ab ca) (λ_ _ _=>False) (λk W W' h a=>h.stays a YP) (λc k W W' h a=>h) (λk W h=>vW h.it (h.sl G)) ?start ?round ?done ?stop
  case start=>
   have J:Yl W1.heap.size W1 (W1.alloc (.cells #[V ab (ln l) ca] 25)):=(XI _ _).alloc (XE _) _;exact⟨N.o.alloc _,⟨_,.inr H,ac.below J⟩,Bx.at_ H,aj,(S.o.trans F.low).trans (J.mono D)⟩
  case round=>
   intro g k x W ai hk hx hi d;obtain⟨v,rfl,rfl⟩:=hx;have o:=A d;clear d
   gi_wp2
   refine o.o _ (λP m _=> ?_);clear o hi;have u:=m.low.size;have B:C l (ln l-1-k)<1000000000:=aB y.o _;have M:=nu _ B;have ae:=uN y.o k;have X:=zF Y;exact a0K
  case done=>
   rintro ad W t h d;obtain⟨p,i,q⟩:=h.bd;have cs:=A (oP w.heap.size (w.heap.size+1) _ p [] (LS Y++mK l (ln l)) W q (λh=>Nb Q (List.append_eq_nil_iff.1 h).2));have f:=A h;clear h q;gi_wp2_with(refine⟨trivial,?_⟩;gi_at_call 30;refine(callsIn_wide.2 cs.o).mono ?_;rintro e w' ⟨rfl,r⟩)
   have s:w'.heap[ad]?=L (.deferred (L [])):=r.kept ad _ d (λe=>by cases e;simp at t;omega) (λc fz e=>by cases e);refine⟨YL,.inl ⟨_,_,rfl,run_takeDeferred s,?_⟩⟩;have a:=aI.putObj (n0:=w.heap.size) (.deferred I) s H ZJ;refine⟨Yy (tx (LS Y++mK l (ln l))),by simp[results,results323,go_sem],?_,f.o.low.trans (r.low.trans a.below)⟩;unfold BL;rw[XQ K.o]
  case stop=>intro ad c k W t hk h;exact h.elim
end
end Go.Proofs.YtnepbjnlmkppmaaGreatDoor
namespace Kp
structure Kk(ab a n k:Nat)(u q:List Nat):Prop where
 small:Small u
 smallq:Small q
 len:ln u=ln q+n
 hk:k<=ln q
 eq:ab=S (C u) (ln u)+B^(ln q-k)*S (sh (C q) (ln q-k)) k*a
 zero:∀i,ln q-k+n<=i->C u i=0
 seg:S (sh (C u) (ln q-k)) n<a
def B4(f:Nat->Nat)(n:Nat):f n*B^n<=S f (n+1):=by rw[cF];exact Nat.le_add_left _ _
theorem Ht(a:j<ln l):C (l.set j x) k=if k=j then x else C l k:=by
 exact a0k
theorem Small.WE(h:Small l)(hx:x<B):Small (l.set j x):=by
 exact a0n
theorem Kk.lt{ab a n k:Nat}(h:Kk ab a n k u q)(hk:k<ln q):S (sh (C u) (ln q-1-k)) (n+1)<B*a:=by
 have b:=h.seg;have e:ln q-k=(ln q-1-k)+1:=D;rw[e] at b;rw[Ro];have c:C u (ln q-1-k)<B:=aB h.small _;have:B*(S (sh (C u) (ln q-1-k+1)) n+1)<=B*a:=Nat.mul_le_mul_left _ b;rw[Nat.mul_add] at this;omega
def Kk.top{ab a n k:Nat}{u q v:List Nat}(h:Kk ab a n k u q)(hk:k<ln q)(c:Small v)(g:ln v=n)(h1:1<=n)(f:val v=a):C u (ln q-1-k+n)<=C v (n-1):=by
 have l:=h.lt hk;have j:C u (ln q-1-k+n)*B^n<=S (sh (C u) (ln q-1-k)) (n+1):=B4 (sh (C u) (ln q-1-k)) n;obtain⟨m,rfl⟩:∃m,n=m+1:=⟨n-1,D⟩;have d:a<(C v m+1)*B^m:=by
  rw[<-f];unfold val;rw[g,cF,Nat.add_mul,Nat.one_mul];have:S (C v) m<B^m:=uf (λk _=>aB c k);omega
 have b:B*a<B*((C v m+1)*B^m):=Nat.mul_lt_mul_of_pos_left d YK;have e:B*((C v m+1)*B^m)=(C v m+1)*B^(m+1):=by rw[Nat.pow_succ,Nat.mul_left_comm,Yd B]
 rw[e] at b;have i:C u (ln q-1-k+(m+1))*B^(m+1)<(C v m+1)*B^(m+1):=D;have o:=Nat.lt_of_mul_lt_mul_right i;show _<=C v m;omega
def Kk.step{ab a n k d X:Nat}{u b q:List Nat}(h:Kk ab a n k u q)(hk:k<ln q)(P:a<B^n)
  (t:ln b=ln u)(L:Small b)(e:∀i,i<ln q-1-k\/ln q-1-k+(n+1)<=i->C b i=C u i)
  (c:S (sh (C b) (ln q-1-k)) (n+1)=X)(r:X+d*a=S (sh (C u) (ln q-1-k)) (n+1))(w:S (sh (C u) (ln q-1-k)) (n+1)<(d+1)*a):
  d<B/\Kk ab a n (k+1) b (q.set (ln q-1-k) d):=by
 have H:=h.lt hk;obtain⟨j,G⟩:=aa (ln q-1-k);have l:ln q-(k+1)=j:=D;have K:ln q-k=j+1:=D;obtain⟨O,y,A,N,x,s,I⟩:=h;rw[G] at e c r w H⊢;rw[K] at x s I;have Q:X<a:=by rw[Nat.add_mul,Nat.one_mul] at w;omega
 have R:0<a:=D;have v:d<B:=by
  have:d*a<B*a:=D;exact Nat.lt_of_mul_lt_mul_right this
 refine⟨v,L,Small.WE y v,by simpa[t] using A,YP,?_,?_,?_⟩
 ·rw[List.length_set,l,t];have J:=FP (f:=C u) (g:=C b) (m:=ln u) (j:=j) (n:=n+1) D (λi hi=>e i (.inl hi)) (λi hi _=>e i (.inr hi));have z:S (sh (C (q.set j d)) j) (k+1)=d+B*S (sh (C q) (j+1)) k:=by
   rw[Ro,Ht D,XT rfl,fu (g:=sh (C q) (j+1))];intro i _;unfold sh;rw[Ht D,XQ D]
  rw[z,x];rw[c,<-r] at J;have E:B^j*(d+B*S (sh (C q) (j+1)) k)*a=B^j*(d*a)+B^(j+1)*S (sh (C q) (j+1)) k*a:=by
   rw[Nat.mul_add,Nat.add_mul,Nat.pow_succ,Nat.mul_assoc (B^j) d a,Nat.mul_assoc (B^j) B]
  rw[E];have M:B^j*(X+d*a)=B^j*X+B^j*(d*a):=Nat.mul_add _ _ _;omega
 ·rw[List.length_set,l];intro i hi;by_cases F:i=j+n
  ·subst F;have h1:C b (j+n)*B^n<=X:=by rw[<-c];exact B4 (sh (C b) j) n
   rcases Nat.eq_zero_or_pos (C b (j+n)) with o|o
   ·exact o
   ·have:1*B^n<=C b (j+n)*B^n:=Nat.mul_le_mul_right _ o;omega
  ·rw[e i (.inr D)];exact s i D
 ·rw[List.length_set,l];have:S (sh (C b) j) n<=X:=by rw[<-c,cF];exact Nat.le_add_right _ _
  omega
theorem Kk.done{a b f n:Nat}(h:Kk (a*f) (b*f) n (ln q) u q)(o:0<f)(m:0<b):val q=a/b/\val u=(a%b)*f:=by
 obtain⟨t,s,v,r,c,e,d⟩:=h;rw[Nat.sub_self] at c e d;have j:∀g:Nat->Nat,sh g 0=g:=λg=>by funext k;unfold sh;rw[Nat.zero_add]
 rw[j,Nat.pow_zero,Nat.one_mul] at c;rw[j] at d;have l:S (C u) (ln u)=S (C u) n:=Sg D (λi hi _=>e i D);have:=Gq (Q:=S (C q) (ln q)) (R:=S (C u) (ln u)) o m (by rw[c,Nat.add_comm]) (by rw[l];exact d);exact this
theorem Kk.start{ab a n:Nat}(hu:Small u)(r:ln u=mq+n)(c:val u=ab)(b:C u (ln u-1)=0)(h1:1<=n)(e:B^(n-1)<=a):
  Kk ab a n 0 u (List.replicate mq 0):=by
 refine⟨hu,?_,a0a,Nat.zero_le _,?_,?_,?_⟩
 ·intro d f;rw[List.eq_of_mem_replicate f];decide
 ·simp[S];rw[<-c];rfl
 ·intro i hi;simp at hi;exact nk D
 ·simp;obtain⟨m,rfl⟩:∃m,n=m+1:=⟨n-1,D⟩;rw[cF];have:sh (C u) mq m=0:=by
   have:ln u-1=mq+m:=D;rw[this] at b;exact b
  rw[this,Nat.zero_mul,Nat.add_zero];have h2:S (sh (C u) mq) m<B^m:=uf (λk _=>aB hu _);show _<a;exact Nat.lt_of_lt_of_le h2 e
end Kp
namespace Go.Proofs.YtnepbjnlmkppmaaGreatDoor
section
open Kp
theorem bT.new{v:Z}(h:bT w w.heap.size v l)(o:Obj):bT (w.alloc o) (w.alloc o).heap.size v l:=
 (h.below ((XI _ _).alloc (XE _) o)).more YL
theorem bT.grow{v:Z}(h:bT w w.heap.size v l)(a:Yl w.heap.size w w'):bT w' w'.heap.size v l:=(h.below a).more a.size
theorem Lw.sl{v:Z}(h:Lw w w' v l):bT w' w'.heap.size v l:=by
 obtain⟨g,ac,rfl,b,a⟩:=h;exact a.sl a.lt
def pg(w:U)(a b:List Nat)(e:Ending)(w':U):Prop:=
 ∃f g d c,e=YC (YF #[f,g])/\bT w' w'.heap.size f d/\Canon d/\val d=val a/val b/\bT w' w'.heap.size g c/\Canon c/\val c=val a%val b/\Yl w.heap.size w w'
def JS:Canon []:=⟨λ_ h=>YM,rC⟩
def QN(w:U)(b0:Nat):bT w b0 (V I 0 0) []:=⟨I,0,rfl,YL,by simp[Yk],λh=>by simp at h⟩
def DU(w:U)(a b:List Nat)(d j:Z)(i:bT w w.heap.size d a)(k:bT w w.heap.size j b)(m:Canon a)(r:Canon b)(y:ln a<=1000000)(g:val a<val b):
  XY Xz 293 #[d,j] w (pg w a b):=by
 have u:=A (j7 (w.alloc (.cells #[V I 0 0] 25)) a b d j (i.new _) (k.new _) m r D);have q:=A i;obtain⟨ab,ca,rfl,_,_,x⟩:=i;obtain⟨A',cb,rfl,_,_,o⟩:=k;clear x o;go_enter func293,ntmps293;go_wp2_with(go_at_call 316;refine u.o.mono ?_;rintro e w1 ⟨c,rfl,h1,h2,f⟩;have z:c<0:=h1.2 g;clear h1 h2;have n:=((Bx.new w 25 (V I 0 0)).below f YL).cell;have f1:=((Bx.new w 25 (V I 0 0)).below f YL).frozen)
 have t:pg w a b (YC (YF #[V I 0 0,V ab (ln a) ca])) (w1.setCell ⟨w.heap.size,0,I⟩ (V I 0 0)):=by
  have l:Yl w.heap.size w (w1.setCell ⟨w.heap.size,0,I⟩ (V I 0 0)):=(((XI _ _).alloc (XE _) _).trans (f.mono YL)).setCell (p:=⟨w.heap.size,0,I⟩) (XE _) _;exact⟨_,_,[],a,H,QN _ _,JS,by rw[Nat.div_eq_of_lt g];rfl,q.o.grow l,m,(Nat.mod_eq_of_lt g).symm,l⟩
 have s:=World.cell?_setCell_same' w1 ⟨w.heap.size,0,I⟩ (V I 0 0) (by rw[n];rfl);exact bodyPost_ret (v:= YF #[V I 0 0,V ab (ln a) ca]) (by simp[results,results293,go_sem,s]) H t
def G7(w:U)(a:List Nat)(d:Nat)(o t:Z)(r:bT w w.heap.size o a)(y:bT w w.heap.size t [d])(B:Canon a)(q:Canon [d])(af:ln a<=1000000)(ai:val [d]<=val a):
  XY Xz 293 #[o,t] w (pg w a [d]):=by
 have S:=A (j7 (w.alloc (.cells #[V I 0 0] 25)) a [d] o t (r.new _) (y.new _) B q D);have ae:d<1000000000:=q.small d YL;have aa:1<=d:=by have:d≠0:=qn.last (l:=[]) q.trim;omega
 have J:=A r;obtain⟨ab,ca,rfl,_,_,Y⟩:=r;obtain⟨A',cb,rfl,_,_,x⟩:=y;obtain⟨n,m,rfl,N,k⟩:=x YL;have hx:w.cell? ⟨n,m,I⟩=L (G F d):=k 0 YL;clear Y x k;go_enter func293,ntmps293;go_wp2_with(first
  |(go_at_call 316;refine S.o.mono ?_;rintro e w1 ⟨c,rfl,h1,h2,j⟩;have hc:¬c<0:=λh=>absurd (h1.1 h) D;clear h1 h2;have i:=((Bx.new w 25 (V I 0 0)).below j YL);have x1:w1.cell? ⟨n,m,I⟩=L (G F d):=((j.cell (p:=⟨n,m,I⟩) YP).trans (U.cell?_alloc_lt w _ ⟨n,m,I⟩ N)).trans hx)
  |(go_at_call 317;refine(wE w1 a _ d (J.o.grow (((XI _ _).alloc (XE _) _).trans (j.mono YL))) B.small aa ae D).mono ?_;rintro e w2 ⟨vq,vr,f,s,rfl,hq,ad,R,X,O,P,u⟩;obtain⟨b,g,rfl,ag,E⟩:=hq;obtain⟨gr,C,rfl,ah,W⟩:=X;have z:=i.below u i.lt;have M:=z.cell;have f2:=z.frozen))
 have ac:b≠w.heap.size:=by have:=i.lt;omega
 have K:gr≠w.heap.size:=by have:=i.lt;omega
 have k:=World.cell?_setCell_same' w2 ⟨w.heap.size,0,I⟩ (V (L ⟨b,0,I⟩) (ln f) g) (by rw[M];rfl);have T:Yl w.heap.size w (w2.setCell ⟨w.heap.size,0,I⟩ (V (L ⟨b,0,I⟩) (ln f) g)):=
  ((((XI _ _).alloc (XE _) _).trans (j.mono YL)).trans (u.mono (by have:=i.lt;omega))).setCell (p:=⟨w.heap.size,0,I⟩) (XE _) _
 have Q:pg w a [d] (YC (YF #[V (L ⟨b,0,I⟩) (ln f) g,V (L ⟨gr,0,I⟩) (ln s) C])) (w2.setCell ⟨w.heap.size,0,I⟩ (V (L ⟨b,0,I⟩) (ln f) g)):=by
  have r1:=E.eC (p:=⟨w.heap.size,0,I⟩) ac (V (L ⟨b,0,I⟩) (ln f) g);have r2:=W.eC (p:=⟨w.heap.size,0,I⟩) K (V (L ⟨b,0,I⟩) (ln f) g);exact⟨_,_,f,s,H,r1.sl r1.lt,ad,by rw[val_one];exact R,r2.sl r2.lt,O,by rw[val_one];exact P,T⟩
 exact bodyPost_ret (v:= YF #[V (L ⟨b,0,I⟩) (ln f) g,V (L ⟨gr,0,I⟩) (ln s) C]) (by simp[results,results293,go_sem,k]) H Q
end
section
open Kp
theorem Bx.only{v:Z}(h:Bx W b t v)(c:eX g W W')(a:b≠g):Bx W' b t v:=(c.block b a).trans h
theorem Row.only(h:Row W g' ac l)(b:eX g W W')(a:g'≠g):Row W' g' ac l:=h.keep (b.block g' a)
theorem eX.again{v:Z}(a:eX g W W')(h:Bx W' b t v):eX g W (W'.setCell ⟨b,0,I⟩ v):=by
 refine⟨a.os,a.tape,a.output,by simpa[World.setCell] using a.size,λk hk=> ?_⟩;by_cases c:k=b
 ·subst c;rw[<-a.block k hk];exact(h.put v).trans h.symm
 ·exact(Below.heap_setCell W' ⟨b,0,I⟩ v k c).trans (a.block k hk)
theorem eX.others(a:eX g W W'){m:Nat×Nat}(c:W.heap[g]?=L (.cells cs t m)):KeepsOthers W W':=
 ⟨by rw[a.size];exact XE _,λk o hk b=>by
  by_cases e:k=g
  ·subst e;rw[c] at hk;cases hk;cases b
  ·exact(a.block k e).trans hk⟩
structure QX(w:U)(nb gu cu gb cv:Nat)(tv:List Nat)(ab mq m:Nat)(k:Nat)(u q:List Nat)(W:U):Prop where
 bq:Bx W w.heap.size 25 (V (L ⟨nb+2,0,I⟩) mq mq)
 bu:Bx W nb 25 (V (L ⟨gu,0,I⟩) m cu)
 bv:Bx W (nb+1) 25 (V (L ⟨gb,0,I⟩) (ln tv) cv)
 it:Bx W (nb+3) 25 (V (L ⟨nb+2,0,I⟩) mq mq)
 ru:Row W gu cu u
 rv:Row W gb cv tv
 rq:Row W (nb+2) mq q
 lu:ln u=m
 lq:ln q=mq
 dm:Kk ab (val tv) (ln tv) k u q
 low:Yl w.heap.size w W
theorem QX.stays{ab mq m k:Nat}(h:QX w nb gu cu gb cv tv ab mq m k u q W)(a:aI n0 W W')(b:w.heap.size<=n0):
  QX w nb gu cu gb cv tv ab mq m k u q W':=
 ⟨h.bq.stays a,h.bu.stays a,h.bv.stays a,h.it.stays a,h.ru.stays a,h.rv.stays a,h.rq.stays a,h.lu,h.lq,h.dm,h.low.trans (a.below.mono b)⟩
def T0(w:U)(nb gu cu gb cv:Nat)(tv:List Nat)(ab mq m:Nat)(k:Nat)(W:U):Prop:=∃u q,QX w nb gu cu gb cv tv ab mq m k u q W
theorem QX.back{ab mq m k:Nat}(h:QX w nb gu cu gb cv tv ab mq m k u q W):
  IY (nb+3) (L ⟨nb+2,0,I⟩) mq mq (λ_ _=>True) W:=
 ⟨h.it.cell,λ_=>⟨nb+2,0,rfl,λj a=>⟨_,by rw[Nat.zero_add];exact h.rq.cell (by rw[h.lq];exact a),trivial⟩⟩⟩
structure MG(W:U)(gu cu:Nat)(tv u:List Nat)(j:Nat)(d:Nat)(x:List Nat)(W':U):Prop where
 row:Row W' gu cu x
 len:ln x=ln u
 small:Small x
 same:∀i,i<j\/j+(ln tv+1)<=i->C x i=C u i
 seg:S (sh (C x) j) (ln tv+1)=S (sh (C u) j) (ln tv+1)
 lt:S (sh (C u) j) (ln tv+1)<(d+1)*val tv
 bound:d<=2000000000
 only:eX gu W W'
def NL(W:U)(gu cu:Nat)(tv u:List Nat)(j:Nat)(d:Z)(W':U):Prop:=∃a x,d=G F (a:Nat)/\MG W gu cu tv u j a x W'
theorem vA:S (C l) (ln l+1)=val l:=kR D
theorem MG.less{W W1 m e:U}{tv u x y z:List Nat}{j d c c2:Nat}(h:MG W gu cu tv u j d x W1)(A:o8 W1 gu cu x tv j d (ln tv+1) c y m)
  (E:lV m gu cu y tv j d (ln tv+1) c2 z e)(J:0<c):1<=d/\MG W gu cu tv u j (d-1) z e:=by
 obtain⟨row,len,small,same,seg,lt,bound,only⟩:=h;obtain⟨I,tl,s,q,a,L,G⟩:=A;obtain⟨v,K,g,t,f,H,n⟩:=E;rw[vA] at a f;have l:S (sh (C x) j) (ln tv+1)<B^(ln tv+1):=uf (λk _=>aB small _);have w:S (sh (C y) j) (ln tv+1)<B^(ln tv+1):=uf (λk _=>aB s _);have o:S (sh (C z) j) (ln tv+1)<B^(ln tv+1):=uf (λk _=>aB g _);have F:S (sh (C x) j) (ln tv+1)<d*val tv:=by
  have:=Kr a w l;rcases Nat.lt_or_ge (S (sh (C x) j) (ln tv+1)) (d*val tv) with h|h
  ·exact h
  ·have:=this.2 h;omega
 have r:S (sh (C z) j) (ln tv+1)=S (sh (C x) j) (ln tv+1):=Bj a f o l;have h1:1<=d:=by
  rcases Nat.eq_zero_or_pos d with b|b
  ·subst b;omega
  ·exact b
 refine⟨h1,v,D,g,λi hi=> ?_,by rw[r,seg],by rw[Nat.sub_add_cancel h1,<-seg];exact F,D,(only.trans G).trans n⟩;rw[t i hi,q i hi,same i hi]
theorem QX.next{w W W1 b:U}{ab mq m k d:Nat}{u q x y:List Nat}(h:QX w nb gu cu gb cv tv ab mq m k u q W)(hk:k<mq)(f:Small tv)
  (v:w.heap.size<gu)(t:gu<nb)(B:gb<nb)(z:gu≠gb)(A:w.heap.size<nb)
  (hi:MG W gu cu tv u (mq-1-k) d x W1)(o:o8 W1 gu cu x tv (mq-1-k) d (ln tv+1) 0 y b):
  d<1000000000/\KeepsOthers W (b.setCell ⟨nb+2,mq-1-k,I⟩ (G F d))/\QX w nb gu cu gb cv tv ab mq m (k+1) y (q.set (mq-1-k) d) (b.setCell ⟨nb+2,mq-1-k,I⟩ (G F d)):=by
 obtain⟨row,len,small,same,seg,lt,bound,only⟩:=hi;obtain⟨l,tl,j,g,c,C,r⟩:=o;have lq:=h.lq;subst lq;rw[vA,seg,Nat.zero_mul,Nat.add_zero] at c;have a:eX gu W b:=only.trans r;obtain⟨n,e⟩:=h.dm.step hk (ti f) D j (λi hi=>by rw[g i hi,same i hi]) H c lt;obtain⟨cur,s,_⟩:=h.ru;refine⟨n,(a.others s).trans (KeepsOthers.setCell _ _ _),(h.bq.only a D).eC YP _,(h.bu.only a D).eC YL _,(h.bv.only a D).eC YL _,(h.it.only a D).eC YL _,
  l.eC YP _,(h.rv.only a D).eC YP _,(h.rq.only a D).set D d,by have:=h.lu;omega,YL,e,?_⟩
 exact(h.low.trans (a.below D)).setCell (p:=⟨nb+2,_,I⟩) YP _
end
section
open Kp
attribute [local go_sem] Oper.semAt_some
def GD{t:Nat}(h1:1<=t)(h2:t<1000000000):∃f:Nat,(1000000000:Int)/((t:Int)+1)=f/\1<=f/\f<1000000000:=by
 refine⟨1000000000/(t+1),YL,?_,?_⟩
 ·exact(Nat.le_div_iff_mul_le D).2 D
 ·exact Nat.div_lt_self D D
theorem Og(h:w.ownsRow base 3 1 (V (L ⟨g,0,I⟩) (ln l+1) ac) (ln l+1) ((l.map λ(d:Nat)=>Value.int .i64 (d:Int))++[G F 0])):Row w g ac (l++[0]):=by
 refine wH h YL (λj b=> ?_);simp only[Yc,List.length_singleton] at b;by_cases a:j<ln l
 ·rw[List.getElem?_append_left (by simpa using a),List.getElem?_map,XO a];have:C (l++[0]) j=l[j]:=by unfold C;simp[List.getElem?_append_left a,a]
  rw[this];rfl
 ·have e:j=ln l:=D;subst e;have:C (l++[0]) (ln l)=0:=by unfold C;simp
  rw[this];simp
def DM(w:U)(a b:List Nat)(va vb:Z)(ha:bT w w.heap.size va a)(hb:bT w w.heap.size vb b)(ae:Canon a)(r:Canon b)(bO:ln a<=400000)(h2:2<=ln b)(aL:val b<=val a):
  XY Xz 293 #[va,vb] w (pg w a b):=by
 have ba:ln b<=ln a:=by
  rcases Nat.lt_or_ge (ln a) (ln b) with h|h
  ·have:=cG ae.small r.trim h;omega
  ·exact h
 have a0:=A (j7 (w.alloc (.cells #[V I 0 0] 25)) a b va vb (ha.new _) (hb.new _) ae r D);have HA:=A ha;have HB:=A hb;obtain⟨ab,ca,rfl,_,_,bP⟩:=ha;obtain⟨A',cb,rfl,a1,bg,bp⟩:=hb;clear bP;obtain⟨bb,bo,rfl,aT,bq⟩:=bp D;have hx:=bq (ln b-1) D;have aw:1<=C b (ln b-1):=by
  rcases nh b with rfl|⟨m,d,rfl⟩
  ·simp at h2
  ·have:=r.trim.last;exact a0L
 have aS:C b (ln b-1)<1000000000:=aB r.small _;clear bp bq;unfold Yk at *;have aY:((ln b:Int)==1)=O:=Y4;refine(callsIn_wide (n:=9)).1 (callsIn_of_wp_marks func293 H trivial ?_);simp only[ntmps293,List.size_toArray,List.length_cons,List.length_nil,Nat.reduceAdd,Nat.reduceSub,Array.replicate_succ,Array.replicate_zero,List.push_toArray,List.append_toArray,List.nil_append,List.cons_append];gi_wp2_with(refine⟨trivial,?_⟩;gi_at_call 316;refine(callsIn_wide.2 a0.o).mono ?_;clear a0;rintro e w1 ⟨c,rfl,h1,h2,hB⟩;have hc:¬c<0:=(λh=>absurd (h1.1 h) D);clear h1 h2;have b1:=((Bx.new w 25 (V I 0 0)).below hB YL);have x1:w1.cell? ⟨bb,bo+(ln b-1),I⟩=L (G F (C b (ln b-1))):=((hB.cell (p:=⟨bb,bo+(ln b-1),I⟩) YP).trans (U.cell?_alloc_lt w _ ⟨bb,bo+(ln b-1),I⟩ aT)).trans hx)
 obtain⟨f,hf,ak,a8⟩:=GD aw aS;rw[hf];have an:Yl w.heap.size w w1:=((XI _ _).alloc (XE _) _).trans (hB.mono YL);have a2:w.heap.size<w1.heap.size:=b1.lt;have aq:Small [f]:=by intro x hx;rw[List.mem_singleton.1 hx];exact a8
 have xy:=row_one w1 f;refine⟨trivial,(callsIn_wide.2 (sL (w1.alloc (.cells #[G F f] 3)) a [f] _ _ ((HA.o.grow an).new _) (xy.sl xy.lt) ae.small aq D YL)).mono ?_⟩;rintro e w2 ⟨v,l,rfl,⟨gu,cu,rfl,aQ,ac⟩,N,af,aR,ap⟩;have aW:w1.heap.size<gu:=by simp at aQ;omega
 have bx:ln l<=ln a+2:=by simp at aR;omega
 have bs:Yl w.heap.size w w2:=an.trans (((XI _ _).alloc D _).trans (ap.mono YP));have b2:=(b1.alloc (.cells #[G F f] 3)).below ap YP;have a3:=FJ (base:=w1.heap.size+1) ac aW;obtain⟨i0,hi,a6,a9,a5⟩:=info_parts ie;have bv:w1.heap.size+1<=w2.heap.size:=by have:=ap.size;simpa using this
 have bn:=A hf;clear hf x1 hx;gi_wp2_with(gi_at_builtin;refine wpListIn_append_own _ H _ _ 25 H (w1.heap.size+1) 3 i0 (G F 0) 1 8 underlying25 hi a6 a9 a5 H YK _ _ _ H (a3.alloc _) ⟨w2.heap.size,0,I⟩ 1 1 [G F 0] H H (cell_one_new _ _ _) ZD YR D YP ?_;intro v' B ao aF _;obtain⟨i,E,rfl⟩:=ownsRow_succ ao)
 have aX:Row B i E (l++[0]):=Og ao;have bu:w1.heap.size+1<=i:=(ao.lt i H).1;have bk:i<B.heap.size:=aX.lt;have aJ:Yl w.heap.size w B:=(bs.alloc D _).grown aF YP (λk e=>by have e':gu=k:=Option.some.inj e;omega);have b3:Bx B w.heap.size 25 (V I 0 0):=(aF.block _ YP (λe=>by have e':w.heap.size=gu:=Option.some.inj e;omega)).trans (b2.alloc _);have GQ:=row_one B f;have bt:w.heap.size<B.heap.size:=b3.lt;clear aF ao a3 ac b2 xy b1 ap;refine⟨trivial,(callsIn_wide.2 (sL (B.alloc (.cells #[G F f] 3)) b [f] _ _ ((HB.o.grow aJ).new _) (GQ.sl GQ.lt) r.small aq D YL)).mono ?_⟩;rintro e g ⟨v,tv,rfl,⟨gb,cv,rfl,aK,av⟩,P,ag,aM,am⟩;have bA:B.heap.size<gb:=by simp at aK;omega
 have bd:ln tv<=ln b+2:=by simp at aM;omega
 have aO:=(aX.alloc (.cells #[G F f] 3)).below am YP;have b4:=(b3.alloc (.cells #[G F f] 3)).below am YP;have ax:Yl w.heap.size w g:=aJ.trans (((XI _ _).alloc D _).trans (am.mono YP));have br:B.heap.size+1<=g.heap.size:=by have:=am.size;simpa using this
 have bD:gb<g.heap.size:=av.lt;clear b3 aX GQ am aJ bs hi a6 a9 a5;have c0:=b4.cell;have f0:=b4.frozen;have aZ:ln a<=ln l:=by
  rcases Nat.lt_or_ge (ln l) (ln a) with h|h
  ·have h1:=cG N.small ae.trim h;have h3:val a*1<=val a*f:=Nat.mul_le_mul_left _ ak;rw[af,val_one] at h1;omega
  ·exact h
 have bG:YG ((ln l:Int)+1<(ln a:Int)+1)=O:=YP;gi_wp2_with fail
 gi_loopw [44] (λ_ wr=>wr=((g.alloc (.cells #[V (L ⟨i,0,I⟩) (ln l+1) E] 25)).alloc (.cells #[V (L ⟨gb,0,I⟩) (ln tv) cv] 25))) (λ_ _=>0)
 case atStart=>rfl
 case round=>
  subst hrel;have bc:val b<=val tv:=by rw[ag,val_one];exact Nat.le_mul_of_pos_right _ ak
  have aG:ln b<=ln tv:=by
   rcases Nat.lt_or_ge (ln tv) (ln b) with h|h
   ·have:=cG P.small r.trim h;omega
   ·exact h
  have be:ln tv<=ln l:=by
   rcases Nat.lt_or_ge (ln l) (ln tv) with h|h
   ·have h1:=cG N.small P.trim h;rw[af,ag] at h1;have:val b*val [f]<=val a*val [f]:=Nat.mul_le_mul_right _ aL;omega
   ·exact h
  obtain⟨mq,ai⟩:∃mq,ln l+1=mq+ln tv:=⟨ln l+1-ln tv,D⟩;have em:(ln l:Int)+1-ln tv=(mq:Int):=D;have aH:=mb mq D;rw[<-em] at aH;have HM:=A ai;have HE:=A em;have bI:w.heap.size<g.heap.size:=D;have cg:¬w.heap.size=g.heap.size:=D;have bR:¬w.heap.size=g.heap.size+1:=D;have b7:¬w.heap.size=g.heap.size+1+1:=D;have b9:w.heap.size<g.heap.size+1:=D;have ch:w.heap.size<g.heap.size+1+1:=D;clear ai em bG;gi_wp2_with(refine⟨trivial,?_⟩;gi_at_call 319;refine(callsIn_wide.2 (jk _ _ _ _)).mono ?_;rintro e w' ⟨rfl,rfl⟩)
  have ai:=HM.o;refine iu (gf:=336) (lb:=#[YA (L ⟨g.heap.size+3,0,I⟩)]) H (enters_of func336 R H)
   (iD (g.heap.size+3) (L ⟨g.heap.size+2,0,I⟩) mq mq (λ_ _=>True) D) (λk x ⟨_,_,e⟩=>Z4)
   (T0 w g.heap.size i E gb cv tv (val a*f) mq (ln l+1)) (λ_ _ _=>False) (λk W W' ⟨u,q,h⟩ S=>⟨u,q,h.stays S YP⟩) (λc k W W' h S=>h) (λk W ⟨u,q,h⟩=>h.back) ?start ?round ?done ?stop
  case start=>
   have M:(g.setCell ⟨w.heap.size,0,I⟩ (V (L ⟨g.heap.size+1+1,0,I⟩) mq mq)).heap.size=g.heap.size:=by simp[World.setCell]
   have hz:=sH (((g.setCell ⟨w.heap.size,0,I⟩ (V (L ⟨g.heap.size+1+1,0,I⟩) mq mq)).alloc (.cells #[V (L ⟨i,0,I⟩) (ln l+1) E] 25)).alloc (.cells #[V (L ⟨gb,0,I⟩) (ln tv) cv] 25)) mq D;simp only[Ya,M] at hz;have ar:Small (l++[0]):=N.small.snoc YK;refine⟨l++[0],List.replicate mq 0,((((b4.put _).alloc _).alloc _).alloc _).alloc _,(((Bx.at_ M).alloc _).alloc _).alloc _,((Bx.at_ (by simp[M])).alloc _).alloc _,Bx.at_ (by simp[M]),?_,?_,hz.alloc _,YL,YL,?_,?_⟩
   ·exact((((aO.eC YP _).alloc _).alloc _).alloc _).alloc _
   ·exact((((av.eC YP _).alloc _).alloc _).alloc _).alloc _
   ·refine Kk.start ar YP (by rw[pZ,af,val_one]) (by unfold C;simp) D (xk P.trim (by intro h0;rw[h0,List.length_nil] at aG;omega))
   ·have h1:Yl w.heap.size w (g.setCell ⟨w.heap.size,0,I⟩ (V (L ⟨g.heap.size+1+1,0,I⟩) mq mq)):=ax.setCell (p:=⟨w.heap.size,0,I⟩) (XE _) _;exact(((h1.alloc (by rw[M];omega) _).alloc (by simp[M];omega) _).alloc (by simp[M];omega) _).alloc (by simp[M];omega) _
  case round=>
   have bz:2<=ln tv:=D;have bK:w.heap.size<i:=D;have bL:i<g.heap.size:=D;have al:i≠gb:=D;have cf:ln l+1<=500000:=D;have bM:1<=C tv (ln tv-1):=by
    rcases nh tv with rfl|⟨m,d,rfl⟩
    ·exact absurd bz YL
    ·have:=P.trim.last;exact a0L
   have ah:=P.small;clear bc aG be aH HE aZ c0 f0 b4 aO av N af ag P aR aM bx bd aQ aW aK bA bu bk ax an hB a2 bv bt br aw aS aq bn HA HB ae r aT a1 bg hc aY ba aL h2 bO;intro lp k x W bW hk hx hi hK;obtain⟨v,_,rfl⟩:=hx;have HK:=A hK;clear hK
   gi_wp2
   refine HK.o _ (λW2 bE _=> ?_);clear HK hi;obtain⟨u,q,h⟩:=bE;have c1:=h.bq.cell;have c2:=h.bu.cell;have c3:=h.bv.cell;have aV:=h.lu;have aC:=h.lq;have bw:=h.dm.len;have aA:=h.dm.top (v:=tv) D ah H D H;have au:=h.dm.lt D;rw[aC] at aA au;have aU:=A (BF W2 i E u tv (L ⟨gb,0,I⟩) cv (mq-1-k) W2.heap.size h.ru (h.rv.sl h.rv.lt) h.dm.small ah bz D D bM aA au);have o:=A h;rw[aV] at aU;have b0:=A bw;have bZ:=A aC;have Q:=A aV;have ce:mq<=500000:=D;clear aA au aV aC bw h ai;gi_wp2_with(refine⟨trivial,?_⟩;gi_at_call 320;refine(CallsIn.inRound lp (callsIn_wide.2 aU.o)).mono ?_;clear aU;rintro e w5 ⟨d,n5,rfl,bl,bh,rfl⟩)
   have HD:=A bl;clear bl
   gi_loopw [10] (λd wr=>NL W2 i E tv u (mq-1-k) d wr) (λd _=>(Yf d).toNat)
   case atStart=>exact⟨d,u,H,o.o.ru,H,o.o.dm.small,λ_ _=>rfl,rfl,HD.o,bh,(eX.refl _ _).drewN n5⟩
   case round=>
    obtain⟨d',x,rfl,hrel⟩:=hrel;clear HD bh;have e1:=(o.o.bu.only hrel.only D);have e2:=(o.o.bv.only hrel.only D);have g1:=e1.cell;have g2:=e2.cell;have g3:=e1.frozen;have HT:=A (Pq wr i E x tv (V (L ⟨gb,0,I⟩) (ln tv) cv) (mq-1-k) d' hrel.row ((o.o.rv.only hrel.only (Ne.symm al)).Uf (Ne.symm al)) hrel.small ah (by have:=hrel.len;have:=Q.o;have:=HM.o;omega) hrel.bound (by have:=hrel.len;have:=Q.o;omega));rw[hrel.len,Q.o] at HT;have HR:=A hrel;clear hrel;gi_wp2_with fail
    refine⟨trivial,(CallsIn.inRound lp (callsIn_wide.2 HT.o)).mono ?_⟩;clear HT;rintro e w6 ⟨c,y,rfl,K⟩;have O6:=HR.o.only.trans K.2.2.2.2.2.2;have T:=o.o.bq.only O6 D;have p2:=o.o.bu.only O6 D;have p3:=o.o.bv.only O6 D;have q1:=T.cell;have q2:=p2.cell;have cd:=p2.frozen;have q3:=p3.cell;by_cases a4:c=0
    ·subst a4;have hn:=o.o.next hk ah bK bL bD al bI HR.o K;have bV:=hn.1;have HN:=A hn.2;have z1:=(o.o.rq.only O6 D).cell (j:=mq-1-k) (by rw[o.o.lq];omega);have z2:=(o.o.rq.only O6 D).frozen (mq-1-k);have i1:((mq-1-k:Nat):Int)<mq:=D;clear K O6 T p2 p3 hn e1 e2;gi_wp2_with fail
     exact⟨HN.o.1,_,_,HN.o.2⟩
    ·have bB:0<c:=D;have r:YG (0<c)=Y:=by simpa using bB
     have aN:=K.2.1;have aP:=HR.o.len;have aE:=A (Dj w6 i E y tv (V (L ⟨gb,0,I⟩) (ln tv) cv) (mq-1-k) d' K.1 ((o.o.rv.only O6 (Ne.symm al)).Uf (Ne.symm al)) K.2.2.1 ah (by have:=Q.o;have:=HM.o;omega) HR.o.bound (by have:=Q.o;omega));rw[aN,aP,Q.o] at aE;have bN:=A K;have HY:Hid (ln y=ln l+1):=by rw[aN,aP,Q.o];exact A H
     have bS:=HR.o.bound;clear K T p3 aN aP e1 e2 a4;gi_wp2_with(refine⟨trivial,?_⟩;gi_at_call 322;refine(CallsIn.inRound lp (callsIn_wide.2 aE.o)).mono ?_;clear aE;rintro e w7 ⟨c2,z,rfl,ay⟩;have az:=HR.o.less bN.o ay bB;have b5:=az.1;have HL:=A az.2;have y2:=p2.only ay.2.2.2.2.2.2 D;have cc:=y2.cell;have b8:=y2.frozen;clear az ay)
     rw[HY.o];have J:=HL.o;have e9:(d':Int)-1=((d'-1:Nat):Int):=D;rw[e9];exact⟨⟨d'-1,z,H,J.row.eC (p:=⟨g.heap.size,0,I⟩) YP _,J.len,J.small,J.same,J.seg,J.lt,J.bound,J.only.again y2⟩,YO⟩
  case done=>
   rintro ad W t ⟨u,q,h⟩ hK;have ar:=h.dm.small;have bf:0<val b:=Nat.lt_of_lt_of_le (by decide:0<1) (Ye (Nat.one_le_pow _ _ YK) (xk r.trim (by intro h0;rw[h0,List.length_nil] at h2;omega)));have a7:val q=val a/val b/\val u=(val a%val b)*f:=by
    have hd:=h.dm;rw[ag,val_one] at hd;rw[<-h.lq] at hd;exact hd.done ak bf
   have hT:=A (kV h.ru h.lu);have ac:=h.ru.trimmed;have au:(aD u).length<=ln l+1:=by have:=bC u;have:=h.lu;omega
   have bi:=A (wE W (aD u) (V (L ⟨i,0,I⟩) (aD u).length E) f (ac.sl ac.lt) (fZ ar).small ak a8 D);have c2:=h.bu.cell;have s:=A h;have bm:=A a7;clear bc aG be aH HE aZ c0 f0 b4 aO av N af ag P aR aM bx bd aQ aW aK bA bu bk ax an hB a2 bv bt br aw aS aq bn HA HB ae r aT a1 bg hc aY ba aL h2 h a7 ac ar bf ai HM;gi_wp2_with(first
    |(refine⟨trivial,?_⟩;gi_at_call 317;refine(callsIn_wide.2 bi.o).mono ?_;clear bi;rintro e w6 ⟨vq,vr,ql,rl,rfl,⟨gq,cq,rfl,b6,bH⟩,bQ,bF,⟨gr,cr,rfl,ci,bU⟩,bX,bY,aj⟩;have T:=s.o.bq.below aj s.o.bq.lt;have q1:=T.cell;have q2:=T.frozen;have bj:=A (kV (s.o.rq.below aj s.o.rq.lt) s.o.lq))
    |(refine⟨trivial,?_⟩;gi_at_call 315;have _t:=hT;refine(callsIn_wide.2 hT.o).mono ?_;clear hT;rintro e w' ⟨rfl,rfl⟩)
    |(refine⟨trivial,?_⟩;gi_at_call 315;refine(callsIn_wide.2 bj.o).mono ?_;clear bj;rintro e w' ⟨rfl,rfl⟩))
   obtain⟨X,hX⟩:=aa (w6.setCell ⟨w.heap.size,0,I⟩ (V (L ⟨g.heap.size+2,0,I⟩) (aD q).length mq));have cj:w.heap.size<W.heap.size:=s.o.bq.lt;have bJ:w6.heap[ad]?=L (.deferred (L [])):=(aj.block ad (XV.1 hK).1).trans hK;have k1:X.heap[ad]?=L (.deferred (L [])):=by rw[<-hX];exact(KeepsOthers.setCell _ _ _).same ad _ bJ H
   have k2:Bx X w.heap.size 25 (V (L ⟨g.heap.size+2,0,I⟩) (aD q).length mq):=by rw[<-hX];exact T.put _
   have k3:Row X (g.heap.size+2) mq (aD q):=by rw[<-hX];exact((s.o.rq.below aj s.o.rq.lt).eC YP _).trimmed
   have k4:Row X gq cq ql:=by rw[<-hX];exact bH.eC YP _
   have k5:Yl w.heap.size w X:=by rw[<-hX];exact(s.o.low.trans (aj.mono D)).setCell (p:=⟨w.heap.size,0,I⟩) (XE _) _
   rw[hX];have S:=aI.putObj (n0:=w.heap.size) (.deferred I) k1 H ZJ;have N:=S.cell k2.cell;refine⟨YL,.inl ⟨_,_,rfl,run_takeDeferred k1,?_⟩⟩;have r1:=k3.stays S;have r2:=k4.stays S;refine⟨YF #[V (L ⟨g.heap.size+2,0,I⟩) (aD q).length mq,V (L ⟨gq,0,I⟩) (ln ql) cq],by simp[results,results293,go_sem,N],_,_,aD q,ql,rfl,r1.sl r1.lt,fZ s.o.dm.smallq,?_,r2.sl r2.lt,bQ,?_,k5.trans S.below⟩
   ·rw[jb];exact bm.o.1
   ·rw[bF,jb,bm.o.2,Nat.mul_div_cancel _ ak]
  case stop=>
   rintro ad c k W t hk h;exact h.elim
def Gz(w:U)(a b:List Nat)(c e:Z)(f:bT w w.heap.size c a)(j:bT w w.heap.size e b)(g:Canon a)(i:Canon b)(m:ln a<=400000)(l:b≠[]):
  XY Xz 293 #[c,e] w (pg w a b):=by
 rcases Nat.lt_or_ge (val a) (val b) with n|k
 ·exact DU w a b c e f j g i D n
 ·match b,l with
  |[d],_=>exact G7 w a d c e f j g i D k
  |d::d2::r,_=>exact DM w a _ c e f j g i m YL k
end
end Go.Proofs.YtnepbjnlmkppmaaGreatDoor
namespace Kp
def val_inj{a b:List Nat}(c:Canon a)(d:Canon b)(h:val a=val b):a=b:=by
 have e:ln a=ln b:=by
  rcases Nat.lt_trichotomy (ln a) (ln b) with j|g|f
  ·have:=cG c.small d.trim j;omega
  ·exact g
  ·have:=cG d.small c.trim f;omega
 unfold val at h;rw[<-e] at h;have hk:=Vl (λk _=>aB c.small k) (λk _=>aB d.small k) h;refine List.ext_getElem e (λi h1 h2=> ?_);have:=hk i h1;rwa[mS h1,mS h2] at this
open Classical in
noncomputable def cZ(n:Nat):List Nat:=if h:∃l,Canon l/\val l=n then Classical.choose h else []
theorem nf(h:Canon l)(a:val l=n):cZ n=l:=by
 have hx:∃l,Canon l/\val l=n:=⟨l,h,a⟩;unfold cZ;rw[dif_pos hx];have:=Classical.choose_spec hx;exact val_inj this.1 h (this.2.trans a.symm)
end Kp
namespace Go.Proofs.YtnepbjnlmkppmaaGreatDoor
section
open Kp
def FN(l:List Nat):List UInt8×Int:=if 300<(own (UJ l)).length then([],4) else(UJ l,0)
def jS(w:U)(r:List UInt8×Int)(e:Ending)(w':U):Prop:=e=YC (YF #[Yy (tx r.1),G F r.2])/\Yl w.heap.size w w'
def nl(l:List UInt8):(own l).length<=ln l:=by unfold own Lib.trimPrefix;split <;>simp
def eG(s:List UInt8)(w:U):XY Xz 248 #[Yy (tx s),Yy ⟨#[45]⟩] w λe w'=>e=YC (Yy (tx (own s)))/\w'=w:=by
 have:=strings_TrimPrefix (tx s) (tx [45]) w;rw[bH,bH] at this;exact this
def re(neg:Bool)(l:List Nat):List UInt8×Int:=if 300<(own (BL neg l)).length then([],4) else(BL neg l,0)
def Gc(l:List Nat):re O l=FN l:=by unfold re FN;rw[ze]
theorem PR(neg:Bool)(h:Small l):(BL neg l).length<=9*ln l+2:=by
 unfold BL;split
 ·simp
 ·have:=uN h (ln l);have:=zF neg;rw[Yc];omega
def tL(w:U)(neg:Bool)(l:List Nat)(v:Z)(a:bT w w.heap.size v l)(c:Small l)(k:ln l<=1000000)(j:bE w):
  XY Xz 294 #[YE #[Yz neg,v]] w (jS w (re neg l)):=by
 obtain⟨ab,ca,rfl,q,n,o⟩:=id a;clear o q n;have b:Yl w.heap.size w (w.alloc (.cells #[Yz neg,V ab (ln l) ca] 311)):=(XI _ _).alloc (XE _) _;have f:bT (w.alloc (.cells #[Yz neg,V ab (ln l) ca] 311)) (w.alloc (.cells #[Yz neg,V ab (ln l) ca] 311)).heap.size (V ab (ln l) ca) l:=a.new _;have m:=A (F8 _ neg l _ f c k (j.below b (XE _)));have h1:=PR neg c;have h2:=nl (BL neg l);have g:=A b;clear a f c j b;by_cases d:300<(own (BL neg l)).length
 ·have i:=A (show re neg l=([],4) by unfold re;rw[XT d]);exact a0M
 ·have i:=A (show re neg l=(BL neg l,0) by unfold re;rw[XQ d]);exact a0M
def DT(w:U)(l:List Nat)(v:Z)(b:bT w w.heap.size v l)(d:Small l)(a:ln l<=1000000)(c:bE w):
  XY Xz 294 #[YE #[Yz O,v]] w (jS w (FN l)):=by
 rw[<-Gc];exact tL w O l v b d a c
noncomputable def nw(a b:List UInt8):List UInt8×Int:=
 if dS a b=0 then(if ln a<=18/\ln b<=18 then(Lib.itoa (Nat.gcd (ak (own a)) (ak (own b)):Nat),0) else FN (cZ (Nat.gcd (ak (own a)) (ak (own b))))) else([],dS a b)
def lh{a b:List UInt8}(h:dS a b=0):kq a=0/\kq b=0:=by
 unfold dS at h;split at h
 ·rename_i h1;exact⟨h1,h⟩
 ·rename_i h1;exact absurd h h1
def gO{a:List UInt8}(h:kq a=0):aQ a=Y/\(own a).length<=300:=by
 unfold kq at h;split at h
 ·rename_i h1;split at h
  ·omega
  ·exact⟨h1,D⟩
 ·omega
def dD{a:List UInt8}(h:aQ a=Y):(own a).all ix=Y:=by
 unfold aQ at h;simp only[Bool.and_eq_true] at h;exact h.1.1
def lB{l:List UInt8}(h:l.all ix=Y):ak l<10^ln l:=by
 induction l with
 |nil=>decide
 |cons b r a=>
  simp only[List.all_cons,Bool.and_eq_true] at h;have h1:=(lv h.1).1;have h2:=a h.2;rw[iM,List.length_cons,Nat.pow_succ];have:jh b*10^ln r<=9*10^ln r:=Nat.mul_le_mul_right _ D;omega
def uP(l:List UInt8):(num l).natAbs=ak (own l):=by unfold num;split <;>simp
def O1{l:List UInt8}(h:aQ l=Y)(a:ln l<=18):(num l).natAbs<1000000000000000000:=by
 rw[uP];have h1:=lB (dD h);have h2:=nl l;have:10^(own l).length<=10^18:=Nat.pow_le_pow_right YK D;exact Nat.lt_of_lt_of_le h1 this
def NM(w:U)(g:Nat)(x y:Z)(wr:U):Prop:=
 ∃a b:Int,x=G F a/\y=G F b/\a.natAbs<1000000000000000000/\b.natAbs<1000000000000000000/\Nat.gcd a.natAbs b.natAbs=g/\Yl w.heap.size w wr
theorem PU{b a:Int}(e:¬a=0)(hy:a.natAbs<1000000000000000000)(c:Nat.gcd b.natAbs a.natAbs=g)(d:Yl w.heap.size w wr):
  NM w g (G F a) (G F (b.tmod a)) (wr.drewN n)/\(b.tmod a).natAbs<a.natAbs:=by
 have h1:(b.tmod a).natAbs=b.natAbs%a.natAbs:=Int.natAbs_tmod _ _;have h2:b.natAbs%a.natAbs<a.natAbs:=Nat.mod_lt _ D;refine⟨⟨a,_,H,H,hy,D,?_,below_drewN d _⟩,D⟩;rw[h1,Nat.gcd_comm,<-Nat.gcd_rec,Nat.gcd_comm];exact c
def RP(a b:List UInt8)(w:U)(f:ln a<=1000000)(i:ln b<=1000000)(h:dS a b≠0):
  XY Xz 262 #[Yy (tx a),Yy (tx b)] w (jS w (nw a b)):=by
 have c:=A (show nw a b=([],dS a b) by unfold nw;rw[XQ h]);have g:(dS a b !=0)=Y:=Zk;clear h;go_enter func262,ntmps262;go_wp2_with(go_at_call 290;refine(jr _ _ _ YT YT).mono ?_;rintro e w1 ⟨rfl,d⟩)
 go_ret2;rw[c.o];exact⟨H,d⟩
def Lg(a b:List UInt8)(w:U)(l:ln a<=18)(j:ln b<=18)(h:dS a b=0)(r:bE w):
  XY Xz 262 #[Yy (tx a),Yy (tx b)] w (jS w (nw a b)):=by
 have q:=A (show nw a b=(Lib.itoa (Nat.gcd (ak (own a)) (ak (own b)):Nat),0) by unfold nw;rw[XT h,XT ⟨l,j⟩]);obtain⟨ca,cb⟩:=lh h;have G:=(gO ca).1;have B:=(gO cb).1;have K:(dS a b !=0)=O:=Zk;have L:ln a<=1000000:=D;have P:ln b<=1000000:=D;have v:=A (O1 G l);have C:=A (O1 B j);have E:=A r;clear h ca cb r;go_enter func262,ntmps262;go_wp2_with(first|(go_at_call 290;refine(jr _ _ _ YT YT).mono ?_;rintro e w1 ⟨rfl,i⟩)|(go_at_call 291;refine(o3 _ _ _ YT YT YT YT).mono ?_;rintro e w2 ⟨rfl,t⟩))
 have z:=i.trans (t.mono i.size);go_loopw [7,8] (λx y wr=>NM w (Nat.gcd (ak (own a)) (ak (own b))) x y wr) (λ_ y _=>(Yf y).natAbs)
 case atStart=>exact⟨_,_,H,H,v.o,C.o,by rw[uP,uP],z⟩
 case round=>
  obtain⟨o,s,rfl,rfl,hx,hy,c,d⟩:=hrel;by_cases g:s=0
  ·subst g;rw[Int.natAbs_zero,Nat.gcd_zero_right] at c;obtain⟨f,m⟩:=aa (Nat.gcd (ak (own a)) (ak (own b)));rw[m] at c q;have M:max o (-o)=(f:Int):=D;have I:f<1000000000000000000:=D;have F:=A (kg (f:Int) wr D D (E.o.below d (XE _)));clear c m hx hy;go_wp2_with(go_at_call 170;refine F.o.mono ?_;rintro e N ⟨rfl,u⟩)
   go_ret2;rw[q.o];exact⟨H,d.trans (u.mono d.size)⟩
  ·have k:=A (λn=>PU (n:=n) g hy c d);have J:(s !=0)=Y:=by simpa using g
   clear c;go_wp2;go_quiet (fail)
   go_roundw
   case rel=>exact⟨_,_,_,_,_,_,_,_,(k.o _).1,H⟩
   case measure=>exact(k.o 0).2
end
section
open Kp
def SX(v:Z)(w:U):Nat:=
 match v with
 | V (L a) n _=>S (λj=>match w.cell? ⟨a.block,a.off+j,I⟩ with|some (.int _ x)=>x.toNat|_=>0) n
 |_=>0
theorem Hm{v:Z}(h:bT w b0 v l):SX v w=val l:=by
 obtain⟨ab,ac,rfl,_,_,a⟩:=h;by_cases r:0<ln l
 ·obtain⟨b,off,rfl,_,c⟩:=a r;unfold SX val;refine fu (λj d=> ?_);simp only;rw[c j d];simp
 ·have:l=[]:=a0a;subst this;cases ab<;>rfl
structure MN(w:U)(g:Nat)(x y:Z)(wr:U):Prop where
 ex:∃a b,bT wr wr.heap.size x a/\bT wr wr.heap.size y b/\Canon a/\Canon b/\ln a<=400000/\ln b<=400000/\Nat.gcd (val a) (val b)=g
 low:Yl w.heap.size w wr
def JI{r b:List Nat}(c:Canon r)(a:Canon b)(h:val r<val b):ln r<=ln b:=by
 rcases Nat.lt_or_ge (ln b) (ln r) with e|d
 ·have:=cG a.small c.trim e;omega
 ·exact d
def Nu(a b:List UInt8)(w:U)(ha:ln a<=1000000)(hb:ln b<=1000000)(aq:18<ln a\/18<ln b)(h:dS a b=0)(K:bE w):
  XY Xz 262 #[Yy (tx a),Yy (tx b)] w (jS w (nw a b)):=by
 have J:=A (show nw a b=FN (cZ (Nat.gcd (ak (own a)) (ak (own b)))) by unfold nw;rw[XT h,XQ D]);obtain⟨ca,cb⟩:=lh h;obtain⟨fa,la⟩:=gO ca;obtain⟨z,lb⟩:=gO cb;have da:=dD fa;have db:=dD z;have h':(dS a b !=0)=O:=Zk;have aw:∀(p:Bool) (ab:Option Ym) (n c:Nat) (W:U),(Instr.field 311 (YE #[Yz p,V ab n c]) 1).run Xz W= .ok (V ab n c) W:=λ_ _ _ _ _=>R
 have HT:=A K;have ag:=A la;have am:=A lb;clear h ca cb K fa z la lb;go_enter func262,ntmps262;go_wp2_with(first|(go_at_call 290;refine(jr _ _ _ YT YT).mono ?_;rintro e w1 ⟨rfl,k⟩)|(go_at_call 291;refine(wI _ _ _ YT YT YT).mono ?_;rintro e w2 ⟨rfl,t⟩)|(go_at_call 292;refine(mD _ _ YT YT).mono ?_;rintro e i ⟨v3,j,rfl,⟨P,N,rfl,au,u⟩,M,B,ad,v⟩;have aj:=A B;clear B))
 rename_i wa la ga C az q Z af G al _ _;have hB:=((k.trans (t.mono k.size)).trans (G.mono (by have:=k.size;have:=t.size;omega))).trans (v.mono (by have:=k.size;have:=t.size;have:=G.size;omega));have Q:bT i i.heap.size (V (L ⟨ga,0,I⟩) (ln la) C) la:=(q.sl q.lt).grow v;have ac:bT i i.heap.size (V (L ⟨P,0,I⟩) (ln j) N) j:=u.sl u.lt;have E:MN w (Nat.gcd (ak (own a)) (ak (own b))) (V (L ⟨ga,0,I⟩) (ln la) C) (V (L ⟨P,0,I⟩) (ln j) N) i:=
  ⟨⟨la,j,Q,ac,Z,M,by have:=ag.o;omega,by have:=am.o;omega,by rw[al.o,aj.o]⟩,hB⟩
 have ao:=A E;clear E Q ac q u af ad Z M;go_loopw [10,11] (λx y wr=>MN w (Nat.gcd (ak (own a)) (ak (own b))) x y wr) (λ_ y wr=>SX y wr)
 case atStart=>exact ao.o
 case round=>
  obtain⟨⟨a',d,sx,sy,r,o,lx,ly,f⟩,g⟩:=hrel;have s:=Hm sy;obtain⟨Ay,ay,rfl,aD,an,_⟩:=id sy;obtain⟨Ax,aB,rfl,av,ah,_⟩:=id sx;unfold Yk at an ah;have ar:=A sx;have ai:=A sy;have ae:=A s;by_cases m:d=[]
  ·subst m;have e1:val ([]:List Nat)=0:=rfl;rw[e1,Nat.gcd_zero_right] at f;have aa:=nf r f;rw[aa] at J;have cr:=A (DT wr a' _ sx r.small D (HT.o.below g (XE _)));clear f aa sx sy s;go_wp2_with(go_at_call 294;refine cr.o.mono ?_;rintro e w4 ⟨rfl,l⟩)
   go_ret2;rw[J.o];exact⟨H,g.trans (l.mono g.size)⟩
  ·have aC:0<ln d:=List.length_pos_iff.2 m;have ax:YG (0<(ln d:Int))=Y:=Zo;have cd:=A (Gz wr a' d _ _ sx sy r o lx m);have HG:=A f;clear sx sy s f;go_wp2_with(go_at_call 293;refine cd.o.mono ?_;rintro e w4 ⟨vq,vr,ql,rl,rfl,ap,aE,aA,S,T,X,l⟩)
   have F:val rl<val d:=by rw[X];exact Nat.mod_lt _ (He o.trim m)
   refine⟨⟨⟨d,rl,ai.o.grow l,S,o,T,ly,?_,?_⟩,g.trans (l.mono g.size)⟩,?_⟩
   ·have:=JI T o F;omega
   ·rw[X,Nat.gcd_comm,<-Nat.gcd_rec,Nat.gcd_comm];exact HG.o
   ·rw[Hm S,ae.o];exact F
def Qe(a b:List UInt8)(w:U)(c:ln a<=1000000)(d:ln b<=1000000)(f:bE w):
  XY Xz 262 #[Yy (tx a),Yy (tx b)] w (jS w (nw a b)):=by
 by_cases h:dS a b=0
 ·by_cases e:ln a<=18/\ln b<=18
  ·exact Lg a b w e.1 e.2 h f
  ·exact Nu a b w c d D h f
 ·exact RP a b w c d h
end
section
open Kp
def lead(s:List UInt8):List UInt8:=s.takeWhile ix
def dA(s:List UInt8):Option (Nat×List UInt8):=
 if(lead s).length=0\/8<(lead s).length\/(1<(lead s).length/\s.head?=L 48) then I else L (ak (lead s),s.drop (lead s).length)
theorem sU(h:(s.take k).all ix=Y)(hk:k<=ln s):k<=(lead s).length:=by
 induction s generalizing k with
 |nil=>simp at hk;omega
 |cons b r a=>
  cases k with
  |zero=>omega
  |succ k=>
   simp only[List.take_succ_cons,List.all_cons,Bool.and_eq_true] at h;have:=a h.2 (by simpa using hk);unfold lead at *;rw[List.takeWhile_cons_of_pos h.1];exact a0r
def lz(s:List UInt8):(lead s).all ix=Y:=by
 unfold lead
 induction s with
 |nil=>rfl
 |cons b r a=>
  by_cases h:ix b=Y
  ·rw[List.takeWhile_cons_of_pos h,List.all_cons,h,a];rfl
  ·rw[List.takeWhile_cons_of_neg h];rfl
def yf(s:List UInt8):s.take (lead s).length=lead s:=by
 have:lead s<+:s:=List.takeWhile_prefix _;obtain⟨t,a⟩:=this;have h:(lead s++t).take (lead s).length=lead s:=YL;rwa[a] at h
theorem yk(h:(s.take k).all ix=Y)(hk:k<ln s)(b:ix s[k]=O):(lead s).length=k:=by
 have h1:=sU h D;rcases Nat.lt_or_ge k (lead s).length with h2|h2
 ·have a:=lz s;rw[List.all_eq_true] at a;have c:s[k]∈lead s:=by
   have e:(lead s)[k]=s[k]:=by
    have:(s.take (lead s).length)[k]'YP=s[k]:=YL;rw[<-this];congr 1;rw[yf]
   rw[<-e];exact List.getElem_mem _
  rw[a _ c] at b;cases b
 ·omega
theorem C7(h:(s.take (ln s)).all ix=Y):(lead s).length=ln s:=by
 have h1:=sU h (XE _);have:(lead s).length<=ln s:=(List.takeWhile_prefix _).length_le;omega
def OU(s:List UInt8)(n i:Z):Prop:=
 ∃k:Nat,k<=ln s/\k<=9/\n=G F (ak (s.take k):Int)/\i=G F (k:Int)/\(s.take k).all ix=Y
theorem nL(hk:k<ln s):ak (s.take (k+1))=ak (s.take k)*10+jh s[k]:=by
 rw[List.take_succ_eq_append_getElem hk,wF]
theorem Ey(hk:k<ln s)(h:(s.take k).all ix=Y)(a:ix s[k]=Y):(s.take (k+1)).all ix=Y:=by
 rw[List.take_succ_eq_append_getElem hk,List.all_append,h];simp[a]
def uX(b:UInt8):ix b=(YG (48<=(b.toNat:Int))&&YG ((b.toNat:Int)<=57)):=by
 have h:∀n:Fin 256,ix (UInt8.ofNat n.1)=(YG (48<=((UInt8.ofNat n.1).toNat:Int))&&YG (((UInt8.ofNat n.1).toNat:Int)<=57)):=Zz;have:=h ⟨b.toNat,b.toNat_lt⟩;exact a0r
def oe(s:List UInt8):Z:=match dA s with|none=> YF #[G F 0,Yy ⟨#[]⟩,Yz O]|some (n,r)=> YF #[G F n,Yy (tx r),Yz Y]
theorem pz(h:(k<=8/\(lead s).length=k)\/(k=9/\8<(lead s).length))(hk:k=0\/8<k\/(1<k/\s.head?=L 48)):oe s=YF #[G F 0,Yy ⟨#[]⟩,Yz O]:=by
 unfold oe dA;rw[XT];rcases h with⟨h1,h2⟩|⟨h1,h2⟩
 ·rw[h2];omega
 ·exact .inr (.inl h2)
theorem pd(h:(k<=8/\(lead s).length=k)\/(k=9/\8<(lead s).length))(hk:¬(k=0\/8<k\/(1<k/\s.head?=L 48))):oe s=YF #[G F (ak (s.take k)),Yy (tx (s.drop k)),Yz Y]:=by
 unfold oe dA;rcases h with⟨h1,h2⟩|⟨h1,h2⟩
 ·rw[XQ (by rw[h2];exact hk),<-yf s,h2];simp
 ·omega
theorem nB{h:0<(tx s).size}(a:(((tx s)[0]'h).toNat:Int)=48):s.head?=L 48:=by
 cases s with
 |nil=>simp[af] at h
 |cons b r=>simp only[List.head?_cons];rw[SP (c:=b) a]
theorem uC{h:0<(tx s).size}(a:¬(((tx s)[0]'h).toNat:Int)=48):¬s.head?=L 48:=by
 cases s with
 |nil=>simp[af] at h
 |cons b r=>
  simp only[List.head?_cons,Option.some.injEq];intro e;subst e;exact a H
def lQ(s:List UInt8)(k:Nat):(tx s).extract k (ln s)=tx (s.drop k):=by
 unfold tx;rw[Lib.extract_eq]
 congr 2
 rw[List.take_of_length_le];simp
def tE (s : List UInt8) (w : U) (P : ln s <= 1000000) :
    XY Xz 288 #[Yy (tx s)] w λe w' => e =YC (oe s) /\ Yl w.heap.size w w' := by
  go_enter func288, ntmps288;go_wp2
  go_loop [5, 6] (λn i => OU s n i) (λ_ i => ((10 : Int) - Yf i).toNat)
  case atStart => exact ⟨0, D, D, rfl, rfl, rfl⟩
  case round =>
    obtain ⟨k, hk, M, rfl, rfl, c⟩ := hrel;by_cases m : k < ln s /\ k <= 8 /\ ∃ h : k < ln s, ix (s[k]'h) = Y
    · obtain ⟨a, N, _, d⟩ := m
      have g : k < (tx s).size := by rw [af]; exact a
      have hx : (tx s)[k]'g = s[k] := rfl;have y := lv d;have d1 : 48 <= (((tx s)[k]'g).toNat : Int) := by rw [hx]; omega
      have d2 : (((tx s)[k]'g).toNat : Int) <= 57 := by rw [hx]; omega
      have T : ((((tx s)[k]'g).toNat : Int) - 48) % 256 = (jh s[k] : Int) := by rw [hx]; unfold jh; omega
      have x := lB c;have S : ak (s.take k) < 1000000000 := Nat.lt_of_lt_of_le x (show 10 ^ (s.take k).length <= 10 ^ 9 from Nat.pow_le_pow_right YK (by rw [List.length_take]; omega));have r : OU s (G F (10 * (ak (s.take k) : Int) + ((((tx s)[k]'g).toNat : Int) - 48))) (G F ((k : Int) + 1)) := ⟨k + 1, D, D, by rw [nL a, hx]; congr 1; unfold jh; omega, YL, Ey a c d⟩;have I := A r;have K : jh s[k] < 10 := y.1;clear r x y hx c d;go_wp2;exact ⟨I.o, Zw⟩
    · have B : (k <= 8 /\ (lead s).length = k) \/ (k = 9 /\ 8 < (lead s).length) := by
        by_cases E : k = 9
        · exact .inr ⟨E, by have := sU c hk; omega⟩
        · refine .inl ⟨D, ?_⟩
          by_cases a : k < ln s
          · refine yk c a ?_
            cases d : ix s[k] with
            | false => rfl
            | true => exact absurd ⟨a, D, a, d⟩ m
          · have e : k = ln s := by omega
            rw [e] at c; rw [e]; exact C7 c
      have t : k < ln s -> k <= 8 -> ∃ h : k < ln s, ix (s[k]'h) = O := λa J => ⟨a, by
        cases d : ix s[k] with
        | false => rfl
        | true => exact absurd ⟨a, J, a, d⟩ m⟩
      have f := A B;have R := A c;clear m B c;have C : (¬ k < ln s) \/ (k = 9 /\ k < ln s) \/ (k <= 8 /\ ∃ h : k < (tx s).size, (((tx s)[k]'h).toNat : Int) < 48) \/ (k <= 8 /\ ∃ h : k < (tx s).size, 57 < (((tx s)[k]'h).toNat : Int)) := by
        by_cases h1 : k < ln s
        · by_cases h2 : k <= 8
          · obtain ⟨_, o⟩ := t h1 h2
            have z : k < (tx s).size := by rw [af]; exact h1
            rw [uX] at o;simp only [Bool.and_eq_false_iff, XL] at o;rcases o with h | h
            · exact .inr (.inr (.inl ⟨h2, z, by show ((s[k]).toNat : Int) < 48; omega⟩))
            · exact .inr (.inr (.inr ⟨h2, z, by show 57 < ((s[k]).toNat : Int); omega⟩))
          · exact .inr (.inl ⟨D, h1⟩)
        · exact .inl h1
      clear t;rcases C with Q | ⟨q, l⟩ | ⟨q, l, u⟩ | ⟨q, l, u⟩
      · skip
        go_wp2;all_goals first
          | (have b : k = 0 \/ 8 < k \/ (1 < k /\ s.head? = L 48) := by
               first
                 | omega
                 | (rename_i h; simp only [Yg] at h; omega)
                 | (rename_i h; rcases h with (h | h) | h
                    ·exact a0O
                    · omega
                    · exact .inr (.inr ⟨D, nB Zk⟩))
                 | (rename_i h _; rcases h with (h | h) | h
                    ·exact a0O
                    · omega
                    · exact .inr (.inr ⟨D, nB Zk⟩))
                 | (rename_i h _ _; simp only [Yg] at h; omega)
                 | (rename_i h _; simp only [Yg] at h; omega)
                 | (rename_i h _ _ _; simp only [Yg] at h; omega)
                 | (rename_i h _ _ _ _; simp only [Yg] at h; omega)
             exact bodyPost_ret (v := oe s) (by rw [pz f.o b]; simp [results, results288, go_sem]) H ⟨H, XI _ _⟩)
          | (have b : ¬ (k = 0 \/ 8 < k \/ (1 < k /\ s.head? = L 48)) := by
               first
                 | omega
                 | (rename_i h _ _; have j := uC (s := s) (by simpa using h.2); rintro (h1 | h1 | ⟨_, h1⟩) <;> first | omega | exact j h1)
             go_quiet (fail)
             go_wp2;exact bodyPost_ret (v := oe s) (by rw [pd f.o b]; simp [lQ, results, results288, go_sem]) H ⟨H, below_drewN (XI _ _) _⟩)
      · have u : 8 < (k : Int) := by omega
        clear q;go_wp2;all_goals first
          | (have b : k = 0 \/ 8 < k \/ (1 < k /\ s.head? = L 48) := by
               first
                 | omega
                 | (rename_i h; simp only [Yg] at h; omega)
                 | (rename_i h; rcases h with (h | h) | h
                    ·exact a0O
                    · omega
                    · exact .inr (.inr ⟨D, nB Zk⟩))
                 | (rename_i h _; rcases h with (h | h) | h
                    ·exact a0O
                    · omega
                    · exact .inr (.inr ⟨D, nB Zk⟩))
                 | (rename_i h _ _; simp only [Yg] at h; omega)
                 | (rename_i h _; simp only [Yg] at h; omega)
                 | (rename_i h _ _ _; simp only [Yg] at h; omega)
                 | (rename_i h _ _ _ _; simp only [Yg] at h; omega)
             exact bodyPost_ret (v := oe s) (by rw [pz f.o b]; simp [results, results288, go_sem]) H ⟨H, XI _ _⟩)
          | (have b : ¬ (k = 0 \/ 8 < k \/ (1 < k /\ s.head? = L 48)) := by
               first
                 | omega
                 | (rename_i h _ _; have j := uC (s := s) (by simpa using h.2); rintro (h1 | h1 | ⟨_, h1⟩) <;> first | omega | exact j h1)
             go_quiet (fail)
             go_wp2;exact bodyPost_ret (v := oe s) (by rw [pd f.o b]; simp [lQ, results, results288, go_sem]) H ⟨H, below_drewN (XI _ _) _⟩)
      ·exact a0N
      ·exact a0N
end
end Go.Proofs.YtnepbjnlmkppmaaGreatDoor
namespace Kp
section
open Go
abbrev K:Type:=List UInt8
structure Ed where
 kind:Int
 index:Int
 sx:Int
 sy:Int
 srise:Int
 srun:Int
 gable:Bool
 splate:Int
 sover:Int
 oside:Int
 oleft:K
 oright:K
 olow:K
 ohigh:K
 zkind:Int
 zwidth:Int
 zdepth:Int
 bwidth:Int
 bdepth:Int
 blength:Int
 bcount:Int
 bcost:Int
 gaps:List (Int×Int)
 lkind:Int
 lside:Int
 lweight:K
 awidth:Int
 adepth:Int
 aspacing:Int
 aload:Int
 aspan:Int
 twidth:Int
 tlength:Int
 tlap:Int
 ttail:Int
 number:Int
 text:K
def oK:Ed:=⟨0,0,0,0,0,0,O,0,0,0,[],[],[],[],0,0,0,0,0,0,0,0,[],0,0,[],0,0,0,0,0,0,0,0,0,0,[]⟩
def eu(e:Ed):Ed:=
 if e.kind=1 then{oK with kind:=e.kind,text:=e.text}
 else if e.kind=2 then{oK with kind:=e.kind,index:=e.index,sx:=e.sx,sy:=e.sy,srise:=e.srise,srun:=e.srun,gable:=e.gable,splate:=e.splate,sover:=e.sover}
 else if e.kind=3\/e.kind=12 then{oK with kind:=e.kind,index:=e.index,number:=e.number}
 else if e.kind=4\/e.kind=8 then{oK with kind:=e.kind,number:=e.number}
 else if e.kind=5 then{oK with kind:=e.kind,index:=e.index,oside:=e.oside,oleft:=e.oleft,oright:=e.oright,olow:=e.olow,ohigh:=e.ohigh}
 else if e.kind=6 then{oK with kind:=e.kind,zkind:=e.zkind,zwidth:=e.zwidth,zdepth:=e.zdepth}
 else if e.kind=7 then{oK with kind:=e.kind,index:=e.index,bwidth:=e.bwidth,bdepth:=e.bdepth,blength:=e.blength,bcount:=e.bcount,bcost:=e.bcost,gaps:=e.gaps}
 else if e.kind=9 then{oK with kind:=e.kind,twidth:=e.twidth,tlength:=e.tlength,tlap:=e.tlap,ttail:=e.ttail}
 else if e.kind=10 then{oK with kind:=e.kind,index:=e.index,lkind:=e.lkind,lside:=e.lside,lweight:=e.lweight}
 else if e.kind=11 then{oK with kind:=e.kind,awidth:=e.awidth,adepth:=e.adepth,aspacing:=e.aspacing,aload:=e.aload,aspan:=e.aspan}
 else{oK with kind:=e.kind}
def jg(bs s:K):K:=if bs=[] then s else bs++32::s
def bt(bs:K)(a:List K):K:=a.foldl jg bs
def gX(bs:K)(w:K)(a:List K):bt bs (w::a)=bt (jg bs w) a:=rfl
def kM(bs:K)(a b:List K):bt bs (a++b)=bt (bt bs a) b:=by simp[bt]
def dH:List K:=[[99,111,109,109,111,110],[104,105,112,106,97,99,107],[118,97,108,108,101,121,106,97,99,107],[99,114,105,112,112,108,101],[111,116,104,101,114],[104,105,112],[118,97,108,108,101,121],[114,105,100,103,101],[112,117,114,108,105,110],[112,108,97,116,101],[116,114,105,109,109,101,114],[104,101,97,100,101,114]]
abbrev qd:K:=[110,97,109,101]
abbrev nT:K:=[115,105,100,101]
abbrev iF:K:=[115,112,97,99,105,110,103]
abbrev iy:K:=[112,117,114,108,105,110]
abbrev fD:K:=[111,112,101,110,105,110,103]
abbrev lE:K:=[115,105,122,101]
abbrev mH:K:=[98,97,114]
abbrev qa:K:=[107,101,114,102]
abbrev p8:K:=[116,105,108,101]
abbrev lN:K:=[108,111,97,100]
abbrev mU:K:=[115,112,97,110]
abbrev iL:K:=[114,101,109,111,118,101]
def kindOf(w:K):Int:=
 if w=qd then 1
 else if w=nT then 2
 else if w=iF then 3
 else if w=iy then 4
 else if w=fD then 5
 else if w=lE then 6
 else if w=mH then 7
 else if w=qa then 8
 else if w=p8 then 9
 else if w=lN then 10
 else if w=mU then 11
 else if w=iL then 12
 else 0
def j9(n:Int):Bool:=n==4||n==5||n==6||n==7||n==10||n==11
def qB(n:Int):K:=
 if n=4 then iy
 else if n=5 then fD
 else if n=6 then lE
 else if n=7 then mH
 else if n=10 then lN
 else if n=11 then mU
 else []
def U4(w:K):Int:=
 if w=iy then 4
 else if w=fD then 5
 else if w=lE then 6
 else if w=mH then 7
 else if w=lN then 10
 else if w=mU then 11
 else 0
def mE(z:Int):K:=dH.getD (z-1).toNat []
def Ud(w:K):Int:=if w∈dH then(dH.idxOf w:Int) else -1
def qk(b:UInt8):Bool:=(YG (97<=b.toNat)&&YG (b.toNat<=122))||(YG (65<=b.toNat)&&YG (b.toNat<=90))||(YG (48<=b.toNat)&&YG (b.toNat<=57))
def kH(s:K):Bool:=s.all qk&& !s.isEmpty&&YG (ln s<=16)
def jD(l:List Int):List K:=l.map Lib.itoa
def kF(l:List (Int×Int)):List Int:=l.flatMap (λg=>[g.1,g.2])
def Uj(b:Bool):Int:=if b then 1 else 0
def aN(e:Ed):List Int:=
 if e.kind=1 then []
 else if e.kind=2 then [e.index,e.sx,e.sy,e.srise,e.srun,e.splate,e.sover,Uj e.gable]
 else if e.kind=3 then [e.index,e.number]
 else if e.kind=4 then [e.number]
 else if e.kind=5 then [e.index,e.oside]
 else if e.kind=6 then [e.zwidth,e.zdepth]
 else if e.kind=7 then [e.index,e.bwidth,e.bdepth,e.blength,e.bcount,e.bcost]++kF e.gaps
 else if e.kind=8 then [e.number]
 else if e.kind=9 then [e.twidth,e.tlength,e.tlap,e.ttail]
 else if e.kind=10 then [e.index,e.lkind,e.lside]
 else if e.kind=11 then [e.awidth,e.adepth,e.aspacing,e.aload,e.aspan]
 else [e.index]
def numsOf(e:Ed):List K:=
 if e.kind=5 then [e.oleft,e.oright,e.olow,e.ohigh]
 else if e.kind=10 then [e.lweight]
 else []
def bj(e:Ed):List K:=
 if e.kind=1 then [qd,e.text]
 else if e.kind=2 then [nT]
 else if e.kind=3 then [iF]
 else if e.kind=4 then [iy]
 else if e.kind=5 then [fD]
 else if e.kind=6 then [lE,mE e.zkind]
 else if e.kind=7 then [mH]
 else if e.kind=8 then [qa]
 else if e.kind=9 then [p8]
 else if e.kind=10 then [lN]
 else if e.kind=11 then [mU]
 else [iL,qB e.number]
def cE(e:Ed):List K:=bj e++jD (aN e)++numsOf e
def pS(n:Int):Bool:=YG (n< -1073741824)||YG (1073741824<n)
def fY(x:Int)(l:List Int):Int:=if l.any pS then 2 else x
def js(b:K->Int)(x:Int)(l:List K):Int:=l.foldl (λx a=>if x=0 then b a else x) x
open Classical in
noncomputable def nZ(a:K->Int)(e:Ed):K×Int:=
 if e.kind<1\/12<e.kind then([],8)
 else if¬e=eu e then([],9)
 else if e.kind=1/\kH e.text=O then([],13)
 else if(e.kind=6/\(e.zkind<1\/12<e.zkind))\/(e.kind=12/\j9 e.number=O) then([],8)
 else if 16<ln e.gaps then([],4)
 else if¬fY 0 (aN e)=0 then([],fY 0 (aN e))
 else if¬js a 0 (numsOf e)=0 then([],js a 0 (numsOf e))
 else(bt [] (cE e),0)
abbrev uo:Type:=List K×Bool
def rW(r:uo):K×uo:=match r.1 with
 |[]=>([],([],Y))
 |w::t=>(w,(t,r.2))
def n8(w:K):Int×Bool:=match Lib.atoiAll w with
 | .ok v=>(v,O)
 | .range=>(Lib.atoiSat w,Y)
 |_=>(0,Y)
def rI(r:uo):Int×uo:=((n8 (rW r).1).1,((rW r).2.1,(rW r).2.2||(n8 (rW r).1).2))
def rG:Nat->uo->List (Int×Int)×uo
 |0,r=>([],r)
 |n+1,r=>match r.1 with
  |[]=>([],r)
  |_::_=>(((rI r).1,(rI (rI r).2).1)::(rG n (rI (rI r).2).2).1,(rG n (rI (rI r).2).2).2)
def xx:Nat->uo->List Int×uo
 |0,r=>([],r)
 |n+1,r=>((rI r).1::(xx n (rI r).2).1,(xx n (rI r).2).2)
def VU:Nat->uo->List K×uo
 |0,r=>([],r)
 |n+1,r=>((rW r).1::(VU n (rW r).2).1,(VU n (rW r).2).2)
def rE(r:uo):Ed×uo:=
 let k:=kindOf (rW r).1
 let r1:=(rW r).2
 let e:Ed:={oK with kind:=k}
 if k=1 then({e with text:=(rW r1).1},(rW r1).2)
 else if k=2 then
  let l:=(xx 8 r1).1
  ({e with index:=l.getD 0 0,sx:=l.getD 1 0,sy:=l.getD 2 0,srise:=l.getD 3 0,srun:=l.getD 4 0,splate:=l.getD 5 0,sover:=l.getD 6 0,gable:=l.getD 7 0==1},(xx 8 r1).2)
 else if k=3 then({e with index:=(xx 2 r1).1.getD 0 0,number:=(xx 2 r1).1.getD 1 0},(xx 2 r1).2)
 else if k=4\/k=8 then({e with number:=(rI r1).1},(rI r1).2)
 else if k=5 then
  let l:=(xx 2 r1).1
  let a:=(VU 4 (xx 2 r1).2).1
  ({e with index:=l.getD 0 0,oside:=l.getD 1 0,oleft:=a.getD 0 [],oright:=a.getD 1 [],olow:=a.getD 2 [],ohigh:=a.getD 3 []},(VU 4 (xx 2 r1).2).2)
 else if k=6 then
  let l:=(xx 2 (rW r1).2).1
  ({e with zkind:=1+Ud (rW r1).1,zwidth:=l.getD 0 0,zdepth:=l.getD 1 0},(xx 2 (rW r1).2).2)
 else if k=7 then
  let l:=(xx 6 r1).1
  let r2:=(xx 6 r1).2
  ({e with index:=l.getD 0 0,bwidth:=l.getD 1 0,bdepth:=l.getD 2 0,blength:=l.getD 3 0,bcount:=l.getD 4 0,bcost:=l.getD 5 0,gaps:=(rG (ln r2.1) r2).1},(rG (ln r2.1) r2).2)
 else if k=9 then
  let l:=(xx 4 r1).1
  ({e with twidth:=l.getD 0 0,tlength:=l.getD 1 0,tlap:=l.getD 2 0,ttail:=l.getD 3 0},(xx 4 r1).2)
 else if k=10 then
  let l:=(xx 3 r1).1
  ({e with index:=l.getD 0 0,lkind:=l.getD 1 0,lside:=l.getD 2 0,lweight:=(rW (xx 3 r1).2).1},(rW (xx 3 r1).2).2)
 else if k=11 then
  let l:=(xx 5 r1).1
  ({e with awidth:=l.getD 0 0,adepth:=l.getD 1 0,aspacing:=l.getD 2 0,aload:=l.getD 3 0,aspan:=l.getD 4 0},(xx 5 r1).2)
 else if k=12 then({e with number:=U4 (rW r1).1,index:=(rI (rW r1).2).1},(rI (rW r1).2).2)
 else(e,r1)
end
section
open Go
theorem kT(h:i<10):ix (UInt8.ofNat (48+i))=Y/\jh (UInt8.ofNat (48+i))=i:=by
 have a:∀n:Fin 10,ix (UInt8.ofNat (48+n.1))=Y/\jh (UInt8.ofNat (48+n.1))=n.1:=Zz;exact a ⟨i,h⟩
def eA(u:Nat):(Lib.decDigits u).all ix=Y/\ak (Lib.decDigits u)=u/\Lib.decDigits u≠[]:=by
 induction u using Nat.strongRecOn with
 |_ u c=>
  rw[Lib.decDigits];split
  ·rename_i h;obtain⟨h1,h2⟩:=kT h;exact⟨by rw[List.all_cons,h1];rfl,by show 0*10+jh _=u;rw[h2];omega,YL⟩
  ·rename_i h;obtain⟨a,b,_⟩:=c (u/10) D;obtain⟨h1,h2⟩:=kT (i:=u%10) D;refine⟨by rw[List.all_append,a,List.all_cons,h1];rfl,?_,YL⟩;rw[wF,b,h2];omega
def zP(n k:Nat)(hk:1<=k)(h:n<10^k):Lib.nDigits n<=k:=by
 induction k generalizing n with
 |zero=>omega
 |succ k a=>
  exact a0J
def yZ(n:Int):Lib.atoi (Lib.itoa n)=L n:=by
 unfold Lib.itoa;split
 ·rename_i h;obtain⟨a,b,c⟩:=eA n.natAbs;simp only[Lib.atoi,Yt,Yr,qo a c,b,Option.map_some]
  congr 1;omega
 ·rename_i h;obtain⟨a,b,c⟩:=eA n.toNat;cases d:Lib.decDigits n.toNat with
  |nil=>exact absurd d c
  |cons x r=>
   rw[d] at a b c;have hx:ix x=Y:=by simp only[List.all_cons,Bool.and_eq_true] at a;exact a.1
   have h1:(x==45)=O:=by rw[XN];intro e;subst e;revert hx;decide
   have h2:(x==43)=O:=by rw[XN];intro e;subst e;revert hx;decide
   simp only[Lib.atoi,h1,h2,Bool.false_eq_true,Yu,qo a c,b,Option.map_some]
   congr 1;omega
def Rx{b:K->Int}{x:Int}(l:List K)(h:¬x=0):js b x l=x:=by
 induction l with
 |nil=>rfl
 |cons a l c=>unfold js at *;rw[List.foldl_cons,XQ h];exact c
def CP(a b:List Int):jD (a++b)=jD a++jD b:=by simp[jD]
def wZ(e:Ed):∃b w a,bj e=(b::w)::a:=by
 have:∀l,bj e=l->∃b w a,l=(b::w)::a:=by
  intro l;unfold bj
  repeat' split
  all_goals intro h;subst h;exact⟨_,_,_,H⟩
 exact this _ H
end
end Kp
namespace Go.Proofs.YtnepbjnlmkppmaaGreatDoor
section
variable {P : Program} {ops : Array Oper} {Q : Exit → Act → U → Prop} {md : Region.Mode}
abbrev Ext(w w':U):Prop:=Yl w.heap.size w w'
theorem Ext.size(h:Ext w w'):w.heap.size<=w'.heap.size:=Below.size h
def xo(ag:Array Bool):Nat->Nat
 |0=>0
 |n+1=>xo ag n+if ag.getD n O=Y then 0 else 1
theorem oC(h:xo ag n=0):∀i,i<n->ag.getD i O=Y:=by
 induction n with
 |zero=>intro i hi;omega
 |succ n c=>
  rw[xo] at h;intro i hi;by_cases b:i=n
  ·subst b;by_cases a:ag.getD i O=Y
   ·exact a
   ·rw[XQ a] at h;omega
  ·exact c D i D
theorem uO(h:xo ag n=m+1):∃i,i<n/\ag.getD i O=O/\∀j,j<i->ag.getD j O=Y:=by
 induction n generalizing m with
 |zero=>rw[xo] at h;omega
 |succ n b=>
  rw[xo] at h;by_cases a:xo ag n=0
  ·have r:¬ag.getD n O=Y:=λr=>by rw[XT r] at h;omega
   exact⟨n,D,a0a,oC a⟩
  ·obtain⟨i,hi,h1,h2⟩:=b (m:=xo ag n-1) D;exact⟨i,D,h1,h2⟩
theorem uU(hi:i<n)(a:n<=ag.size)(d:ag.getD i O=O)(h:xo ag n=m+1):xo (ag.setIfInBounds i Y) n=m:=by
 have key:∀n,n<=ag.size->xo (ag.setIfInBounds i Y) n+(if i<n then 1 else 0)=xo ag n:=by
  intro n
  induction n with
  |zero=>intro _;rw[xo,xo];simp
  |succ n f=>
   intro a;have:=f D;rw[xo,xo];by_cases b:i=n
   ·subst b;have e:(ag.setIfInBounds i Y).getD i O=Y:=by simp[show i<ag.size by omega]
    rw[XT e,d];simp at this⊢;omega
   ·rw[getD_set_ne O b];by_cases c:i<n
    ·rw[XT c] at this;rw[XT (show i<n+1 by omega)];omega
    ·rw[XQ c] at this;rw[XQ (show¬i<n+1 by omega)];omega
 have:=key n a;rw[XT hi] at this;omega
structure Uw(n:Nat)(ad:U->Prop)(a:Nat->Z->U->Prop)(fr:Nat->Bool)(ag:Array Bool)(J:Nat->Z)(w:U):Prop where
 d:ad w
 v:∀i,i<n->ag.getD i O=Y->a i (J i) w
 ne:∀i j,i<n->j<n->i≠j->fr i=Y->fr j=Y->ag.getD i O=Y->ag.getD j O=Y->J i≠J j
def O7(ops:Array Oper)(n:Nat):Bool:=(List.range n).all λi=>((ops[i]?).map λo=>o.after.all λe=>YG (e.on<i)).getD O
theorem mY{o:Oper}(h:O7 ops n=Y)(hi:i<n)(b:ops[i]?=L o):∀e∈o.after,e.on<i:=by
 have:=List.all_eq_true.1 h i (List.mem_range.2 hi);rw[b] at this;simp only[Option.map_some,Option.getD_some] at this;intro e a;have:=Array.all_eq_true_iff_forall_mem.1 this e a;exact a0r
theorem GU{tl:List Oper}(x:(Nat->Z)->Act)(ad:U->Prop)(q:Nat->Z->U->Prop)(fr:Nat->Bool)
  (B:Region.sinkB md ops n=Y)(A:Region.chainB md ops n=Y)(C:n<ops.size)
  (V:Region.seqB md ops (ops.size-n) n (Array.replicate n Y++Array.replicate (ops.size-n) O)=Y)(z:O7 ops n=Y)
  (K:ln tl=ops.size-n)(X:∀j,tl[j]?=ops[n+j]?)
  (N:∀w w',ad w->Ext w w'->ad w')(M:∀i v w w',q i v w->Ext w w'->q i v w')
  (F:∀i v w,i<n->fr i=Y->q i v w->∃b,v=YA (L ⟨b,0,I⟩)/\b<w.heap.size)
  (step:∀i o J w,i<n->ops[i]?=L o->ad w->(∀e∈o.after,Region.binds md e=Y->q e.on (J e.on) w)->
   wpOp P ops Q i (λa' w'=>∃v,a'=x (λj=>if j=i then v else J j)/\Ext w w'/\q i v w'/\(fr i=Y->∃b,v=YA (L ⟨b,0,I⟩)/\w.heap.size<=b)) (x J) w)
  (tail:∀J w,ad w->(∀i,i<n->q i (J i) w)->(∀i j,i<n->j<n->i≠j->fr i=Y->fr j=Y->J i≠J j)->wpList P ops Q tl (x J) w):
  ∀(f:Nat) (ag:Array Bool) (J:Nat->Z) (w:U),HeadInv md ops n ag->xo ag n=f->Uw n ad q fr ag J w->wpAny P md ops Q (f+(ops.size-n)) ag (x J) w:=by
 intro f
 induction f with
 |zero=>
  intro ag J w a hu g;have m:=oC hu;have c:ag=Array.replicate n Y++Array.replicate (ops.size-n) O:=by
   exact a05
  rw[Nat.zero_add,<-K];refine wpAny_of_seq tl n ag (x J) w X (by rw[K,c];exact V) ?_;exact a04
 |succ f R=>
  intro ag J w a hu g;obtain⟨d,s,t,E⟩:=uO hu;have u:d<ag.size:=ZC;rw[show f+1+(ops.size-n)=(f+(ops.size-n))+1 by omega];refine⟨λG=> ?_,λi hi=> ?_⟩
  ·exact a03
  ·have r:i<n:=by
    exact a02
   obtain⟨T,o,l,W⟩:=mem_ready.1 hi;have S:=getD_both T;refine wpOp_mono ?_ (step i o J w r l g.d (λe c y=>g.v _ (by have:=mY z r l e c;omega) (W e c y)));exact a01
def TP:Exit->Act->U->Prop:=λ_ _ _=>False
def Jj:¬LetsOut TP:=λ⟨_,_,h⟩=>h
theorem Oper.Pt{o:Oper}{a:Act}{c:Act->U->Prop}(h:o.wp P a w c TP):o.wp P a w c Q:=by
 unfold Oper.wp at *;generalize(execOp a.eval o).run P w=r at *;cases r with
 |ok x w'=>
  cases x with
  |value v=>exact h
  |skip=>exact h
  |defer d=>exact h
  |enter f args=>exact XY.mono h (λe g b=>by cases e<;>first|exact b|exact absurd b Jj|exact b.elim)
  |row row args=>exact h
  |_=>exact h.elim
 |halt x w'=>
  cases x with
  |panic v=>exact h.elim
  |_=>exact h.elim
structure kZ(P:Program)(d:Fence)(mm:Nat):Prop where
 op:∀(o:Oper) (a:Act) (w:U) (b:Act->U->Prop) (Q:Exit->Act->U->Prop),(∀c,o.op≠ .defer c)->o.wp P a w b Q->o.wpIn d mm P a w b Q
 fn:∀f,d.fn f
def bA(l mm:Nat):kZ P (Fence.wide.inRound l) mm:=⟨λ_ _ _ _ _ a h=>Oper.BX a h,λ_=>trivial⟩
def BP(mm:Nat):kZ P Fence.wide mm:=by
 refine⟨λo a w b Q c h=>⟨λ_ _=>trivial,?_⟩,λ_=>trivial⟩;show Oper.uponIn _ _ _ _ _ _ _ ((o.semAt I a.eval).run P w);unfold Oper.wp at h;have e:o.semAt I a.eval=execOp a.eval o:=rfl;rw[e];generalize(execOp a.eval o).run P w=r at *;cases r with
 |ok x w'=>
  cases x with
  |value v=>exact h
  |skip=>exact h
  |defer d=>exact h
  |enter f args=>exact⟨λh=>YM,callsIn_wide.2 h⟩
  |row row args=>exact⟨λh=>YM,tZ (n:=mm-1) h⟩
  |_=>exact h.elim
 |halt x w'=>
  cases x with
  |panic v=>exact h
  |_=>exact h.elim
theorem tD{j:Fence}(g:kZ P j mm)(k:jW ops=Y){e:Act->U->Prop}{a:Act}(h:wpOp P ops TP i e a w):wpOpIn j mm P ops Q i e a w:=by
 unfold wpOp at h;unfold wpOpIn;cases d:ops[i]? with
 |none=>rw[d] at h;exact h
 |some o=>
  rw[d] at h;simp only at h⊢;split
  ·rename_i b;rw[XT b] at h;rcases h with h|⟨_,h⟩
   ·exact g.op o a w e Q (λc=>nt k d c) (Oper.Pt h)
   ·exact absurd h Jj
  ·rename_i b;rw[XQ b] at h;exact⟨λf _=>g.fn f,h⟩
theorem lA{c:Fence}(m:kZ P c mm):∀(l:List Oper) (k:Nat) (ag:Array Bool) (a:Act) (w:U),(∀j,l[j]?=ops[k+j]?)->
  Region.seqB md ops (ln l) k ag=Y->wpListIn c mm P ops Q l a w->wpAnyIn c mm P md ops Q (ln l) ag a w
 |[],_,_,_,_,_,b,h=>⟨by simpa[Region.seqB] using b,h⟩
 |o::l,k,ag,a,w,d,b,h=>by
  have f:ops[k]?=L o:=by simpa using(d 0).symm
  simp only[List.length_cons,Region.seqB,Bool.and_eq_true,XX] at b;refine⟨λh1=>(by rw[b.1] at h1;cases h1),λi hi=> ?_⟩;rw[b.1] at hi;have n:i=k:=ZF;subst n;have e:wpOpIn c mm P ops Q i (wpListIn c mm P ops Q l) a w:=by unfold wpOpIn;simp only[f];exact h
  exact wpOpIn_mono (λa' w' g=>lA m l (i+1) _ a' w' (λj=>by have:=d (j+1);simpa[Nat.add_assoc,Nat.add_comm 1 j] using this) b.2 g) e
theorem AI{K:Fence}(T:kZ P K mm)(W:jW ops=Y){tl:List Oper}(x:(Nat->Z)->Act)(ad:U->Prop)(q:Nat->Z->U->Prop)(fr:Nat->Bool)
  (B:Region.sinkB md ops n=Y)(A:Region.chainB md ops n=Y)(C:n<ops.size)
  (aa:Region.seqB md ops (ops.size-n) n (Array.replicate n Y++Array.replicate (ops.size-n) O)=Y)(z:O7 ops n=Y)
  (V:ln tl=ops.size-n)(ac:∀j,tl[j]?=ops[n+j]?)
  (N:∀w w',ad w->Ext w w'->ad w')(M:∀i v w w',q i v w->Ext w w'->q i v w')
  (F:∀i v w,i<n->fr i=Y->q i v w->∃b,v=YA (L ⟨b,0,I⟩)/\b<w.heap.size)
  (step:∀i o J w,i<n->ops[i]?=L o->ad w->(∀e∈o.after,Region.binds md e=Y->q e.on (J e.on) w)->
   wpOp P ops TP i (λa' w'=>∃v,a'=x (λj=>if j=i then v else J j)/\Ext w w'/\q i v w'/\(fr i=Y->∃b,v=YA (L ⟨b,0,I⟩)/\w.heap.size<=b)) (x J) w)
  (tail:∀J w,ad w->(∀i,i<n->q i (J i) w)->(∀i j,i<n->j<n->i≠j->fr i=Y->fr j=Y->J i≠J j)->wpListIn K mm P ops Q tl (x J) w):
  ∀(f:Nat) (ag:Array Bool) (J:Nat->Z) (w:U),HeadInv md ops n ag->xo ag n=f->Uw n ad q fr ag J w->wpAnyIn K mm P md ops Q (f+(ops.size-n)) ag (x J) w:=by
 intro f
 induction f with
 |zero=>
  intro ag J w a hu g;have m:=oC hu;have c:ag=Array.replicate n Y++Array.replicate (ops.size-n) O:=by
   exact a05
  rw[Nat.zero_add,<-V];refine lA T tl n ag (x J) w ac (by rw[V,c];exact aa) ?_;exact a04
 |succ f R=>
  intro ag J w a hu g;obtain⟨d,s,t,E⟩:=uO hu;have u:d<ag.size:=ZC;rw[show f+1+(ops.size-n)=(f+(ops.size-n))+1 by omega];refine⟨λG=> ?_,λi hi=> ?_⟩
  ·exact a03
  ·have r:i<n:=by
    exact a02
   obtain⟨X,o,l,ab⟩:=mem_ready.1 hi;have S:=getD_both X;refine wpOpIn_mono ?_ (tD T W (step i o J w r l g.d (λe c y=>g.v _ (by have:=mY z r l e c;omega) (ab e c y))));exact a01
def rZ(m n:Nat):xo (Array.replicate m O) n=n:=by
 induction n with
 |zero=>rfl
 |succ n a=>rw[xo,a,getD_replicate_false];simp
def Jv(ops:Array Oper)(n:Nat):Bool:=
 YG (n<ops.size)&&Region.sinkB .any ops n&&Region.chainB .any ops n&&Region.seqB .any ops (ops.size-n) n (Array.replicate n Y++Array.replicate (ops.size-n) O)&&O7 ops n
def cH{l:List Oper}(n:Nat)(d:(Nat->Z)->Act)(ad:U->Prop)(c:Nat->Z->U->Prop)(fr:Nat->Bool)(f:Jv l.toArray n=Y)
  (D:∀w w',ad w->Ext w w'->ad w')(r:∀i v w w',c i v w->Ext w w'->c i v w')
  (y:∀i v w,i<n->fr i=Y->c i v w->∃b,v=YA (L ⟨b,0,I⟩)/\b<w.heap.size)
  (step:∀i J w,i<n->ad w->(∀j,Region.waitsFor .any l.toArray i j=Y->c j (J j) w)->
   wpOp P l.toArray Q i (λa' w'=>∃v,a'=d (λj=>if j=i then v else J j)/\Ext w w'/\c i v w'/\(fr i=Y->∃b,v=YA (L ⟨b,0,I⟩)/\w.heap.size<=b)) (d J) w)
  (tail:∀J w,ad w->(∀i,i<n->c i (J i) w)->(∀i j,i<n->j<n->i≠j->fr i=Y->fr j=Y->J i≠J j)->wpList P l.toArray Q (l.drop n) (d J) w)
  (J:Nat->Z)(w:U)(A:ad w):wpAny P .any l.toArray Q l.toArray.size (Array.replicate l.toArray.size O) (d J) w:=by
 simp only[Jv,Bool.and_eq_true,XX] at f;obtain⟨⟨⟨⟨x,F⟩,z⟩,H⟩,B⟩:=f;have:=GU (tl:=l.drop n) d ad c fr F z x H B YL (λj=>by simp[List.getElem?_drop]) D r y
  (λi o J w hi G u m=>step i J w hi u (λj s=>by
   obtain⟨E,g,e,k,q,rfl⟩:=Region.waitsFor_spec s;obtain rfl:=Option.some.inj (G.symm.trans g);exact m e k q)) tail n (Array.replicate l.toArray.size O) J w
  ⟨YL,λj E _ a=>Zd,λt _ C=>getD_in (by simpa using C) (getD_replicate_false _ _)⟩ (rZ _ _)
  ⟨A,λi _ a=>Zd,λi j _ _ _ _ _ a=>Zd⟩
 rwa[show n+(l.toArray.size-n)=l.toArray.size by omega] at this
theorem np{f:Fence}(s:kZ P f mm){l:List Oper}(u:jW l.toArray=Y)(n:Nat)(d:(Nat->Z)->Act)(ad:U->Prop)(c:Nat->Z->U->Prop)(fr:Nat->Bool)(g:Jv l.toArray n=Y)
  (G:∀w w',ad w->Ext w w'->ad w')(x:∀i v w w',c i v w->Ext w w'->c i v w')
  (B:∀i v w,i<n->fr i=Y->c i v w->∃b,v=YA (L ⟨b,0,I⟩)/\b<w.heap.size)
  (step:∀i J w,i<n->ad w->(∀j,Region.waitsFor .any l.toArray i j=Y->c j (J j) w)->
   wpOp P l.toArray TP i (λa' w'=>∃v,a'=d (λj=>if j=i then v else J j)/\Ext w w'/\c i v w'/\(fr i=Y->∃b,v=YA (L ⟨b,0,I⟩)/\w.heap.size<=b)) (d J) w)
  (tail:∀J w,ad w->(∀i,i<n->c i (J i) w)->(∀i j,i<n->j<n->i≠j->fr i=Y->fr j=Y->J i≠J j)->wpListIn f mm P l.toArray Q (l.drop n) (d J) w)
  (J:Nat->Z)(w:U)(D:ad w):wpAnyIn f mm P .any l.toArray Q l.toArray.size (Array.replicate l.toArray.size O) (d J) w:=by
 simp only[Jv,Bool.and_eq_true,XX] at g;obtain⟨⟨⟨⟨A,K⟩,C⟩,N⟩,E⟩:=g;have:=AI s u (tl:=l.drop n) d ad c fr K C A N E YL (λj=>by simp[List.getElem?_drop]) G x B
  (λi o J w hi M z q=>step i J w hi z (λj y=>by
   obtain⟨H,k,e,m,r,rfl⟩:=Region.waitsFor_spec y;obtain rfl:=Option.some.inj (M.symm.trans k);exact q e m r)) tail n (Array.replicate l.toArray.size O) J w
  ⟨YL,λj H _ a=>Zd,λt _ F=>getD_in (by simpa using F) (getD_replicate_false _ _)⟩ (rZ _ _)
  ⟨D,λi _ a=>Zd,λi j _ _ _ _ _ a=>Zd⟩
 rwa[show n+(l.toArray.size-n)=l.toArray.size by omega] at this
theorem p9{q:Fence}(g:kZ P q mm){R:Act->U->Prop}(m:jW ops=Y):∀(l:List Oper) (k:Nat) (a:Act) (w:U),(∀j,j<ln l->l[j]?=ops[k+j]?)->wpList P ops (nM R) l a w->wpListIn q mm P ops (Exit.then R (λ_ _ _=>False)) l a w
 |[],_,_,_,_,h=>h
 |o::l,k,a,w,i,h=>by
  have s:ops[k]?=L o:=by simpa using(i 0 YL).symm
  have n:=λa w=>p9 g m l (k+1) a w (R:=R) (λj t=>by have:=i (j+1) YP;simpa[Nat.add_assoc,Nat.add_comm 1 j] using this)
  unfold wpList at h;unfold wpListIn;split
  ·rename_i d;rw[XT d] at h;rcases h with h|⟨_,_,_,h⟩
   ·refine g.op o a w _ _ (λc=>nt m s c) ?_;refine Oper.Pt (Oper.wp_mono n ?_);unfold Oper.wp at *;generalize(execOp a.eval o).run P w=r at *;cases r with
    |ok x w'=>
     cases x with
     |enter f args=>exact XY.mono h (λe u b=>by cases e<;>first|exact b|(obtain⟨_,_,b⟩:=b;exact b.elim)|exact b.elim)
     |_=>exact h
    |halt x w'=>
     cases x with
     |panic v=>exact h.elim
     |_=>exact h.elim
   ·exact h.elim
  ·rename_i d;rw[XQ d] at h;exact⟨λf _=>g.fn f,n _ _ h⟩
theorem du{b:Fence}(d:kZ P b mm){c:Nat}{l:List Oper}{a:Act}(f:jW l.toArray=Y)(h:wpList P l.toArray (nM (Q .normal)) l a w):(Code.region c l.toArray O).wpIn b mm P Q a w:=
 wpIn_mono (wpIn_region_lit (p9 d f l 0 a w (λj _=>YL) h)) (λe a w q=>by cases e<;>first|exact q|exact q.elim)
theorem cD{b:Fence}(k:kZ P b mm){rest:List Oper}{o:Oper}{a:Act}(j:o.guard=I)(ty:Yj)(x:Operand)(e:o.op= .load ty x)
  (g:Nat)(hx:a.eval x=YA (L ⟨g,0,I⟩))(t:Yj)(cs:Array Z)(fr:Nat×Nat)(d:TypeDesc)(i:w.heap[g]?=L (.cells cs t fr))
  (hu:P.underlying ty=L d)(l:(match d with| .struct _| .array _ _=>Y|_=>O)=Y)(hi:(P.info? ty).map (·.size)=L cs.size)
  (h:wpListIn b mm P ops Q rest (a.put o.dst (YE cs)) w):wpListIn b mm P ops Q (o::rest) a w:=
 wpListIn_plain j λ_ f=>k.op _ _ _ _ _ (by rw[e];intro c h;cases h) (wp_load_row ty x e g hx t cs fr d i hu l hi (f _ _ h))
theorem lC{o:Oper}{a:Act}{b:Act->U->Prop}(d:ops[i]?=L o)(c:o.guard=I)(h:o.wp P a w b Q):wpOp P ops Q i b a w:=by
 unfold wpOp;simp only[d,Region.wanted,c,Yr];exact .inl h
def Ext.ah(w:U):Ext w w:=XI _ _
def Ext.tr{a b c:U}(h:Ext a b)(k:Ext b c):Ext a c:=h.trans (k.mono h.size)
def Ext.dr(w:U):Ext w w.drew:=(XI _ _).drew
end
section
open Kp
theorem aH{n s:Nat}{v:Z}(h:w.ownsRow base e s v n xs):∀k,v.ownBlock=L k->base<=k/\k<w.heap.size:=by
 obtain⟨_,⟨rfl,_⟩|⟨g,ac,cur,rfl,a,b,_⟩⟩:=h
 ·intro k hk;cases hk
 ·intro k hk;have:g=k:=by simpa[Value.ownBlock] using hk
  subst this;exact⟨a,(XV.1 b).1⟩
theorem bD{n s:Nat}{v:Z}(h:w.ownsRow base e s v n xs)(hx:Ext w w'):w'.ownsRow base e s v n xs:=by
 obtain⟨a,b|⟨g,ac,cur,rfl,d,c,h1⟩⟩:=h
 ·exact a06
 ·exact⟨a,.inr ⟨g,ac,cur,H,d,(hx.block g (XV.1 c).1).trans c,h1⟩⟩
theorem vZ{n s:Nat}{v:Z}(h:w.ownsRow base e s v n xs)(c:aI n0 w w'):w'.ownsRow base e s v n xs:=by
 obtain⟨a,b|⟨g,ac,cur,rfl,d,f,h1⟩⟩:=h
 ·exact a06
 ·exact⟨a,.inr ⟨g,ac,cur,H,d,c.cells _ _ _ _ f,h1⟩⟩
theorem dF{n s:Nat}{v:Z}(h:w.ownsRow base e s v n xs)(c:v.ownBlock≠L p.block)(x:Z):(w.setCell p x).ownsRow base e s v n xs:=by
 obtain⟨a,b|⟨g,ac,cur,rfl,d,f,h1⟩⟩:=h
 ·exact a06
 ·refine⟨a,.inr ⟨g,ac,cur,H,d,(Below.heap_setCell _ _ _ _ (λe=>c ?_)).trans f,h1⟩⟩;rw[e];rfl
def fQ{a w w':U}{row:Option Nat}(h:Ext a w)(b:w.grownBy w' row)(c:∀k,row=L k->a.heap.size<=k):Ext a w':=
 Yl.grown h b (Below.size h) c
def rX(v:Z):Prop:=∃ab n c,v=V ab n c
theorem rX.of{n s:Nat}{v:Z}(h:w.ownsRow base e s v n xs):rX v:=by
 exact a07
def cJ(f:Nat->Nat×Nat)(k:Nat):List Nat:=(List.range k).map λi=>(f (i+1)).1
def fO(f:Nat->Nat×Nat)(k:Nat):cJ f (k+1)=cJ f k++[(f (k+1)).1]:=by
 unfold cJ;rw[List.range_succ,List.map_append];rfl
def bL(f:Nat->Nat×Nat)(k:Nat):(cJ f k).length=k:=by unfold cJ;rw[XP,List.length_range]
abbrev uL(l:List Nat):List Z:=l.map λ(d:Nat)=>Value.int .i64 (d:Int)
def WS(w:U)(f:Nat->Nat×Nat)(n:Nat)(v c i:Z)(wr:U):Prop:=
 ∃k:Nat,k<=n/\i=G F (k:Int)/\c=G F ((f k).2:Int)/\wr.ownsRow w.heap.size 3 1 v k (uL (cJ f k))/\Ext w wr
theorem gY{v:Z}(h:w.ownsRow base 3 1 v n (uL l))(f:ln l=n):bT w w.heap.size v l:=by
 subst f;obtain⟨m,⟨rfl,d⟩|⟨g,ac,cur,rfl,o,a,h1,h2,k,i⟩⟩:=h
 ·exact a08
 ·refine⟨_,ac,H,h1,h2,λb=>⟨g,0,rfl,(XV.1 a).1,λj c=> ?_⟩⟩;have e:(uL l)[j]?=L (G F (C l j)):=by rw[List.getElem?_map,XO c,mS c];rfl
  rw[<-i,List.getElem?_take,XT D] at e;rw[Nat.zero_add];simpa[World.cell?,a] using e
end
section
variable {P : Program}
theorem iE{g:Operand}{G:Array Tmp}{assign body:Code}{Q:Exit->Act->U->Prop}{a:Act}
  (hg:a.eval g= .func (.func gf) #[] lb)(eg:∀args w,(callFunc gf args).run P w= .ok (.enter gf args) w)
  {X:Nat->Array Z->Prop}{ac:U->Prop}(ao:Cw P gf lb X ac N)(ap:∀k x,X k x->x.size=G.size)
  (r:Nat->U->Prop)(F:Code->Nat->U->Prop)(z:∀k W W',r k W->aI w.heap.size W W'->r k W')(A:∀c k W W',F c k W->aI w.heap.size W W'->F c k W')
  (hM:∀k W,r k W->ac W)(h0:r 0 w)
  (ar:∀(l k:Nat) (x:Array Z) (W:U) (ag:Act->U->Prop),k<N->X k x->r k W->
   (∀a' W1,Ext W W1->(∀q,aI w.heap.size W1 q->w.heap.size<q.heap.size->body.wpIn (Fence.wide.inRound l) (n-1-1) P (mw r F k q) a' q)->ag a' W1)->
   assign.wpIn (Fence.wide.inRound l) (n-1-1) P (Exit.then ag (λ_ _ _=>False)) {tmps:=(G.zip x).foldl (λt (p,v)=>t.setIfInBounds p v) a.tmps,defers:=[]} W)
  (Y:∀(ad:Nat) (W:U),w.heap.size<=ad->r N W->W.heap[ad]?=L (.deferred (L []))->Q .normal {a with defers:={target:= .collected ad,args:=#[]}::a.defers} W)
  (ae:∀(ad:Nat) (c:Code) (k:Nat) (W:U),w.heap.size<=ad->k<N->F c k W->W.heap[ad]?=L (.deferred (L []))->c.wpIn Fence.wide n P Q {a with defers:={target:= .collected ad,args:=#[]}::a.defers} W):
  (Code.rangeFunc g G assign body).wpIn Fence.wide n P Q a w:=by
 refine wpIn_rangeFunc ?_;intro fn an;obtain⟨R,f⟩:∃R:LoopState->Option Code->Loop,R=λst J=>{state:=st,pending:=J,fn,tmps:=a.tmps,params:=G,assign,body,defers:=w.heap.size}:=⟨_,H⟩
 obtain⟨W1,y⟩:=aa ((w.alloc (.deferred (L []))).alloc (.loop (R .ready I)));have hL:W1.heap[w.heap.size+1]?=L (.loop (R .ready I)):=by
  exact a0y
 have hD:W1.heap[w.heap.size]?=L (.deferred (L [])):=by
  rw[<-y];exact(Below.heap_alloc _ _ _ YL).trans (XZ w _)
 have am:Yl w.heap.size w W1:=by rw[<-y];exact((XI _ w).alloc (XE _) _).alloc YL _
 have ak:r 0 W1:=z 0 _ _ h0 (aI.aY am (XE _));refine⟨w.heap.size+1,[{target:= .collected w.heap.size,args:=#[]}],W1,{target:= .fn (.func gf) lb,args:=#[.func (.yield (w.heap.size+1)) #[] #[]]},W1,gf,
  #[.func (.yield (w.heap.size+1)) #[] #[]]++lb,W1,?_,?_,?_,?_,?_,?_⟩
 ·rw[<-y,f];exact run_enterLoop_outer _ _ _ _ _
 ·simp only[resolve,hg];simp[go_sem]
 ·intro _ _;trivial
 ·simp[invoke,go_sem,eg]
 ·intro h;cases h
 ·have M:∀{ab C:U} {st:LoopState} {J:Option Code},ab.heap[w.heap.size+1]?=L (.loop (R st J))->Yl ab.heap.size ab C->C.heap[w.heap.size+1]?=L (.loop (R st J)):=
   λh o=>(o.block _ (XV.1 h).1).trans h
  have V:∀{ab C:U},ab.heap[w.heap.size]?=L (.deferred (L []))->Yl ab.heap.size ab C->C.heap[w.heap.size]?=L (.deferred (L [])):=
   λh o=>(o.block _ (XV.1 h).1).trans h
  refine(ao (n-1) (w.heap.size+1)
   (λk W=>r k W/\W.heap[w.heap.size+1]?=L (.loop (R .ready I))/\W.heap[w.heap.size]?=L (.deferred (L [])))
   (λk W=>∃c,F c k W/\W.heap[w.heap.size+1]?=L (.loop (R .done (L c)))/\W.heap[w.heap.size]?=L (.deferred (L [])))
   W1 (λk W h=>hM k W h.1)
   (λk ab C h o=>⟨z k _ _ h.1 (aI.aY o (by have:=(XV.1 h.2.2).1;omega)),M h.2.1 o,V h.2.2 o⟩)
   (λk ab C h o=>by
    obtain⟨c,h1,h2,h3⟩:=h;exact⟨c,A c k _ _ h1 (aI.aY o (by have:=(XV.1 h3).1;omega)),M h2 o,V h3 o⟩)
   ?_ ⟨ak,hL,hD⟩).mono ?_
  ·rintro k x W hk hx ⟨hi,b,u⟩;have av:w.heap.size+1<W.heap.size:=(XV.1 b).1;have hy:=run_yield (P:=P) (args:=x) b (by rw[f];exact ap k x hx);rw[f] at hy;refine⟨fn,_,assign,body,hy,roundIn_of_wpIn an (ar _ k x W _ hk hx hi λa' V1 T al=>⟨_,run_beginRound (M b T) (by rw[f]),?_⟩)⟩;have af:=M b T;have au:=V u T;have aj:w.heap.size+1<V1.heap.size:=(XV.1 af).1;obtain⟨q,K⟩:=aa (V1.putObj (w.heap.size+1) (.loop {R .ready I with state:= .busy}));rw[K];have ah:q.heap[w.heap.size+1]?=L (.loop {R .ready I with state:= .busy}):=by rw[<-K];exact World.putObj_heap_same aj
   have ai:q.heap[w.heap.size]?=L (.deferred (L [])):=by rw[<-K];exact(World.putObj_heap_other D).trans au
   have aq:aI w.heap.size V1 q:=by rw[<-K];exact aI.putObj _ af H D
   refine wpIn_mono (al q aq (by have:=(XV.1 ah).1;omega)) ?_;have E:∀(B:Option Code) (d:U),KeepsOthers q d->∃m,(Instr.endRound (w.heap.size+1) B).run P d= .ok (Yz B.isNone) m/\aI w.heap.size d m/\
     m.heap[w.heap.size+1]?=L (.loop (R (if B.isNone then .ready else .done) B))/\m.heap[w.heap.size]?=L (.deferred (L [])):=λB d j=>by
    have S:=j.same _ _ ah H;have i:=run_endRound (P:=P) B S;refine⟨_,i,aI.putObj _ S H D,?_,(World.putObj_heap_other D).trans (j.same _ _ ai H)⟩;rw[World.putObj_heap_same (XV.1 S).1,f]
   rintro e a3 d s;cases e with
   |normal=>
    exact a0x
   |ret=>
    exact a0w
   |exit O=>
    exact a0v
   |goto t=>
    exact a0u
   |panic ch=>exact s.elim
   |outgrown=>exact s.elim
  ·rintro e q ⟨⟨v,rfl⟩,(⟨hi,b,u⟩|⟨k,hk,c,hi,b,u⟩)⟩
   ·exact a0t
   ·exact a0s
end
section
variable {P : Program} {ops : Array Oper} {Q : Exit → Act → U → Prop} {md : Region.Mode}
abbrev kn(ae:Nat->Bool)(i:Nat):Nat->Bool:=λj=>if j=i then Y else ae j
abbrev bN(J:Nat->Z)(i:Nat)(v:Z):Nat->Z:=λj=>if j=i then v else J j
theorem zb(h:i<ag.size):(λj=>(ag.setIfInBounds i Y).getD j O)=kn (λj=>ag.getD j O) i:=by
 funext j
 unfold kn;by_cases a:j=i
 ·subst a;simp[h]
 ·rw[XQ a,getD_set_ne O (Ne.symm a)]
theorem sG{x:Fence}(y:kZ P x mm)(K:jW ops=Y){tl:List Oper}(b:(Nat->Z)->Act)(k:(Nat->Bool)->(Nat->Z)->U->Prop)
  (B:Region.sinkB md ops n=Y)(A:Region.chainB md ops n=Y)(C:n<ops.size)
  (N:Region.seqB md ops (ops.size-n) n (Array.replicate n Y++Array.replicate (ops.size-n) O)=Y)(z:O7 ops n=Y)
  (I:ln tl=ops.size-n)(S:∀j,tl[j]?=ops[n+j]?)
  (step:∀i o ae J w,i<n->ops[i]?=L o->ae i=O->k ae J w->(∀e∈o.after,Region.binds md e=Y->ae e.on=Y)->
   wpOp P ops TP i (λa' w'=>∃v,a'=b (bN J i v)/\k (kn ae i) (bN J i v) w') (b J) w)
  (tail:∀ae J w,(∀i,i<n->ae i=Y)->k ae J w->wpListIn x mm P ops Q tl (b J) w):
  ∀(f:Nat) (ag:Array Bool) (J:Nat->Z) (w:U),HeadInv md ops n ag->xo ag n=f->k (λj=>ag.getD j O) J w->wpAnyIn x mm P md ops Q (f+(ops.size-n)) ag (b J) w:=by
 intro f
 induction f with
 |zero=>
  intro ag J w a hu r;have m:=oC hu;have c:ag=Array.replicate n Y++Array.replicate (ops.size-n) O:=by
   exact a05
  rw[Nat.zero_add,<-I];refine lA y tl n ag (b J) w S (by rw[I,c];exact N) ?_;exact tail _ J w m r
 |succ f F=>
  intro ag J w a hu r;obtain⟨d,s,t,E⟩:=uO hu;have u:d<ag.size:=ZC;rw[show f+1+(ops.size-n)=(f+(ops.size-n))+1 by omega];refine⟨λG=> ?_,λi hi=> ?_⟩
  ·exact a03
  ·have g:i<n:=by
    exact a02
   obtain⟨M,o,l,R⟩:=mem_ready.1 hi;have q:=getD_both M;refine wpOpIn_mono ?_ (tD y K (step i o _ J w g l q r (λe c T=>R e c T)));exact a1z
theorem zV{d:Fence}(r:kZ P d mm){l:List Oper}(s:jW l.toArray=Y)(n:Nat)(c:(Nat->Z)->Act)(b:(Nat->Bool)->(Nat->Z)->U->Prop)(f:Jv l.toArray n=Y)
  (step:∀i ae J w,i<n->ae i=O->b ae J w->(∀j,Region.waitsFor .any l.toArray i j=Y->ae j=Y)->
   wpOp P l.toArray TP i (λa' w'=>∃v,a'=c (bN J i v)/\b (kn ae i) (bN J i v) w') (c J) w)
  (tail:∀ae J w,(∀i,i<n->ae i=Y)->b ae J w->wpListIn d mm P l.toArray Q (l.drop n) (c J) w)
  (J:Nat->Z)(w:U)(A:b (λ_=>O) J w):wpAnyIn d mm P .any l.toArray Q l.toArray.size (Array.replicate l.toArray.size O) (c J) w:=by
 simp only[Jv,Bool.and_eq_true,XX] at f;obtain⟨⟨⟨⟨y,E⟩,z⟩,H⟩,B⟩:=f;have:=sG r s (tl:=l.drop n) c b E z y H B YL (λj=>by simp[List.getElem?_drop])
  (λi o ae J w hi G F x m=>step i ae J w hi F x (λj u=>by
   obtain⟨D,g,e,k,q,rfl⟩:=Region.waitsFor_spec u;obtain rfl:=Option.some.inj (G.symm.trans g);exact m e k q)) tail n (Array.replicate l.toArray.size O) J w
  ⟨YL,λj D _ a=>Zd,λt _ C=>getD_in (by simpa using C) (getD_replicate_false _ _)⟩ (rZ _ _)
  (by simpa only[getD_replicate_false] using A)
 rwa[show n+(l.toArray.size-n)=l.toArray.size by omega] at this
end
section
variable {P : Program}
abbrev PD(ad:Nat):Deferred:={target:= .collected ad,args:=#[]}
def Mk(n0:Nat)(ds:List Deferred)(W:U):Prop:=∃a:List Nat,a.Nodup/\ds=a.map PD/\∀ad∈a,n0<=ad/\W.heap[ad]?=L (.deferred (L []))
def Mk.nil(n0:Nat)(W:U):Mk n0 [] W:=⟨[],List.nodup_nil,rfl,λ_ h=>YM⟩
theorem Mk.keeps{ds:List Deferred}(h:Mk n0 ds W)(hk:KeepsOthers W W'):Mk n0 ds W':=by
 obtain⟨c,h1,h2,a⟩:=h;exact⟨c,h1,h2,λad b=>⟨(a ad b).1,hk.same ad _ (a ad b).2 H⟩⟩
theorem Mk.stays{ds:List Deferred}(h:Mk n0 ds W)(c:∀ad,PD ad∈ds->ad<w.heap.size)(e:aI w.heap.size W W'):Mk n0 ds W':=by
 obtain⟨d,h1,h2,b⟩:=h;subst h2;exact⟨d,h1,H,λad a=>⟨(b ad a).1,(e.low ad (c ad (List.mem_map.2 ⟨ad,a,H⟩))).trans (b ad a).2⟩⟩
theorem Mk.lt{ds:List Deferred}(h:Mk n0 ds W)(f:PD ad∈ds):ad<W.heap.size:=by
 obtain⟨g,h1,rfl,b⟩:=h;obtain⟨a,d,e⟩:=List.mem_map.1 f;obtain rfl:a=ad:=by injection e with c;injection c
 exact(XV.1 (b a d).2).1
theorem Mk.cons{ds:List Deferred}(h:Mk n0 ds W)(b:∀ad,PD ad∈ds->ad<w.heap.size)(i:w.heap.size<=ad)(g:n0<=ad)(f:W.heap[ad]?=L (.deferred (L []))):Mk n0 (PD ad::ds) W:=by
 obtain⟨d,h1,rfl,c⟩:=h;refine⟨ad::d,List.nodup_cons.2 ⟨λe=> ?_,h1⟩,H,λE a=> ?_⟩
 ·have:=b ad (List.mem_map.2 ⟨ad,e,H⟩);omega
 ·rcases List.mem_cons.1 a with rfl|a
  ·exact⟨g,f⟩
  ·exact c E a
def aI.refl(n0:Nat)(W:U):aI n0 W W:=⟨rfl,rfl,rfl,XE _,λ_ _=>rfl,λ_ _ _ _ h=>h⟩
theorem Mk.leaves{g:Fence}{fn:Func}{R:Ending->U->Prop}{ds:List Deferred}(h:Mk n0 ds W)
  (d:∀W',aI n0 W W'->LeavesIn g n P fn tmps R [] .returning W'):LeavesInM g n P fn tmps R ds .returning W:=by
 obtain⟨f,h1,rfl,a⟩:=h
 induction f generalizing W with
 |nil=>exact d W (aI.refl _ _)
 |cons ad f j=>
  have b:=a ad YL;have k:=aI.putObj (n0:=n0) (.deferred I) b.2 H b.1;refine⟨YL,.inl ⟨ad,_,rfl,run_takeDeferred b.2,j (λW' i=>d W' (k.trans i)) (List.nodup_cons.1 h1).2 (λE c=> ?_)⟩⟩;refine⟨(a E (List.mem_cons_of_mem _ c)).1,(World.putObj_heap_other λe=> ?_).trans (a E (List.mem_cons_of_mem _ c)).2⟩;subst e;exact(List.nodup_cons.1 h1).1 c
end
section
variable {P : Program} {ops : Array Oper} {Q : Exit → Act → U → Prop} {md : Region.Mode}
def T8(md:Region.Mode)(ops:Array Oper)(n:Nat):Bool:=(List.range n).all λi=>((ops[i]?).map λo=>o.after.all λe=>YG (e.on<i)|| !Region.binds md e).getD O
theorem Ks{o:Oper}(h:T8 md ops n=Y)(hi:i<n)(c:ops[i]?=L o):∀e∈o.after,Region.binds md e=Y->e.on<i:=by
 have:=List.all_eq_true.1 h i (List.mem_range.2 hi);rw[c] at this;simp only[Option.map_some,Option.getD_some] at this;intro e a b;have:=Array.all_eq_true_iff_forall_mem.1 this e a;rw[b] at this;exact a0r
def TA(ops:Array Oper)(n:Nat):Bool:=
 YG (n<ops.size)&&Region.sinkB .any ops n&&Region.chainB .any ops n&&Region.seqB .any ops (ops.size-n) n (Array.replicate n Y++Array.replicate (ops.size-n) O)&&T8 .any ops n
theorem vy{tl:List Oper}(c:(Nat->Z)->Act)(k:(Nat->Bool)->(Nat->Z)->U->Prop)
  (B:Region.sinkB md ops n=Y)(A:Region.chainB md ops n=Y)(C:n<ops.size)
  (N:Region.seqB md ops (ops.size-n) n (Array.replicate n Y++Array.replicate (ops.size-n) O)=Y)(M:T8 md ops n=Y)
  (y:ln tl=ops.size-n)(E:∀j,tl[j]?=ops[n+j]?)
  (step:∀i o ae J w,i<n->ops[i]?=L o->ae i=O->k ae J w->(∀e∈o.after,Region.binds md e=Y->ae e.on=Y)->
   wpOp P ops Q i (λa' w'=>∃v,a'=c (bN J i v)/\k (kn ae i) (bN J i v) w') (c J) w)
  (tail:∀ae J w,(∀i,i<n->ae i=Y)->k ae J w->wpList P ops Q tl (c J) w):
  ∀(f:Nat) (ag:Array Bool) (J:Nat->Z) (w:U),HeadInv md ops n ag->xo ag n=f->k (λj=>ag.getD j O) J w->wpAny P md ops Q (f+(ops.size-n)) ag (c J) w:=by
 intro f
 induction f with
 |zero=>
  intro ag J w a hu x;have m:=oC hu;have b:ag=Array.replicate n Y++Array.replicate (ops.size-n) O:=by
   exact a05
  rw[Nat.zero_add,<-y];refine wpAny_of_seq tl n ag (c J) w E (by rw[y,b];exact N) ?_;exact tail _ J w m x
 |succ f F=>
  intro ag J w a hu x;obtain⟨d,s,t,G⟩:=uO hu;have u:d<ag.size:=ZC;rw[show f+1+(ops.size-n)=(f+(ops.size-n))+1 by omega];refine⟨λI=> ?_,λi hi=> ?_⟩
  ·have l:ops[d]?=L (ops[d]'D):=Array.getElem?_eq_getElem D;have:d∈Region.ready md ops ag:=mem_ready.2 ⟨getD_in u t,_,l,λe b r=>G _ (Ks M s l e b r)⟩;rw[I] at this;cases this
  ·have g:i<n:=by
    exact a02
   obtain⟨K,o,l,z⟩:=mem_ready.1 hi;have q:=getD_both K;refine wpOp_mono ?_ (step i o _ J w g l q x (λe b r=>z e b r));exact a1z
def cP{l:List Oper}(n:Nat)(c:(Nat->Z)->Act)(b:(Nat->Bool)->(Nat->Z)->U->Prop)(d:TA l.toArray n=Y)
  (step:∀i ae J w,i<n->ae i=O->b ae J w->(∀j,Region.waitsFor .any l.toArray i j=Y->ae j=Y)->
   wpOp P l.toArray Q i (λa' w'=>∃v,a'=c (bN J i v)/\b (kn ae i) (bN J i v) w') (c J) w)
  (tail:∀ae J w,(∀i,i<n->ae i=Y)->b ae J w->wpList P l.toArray Q (l.drop n) (c J) w)
  (J:Nat->Z)(w:U)(x:b (λ_=>O) J w):wpAny P .any l.toArray Q l.toArray.size (Array.replicate l.toArray.size O) (c J) w:=by
 simp only[TA,Bool.and_eq_true,XX] at d;obtain⟨⟨⟨⟨s,B⟩,u⟩,E⟩,y⟩:=d;have:=vy (tl:=l.drop n) c b B u s E y YL (λj=>by simp[List.getElem?_drop])
  (λi o ae J w hi D C r k=>step i ae J w hi C r (λj q=>by
   obtain⟨A,f,e,g,m,rfl⟩:=Region.waitsFor_spec q;obtain rfl:=Option.some.inj (D.symm.trans f);exact k e g m)) tail n (Array.replicate l.toArray.size O) J w
  ⟨YL,λj A _ a=>Zd,λt _ z=>getD_in (by simpa using z) (getD_replicate_false _ _)⟩ (rZ _ _)
  (by simpa only[getD_replicate_false] using x)
 rwa[show n+(l.toArray.size-n)=l.toArray.size by omega] at this
end
section
theorem ji{ae:Nat->Bool}{J val:Nat->Z}{v:Z}(h:∀k,ae k=Y->J k=val k)(a:v=val i):∀k,kn ae i k=Y->bN J i v k=val k:=by
 intro k hk;unfold bN;by_cases e:k=i
 ·rw[XT e,a,e]
 ·rw[XQ e];refine h k ?_;simpa[kn,e] using hk
theorem aj{ae:Nat->Bool}(h:k≠i):kn ae i k=ae k:=by unfold kn;rw[XQ h]
theorem fM{ae:Nat->Bool}:kn ae i i=Y:=by unfold kn;rw[XT rfl]
theorem bF{J:Nat->Z}{v:Z}(h:k≠i):bN J i v k=J k:=by unfold bN;rw[XQ h]
theorem dI{J:Nat->Z}{v:Z}:bN J i v i=v:=by unfold bN;rw[XT rfl]
structure eJ(W0:U)(val:Nat->Z)(own:Z->U->Prop)(e:Z)(p:Ym)(ic:Nat)(lo:List Nat)(ae:Nat->Bool)(J:Nat->Z)(W:U):Prop where
 vals:∀k,ae k=Y->k<ic\/ic+3<=k->J k=val k
 early:ae ic=Y->∀k∈lo,ae k=Y
 mv:ae (ic+1)=Y->ae ic=Y
 ex:ae (ic+2)=Y->ae (ic+1)=Y
 st:ae (ic+6)=Y->ae (ic+2)=Y
 mem:∃v W1,Ext W0 W1/\(ae ic=Y->own v W1/\J ic=YF #[v,e])/\(ae (ic+1)=Y->J (ic+1)=YF #[v,e])/\(ae (ic+2)=Y->J (ic+2)=v)/\W=if ae (ic+6)=Y then W1.setCell p v else W1
variable {W0 W : U} {val : Nat → Z} {own : Z → U → Prop} {e : Z} {p : Ym} {ic : Nat} {lo : List Nat} {ae : Nat → Bool} {J : Nat → Z}
def eJ.start(h:Ext W0 W):eJ W0 val own e p ic lo (λ_=>O) (λ_=>M) W:=
 ⟨λ_ h=>YM,λh=>YM,λh=>YM,λh=>YM,λh=>YM,M,W,h,λh=>YM,λh=>YM,λh=>YM,YL⟩
theorem eJ.pure(h:eJ W0 val own e p ic lo ae J W)(hi:i<ic\/i=ic+3\/i=ic+4\/i=ic+5){v:Z}(o:v=val i):eJ W0 val own e p ic lo (kn ae i) (bN J i v) W:=by
 have n0:ic≠i:=D;have j:ic+1≠i:=D;have l:ic+2≠i:=D;have m:ic+6≠i:=D;obtain⟨a,b,c,d,f,v1,W1,u,s,n,r,t⟩:=h;refine⟨λk hk g=> ?_,?_,?_,?_,?_,v1,W1,u,?_⟩
 ·by_cases q:k=i
  ·subst q;rw[dI];exact o
  ·exact a2g
 ·rw[aj n0];intro h k hk;by_cases q:k=i
  ·subst q;exact fM
  ·rw[aj q];exact b h k hk
 ·rw[aj j,aj n0];exact c
 ·rw[aj l,aj j];exact d
 ·rw[aj m,aj l];exact f
 ·rw[aj n0,aj j,aj l,aj m,bF n0,bF j,bF l];exact⟨s,n,r,t⟩
def eJ.ext(h:eJ W0 val own e p ic lo ae J W)(g:ae ic=O):Ext W0 W:=by
 obtain⟨a,b,c,d,f,v1,W1,j,m,k,l,i⟩:=h;have:¬ae (ic+6)=Y:=λh=>by rw[c (d (f h))] at g;cases g
 rw[XQ this] at i;rw[i];exact j
theorem eJ.load(h:eJ W0 val own e p ic lo ae J W)(hk:k∈lo)(a:ae k=O):Ext W0 W:=by
 refine h.ext ?_;cases q:ae ic with
 |false=>rfl
 |true=>rw[h.early q k hk] at a;cases a
theorem eJ.call(h:eJ W0 val own e p ic lo ae J W)(j:ae ic=O)(s:∀k∈lo,ae k=Y){v:Z}(hx:Ext W W')(t:own v W'):eJ W0 val own e p ic lo (kn ae ic) (bN J ic (YF #[v,e])) W':=by
 have r:=h.ext j;obtain⟨a,b,c,d,f,v1,W1,x,u,y,z,w⟩:=h;have f1:ae (ic+1)=O:=by cases q:ae (ic+1) with|false=>rfl|true=>rw[c q] at j;cases j
 have i:ae (ic+2)=O:=by cases q:ae (ic+2) with|false=>rfl|true=>rw[d q] at f1;cases f1
 have o:ae (ic+6)=O:=by cases q:ae (ic+6) with|false=>rfl|true=>rw[f q] at i;cases i
 have m:ic+1≠ic:=D;have n:ic+2≠ic:=D;have l:ic+6≠ic:=D;refine⟨λk hk g=> ?_,?_,?_,?_,?_,v,W',r.tr hx,?_⟩
 ·have q:k≠ic:=D;exact a2g
 ·intro _ k hk;by_cases q:k=ic
  ·subst q;exact fM
  ·rw[aj q];exact s k hk
 ·intro _;exact fM
 ·rw[aj n,aj m,i];intro h;cases h
 ·rw[aj l,o];intro h;cases h
 ·rw[aj m,aj n,aj l,f1,i,o,dI];exact⟨λ_=>⟨t,rfl⟩,λh=>YM,λh=>YM,H⟩
def eJ.move(h:eJ W0 val own e p ic lo ae J W)(n:ae (ic+1)=O)(m:ae ic=Y):eJ W0 val own e p ic lo (kn ae (ic+1)) (bN J (ic+1) (J ic)) W:=by
 obtain⟨a,b,c,d,f,v1,W1,r,j,u,v,o⟩:=h;have i:ae (ic+2)=O:=by cases q:ae (ic+2) with|false=>rfl|true=>rw[d q] at n;cases n
 have t:ae (ic+6)=O:=by cases q:ae (ic+6) with|false=>rfl|true=>rw[f q] at i;cases i
 have n0:ic≠ic+1:=D;have s:ic+2≠ic+1:=D;have l:ic+6≠ic+1:=D;refine⟨λk hk g=> ?_,?_,?_,?_,?_,v1,W1,r,?_⟩
 ·have q:k≠ic+1:=D;exact a2g
 ·rw[aj n0];intro h k hk;by_cases q:k=ic+1
  ·subst q;exact fM
  ·rw[aj q];exact b h k hk
 ·intro _;rw[aj n0];exact m
 ·intro _;exact fM
 ·rw[aj l,t];intro h;cases h
 ·rw[aj n0,aj s,aj l,i,dI,bF n0];exact⟨j,λ_=>(j m).2,λh=>YM,o⟩
def eJ.first(h:eJ W0 val own e p ic lo ae J W)(m:ae (ic+2)=O)(j:ae (ic+1)=Y):∃v,J (ic+1)=YF #[v,e]/\eJ W0 val own e p ic lo (kn ae (ic+2)) (bN J (ic+2) v) W:=by
 obtain⟨a,b,c,d,f,v1,W1,s,n,l,t,r⟩:=h;have u:ae (ic+6)=O:=by cases q:ae (ic+6) with|false=>rfl|true=>rw[f q] at m;cases m
 have n0:ic≠ic+2:=D;have i:ic+1≠ic+2:=D;have o:ic+6≠ic+2:=D;refine⟨v1,l j,λk hk g=> ?_,?_,?_,?_,?_,v1,W1,s,?_⟩
 ·by_cases q:k=ic+2
  ·omega
  ·exact a2g
 ·rw[aj n0];intro h k hk;by_cases q:k=ic+2
  ·subst q;exact fM
  ·rw[aj q];exact b h k hk
 ·rw[aj i,aj n0];exact c
 ·intro _;rw[aj i];exact j
 ·intro _;exact fM
 ·rw[aj n0,aj i,aj o,bF n0,bF i,dI];exact⟨n,l,λ_=>rfl,r⟩
def eJ.Wx(h:eJ W0 val own e p ic lo ae J W)(g:ae (ic+1)=Y):∃v,J (ic+1)=YF #[v,e]:=by
 obtain⟨a,b,c,d,f,v1,W1,l,k,i,j,m⟩:=h;exact⟨v1,i g⟩
def eJ.store(h:eJ W0 val own e p ic lo ae J W)(u:ae (ic+6)=O)(i:ae (ic+2)=Y)(t:val (ic+6)=M):Ext W0 W/\own (J (ic+2)) W/\eJ W0 val own e p ic lo (kn ae (ic+6)) (bN J (ic+6) M) (W.setCell p (J (ic+2))):=by
 obtain⟨a,b,c,d,f,v1,W1,o,n,s,m,r⟩:=h;have n0:ic≠ic+6:=D;have j:ic+1≠ic+6:=D;have l:ic+2≠ic+6:=D;rw[XQ (by rw[u];decide)] at r;subst r;refine⟨o,by rw[m i];exact(n (c (d i))).1,λk hk g=> ?_,?_,?_,?_,?_,v1,W,o,?_⟩
 ·by_cases q:k=ic+6
  ·subst q;rw[dI];exact t.symm
  ·exact a2g
 ·rw[aj n0];intro h k hk;by_cases q:k=ic+6
  ·subst q;exact fM
  ·rw[aj q];exact b h k hk
 ·rw[aj j,aj n0];exact c
 ·rw[aj l,aj j];exact d
 ·intro _;rw[aj l];exact i
 ·rw[aj n0,aj j,aj l,fM,bF n0,bF j,bF l];exact⟨n,s,m,by rw[XT rfl,m i]⟩
def eJ.done(h:eJ W0 val own e p ic lo ae J W)(g:∀i,i<ic+7->ae i=Y):J (ic+3)=val (ic+3)/\∃v W1,Ext W0 W1/\own v W1/\W=W1.setCell p v:=by
 obtain⟨a,b,c,d,f,v1,W1,l,k,m,n,j⟩:=h;rw[XT (g _ D)] at j;exact⟨a _ (g _ D) D,v1,W1,l,(k (g _ D)).1,j⟩
end
def fC{P:Program}{Q:Exit->Act->U->Prop}{l:List Oper}(n:Nat)(m:(Nat->Z)->Act)(ad:U->Prop)(c:Nat->Z->U->Prop)(fr:Nat->Bool)(G:TA l.toArray n=Y)
  (T:∀w w',ad w->Ext w w'->ad w')(N:∀i v w w',c i v w->Ext w w'->c i v w')
  (A:∀i v w,i<n->fr i=Y->c i v w->∃b,v=YA (L ⟨b,0,I⟩)/\b<w.heap.size)
  (step:∀i J w,i<n->ad w->(∀j,j<n->Region.waitsFor .any l.toArray i j=Y->c j (J j) w)->
   wpOp P l.toArray Q i (λa' w'=>∃v,a'=m (λj=>if j=i then v else J j)/\Ext w w'/\c i v w'/\(fr i=Y->∃b,v=YA (L ⟨b,0,I⟩)/\w.heap.size<=b)) (m J) w)
  (tail:∀J w,ad w->(∀i,i<n->c i (J i) w)->(∀i j,i<n->j<n->i≠j->fr i=Y->fr j=Y->J i≠J j)->wpList P l.toArray Q (l.drop n) (m J) w)
  (J:Nat->Z)(w:U)(S:ad w):wpAny P .any l.toArray Q l.toArray.size (Array.replicate l.toArray.size O) (m J) w:=by
 refine cP n m (λae J w=>ad w/\(∀i,i<n->ae i=Y->c i (J i) w)/\(∀i j,i<n->j<n->i≠j->fr i=Y->fr j=Y->ae i=Y->ae j=Y->J i≠J j)) G ?_ ?_ J w ⟨S,λi _ h=>YM,λi j _ _ _ _ _ h=>YM⟩
 ·intro i ae J w hi r t R;obtain⟨d,f,s⟩:=t;refine wpOp_mono ?_ (step i J w hi d (λj a F=>f j a (R j F)));rintro a' w' ⟨v,rfl,hx,K,E⟩;refine⟨v,H,T _ _ d hx,λj a y=> ?_,λj k a hk C g u q o=> ?_⟩
  ·by_cases e:j=i
   ·subst e;rw[dI];exact K
   ·rw[bF e];rw[aj e] at y;exact N _ _ _ _ (f j a y) hx
  ·by_cases e:j=i
   ·subst e;have B:k≠j:=Ne.symm C;rw[dI,bF B];rw[aj B] at o;obtain⟨b,z,M⟩:=E g;obtain⟨b',D,V⟩:=A k _ _ hk u (f k hk o);exact a2q
   ·by_cases x:k=i
    ·subst x;rw[dI,bF e];rw[aj e] at q;obtain⟨b,z,M⟩:=E u;obtain⟨b',D,V⟩:=A j _ _ a g (f j a q);exact a2q
    ·rw[bF e,bF x];rw[aj e] at q;rw[aj x] at o;exact s j k a hk C g u q o
 ·intro ae J w r t;obtain⟨d,f,s⟩:=t;exact tail J w d (λi hi=>f i hi (r i hi)) (λi j hi a X W g=>s i j hi a X W g (r i hi) (r j a))
end Go.Proofs.YtnepbjnlmkppmaaGreatDoor
namespace Kp
abbrev B6:Nat:=1000000
def S6(f:Nat->Nat):Nat->Nat
 |0=>0
 |n+1=>S6 f n+f n*B6^n
def aw(l:List Nat):Nat:=S6 (C l) (ln l)
def lF(l:List Nat):Prop:=∀d,d∈l->d<B6
structure bB(l:List Nat):Prop where
 small:lF l
 trim:qn l
def eT(a b:List Nat):Nat->Nat×Nat
 |0=>(0,0)
 |k+1=>((C a k+C b k+(eT a b k).2)%1000000,(C a k+C b k+(eT a b k).2)/1000000)
def dJ(a b:List Nat):Nat->Nat×Nat
 |0=>(0,0)
 |k+1=>(if C b k+(dJ a b k).2<=C a k then C a k-(C b k+(dJ a b k).2) else C a k+1000000-(C b k+(dJ a b k).2),if C b k+(dJ a b k).2<=C a k then 0 else 1)
def dx(f:Nat->Nat)(n:Nat):S6 f (n+1)=S6 f n+f n*B6^n:=rfl
def Ms(n:Nat):0<B6^n:=Nat.pow_pos YK
theorem kl{f g:Nat->Nat}(h:∀k,k<n->f k=g k):S6 f n=S6 g n:=by
 induction n with
 |zero=>rfl
 |succ n a=>rw[dx,dx,a (λk hk=>h k D),h n D]
theorem IM{f:Nat->Nat}(h:∀k,k<n->f k<B6):S6 f n<B6^n:=by
 induction n with
 |zero=>simp[S6]
 |succ n b=>
  rw[dx,Nat.pow_succ];have h1:=b (λk hk=>h k D);have h2:f n+1<=B6:=h n D;have a:(f n+1)*B6^n<=B6*B6^n:=Nat.mul_le_mul_right _ h2;rw[Nat.add_mul,Nat.one_mul,Yd B6] at a;omega
theorem xg{f:Nat->Nat}(h:∀k,k<n->f k=0):S6 f n=0:=by
 induction n with
 |zero=>rfl
 |succ n a=>rw[dx,a (λk hk=>h k D),h n D];simp
def AA(f:Nat->Nat)(m n:Nat):S6 f (m+n)=S6 f m+B6^m*S6 (λk=>f (m+k)) n:=by
 induction n with
 |zero=>simp[S6]
 |succ n a=>
  rw[<-Nat.add_assoc,dx,a,dx,Nat.mul_add,Nat.pow_add];have:f (m+n)*(B6^m*B6^n)=B6^m*(f (m+n)*B6^n):=by
   rw[Nat.mul_left_comm]
  omega
theorem TQ{f:Nat->Nat}(h:m<=n)(a:∀k,m<=k->k<n->f k=0):S6 f n=S6 f m:=by
 obtain⟨d,rfl⟩:∃d,n=m+d:=⟨n-m,D⟩;rw[AA,xg (f:=λk=>f (m+k)) (λk hk=>a _ D D)];simp
theorem aK(h:lF l)(k:Nat):C l k<B6:=by
 exact a0e
theorem gT(h:ln l<=n):S6 (C l) n=aw l:=TQ h (λ_ hk _=>nk hk)
theorem uH(h:lF l):aw l<B6^ln l:=IM (λk _=>aK h k)
def pC(l:List Nat)(d:Nat):aw (l++[d])=aw l+d*B6^ln l:=by
 unfold aw;rw[Yc];show S6 _ (ln l+1)=_;rw[dx,kl (g:=C l)]
 ·unfold C;simp
 ·intro k hk;unfold C;simp[List.getElem?_append_left hk]
def wK(l:List Nat):aw (l++[0])=aw l:=by rw[pC];simp
theorem lF.Bm(h:lF (l++[d])):lF l:=λx hx=>h x (by simp[hx])
theorem uK(h:qn l)(a:l≠[]):B6^(ln l-1)<=aw l:=by
 rcases nh l with rfl|⟨m,d,rfl⟩
 ·exact absurd H a
 ·rw[pC];have b:=h.last;have:1*B6^ln m<=d*B6^ln m:=Nat.mul_le_mul_right _ D;simp only[Yc,List.length_singleton,Nat.add_sub_cancel];omega
theorem oS(h:qn l)(a:l≠[]):0<aw l:=Nat.lt_of_lt_of_le (Ms _) (uK h a)
def jl{a b:List Nat}(c:lF a)(d:qn b)(h:ln a<ln b):aw a<aw b:=by
 have h1:=uH c;have h2:=uK d (by rintro rfl;simp at h);have e:B6^ln a<=B6^(ln b-1):=Nat.pow_le_pow_right YK D;omega
def ia(l:List Nat):aw (aD l)=aw l:=by
 refine ik (p:=λl=>aw (aD l)=aw l) H (λl d b=> ?_) l;by_cases a:d=0
 ·subst a;rw[fo,wK,b]
 ·rw[jR a]
theorem gm(h:lF l):bB (aD l):=by
 revert h;refine ik (p:=λl=>lF l->bB (aD l)) (λ_=>⟨λd h=>by simp[o9] at h,rC⟩) (λl d a h=> ?_) l;exact a0f
theorem MR{f g:Nat->Nat}(hi:i<n)(b:∀k,k<n->f k<B6)(a:∀k,i<k->k<n->f k=g k)(c:f i<g i):S6 f n<S6 g n:=by
 obtain⟨d,rfl⟩:∃d,n=(i+1)+d:=⟨n-(i+1),D⟩;rw[AA f (i+1),AA g (i+1),kl (f:=λk=>f (i+1+k)) (g:=λk=>g (i+1+k)) (λk hk=>a _ D D),dx,dx];have h1:=IM (n:=i) (λk hk=>b k D);have h2:(f i+1)*B6^i<=g i*B6^i:=Nat.mul_le_mul_right _ c;rw[Nat.add_mul,Nat.one_mul] at h2;omega
theorem Rv{a b:List Nat}(d:bB a)(f:bB b)(e:ln a=ln b)(hi:i<ln a)(c:∀k,i<k->k<ln a->C a k=C b k)(g:C a i≠C b i):
  ((C a i:Int)-C b i<0↔aw a<aw b)/\(0<(C a i:Int)-C b i↔aw b<aw a):=by
 unfold aw;rw[<-e];rcases Nat.lt_or_gt_of_ne g with h|h
 ·have:=MR hi (λk _=>aK d.small k) c h;exact a0A
 ·have:=MR hi (λk _=>aK f.small k) (λk h1 h2=>(c k h1 h2).symm) h;exact a0A
def Jt{a b:List Nat}(c:ln a=ln b)(d:∀k,k<ln a->C a k=C b k):aw a=aw b:=by
 unfold aw;rw[<-c];exact kl d
def sj{a b:List Nat}(c:lF a)(d:lF b)(k:Nat):(dJ a b k).2<=1/\(dJ a b (k+1)).1<1000000:=by
 have key:∀k,(dJ a b k).2<=1:=by
  intro k;cases k with
  |zero=>exact Nat.zero_le _
  |succ k=>show(if _ then 0 else 1)<=1;split <;>omega
 refine⟨key k,?_⟩;have h1:C a k<1000000:=aK c _;have h2:C b k<1000000:=aK d _;have e:=key k;rw[dJ];dsimp only;by_cases h:C b k+(dJ a b k).2<=C a k
 ·rw[XT h];omega
 ·rw[XQ h];omega
def Pc{a b:List Nat}(c:lF a)(d:lF b)(k:Nat):S6 (C (cJ (dJ a b) k)) k+S6 (C b) k=S6 (C a) k+(dJ a b k).2*B6^k:=by
 induction k with
 |zero=>rfl
 |succ k m=>
  have e:S6 (C (cJ (dJ a b) (k+1))) k=S6 (C (cJ (dJ a b) k)) k:=kl λi hi=>by
   exact a1b
  have g:C (cJ (dJ a b) (k+1)) k=(dJ a b (k+1)).1:=by
   exact a1a
  rw[dx,dx,dx,e,g,Nat.pow_succ];have h1:C a k<1000000:=aK c _;have h2:C b k<1000000:=aK d _;have l:=(sj c d k).1;have h:(dJ a b (k+1)).1+C b k+(dJ a b k).2=C a k+(dJ a b (k+1)).2*1000000:=by
   rw[dJ];dsimp only;by_cases h:C b k+(dJ a b k).2<=C a k
   ·rw[XT h,XT h];omega
   ·rw[XQ h,XQ h];omega
  have f:=Yv (· *B6^k) h;simp only[Nat.add_mul] at f;have j:(dJ a b (k+1)).2*(B6^k*B6)=(dJ a b (k+1)).2*1000000*B6^k:=by
   show _=(dJ a b (k+1)).2*B6*B6^k;rw[Yd (B6^k) B6,<-Nat.mul_assoc]
  rw[j];generalize(dJ a b (k+1)).2*1000000*B6^k=u at *;generalize(dJ a b (k+1)).1*B6^k=v at *;generalize C a k*B6^k=p at *;generalize C b k*B6^k=q at *;generalize(dJ a b k).2*B6^k=r at *;omega
def zE{a b:List Nat}(c:lF a)(d:lF b)(k:Nat):(eT a b k).2<=1/\(eT a b (k+1)).1<1000000:=by
 have key:∀k,(eT a b k).2<=1:=by
  intro k;cases k with
  |zero=>exact Nat.zero_le _
  |succ k=>
   induction k with
   |zero=>
    have h1:=aK c 0;have h2:=aK d 0;show(C a 0+C b 0+0)/1000000<=1;have g:C a 0<1000000:=h1;have e:C b 0<1000000:=h2;omega
   |succ k f=>
    have h1:C a (k+1)<1000000:=aK c _;have h2:C b (k+1)<1000000:=aK d _;show(C a (k+1)+C b (k+1)+(eT a b (k+1)).2)/1000000<=1;omega
 exact⟨key k,Nat.mod_lt _ YK⟩
end Kp
namespace Go.Proofs.YtnepbjnlmkppmaaGreatDoor
section
open Kp
def nv(w:U)(b0:Nat)(v:Z)(l:List Nat)(i:Nat)(h:bT w b0 v l)(hi:i<=4611686018427387904):
  XY Xz 233 #[v,G F i] w λe w'=>e=YC (G F (C l i))/\w=w':=by
 obtain⟨ab,ac,rfl,g,d,c⟩:=h;unfold Yk at d;by_cases f:i<ln l
 ·obtain⟨b,off,rfl,_,a⟩:=c D;have hx:=a i f;clear a;go_enter func233,ntmps233;exact a0h
 ·go_enter func233,ntmps233;go_wp2;go_ret;exact⟨Ae (by rw[nk D];rfl),H⟩
def xn(w:U)(b0:Nat)(v:Z)(l:List Nat)(i:Nat)(h:bT w b0 v l)(hi:i<=4611686018427387904):
  XY Xz 233 #[v,G F i] w λe w'=>e=YC (G F (C l i))/\w'=w:=
 (nv w b0 v l i h hi).mono λ_ _ h=>⟨h.1,h.2.symm⟩
def OG(v:Z)(l:List Nat):Z:=match v with
 | V ab _ ac=> V ab (aD l).length ac
 |v=>v
theorem bT.trimmed{v:Z}(h:bT w b0 v l):bT w b0 (OG v l) (aD l):=by
 obtain⟨ab,ac,rfl,h1,h2,a⟩:=h;have c:=bC l;refine⟨ab,ac,H,Ye c h1,h2,λi=> ?_⟩;obtain⟨b,o,e,f,d⟩:=a D;exact⟨b,o,e,f,λj g=>by rw[wW g];exact d j D⟩
def gi(w:U)(b0:Nat)(v:Z)(l:List Nat)(h:bT w b0 v l):
  XY Xz 231 #[v] w λe w'=>e=YC (OG v l)/\w=w':=by
 obtain⟨ab,ac,rfl,h1,h2,i⟩:=h;unfold OG;unfold Yk at h2;have j:=bC l;go_enter func231,ntmps231;go_wp2;go_loopw [3] (λv wr=>∃k:Nat,k<=ln l/\v=G F (k:Int)/\Hid (aD (l.take k)=aD l)/\w=wr) (λv _=>(Yf v).toNat)
 case atStart=>exact⟨ln l,XE _,H,by simp[Hid],rfl⟩
 case round=>
  obtain⟨k,hk,rfl,d,rfl⟩:=hrel;rcases k with _|k
  ·exact a0j
  ·obtain⟨b,off,rfl,_,c⟩:=i D;have hx:=c k D;by_cases a:C l k=0
   ·have g:((C l k:Int)==0)=Y:=by rw[a];rfl
    have f:=A a;clear a c;go_wp2;exact⟨⟨k,D,by go_num,yE D f.o d.o,trivial⟩,by simp[Yf]⟩
   ·exact a0i
end
section
open Kp
def z8(a b:List Nat)(e:Ending):Prop:=∃c:Int,e=YC (G F c)/\(c<0->aw a<aw b)/\(¬c<0->aw b<=aw a/\ln b<=ln a)
def wm(w:U)(a b:List Nat)(t B:Z)(o:bT w w.heap.size t a)(j:bT w w.heap.size B b)(J:bB a)(u:bB b):
  XY Xz 236 #[t,B] w λe w'=>z8 a b e/\Ext w w':=by
 have Q:=A (show∀W,Ext w W->bT W w.heap.size t a fromλW h=>o.below h);have R:=A (show∀W,Ext w W->bT W w.heap.size B b fromλW h=>j.below h);obtain⟨ab,ca,rfl,ae,O,_⟩:=id o;obtain⟨A',cb,rfl,ad,K,_⟩:=id j;unfold Yk at O K;have N:=A (show aw a<aw b->z8 a b (YC (G F (-1))) fromλh=>⟨_,rfl,λ_=>h,λh=>absurd YK h⟩);have M:=A (show aw b<=aw a/\ln b<=ln a->z8 a b (YC (G F 1)) fromλh=>⟨_,rfl,λh=>absurd h YK,λ_=>h⟩);have X:=A (show aw b<=aw a/\ln b<=ln a->z8 a b (YC (G F 0)) fromλh=>⟨_,rfl,λh=>absurd h YK,λ_=>h⟩);by_cases I:ln a=ln b
 ·have E:=A I;obtain⟨n,l⟩:=aa (ln a);have r:ln b=n:=D;rw[r] at R;rw[l] at Q;rw[l,r];have f:=A l;have S:=A r;have af:n<=9223372036854775807:=D;have w1:F.wrap ((n:Int)-1)=(n:Int)-1:=Yh _ D;clear o j ae O ad K I l r;go_enter func236,ntmps236;go_wp2;go_loopw [5] (λi wr=>∃k:Nat,k<=n/\i=G F ((k:Int)-1)/\Ext w wr/\Hid (∀m,k<=m->m<ln a->C a m=C b m)) (λi _=>(Yf i+1).toNat)
  case atStart=>exact⟨n,XE _,H,XI _ _,λm h1 h2=>by have:=f.o;omega⟩
  case round=>
   obtain⟨k,hk,rfl,d,z⟩:=hrel;have g:=A d;rcases k with _|k
   ·have c:=A (X.o ⟨Nat.le_of_eq (Jt E.o λm hm=>z.o m (Nat.zero_le _) hm).symm,Nat.le_of_eq E.o.symm⟩);clear d;go_wp2;go_ret;exact⟨c.o,g.o⟩
   ·obtain⟨_,_,e,_,_,q⟩:=Q.o wr d;injection e with v _ s
    subst v s;obtain⟨b1,o1,rfl,_,c1⟩:=q (by have:=f.o;omega);have c1:=c1 k (by have:=f.o;omega);obtain⟨_,_,e,_,_,q⟩:=R.o wr d;injection e with v _ s
    subst v s;obtain⟨b2,o2,rfl,_,c2⟩:=q (by have:=S.o;omega);have c2:=c2 k (by have:=S.o;omega);have ek:((k+1:Nat):Int)-1=(k:Int):=D;rw[ek];have w2:F.wrap ((k:Int)-1)=(k:Int)-1:=Yh _ D;have T:k<ln a:=by have:=f.o;omega
    have V:=A (λh=>Rv J u E.o T (λm h1 h2=>z.o m D h2) h);obtain⟨x,hx⟩:=aa (C a k);obtain⟨y,hy⟩:=aa (C b k);rw[hx] at c1;rw[hy] at c2;have L:=A hx;have P:=A hy;clear d q T;rcases Nat.lt_trichotomy x y with h|h|h
    ·have c:=A (N.o ((V.o ZX).1.1 ZX));clear hx hy;go_wp2_with fail
     go_quiet (fail)
     go_wp2;go_ret;exact⟨c.o,below_drewN g.o _⟩
    ·have t1:¬x<y:=D;have t2:¬y<x:=D;have c:=A (show∀m,k<=m->m<ln a->C a m=C b m fromλm h1 h2=>by
      by_cases e:m=k
      ·rw[e];have:=L.o;have:=P.o;omega
      ·exact z.o m D h2)
     clear h hx hy;go_wp2_with fail
     go_quiet (fail)
     go_wp2_with fail
     go_quiet (fail)
     go_wp2
     go_round
     case rel=>exact⟨k,D,rfl,below_drewN g.o _,c⟩
     case measure=>simp[Yf]
    ·have t1:¬x<y:=D;have c:=A (M.o ⟨Nat.le_of_lt ((V.o ZX).2.1 ZX),Nat.le_of_eq E.o.symm⟩);clear hx hy;go_wp2_with fail
     go_quiet (fail)
     go_wp2_with fail
     go_quiet (fail)
     go_wp2;go_ret;exact⟨c.o,below_drewN (below_drewN g.o _) _⟩
 ·have ag:((ln a:Int) !=ln b)=Y:=ZZ;by_cases ac:ln a<ln b
  ·have c:=A (N.o (jl J.small u.trim ac));exact a2v
  ·have c:=A (M.o ⟨Nat.le_of_lt (jl u.small J.trim D),D⟩);exact a2v
end
end Go.Proofs.YtnepbjnlmkppmaaGreatDoor
namespace Kp
theorem TT(b:j<n)(c:n<=ln l):S6 (C (l.set j x)) n+C l j*B6^j=S6 (C l) n+x*B6^j:=by
 induction n with
 |zero=>omega
 |succ n a=>
  rw[dx,dx];by_cases e:j=n
  ·subst e;rw[jq D,XT rfl,kl (g:=C l) (λk hk=>by rw[jq D,XQ D])];omega
  ·have:=a D D;rw[jq D,XQ D];omega
theorem lF.set(h:lF l)(hx:x<B6):lF (l.set j x):=by
 exact a0n
def lF.UA(n:Nat):lF (List.replicate n 0):=by
 intro d a;rw[List.eq_of_mem_replicate a];decide
structure Iw(a b:List Nat)(i k c:Nat)(an:List Nat):Prop where
 len:ln an=ln a+ln b+1
 small:lF an
 eq:S6 (C an) (ln a+ln b+1)+c*B6^(i+k)=S6 (C a) i*aw b+C a i*B6^i*S6 (C b) k
 carry:c<=1000000000000
structure Md(b:List Nat):Prop where
 limb:∀k,C b k<1000000000000
 val:aw b<B6^(ln b+1)
def lF.Xr{b:List Nat}(h:lF b):Md b:=
 ⟨λk=>Nat.lt_trans (aK h k) YK,Nat.lt_of_lt_of_le (uH h) (Nat.pow_le_pow_right YK D)⟩
theorem Rt(h:g<1000000000000):Md [g]:=by
 refine⟨λk=> ?_,?_⟩
 ·cases k with
  |zero=>exact h
  |succ k=>rw[nk YL];decide
 ·show S6 (C [g]) 1<B6^2;simp[S6,C];omega
theorem Iw.next{a b:List Nat}(h:Iw a b i k c an)(g:lF a)(q:Md b)(hk:i+k<ln a+ln b+1):
  Iw a b i (k+1) ((C an (i+k)+C a i*C b k+c)/1000000) (an.set (i+k) ((C an (i+k)+C a i*C b k+c)%1000000)):=by
 obtain⟨len,small,eq,carry⟩:=h;have h1:C a i<1000000:=aK g i;have h2:C an (i+k)<1000000:=aK small _;have s:=q.limb k;have t:C a i*C b k<=999999*999999999999:=Nat.mul_le_mul D D;obtain⟨n,f⟩:=aa (C an (i+k)+C a i*C b k+c);rw[f];refine⟨by rw[List.length_set];exact len,small.set (Nat.mod_lt _ YK),?_,D⟩;have e:=TT (l:=an) (j:=i+k) (x:=n%1000000) hk D;have d:=Nat.div_add_mod n 1000000;have o:n/1000000*B6^(i+(k+1))=1000000*(n/1000000)*B6^(i+k):=by
  rw[<-Nat.add_assoc,Nat.pow_succ,Yd (B6^(i+k)) B6,<-Nat.mul_assoc,Yd _ B6]
 have m:C a i*B6^i*S6 (C b) (k+1)=C a i*B6^i*S6 (C b) k+C a i*C b k*B6^(i+k):=by
  rw[dx,Nat.mul_add,Nat.pow_add]
  congr 1
  rw[Yd (C b k),Nat.mul_assoc,<-Nat.mul_assoc (B6^i),Yd _ (C b k),<-Nat.mul_assoc]
 rw[o,m];have r:n*B6^(i+k)=1000000*(n/1000000)*B6^(i+k)+n%1000000*B6^(i+k):=by rw[<-Nat.add_mul,d]
 have u:n*B6^(i+k)=C an (i+k)*B6^(i+k)+C a i*C b k*B6^(i+k)+c*B6^(i+k):=by rw[<-f,Nat.add_mul,Nat.add_mul]
 omega
theorem Iw.inside{a b:List Nat}(h:Iw a b i k c an)(e:lF a)(g:Md b)(hi:i<ln a)(hk:ln b<=k)(d:0<c):i+k<ln a+ln b+1:=by
 rcases Nat.lt_or_ge (i+k) (ln a+ln b+1) with h1|h1
 ·exact h1
 exfalso;have eq:=h.eq;rw[gT hk,<-Nat.add_mul,<-dx] at eq;have h2:S6 (C a) (i+1)<B6^(i+1):=IM (λk _=>aK e k);have f:S6 (C a) (i+1)*aw b<B6^(i+1)*B6^(ln b+1):=Nat.mul_lt_mul'' h2 g.val;rw[<-Nat.pow_add] at f;have l:B6^(i+1+(ln b+1))<=B6^(i+k):=Nat.pow_le_pow_right YK D;have j:1*B6^(i+k)<=c*B6^(i+k):=Nat.mul_le_mul_right _ d;omega
theorem Iw.row{a b:List Nat}(h:Iw a b i k 0 an)(hk:ln b<=k):Iw a b (i+1) 0 0 an:=by
 refine⟨h.len,h.small,?_,D⟩;have eq:=h.eq;rw[gT hk,<-Nat.add_mul,<-dx] at eq;simp only[Nat.zero_mul,Nat.add_zero] at eq⊢;rw[eq];simp[S6]
def Iw.start(a b:List Nat):Iw a b 0 0 0 (List.replicate (ln a+ln b+1) 0):=
 ⟨YL,lF.UA _,by rw[xg (λk _=>mC _ k)];simp[S6],D⟩
theorem Iw.done{a b:List Nat}(h:Iw a b (ln a) 0 0 an):aw an=aw a*aw b:=by
 have:=h.eq;rw[nk (XE _)] at this;simp only[Nat.zero_mul,Nat.add_zero] at this;unfold aw;rw[h.len,this];rfl
def kY{r b:List Nat}(d:bB r)(c:lF b)(h:aw r<=aw b):ln r<=ln b:=by
 rcases Nat.lt_or_ge (ln b) (ln r) with a|e
 ·have:=jl c d.trim a;omega
 ·exact e
theorem Ww{b r:List Nat}(i:lF b)(f:ln b=m+2)(j:ln r<=m+3):
  ((C r (m+2)*1000000+C r (m+1))*1000000+C r m)/(C b (m+1)*1000000+C b m+1)*aw b<=aw r:=by
 have g:aw r=S6 (C r) (m+3):=(gT j).symm;have h:aw b=S6 (C b) (m+2):=by unfold aw;rw[f]
 rw[g,h];simp only[dx];have l:S6 (C b) m<B6^m:=IM (λk _=>aK i k);obtain⟨t,a⟩:=aa (C b (m+1)*1000000+C b m+1);obtain⟨u,hu⟩:=aa ((C r (m+2)*1000000+C r (m+1))*1000000+C r m);rw[a,hu];have h1:S6 (C b) m+C b m*B6^m+C b (m+1)*B6^(m+1)<=t*B6^m:=by
  rw[<-a,Nat.pow_succ,Nat.add_mul,Nat.add_mul,Nat.one_mul,Yd (B6^m) B6,<-Nat.mul_assoc];have:C b (m+1)*B6*B6^m=C b (m+1)*1000000*B6^m:=rfl;omega
 have h2:u*B6^m<=S6 (C r) m+C r m*B6^m+C r (m+1)*B6^(m+1)+C r (m+2)*B6^(m+2):=by
  have e:C r (m+1)*B6^(m+1)=C r (m+1)*1000000*B6^m:=by rw[Nat.pow_succ,Yd (B6^m) B6,<-Nat.mul_assoc]
  have c:C r (m+2)*B6^(m+2)=C r (m+2)*1000000*1000000*B6^m:=by
   rw[Nat.pow_succ,Nat.pow_succ,Yd (B6^m*B6) B6,Yd (B6^m) B6,<-Nat.mul_assoc,<-Nat.mul_assoc]
  rw[e,c,<-hu,Nat.add_mul,Nat.add_mul,Nat.add_mul];omega
 have d:u/t*t<=u:=Nat.div_mul_le_self _ _;refine Ye (Nat.mul_le_mul_left _ h1) (Ye ?_ h2);rw[<-Nat.mul_assoc];exact Nat.mul_le_mul_right _ d
def o7(x:Nat)(l:List Nat):aw (x::l)=x+1000000*aw l:=by
 unfold aw;rw[List.length_cons,Nat.add_comm (ln l) 1,AA];have:S6 (λk=>C (x::l) (1+k)) (ln l)=S6 (C l) (ln l):=kl (λk _=>by unfold C;rw[Nat.add_comm];rfl);rw[this];simp[S6,C]
def Tj{z a R l:Nat}(h:l+z*a=R)(b:R<1000000*a):z<1000000:=by
 rcases Nat.lt_or_ge z 1000000 with h1|h1
 ·exact h1
 ·have:=Nat.mul_le_mul_right a h1;omega
end Kp
namespace Go.Proofs.YtnepbjnlmkppmaaGreatDoor
section
open Kp
def Un(z:ByteArray)(f k:Nat):Prop:=∀m (_:f<=m) (_:m<k) (h:m<z.size),48<=((z[m]'h).toNat:Int)/\((z[m]'h).toNat:Int)<=57
structure Me(z:ByteArray):Prop where
 ex:∃f,f<=1/\f<z.size/\Un z f z.size/\z.size-f<=300/\(f=1↔∃h:0<z.size,((z[0]'h).toNat:Int)=45)
def cI(z:ByteArray):Nat->Nat
 |0=>0
 |k+1=>10*cI z k+((z.data.toList.getD k 0).toNat-48)
theorem mJ(h:k<z.size)(a:((z[k]'h).toNat:Int)=((48+g:Nat):Int)):cI z (k+1)=10*cI z k+g:=by
 have e:z.data.toList.getD k 0=z[k]'h:=by
  exact a2y
 show 10*cI z k+((z.data.toList.getD k 0).toNat-48)=_;rw[e];omega
structure Fb(z:ByteArray):Prop where
 pos:0<z.size
 len:z.size<=300
 all:Un z 0 z.size
 lead:∀h:0<z.size,1<z.size->((z[0]'h).toNat:Int)≠48
theorem Fb.at(h:Fb z)(hk:k<z.size):∃g:Nat,g<=9/\((z[k]'hk).toNat:Int)=((48+g:Nat):Int):=by
 have:=h.all k (Nat.zero_le _) hk hk;exact⟨(z[k]'hk).toNat-48,D,D⟩
end
end Go.Proofs.YtnepbjnlmkppmaaGreatDoor
