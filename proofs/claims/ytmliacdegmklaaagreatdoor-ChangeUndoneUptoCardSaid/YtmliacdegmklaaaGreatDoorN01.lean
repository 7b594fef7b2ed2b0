/- ChangeUndone of kingpostlaw58: part 1 of its proof (merged and shortened by program). -/
import Derived.Test.YtmliacdegmklaaaGreatDoorProg
import Derived.WalkKit
import Derived.WalkSpells
import Derived.WalkLawsBesides
import Derived.Lib.Hide
import Derived.Deep.QuietTactic
import Derived.BigQuiet
import Derived.OwnWalk
import Derived.RangeFuncNested
import Derived.RangeFuncBound
import Derived.RangeFuncCalls
import Derived.RangeFuncLeaves
import Derived.Shelf.Abstract
import Derived.OwnWalkIn
import Derived.TacticsInMore
import Derived.LoopNIn
import Derived.LoopIn
import Derived.StillTailTactics
import Derived.OrdersIn
import Derived.BigRegionIn
import Derived.Deep.RegionWith
import Derived.Maps.AppendAt
import Derived.Laws.AppendOwn
set_option linter.unusedVariables false
set_option linter.unusedSimpArgs false
set_option linter.defProp false
set_option maxHeartbeats 8000000
set_option maxRecDepth 100000
open Go.RowKit Go.Shelf Go.Proofs.Tryz
open Array renaming getElem?_eq_some_iff→VF
open Bool renaming false→Vw,true→VD
open Go renaming World→Vt,Value→Vy,undef→VB,wpOp_step→VE,Calls→VJ,maxLen→VP,TypeId→VR,Addr→VT
open Go.AllReady renaming cons→VO,nil→VU
open Go.Ending renaming returned→V0
open Go.IntKind renaming i64→VH
open Go.IntWalk renaming i64_in→VQ
open Go.Lib renaming hid→Vs
open Go.RowKit renaming intOf→VN,Below→VS
open Go.Value renaming slice→VV,string→VW,bool→VX,pointer→VY,int→VZ,agg→V5,tuple→V6
open Go.World renaming alloc_heap_new→VG,size_alloc→VK
open List renaming getD_eq_getElem?_getD→Vv,getElem?_eq_getElem→VA,length_map→VC,length_append→VM,length→ln
open Nat renaming le_refl→Vu,le_trans→VI,mul_comm→VL
open Option renaming none→Vx,some→Vz
namespace Go.Proofs.YtmliacdegmklaaaGreatDoor
theorem _root_.Go.RowKit.Hid.o{p:Prop}(h:Go.RowKit.Hid p):p:=h
section
variable{p:Prop}
theorem V7(h:p:=by omega):p:=h
theorem V8(h:p:=by kernel_rfl):p:=h
theorem V9(h:p:=by decide):p:=h
theorem Wa(h:p:=by simp):p:=h
theorem Wb(h:p:=by cases h):p:=h
theorem Wc(h:p:=by simp[VN];omega):p:=h
theorem Wd(h:p:=by rw[decide_eq_false_iff_not];omega):p:=h
theorem We(h:p:=by rw[HR.o];rfl):p:=h
theorem Wf(h:p:=by simp;omega):p:=h
theorem Wg(h:p:=by rw[beq_eq_false_iff_ne];intro e;exact hc0 (UInt8.toNat.inj (by show c0.toNat=45;exact Int.ofNat.inj e))):p:=h
theorem Wh(h:p:=by unfold VP;omega):p:=h
theorem Wi(h:p:=by assumption):p:=h
theorem Wj(h:p:=by rw[beq_eq_false_iff_ne];omega):p:=h
theorem Wk(h:p:=by rw[Addr.add_lit,Nat.zero_add,(ai.new wr 3 [VZ VH (x:Int)]).cell];exact hj):p:=h
theorem Wl(h:p:=by rfl):p:=h
theorem Wm(h:p:=by first|with_reducible exact wZ _ _ _ _|with_reducible exact Cr _ _ _ _|with_reducible exact yR _ _ _ _|with_reducible exact Bu _ _ _ _):p:=h
theorem Wn(h:p:=by rw[decide_eq_true_eq];omega):p:=h
theorem Wo(h:p:=by first|omega|(simp;done)|(simp;omega)):p:=h
theorem Wp(h:p:=by simp; omega):p:=h
theorem Wq(h:p:=by rw[HE.o];rfl):p:=h
theorem Wr(h:p:=by simp[MapKept.IsKey]):p:=h
theorem Ws(h:p:=by rw[kj,VM,List.length_singleton,show((j:Int)-6).toNat=b by omega];exact tG HVV.o (zZ hb HXV.o)):p:=h
theorem Wt(h:p:=by rw[<-hW0];exact(Below.refl _ _).alloc (Vu _) _):p:=h
theorem Wu(h:p:=by decide +kernel):p:=h
theorem Wv(h:p:=by have:=gA hn;simp at this hr;omega):p:=h
theorem Ww(h:p:=by rw[<-hW0];exact((Below.refl _ _).alloc (Vu _) _).alloc (by simp) _):p:=h
theorem Wx(h:p:=by rw[getD_replicate_false] at hl;cases hl):p:=h
theorem Wy(h:p:=by rw[HV.o];rfl):p:=h
theorem Wz(h:p:=by first|omega|(simp;done)|(simp[World.setCell];omega)):p:=h
theorem WA(h:p:=by show c0.toNat=45;exact Int.ofNat.inj e):p:=h
theorem WB(h:p:=by simpa using h):p:=h
theorem WC(h:p:=by rw[<-hB,bt (λr hr=>hw r (List.mem_of_mem_drop hr)),List.length_drop,hn]):p:=h
theorem WD(h:p:=by simp only[Nat.min_def];split <;>omega):p:=h
theorem WE(h:p:=by rw[decide_eq_false_iff_not];exact h1):p:=h
theorem WG(h:p:=by have:=HN.o;omega):p:=h
theorem WH(h:p:=by rw[hnum];rfl):p:=h
theorem WI(h:p:=by simp [VN]; omega):p:=h
theorem WJ(h:p:=by first|exact HX.o|exact below_drewN HX.o _|exact Below.refl _ _):p:=h
theorem WK(h:p:=by rw[hk];rfl):p:=h
theorem WL(h:p:=by have:=hne _ h;simp at this;omega):p:=h
theorem WM(h:p:=by rw[decide_eq_false_iff_not];exact h2):p:=h
theorem WN(h:p:=by unfold gD;rw[h];rfl):p:=h
theorem WO(h:p:=by unfold dK;rw[h];rfl):p:=h
theorem WQ(h:p:=by simp[ByteArray.size]):p:=h
theorem WR(h:p:=by simp[Value.oneCell']):p:=h
theorem WS(h:p:=by simp[Act.eval,Act.put]):p:=h
theorem WT(h:p:=by first|rfl|(simp only[World.drewN_drewN];rfl)):p:=h
theorem WU(h:p:=by rw[<-hW0];exact EC.new w _):p:=h
theorem WV(h:p:=by rw[decide_eq_false_iff_not];exact h3):p:=h
theorem WW(h:p:=by first|rfl|trivial):p:=h
theorem WX(h:p:=by rw[bne_iff_ne];omega):p:=h
theorem WY(h:p:=by simp[ByteArray.getElem_eq_getElem_data]):p:=h
theorem WZ(h:p:=by simp_all):p:=h
theorem Xa(h:p:=by have:=ai.new (w.alloc (Obj.cells #[VX Vw,VV Vx 0 0] 308)) 308 [VX s,VV Vx 0 0];simpa using this):p:=h
theorem Xb(h:p:=by rw[inv.size];omega):p:=h
theorem Xc(h:p:=by rw[bne_iff_ne];intro e;exact hc (UInt8.toNat.inj (by show c.toNat=47;exact Int.ofNat.inj e))):p:=h
theorem Xd(h:p:=by rw[decide_eq_false_iff_not];exact h4):p:=h
theorem Xe(h:p:=by rw[bt (qm hw hx i),me rows i x (by omega),hn]):p:=h
theorem Xf(h:p:=by decide+kernel):p:=h
theorem Xg(h:p:=by first | assumption | simp_all):p:=h
theorem Xh(h:p:=by injection e with e;injection e with e1 e2;exact⟨e1,e2⟩):p:=h
theorem Xi(h:p:=by rw[VC];exact hi):p:=h
theorem Xj(h:p:=by simp at hD;omega):p:=h
theorem Xk(h:p:=by rw[<-HVS.o,HR.o];unfold sZ;rw[List.map_append];rfl):p:=h
theorem Xl(h:p:=by simpa using hi):p:=h
theorem Xm(h:p:=by simp only[List.size_toArray,hx,hm];omega):p:=h
theorem Xn(h:p:=by rw[List.length_take];omega):p:=h
theorem Xo(h:p:=by rw[VC];exact hlen):p:=h
theorem Xp(h:p:=by rw[Array.length_toList];exact h):p:=h
theorem Xq(h:p:=by obtain⟨_,_,_,h2,h3,_⟩:=hr;unfold VP at h3;omega):p:=h
theorem Xr(h:p:=by rw[gR hk hl] at h;cases h):p:=h
theorem Xs(h:p:=by rw[HF.o];rfl):p:=h
theorem Xt(h:p:=by first|omega|(simp;omega)):p:=h
theorem Xu(h:p:=by rw[decide_eq_false_iff_not];exact h5):p:=h
theorem Xv(h:p:=by rw[<-List.flatten_append,List.take_append_drop]):p:=h
theorem Xw(h:p:=by rw[ak] at hw2;exact hw2):p:=h
theorem Xx(h:p:=by intro u hu;simp at hu;subst hu;rfl):p:=h
theorem Xy(h:p:=by have:=HXX.o;have:=HYY.o;omega):p:=h
theorem Xz(h:p:=by have:=hne _ h;simp at this):p:=h
theorem XA(h:p:=by have:=HK.o;have:=HYL.o;omega):p:=h
theorem XB(h:p:=by rw[e];rfl):p:=h
theorem XC(h:p:=by rw[ak];omega):p:=h
theorem XD(h:p:=by rw[VC];exact h0):p:=h
theorem XE(h:p:=by rw[hz2];omega):p:=h
theorem XF(h:p:=by rw[bne_iff_ne];exact hc0):p:=h
theorem XG(h:p:=by have:=HM.o.num.lt;simp;omega):p:=h
theorem XH(h:p:=by rw[VM];have:=HK.o;simp;omega):p:=h
theorem XI(h:p:=by simpa using hl):p:=h

theorem XJ(h:p:=by
 unfold fv
 rw[Vv]
 rcases Nat.lt_or_ge k (ln l) with hk|hk
 ·rw[VA hk];exact h _ (List.getElem_mem hk)
 ·rw[List.getElem?_eq_none hk];decide):p:=h
theorem XK(h:p:=by
 by_cases hd:d=0
 ·subst hd;rw[dQ];exact ih h.zR
 ·rw[iQ hd];exact⟨h,xL hd⟩):p:=h
theorem XL(h:p:=by
 obtain⟨A,cap,rfl,h1,h2,hc⟩:=h
 refine⟨A,cap,rfl,h1,h2,λhn=> ?_⟩
 obtain⟨b,off,e,hb,hcell⟩:=hc hn
 exact⟨b,off,e,V7,hcell⟩):p:=h
theorem XM(h:p:=by
 go_wp2
 go_ret
 exact⟨rfl,rfl⟩):p:=h
theorem XN(h:p:=by
 have hz:((fv l k:Int)==0)=Vw:=Wj
 have H0:=Vs h0
 clear h0 hcell
 go_wp2
 go_ret
 exact⟨by rw[xO V7 H0.o ht.o];rfl,rfl⟩):p:=h
theorem XO(h:p:=by
 go_wp2
 go_ret
 exact⟨by have:=ht.o;simp[oM] at this;rw[this];rfl,rfl⟩):p:=h
theorem XP(h:p:=by
 unfold fv
 simp only[Vv,List.getElem?_set]
 by_cases h:j=k
 ·subst h;simp[hj]
 ·simp[h,Ne.symm h]):p:=h
theorem XQ(h:p:=by
 simp only[List.length_set] at hk
 rw[iw hj,Array.getElem?_setIfInBounds]
 by_cases hkj:j=k
 ·subst hkj;simp[h1];omega
 ·rw[if_neg hkj,if_neg (Ne.symm hkj)];exact hc k hk):p:=h
theorem XR(h:p:=by
 simp[World.setCell,Array.getElem?_modify,hh]):p:=h
theorem XS(h:p:=by
 have h':=h
 obtain⟨cur,hh,h1,h2,h3,hc⟩:=h
 exact⟨_,cap,rfl,h2,h3,λ_=>⟨g,0,rfl,hg,λj hj=>by rw[Nat.zero_add];exact h'.cell hj⟩⟩):p:=h
theorem XT(h:p:=by
 intro d hd
 rcases List.mem_or_eq_of_mem_set hd with h1|h1
 ·exact h d h1
 ·rw[h1];exact hx):p:=h
theorem XU(h:p:=by
 have:sh (fv u) j k=fv u' (j+k):=(hsame _ V7).symm
 rw[this];exact he):p:=h
theorem XV(h:p:=by
 obtain rfl:k=ln v+1:=V7
 go_wp2
 go_ret
 exact⟨c,u',rfl,hrel⟩):p:=h
theorem XW(h:p:=by
 go_wp2_with fail
 rw[E1.o]
 go_ret
 exact⟨q-1,_,rfl,HL.o.1,V7,WT⟩):p:=h
theorem XX(h:p:=by
 go_wp2_with fail
 rw[E1.o]
 exact⟨⟨q-1,r+v1,_,rfl,by go_num,⟨HL.o.2,HL.o.1,V7,hB0⟩,WT⟩,Wc⟩):p:=h
theorem XY(h:p:=by
 simpa using this):p:=h
theorem XZ(h:p:=by
 have hr:=run_endLoop (P:=P) hl (by rw[hR];simp)
 exact⟨Vz c,_,by rw[hr,hR],hstop _ c k _ (Vu _) hk (hIx _ _ _ _ hi (aF.putObj _ hl rfl V7)) ((World.putObj_heap_other V7).trans hd)⟩):p:=h
theorem Ya(h:p:=by
 have hr:=run_endLoop (P:=P) hl (by rw[hR];simp)
 exact⟨Vx,_,by rw[hr,hR],hdone _ _ (Vu _) (hI _ _ _ hi (aF.putObj _ hl rfl V7)) ((World.putObj_heap_other V7).trans hd)⟩):p:=h
theorem Yb(h:p:=by
 obtain⟨hk3,hi3⟩:=hp
 obtain⟨W4,hr,hs,hl4,hd4⟩:=fin (Vz (.goto t)) W3 hk3
 exact⟨_,_,hr,.inr ⟨rfl,.goto t,hIx _ _ _ _ hi3 hs,hl4,hd4⟩⟩):p:=h
theorem Yc(h:p:=by
 obtain⟨hk3,hi3⟩:=hp
 obtain⟨W4,hr,hs,hl4,hd4⟩:=fin (Vz (.exit id)) W3 hk3
 exact⟨_,_,hr,.inr ⟨rfl,.exit id,hIx _ _ _ _ hi3 hs,hl4,hd4⟩⟩):p:=h
theorem Yd(h:p:=by
 obtain⟨hk3,hi3⟩:=hp
 obtain⟨W4,hr,hs,hl4,hd4⟩:=fin (Vz .ret) W3 hk3
 exact⟨_,_,hr,.inr ⟨rfl,.ret,hIx _ _ _ _ hi3 hs,hl4,hd4⟩⟩):p:=h
theorem Ye(h:p:=by
 obtain⟨hk3,hi3⟩:=hp
 obtain⟨W4,hr,hs,hl4,hd4⟩:=fin Vx W3 hk3
 exact⟨_,_,hr,.inl ⟨rfl,hI _ _ _ hi3 hs,hl4,hd4⟩⟩):p:=h
theorem Yf(h:p:=by
 have:=VG (w.alloc (.deferred (Vz []))) (.loop (R .ready Vx))
 rwa[VK,hW1] at this):p:=h
theorem Yg(h:p:=by
 gi_wp2
 go_end0
 exact⟨⟨_,rfl⟩,.inl hj⟩):p:=h
theorem Yh(h:p:=by
 constructor <;>constructor <;>intro _<;>omega):p:=h
theorem Yi(h:p:=by
 refine wpAny_ready (rs:=[9]) V8 Wa ?_
 refine VO rfl (λK hK=> ?_) ?_
 ·go_simp
  refine hK _ _ ?_
  clear hK K
  refine wpAny_ready (rs:=[10]) V8 Wa ?_
  refine VO rfl (λK hK=> ?_) ?_
  ·go_simp
   refine hK _ _ ?_
   clear hK K
   refine wpAny_done V8 ?_ _
   gi_wp2
   exact kT HN.o
  exact VU
 exact VU):p:=h
theorem Yj(h:p:=by
 refine wpAny_ready (rs:=[10]) V8 Wa ?_
 refine VO rfl (λK hK=> ?_) ?_
 ·go_simp
  refine hK _ _ ?_
  clear hK K
  refine wpAny_done V8 ?_ _
  gi_wp2
  exact kT HN.o
 exact VU):p:=h
theorem Yk(h:p:=by
 gi_wp2
 refine⟨λh=>Wb,hR.mono ?_⟩
 rintro e W3 (⟨rfl,hJ3⟩|⟨rfl,hJx3⟩)
 ·gi_wp2
  go_roundw
  case rel=>exact⟨k+1,V7,Wa,hJ3⟩
  case measure=>simp[VN];omega
 ·gi_wp2
  refine bodyPost_ret (results_none rfl _ _ _) rfl ?_
  exact⟨⟨_,rfl⟩,.inr ⟨k,hlt,hJx3⟩⟩):p:=h
theorem Yl(h:p:=by
 refine wpAny_ready (rs:=[11]) V8 Wa ?_
 refine VO rfl (λK hK=> ?_) ?_
 ·go_simp
  refine hK _ _ ?_
  clear hK K
  refine wpAny_done V8 ?_ _
  gi_wp2
  exact nD HN.o
 exact VU):p:=h
theorem Ym(h:p:=by
 rw[hu]
 calc 10^(k%9)<=10^8:=Nat.pow_le_pow_right V9 V7
  _=100000000:=rfl):p:=h
theorem Yn(h:p:=by
 refine wpAny_ready (rs:=[11]) V8 Wa ?_
 refine VO rfl (λK hK=> ?_) ?_
 ·go_simp
  refine hK _ _ ?_
  clear hK K
  refine wpAny_done V8 ?_ _
  gi_wp2
  exact vU hk3.o HN.o
 exact VU):p:=h
theorem Yo(h:p:=by
 clear h
 go_enter func295,ntmps295
 go_wp2
 exact bodyPost_ret (v:= V6 #[VZ VH 0,VZ VH 0,VX Vw]) (by simp[results,results295,go_sem]) rfl ⟨rfl,Below.refl _ _⟩):p:=h
theorem Yp(h:p:=by
 rcases hown'.2 with⟨hv,_⟩|⟨g,cap,cur,hv,_⟩
 ·exact⟨_,_,_,hv⟩
 ·exact⟨_,_,_,hv⟩):p:=h
theorem Yq(h:p:=by
 by_cases h10:n<10
 ·rw[Lib.nDigits_small h10];omega
 ·rw[Lib.nDigits,dif_neg h10]
  have:n/10<10^k:=by rw[Nat.div_lt_iff_lt_mul V9];rw[Nat.pow_succ] at h;exact h
  have hk1:1<=k:=by
   rcases Nat.eq_zero_or_pos k with h0|h0
   ·subst h0;simp at this;omega
   ·exact h0
  have:=ih (n/10) hk1 this
  omega):p:=h
theorem Yr(h:p:=by
 have hci:=Vs (jq (fv l (ln l-1-k)) W2 V7 V7 (HT.o.below hi2.low (Vu _)))
 have HI:=Vs hi2
 clear hi2
 obtain⟨n,hn⟩:∃n,fv l (ln l-1-k)=n:=⟨_,rfl⟩
 rw[hn] at hci hfv hshort⊢
 have HN:=Vs hn
 clear hn
 by_cases hk0:k=0
 ·subst hk0
  have ht:decide (((ln l-1-0:Nat):Int)<(ln l:Int)-1)=Vw:=Wd
  gi_wp2_with(refine⟨trivial,?_⟩;first|(gi_at_call 182;refine(CallsIn.inRound lp (callsIn_wide.2 hci.o)).mono ?_;rintro e W3 ⟨rfl,hB3⟩;have H3:=Vs (HI.o.stays (aF.aZ hB3 (Vu _)) hsz);have c3:=H3.o.x.dZ)|(gi_at_call 181;skip))
  have h3:=H3.o
  obtain⟨p,hp,hb3⟩:=h3.bd
  have hsz3:=h3.low.size
  refine(CallsIn.inRound lp (callsIn_wide.2 (jo w.heap.size (w.heap.size+1) _ p [] _ (tx (Lib.itoa (n:Int))) W3 hb3 hp mS (by rw[Lib.byteCells_length,VM,ak];omega) hsz3))).mono ?_
  rintro e W6 ⟨rfl,hb6,hk6⟩
  clear h3 hp hb3
  gi_wp2
  refine sS HI.o ((bm.aZ hB3 hsz).trans hk6) ?_
  have e1:lP l (0+1)=lP l 0++Lib.itoa n:=by
   show lP l 0++pL VD _=_
   rw[HN.o];rfl
  rw[e1,<-List.append_assoc,cO]
  exact hb6
 ·have ht:decide (((ln l-1-k:Nat):Int)<(ln l:Int)-1)=VD:=Wn
  obtain⟨c,hc⟩:∃c:Nat,9-(Lib.itoa (n:Int)).length=c:=⟨_,rfl⟩
  have hcI:(9:Int)-((Lib.itoa (n:Int)).length:Int)=(c:Int):=V7
  have hc9:c<=9:=V7
  have HC:=Vs hc
  clear hc
  gi_wp2_with(refine⟨trivial,?_⟩;first|(gi_at_call 182;refine(CallsIn.inRound lp (callsIn_wide.2 hci.o)).mono ?_;rintro e W3 ⟨rfl,hB3⟩;have H3:=Vs (HI.o.stays (aF.aZ hB3 (Vu _)) hsz);have c3:=H3.o.x.dZ)|(gi_at_call 348;refine(CallsIn.inRound lp (callsIn_wide.2 (strings_Repeat ⟨#[48]⟩ c _ V7 (by show 1*c<=_;omega)))).mono ?_;rintro e W4 ⟨rfl,hB4⟩)|(gi_at_call 181;skip))
  have h3:=H3.o
  have h4:=h3.stays (aF.aZ hB4 (Vu _)) h3.low.size
  have k4:=(bm.aZ (b:=w.heap.size+1) hB3 hsz).trans (bm.aZ hB4 h3.low.size)
  obtain⟨p,hp,hb4⟩:=h4.bd
  have hsz4:=h4.low.size
  refine(CallsIn.inRound lp (callsIn_wide.2 (jo w.heap.size (w.heap.size+1) _ p [] _ (tx (Lib.repeatL [48] c)) W4 hb4 hp mS (by rw[Lib.byteCells_length,VM,ak,iV];omega) hsz4))).mono ?_
  rintro e W5 ⟨rfl,hb5,hk5⟩
  have HK5:=Vs (k4.trans hk5)
  have hsz5:=(h4.low.trans hk5.low).size
  clear h3 h4 hp hb4 k4 hk5
  gi_wp2_with(refine⟨trivial,?_⟩;gi_at_call 181;skip)
  refine(CallsIn.inRound lp (callsIn_wide.2 (jo w.heap.size (w.heap.size+1) _ _ [] _ (tx (Lib.itoa (n:Int))) W5 hb5 (.inr rfl) mS (by rw[VM,Lib.byteCells_length,VM,Lib.strCells_length,ak,ak,iV];omega) hsz5))).mono ?_
  rintro e W6 ⟨rfl,hb6,hk6⟩
  gi_wp2
  refine sS HI.o (HK5.o.trans hk6) ?_
  have e1:lP l (k+1)=lP l k++Lib.repeatL [48] c++Lib.itoa n:=by
   show lP l k++pL (k==0) _=_
   have e0:(k==0)=Vw:=by simpa using hk0
   rw[HN.o,e0,List.append_assoc,<-HC.o];rfl
  rw[e1,<-List.append_assoc,<-List.append_assoc,cO,cO]
  exact hb6):p:=h
theorem Ys(h:p:=by
 have e:fv (m++[d]) ((m++[d]).length-1)=d:=by unfold fv;simp
 rw[e];omega):p:=h
theorem Yt(h:p:=by
 go_enter func298,ntmps298
 go_wp2_with(first|(go_at_call 334;refine cw.o.mono ?_;rintro e w1 ⟨rfl,hB1⟩)|(go_at_call 243;refine(dC _ _).mono ?_;rintro e w2 ⟨rfl,rfl⟩))
 go_ret2
 rw[HR.o]
 exact⟨rfl,HB0.o.trans (hB1.mono HB0.o.size)⟩):p:=h
theorem Yu(h:p:=by
  have hw4 : k < ln s := by rw [ak] at hw2; exact hw2
  go_wp2
  all_goals first
    | (have hr : k = 0 \/ 8 < k \/ (1 < k /\ s.head? = Vz 48) := by
         first
           | omega
           | (rename_i h; simp only [beq_iff_eq] at h; omega)
           | (rename_i h; rcases h with (h | h) | h
              · simp only [beq_iff_eq] at h; omega
              · omega
              · exact .inr (.inr ⟨V7, mA WB⟩))
           | (rename_i h _; rcases h with (h | h) | h
              · simp only [beq_iff_eq] at h; omega
              · omega
              · exact .inr (.inr ⟨V7, mA WB⟩))
           | (rename_i h _ _; simp only [beq_iff_eq] at h; omega)
           | (rename_i h _; simp only [beq_iff_eq] at h; omega)
           | (rename_i h _ _ _; simp only [beq_iff_eq] at h; omega)
           | (rename_i h _ _ _ _; simp only [beq_iff_eq] at h; omega)
       exact bodyPost_ret (v := nt s) (by rw [oA HL.o hr]; simp [results, results292, go_sem]) rfl ⟨rfl, Below.refl _ _⟩)
    | (have hr : ¬ (k = 0 \/ 8 < k \/ (1 < k /\ s.head? = Vz 48)) := by
         first
           | omega
           | (rename_i h _ _; have h48 := ti (s := s) (by simpa using h.2); rintro (h1 | h1 | ⟨_, h1⟩) <;> first | omega | exact h48 h1)
       go_quiet (fail)
       go_wp2
       exact bodyPost_ret (v := nt s) (by rw [oF HL.o hr]; simp [lg, results, results292, go_sem]) rfl ⟨rfl, below_drewN (Below.refl _ _) _⟩)):p:=h
theorem Yv(h:p:=by
  simp only [beq_iff_eq] at h; omega):p:=h
theorem Yw(h:p:=by
 have h45:((((tx (c0::r))[0]'WQ).toNat:Int)==45)=Vw:=Wg
 clear hok ho hn hc0
 exact cU):p:=h
theorem Yx(h:p:=by
 have h45:((((tx (c0::r))[0]'WQ).toNat:Int)==45)=Vw:=Wg
 clear hok ho hn hd hc0
 exact cU):p:=h
theorem Yy(h:p:=by
 have h45:((((tx (c0::r))[0]'WQ).toNat:Int)==45)=Vw:=Wg
 clear hok ho hn hd2 hg hd hc0
 exact cU):p:=h
theorem Yz(h:p:=by
 rcases hwhy with hw|⟨hw2,hw3⟩|⟨hw2,hw3⟩
 ·go_wp2
  go_ret
  exact⟨cD (by rw[HR.o]),rfl⟩
 ·have hw4:k<ln s:=Xw
  go_wp2
  go_ret
  exact⟨cD (by rw[HR.o]),rfl⟩
 ·have hw4:k<ln s:=Xw
  go_wp2
  go_ret
  exact⟨cD (by rw[HR.o]),rfl⟩):p:=h
theorem YA(h:p:=by
 subst hi
 cases neg
 all_goals
  try have hz1:=hz1 rfl
  exact ia):p:=h
theorem YB(h:p:=by
 go_wp2_with(first|(go_at_call 182;refine ci.o.mono ?_;rintro e W1 ⟨rfl,hB1⟩;have hz1:=hB1.size)|(go_at_call 119;refine(kg B b 2 num _ (Lib.itoa n) W1 (HW.o.below hB1) V7 V7).mono ?_;rintro e W2 ⟨rfl,hw2,hk2⟩))
 refine⟨HN.o _ ((HK.o.trans (bm.aZ hB1 V7)).trans hk2) (by rw[HES.o.1,HES.o.2];exact hw2),Wc⟩):p:=h
theorem YC(h:p:=by
 obtain⟨k,hk,rfl,hall⟩:=hrel
 by_cases hlt:k<ln s
 ·have hb:k<(tx s).size:=by rw[ak];exact hlt
  have hx:(tx s)[k]'hb=s[k]:=rfl
  cases hn:pw s[k] with
  |true=>
   have hnx:F4 s (VZ VH ((k:Int)+1)):=⟨k+1,V7,Wa,by rw[List.take_succ_eq_append_getElem hlt,List.all_append,hall];simp[hn]⟩
   have HNX:=Vs hnx
   have hr:(97<=(((tx s)[k]'hb).toNat:Int)/\(((tx s)[k]'hb).toNat:Int)<=122)\/(65<=(((tx s)[k]'hb).toNat:Int)/\(((tx s)[k]'hb).toNat:Int)<=90)\/(48<=(((tx s)[k]'hb).toNat:Int)/\(((tx s)[k]'hb).toNat:Int)<=57):=by
    rw[hx]
    unfold pw at hn
    simp only[Bool.or_eq_true,Bool.and_eq_true,decide_eq_true_eq] at hn
    omega
   clear hnx hn hall hx
   rcases hr with⟨h1,h2⟩|⟨h1,h2⟩|⟨h1,h2⟩
   ·go_wp2
    all_goals first
     |exact⟨HNX.o,Wc⟩
     |(exfalso;omega)
   ·go_wp2
    all_goals first
     |exact⟨HNX.o,Wc⟩
     |(exfalso;omega)
   ·go_wp2
    all_goals first
     |exact⟨HNX.o,Wc⟩
     |(exfalso;omega)
  |false=>
   have HR:=Vs (show pX s=Vw by
    unfold pX
    have:s.all pw=Vw:=by
     rw[Bool.eq_false_iff]
     intro h
     rw[List.all_eq_true] at h
     have:=h _ (List.getElem_mem hlt)
     rw[hn] at this;cases this
    rw[this];rfl)
   have hr:((((tx s)[k]'hb).toNat:Int)<48)\/(57<(((tx s)[k]'hb).toNat:Int)/\(((tx s)[k]'hb).toNat:Int)<65)\/(90<(((tx s)[k]'hb).toNat:Int)/\(((tx s)[k]'hb).toNat:Int)<97)\/(122<(((tx s)[k]'hb).toNat:Int)):=by
    rw[hx]
    unfold pw at hn
    simp only[Bool.or_eq_false_iff,Bool.and_eq_false_iff,decide_eq_false_iff_not] at hn
    omega
   clear hn hall hx
   rcases hr with h1|⟨h1,h2⟩|⟨h1,h2⟩|h1
   ·go_wp2
    all_goals first
     |(go_ret;exact⟨We,rfl⟩)
     |(exfalso;omega)
   ·go_wp2
    all_goals first
     |(go_ret;exact⟨We,rfl⟩)
     |(exfalso;omega)
   ·go_wp2
    all_goals first
     |(go_ret;exact⟨We,rfl⟩)
     |(exfalso;omega)
   ·go_wp2
    all_goals first
     |(go_ret;exact⟨We,rfl⟩)
     |(exfalso;omega)
 ·have e:s.take k=s:=List.take_of_length_le V7
  rw[e] at hall
  have HA:=Vs hall
  have hlt':decide ((k:Int)<(ln s:Int))=Vw:=Wd
  clear hall e
  cases s with
  |nil=>
   go_wp2
   go_ret
   exact⟨rfl,rfl⟩
  |cons b r=>
   have HR:=Vs (show pX (b::r)=decide ((ln r:Int)+1<=16) by
    unfold pX
    rw[HA.o]
    simp
    omega)
   have hle:(ln r:Int)+1<=(k:Int):=by simp at hlt;omega
   have hlt2:decide ((k:Int)<(ln r:Int)+1)=Vw:=Wd
   go_wp2
   go_ret
   exact⟨We,rfl⟩):p:=h
theorem YE(h:p:=by
 clear h1 X h7 h8 hl h4
 go_enter func124,ntmps124
 go_wp2
 go_ret
 exact⟨rfl,HS.o,bK.set w lo 0 _⟩):p:=h
theorem YF(h:p:=by
 go_wp2
 go_ret
 exact⟨rfl,by rw[HR.o];exact HS.o VD,K2.o.trans (bK.set _ lo 1 _)⟩):p:=h
theorem YG(h:p:=by
 rw[VK] at this
 exact this):p:=h
theorem YH(h:p:=by
 have:(w.setRow n cs).heap[c]?=w.heap[c]?:=by simp only[World.setRow,Array.getElem?_modify];rw[if_neg (Ne.symm hn)]
 exact this.trans h):p:=h
theorem YI(h:p:=by
 rintro a' w' ⟨v,rfl,hx,hv,hf⟩
 refine ih _ _ w' (inv.set hi hin) (sW hin Xb hun' hu) ⟨hD _ _ hI.d hx,λj hj hl=> ?_,λj k hj hk hjk h1 h2 h3 h4=> ?_⟩
 ·by_cases hji:j=i
  ·subst hji;simpa using hv
  ·rw[getD_set_ne Vw (Ne.symm hji)] at hl
   simp only[if_neg hji]
   exact hV _ _ _ _ (hI.v j hj hl) hx
 ·by_cases hji:j=i
  ·subst hji
   rw[getD_set_ne Vw hjk] at h4
   simp only[if_pos,if_neg (Ne.symm hjk)]
   obtain⟨b,rfl,hb⟩:=hf h1
   obtain⟨b',e',hb'⟩:=hfr k _ _ hk h2 (hI.v k hk h4)
   rw[e']
   intro h;injection h with h;injection h with h;injection h with h;omega
  ·rw[getD_set_ne Vw (Ne.symm hji)] at h3
   by_cases hki:k=i
   ·subst hki
    simp only[if_pos,if_neg hji]
    obtain⟨b,rfl,hb⟩:=hf h2
    obtain⟨b',e',hb'⟩:=hfr j _ _ hj h1 (hI.v j hj h3)
    rw[e']
    intro h;injection h with h;injection h with h;injection h with h;omega
   ·rw[getD_set_ne Vw (Ne.symm hki)] at h4
    simp only[if_neg hji,if_neg hki]
    exact hI.ne j k hj hk hjk h1 h2 h3 h4):p:=h
theorem YJ(h:p:=by
 rcases Nat.lt_or_ge i n with h|h
 ·exact h
 ·exact absurd hi (tail_waits hs hc hn inv (n-i0) i0 rfl hi0 (getD_in hi0s hun0) i h)):p:=h
theorem YK(h:p:=by
 have ho:ops[i0]?=Vz (ops[i0]'V7):=Array.getElem?_eq_getElem V7
 have:i0∈Region.ready md ops listed:=mem_ready.2 ⟨getD_in hi0s hun0,_,ho,λe he _=>hbef _ (lR hlex hi0 ho e he)⟩
 rw[h0] at this;cases this):p:=h
theorem YL(h:p:=by
 exact tail vs w hI.d (λi hi=>hI.v i hi (hall i hi)) (λi j hi hj hij h1 h2=>hI.ne i j hi hj hij h1 h2 (hall i hi) (hall j hj))):p:=h
theorem YM(h:p:=by
 apply Array.ext
 ·simp[inv.size];omega
 ·intro i h1 h2
  rw[inv.size] at h1
  by_cases hi:i<n
  ·have:=hall i hi
   simp[inv.size,h1] at this
   rw[Array.getElem_append_left Xl]
   simp[this]
  ·have:=inv.tail i V7 h1
   simp[inv.size,h1] at this
   rw[Array.getElem_append_right Xl]
   simp[this]):p:=h
theorem YN(h:p:=by
 exact⟨hl,.inl h0⟩):p:=h
theorem YO(h:p:=by
 obtain⟨_,⟨rfl,_⟩|⟨g,cap,cur,rfl,_⟩⟩:=h
 ·exact⟨_,_,_,rfl⟩
 ·exact⟨_,_,_,rfl⟩):p:=h
theorem YP(h:p:=by
 exact⟨Vx,0,by rw[h0],V7,Wh,λhp=>V7⟩):p:=h
theorem YQ(h:p:=by
 go_enter func351,ntmps351
 go_wp2
 go_ret2
 exact⟨vN E1.o rfl,rfl⟩):p:=h
theorem YR(h:p:=by
 rw[en];unfold fv
 rw[Vv,List.getElem?_append_right (by rw[bn];omega),bn];simp):p:=h
theorem YS(h:p:=by
 rw[en];unfold fv;simp[List.getElem?_append_left,bn,hi]):p:=h
theorem YT(h:p:=by
 go_wp2
 go_ret
 exact⟨We,rfl⟩):p:=h
theorem YU(h:p:=by
 unfold ai at *;simp[World.setCell,Array.getElem?_modify,h]):p:=h
theorem YV(h:p:=by
 go_enter func197,ntmps197
 go_wp2
 go_ret
 exact⟨We,fh _ _ _⟩):p:=h
theorem YW(h:p:=by
 rintro e W1 ⟨rfl,hX⟩
 exact hK _ _ ⟨tL a b c w.heap.size _,by simp[d0,d1,tL],hX,rfl,λh=>Wb⟩):p:=h
theorem YX(h:p:=by
 rintro e W1 ⟨rfl,hX⟩
 exact hK _ _ ⟨tL a b c w.heap.size _,by simp[d0,tL],hX,rfl,λh=>Wb⟩):p:=h
theorem YY(h:p:=by
 simp only[tL] at d0
 go_simp
 exact hK _ _ ⟨tL a b c w.heap.size _,by simp[d0,tL],Ext.aC _,rfl,λh=>Wb⟩):p:=h
theorem YZ(h:p:=by
 refine VE rfl (λK hK=> ?_)
 go_simp
 exact hK _ _ ⟨_,rfl,Ext.aC _,rfl,λh=>Wb⟩):p:=h
theorem Y1(h:p:=by
 refine VE rfl (λK hK=> ?_)
 go_simp
 exact hK _ _ ⟨_,rfl,(Below.refl _ _).alloc (Vu _) _,⟨_,rfl,hD.size,ai.new _ _ _⟩,λ_=>⟨_,rfl,Vu _⟩⟩):p:=h
theorem Y4(h:p:=by
 simp[List.getD,VA hi]):p:=h
theorem Y5(h:p:=by
 have HP:=Vs (show kS r x y k=Vw by rw[HO.o,t1,t2,t3,t4];rfl)
 gi_wp2_with(first
  |(refine⟨trivial,?_⟩;gi_at_call 193;refine(CallsIn.inRound l (callsIn_wide.2 (bE own _))).mono ?_;rintro e W3 ⟨rfl,hX3⟩;have E3:Ext W2 (W3.alloc (.cells (lF own.x own.y).toArray 229)):=hX3.tr ((Below.refl _ _).alloc (Vu _) _);have Q3:=ai.new W3 229 (lF own.x own.y))
  |(refine bN (aX _ _) rfl 227 (.tmp 7) rfl W.heap.size rfl 227 _ (0,0) _ (R2.ext E3) underlying227 rfl V8 ?_)
  |(refine⟨trivial,?_⟩;gi_at_call 195;refine(CallsIn.inRound l (callsIn_wide.2 (jm (eL r k) own beh _ hox hoy hbx hby))).mono ?_;rintro e W5 ⟨rfl,hX5⟩;have E5:=E3.tr hX5;have cA5:=λi=>(R2.ext E5).cell i;have cP5:=λi=>(P2.ext E5).cell i;have cQ5:=λi=>(Q3.ext hX5).cell i;have S5:=S2.stays (E5.stays (n0:=0) (Nat.zero_le _));have cS5:=S5.cell;have fS5:=S5.frozen))
 exact⟨E5.keeps,tJ I2.o HP.o E5⟩):p:=h
theorem Y6(h:p:=by
 have HP:=Vs (show kS r x y k=VD by rw[HO.o,t1,t2,t3,t4];rfl)
 gi_wp2_with(first
  |(refine⟨trivial,?_⟩;gi_at_call 193;refine(CallsIn.inRound l (callsIn_wide.2 (bE own _))).mono ?_;rintro e W3 ⟨rfl,hX3⟩;have E3:Ext W2 (W3.alloc (.cells (lF own.x own.y).toArray 229)):=hX3.tr ((Below.refl _ _).alloc (Vu _) _);have Q3:=ai.new W3 229 (lF own.x own.y))
  |(refine bN (aX _ _) rfl 227 (.tmp 7) rfl W.heap.size rfl 227 _ (0,0) _ (R2.ext E3) underlying227 rfl V8 ?_)
  |(refine⟨trivial,?_⟩;gi_at_call 195;refine(CallsIn.inRound l (callsIn_wide.2 (jm (eL r k) own beh _ hox hoy hbx hby))).mono ?_;rintro e W5 ⟨rfl,hX5⟩;have E5:=E3.tr hX5;have cA5:=λi=>(R2.ext E5).cell i;have cP5:=λi=>(P2.ext E5).cell i;have cQ5:=λi=>(Q3.ext hX5).cell i;have S5:=S2.stays (E5.stays (n0:=0) (Nat.zero_le _));have cS5:=S5.cell;have fS5:=S5.frozen))
 refine⟨E5.keeps.trans (KeepsOthers.setCell _ _ _),?_⟩
 have I5:=I2.o.stays (E5.stays (n0:=w.heap.size) (by have:=I2.o.low.size;omega)) (Vu _)
 refine⟨I5.p.dz Wa _,?_,I5.it.dz Wa _,?_,?_⟩
 ·rw[nf,if_pos HP.o,HOD.o];exact S5.put _
 ·exact I5.sl.below ((Below.refl _ _).setCell (p:=⟨w.heap.size+1,0,Vx⟩) Wa _)
 ·exact I5.low.setCell (p:=⟨w.heap.size+1,0,Vx⟩) Wa _):p:=h
theorem Y7(h:p:=by
 gi_wp2_with(first
  |(refine⟨trivial,?_⟩;gi_at_call 193;refine(CallsIn.inRound l (callsIn_wide.2 (bE own _))).mono ?_;rintro e W3 ⟨rfl,hX3⟩;have E3:Ext W2 (W3.alloc (.cells (lF own.x own.y).toArray 229)):=hX3.tr ((Below.refl _ _).alloc (Vu _) _);have Q3:=ai.new W3 229 (lF own.x own.y))
  |(refine bN (aX _ _) rfl 227 (.tmp 7) rfl W.heap.size rfl 227 _ (0,0) _ (R2.ext E3) underlying227 rfl V8 ?_)
  |(refine⟨trivial,?_⟩;gi_at_call 195;refine(CallsIn.inRound l (callsIn_wide.2 (jm (eL r k) own beh _ hox hoy hbx hby))).mono ?_;rintro e W5 ⟨rfl,hX5⟩;have E5:=E3.tr hX5;have cA5:=λi=>(R2.ext E5).cell i;have cP5:=λi=>(P2.ext E5).cell i;have cQ5:=λi=>(Q3.ext hX5).cell i;have S5:=S2.stays (E5.stays (n0:=0) (Nat.zero_le _));have cS5:=S5.cell;have fS5:=S5.frozen))
 exact⟨E5.keeps,tJ I2.o HP.o E5⟩):p:=h
theorem Y8(h:p:=by
  refine VE rfl (λK hK => ?_)
  go_simp
  exact hK _ _ ⟨_, rfl, (Below.refl _ _).alloc (Vu _) _, ⟨_, rfl, hD.size, ai.new _ _ _⟩, λ_ => ⟨_, rfl, Vu _⟩⟩):p:=h
theorem Y9(h:p:=by
  refine VE rfl (λK hK => ?_)
  go_simp
  exact hK _ _ ⟨_, rfl, Ext.aC _, rfl, λh => Wb⟩):p:=h
theorem Za(h:p:=by
 obtain⟨h1,h2,h3⟩:=h
 refine⟨h1,h2,λhn=> ?_⟩
 obtain⟨b,off,e,hB,hc⟩:=h3 hn
 refine⟨b,off,e,V7,λi hi=> ?_⟩
 obtain⟨Ai,ci,h4,h5⟩:=hc i hi
 exact⟨Ai,ci,h4,h5.more hb⟩):p:=h
theorem Zb(h:p:=by
 go_wp2_with(go_at_call 198;go_must(refine ca.o.mono ?_);rintro e W1 ⟨rfl,hX1⟩)
 go_ret
 exact⟨by rw[HP.o];rfl,HLOW.o.tr hX1⟩):p:=h
theorem Zc(h:p:=by
 have HZ:=Vs (show zO rs i k=Vw by rw[HOP.o];rfl)
 clear HOP
 go_wp2
 refine⟨HNX.o HZ.o _ (Below.refl _ _),Wc⟩):p:=h
theorem Zd(h:p:=by
 go_wp2_with(go_at_call 294;refine K1.o.mono ?_;rintro e w1 ⟨rfl,hB1⟩)
 go_ret2
 rw[HR.o]
 exact⟨rfl,hB1⟩):p:=h
theorem Ze(h:p:=by
 go_enter func271,ntmps271
 go_wp2_with(first
  |(go_at_call 242;go_must(refine cr.o.mono ?_);rintro e W1 ⟨x,y,rfl,hp,hX1⟩;obtain⟨n',d',e1,rfl,rfl⟩:=hp rfl;rw[HC.o] at e1;obtain⟨rfl,rfl⟩:n=n'/\d=d':=by{injection e1 with e1;injection e1 with e2 e3;exact⟨e2,e3⟩})
  |(go_at_call 243;go_must(refine(dC _ _).mono ?_);rintro e W2 ⟨rfl,rfl⟩;rw[HO.o]))
 go_ret
 exact⟨We,hX1⟩):p:=h
theorem Zf(h:p:=by
 go_enter func201,ntmps201
 go_wp2_with(first
  |(go_at_call 240;go_must(refine KN.o.mono ?_);rintro e W1 ⟨rfl,hX1⟩;have q1:=λi=>(R1.o.ext hX1).cell i;have HX1:=Vs (Ext.tr E2.o hX1);have HR:=Vs (R1.o.ext hX1);clear hX1)
  |(go_at_call 241;((with_reducible refine(K1.o _ HX1.o).mono ?_);rintro e W2 ⟨rfl,hX2⟩;have q2:=λi=>(HR.o.ext hX2).cell i;have HX2:=Vs (Ext.tr HX1.o hX2);clear hX2))
  |(go_at_call 241;((with_reducible refine(K2.o _ HX2.o).mono ?_);rintro e W3 ⟨rfl,hX3⟩)))
 go_ret
 exact⟨Wy,Ext.tr HX2.o hX3⟩):p:=h
theorem Zg(h:p:=by
 refine⟨⟨k+1,V7,Wa,?_,ei HXW.o hgr' (λq hq=>(az HOW.o q hq).1)⟩,Wc⟩
 rw[HQ.o,aD,List.map_append,List.flatten_append,VM]
 exact hown'):p:=h
theorem Zh(h:p:=by
 rw[hm]
 have HQ:=Vs hq2
 have HM:=Vs hm
 have HD:=Vs hd
 clear hcell hsl hq hq2 hm hd hle
 go_wp2
 go_round
 case rel=>exact⟨k+1,V7,by go_num,by rw[HQ.o,HM.o,HD.o]⟩
 case measure=>simp[VN];omega):p:=h
theorem Zi(h:p:=by
 rintro a' w' ⟨v,rfl,hv⟩
 refine ih _ _ w' (inv.set hi hin) (sW hin Xb hun' hu) ?_
 rw[yo Xb]
 exact hv):p:=h
theorem Zj(h:p:=by
 rw[h] at hh
 injection hh with hh;injection hh with _ h2 _
 exact hne h2):p:=h
theorem Zk(h:p:=by
 go_ret
 exact⟨We,E0.o⟩):p:=h
theorem Zl(h:p:=by
 go_wp2
 go_quiet (fail)
 go_wp2
 refine⟨⟨k+1,V7,Wa,below_drewN (HEX.o _) _,λj hj=> ?_⟩,Wc⟩
 by_cases hjk:j=k
 ·rw[hjk];exact HZ.o
 ·exact HA.o j V7):p:=h
theorem Zm(h:p:=by
 clear hbad
 go_wp2
 go_ret
 exact⟨Wq,E0.o.tr (HEX.o _)⟩):p:=h
theorem Zn(h:p:=by
 go_wp2
 go_ret
 exact⟨Wq,HX.o⟩):p:=h
theorem Zo(h:p:=by
 have HE:=Vs (HV.o 2 (by rw[HF.o,if_neg V7,if_pos (.inr b4)]) V9)
 go_wp2
 go_ret
 exact⟨Wq,EX.o _⟩):p:=h
theorem Zp(h:p:=by
 have HE:=Vs (HV.o 2 (by rw[HF.o,if_neg V7,if_pos (.inl b3)]) V9)
 go_wp2
 go_ret
 exact⟨Wq,EX.o _⟩):p:=h
theorem Zq(h:p:=by
 have HE:=Vs (HV.o 8 (by rw[HF.o,if_pos (.inr b2)]) V9)
 go_wp2
 go_ret
 exact⟨Wq,EX.o _⟩):p:=h
theorem Zr(h:p:=by
 have d1:decide (kd<1)=VD:=by rw[decide_eq_true_eq];exact b1
 have HE:=Vs (HV.o 8 (by rw[HF.o,if_pos (.inl b1)]) V9)
 go_wp2
 go_ret
 exact⟨Wq,EX.o _⟩):p:=h
theorem Zs(h:p:=by
 go_enter func144,ntmps144
 go_wp2_with(first
  |(go_at_call 183;go_must(refine K1.o.mono ?_);rintro e W1 ⟨rfl,hX1⟩)
  |(go_at_call 206;go_must(refine(K3.o _).mono ?_);rintro e W3 ⟨rfl,rfl⟩)
  |(go_at_call 205;go_must(refine(K2.o _ hX1).mono ?_);rintro e W2 ⟨rfl,hX2⟩))
 go_ret
 exact⟨Wy,Ext.tr hX1 hX2⟩):p:=h
theorem Zt(h:p:=by
 go_wp2_with(go_at_call 146;go_must(refine(gN _ _ _ _).mono ?_);rintro e W1 ⟨rfl,rfl⟩;rw[t1])
 go_ret
 exact⟨rfl,rfl⟩):p:=h
theorem Zu(h:p:=by
 rw[rounds_succ]
 go_wp2
 rw[rounds_succ]
 go_wp2
 rw[rounds_succ]
 go_wp2
 go_ret
 exact⟨We,rfl⟩):p:=h
theorem Zv(h:p:=by
 rw[rounds_succ]
 go_wp2
 rw[rounds_succ]
 go_wp2
 go_ret
 exact⟨We,rfl⟩):p:=h
theorem Zw(h:p:=by
 rw[rounds_succ]
 go_wp2
 go_ret
 exact⟨We,rfl⟩):p:=h
theorem Zx(h:p:=by
 go_enter func73,ntmps73
 go_wp2_with(go_at_call 143;go_must(refine(ji _ _ _ _).mono ?_);rintro e W1 ⟨rfl,rfl⟩;first|rw[t1]|rw[t2]|rw[t3]|rw[t4]|skip)
 go_ret
 exact⟨We,E0.o⟩):p:=h
theorem Zy(h:p:=by
 go_wp2_with(go_at_call 64;go_must(refine(gM _ _ _ _).mono ?_);rintro e W1 ⟨rfl,rfl⟩;rw[tb])
 refine⟨⟨k+1,V7,Wa,trivial,λj hj=> ?_⟩,Wc⟩
 by_cases hjk:j=k
 ·rw[hjk];exact HZ.o
 ·exact HA.o j V7):p:=h
theorem Zz(h:p:=by
 go_wp2_with(go_at_call 64;go_must(refine(gM _ _ _ _).mono ?_);rintro e W1 ⟨rfl,rfl⟩;rw[tb])
 go_ret
 exact⟨Wq,rfl⟩):p:=h
theorem ZA(h:p:=by
 have:=hcell (k-1) V7 0 V9
 rwa[gL V7,Nat.one_mul,Nat.add_zero] at this):p:=h
theorem ZB(h:p:=by
 rw[bt (λr hr=>hw r (List.mem_of_mem_take hr)),List.length_take,Nat.min_eq_left hm]):p:=h
theorem ZC(h:p:=by
 obtain⟨s,_,rfl⟩:=List.mem_map.1 hr;simp at hu;rcases hu with rfl|rfl|rfl|rfl|rfl<;>rfl):p:=h
theorem ZD(h:p:=by
 obtain⟨s,_,rfl⟩:=List.mem_map.1 hr;simp at hu;rcases hu with rfl|rfl|rfl<;>rfl):p:=h
theorem ZE(h:p:=by
 clear hA1 hRG hpos
 go_wp2_with(first
  |(refine wpList_append_own _ rfl _ _ 22 rfl W0.heap.size 80 i0 (VV Vx 0 0) 1 24 underlying22 I0.o I1.o I2.o I3.o rfl V9 _ _ _ rfl HO2.o ⟨W1.heap.size,0,Vx⟩ 1 1 [VV A1 (ln ring) c1] rfl rfl (Vt.news_of_block (cs:=#[VV A1 (ln ring) c1]) (t:=80) (fr:=(0,0)) NB.o) Xx Wh V7 (VI HX.o.size HW2.o.size) ?_;intro v' w2 hown hgrow _;have HOW:=Vs hown;have HGR:=Vs hgrow;obtain⟨A3,n3,c3,hv3⟩:=ng.of hown;subst hv3;have b3:=((HBX.o.below HW2.o HBX.o.lt).grown HO2.o hgrow V9).cell;have f3:=((HBX.o.below HW2.o HBX.o.lt).grown HO2.o hgrow V9).frozen;clear hown hgrow)
  |(go_at_call 149;go_must(refine KC.o.mono ?_);rintro e W1 ⟨v1,rfl,ho1,hX1⟩;obtain⟨A1,c1,hv1,_⟩:=aK ho1 (VC _) (dG ring);subst hv1;have b1:=(HBX.o.below hX1 HBX.o.lt).cell;have HO1:=Vs ho1;have HW2:=Vs (hX1.tr ((Below.refl _ _).alloc (Vu _) (.cells #[VV A1 (ln ring) c1] 80)));have b2:=(HBX.o.below HW2.o HBX.o.lt).cell;have HO2:=Vs (aO HO.o HW2.o);have NB:=Vs (Bx.new W1 80 (VV A1 (ln ring) c1));have HV1:=Vs (dA (aO ho1 ((Below.refl _ _).alloc (Vu _) (.cells #[VV A1 (ln ring) c1] 80))) HX.o.size);clear ho1 hX1))
 go_round
 case rel=>exact⟨k+1,_,_,V7,by go_num,rfl,rfl,HA1.o.trans (by first|rfl|simp[IntWalk.i64_left]),zb HX.o HBX.o HO.o HVL.o HVR.o HW2.o (by rw[HRG.o];exact HV1.o) HOW.o HGR.o HPB.o⟩
 case measure=>simp[VN];omega):p:=h
theorem ZF(h:p:=by
 all_goals
  intro v' w1 hown hgrow hnil
  go_wp2
  go_ret
  exact HF.o v' w1 hown hgrow):p:=h
theorem ZG(h:p:=by
 intro v' w1 hown hgrow hnil
 go_wp2
 go_ret
 exact HF.o v' w1 (by rw[Nat.zero_add];exact hown) hgrow):p:=h
theorem ZH(h:p:=by
 intro v' w1 hown hgrow
 rw[HM.o] at hown
 refine⟨v',rfl,by simpa using hown,(Below.refl base w).grown hgrow hbw (λq hq=>(az HO.o q hq).1)⟩):p:=h
theorem ZI(h:p:=by
 intro W hW hbW
 refine⟨_,rfl,⟨hlenF,.inr ⟨g,cap,_,by rw[hm],hb,setRow_heap (by rw[hW];exact hh1) _,hroom2,Wh,hc2,htk⟩⟩,ah (hbW hb1) (Vu _) _⟩):p:=h
theorem ZJ(h:p:=by
 rw[rQ Xm (by simp only[List.size_toArray,hBl,h3];omega),hB,List.size_toArray]):p:=h
theorem ZK(h:p:=by
 intro t u hu
 have ht:t<ln B:=(List.getElem?_eq_some_iff.1 hu).1
 rw[<-hB,<-j7 hw V7,List.getElem?_drop,<-h4,List.getElem?_take] at hu
 rw[if_pos (by rw[hBl] at ht;omega)] at hu
 rw[show w.cell? ⟨g,i*5+t,Vx⟩=cur[i*5+t]? by simp[World.cell?,hh]]
 simpa using hu):p:=h
theorem ZL(h:p:=by
 intro u hu
 rw[<-hB] at hu
 obtain⟨r,hr,hur⟩:=List.mem_flatten.1 hu
 exact hone r (List.mem_of_mem_drop hr) u hur):p:=h
theorem ZM(h:p:=by
 rw[uZ Xm (by simp only[List.size_toArray,hBl,hRl];omega),hB,List.size_toArray]):p:=h
theorem ZN(h:p:=by
 rw[<-hROW,Array.toList_append,Array.toList_append,List.append_assoc,List.take_left' hol]):p:=h
theorem ZO(h:p:=by
 intro t u hu
 have ht:t<ln B:=(List.getElem?_eq_some_iff.1 hu).1
 rw[<-hB,<-j7 hw V7,List.getElem?_drop,<-h4,List.getElem?_take] at hu
 rw[if_pos (by rw[hBl] at ht;omega)] at hu
 rw[show w.cell? ⟨g,i*1+t,Vx⟩=cur[i*1+t]? by simp[World.cell?,hh]]
 simpa using hu):p:=h
theorem ZP(h:p:=by
 all_goals simp[go_sem, *]):p:=h
theorem ZQ(h:p:=by
 go_wp2_with fail
 go_quiet (fail)
 go_wp2
 exact⟨⟨m+1,V7,Wa,below_drewN HX.o _⟩,Wc⟩):p:=h
theorem ZR(h:p:=by
 go_wp2
 go_ret
 exact⟨rfl,HX.o⟩):p:=h
theorem ZS(h:p:=by
 have tlt:decide ((m:Int)<(ln l:Int))=Vw:=decide_eq_false V7
 go_wp2
 go_ret
 exact⟨rfl,HX.o⟩):p:=h
theorem ZT(h:p:=by
 rwa[gL hj,Nat.one_mul,Nat.add_zero] at this):p:=h
theorem ZU(h:p:=by
 rw[aU q];rw[af q] at hk;exact a k hk hh):p:=h
theorem ZV(h:p:=by
 rw[af (k:=10) V9,hL];intro h;cases h):p:=h
theorem ZW(h:p:=by
 go_simp
 exact hK _ _ ⟨v,by simp[bA,ht],hn⟩):p:=h
theorem ZX(h:p:=by
 refine VE rfl (λK hK=> ?_)
 go_simp
 exact hK _ _ ⟨_,by simp[bA,ju],HI.o.pure V9 rfl⟩):p:=h
theorem ZY(h:p:=by
 refine VE rfl (λK hK=> ?_)
 go_simp
 exact hK _ _ ⟨_,by simp[bA,tN],HI.o.pure V9 rfl⟩):p:=h
theorem ZZ(h:p:=by
 refine VE rfl (λK hK=> ?_)
 go_simp
 exact hK _ _ ⟨_,by simp[bA,rz],HI.o.pure V9 rfl⟩):p:=h
theorem Z4(h:p:=by
 clear hs
 go_enter func224,ntmps224
 go_wp2
 go_ret
 exact⟨rfl,rfl⟩):p:=h
theorem Z6(h:p:=by
 rw[aU e];rw[af e] at hm;exact h.vals m hm hl):p:=h
theorem Z7(h:p:=by
 injection e with e;injection e with e;injection e with e
 have:=hr.lt
 omega):p:=h
theorem Z8(h:p:=by
 rw[Vv,List.getElem?_eq_none V7];exact Nat.zero_le _):p:=h
theorem Z9(h:p:=by
 clear hne ha hb
 go_enter func316,ntmps316
 go_wp2
 go_ret
 exact⟨HQ.o,Below.refl _ _⟩):p:=h
theorem a0a(h:p:=by
 go_wp2_with(go_at_call 311;go_must(refine CT.o.mono ?_);rintro e W1 ⟨rfl,rfl⟩)
 go_ret
 exact HS.o):p:=h
theorem a0b(h:p:=by
 go_wp2_with fail
 go_quiet ((go_at_call 313;exact Calls.quiet_of_same (uy _ w.heap.size _ b k sb V7)))
 go_wp2
 have ep:((fv a i:Int)*(fv b k:Int))=((fv a i*fv b k:Nat):Int):=Wa
 rw[ep] at lA⊢
 have e1:((fv u' (i+k):Int)+((fv a i*fv b k:Nat):Int)+c)/1000000=(((fv u' (i+k)+fv a i*fv b k+c)/1000000:Nat):Int):=V7
 have e2:((fv u' (i+k):Int)+((fv a i*fv b k:Nat):Int)+c)%1000000=(((fv u' (i+k)+fv a i*fv b k+c)%1000000:Nat):Int):=V7
 rw[e1,e2]
 exact⟨HN.o _,Wc⟩):p:=h
theorem a0c(h:p:=by
 rw[Vv,VA Xp]
 simp[ByteArray.getElem_eq_getElem_data]):p:=h
theorem a0d(h:p:=by
 have HF:=Vs hfin
 rw[hq] at CT
 clear hM hk hM2 hsl hst hq hl51 r1 r2 r3 hxx hfin
 go_wp2_with(go_at_call 311;go_loud (refine CT.o.mono ?_);rintro e W1 ⟨rfl,rfl⟩)
 have q0:=HQ0.o
 have q1:=HQ1.o
 exact bodyPost_ret (v:= V5 #[VX Vw,VV A4 q c4]) (by simp[results,results282,go_sem,q0,q1]) rfl HF.o):p:=h
theorem a0e(h:p:=by
 have hne:=az hM2.own
 have h3:=bP (bP (bP hM2.own (p:=⟨w.heap.size+1,1,Vx⟩) (λh=>Xz) (VV A4 q c4)) (p:=⟨w.heap.size,0,Vx⟩) (λh=>WL) (VX Vw)) (p:=⟨w.heap.size,1,Vx⟩) (λh=>WL) (VV A4 q c4)
 subst hq
 exact(dd h3 rfl).trimmed):p:=h
theorem a0f(h:p:=by
 obtain⟨e,rfl⟩:∃e:Nat,k=(e:Int):=⟨k.toNat,V7⟩
 obtain⟨b,hb⟩:∃b,e-6=b:=⟨_,rfl⟩
 have w1:VH.wrap ((e:Int)-6)=(e:Int)-6:=VQ _ V7
 have hmx:max (0:Int) ((e:Int)-6)=(b:Int):=V7
 have hey:e<=z.size:=V7
 clear hM hk
 go_wp2_with fail
 go_loopw [5,6] (λn i wi=>GA z wr b e n i wi) (λ_ i _=>((e:Int)-VN i).toNat)
 case atStart=>exact⟨0,b,rfl,rfl,Vu _,V7,Wa,Wa,rfl⟩
 case round=>
  obtain⟨x,j,rfl,rfl,hbj,hje,hx,hxv,rfl⟩:=hrel
  have HXV:=Vs hxv
  clear hxv
  by_cases hlt:j<e
  ·have hjy:j<z.size:=V7
   have hd:=YD.o j (Nat.zero_le _) hjy hjy
   obtain⟨c,hc⟩:∃c:Nat,((z[j]'hjy).toNat:Int)=c:=⟨_,rfl⟩
   rw[hc] at hd
   obtain⟨g,rfl⟩:∃g:Nat,c=48+g:=⟨c-48,V7⟩
   have hx6:=nL hx V7
   have NX:=Vs (zF (c:=g) hx hbj V7)
   have hq:(((z[j]'hjy).toNat:Int)-48)%256=(g:Int):=by rw[hc];omega
   have hu:VH.wrap (g:Int)=g:=VQ _ V7
   have NVV:=Vs (rd_val HXV.o (iR hjy hc) hbj)
   clear hc hx
   go_wp2
   exact⟨⟨10*x+g,j+1,Wa,Wa,V7,V7,NX.o,NVV.o,rfl⟩,Wc⟩
  ·obtain rfl:j=e:=V7
   have hx6:=nL hx V7
   have hfl:¬(j:Int)<j:=V7
   have hres:=HM.o.num.cell 1
   have hfr:=HM.o.num.frozen 1
   have hbx:VS (w.heap.size+2) wr (wr.alloc (.cells #[VZ VH (x:Int)] 3)):=(Below.refl _ _).alloc (by have:=HM.o.num.lt;omega) _
   have HOX:=Vs (aO HM.o.own ((Below.refl _ _).alloc (Vu _) (.cells #[VZ VH (x:Int)] 3)))
   have hbase:w.heap.size+2<=(wr.alloc (.cells #[VZ VH (x:Int)] 3)).heap.size:=XG
   have hll:ln l<=100:=by have:=HK.o;omega
   have HN:=Vs (oq HM.o hx6)
   clear hx hbx
   go_wp2_with(at_builtin;(refine wpList_append_own _ rfl _ _ _ rfl (w.heap.size+2) 3 i0 _ 1 8 underlying25 I0.o I1.o I2.o I3.o rfl V7 _ _ _ rfl HOX.o ⟨wr.heap.size,0,Vx⟩ 1 1 [VZ VH (x:Int)] rfl Wl (λj u hj=>Wk) WR Wh V7 hbase ?_);intro v' w' hown' hgr' hnil;obtain⟨A4,n4,c4,e4⟩:=ng.of hown';subst e4;obtain⟨hn0,hn1,hn2⟩:=HN.o _ w' hown' hgr';have HN2:=Vs hn2;clear hn2)
   exact⟨⟨(j:Int)-6,_,l++[x],rfl,XH,V7,Ws,HN2.o⟩,Wc⟩):p:=h
theorem a0g(h:p:=by
 have HF:=Vs hfin
 rw[hq] at CT
 clear hM hk hM2 hsl hst hq hl51 r1 r2 r3 hxx hfin
 go_wp2_with(go_at_call 311;go_loud (refine CT.o.mono ?_);rintro e W1 ⟨rfl,rfl⟩)
 have q0:=HQ0.o
 have q1:=HQ1.o
 exact bodyPost_ret (v:= V5 #[VX VD,VV A4 q c4]) (by simp[results,results282,go_sem,q0,q1]) rfl HF.o):p:=h
theorem a0h(h:p:=by
 have hne:=az hM2.own
 have h3:=bP (bP (bP hM2.own (p:=⟨w.heap.size+1,1,Vx⟩) (λh=>Xz) (VV A4 q c4)) (p:=⟨w.heap.size,0,Vx⟩) (λh=>WL) (VX VD)) (p:=⟨w.heap.size,1,Vx⟩) (λh=>WL) (VV A4 q c4)
 subst hq
 exact(dd h3 rfl).trimmed):p:=h
theorem a0i(h:p:=by
 obtain⟨e,rfl⟩:∃e:Nat,k=(e:Int):=⟨k.toNat,V7⟩
 obtain⟨b,hb⟩:∃b,e-6=b:=⟨_,rfl⟩
 have w1:VH.wrap ((e:Int)-6)=(e:Int)-6:=VQ _ V7
 have hmx:max (0:Int) ((e:Int)-6)=(b:Int):=V7
 have hey:e<=y.size:=V7
 clear hM hk
 go_wp2_with fail
 go_loopw [5,6] (λn i wi=>GA y wr b e n i wi) (λ_ i _=>((e:Int)-VN i).toNat)
 case atStart=>exact⟨0,b,rfl,rfl,Vu _,V7,Wa,Wa,rfl⟩
 case round=>
  obtain⟨x,j,rfl,rfl,hbj,hje,hx,hxv,rfl⟩:=hrel
  have HXV:=Vs hxv
  clear hxv
  by_cases hlt:j<e
  ·have hjy:j<y.size:=V7
   have hd:=YD.o j (Nat.zero_le _) hjy hjy
   obtain⟨c,hc⟩:∃c:Nat,((y[j]'hjy).toNat:Int)=c:=⟨_,rfl⟩
   rw[hc] at hd
   obtain⟨g,rfl⟩:∃g:Nat,c=48+g:=⟨c-48,V7⟩
   have hx6:=nL hx V7
   have NX:=Vs (zF (c:=g) hx hbj V7)
   have hq:(((y[j]'hjy).toNat:Int)-48)%256=(g:Int):=by rw[hc];omega
   have hu:VH.wrap (g:Int)=g:=VQ _ V7
   have NVV:=Vs (rd_val HXV.o (iR hjy hc) hbj)
   clear hc hx
   go_wp2
   exact⟨⟨10*x+g,j+1,Wa,Wa,V7,V7,NX.o,NVV.o,rfl⟩,Wc⟩
  ·obtain rfl:j=e:=V7
   have hx6:=nL hx V7
   have hfl:¬(j:Int)<j:=V7
   have hres:=HM.o.num.cell 1
   have hfr:=HM.o.num.frozen 1
   have hbx:VS (w.heap.size+2) wr (wr.alloc (.cells #[VZ VH (x:Int)] 3)):=(Below.refl _ _).alloc (by have:=HM.o.num.lt;omega) _
   have HOX:=Vs (aO HM.o.own ((Below.refl _ _).alloc (Vu _) (.cells #[VZ VH (x:Int)] 3)))
   have hbase:w.heap.size+2<=(wr.alloc (.cells #[VZ VH (x:Int)] 3)).heap.size:=XG
   have hll:ln l<=100:=by have:=HK.o;omega
   have HN:=Vs (oq HM.o hx6)
   clear hx hbx
   go_wp2_with(at_builtin;(refine wpList_append_own _ rfl _ _ _ rfl (w.heap.size+2) 3 i0 _ 1 8 underlying25 I0.o I1.o I2.o I3.o rfl V7 _ _ _ rfl HOX.o ⟨wr.heap.size,0,Vx⟩ 1 1 [VZ VH (x:Int)] rfl Wl (λj u hj=>Wk) WR Wh V7 hbase ?_);intro v' w' hown' hgr' hnil;obtain⟨A4,n4,c4,e4⟩:=ng.of hown';subst e4;obtain⟨hn0,hn1,hn2⟩:=HN.o _ w' hown' hgr';have HN2:=Vs hn2;clear hn2)
   exact⟨⟨(j:Int)-6,_,l++[x],rfl,XH,V7,Ws,HN2.o⟩,Wc⟩):p:=h
theorem a0j(h:p:=by
 cases p
 ·rw[eq_comm,decide_eq_false_iff_not]
  intro e
  obtain⟨_,h⟩:=h45.1 e
  simp[h] at hpp
 ·rw[eq_comm,decide_eq_true_eq]
  exact h45.2 ⟨hp,beq_iff_eq.1 hpp⟩):p:=h
theorem a0k(h:p:=by
 intro m h1 h2 h3
 subst hy
 rw[ByteArray.getElem_extract]
 exact hd (f+m) V7 V7 V7):p:=h
theorem a0l(h:p:=by
 subst h48
 have hop:o+1<=P:=by
  rcases Nat.lt_or_ge o P with h|h
  ·exact h
  ·exact absurd HO.o (by rw[show o=P by omega];exact HPV.o)
 have hz2:¬z=1:=V7
 clear hz
 go_wp2
 exact⟨⟨o+1,hop,by rw[show 6*i-(o+1)=z-1 by have:=HZ.o;omega],λj hj=>(Nat.lt_or_ge j o).elim (λe=>HBO.o j e) (λe=>(show j=o by omega)▸HO.o),trivial⟩,by simp[Jh];omega⟩):p:=h
theorem a0m(h:p:=by
 have hsl:=(HS.o.below HX0.o).below (hW.ext.mono V7)
 obtain⟨_,_,e,_,_,hac⟩:=hsl
 injection e with e1 e2 e3
 clear e2
 subst e1 e3
 obtain⟨_,_,e,_,hcell⟩:=hac WG
 injection e with e
 injection e with e1 e2
 subst e1 e2
 have hci:=hcell i WG
 have hxi:fv l i<1000000:=aH hc.small i
 obtain⟨x,hx⟩:∃x,fv l i=x:=⟨_,rfl⟩
 rw[hx] at hci hxi
 have HXI:=Vs hx
 clear hcell hac hW hbx hx
 go_wp2_with fail
 go_loopw [5,6] (λx' k wi=>∃(j:Nat) (ys:List Nat),j<=6/\k=VZ VH ((j:Int)+1)/\x'=VZ VH ((x/10^j:Nat):Int)/\yL w0 (w.heap.size+1) l (6*i+j) ys wi) (λ_ k _=>7-(VN k).toNat)
 case atStart=>exact⟨0,xs,V7,rfl,Wa,HW.o⟩
 case round=>
  obtain⟨j,ys,hj,rfl,rfl,hY⟩:=hrel
  have HY:=Vs hY
  obtain⟨d,hd⟩:∃d,x/10^j=d:=⟨_,rfl⟩
  have hd6:d<1000000:=by rw[<-hd];exact Nat.lt_of_le_of_lt (Nat.div_le_self _ _) hxi
  by_cases hj6:j<6
  ·obtain⟨m,hm⟩:∃m,6*n-1-(6*i+j)=m:=⟨_,rfl⟩
   have hm6:m<ln ys:=by rw[hY.len,HN.o];omega
   have hcm:=hY.row.cell hm6
   have hfm:=hY.row.frozen m
   have e1:6*(n:Int)-6*i-((j:Int)+1)=(m:Int):=V7
   have hmn:m<6*n:=V7
   have hdig:48+d%10=48+iG l (6*i+j):=by rw[mC _ _ _ hj6,HXI.o,hd]
   have NX:=Vs (hY.next (by rw[HN.o];omega) (x:=48+d%10) (j:=m) hdig (by rw[HN.o];exact hm.symm))
   have hdv:d/10=x/10^(j+1):=by rw[<-hd,Nat.div_div_eq_div_mul,Nat.pow_succ]
   have HDV:=Vs hdv
   obtain⟨c,hc⟩:∃c,48+d%10=c:=⟨_,rfl⟩
   have e2:48+(d:Int)%10=(c:Int):=V7
   have hcs:c<256:=V7
   obtain⟨o,ho⟩:∃o,fv ys m=o:=⟨_,rfl⟩
   rw[ho] at hcm
   rw[hc] at NX
   rw[hd]
   clear hY hm6 hdig hdv hc ho hd hm
   go_wp2
   exact⟨⟨j+1,_,V7,Wa,by rw[<-HDV.o];simp,NX.o⟩,Wc⟩
  ·obtain rfl:j=6:=V7
   clear hY hd
   go_wp2_with fail
   exact⟨⟨i+1,ys,V7,Wa,by have:=HY.o;rwa[show 6*(i+1)=6*i+6 by omega]⟩,Wc⟩):p:=h
theorem a0n(h:p:=by
 rw[e] at hm'
 rw[beq_eq_false_iff_ne]
 intro e2
 rw[e2] at hm'
 exact hm' rfl):p:=h
theorem a0o(h:p:=by
 go_wp2_with fail
 go_quiet (fail)
 go_wp2
 refine bodyPost_ret (ir rfl _ _ _) rfl ?_
 exact⟨We,below_drewN HX.o _⟩):p:=h
theorem a0p(h:p:=by
 obtain rfl:k=z.size:=V7
 have HR:=Vs (show aL z=(Vw,z,⟨#[]⟩,Vw) from HY.o.2 HN.o)
 go_wp2
 refine bodyPost_ret (ir rfl _ _ _) rfl ?_
 exact⟨We,HX.o⟩):p:=h
theorem a0q(h:p:=by
 have h2:(if(z.data.toList.head?==Vz 45)=VD then z.extract 1 z.size else z).size<=z.size:=by
  split
  ·rw[ByteArray.size_extract];omega
  ·exact Vu _
 exact key _ _ _ h2):p:=h
theorem a0r(h:p:=by
 go_enter func280,ntmps280
 go_wp2_with(first
  |(go_at_call 309;have hX:=HX1;clear HX1;refine(KB.o _).mono ?_;rintro e W2 ⟨rfl,hX2⟩;have HX2:=Vs (hX.o.tr hX2);clear hX2)
  |(go_at_call 309;go_must(refine KA.o.mono ?_);rintro e W1 ⟨rfl,hX1⟩;have HX1:=Vs hX1;clear hX1))
 go_ret
 exact⟨rfl,HX2.o⟩):p:=h
theorem a0s(h:p:=by
 have hu:VH.wrap (g:Int)=g:=VQ _ V7
 clear e
 go_wp2
 exact⟨⟨k+1,by rw[HS.o,HV.o];simp,by go_num,V7,HX.o⟩,Wc⟩):p:=h
theorem a0t(h:p:=by
 clear h
 go_enter func310,ntmps310
 go_wp2
 go_ret2
 exact⟨⟨_,_,rfl,λh=>Wb,V9⟩,Below.refl _ _⟩):p:=h
theorem a0u(h:p:=by
 go_enter func281, ntmps281
 go_wp2_with (first
   | (go_at_call 310; have hX := HX1; clear HX1; refine (KB.o _).mono ?_; rintro e W2 ⟨⟨z2, ok2, rfl, h2, h2b⟩, hX2⟩; have HX2 := Vs (hX.o.tr hX2); have H2 := Vs h2; clear hX2 h2)
   | (go_at_call 310; go_must (refine KA.o.mono ?_); rintro e W1 ⟨⟨z, ok, rfl, h1, h1b⟩, hX1⟩; have HX1 := Vs hX1; have H1 := Vs h1; clear hX1 h1))
 all_goals first
   | (go_ret3
      exact ⟨⟨_, _, _, rfl, h1b, h2b, λh => ⟨H1.o Xg, H2.o Xg⟩⟩, HX2.o⟩)
   | (go_ret3
      exact ⟨⟨_, _, _, rfl, V9, V9, λh => Wb⟩, HX1.o⟩)):p:=h
theorem a0v(h:p:=by
 go_enter func84,ntmps84
 go_wp2
 go_ret
 exact⟨by rw[HR.o];first|rfl|simp,rfl⟩):p:=h
theorem a0w(h:p:=by
 go_enter func38,ntmps38
 go_wp2
 refine wp_loop_rounds 2 ?_
 rw[rounds_succ]
 go_wp2_with(go_at_call 84;refine(mB _ _).mono ?_;rintro e w1 ⟨rfl,rfl⟩)
 go_ret
 exact⟨We,rfl⟩):p:=h
theorem a0x(h:p:=by
 intro m hm
 have:=hc i Xi m hm
 rw[hr,VL] at this
 exact this):p:=h
theorem a0y(h:p:=by
 go_enter func115,ntmps115
 go_wp2_with(go_at_call 116;go_must(refine(km _ _ _ _).mono ?_);rintro e W1 ⟨rfl,rfl⟩)
 go_ret
 exact⟨rfl,rfl⟩):p:=h
theorem a0z(h:p:=by
 simp only[Bool.and_eq_true,decide_eq_true_eq]
 omega):p:=h
theorem a0A(h:p:=by
 go_enter func52,ntmps52
 go_wp2
 go_ret
 exact⟨We,E0.o⟩):p:=h
theorem a0B(h:p:=by
 go_wp2_with(go_at_call 47;go_must(refine(gS _ _ _ _).mono ?_);rintro e W1 ⟨rfl,rfl⟩;rw[tb])
 go_quiet (fail)
 go_wp2
 refine⟨⟨k+1,V7,Wa,by first|exact HX.o|exact below_drewN HX.o _,λj hj=> ?_⟩,Wc⟩
 by_cases hjk:j=k
 ·rw[hjk];exact HZ.o
 ·exact HA.o j V7):p:=h
theorem a0C(h:p:=by
 exact⟨Dd _ _ _ _ _,AN _ _ _ _ _,⟨_,_,rfl,rfl,Bp _ _ _ _ _,Bw _ _ _ _ _⟩,nO _ _ _ _ _⟩):p:=h
theorem a0D(h:p:=by
 exact⟨Dd _ _ _ _ _,AN _ _ _ _ _,⟨_,_,rfl,rfl,Bw _ _ _ _ _,Bp _ _ _ _ _⟩,nO _ _ _ _ _⟩):p:=h
theorem a0E(h:p:=by
 refine wpAny_done V8 ?_ _
 cases hs:gX e (gx e)
 ·have HF:=Vs (show fx e=9 by unfold fx;rw[if_neg V7,hs];rfl)
  try rw[hs]
  go_wp2
  go_ret
  exact⟨Xs,HB2.o⟩
 ·have HF:=Vs (show fx e=0 by unfold fx;rw[if_neg V7,if_pos hs])
  try rw[hs]
  go_wp2
  go_ret
  exact⟨Xs,HB2.o⟩):p:=h
theorem a0F(h:p:=by
 go_enter func42,ntmps42
 go_wp2
 go_ret
 exact⟨Xs,(Below.refl _ _).alloc (Vu _) _⟩):p:=h
theorem a0G(h:p:=by
  refine VE rfl (λK hK => ?_)
  go_simp
  exact hK _ _ ⟨_, by simp [bA, GB], HI.o.pure V7 rfl⟩):p:=h
theorem a0H(h:p:=by
 go_wp2
 go_ret
 exact⟨rfl,E0.o.tr HX.o⟩):p:=h
theorem a0I(h:p:=by
 go_wp2_with(first
  |(at_builtin;(refine wpList_append_own _ rfl _ _ _ rfl w.heap.size 3 i0 _ 1 8 underlying25 I0.o I1.o I2.o I3.o rfl V7 _ _ _ rfl HOX.o ⟨wr.heap.size,0,Vx⟩ 1 1 [VZ VH (x:Int)] rfl Wl (λj u hj=>Wk) WR Wh V7 hbase1 ?_);intro v' w' hown' hgr' hnil)
  |(go_at_call 313;first|((with_reducible refine C1.o.mono ?_);rintro e W1 ⟨rfl,rfl⟩)|((with_reducible refine C2.o.mono ?_);rintro e W1 ⟨rfl,rfl⟩)))
 exact⟨by rw[e2];exact ARM.o _ _ hown' hgr',Wc⟩):p:=h
theorem a0J(h:p:=by
 have:(a.head?==Vz 48)=Vw:=by rw[beq_eq_false_iff_ne];exact h1
 rw[this];rfl):p:=h
theorem a0K(h:p:=by
 intro e
 apply h2
 rw[List.head?_eq_getElem?,VA V7]
 congr 1
 apply UInt8.toNat_inj.1
 show _=48
 omega):p:=h
theorem a0L(h:p:=by
 subst hcc
 go_wp2_with fail
 go_ret2
 exact⟨rfl,X2.o⟩):p:=h
theorem a0M(h:p:=by
 rw[List.head?_cons]
 congr 1
 apply UInt8.toNat_inj.1
 unfold iL at h6
 show _=48
 omega):p:=h
theorem a0N(h:p:=by
 go_enter func277,ntmps277
 go_wp2_with(first
  |(go_at_call 253;fail)
  |(go_at_call 250;go_must(refine KS.o.mono ?_);unfold pT;rintro e W1 ⟨rfl,hX1⟩;have HX1:=Vs hX1;clear hX1))
 all_goals
  go_ret3
  exact⟨⟨_,_,_,rfl,λh=>Wb⟩,HX1.o⟩):p:=h
theorem a0O(h:p:=by
 subst hcc
 go_wp2_with fail
 go_ret2
 exact⟨rfl,X3.o⟩):p:=h
theorem a0P(h:p:=by
 refine VE rfl (λK hK=> ?_)
 go_simp
 exact hK _ _ ⟨_,by simp[bA,pJ],HI.o.pure V9 rfl⟩):p:=h
theorem a0Q(h:p:=by
 simp only[Option.getD_some] at this
 rw[this];simp):p:=h
theorem a0R(h:p:=by
 go_ret
 exact⟨rfl,E0.o.tr HX4.o⟩):p:=h
theorem a0S(h:p:=by
 go_wp2_with(go_at_call 108;fail)
 refine(KP.o _ HX4.o).mono ?_
 rintro e W2 ⟨rfl,hX5⟩
 have HX5:=Vs (HX4.o.tr hX5)
 have c5:=HB.o _ HX5.o
 clear hX5 c4
 go_wp2_with(go_at_call 109;go_loud (refine(KR.o _ HX5.o).mono ?_);rintro e W3 ⟨rfl,hX6⟩;have HX6:=Vs (HX5.o.tr hX6);clear hX6)
 go_ret
 exact⟨rfl,E0.o.tr HX6.o⟩):p:=h
theorem a0T(h:p:=by
 have h1:=Jn h hi
 have h2:=Jn h (Nat.mod_lt (i+1) (by omega:ln r>0))
 rw[je,DC V7 V7 V7 V7]):p:=h
theorem a0U(h:p:=by
 obtain rfl:k=ln l:=V7
 have hv:v=0:=by rw[HV.o];exact be A1.o
 subst hv
 go_wp2
 go_ret
 exact⟨rfl,HX.o⟩):p:=h
theorem a0V(h:p:=by
 go_wp2
 go_ret
 exact⟨⟨_,rfl,λh=>Wb⟩,X2.o⟩):p:=h
theorem a0W(h:p:=by
 all_goals
  go_wp2_with fail
  go_ret
  exact⟨⟨_,rfl,λh=>Wb⟩,HX.o⟩):p:=h
theorem a0X(h:p:=by
 go_wp2_with fail
 go_ret
 exact⟨⟨_,rfl,λh=>absurd h V9⟩,E0.o.tr X2.o⟩):p:=h
theorem a0Y(h:p:=by
 go_wp2_with(go_at_call 7;go_must(refine(KA.o _ X1.o).mono ?_);rintro r2 W2 ⟨rfl,hX2⟩)
 go_ret
 exact⟨rfl,E0.o.tr (X1.o.tr hX2)⟩):p:=h
theorem a0Z(h:p:=by
 obtain⟨u,v,hc⟩:=iface_of_trod underlying212 h4
 exact⟨u,v,by rw[h3];cases cs;simp_all⟩):p:=h
end
end Go.Proofs.YtmliacdegmklaaaGreatDoor
open Go.Proofs.YtmliacdegmklaaaGreatDoor
variable{listed:Array Bool}{lb args cs tmps:Array Vy}{z:ByteArray}{q a b u out tv:List Nat}{xs:List Vy}{n m c d v1 r k i x j b0 g cap g' un u1 base n0 gf N ca cb B0 Bs D mq nb gu cu gb cv mm s:Nat}{A A':Option VT}{t e:VR}{p:VT}{w w' wr W W':Vt}
namespace Kp
abbrev B:Nat:=1000000000
def S(f:Nat->Nat):Nat->Nat
 |0=>0
 |n+1=>S f n+f n*B^n
def FY(f:Nat->Nat):S f 0=0:=rfl
def bR(f:Nat->Nat)(n:Nat):S f (n+1)=S f n+f n*B^n:=rfl
def CC(n:Nat):0<B^n:=Nat.pow_pos V9
theorem dU{f g:Nat->Nat}(h:∀k,k<n->f k=g k):S f n=S g n:=by
 induction n with
 |zero=>rfl
 |succ n ih=>rw[bR,bR,ih (λk hk=>h k V7),h n V7]
theorem sG{f:Nat->Nat}(h:∀k,k<n->f k<B):S f n<B^n:=by
 induction n with
 |zero=>simp[S]
 |succ n ih=>
  rw[bR,Nat.pow_succ];have h1:=ih (λk hk=>h k V7);have h2:f n+1<=B:=h n V7;have h3:(f n+1)*B^n<=B*B^n:=Nat.mul_le_mul_right _ h2;rw[Nat.add_mul,Nat.one_mul,VL B] at h3;omega
theorem rr{f:Nat->Nat}(h:∀k,k<n->f k=0):S f n=0:=by
 induction n with
 |zero=>rfl
 |succ n ih=>rw[bR,ih (λk hk=>h k V7),h n V7];simp
def pd(f:Nat->Nat)(m n:Nat):S f (m+n)=S f m+B^m*S (λk=>f (m+k)) n:=by
 induction n with
 |zero=>simp[S]
 |succ n ih=>
  rw[<-Nat.add_assoc,bR,ih,bR,Nat.mul_add,Nat.pow_add];have:f (m+n)*(B^m*B^n)=B^m*(f (m+n)*B^n):=by
   rw[Nat.mul_left_comm]
  omega
theorem QM{f:Nat->Nat}(h:m<=n)(hz:∀k,m<=k->k<n->f k=0):S f n=S f m:=by
 obtain⟨d,rfl⟩:∃d,n=m+d:=⟨n-m,V7⟩;rw[pd,rr (f:=λk=>f (m+k)) (λk hk=>hz _ V7 V7)];simp
theorem SP{f g:Nat->Nat}(hf:∀k,k<n->f k<B)(hg:∀k,k<n->g k<B)(h:S f n=S g n):∀k,k<n->f k=g k:=by
 induction n with
 |zero=>intro k hk;omega
 |succ n ih=>
  rw[bR,bR] at h;have h1:=sG (λk (hk:k<n)=>hf k V7);have h2:=sG (λk (hk:k<n)=>hg k V7);have hp:=CC n;have e1:(S f n+f n*B^n)/B^n=f n:=by
   rw[Nat.add_mul_div_right _ _ hp,Nat.div_eq_of_lt h1];omega
  have e2:(S g n+g n*B^n)/B^n=g n:=by
   rw[Nat.add_mul_div_right _ _ hp,Nat.div_eq_of_lt h2];omega
  have e:f n=g n:=by rw[<-e1,<-e2,h]
  rw[e] at h;have h3:S f n=S g n:=V7;intro k hk;by_cases hkn:k=n
  ·rw[hkn];exact e
  ·exact ih (λk hk=>hf k V7) (λk hk=>hg k V7) h3 k V7
def Hr{X V U c P q xi vi ui c':Nat}(h:X+q*V=U+c*P)(hs:xi+q*vi+c=ui+c'*B):
  (X+xi*P)+q*(V+vi*P)=(U+ui*P)+c'*(P*B):=by
 have h1:=congrArg (· *P) hs;simp only[Nat.add_mul] at h1;rw[Nat.mul_add];have e1:q*(vi*P)=q*vi*P:=(Nat.mul_assoc _ _ _).symm;have e2:c'*(P*B)=c'*B*P:=by rw[VL P B,Nat.mul_assoc]
 rw[e1,e2];omega
def yT{X V U c P q xi vi ui c':Nat}(h:X+c*P=U+q*V)(hs:xi+c'*B=ui+q*vi+c):
  (X+xi*P)+c'*(P*B)=(U+ui*P)+q*(V+vi*P):=by
 have h1:=congrArg (· *P) hs;simp only[Nat.add_mul] at h1;rw[Nat.mul_add];have e1:q*(vi*P)=q*vi*P:=(Nat.mul_assoc _ _ _).symm;have e2:c'*(P*B)=c'*B*P:=by rw[VL P B,Nat.mul_assoc]
 rw[e1,e2];omega
theorem G8{X V U q P:Nat}(h:X+q*V=U+c*P)(hX:X<P)(_hU:U<P):(c=0↔q*V<=U):=by
 constructor
 ·intro hc;subst hc;omega
 ·intro hq;by_cases hc:c=0
  ·exact hc
  ·exfalso;have:1*P<=c*P:=Nat.mul_le_mul_right _ V7;omega
def Aa{X Y V U q c d P:Nat}(h:X+q*V=U+c*P)(h2:Y+d*P=X+q*V)(hY:Y<P)(hU:U<P):Y=U:=by
 have h3:Y+d*P=U+c*P:=V7;have e1:(Y+d*P)%P=Y:=by rw[Nat.add_mul_mod_self_right,Nat.mod_eq_of_lt hY]
 have e2:(U+c*P)%P=U:=by rw[Nat.add_mul_mod_self_right,Nat.mod_eq_of_lt hU]
 rw[<-e1,h3,e2]
def JD{U V t q v1 P:Nat}(hU:U<(t+1)*P)(hV:v1*P<=V)(hq:t<(q+1)*v1):U<(q+1)*V:=by
 have h1:(t+1)*P<=(q+1)*v1*P:=Nat.mul_le_mul_right _ V7;have h2:(q+1)*(v1*P)<=(q+1)*V:=Nat.mul_le_mul_left _ hV;rw[<-Nat.mul_assoc] at h2;omega
def NO{U V t q r v1 v2 u2 P:Nat}(ht:q*v1+r=t)(hU:U<(t*B+u2+1)*P)(hV:(v1*B+v2)*P<=V)
  (hg:r*B+u2<q*v2):U<q*V:=by
 have h1:q*((v1*B+v2)*P)<=q*V:=Nat.mul_le_mul_left _ hV;have h2:t*B+u2+1<=q*(v1*B+v2):=by
  have:t*B=q*(v1*B)+r*B:=by rw[<-ht,Nat.add_mul,Nat.mul_assoc]
  rw[Nat.mul_add];omega
 have h3:(t*B+u2+1)*P<=q*(v1*B+v2)*P:=Nat.mul_le_mul_right _ h2;rw[Nat.mul_assoc] at h3;omega
def PH{U V q:Nat}(hU:U<B*V)(hq:B<=q):U<q*V:=
 Nat.lt_of_lt_of_le hU (Nat.mul_le_mul_right _ hq)
def fv(l:List Nat):Nat->Nat:=λk=>l.getD k 0
def val(l:List Nat):Nat:=S (fv l) (ln l)
def Small(l:List Nat):Prop:=∀d,d∈l->d<B
def pR(l:List Nat):Prop:=∀d,l.getLast?=Vz d->d≠0
structure Canon(l:List Nat):Prop where
 small:Small l
 trim:pR l
def aB{l:List Nat}(h:Small l)(k:Nat):fv l k<B:=by
 exact XJ
theorem mL{l:List Nat}(h:ln l<=k):fv l k=0:=by
 unfold fv;rw[Vv,List.getElem?_eq_none h];rfl
theorem lT{l:List Nat}(h:k<ln l):fv l k=l[k]:=by
 unfold fv;rw[Vv,VA h];rfl
theorem kh{l:List Nat}(h:ln l<=n):S (fv l) n=val l:=QM h (λ_ hk _=>mL hk)
def rf{l:List Nat}(h:Small l):val l<B^ln l:=sG (λk _=>aB h k)
def CA(l:List Nat)(d:Nat):val (l++[d])=val l+d*B^ln l:=by
 unfold val;rw[VM];show S _ (ln l+1)=_;rw[bR,dU (g:=fv l)]
 ·unfold fv;simp
 ·intro k hk;unfold fv;simp[List.getElem?_append_left hk]
def pr(l:List Nat):val (l++[0])=val l:=by rw[CA];simp
theorem Small.snoc{l:List Nat}(h:Small l)(hd:d<B):Small (l++[d]):=by
 intro x hx;rcases List.mem_append.1 hx with hx|hx
 ·exact h x hx
 ·rw[List.mem_singleton.1 hx];exact hd
theorem Small.zR{l:List Nat}(h:Small (l++[d])):Small l:=λx hx=>h x (by simp[hx])
def mJ(l:List Nat):l=[]\/∃m d,l=m++[d]:=by
 rcases List.eq_nil_or_concat l with h|⟨m,d,h⟩
 ·exact .inl h
 ·exact .inr ⟨m,d,WB⟩
theorem pR.last{l:List Nat}(h:pR (l++[d])):d≠0:=h d Wa
def qQ:pR []:=by intro d h;simp at h
theorem xL{l:List Nat}(h:d≠0):pR (l++[d]):=by intro x hx;simp at hx;omega
def vO{l:List Nat}(h:pR l)(hl:l≠[]):B^(ln l-1)<=val l:=by
 rcases mJ l with rfl|⟨m,d,rfl⟩
 ·exact absurd rfl hl
 ·rw[CA];have hd:=h.last;have:1*B^ln m<=d*B^ln m:=Nat.mul_le_mul_right _ V7;simp only[VM,List.length_singleton,Nat.add_sub_cancel];omega
def Gy{l:List Nat}(h:pR l)(hl:l≠[]):0<val l:=Nat.lt_of_lt_of_le (CC _) (vO h hl)
def val_eq_zero{l:List Nat}(h:pR l):val l=0↔l=[]:=by
 constructor
 ·intro h0;by_cases hl:l=[]
  ·exact hl
  ·have:=Gy h hl;omega
 ·rintro rfl;rfl
theorem bT(ha:Small a)(hb:pR b)(h:ln a<ln b):val a<val b:=by
 have h1:=rf ha;have h2:=vO hb (by rintro rfl;simp at h);have h3:B^ln a<=B^(ln b-1):=Nat.pow_le_pow_right V9 V7;omega
def aA(l:List Nat):List Nat:=(l.reverse.dropWhile (· ==0)).reverse
def dQ(l:List Nat):aA (l++[0])=aA l:=by unfold aA;simp
theorem iQ{l:List Nat}(h:d≠0):aA (l++[d])=l++[d]:=by unfold aA;simp[h]
def oM:aA []=[]:=rfl
def fI{p:List Nat->Prop}(h0:p [])(hs:∀l d,p l->p (l++[d]))(l:List Nat):p l:=by
 have:∀m:List Nat,p m.reverse:=by
  intro m
  induction m with
  |nil=>exact h0
  |cons d m ih=>rw[List.reverse_cons];exact hs _ _ ih
 have h:=this l.reverse;rwa[List.reverse_reverse] at h
def gO(l:List Nat):val (aA l)=val l:=by
 refine fI (p:=λl=>val (aA l)=val l) rfl (λl d ih=> ?_) l;by_cases hd:d=0
 ·subst hd;rw[dQ,pr,ih]
 ·rw[iQ hd]
def qh(l:List Nat):∃m,l=aA l++List.replicate m 0:=by
 refine fI (p:=λl=>∃m,l=aA l++List.replicate m 0) ⟨0,rfl⟩ (λl d ih=> ?_) l;by_cases hd:d=0
 ·subst hd;obtain⟨m,hm⟩:=ih;refine⟨m+1,?_⟩;rw[dQ,List.replicate_succ',<-List.append_assoc,<-hm]
 ·exact⟨0,by rw[iQ hd];simp⟩
def eD{l:List Nat}(h:Small l):Canon (aA l):=by
 revert h;refine fI (p:=λl=>Small l->Canon (aA l)) (λ_=>⟨λd h=>by simp[oM] at h,qQ⟩) (λl d ih h=> ?_) l;exact XK
theorem Qz{f g:Nat->Nat}(hi:i<n)(hf:∀k,k<n->f k<B)(he:∀k,i<k->k<n->f k=g k)(hlt:f i<g i):S f n<S g n:=by
 obtain⟨d,rfl⟩:∃d,n=(i+1)+d:=⟨n-(i+1),V7⟩;rw[pd f (i+1),pd g (i+1),dU (f:=λk=>f (i+1+k)) (g:=λk=>g (i+1+k)) (λk hk=>he _ V7 V7),bR,bR];have h1:=sG (n:=i) (λk hk=>hf k V7);have h2:(f i+1)*B^i<=g i*B^i:=Nat.mul_le_mul_right _ hlt;rw[Nat.add_mul,Nat.one_mul] at h2;omega
def sh(f:Nat->Nat)(i:Nat):Nat->Nat:=λk=>f (i+k)
def Oj(f:Nat->Nat)(i n:Nat):S (sh f i) (n+1)=f i+B*S (sh f (i+1)) n:=by
 have h:=pd (sh f i) 1 n;rw[Nat.add_comm 1 n] at h;rw[h,bR,FY,Nat.zero_add,Nat.pow_zero,Nat.mul_one,Nat.pow_one];have:S (λk=>sh f i (1+k)) n=S (sh f (i+1)) n:=dU (λk _=>by unfold sh;congr 1;omega);rw[this];unfold sh;simp
def D8{d T Q r a n:Nat}(h:T=d*Q+r)(hn:n=a+r*B):
  a+B*T=d*(n/d+B*Q)+n%d:=by
 have h1:d*(n/d)+n%d=n:=Nat.div_add_mod n d;have h2:B*T=d*(B*Q)+B*r:=by rw[h,Nat.mul_add,Nat.mul_left_comm]
 rw[Nat.mul_add,VL r B] at *;omega
def Km{d r a n:Nat}(hr:r<d)(ha:a<B)(hn:n=a+r*B):n/d<B/\n%d<d:=by
 refine⟨?_,Nat.mod_lt _ V7⟩;rw[Nat.div_lt_iff_lt_mul V7];have:(r+1)*B<=d*B:=Nat.mul_le_mul_right _ hr;rw[Nat.add_mul,Nat.one_mul,VL d B] at this;omega
def Dn{X c O x V P:Nat}(h:X+c*(P*B)=O+x*V)(hO:O<P)(hV:V<P)(hx:x<B):c=0:=by
 by_cases hc:c=0
 ·exact hc
 ·exfalso;have h1:1*(P*B)<=c*(P*B):=Nat.mul_le_mul_right _ V7;have h2:x*V<=x*P:=Nat.mul_le_mul_left _ V7;have h3:(x+1)*P<=B*P:=Nat.mul_le_mul_right _ hx;rw[Nat.add_mul,Nat.one_mul,VL B P] at h3;omega
theorem Et{f g:Nat->Nat}(hm:j+n<=m)(hlo:∀k,k<j->g k=f k)(hhi:∀k,j+n<=k->k<m->g k=f k):
  S g m+B^j*S (sh f j) n=S f m+B^j*S (sh g j) n:=by
 obtain⟨d,rfl⟩:∃d,m=(j+n)+d:=⟨m-(j+n),V7⟩;rw[pd g,pd f,pd g j n,pd f j n,dU (f:=λk=>g (j+n+k)) (g:=λk=>f (j+n+k)) (λk hk=>hhi _ V7 V7),dU (f:=g) (g:=f) (n:=j) (λk hk=>hlo k hk)];show _+B^j*S (sh g j) n+_+B^j*S (sh f j) n=_+B^j*S (sh f j) n+_+B^j*S (sh g j) n;omega
def DX{a b f Q R:Nat}(hf:0<f)(_hb:0<b)(h:a*f=Q*(b*f)+R)(hR:R<b*f):Q=a/b/\R=(a%b)*f:=by
 have h1:Q*b<=a:=by
  have:(Q*b)*f<=a*f:=by rw[Nat.mul_assoc];omega
  exact Nat.le_of_mul_le_mul_right this hf
 have h2:a<(Q+1)*b:=by
  have:a*f<((Q+1)*b)*f:=by rw[Nat.mul_assoc,Nat.add_mul,Nat.one_mul];omega
  exact Nat.lt_of_mul_lt_mul_right this
 have hQ:Q=a/b:=by
  rw[eq_comm];refine Nat.div_eq_of_lt_le ?_ ?_
  ·rw[VL] at h1;rwa[VL]
  ·exact h2
 refine⟨hQ,?_⟩;have h3:=Nat.div_add_mod a b;rw[<-hQ] at h3;have h4:(b*Q+a%b)*f=a*f:=by rw[h3]
 rw[Nat.add_mul] at h4;have h5:Q*(b*f)=b*Q*f:=by rw[<-Nat.mul_assoc,VL Q b]
 omega
end Kp
namespace Go.Proofs.YtmliacdegmklaaaGreatDoor
section
open Kp
def Az{k:IntKind}{a b:Int}(h:a=b):Ending.returned (.int k a)=V0 (.int k b):=by rw[h]
def bB(w:Vt)(b0:Nat)(v:Vy)(l:List Nat):Prop:=
 ∃A cap,v=VV A (ln l) cap/\ln l<=cap/\cap<=VP/\
  (0<ln l->∃b off,A=Vz ⟨b,off,Vx⟩/\b<b0/\∀j,j<ln l->w.cell? ⟨b,off+j,Vx⟩=Vz (VZ VH (fv l j)))
theorem bB.keep{v:Vy}{l:List Nat}(h:bB w b0 v l)(hk:∀p:VT,p.block<b0->w'.cell? p=w.cell? p):bB w' b0 v l:=by
 obtain⟨A,cap,rfl,h1,h2,hc⟩:=h;refine⟨A,cap,rfl,h1,h2,λhn=> ?_⟩;obtain⟨b,off,e,hb,hcell⟩:=hc hn;exact⟨b,off,e,hb,λj hj=>(hk _ hb).trans (hcell j hj)⟩
theorem bB.more{b0 b1:Nat}{v:Vy}{l:List Nat}(h:bB w b0 v l)(hb:b0<=b1):bB w b1 v l:=by
 exact XL
theorem bB.below{v:Vy}{l:List Nat}(h:bB w b0 v l)(hb:VS b0 w w'):bB w' b0 v l:=h.keep λ_ hp=>hb.cell hp
theorem bB.len{v:Vy}{l:List Nat}(h:bB w b0 v l):ln l<=9223372036854775807:=by
 obtain⟨_,_,_,h1,h2,_⟩:=h;unfold VP at h2;omega
def tT(w:Vt)(b0:Nat)(v:Vy)(l:List Nat)(i:Nat)(h:bB w b0 v l)(hi:i<=4611686018427387904):
  VJ prog 346 #[v,VZ VH i] w λe w'=>e=V0 (VZ VH (fv l i))/\w=w':=by
 obtain⟨A,cap,rfl,hl,hm,hc⟩:=h;unfold VP at hm;by_cases hlt:i<ln l
 ·obtain⟨b,off,rfl,_,hcell⟩:=hc V7;have hx:=hcell i hlt;clear hcell;go_enter func346,ntmps346;exact XM
 ·go_enter func346,ntmps346;go_wp2;go_ret;exact⟨Az (by rw[mL V7];rfl),rfl⟩
def Jh:Vy->Nat
 | VV _ n _=>n
 |_=>0
theorem yt{l:List Nat}(hk:k<ln l)(h0:fv l k=0)(h:aA (l.take (k+1))=aA l):aA (l.take k)=aA l:=by
 rw[<-h,List.take_succ_eq_append_getElem hk];rw[lT hk] at h0;rw[h0,dQ]
theorem xO{l:List Nat}(hk:k<ln l)(h0:fv l k≠0)(h:aA (l.take (k+1))=aA l):(aA l).length=k+1:=by
 rw[<-h,List.take_succ_eq_append_getElem hk];rw[lT hk] at h0;rw[iQ h0];simp;omega
def Co(w:Vt)(A:Option VT)(cap:Nat)(l:List Nat)(h1:ln l<=cap)(h2:cap<=VP)
  (hc:0<ln l->∃b off,A=Vz ⟨b,off,Vx⟩/\∀j,j<ln l->w.cell? ⟨b,off+j,Vx⟩=Vz (VZ VH (fv l j))):
  VJ prog 326 #[VV A (ln l) cap] w λe w'=>e=V0 (VV A (aA l).length cap)/\w=w':=by
 unfold VP at h2;go_enter func326,ntmps326;go_wp2
 go_loop [0] (λv=>∃k:Nat,k<=ln l/\v=VV A k cap/\Hid (aA (l.take k)=aA l)) (λv=>Jh v)
 case atStart=>exact⟨ln l,Vu _,rfl,by simp[Hid]⟩
 case round=>
  obtain⟨k,hk,rfl,ht⟩:=hrel;rcases k with _|k
  ·exact XO
  ·obtain⟨b,off,rfl,hcell⟩:=hc V7;have hx:=hcell k V7;by_cases h0:fv l k=0
   ·have hz:((fv l k:Int)==0)=VD:=by rw[h0];rfl
    have H0:=Vs h0;clear h0 hcell;go_wp2
    go_round
    case rel=>exact⟨k,V7,rfl,yt V7 H0.o ht.o⟩
    case measure=>simp[Jh]
   ·exact XN
end
section
open Kp
def Row(w:Vt)(g cap:Nat)(l:List Nat):Prop:=
 ∃cur:Array Vy,w.heap[g]?=Vz (.cells cur 3 (0,0))/\cur.size=cap/\ln l<=cap/\cap<=VP/\∀j,j<ln l->cur[j]?=Vz (VZ VH (fv l j))
theorem Row.lt{l:List Nat}(h:Row w g cap l):g<w.heap.size:=by
 obtain⟨cur,hh,_⟩:=h;exact(VF.1 hh).1
theorem Row.cell{l:List Nat}(h:Row w g cap l)(hj:j<ln l):w.cell? ⟨g,j,Vx⟩=Vz (VZ VH (fv l j)):=by
 obtain⟨cur,hh,_,_,_,hc⟩:=h;simp[World.cell?,hh,hc j hj]
theorem Row.frozen{l:List Nat}(h:Row w g cap l)(j:Nat):w.frozen? ⟨g,j,Vx⟩=Vw:=by
 obtain⟨cur,hh,_⟩:=h;simp[World.frozen?,hh]
theorem iw{l:List Nat}(hj:j<ln l):fv (l.set j x) k=if k=j then x else fv l k:=by
 exact XP
theorem Row.set{l:List Nat}(h:Row w g cap l)(hj:j<ln l)(x:Nat):Row (w.setCell ⟨g,j,Vx⟩ (VZ VH x)) g cap (l.set j x):=by
 obtain⟨cur,hh,h1,h2,h3,hc⟩:=h;refine⟨cur.setIfInBounds j (VZ VH x),?_,by simp[h1],by simpa using h2,h3,λk hk=> ?_⟩
 ·exact XR
 ·exact XQ
theorem Row.keep{l:List Nat}(h:Row w g cap l)(hk:w'.heap[g]?=w.heap[g]?):Row w' g cap l:=by
 obtain⟨cur,hh,r⟩:=h;exact⟨cur,hk.trans hh,r⟩
theorem Row.drew{l:List Nat}(h:Row w g cap l):Row w.drew g cap l:=h
theorem Row.drewN{l:List Nat}(h:Row w g cap l)(n:Nat):Row (w.drewN n) g cap l:=h
theorem Row.sl{l:List Nat}(h:Row w g cap l)(hg:g<b0):bB w b0 (VV (Vz ⟨g,0,Vx⟩) (ln l) cap) l:=by
 exact XS
structure dO(g:Nat)(w w':Vt):Prop where
 os:w'.os=w.os
 tape:w'.tape=w.tape
 output:w'.output=w.output
 size:w'.heap.size=w.heap.size
 block:∀k,k≠g->w'.heap[k]?=w.heap[k]?
def dO.refl(g:Nat)(w:Vt):dO g w w:=⟨rfl,rfl,rfl,rfl,λ_ _=>rfl⟩
theorem dO.drewN(h:dO g w w')(n:Nat):dO g w (w'.drewN n):=⟨h.os,h.tape,h.output,h.size,h.block⟩
theorem dO.drew(h:dO g w w'):dO g w w'.drew:=⟨h.os,h.tape,h.output,h.size,h.block⟩
theorem dO.set(h:dO g w w')(j:Nat)(x:Vy):dO g w (w'.setCell ⟨g,j,Vx⟩ x):=
 ⟨h.os,h.tape,h.output,by simpa[World.setCell] using h.size,λk hk=>(Below.heap_setCell w' ⟨g,j,Vx⟩ x k hk).trans (h.block k hk)⟩
theorem dO.trans{a b c:Vt}(h:dO g a b)(k:dO g b c):dO g a c:=
 ⟨k.os.trans h.os,k.tape.trans h.tape,k.output.trans h.output,k.size.trans h.size,λi hi=>(k.block i hi).trans (h.block i hi)⟩
theorem dO.cell(h:dO g w w')(hp:p.block≠g):w'.cell? p=w.cell? p:=World.cell?_of_block (h.block _ hp)
theorem dO.sl(h:dO g w w'){v:Vy}{l:List Nat}(hs:bB w b0 v l)(hb:b0<=g):bB w' b0 v l:=hs.keep λp hp=>h.cell V7
theorem dO.below(h:dO g w w')(hb:b0<=g):VS b0 w w':=
 ⟨h.os,h.tape,h.output,by rw[h.size];exact Vu _,λk hk=>h.block k V7⟩
theorem zq{v:Vy}(h:w.cell? p=Vz v):p.block<w.heap.size:=by
 rcases Nat.lt_or_ge p.block w.heap.size with hlt|hge
 ·exact hlt
 ·unfold World.cell? at h;rw[Array.getElem?_eq_none hge] at h;simp at h
def Hg(w:Vt)(g:Nat)(v:Vy)(l:List Nat):Prop:=
 ∃A cap,v=VV A (ln l) cap/\ln l<=cap/\cap<=VP/\
  (0<ln l->∃b off,A=Vz ⟨b,off,Vx⟩/\b≠g/\∀j,j<ln l->w.cell? ⟨b,off+j,Vx⟩=Vz (VZ VH (fv l j)))
theorem Hg.all{v:Vy}{l:List Nat}(h:Hg w g v l):bB w w.heap.size v l:=by
 obtain⟨A,cap,rfl,h1,h2,hc⟩:=h;refine⟨A,cap,rfl,h1,h2,λhn=> ?_⟩;obtain⟨b,off,e,hb,hcell⟩:=hc hn;exact⟨b,off,e,zq (hcell 0 hn),hcell⟩
theorem dO.Sl(h:dO g w w'){v:Vy}{l:List Nat}(hs:Hg w g v l):Hg w' g v l:=by
 obtain⟨A,cap,rfl,h1,h2,hc⟩:=hs;refine⟨A,cap,rfl,h1,h2,λhn=> ?_⟩;obtain⟨b,off,e,hb,hcell⟩:=hc hn;exact⟨b,off,e,hb,λj hj=>(h.cell hb).trans (hcell j hj)⟩
theorem bB.dz{v:Vy}{l:List Nat}(h:bB w b0 v l)(hg:b0<=g):Hg w g v l:=by
 exact XL
theorem Row.Sl{l:List Nat}(h:Row w g cap l)(hg:g≠g'):Hg w g' (VV (Vz ⟨g,0,Vx⟩) (ln l) cap) l:=by
 exact XS
end
section
open Kp
def cC{n:Int}(h0: -9223372036854775808<=n)(h1:n<=9223372036854775807):VH.wrap n=n:=VQ _ V7
def oU(w:Vt)(g cap:Nat)(u v:List Nat)(j q k c:Nat)(u':List Nat)(w':Vt):Prop:=
 Row w' g cap u'/\ln u'=ln u/\Small u'/\(∀i,i<j\/j+k<=i->fv u' i=fv u i)/\
  S (sh (fv u') j) k+q*S (fv v) k=S (sh (fv u) j) k+c*B^k/\c<=2000000010/\dO g w w'
def K9(w:Vt)(g cap:Nat)(u v:List Nat)(j q:Nat)(c i:Vy)(w':Vt):Prop:=
 ∃(k cN:Nat) (u':List Nat),k<=ln v+1/\i=VZ VH k/\c=VZ VH cN/\oU w g cap u v j q k cN u' w'
def NF(w:Vt)(g cap:Nat)(u v:List Nat)(j q:Nat)(e:Ending)(w':Vt):Prop:=
 ∃(c:Nat) (u':List Nat),e=V0 (VX (decide (0<c)))/\oU w g cap u v j q (ln v+1) c u' w'
def DM(w:Vt)(b0:Nat)(v:Vy)(l:List Nat)(i:Nat)(h:bB w b0 v l)(hi:i<=4611686018427387904):
  VJ prog 346 #[v,VZ VH i] w λe w'=>e=V0 (VZ VH (fv l i))/\w'=w:=
 (tT w b0 v l i h hi).mono λ_ _ h=>⟨h.1,h.2.symm⟩
def oG{q x:Nat}(hq:q<=2000000000)(hx:x<1000000000):0<=(q:Int)*(x:Int)/\(q:Int)*(x:Int)<=2000000000000000000:=by
 have h:q*x<=2000000000*1000000000:=Nat.mul_le_mul hq V7;have e:((q*x:Nat):Int)=(q:Int)*(x:Int):=Wa;omega
theorem B8{l:List Nat}(h:j+k<ln l):S (sh (fv (l.set (j+k) x)) j) (k+1)=S (sh (fv l) j) k+x*B^k:=by
 rw[bR,dU (g:=sh (fv l) j)]
 ·have:sh (fv (l.set (j+k) x)) j k=x:=by unfold sh;rw[iw h,if_pos rfl]
  rw[this]
 ·intro i hi;unfold sh;rw[iw h,if_neg V7]
theorem Small.set{l:List Nat}(h:Small l)(hx:x<B):Small (l.set j x):=by
 exact XT
theorem yw{u v u':List Nat}{j q k c x c':Nat}(n:Nat)(H:oU w g cap u v j q k c u' wr)(hj:j+k<ln u)
  (hx:x<1000000000)(hc':c'<=2000000010)(he:x+q*fv v k+c=fv u' (j+k)+c'*1000000000):
  oU w g cap u v j q (k+1) c' (u'.set (j+k) x) ((wr.drewN n).setCell ⟨g,j+k,Vx⟩ (VZ VH x)):=by
 obtain⟨hR,hl,hS,hsame,heq,hc,hO⟩:=H;refine⟨(hR.drewN n).set V7 x,XI,Small.set hS hx,λi hi=> ?_,?_,hc',(hO.drewN n).set _ _⟩
 ·rw[iw V7,if_neg V7];exact hsame i V7
 ·rw[B8 V7,bR (fv v),bR (sh (fv u) j),Nat.pow_succ];refine Hr heq ?_;exact XU
def Lf{a c p:Nat}(h:(a:Int)-c-p<0)(hc:c<=2000000010)(hp:p<=2000000000000000000):
  ∃c' x:Nat,(-((a:Int)-c-p)+1000000000-1)/1000000000=c'/\(a:Int)-c-p+(c':Int)*1000000000=x/\x<1000000000/\c'<=2000000010/\x+p+c=a+c'*1000000000:=by
 refine⟨((-((a:Int)-c-p)+1000000000-1)/1000000000).toNat,((a:Int)-c-p+((-((a:Int)-c-p)+1000000000-1)/1000000000)*1000000000).toNat,?_,?_,?_,?_,?_⟩<;>omega
def Ma(w:Vt)(g cap:Nat)(u v:List Nat)(vv:Vy)(j q:Nat)(hr:Row w g cap u)(hv:Hg w g vv v)(hu:Small u)(hvs:Small v)
  (hj:j+ln v+1<=ln u)(hq:q<=2000000000)(hlen:ln u<=4294967296):
  VJ prog 332 #[VV (Vz ⟨g,0,Vx⟩) (ln u) cap,vv,VZ VH j,VZ VH q] w (NF w g cap u v j q):=by
 have hcap:ln u<=cap/\cap<=9223372036854775807:=Xq;obtain⟨A,vcap,rfl,hv1,hv2,hvc⟩:=id hv;unfold VP at hv2;go_enter func332,ntmps332;go_wp2;go_loopw [9,15] (λc i wr=>K9 w g cap u v j q c i wr) (λ_ i _=>ln v+1-(VN i).toNat)
 case atStart=>exact⟨0,0,u,V7,rfl,rfl,hr,rfl,hu,λ_ _=>rfl,by simp[S],V7,dO.refl _ _⟩
 case round=>
  obtain⟨k,c,u',hk,rfl,rfl,hrel⟩:=hrel;obtain⟨hR,hl,hS,hsame,heq,hc,hO⟩:=id hrel;by_cases hlt:k<ln v+1
  ·have hx:=hR.cell (j:=j+k) V7;have hfr:=hR.frozen (j+k);have hub:fv u' (j+k)<1000000000:=aB hS (j+k);have hvb:fv v k<1000000000:=aB hvs k;obtain⟨hp0,lA⟩:=oG hq hvb;have hsv:=(hO.Sl hv).all;have w1:VH.wrap ((j:Int)+k)=j+k:=cC V7 V7;have w1a:0<=(j:Int)+k:=V7;have w1b:((j:Int)+k).toNat=j+k:=V7;have w2:VH.wrap ((fv u' (j+k):Int)-c)=fv u' (j+k)-c:=cC V7 V7;have w3:VH.wrap ((q:Int)*(fv v k:Int))=q*fv v k:=cC V7 V7;have w4:VH.wrap ((fv u' (j+k):Int)-c-(q:Int)*(fv v k:Int))=fv u' (j+k)-c-q*fv v k:=cC V7 V7;have w1c:(j:Int)+k<ln u:=V7;have H:=Vs hrel;clear hrel heq hsame hl hS hR hO;go_wp2_with fail
   go_quiet ((go_at_call 346;exact Calls.quiet_of_same (DM _ _ _ v k hsv V7)))
   go_wp2
   ·have hneg:(fv u' (j+k):Int)-c-(q:Int)*(fv v k:Int)<0:=Wi;have ep:((q:Int)*(fv v k:Int))=((q*fv v k:Nat):Int):=Wa;rw[ep] at hneg lA⊢;obtain⟨c',x,e1,e2,hx1,hc1,he⟩:=Lf hneg hc V7;rw[e1,e2];exact⟨⟨k+1,c',_,V7,by go_num,rfl,yw nq H.o V7 hx1 hc1 he⟩,Wc⟩
   ·have hpos:0<=(fv u' (j+k):Int)-c-(q:Int)*(fv v k:Int):=Wi;have ep:((q:Int)*(fv v k:Int))=((q*fv v k:Nat):Int):=Wa;rw[ep] at hpos lA⊢;have e2:(fv u' (j+k):Int)-c-((q*fv v k:Nat):Int)=((fv u' (j+k)-c-q*fv v k:Nat):Int):=V7;rw[e2];exact⟨⟨k+1,0,_,V7,by go_num,rfl,yw nq H.o V7 V7 V7 V7⟩,Wc⟩
  ·exact XV
end
section
open Kp
def kX(w:Vt)(g cap:Nat)(u v:List Nat)(j q k c:Nat)(u':List Nat)(w':Vt):Prop:=
 Row w' g cap u'/\ln u'=ln u/\Small u'/\(∀i,i<j\/j+k<=i->fv u' i=fv u i)/\
  S (sh (fv u') j) k+c*B^k=S (sh (fv u) j) k+q*S (fv v) k/\c<=2000000010/\dO g w w'
def NC(w:Vt)(g cap:Nat)(u v:List Nat)(j q:Nat)(c i:Vy)(w':Vt):Prop:=
 ∃(k cN:Nat) (u':List Nat),k<=ln v+1/\i=VZ VH k/\c=VZ VH cN/\kX w g cap u v j q k cN u' w'
def LV(w:Vt)(g cap:Nat)(u v:List Nat)(j q:Nat)(e:Ending)(w':Vt):Prop:=
 ∃(c:Nat) (u':List Nat),e=V0 (VV (Vz ⟨g,0,Vx⟩) (ln u) cap)/\kX w g cap u v j q (ln v+1) c u' w'
theorem yf{u v u':List Nat}{j q k c x c':Nat}(n:Nat)(H:kX w g cap u v j q k c u' wr)(hj:j+k<ln u)
  (hx:x<1000000000)(hc':c'<=2000000010)(he:x+c'*1000000000=fv u' (j+k)+q*fv v k+c):
  kX w g cap u v j q (k+1) c' (u'.set (j+k) x) ((wr.drewN n).setCell ⟨g,j+k,Vx⟩ (VZ VH x)):=by
 obtain⟨hR,hl,hS,hsame,heq,hc,hO⟩:=H;refine⟨(hR.drewN n).set V7 x,XI,Small.set hS hx,λi hi=> ?_,?_,hc',(hO.drewN n).set _ _⟩
 ·rw[iw V7,if_neg V7];exact hsame i V7
 ·rw[B8 V7,bR (fv v),bR (sh (fv u) j),Nat.pow_succ];refine yT heq ?_;exact XU
def Cx(w:Vt)(g cap:Nat)(u v:List Nat)(vv:Vy)(j q:Nat)(hr:Row w g cap u)(hv:Hg w g vv v)(hu:Small u)(hvs:Small v)
  (hj:j+ln v+1<=ln u)(hq:q<=2000000000)(hlen:ln u<=4294967296):
  VJ prog 333 #[VV (Vz ⟨g,0,Vx⟩) (ln u) cap,vv,VZ VH j,VZ VH q] w (LV w g cap u v j q):=by
 have hcap:ln u<=cap/\cap<=9223372036854775807:=Xq;obtain⟨A,vcap,rfl,hv1,hv2,hvc⟩:=id hv;unfold VP at hv2;go_enter func333,ntmps333;go_wp2;go_loopw [9,15] (λc i wr=>NC w g cap u v j q c i wr) (λ_ i _=>ln v+1-(VN i).toNat)
 case atStart=>exact⟨0,0,u,V7,rfl,rfl,hr,rfl,hu,λ_ _=>rfl,by simp[S],V7,dO.refl _ _⟩
 case round=>
  obtain⟨k,c,u',hk,rfl,rfl,hrel⟩:=hrel;obtain⟨hR,hl,hS,hsame,heq,hc,hO⟩:=id hrel;by_cases hlt:k<ln v+1
  ·have hx:=hR.cell (j:=j+k) V7;have hfr:=hR.frozen (j+k);have hub:fv u' (j+k)<1000000000:=aB hS (j+k);have hvb:fv v k<1000000000:=aB hvs k;obtain⟨hp0,lA⟩:=oG hq hvb;have hsv:=(hO.Sl hv).all;have w1:VH.wrap ((j:Int)+k)=j+k:=cC V7 V7;have w1a:0<=(j:Int)+k:=V7;have w1b:((j:Int)+k).toNat=j+k:=V7;have w3:VH.wrap ((q:Int)*(fv v k:Int))=q*fv v k:=cC V7 V7;have w2:VH.wrap ((fv u' (j+k):Int)+(q:Int)*(fv v k:Int))=fv u' (j+k)+q*fv v k:=cC V7 V7;have w4:VH.wrap ((fv u' (j+k):Int)+(q:Int)*(fv v k:Int)+c)=fv u' (j+k)+q*fv v k+c:=cC V7 V7;have w1c:(j:Int)+k<ln u:=V7;have H:=Vs hrel;clear hrel heq hsame hl hS hR hO;go_wp2_with fail
   go_quiet ((go_at_call 346;exact Calls.quiet_of_same (DM _ _ _ v k hsv V7)))
   go_wp2;have ep:((q:Int)*(fv v k:Int))=((q*fv v k:Nat):Int):=Wa;rw[ep] at lA⊢;have e1:((fv u' (j+k):Int)+((q*fv v k:Nat):Int)+c)/1000000000=(((fv u' (j+k)+q*fv v k+c)/1000000000:Nat):Int):=V7;have e2:((fv u' (j+k):Int)+((q*fv v k:Nat):Int)+c)%1000000000=(((fv u' (j+k)+q*fv v k+c)%1000000000:Nat):Int):=V7;rw[e1,e2];exact⟨⟨k+1,_,_,V7,by go_num,rfl,yf nq H.o V7 V7 V7 V7⟩,Wc⟩
  ·exact XV
end
section
open Kp
def z8(U V un u1 v1 q r:Nat):Prop:=
 q*v1+r=un*1000000000+u1/\U<(q+1)*V/\q<=2000000000/\r<1000000000
def Ou(w:Vt)(U V un u1 v1:Nat)(q r:Vy)(w':Vt):Prop:=
 ∃qN rN n:Nat,q=VZ VH qN/\r=VZ VH rN/\z8 U V un u1 v1 qN rN/\w'=w.drewN n
def Pm(w:Vt)(U V:Nat)(e:Ending)(w':Vt):Prop:=
 ∃q n:Nat,e=V0 (VZ VH q)/\U<(q+1)*V/\q<=2000000000/\w'=w.drewN n
def P7{v:List Nat}(hn:2<=ln v):fv v (ln v-1)*B^(ln v-1)<=val v/\(fv v (ln v-1)*B+fv v (ln v-2))*B^(ln v-2)<=val v:=by
 obtain⟨m,hm⟩:∃m,ln v=m+2:=⟨ln v-2,V7⟩;unfold val;rw[hm,bR,bR];show fv v (m+1)*B^(m+1)<=_/\(fv v (m+1)*B+fv v m)*B^m<=_;refine⟨Nat.le_add_left _ _,?_⟩;rw[Nat.pow_succ,Nat.add_mul];have:fv v (m+1)*(B^m*B)=fv v (m+1)*B*B^m:=by rw[VL (B^m),Nat.mul_assoc]
 omega
theorem O5(hu:Small u)(hn:2<=n):
  S (sh (fv u) j) (n+1)<(fv u (j+n)*B+fv u (j+n-1)+1)*B^(n-1)/\
  S (sh (fv u) j) (n+1)<((fv u (j+n)*B+fv u (j+n-1))*B+fv u (j+n-2)+1)*B^(n-2):=by
 obtain⟨m,rfl⟩:∃m,n=m+2:=⟨n-2,V7⟩;have h1:S (sh (fv u) j) (m+1)<B^(m+1):=sG (λk _=>aB hu _);have h0:S (sh (fv u) j) m<B^m:=sG (λk _=>aB hu _);rw[bR,bR (sh (fv u) j) (m+1)];show S (sh (fv u) j) (m+1)+fv u (j+(m+1))*B^(m+1)+fv u (j+(m+2))*B^(m+2)<(fv u (j+(m+2))*B+fv u (j+(m+1))+1)*B^(m+1)/\
  S (sh (fv u) j) (m+1)+fv u (j+(m+1))*B^(m+1)+fv u (j+(m+2))*B^(m+2)<((fv u (j+(m+2))*B+fv u (j+(m+1)))*B+fv u (j+m)+1)*B^m
 generalize fv u (j+(m+2))=a;generalize fv u (j+(m+1))=b;have ea:a*B^(m+2)=a*B*B^(m+1):=by rw[Nat.pow_succ B (m+1),VL (B^(m+1)),Nat.mul_assoc]
 constructor
 ·rw[Nat.add_mul,Nat.add_mul,Nat.one_mul,ea];omega
 ·rw[bR];show S (sh (fv u) j) m+fv u (j+m)*B^m+b*B^(m+1)+a*B^(m+2)<_;generalize fv u (j+m)=c;have e1:((a*B+b)*B+c+1)*B^m=a*B^(m+2)+b*B^(m+1)+c*B^m+B^m:=by
   rw[ea,Nat.pow_succ,Nat.add_mul,Nat.add_mul,Nat.one_mul,Nat.add_mul,Nat.add_mul];have x1:a*B*B*B^m=a*B*(B^m*B):=by rw[Nat.mul_assoc (a*B),VL B (B^m)]
   have x2:b*B*B^m=b*(B^m*B):=by rw[Nat.mul_assoc,VL B (B^m)]
   omega
  rw[e1];omega
def GV{U V un u1 v1 P:Nat}(hU:U<(un*B+u1+1)*P)(hV:v1*P<=V)(hb:v1<1000000000)(hub:u1<1000000000)(h1:1<=v1)(htop:un<=v1):
  z8 U V un u1 v1 ((un*1000000000+u1)/v1) ((un*1000000000+u1)%v1):=by
 obtain⟨t,ht⟩:∃t,un*B+u1=t:=⟨_,rfl⟩;rw[ht] at hU;have ht2:un*1000000000+u1=t:=ht;unfold z8;rw[ht2];have hdm:=Nat.div_add_mod t v1;have hm:=Nat.mod_lt t h1;refine⟨by rw[VL];exact hdm,JD hU hV ?_,?_,V7⟩
 ·rw[Nat.add_mul,Nat.one_mul,VL];omega
 ·have:t<=2000000000*v1:=V7;exact Nat.div_le_of_le_mul (by rw[VL];exact this)
def Lt{U V un u1 u2 v1 v2 q r P:Nat}(hs:U<((un*B+u1)*B+u2+1)*P)(hv:(v1*B+v2)*P<=V)(hU:U<B*V)(h:z8 U V un u1 v1 q r)
  (hc:1000000000<=q\/r*1000000000+u2<q*v2):
  1<=q/\U<(q-1+1)*V/\(q-1)*v1+(r+v1)=un*1000000000+u1:=by
 obtain⟨he,hlt,hq,hr⟩:=h;have h1:1<=q:=by
  rcases hc with hc|hc
  ·omega
  ·rcases Nat.eq_zero_or_pos q with h0|h0
   ·subst h0;omega
   ·exact h0
 refine⟨h1,?_,?_⟩
 ·rw[Nat.sub_add_cancel h1];rcases hc with hc|hc
  ·exact PH hU hc
  ·exact NO he hs hv hc
 ·have:q*v1=(q-1)*v1+v1:=by
   rw[<-Nat.succ_mul,Nat.succ_eq_add_one,Nat.sub_add_cancel h1]
  omega
theorem O2(h1:un<1000000000)(h2:u1<1000000000)(h3:1<=v1):
  VH.wrap (((un:Int)*1000000000+u1).tdiv v1)=(((un*1000000000+u1)/v1:Nat):Int):=by
 rw[IntWalk.i64_quo _ _ ⟨V7,V7,V7⟩];simp
theorem Oi:((un:Int)*1000000000+u1).tmod v1=(((un*1000000000+u1)%v1:Nat):Int):=by
 rw[IntWalk.rem_in _ _ V7];simp
def zP(w:Vt)(g ucap:Nat)(u v:List Nat)(A:Option VT)(vcap j b0:Nat)(hr:Row w g ucap u)(hv:bB w b0 (VV A (ln v) vcap) v)(hu:Small u)(hvs:Small v)
  (hn:2<=ln v)(hj:j+ln v<ln u)(_hlen:ln u<=4294967296)(h1:1<=fv v (ln v-1))(htop:fv u (j+ln v)<=fv v (ln v-1))
  (hU:S (sh (fv u) j) (ln v+1)<B*val v):
  VJ prog 331 #[VV (Vz ⟨g,0,Vx⟩) (ln u) ucap,VV A (ln v) vcap,VZ VH j] w (Pm w (S (sh (fv u) j) (ln v+1)) (val v)):=by
 have hcap:ln u<=ucap/\ucap<=9223372036854775807:=Xq;obtain⟨A',vcap',e,hv1,hv2,hvc⟩:=hv;injection e with e1 e2 e3
 subst e1 e3;obtain⟨b,off,rfl,_,hvcell⟩:=hvc V7;unfold VP at hv2;have sg:=O5 (j:=j) hu hn;have vt:=P7 hn;have c0:=hr.cell hj;have c1:=hr.cell (j:=j+ln v-1) V7;have c2:=hr.cell (j:=j+ln v-2) V7;have d1:=hvcell (ln v-1) V7;have d2:=hvcell (ln v-2) V7;have bu0:fv u (j+ln v)<1000000000:=aB hu _;have bu1:fv u (j+ln v-1)<1000000000:=aB hu _;have bu2:fv u (j+ln v-2)<1000000000:=aB hu _;have bv1:fv v (ln v-1)<1000000000:=aB hvs _;have bv2:fv v (ln v-2)<1000000000:=aB hvs _;have hstart:=Vs (GV sg.1 vt.1 bv1 bu1 h1 htop);have hless:=Vs (λq r=>Lt (q:=q) (r:=r) sg.2 vt.2 hU);clear hvcell hvc hr hU htop hvs hu sg vt;generalize S (sh (fv u) j) (ln v+1)=U at *;generalize val v=V at *;generalize fv u (j+ln v)=un at *;generalize fv u (j+ln v-1)=u1 at *;generalize fv u (j+ln v-2)=u2 at *;generalize fv v (ln v-1)=v1 at *;generalize fv v (ln v-2)=v2 at *;have y1:un<1000000000:=V7;have y2:u1<1000000000:=V7;have y3:1<=v1:=V7;have hv0:¬v1=0:=V7;have x1:(j:Int)+ln v<ln u:=V7;have x2:(j:Int)+ln v-1<ln u:=V7;have x3:0<=(j:Int)+ln v-1:=V7;have x4:0<=(ln v:Int)-1:=V7;have x5:(ln v:Int)-1<ln v:=V7;have w1:VH.wrap ((j:Int)+ln v)=j+ln v:=cC V7 V7;have w1b:((j:Int)+ln v).toNat=j+ln v:=V7;have w2:VH.wrap ((j:Int)+ln v-1)=j+ln v-1:=cC V7 V7;have w2b:((j:Int)+ln v-1).toNat=j+ln v-1:=V7;have w3:VH.wrap ((un:Int)*1000000000)=un*1000000000:=cC V7 V7;have w4:VH.wrap ((un:Int)*1000000000+u1)=un*1000000000+u1:=cC V7 V7;have w5:VH.wrap ((ln v:Int)-1)=ln v-1:=cC V7 V7;have w5b:((ln v:Int)-1).toNat=ln v-1:=V7;have w6:=O2 (un:=un) (u1:=u1) (v1:=v1) y1 y2 y3;have w7:=Oi (un:=un) (u1:=u1) (v1:=v1);go_enter func331,ntmps331;go_wp2_with fail
 go_quiet (fail)
 go_wp2_with fail
 go_quiet (fail)
 go_wp2_with fail
 clear w1 w1b w2 w2b w3 w4 w6 w7 w5 w5b x1 x2 x3 x4 x5;go_loopw [9,10] (λq r wr=>Ou w U V un u1 v1 q r wr) (λq _ _=>(VN q).toNat)
 case atStart=>exact⟨_,_,_,rfl,rfl,hstart.o,World.drewN_drewN _ _ _⟩
 case round=>
  obtain⟨q,r,n,rfl,rfl,hrel,rfl⟩:=hrel;obtain⟨_,_,hq,hr⟩:=id hrel;have H:=Vs hrel;clear hrel hstart;have p1:=oG hq bv2;by_cases hA:1000000000<=q
  ·have hl:=hless.o q r H.o (.inl hA);have HL:=Vs hl.2;have hq1:=hl.1;clear hl;have hA':(1000000000:Int)<=q:=V7;have x4:0<=(ln v:Int)-1:=V7;have x5:(ln v:Int)-1<ln v:=V7;have e1:(q:Int)-1=((q-1:Nat):Int):=V7;have E1:=Vs e1;clear e1;have hB0:r+v1<1000000000\/¬r+v1<1000000000:=V7;have w8:VH.wrap ((q:Int)-1)=q-1:=cC V7 V7;have w9:VH.wrap ((r:Int)+v1)=r+v1:=cC V7 V7;have w5:VH.wrap ((ln v:Int)-1)=ln v-1:=cC V7 V7;have w5b:((ln v:Int)-1).toNat=ln v-1:=V7;rcases hB0 with hB0|hB0
   ·have hB:(r:Int)+v1<1000000000:=V7;have hB2:decide ((1000000000:Int)<=(r:Int)+v1)=Vw:=Wf;go_wp2_with fail
    go_quiet (fail)
    go_wp2_with fail
    go_quiet (fail)
    clear w8 w9 w5 w5b;exact XX
   ·have hB:(1000000000:Int)<=(r:Int)+v1:=V7;have hB2:decide ((1000000000:Int)<=(r:Int)+v1)=VD:=Wf;go_wp2_with fail
    go_quiet (fail)
    go_wp2_with fail
    go_quiet (fail)
    clear w8 w9 w5 w5b;exact XW
  ·by_cases hC:r*1000000000+u2<q*v2
   ·have hl:=hless.o q r H.o (.inr hC);have HL:=Vs hl.2;have hq1:=hl.1;clear hl;have hC':(r:Int)*1000000000+u2<(q:Int)*v2:=by
     have:((q*v2:Nat):Int)=(q:Int)*v2:=Wa;omega
    have x4:0<=(ln v:Int)-1:=V7;have x5:(ln v:Int)-1<ln v:=V7;have x6:0<=(ln v:Int)-2:=V7;have x7:(ln v:Int)-2<ln v:=V7;have x8:0<=(j:Int)+ln v-2:=V7;have x9:(j:Int)+ln v-2<ln u:=V7;have hr':(r:Int)<1000000000:=V7;have hA1:decide ((1000000000:Int)<=q)=Vw:=Wf;have y6:((ln v:Int)-2).toNat=ln v-2:=V7;have y8:((j:Int)+ln v-2).toNat=j+ln v-2:=V7;have w10:VH.wrap ((ln v:Int)-2)=ln v-2:=cC V7 V7;have w11:VH.wrap ((j:Int)+ln v)=j+ln v:=cC V7 V7;have w12:VH.wrap ((j:Int)+ln v-2)=j+ln v-2:=cC V7 V7;have w13:VH.wrap ((q:Int)*v2)=q*v2:=cC V7 V7;have w14:VH.wrap ((r:Int)*1000000000)=r*1000000000:=cC V7 V7;have w15:VH.wrap ((r:Int)*1000000000+u2)=r*1000000000+u2:=cC V7 V7;have e1:(q:Int)-1=((q-1:Nat):Int):=V7;have E1:=Vs e1;clear e1;have hB0:r+v1<1000000000\/¬r+v1<1000000000:=V7;have w8:VH.wrap ((q:Int)-1)=q-1:=cC V7 V7;have w9:VH.wrap ((r:Int)+v1)=r+v1:=cC V7 V7;have w5:VH.wrap ((ln v:Int)-1)=ln v-1:=cC V7 V7;have w5b:((ln v:Int)-1).toNat=ln v-1:=V7;rcases hB0 with hB0|hB0
    ·have hB:(r:Int)+v1<1000000000:=V7;have hB2:decide ((1000000000:Int)<=(r:Int)+v1)=Vw:=Wf;go_wp2_with fail
     go_quiet (fail)
     go_wp2_with fail
     go_quiet (fail)
     clear w8 w9 w5 w5b w10 w11 w12 w13 w14 w15 y6 y8;exact XX
    ·have hB:(1000000000:Int)<=(r:Int)+v1:=V7;have hB2:decide ((1000000000:Int)<=(r:Int)+v1)=VD:=Wf;go_wp2_with fail
     go_quiet (fail)
     go_wp2_with fail
     go_quiet (fail)
     clear w8 w9 w5 w5b w10 w11 w12 w13 w14 w15 y6 y8;exact XW
   ·have hC':¬(r:Int)*1000000000+u2<(q:Int)*v2:=by
     have:((q*v2:Nat):Int)=(q:Int)*v2:=Wa;omega
    have hC2:decide ((r:Int)*1000000000+u2<(q:Int)*v2)=Vw:=Wf;have x4:0<=(ln v:Int)-1:=V7;have x5:(ln v:Int)-1<ln v:=V7;have x6:0<=(ln v:Int)-2:=V7;have x7:(ln v:Int)-2<ln v:=V7;have x8:0<=(j:Int)+ln v-2:=V7;have x9:(j:Int)+ln v-2<ln u:=V7;have hr':(r:Int)<1000000000:=V7;have hA1:decide ((1000000000:Int)<=q)=Vw:=Wf;have y6:((ln v:Int)-2).toNat=ln v-2:=V7;have y8:((j:Int)+ln v-2).toNat=j+ln v-2:=V7;have w10:VH.wrap ((ln v:Int)-2)=ln v-2:=cC V7 V7;have w11:VH.wrap ((j:Int)+ln v)=j+ln v:=cC V7 V7;have w12:VH.wrap ((j:Int)+ln v-2)=j+ln v-2:=cC V7 V7;have w13:VH.wrap ((q:Int)*v2)=q*v2:=cC V7 V7;have w14:VH.wrap ((r:Int)*1000000000)=r*1000000000:=cC V7 V7;have w15:VH.wrap ((r:Int)*1000000000+u2)=r*1000000000+u2:=cC V7 V7;go_wp2_with fail
    go_quiet (fail)
    clear w10 w11 w12 w13 w14 w15 y6 y8;go_wp2_with fail
    go_ret;exact⟨q,_,rfl,H.o.2.1,V7,WT⟩
end
section
open Kp
def eA:(prog.info? 3).map (λi=>(i.zero,i.size,i.bytes))=Vz (Vz (VZ VH 0),1,8):=V8
theorem vG{l:List Nat}(h:w.ownsRow base 3 1 (VV (Vz ⟨g,0,Vx⟩) n cap) n xs)(hn:ln l=n)
  (hx:∀j,j<ln l->xs[j]?=Vz (VZ VH (fv l j))):Row w g cap l:=by
 obtain⟨hl,h|⟨g',cap',cur,e,hb,hh,h1,h2,h3,h4⟩⟩:=h
 ·obtain⟨h,_⟩:=h;cases h
 ·injection e with e1 e2 e3
  injection e1 with e1
  injection e1 with e1
  subst e1 e3;refine⟨cur,hh,V7,V7,h2,λj hj=> ?_⟩;have:=hx j hj;rw[<-h4,List.getElem?_take,if_pos V7] at this;exact XY
theorem DR{l:List Nat}(h:Row w g cap l)(hb:base<=g):
  w.ownsRow base 3 1 (VV (Vz ⟨g,0,Vx⟩) (ln l) cap) (ln l) (l.map λ(d:Nat)=>Value.int .i64 (d:Int)):=by
 obtain⟨cur,hh,h1,h2,h3,hc⟩:=h;refine⟨Wa,.inr ⟨g,cap,cur,rfl,hb,hh,h2,h3,V7,?_⟩⟩;apply List.ext_getElem?;intro j;rw[List.getElem?_take];by_cases hj:j<ln l
 ·rw[if_pos V7,List.getElem?_map,VA hj];have:=hc j hj;rw[lT hj] at this;exact XY
 ·rw[if_neg V7,List.getElem?_map,List.getElem?_eq_none V7];rfl
def lG(n k:Nat):fv (List.replicate n 0) k=0:=by
 unfold fv;rw[Vv,List.getElem?_replicate];split <;>rfl
def rJ(n:Nat):Small (List.replicate n 0):=by
 intro d hd;rw[List.eq_of_mem_replicate hd];decide
theorem lh(h:w.ownsRow base 3 1 (VV (Vz ⟨g,0,Vx⟩) n n) n (madeCells (Value.int .i64 0).cells (n*1)).toList):Row w g n (List.replicate n 0):=by
 refine vG h Wa (λj hj=> ?_);simp at hj;rw[lG];simp[madeCells,Value.cells,hj,Nat.mod_one]
def aR(l:List Nat):(aA l).length<=ln l:=by
 obtain⟨m,hm⟩:=qh l;have:=congrArg List.length hm;simp at this;omega
theorem vE{l:List Nat}(hj:j<(aA l).length):fv (aA l) j=fv l j:=by
 obtain⟨m,hm⟩:=qh l;have hl:=aR l;have:l[j]?=(aA l)[j]?:=by
  have e:l[j]?=(aA l++List.replicate m 0)[j]?:=by rw[<-hm]
  rw[e,List.getElem?_append_left hj]
 unfold fv;rw[Vv,Vv,this]
theorem Row.trimmed{l:List Nat}(h:Row w g cap l):Row w g cap (aA l):=by
 have hl:=aR l;obtain⟨cur,hh,h1,h2,h3,hc⟩:=h;exact⟨cur,hh,h1,V7,h3,λj hj=>by rw[vE hj];exact hc j V7⟩
theorem kJ{l:List Nat}(h:Row w g cap l)(hn:ln l=n):
  VJ prog 326 #[VV (Vz ⟨g,0,Vx⟩) n cap] w λe w'=>e=V0 (VV (Vz ⟨g,0,Vx⟩) (aA l).length cap)/\w=w':=by
 subst hn;have h':=h;obtain⟨cur,hh,h1,h2,h3,hc⟩:=h;exact Co w _ cap l h2 h3 (λ_=>⟨g,0,rfl,λj hj=>by rw[Nat.zero_add];exact h'.cell hj⟩)
def qj(w1:Vt)(g n:Nat)(a b:List Nat)(i:Nat)(out:List Nat)(w':Vt):Prop:=
 Row w' g n out/\ln out=n/\Small out/\(∀k,i+ln b<=k->fv out k=0)/\S (fv out) n=S (fv a) i*val b/\dO g w1 w'
def I9(w1:Vt)(g n:Nat)(a b:List Nat)(i:Vy)(w':Vt):Prop:=
 ∃(k:Nat) (out:List Nat),k<=ln a/\i=VZ VH k/\qj w1 g n a b k out w'
def OX(w0:Vt)(g cap:Nat)(u v:List Nat)(j q:Nat)(c i:Vy)(w':Vt):Prop:=
 ∃(k cN:Nat) (u':List Nat),k<=ln v+1/\i=VZ VH k/\c=VZ VH cN/\kX w0 g cap u v j q k cN u' w'
theorem G2{w1 wo wr:Vt}{a b out out':List Nat}(hn:n=ln a+ln b+1)(hi:i<ln a)(ha:Small a)(hb:Small b)(h:qj w1 g n a b i out wo)
  (hr:kX wo g n out b i (fv a i) (ln b+1) c out' wr):qj w1 g n a b (i+1) out' wr:=by
 obtain⟨hR,hl,hS,hz,he,hO⟩:=h;obtain⟨hR',hl',hS',hsame,he',hc,hO'⟩:=hr;have hx:fv a i<B:=aB ha i;have hV:S (fv b) (ln b+1)=val b:=kh V7;have hO1:S (sh (fv out) i) (ln b+1)<B^ln b:=by
  rw[bR];have:sh (fv out) i (ln b)=0:=hz _ V7;rw[this,Nat.zero_mul,Nat.add_zero];exact sG (λk _=>aB hS _)
 rw[hV,Nat.pow_succ] at he';have hc0:=Dn he' hO1 (rf hb) hx;subst hc0;have ht:=Et (f:=fv out) (g:=fv out') (m:=n) (j:=i) (n:=ln b+1) V7 (λk hk=>hsame k (.inl hk)) (λk hk _=>hsame k (.inr hk));refine⟨hR',V7,hS',λk hk=> ?_,?_,hO.trans hO'⟩
 ·rw[hsame k (.inr V7)];exact hz k V7
 ·rw[bR (fv a),Nat.add_mul,<-he];have e1:S (sh (fv out') i) (ln b+1)=S (sh (fv out) i) (ln b+1)+fv a i*val b:=V7;rw[e1,Nat.mul_add] at ht;have e2:B^i*(fv a i*val b)=fv a i*B^i*val b:=by rw[<-Nat.mul_assoc,VL (B^i)]
  omega
def Hw(w0 w:Vt)(v:Vy)(l:List Nat):Prop:=
 ∃g cap,v=VV (Vz ⟨g,0,Vx⟩) (ln l) cap/\w0.heap.size<=g/\Row w g cap l
def xf(w:Vt)(a b:List Nat)(e:Ending)(w':Vt):Prop:=
 ∃v l,e=V0 v/\Hw w w' v l/\Canon l/\val l=val a*val b/\ln l<=ln a+ln b+1/\VS w.heap.size w w'
def qV(w:Vt)(a b:List Nat)(va vb:Vy)(ha:bB w w.heap.size va a)(hb:bB w w.heap.size vb b)(hsa:Small a)(hsb:Small b)(hla:ln a<=1000000)(hlb:ln b<=1000000):
  VJ prog 329 #[va,vb] w (xf w a b):=by
 obtain⟨A,ca,rfl,ha1,ha2,hac⟩:=id ha;obtain⟨A',cb,rfl,hb1,hb2,hbc⟩:=id hb;unfold VP at ha2 hb2;obtain⟨i0,hi,hz0,hz1,hz2⟩:=info_parts eA;go_enter func329,ntmps329;go_wp2_with(at_make;refine wpList_make_full _ rfl _ _ 25 rfl w.heap.size 3 i0 (VZ VH 0) 1 underlying25 hi hz0 hz1 .i64 .i64 _ _ (ln a+ln b+1) rfl rfl V7 V7 XE Wh (Vu _) ?_;intro w1 hown hgrow)
 have hrow:=lh hown;have hbel:VS w.heap.size w w1:=(Below.refl _ w).grown hgrow (Vu _) Wa;have sa1:=ha.below hbel;have sb1:=hb.below hbel;have hstart:qj w1 w.heap.size (ln a+ln b+1) a b 0 (List.replicate (ln a+ln b+1) 0) w1:=
  ⟨hrow,Wa,rJ _,λ_ _=>lG _ _,by rw[rr (λk _=>lG _ k),FY,Nat.zero_mul],dO.refl _ _⟩
 clear hown hgrow hrow ha hb hi hz0 hz1 hz2 hac hbc;go_loopw [20] (λi wr=>I9 w1 w.heap.size (ln a+ln b+1) a b i wr) (λi _=>ln a-(VN i).toNat)
 case atStart=>exact⟨0,_,V7,rfl,hstart⟩
 case round=>
  obtain⟨i,out,hi,rfl,hrel⟩:=hrel;clear hstart;obtain⟨wo,rfl⟩:∃wo:Vt,wo=wr:=⟨_,rfl⟩;obtain⟨hR,hl,hS,hz,he,hO⟩:=id hrel;by_cases hlt:i<ln a
  ·have sa:=hO.sl sa1 (Vu _);have sb:=hO.sl sb1 (Vu _);have hxb:fv a i<1000000000:=aB hsa i;have h0:kX wo w.heap.size (ln a+ln b+1) out b i (fv a i) 0 0 out wo:=⟨hR,rfl,hS,λ_ _=>rfl,by simp[S],V7,dO.refl _ _⟩;obtain⟨_,_,e,_,_,hac⟩:=sa;injection e with e1 e2 e3
   subst e1 e3;obtain⟨ba,oa,rfl,_,hcell⟩:=hac V7;have hc:=hcell i hlt;have H:=Vs hrel;clear hcell hac hrel he hz hR hO sa1 sb1;go_wp2_with fail
   go_loopw [8,28] (λc k wi=>OX wo w.heap.size (ln a+ln b+1) out b i (fv a i) c k wi) (λ_ k _=>ln b+1-(VN k).toNat)
   case atStart=>exact⟨0,0,out,V7,rfl,rfl,h0⟩
   case round=>
    obtain⟨k,c,u',hk,rfl,rfl,hin⟩:=hrel;clear h0;obtain⟨hR,hl',hS',hsame,heq,hc',hO⟩:=id hin;by_cases hkl:k<ln b+1
    ·have hx:=hR.cell (j:=i+k) V7;have hfr:=hR.frozen (i+k);have hub:fv u' (i+k)<1000000000:=aB hS' (i+k);have hvb:fv b k<1000000000:=aB hsb k;obtain⟨hp0,lA⟩:=oG (q:=fv a i) V7 hvb;have hsv:=hO.sl sb (Vu _);have w1:VH.wrap ((i:Int)+k)=i+k:=cC V7 V7;have w1a:0<=(i:Int)+k:=V7;have w1b:((i:Int)+k).toNat=i+k:=V7;have w1c:(i:Int)+k<ln a+ln b+1:=V7;have w3:VH.wrap ((fv a i:Int)*(fv b k:Int))=fv a i*fv b k:=cC V7 V7;have w2:VH.wrap ((fv u' (i+k):Int)+(fv a i:Int)*(fv b k:Int))=fv u' (i+k)+fv a i*fv b k:=cC V7 V7;have w4:VH.wrap ((fv u' (i+k):Int)+(fv a i:Int)*(fv b k:Int)+c)=fv u' (i+k)+fv a i*fv b k+c:=cC V7 V7;have HI:=Vs hin;clear hin heq hsame hl' hS' hR hO;go_wp2_with fail
     go_quiet ((go_at_call 346;exact Calls.quiet_of_same (DM _ w.heap.size _ b k hsv V7)))
     go_wp2;have ep:((fv a i:Int)*(fv b k:Int))=((fv a i*fv b k:Nat):Int):=Wa;rw[ep] at lA⊢;have e1:((fv u' (i+k):Int)+((fv a i*fv b k:Nat):Int)+c)/1000000000=(((fv u' (i+k)+fv a i*fv b k+c)/1000000000:Nat):Int):=V7;have e2:((fv u' (i+k):Int)+((fv a i*fv b k:Nat):Int)+c)%1000000000=(((fv u' (i+k)+fv a i*fv b k+c)%1000000000:Nat):Int):=V7;rw[e1,e2];exact⟨⟨k+1,_,_,V7,by go_num,rfl,yf nq HI.o V7 V7 V7 V7⟩,Wc⟩
    ·obtain rfl:k=ln b+1:=V7;have hnext:=Vs (G2 rfl hlt hsa hsb H.o hin);clear hin heq hsame hl' hS' hR hO;go_wp2_with fail
     exact⟨⟨i+1,u',V7,by go_num,hnext.o⟩,Wc⟩
  ·obtain rfl:i=ln a:=V7;have hfin:xf w a b (V0 (VV (Vz ⟨w.heap.size,0,Vx⟩) (aA out).length (ln a+ln b+1))) wo:=by
    refine⟨_,aA out,rfl,⟨_,_,rfl,Vu _,?_⟩,eD hS,?_,?_,hbel.trans (hO.below (Vu _))⟩
    ·exact hR.trimmed
    ·rw[gO];show S (fv out) (ln out)=S (fv a) (ln a)*val b;rw[hl,he]
    ·exact VI (aR _) V7
   have HF:=Vs hfin;have HT:=Vs (kJ hR hl);clear hfin hrel he hz hR hO sa1 sb1 hl;go_wp2_with(go_at_call 326;refine HT.o.mono ?_;rintro e w' ⟨rfl,rfl⟩)
   go_ret;exact HF.o
end
section
structure aF(n0:Nat)(W W':Vt):Prop where
 os:W'.os=W.os
 tape:W'.tape=W.tape
 output:W'.output=W.output
 size:W.heap.size<=W'.heap.size
 low:∀b,b<n0->W'.heap[b]?=W.heap[b]?
 cells:∀(b:Nat) (cs:Array Vy) (t:VR) (m:Nat×Nat),W.heap[b]?=Vz (Obj.cells cs t m)->W'.heap[b]?=Vz (Obj.cells cs t m)
theorem aF.aZ(h:VS W.heap.size W W')(hn:n0<=W.heap.size):aF n0 W W':=
 ⟨h.os,h.tape,h.output,h.size,λb hb=>h.block b V7,λb cs t m hb=>(h.block b (VF.1 hb).1).trans hb⟩
theorem aF.putObj{n0 l:Nat}{o:Obj}(o':Obj)(hl:W.heap[l]?=Vz o)(ho:o.isCells=Vw)(hn:n0<=l):aF n0 W (W.putObj l o'):=
 ⟨rfl,rfl,rfl,Wa,λb hb=>World.putObj_heap_other V7,λb cs t m hb=>(World.putObj_heap_other (λe=>by subst e;rw[hb] at hl;cases hl;cases ho)).trans hb⟩
theorem aF.trans{A B C:Vt}(h:aF n0 A B)(k:aF n0 B C):aF n0 A C:=
 ⟨k.os.trans h.os,k.tape.trans h.tape,k.output.trans h.output,VI h.size k.size,λb hb=>(k.low b hb).trans (h.low b hb),λb cs t m hb=>k.cells b cs t m (h.cells b cs t m hb)⟩
theorem aF.below(h:aF n0 W W'):VS n0 W W':=⟨h.os,h.tape,h.output,h.size,h.low⟩
theorem aF.cell(h:aF n0 W W'){v:Vy}(hc:W.cell? p=Vz v):W'.cell? p=Vz v:=by
 unfold World.cell? at hc⊢;cases ho:W.heap[p.block]? with
 |none=>rw[ho] at hc;simp at hc
 |some o=>
  cases o with
  |cells cs t m=>rw[ho] at hc;rw[h.cells _ _ _ _ ho];exact hc
  |_=>rw[ho] at hc;simp at hc
def CE(P:Program)(g:Nat)(lb:Array Vy)(X:Nat->Array Vy->Prop)(M:Vt->Prop)(N:Nat):Prop:=
 ∀(m l:Nat) (J Jx:Nat->Vt->Prop) (W:Vt),
  (∀k W1,J k W1->M W1)->(∀k W1 W2,J k W1->VS W1.heap.size W1 W2->J k W2)->(∀k W1 W2,Jx k W1->VS W1.heap.size W1 W2->Jx k W2)->
  (∀k x W1,k<N->X k x->J k W1->YieldAt Fence.wide (m-1) P l x W1 λe W'=>(e=V0 (VX VD)/\J (k+1) W')\/(e=V0 (VX Vw)/\Jx k W'))->
  J 0 W->CallsIn Fence.wide m P g (#[.func (.yield l) #[] #[]]++lb) W λe W'=>(∃v,e=V0 v)/\(J N W'\/∃k,k<N/\Jx k W')
def mu(I:Nat->Vt->Prop)(Ix:Code->Nat->Vt->Prop)(k:Nat)(W:Vt):Exit->Act->Vt->Prop
 | .normal,_,W'=>KeepsOthers W W'/\I (k+1) W'
 | .ret,_,W'=>KeepsOthers W W'/\Ix .ret k W'
 | .exit id,_,W'=>KeepsOthers W W'/\Ix (.exit id) k W'
 | .goto t,_,W'=>KeepsOthers W W'/\Ix (.goto t) k W'
 | .panic _,_,_=>False
 | .outgrown,_,_=>False
variable {P : Program}
theorem fQ{g:Operand}{ps:Array Tmp}{assign body:Code}{Q:Exit->Act->Vt->Prop}{a:Act}
  (hg:a.eval g= .func (.func gf) #[] lb)(eg:∀args w,(callFunc gf args).run P w= .ok (.enter gf args) w)
  {X:Nat->Array Vy->Prop}{M:Vt->Prop}(hseq:CE P gf lb X M N)(hps:∀k x,X k x->x.size=ps.size)
  (I:Nat->Vt->Prop)(Ix:Code->Nat->Vt->Prop)(hI:∀k W W',I k W->aF w.heap.size W W'->I k W')(hIx:∀c k W W',Ix c k W->aF w.heap.size W W'->Ix c k W')
  (hM:∀k W,I k W->M W)(h0:I 0 w)
  (hround:∀(l k:Nat) (x:Array Vy) (W:Vt) (K:Act->Vt->Prop),k<N->X k x->I k W->
   (∀a',(∀W2,I k W2->w.heap.size<W2.heap.size->body.wpIn (Fence.wide.inRound l) (n-1-1) P (mu I Ix k W2) a' W2)->K a' W)->
   assign.wpIn (Fence.wide.inRound l) (n-1-1) P (Exit.then K (λ_ _ _=>False)) {tmps:=(ps.zip x).foldl (λt (p,v)=>t.setIfInBounds p v) a.tmps,defers:=[]} W)
  (hdone:∀(D:Nat) (W:Vt),w.heap.size<=D->I N W->W.heap[D]?=Vz (.deferred (Vz []))->Q .normal {a with defers:={target:= .collected D,args:=#[]}::a.defers} W)
  (hstop:∀(D:Nat) (c:Code) (k:Nat) (W:Vt),w.heap.size<=D->k<N->Ix c k W->W.heap[D]?=Vz (.deferred (Vz []))->c.wpIn Fence.wide n P Q {a with defers:={target:= .collected D,args:=#[]}::a.defers} W):
  (Code.rangeFunc g ps assign body).wpIn Fence.wide n P Q a w:=by
 refine wpIn_rangeFunc ?_;intro fn hfn;obtain⟨R,hR⟩:∃R:LoopState->Option Code->Loop,R=λst pe=>{state:=st,pending:=pe,fn,tmps:=a.tmps,params:=ps,assign,body,defers:=w.heap.size}:=⟨_,rfl⟩
 obtain⟨W1,hW1⟩:∃W1,(w.alloc (.deferred (Vz []))).alloc (.loop (R .ready Vx))=W1:=⟨_,rfl⟩;have hL:W1.heap[w.heap.size+1]?=Vz (.loop (R .ready Vx)):=by
  exact Yf
 have hD:W1.heap[w.heap.size]?=Vz (.deferred (Vz [])):=by
  rw[<-hW1];exact(Below.heap_alloc _ _ _ Wa).trans (VG w _)
 have hb1:VS w.heap.size w W1:=by rw[<-hW1];exact((Below.refl _ w).alloc (Vu _) _).alloc Wa _
 have hI1:I 0 W1:=hI 0 _ _ h0 (aF.aZ hb1 (Vu _));refine⟨w.heap.size+1,[{target:= .collected w.heap.size,args:=#[]}],W1,{target:= .fn (.func gf) lb,args:=#[.func (.yield (w.heap.size+1)) #[] #[]]},W1,gf,
  #[.func (.yield (w.heap.size+1)) #[] #[]]++lb,W1,?_,?_,?_,?_,?_,?_⟩
 ·rw[<-hW1,hR];exact run_enterLoop_outer _ _ _ _ _
 ·simp only[resolve,hg];simp[go_sem]
 ·intro _ _;trivial
 ·simp[invoke,go_sem,eg]
 ·intro h;cases h
 ·have recKeep:∀{A C:Vt} {st:LoopState} {pe:Option Code},A.heap[w.heap.size+1]?=Vz (.loop (R st pe))->VS A.heap.size A C->C.heap[w.heap.size+1]?=Vz (.loop (R st pe)):=
   λh hb=>(hb.block _ (VF.1 h).1).trans h
  have defKeep:∀{A C:Vt},A.heap[w.heap.size]?=Vz (.deferred (Vz []))->VS A.heap.size A C->C.heap[w.heap.size]?=Vz (.deferred (Vz [])):=
   λh hb=>(hb.block _ (VF.1 h).1).trans h
  refine(hseq (n-1) (w.heap.size+1)
   (λk W=>I k W/\W.heap[w.heap.size+1]?=Vz (.loop (R .ready Vx))/\W.heap[w.heap.size]?=Vz (.deferred (Vz [])))
   (λk W=>∃c,Ix c k W/\W.heap[w.heap.size+1]?=Vz (.loop (R .done (Vz c)))/\W.heap[w.heap.size]?=Vz (.deferred (Vz [])))
   W1 (λk W h=>hM k W h.1)
   (λk A C h hb=>⟨hI k _ _ h.1 (aF.aZ hb (by have:=(VF.1 h.2.2).1;omega)),recKeep h.2.1 hb,defKeep h.2.2 hb⟩)
   (λk A C h hb=>by
    obtain⟨c,h1,h2,h3⟩:=h;exact⟨c,hIx c k _ _ h1 (aF.aZ hb (by have:=(VF.1 h3).1;omega)),recKeep h2 hb,defKeep h3 hb⟩)
   ?_ ⟨hI1,hL,hD⟩).mono ?_
  ·rintro k x W hk hx ⟨hi,hl,hd⟩;have hlt:w.heap.size+1<W.heap.size:=(VF.1 hl).1;have hy:=run_yield (P:=P) (args:=x) hl (by rw[hR];exact hps k x hx);rw[hR] at hy;refine⟨fn,_,assign,body,hy,roundIn_of_wpIn hfn (hround _ k x W _ hk hx hi λa' hbody=>⟨_,run_beginRound hl (by rw[hR]),?_⟩)⟩;obtain⟨W2,hW2⟩:∃W2,W.putObj (w.heap.size+1) (.loop {R .ready Vx with state:= .busy})=W2:=⟨_,rfl⟩;rw[hW2];have hl2:W2.heap[w.heap.size+1]?=Vz (.loop {R .ready Vx with state:= .busy}):=by rw[<-hW2];exact World.putObj_heap_same hlt
   have hd2:W2.heap[w.heap.size]?=Vz (.deferred (Vz [])):=by rw[<-hW2];exact(World.putObj_heap_other V7).trans hd
   have hi2:I k W2:=by rw[<-hW2];exact hI k _ _ hi (aF.putObj _ hl rfl V7)
   refine wpIn_mono (hbody W2 hi2 (by have:=(VF.1 hl2).1;omega)) ?_;have fin:∀(jump:Option Code) (W3:Vt),KeepsOthers W2 W3->∃W4,(Instr.endRound (w.heap.size+1) jump).run P W3= .ok (VX jump.isNone) W4/\aF w.heap.size W3 W4/\
     W4.heap[w.heap.size+1]?=Vz (.loop (R (if jump.isNone then .ready else .done) jump))/\W4.heap[w.heap.size]?=Vz (.deferred (Vz [])):=λjump W3 hk3=>by
    have hl3:=hk3.same _ _ hl2 rfl;have hr:=run_endRound (P:=P) jump hl3;refine⟨_,hr,aF.putObj _ hl3 rfl V7,?_,(World.putObj_heap_other V7).trans (hk3.same _ _ hd2 rfl)⟩;rw[World.putObj_heap_same (VF.1 hl3).1,hR]
   rintro e a3 W3 hp;cases e with
   |normal=>
    exact Ye
   |ret=>
    exact Yd
   |exit id=>
    exact Yc
   |goto t=>
    exact Yb
   |panic ch=>exact hp.elim
   |outgrown=>exact hp.elim
  ·rintro e W2 ⟨⟨v,rfl⟩,(⟨hi,hl,hd⟩|⟨k,hk,c,hi,hl,hd⟩)⟩
   ·exact Ya
   ·exact XZ
end
section
attribute [local go_sem] Oper.semAt_some
def GQ(Bs:Nat)(A:Option VT)(n cap:Nat)(Y:Nat->Int->Prop)(W:Vt):Prop:=
 W.cell? ⟨Bs,0,Vx⟩=Vz (VV A n cap)/\(0<n->∃b off,A=Vz ⟨b,off,Vx⟩/\∀j,j<n->∃x:Int,W.cell? ⟨b,off+j,Vx⟩=Vz (VZ VH x)/\Y j x)
def TO(n:Nat)(Y:Nat->Int->Prop)(k:Nat)(x:Array Vy):Prop:=∃v:Int,Y (n-1-k) v/\x=#[VZ VH ((n-1-k:Nat):Int),VZ VH v]
def gB(Bs:Nat)(A:Option VT)(n cap:Nat)(Y:Nat->Int->Prop)(hn:n<=4294967296):
  CE prog 347 #[VY (Vz ⟨Bs,0,Vx⟩)] (TO n Y) (GQ Bs A n cap Y) n:=by
 intro m l J Jx W hM hJ hJx hY h0;refine callsIn_of_wp func347 rfl trivial ?_ rfl;have hc0:=(hM 0 W h0).1;simp only[ntmps347,List.size_toArray,List.length_cons,List.length_nil,Nat.reduceAdd,Nat.reduceSub,Array.replicate_succ,Array.replicate_zero,List.push_toArray,List.append_toArray,List.nil_append,List.cons_append]
 gi_wp2
 gi_loopw [3] (λi wr=>∃k:Nat,k<=n/\i=VZ VH ((n:Int)-1-k)/\J k wr) (λi _=>(VN i+1).toNat)
 case atStart=>exact⟨0,V7,Wa,h0⟩
 case round=>
  obtain⟨k,hk,rfl,hj⟩:=hrel;obtain⟨hc,hcs⟩:=hM k wr hj;by_cases hlt:k<n
  ·obtain⟨b,off,rfl,hcell⟩:=hcs V7;obtain⟨x,hx,hYx⟩:=hcell (n-1-k) V7;obtain⟨fn,tmps,assign,body,hy,hR⟩:=hY k _ wr hlt ⟨x,hYx,rfl⟩ hj;have e1:((n-1-k:Nat):Int)=(n:Int)-1-k:=V7;rw[e1] at hy;have e2:((n:Int)-1-k).toNat=n-1-k:=V7;have e3:0<=(n:Int)-1-k:=V7;have e4:(n:Int)-1-k<n:=V7;have e5:decide ((k:Int)<=(n:Int)-1)=VD:=Wf;clear hcell hcs e1
   gi_wp2
   refine⟨λh=>Wb,hR.mono ?_⟩;rintro e W3 (⟨rfl,hJ3⟩|⟨rfl,hJx3⟩)
   ·gi_wp2
    go_roundw
    case rel=>exact⟨k+1,V7,Wf,hJ3⟩
    case measure=>simp[VN];omega
   ·gi_wp2
    refine bodyPost_ret (results_none rfl _ _ _) rfl ?_;exact⟨⟨_,rfl⟩,.inr ⟨k,hlt,hJx3⟩⟩
  ·obtain rfl:k=n:=V7;have e1:¬(0<=(k:Int)-1-k):=V7;exact Yg
def iB(w:Vt)(A:Option VT)(n cap:Nat):
  VJ prog 330 #[VV A n cap] w λe w'=>e=V0 (.func (.func 347) #[] #[VY (Vz ⟨w.heap.size,0,Vx⟩)])/\w'=w.alloc (.cells #[VV A n cap] 25):=by
 go_enter func330,ntmps330;go_wp2;go_ret;exact⟨rfl,rfl⟩
end
section
open Kp
attribute [local go_sem] Oper.semAt_some
def Ol(w:Vt)(x y z:Obj):(((w.alloc x).alloc y).alloc z).heap[w.heap.size]?=Vz x:=by
 rw[Below.heap_alloc _ _ _ Wf,Below.heap_alloc _ _ _ Wa];exact VG w x
def FL(w:Vt)(x y z:Obj):(((w.alloc x).alloc y).alloc z).heap[w.heap.size+1]?=Vz y:=by
 rw[Below.heap_alloc _ _ _ Wa];have:=VG (w.alloc x) y;rwa[VK] at this
def Oq(w:Vt)(x y z:Obj):(((w.alloc x).alloc y).alloc z).heap[w.heap.size+2]?=Vz z:=by
 have:=VG ((w.alloc x).alloc y) z;rwa[VK,VK] at this
def rm(w:Vt)(x y z:Obj):VS w.heap.size w (((w.alloc x).alloc y).alloc z):=
 (((Below.refl _ _).alloc (Vu _) _).alloc Wa _).alloc Wf _
def yD(w:Vt)(a b:List Nat)(e:Ending)(w':Vt):Prop:=
 ∃c:Int,e=V0 (VZ VH c)/\(c<0↔val a<val b)/\(0<c↔val b<val a)/\VS w.heap.size w w'
theorem Pp(ha:Canon a)(hb:Canon b)(h:ln a≠ln b):
  ((ln a:Int)-ln b<0↔val a<val b)/\(0<(ln a:Int)-ln b↔val b<val a):=by
 rcases Nat.lt_or_gt_of_ne h with h|h
 ·have:=bT ha.small hb.trim h;exact Yh
 ·have:=bT hb.small ha.trim h;exact Yh
theorem Q7(ha:Canon a)(hb:Canon b)(hl:ln a=ln b)(hi:i<ln a)(hs:∀k,i<k->k<ln a->fv a k=fv b k)(hne:fv a i≠fv b i):
  ((fv a i:Int)-fv b i<0↔val a<val b)/\(0<(fv a i:Int)-fv b i↔val b<val a):=by
 unfold val;rw[<-hl];rcases Nat.lt_or_gt_of_ne hne with h|h
 ·have:=Qz hi (λk _=>aB ha.small k) hs h;exact Yh
 ·have:=Qz hi (λk _=>aB hb.small k) (λk h1 h2=>(hs k h1 h2).symm) h;exact Yh
theorem Mw(hl:ln a=ln b)(hs:∀k,k<ln a->fv a k=fv b k):val a=val b:=by
 unfold val;rw[<-hl];exact dU hs
def yY(w:Vt)(a b:List Nat)(va vb:Vy)(ha:bB w w.heap.size va a)(hb:bB w w.heap.size vb b)(hca:Canon a)(hcb:Canon b)(hne:ln a≠ln b):
  VJ prog 327 #[va,vb] w (yD w a b):=by
 have hc:=Vs (Pp hca hcb hne);obtain⟨A,ca,rfl,ha1,ha2,hac⟩:=ha;obtain⟨A',cb,rfl,hb1,hb2,hbc⟩:=hb;unfold VP at ha2 hb2;clear hac hbc;have hne':((ln a:Int) !=ln b)=VD:=WX;clear hne;go_enter func327,ntmps327;go_wp2;exact bodyPost_ret (v:= VZ VH ((ln a:Int)-ln b)) (by simp[results,results327,go_sem]) rfl ⟨_,rfl,hc.o.1,hc.o.2,by exact((Below.refl _ _).alloc (Vu _) _).alloc Wa _⟩
theorem bB.stays{v:Vy}{l:List Nat}(h:bB W b0 v l)(hs:aF n0 W W'):bB W' b0 v l:=by
 obtain⟨A,cap,rfl,h1,h2,hc⟩:=h;refine⟨A,cap,rfl,h1,h2,λhn=> ?_⟩;obtain⟨b,off,e,hb,hcell⟩:=hc hn;exact⟨b,off,e,hb,λj hj=>hs.cell (hcell j hj)⟩
structure E6(w:Vt)(a b:List Nat)(A:Option VT)(ca:Nat)(A':Option VT)(cb:Nat)(k:Nat)(W:Vt):Prop where
 box:W.heap[w.heap.size]?=Vz (.cells #[VV A' (ln b) cb] 25 (0,0))
 res:W.heap[w.heap.size+1]?=Vz (.cells #[VZ VH 0] 3 (0,0))
 it:W.heap[w.heap.size+2]?=Vz (.cells #[VV A (ln a) ca] 25 (0,0))
 sa:bB W w.heap.size (VV A (ln a) ca) a
 sb:bB W w.heap.size (VV A' (ln b) cb) b
 same:∀j,ln a-k<=j->j<ln a->fv a j=fv b j
 low:VS w.heap.size w W
theorem E6.stays(h:E6 w a b A ca A' cb k W)(hs:aF n0 W W')(hn:w.heap.size<=n0):E6 w a b A ca A' cb k W':=
 ⟨hs.cells _ _ _ _ h.box,hs.cells _ _ _ _ h.res,hs.cells _ _ _ _ h.it,h.sa.stays hs,h.sb.stays hs,h.same,h.low.trans (hs.below.mono hn)⟩
structure Gg(w:Vt)(a b:List Nat)(c:Code)(k:Nat)(W:Vt):Prop where
 ret:c= .ret
 res:∃x:Int,W.heap[w.heap.size+1]?=Vz (.cells #[VZ VH x] 3 (0,0))/\(x<0↔val a<val b)/\(0<x↔val b<val a)
 low:VS w.heap.size w W
theorem Gg.stays{c:Code}(h:Gg w a b c k W)(hs:aF n0 W W')(hn:w.heap.size<=n0):Gg w a b c k W':=by
 obtain⟨e,⟨x,hx,h1,h2⟩,hl⟩:=h;exact⟨e,⟨x,hs.cells _ _ _ _ hx,h1,h2⟩,hl.trans (hs.below.mono hn)⟩
theorem cell_of_heap{b:Nat}{v:Vy}(h:W.heap[b]?=Vz (.cells #[v] t (0,0))):W.cell? ⟨b,0,Vx⟩=Vz v:=by simp[World.cell?,h]
theorem frozen_of_heap{b:Nat}{v:Vy}(h:W.heap[b]?=Vz (.cells #[v] t (0,0))):W.frozen? ⟨b,0,Vx⟩=Vw:=by simp[World.frozen?,h]
theorem E6.back(h:E6 w a b A ca A' cb k W):
  GQ (w.heap.size+2) A (ln a) ca (λj x=>x=fv a j) W:=by
 refine⟨cell_of_heap h.it,λhn=> ?_⟩;obtain⟨_,_,e,_,_,hc⟩:=h.sa;injection e with e1 e2 e3
 subst e1 e3;obtain⟨b,off,e,_,hcell⟩:=hc hn;exact⟨b,off,e,λj hj=>⟨_,hcell j hj,rfl⟩⟩
def zG(w:Vt)(a b:List Nat)(va vb:Vy)(ha:bB w w.heap.size va a)(hb:bB w w.heap.size vb b)(hca:Canon a)(hcb:Canon b)(hl:ln a=ln b)(hlen:ln a<=4294967296):
  VJ prog 327 #[va,vb] w (yD w a b):=by
 obtain⟨A,ca,rfl,ha1,ha2,hac⟩:=id ha;obtain⟨A',cb,rfl,hb1,hb2,hbc⟩:=id hb;unfold VP at ha2 hb2;refine(callsIn_wide (n:=9)).1 (callsIn_of_wp_marks func327 rfl trivial ?_);simp only[ntmps327,List.size_toArray,List.length_cons,List.length_nil,Nat.reduceAdd,Nat.reduceSub,Array.replicate_succ,Array.replicate_zero,List.push_toArray,List.append_toArray,List.nil_append,List.cons_append];have hne':((ln a:Int) !=ln b)=Vw:=by rw[hl];simp
 have HL:=Vs hl;clear hl hac hbc;gi_wp2_with(refine⟨trivial,?_⟩;gi_at_call 330;refine(callsIn_wide.2 (iB _ _ _ _)).mono ?_;rintro e w' ⟨rfl,rfl⟩)
 refine fQ (gf:=347) (lb:=#[VY (Vz ⟨w.heap.size+2,0,Vx⟩)]) rfl (enters_of func347 V8 rfl)
  (gB (w.heap.size+2) A (ln a) ca (λj x=>x=fv a j) hlen) (λk x ⟨_,_,e⟩=>XB)
  (E6 w a b A ca A' cb) (Gg w a b) (λk W W' h hs=>h.stays hs Wf) (λc k W W' h hs=>h.stays hs Wf) (λk W h=>h.back) ?start ?round ?done ?stop
 case start=>
  refine⟨Ol _ _ _ _,FL _ _ _ _,Oq _ _ _ _,?_,?_,λj h1 h2=>V7,rm _ _ _ _⟩
  ·exact ha.below (rm _ _ _ _)
  ·exact hb.below (rm _ _ _ _)
 case round=>
  intro l k x W K hk hx hi hK;obtain⟨v,rfl,rfl⟩:=hx;have HK:=Vs hK;clear hK
  gi_wp2
  refine HK.o _ (λW2 hi2 _=> ?_);clear HK hi;have hl:=HL.o;have c1:=cell_of_heap hi2.box;have c2:=cell_of_heap hi2.res;have f2:=frozen_of_heap hi2.res;obtain⟨_,_,e,_,_,hbc⟩:=hi2.sb;injection e with e1 e2 e3
  subst e1 e3;obtain⟨bb,bo,rfl,_,hcell⟩:=hbc V7;have hx:=hcell (ln a-1-k) V7;clear hcell hbc;have i1:((ln a-1-k:Nat):Int)<ln b:=V7;have ba:fv a (ln a-1-k)<1000000000:=aB hca.small _;have bb1:fv b (ln a-1-k)<1000000000:=aB hcb.small _;by_cases hne:fv a (ln a-1-k)=fv b (ln a-1-k)
  ·have hne':((fv a (ln a-1-k):Int) !=fv b (ln a-1-k))=Vw:=by rw[hne];simp
   have hsame:∀j,ln a-(k+1)<=j->j<ln a->fv a j=fv b j:=λj h1 h2=>by
    by_cases hj:j=ln a-1-k
    ·rw[hj];exact hne
    ·exact hi2.same j V7 h2
   have HN:E6 w a b A ca (Vz ⟨bb,bo,Vx⟩) cb (k+1) W2:=⟨hi2.box,hi2.res,hi2.it,hi2.sa,hi2.sb,hsame,hi2.low⟩;clear hne hsame hl
   gi_wp2
   exact⟨KeepsOthers.refl _,HN⟩
  ·have hne':((fv a (ln a-1-k):Int) !=fv b (ln a-1-k))=VD:=WX;have hat:=Vs (Q7 hca hcb hl (i:=ln a-1-k) V7 (λj h1 h2=>hi2.same j V7 h2) hne);clear hne hl
   gi_wp2
   exact⟨KeepsOthers.setCell _ _ _,rfl,⟨_,by have:=hi2.res;simp[World.setCell,Array.getElem?_modify,this],hat.o.1,hat.o.2⟩,hi2.low.setCell (p:=⟨w.heap.size+1,0,Vx⟩) Wa _⟩
 case done=>
  intro D W hD hi hK;have c2:=cell_of_heap hi.res;have f2:=frozen_of_heap hi.res;have hv:=Mw HL.o (λk hk=>hi.same k V7 hk)
  gi_wp2
  refine⟨Wa,.inl ⟨_,_,rfl,run_takeDeferred ((KeepsOthers.setCell _ _ _).same D _ hK rfl),?_⟩⟩;have hc:=(aF.putObj (n0:=w.heap.size) (.deferred Vx) ((KeepsOthers.setCell W ⟨w.heap.size+1,0,Vx⟩ (VZ VH 0)).same D _ hK rfl) rfl Xj).cell (World.cell?_setCell_same' W ⟨w.heap.size+1,0,Vx⟩ (VZ VH 0) (by rw[c2];rfl));have hB:VS w.heap.size w ((W.setCell ⟨w.heap.size+1,0,Vx⟩ (VZ VH 0)).putObj D (.deferred Vx)):=
   (hi.low.setCell (p:=⟨w.heap.size+1,0,Vx⟩) Wa _).trans (aF.putObj (n0:=w.heap.size) (.deferred Vx) ((KeepsOthers.setCell W ⟨w.heap.size+1,0,Vx⟩ (VZ VH 0)).same D _ hK rfl) rfl Xj).below
  exact⟨VZ VH 0,by simp[results,results327,go_sem,hc],0,rfl,by rw[hv];omega,by rw[hv];omega,hB⟩
 case stop=>
  rintro D c k W hD hk ⟨rfl,⟨x,hx,h1,h2⟩,hl⟩ hK
  gi_wp2
  refine⟨Wa,.inl ⟨_,_,rfl,run_takeDeferred hK,?_⟩⟩;have hs:=aF.putObj (n0:=w.heap.size) (.deferred Vx) hK rfl Xj;have hc:=hs.cell (cell_of_heap hx);exact⟨VZ VH x,by simp[results,results327,go_sem,hc],x,rfl,h1,h2,hl.trans hs.below⟩
def jr(w:Vt)(a b:List Nat)(va vb:Vy)(ha:bB w w.heap.size va a)(hb:bB w w.heap.size vb b)(hca:Canon a)(hcb:Canon b)(hlen:ln a<=4294967296):
  VJ prog 327 #[va,vb] w (yD w a b):=by
 by_cases hl:ln a=ln b
 ·exact zG w a b va vb ha hb hca hcb hl hlen
 ·exact yY w a b va vb ha hb hca hcb hl
end
section
def iZ(ops:Array Oper):Bool:=ops.all λo=>match o.op with| .defer _=>Vw|_=>VD
theorem mH{ops:Array Oper}(h:iZ ops=VD){o:Oper}(hi:ops[i]?=Vz o)(c:Call):o.op≠ .defer c:=by
 intro e;unfold iZ at h;rw[Array.all_eq_true] at h;obtain⟨hlt,hv⟩:=VF.1 hi;have:=h i hlt;rw[hv,e] at this;cases this
variable {P : Program} {Q : Exit → Act → Vt → Prop}
theorem rH{row:String}{R:Vy->Vt->Prop}(h:Rows P row args w R):RowsIn Fence.wide n P row args w R:=
 λc cs _=>let⟨v,w',r,s⟩:=h c cs;⟨v,w',r,stepsIn_wide.2 s⟩
theorem Oper.Di{l n:Nat}{o:Oper}{a:Act}{K:Act->Vt->Prop}(hd:∀c,o.op≠ .defer c)(h:o.wp P a w K Q):o.wpIn (Fence.wide.inRound l) n P a w K Q:=by
 unfold Oper.wpIn;refine⟨λ_ _=>trivial,?_⟩;show Oper.uponIn _ _ _ _ _ _ _ ((o.semAt (Vz l) a.eval).run P w);rw[Oper.semAt_some l a.eval o hd];unfold Oper.wp at h;generalize(execOp a.eval o).run P w=r at *;cases r with
 |ok x w'=>
  cases x with
  |value v=>exact h
  |skip=>exact h
  |defer d=>exact h
  |enter f args=>exact⟨λh=>Wb,CallsIn.inRound l (callsIn_wide.2 h)⟩
  |row row args=>exact⟨λh=>Wb,rH (n:=n-1) h⟩
  |_=>exact h.elim
 |halt x w'=>
  cases x with
  |panic v=>exact h
  |_=>exact h.elim
def gJ{l n:Nat}{md:Region.Mode}{ops:Array Oper}(hd:iZ ops=VD)(hlo:¬LetsOut Q):
  ∀(fuel:Nat) (listed:Array Bool) (a:Act) (w:Vt),wpAny P md ops Q fuel listed a w->wpAnyIn (Fence.wide.inRound l) n P md ops Q fuel listed a w
 |0,_,_,_,h=>h
 |fuel+1,listed,a,w,h=>by
  refine⟨h.1,λi hi=> ?_⟩;have h2:=h.2 i hi;unfold wpOp at h2;unfold wpOpIn;cases ho:ops[i]? with
  |none=>rw[ho] at h2;exact gJ hd hlo fuel _ _ _ h2
  |some o=>
   rw[ho] at h2;simp only at h2⊢;split
   ·rename_i hw;rw[if_pos hw] at h2;rcases h2 with h2|⟨_,h2⟩
    ·exact Oper.Di (λc=>mH hd ho c) (Oper.wp_mono (λa' w' h3=>gJ hd hlo fuel _ _ _ h3) h2)
    ·exact absurd h2 hlo
   ·rename_i hw;rw[if_neg hw] at h2;exact⟨λ_ _=>trivial,gJ hd hlo fuel _ _ _ h2⟩
def mM(R:Act->Vt->Prop):Exit->Act->Vt->Prop
 | .normal,a,w=>R a w
 |_,_,_=>False
theorem cL{R:Act->Vt->Prop}{a:Act}(h:R a w):mM R .normal a w:=h
theorem Fj{c:Code}{a:Act}(h:c.wp P (mM (Q .normal)) a w):c.wpIn Fence.wide n P Q a w:=
 wpIn_wide.2 (wp_mono h λe _ _ h=>by cases e<;>first|exact h|exact h.elim)
end
section
open Kp
attribute [local go_sem] Oper.semAt_some
def Bx(W:Vt)(b:Nat)(t:VR)(v:Vy):Prop:=W.heap[b]?=Vz (.cells #[v] t (0,0))
theorem Bx.cell{b:Nat}{v:Vy}(h:Bx W b t v):W.cell? ⟨b,0,Vx⟩=Vz v:=cell_of_heap h
theorem Bx.frozen{b:Nat}{v:Vy}(h:Bx W b t v):W.frozen? ⟨b,0,Vx⟩=Vw:=frozen_of_heap h
theorem Bx.stays{b:Nat}{v:Vy}(h:Bx W b t v)(hs:aF n0 W W'):Bx W' b t v:=hs.cells _ _ _ _ h
theorem Bx.lt{b:Nat}{v:Vy}(h:Bx W b t v):b<W.heap.size:=(VF.1 h).1
theorem Bx.dz{b:Nat}{v:Vy}(h:Bx W b t v)(hp:b≠p.block)(u:Vy):Bx (W.setCell p u) b t v:=(Below.heap_setCell W p u b hp).trans h
theorem Bx.put{b:Nat}{v:Vy}(h:Bx W b t v)(u:Vy):Bx (W.setCell ⟨b,0,Vx⟩ u) b t u:=by
 unfold Bx at h⊢;simp[World.setCell,Array.getElem?_modify,h]
theorem Bx.alloc{b:Nat}{v:Vy}(h:Bx W b t v)(o:Obj):Bx (W.alloc o) b t v:=(Below.heap_alloc W o b h.lt).trans h
theorem Bx.drew{b:Nat}{v:Vy}(h:Bx W b t v):Bx W.drew b t v:=h
theorem Bx.drewN{b:Nat}{v:Vy}(h:Bx W b t v)(n:Nat):Bx (W.drewN n) b t v:=h
theorem Bx.below{b:Nat}{v:Vy}(h:Bx W b t v)(hb:VS B0 W W')(hlt:b<B0):Bx W' b t v:=(hb.block b hlt).trans h
def Bx.new(W:Vt)(t:VR)(v:Vy):Bx (W.alloc (.cells #[v] t)) W.heap.size t v:=VG W _
theorem Bx.at_{v:Vy}(h:W.heap.size=n):Bx (W.alloc (.cells #[v] t)) n t v:=by subst h;exact Bx.new W t v
theorem Row.stays{l:List Nat}(h:Row W g cap l)(hs:aF n0 W W'):Row W' g cap l:=by
 obtain⟨cur,hh,r⟩:=h;exact⟨cur,hs.cells _ _ _ _ hh,r⟩
theorem Row.dz{l:List Nat}(h:Row W g cap l)(hp:g≠p.block)(u:Vy):Row (W.setCell p u) g cap l:=h.keep (Below.heap_setCell W p u g hp)
theorem Row.alloc{l:List Nat}(h:Row W g cap l)(o:Obj):Row (W.alloc o) g cap l:=h.keep (Below.heap_alloc W o g h.lt)
theorem Row.below{l:List Nat}(h:Row W g cap l)(hb:VS B0 W W')(hlt:g<B0):Row W' g cap l:=h.keep (hb.block g hlt)
structure QL(w:Vt)(a:List Nat)(d:Nat)(A:Option VT)(ca:Nat)(k:Nat)(q:List Nat)(r:Nat)(W:Vt):Prop where
 bd:Bx W w.heap.size 3 (VZ VH d)
 bq:Bx W (w.heap.size+1) 25 (VV (Vz ⟨w.heap.size+2,0,Vx⟩) (ln a) (ln a))
 row:Row W (w.heap.size+2) (ln a) q
 br:Bx W (w.heap.size+3) 3 (VZ VH r)
 it:Bx W (w.heap.size+4) 25 (VV A (ln a) ca)
 sa:bB W w.heap.size (VV A (ln a) ca) a
 len:ln q=ln a
 small:Small q
 lt:r<d
 eq:S (sh (fv a) (ln a-k)) k=d*S (sh (fv q) (ln a-k)) k+r
 low:VS w.heap.size w W
theorem QL.stays(h:QL w a d A ca k q r W)(hs:aF n0 W W')(hn:w.heap.size<=n0):QL w a d A ca k q r W':=
 ⟨h.bd.stays hs,h.bq.stays hs,h.row.stays hs,h.br.stays hs,h.it.stays hs,h.sa.stays hs,h.len,h.small,h.lt,h.eq,h.low.trans (hs.below.mono hn)⟩
def Ln(w:Vt)(a:List Nat)(d:Nat)(A:Option VT)(ca:Nat)(k:Nat)(W:Vt):Prop:=∃q r,QL w a d A ca k q r W
theorem vo(hb:Bx W Bs 25 (VV A (ln a) ca))(hs:bB W b0 (VV A (ln a) ca) a):
  GQ Bs A (ln a) ca (λj x=>x=fv a j) W:=by
 refine⟨hb.cell,λhn=> ?_⟩;obtain⟨_,_,e,_,_,hc⟩:=hs;injection e with e1 e2 e3
 subst e1 e3;obtain⟨b,off,e,_,hcell⟩:=hc hn;exact⟨b,off,e,λj hj=>⟨_,hcell j hj,rfl⟩⟩
theorem PT(h:QL w a d A ca k q r W)(hk:k<ln a)(ha:Small a):
  (fv a (ln a-1-k)+r*1000000000)/d<1000000000/\
  QL w a d A ca (k+1) (q.set (ln a-1-k) ((fv a (ln a-1-k)+r*1000000000)/d)) ((fv a (ln a-1-k)+r*1000000000)%d)
   ((W.setCell ⟨w.heap.size+2,ln a-1-k,Vx⟩ (VZ VH ((fv a (ln a-1-k)+r*1000000000)/d:Nat))).setCell ⟨w.heap.size+3,0,Vx⟩ (VZ VH ((fv a (ln a-1-k)+r*1000000000)%d:Nat))):=by
 obtain⟨bd,bq,row,br,it,sa,len,small,lt,eq,low⟩:=h;have hb:=aB ha (ln a-1-k);have hs:=Km lt hb rfl;have e1:ln a-(k+1)=ln a-1-k:=V7;have e2:ln a-k=(ln a-1-k)+1:=V7;refine⟨hs.1,(bd.dz Wa _).dz Wa _,(bq.dz Wa _).dz Wa _,(row.set V7 _).dz Wa _,(br.dz Wa _).put _,(it.dz Wa _).dz Wa _,?_,by simpa using len,Small.set small hs.1,hs.2,?_,?_⟩
 ·exact sa.keep λp hp=>(World.cell?_setCell_other _ _ _ _ (λe=>by subst e;simp at hp;omega)).trans (World.cell?_setCell_other _ _ _ _ (λe=>by subst e;simp at hp;omega))
 ·rw[e1,Oj,Oj,<-e2];have e3:fv (q.set (ln a-1-k) ((fv a (ln a-1-k)+r*1000000000)/d)) (ln a-1-k)=(fv a (ln a-1-k)+r*1000000000)/d:=by rw[iw V7,if_pos rfl]
  have e4:S (sh (fv (q.set (ln a-1-k) ((fv a (ln a-1-k)+r*1000000000)/d))) (ln a-k)) k=S (sh (fv q) (ln a-k)) k:=dU (λi _=>by unfold sh;rw[iw V7,if_neg V7]);rw[e3,e4];exact D8 eq rfl
 ·exact(low.setCell (p:=⟨w.heap.size+2,_,Vx⟩) Wa _).setCell (p:=⟨w.heap.size+3,0,Vx⟩) Wa _
theorem kT{r g1 o1 g2 o2:Nat}{v1 v2:Vy}
  (h:QL w a d A ca (k+1) q r ((W.setCell ⟨g1,o1,Vx⟩ v1).setCell ⟨g2,o2,Vx⟩ v2)):
  KeepsOthers W ((W.setCell ⟨g1,o1,Vx⟩ v1).setCell ⟨g2,o2,Vx⟩ v2).drew/\Ln w a d A ca (k+1) ((W.setCell ⟨g1,o1,Vx⟩ v1).setCell ⟨g2,o2,Vx⟩ v2).drew:=
 ⟨((KeepsOthers.setCell _ _ _).trans (KeepsOthers.setCell _ _ _)).trans (KeepsOthers.drew _),q,r,h.bd,h.bq,h.row,h.br,h.it,h.sa,h.len,h.small,h.lt,h.eq,⟨h.low.os,h.low.tape,h.low.output,h.low.size,h.low.block⟩⟩
def pW(n:Nat):Array Vy:=madeCells (Value.int .i64 0).cells n
def lk(n:Nat)(hn:n<=1000000000)(W:Vt):
  (Instr.makeSlice 25 (VZ VH (n:Int)) (VZ VH (n:Int))).run prog W= .ok (VV (Vz ⟨W.heap.size,0,Vx⟩) n n) (W.alloc (.cells (pW n) 3)):=by
 obtain⟨i0,hi,hz0,hz1,hz2⟩:=info_parts eA;have hr:=run_make (P:=prog) W 25 3 i0 _ underlying25 hi hz0 .i64 .i64 n n V7 V7 XE V7;simp only[Int.toNat_natCast,hz1,Nat.mul_one] at hr;exact hr
def rn(W:Vt)(n:Nat)(hn:n<=1000000000):Row (W.alloc (.cells (pW n) 3)) W.heap.size n (List.replicate n 0):=by
 refine⟨pW n,VG W _,by simp[pW,size_madeCells],Wa,Wh,λj hj=> ?_⟩;simp at hj;rw[lG];simp[pW,madeCells,Value.cells,hj,Nat.mod_one]
def Hz{a r d:Nat}(h1:a<1000000000)(h2:r<1000000000)(h3:1<=d):
  VH.wrap (((a:Int)+(r:Int)*1000000000).tdiv d)=(((a+r*1000000000)/d:Nat):Int):=by
 rw[IntWalk.i64_quo _ _ ⟨V7,V7,V7⟩];simp
def H5{a r d:Nat}:((a:Int)+(r:Int)*1000000000).tmod d=(((a+r*1000000000)%d:Nat):Int):=by
 rw[IntWalk.rem_in _ _ V7];simp
def row_one(X:Vt)(r:Nat):Row (X.alloc (.cells #[VZ VH r] 3)) X.heap.size 1 [r]:=by
 refine⟨#[VZ VH r],VG X _,rfl,Wa,Wh,λj hj=> ?_⟩;have:j=0:=by simpa using hj
 subst this;rfl
def Kf(w:Vt)(a:List Nat)(d:Nat)(e:Ending)(w':Vt):Prop:=
 ∃vq vr ql rl,e=V0 (V6 #[vq,vr])/\Hw w w' vq ql/\Canon ql/\val ql=val a/d/\Hw w w' vr rl/\Canon rl/\val rl=val a%d/\VS w.heap.size w w'
theorem Qk(hl:ln q=ln a)(hr:r<d)(he:S (sh (fv a) (ln a-ln a)) (ln a)=d*S (sh (fv q) (ln a-ln a)) (ln a)+r):
  val q=val a/d/\r=val a%d:=by
 have e1:S (sh (fv a) (ln a-ln a)) (ln a)=val a:=dU (λk _=>by unfold sh;congr 1;omega);have e2:S (sh (fv q) (ln a-ln a)) (ln a)=val q:=by unfold val;rw[hl];exact dU (λk _=>by unfold sh;congr 1;omega)
 rw[e1,e2] at he;rw[he];constructor
 ·rw[Nat.mul_add_div V7,Nat.div_eq_of_lt hr,Nat.add_zero]
 ·rw[Nat.mul_add_mod,Nat.mod_eq_of_lt hr]
def val_one(r:Nat):val [r]=r:=by simp[val,S,fv]
theorem Sb(h:QL w a d A ca (ln a) q r W)(hd1:d<1000000000)(hD:w.heap.size<=D)(hK:W.heap[D]?=Vz (.deferred (Vz []))):
  ((W.alloc (.cells #[VZ VH r] 3)).setCell ⟨w.heap.size+1,0,Vx⟩ (VV (Vz ⟨w.heap.size+2,0,Vx⟩) (aA q).length (ln a))).drew.heap[D]?=Vz (.deferred (Vz []))/\
  (((W.alloc (.cells #[VZ VH r] 3)).setCell ⟨w.heap.size+1,0,Vx⟩ (VV (Vz ⟨w.heap.size+2,0,Vx⟩) (aA q).length (ln a))).drew.putObj D (.deferred Vx)).cell? ⟨w.heap.size+1,0,Vx⟩=Vz (VV (Vz ⟨w.heap.size+2,0,Vx⟩) (aA q).length (ln a))/\
  Kf w a d (V0 (V6 #[VV (Vz ⟨w.heap.size+2,0,Vx⟩) (aA q).length (ln a),VV (Vz ⟨W.heap.size,0,Vx⟩) (aA [r]).length 1])) (((W.alloc (.cells #[VZ VH r] 3)).setCell ⟨w.heap.size+1,0,Vx⟩ (VV (Vz ⟨w.heap.size+2,0,Vx⟩) (aA q).length (ln a))).drew.putObj D (.deferred Vx)):=by
 obtain⟨X,hX⟩:∃X,((W.alloc (.cells #[VZ VH r] 3)).setCell ⟨w.heap.size+1,0,Vx⟩ (VV (Vz ⟨w.heap.size+2,0,Vx⟩) (aA q).length (ln a))).drew=X:=⟨_,rfl⟩;have hwW:w.heap.size<W.heap.size:=h.bd.lt;have k1:X.heap[D]?=Vz (.deferred (Vz [])):=by
  rw[<-hX];exact(((KeepsOthers.alloc _ _).trans (KeepsOthers.setCell _ _ _)).trans (KeepsOthers.drew _)).same D _ hK rfl
 have k2:Bx X (w.heap.size+1) 25 (VV (Vz ⟨w.heap.size+2,0,Vx⟩) (aA q).length (ln a)):=by rw[<-hX];exact((h.bq.alloc _).put _).drew
 have k3:Row X (w.heap.size+2) (ln a) q:=by rw[<-hX];exact((h.row.alloc _).dz Wa _).drew
 have k4:Row X W.heap.size 1 [r]:=by
  rw[<-hX];exact((row_one W r).dz (by have:=h.bq.lt;simp;omega) _).drew
 have k5:VS w.heap.size w X:=by
  rw[<-hX];exact(((h.low.alloc V7 _).setCell (p:=⟨w.heap.size+1,0,Vx⟩) Wa _)).drew
 rw[hX];have hs:=aF.putObj (n0:=w.heap.size) (.deferred Vx) k1 rfl hD;obtain⟨v1,v2⟩:=Qk h.len h.lt h.eq;have hr1:Small [r]:=by
  intro x hx;have e:x=r:=by simpa using hx
  have:=h.lt;rw[e];show r<1000000000;omega
 refine⟨k1,hs.cell k2.cell,_,_,aA q,aA [r],rfl,⟨_,_,rfl,V7,(k3.stays hs).trimmed⟩,eD h.small,by rw[gO];exact v1,⟨_,_,rfl,V7,(k4.stays hs).trimmed⟩,eD hr1,by rw[gO,val_one];exact v2,k5.trans hs.below⟩
def ub(w:Vt)(a:List Nat)(va:Vy)(d:Nat)(ha:bB w w.heap.size va a)(hsa:Small a)(hd0:1<=d)(hd1:d<1000000000)(hlen:ln a<=2000000):
  VJ prog 328 #[va,VZ VH d] w (Kf w a d):=by
 obtain⟨A,ca,rfl,ha1,ha2,hac⟩:=id ha;clear hac;unfold VP at ha2;refine(callsIn_wide (n:=9)).1 (callsIn_of_wp_marks func328 rfl trivial ?_);simp only[ntmps328,List.size_toArray,List.length_cons,List.length_nil,Nat.reduceAdd,Nat.reduceSub,Array.replicate_succ,Array.replicate_zero,List.push_toArray,List.append_toArray,List.nil_append,List.cons_append];have hmk:=lk (ln a) V7;gi_wp2_with(refine⟨trivial,?_⟩;gi_at_call 330;refine(callsIn_wide.2 (iB _ _ _ _)).mono ?_;rintro e w' ⟨rfl,rfl⟩)
 refine fQ (gf:=347) (lb:=#[VY (Vz ⟨w.heap.size+4,0,Vx⟩)]) rfl (enters_of func347 V8 rfl)
  (gB (w.heap.size+4) A (ln a) ca (λj x=>x=fv a j) V7) (λk x ⟨_,_,e⟩=>XB)
  (Ln w a d A ca) (λ_ _ _=>False) (λk W W' ⟨q,r,h⟩ hs=>⟨q,r,h.stays hs Wf⟩) (λc k W W' h hs=>h) (λk W ⟨q,r,h⟩=>vo h.it h.sa) ?start ?round ?done ?stop
 case start=>
  have hB:VS w.heap.size w (((((w.alloc (.cells #[VZ VH d] 3)).alloc (.cells #[VV (Vz ⟨w.heap.size+1+1,0,Vx⟩) (ln a) (ln a)] 25)).alloc (.cells (pW (ln a)) 3)).alloc (.cells #[VZ VH 0] 3)).alloc (.cells #[VV A (ln a) ca] 25)):=
   (rm w _ _ _).trans ((((Below.refl _ _).alloc Wf _).alloc Wf _))
  refine⟨List.replicate (ln a) 0,0,((((Bx.new w _ _).alloc _).alloc _).alloc _).alloc _,(((Bx.at_ Wa).alloc _).alloc _).alloc _,?_,(Bx.at_ Wa).alloc _,Bx.at_ Wa,ha.below hB,Wa,rJ _,V7,by simp[S],hB⟩;have:=rn ((w.alloc (.cells #[VZ VH d] 3)).alloc (.cells #[VV (Vz ⟨w.heap.size+1+1,0,Vx⟩) (ln a) (ln a)] 25)) (ln a) V7;simp only[VK] at this;exact(this.alloc _).alloc _
 case round=>
  intro l k x W K hk hx hi hK;obtain⟨v,rfl,rfl⟩:=hx;have HK:=Vs hK;clear hK
  gi_wp2
  refine HK.o _ (λW2 hi2 _=> ?_);clear HK hi;obtain⟨q,r,h⟩:=hi2;have hn:=PT h hk hsa;have b0:=h.bd.cell;have b1:=h.bq.cell;have b2:=h.br.cell;have f2:=h.br.frozen;have f3:=h.row.frozen (ln a-1-k);have b3:=h.row.cell (j:=ln a-1-k) (by rw[h.len];omega);have ba:fv a (ln a-1-k)<1000000000:=aB hsa _;have hr:r<d:=h.lt;have i1:((ln a-1-k:Nat):Int)<ln a:=V7;have HN:=Vs hn.2;have hq:=hn.1;clear hn;have hd2:¬d=0:=V7;have hrb:r<1000000000:=V7;have hrd:r*1000000000<1000000000000000000:=V7;have w6:=Hz (a:=fv a (ln a-1-k)) ba hrb hd0;have w7:=H5 (a:=fv a (ln a-1-k)) (r:=r) (d:=d)
  gi_wp2
  refine wpIn_region_any V8 (gJ V8 (by rintro⟨_,_,h⟩;exact h) _ _ _ _ ?_)
  try(change wpAny _ _ _ _ _ _ _ (Vt.drew _))
  refine wpAny_take (i:=1) (v:= ?va1) rfl V8 V8 V8 (λ_ _ _ h=>h) (Or.inl ⟨Wl,?hya1⟩) ?_
  case hya1=>(intro w;go_simp;try with_reducible rfl)
  refine wpAny_take (i:=2) (v:= ?va2) rfl V8 V8 V8 (λ_ _ _ h=>h) (Or.inl ⟨Wl,?hya2⟩) ?_
  case hya2=>(intro w;go_simp;try with_reducible rfl)
  refine wpAny_take (i:=5) (v:= ?va3) rfl V8 V8 V8 (λ_ _ _ h=>h) (Or.inl ⟨Wl,?hya3⟩) ?_
  case hya3=>(intro w;go_simp;try with_reducible rfl)
  refine wpAny_ready (rs:=[0,3,6]) V8 Wa ?_;refine VO rfl (λK hK=> ?_) ?_
  ·go_simp;refine hK _ _ ?_;clear hK K;refine wpAny_ready (rs:=[3,6]) V8 Wa ?_;refine VO rfl (λK hK=> ?_) ?_
   ·go_simp;refine hK _ _ ?_;clear hK K;refine wpAny_take (i:=4) (v:= ?va4) rfl V8 V8 V8 (λ_ _ _ h=>h) (Or.inl ⟨Wl,?hya4⟩) ?_
    case hya4=>(intro w;go_simp;try with_reducible rfl)
    refine wpAny_take (i:=8) (v:= ?va5) rfl V8 V8 V8 (λ_ _ _ h=>h) (Or.inl ⟨Wl,?hya5⟩) ?_
    case hya5=>(intro w;go_simp;try with_reducible rfl)
    refine wpAny_ready (rs:=[6,9]) V8 Wa ?_;refine VO rfl (λK hK=> ?_) ?_
    ·go_simp;refine hK _ _ ?_;clear hK K;refine wpAny_take (i:=7) (v:= ?va6) rfl V8 V8 V8 (λ_ _ _ h=>h) (Or.inl ⟨Wl,?hya6⟩) ?_
     case hya6=>(intro w;go_simp;try with_reducible rfl)
     exact Yi
    refine VO rfl (λK hK=> ?_) ?_
    ·go_simp;refine hK _ _ ?_;clear hK K;refine wpAny_ready (rs:=[6]) V8 Wa ?_;refine VO rfl (λK hK=> ?_) ?_
     ·go_simp;refine hK _ _ ?_;clear hK K;refine wpAny_take (i:=7) (v:= ?va7) rfl V8 V8 V8 (λ_ _ _ h=>h) (Or.inl ⟨Wl,?hya7⟩) ?_
      case hya7=>(intro w;go_simp;try with_reducible rfl)
      exact Yj
     exact VU
    exact VU
   refine VO rfl (λK hK=> ?_) ?_
   ·go_simp;refine hK _ _ ?_;clear hK K;refine wpAny_take (i:=7) (v:= ?va8) rfl V8 V8 V8 (λ_ _ _ h=>h) (Or.inl ⟨Wl,?hya8⟩) ?_
    case hya8=>(intro w;go_simp;try with_reducible rfl)
    refine wpAny_ready (rs:=[3]) V8 Wa ?_;refine VO rfl (λK hK=> ?_) ?_
    ·go_simp;refine hK _ _ ?_;clear hK K;refine wpAny_take (i:=4) (v:= ?va9) rfl V8 V8 V8 (λ_ _ _ h=>h) (Or.inl ⟨Wl,?hya9⟩) ?_
     case hya9=>(intro w;go_simp;try with_reducible rfl)
     refine wpAny_take (i:=8) (v:= ?va10) rfl V8 V8 V8 (λ_ _ _ h=>h) (Or.inl ⟨Wl,?hya10⟩) ?_
     case hya10=>(intro w;go_simp;try with_reducible rfl)
     exact Yi
    exact VU
   exact VU
  refine VO rfl (λK hK=> ?_) ?_
  ·go_simp;refine hK _ _ ?_;clear hK K;refine wpAny_take (i:=4) (v:= ?va11) rfl V8 V8 V8 (λ_ _ _ h=>h) (Or.inl ⟨Wl,?hya11⟩) ?_
   case hya11=>(intro w;go_simp;try with_reducible rfl)
   refine wpAny_ready (rs:=[0,6]) V8 Wa ?_;refine VO rfl (λK hK=> ?_) ?_
   ·go_simp;refine hK _ _ ?_;clear hK K;refine wpAny_take (i:=8) (v:= ?va12) rfl V8 V8 V8 (λ_ _ _ h=>h) (Or.inl ⟨Wl,?hya12⟩) ?_
    case hya12=>(intro w;go_simp;try with_reducible rfl)
    refine wpAny_ready (rs:=[6,9]) V8 Wa ?_;refine VO rfl (λK hK=> ?_) ?_
    ·go_simp;refine hK _ _ ?_;clear hK K;refine wpAny_take (i:=7) (v:= ?va13) rfl V8 V8 V8 (λ_ _ _ h=>h) (Or.inl ⟨Wl,?hya13⟩) ?_
     case hya13=>(intro w;go_simp;try with_reducible rfl)
     exact Yi
    refine VO rfl (λK hK=> ?_) ?_
    ·go_simp;refine hK _ _ ?_;clear hK K;refine wpAny_ready (rs:=[6]) V8 Wa ?_;refine VO rfl (λK hK=> ?_) ?_
     ·go_simp;refine hK _ _ ?_;clear hK K;refine wpAny_take (i:=7) (v:= ?va14) rfl V8 V8 V8 (λ_ _ _ h=>h) (Or.inl ⟨Wl,?hya14⟩) ?_
      case hya14=>(intro w;go_simp;try with_reducible rfl)
      exact Yj
     exact VU
    exact VU
   refine VO rfl (λK hK=> ?_) ?_
   ·go_simp;refine hK _ _ ?_;clear hK K;refine wpAny_take (i:=7) (v:= ?va15) rfl V8 V8 V8 (λ_ _ _ h=>h) (Or.inl ⟨Wl,?hya15⟩) ?_
    case hya15=>(intro w;go_simp;try with_reducible rfl)
    refine wpAny_ready (rs:=[0]) V8 Wa ?_;refine VO rfl (λK hK=> ?_) ?_
    ·go_simp;refine hK _ _ ?_;clear hK K;refine wpAny_take (i:=8) (v:= ?va16) rfl V8 V8 V8 (λ_ _ _ h=>h) (Or.inl ⟨Wl,?hya16⟩) ?_
     case hya16=>(intro w;go_simp;try with_reducible rfl)
     exact Yi
    exact VU
   exact VU
  refine VO rfl (λK hK=> ?_) ?_
  ·go_simp;refine hK _ _ ?_;clear hK K;refine wpAny_take (i:=7) (v:= ?va17) rfl V8 V8 V8 (λ_ _ _ h=>h) (Or.inl ⟨Wl,?hya17⟩) ?_
   case hya17=>(intro w;go_simp;try with_reducible rfl)
   refine wpAny_ready (rs:=[0,3]) V8 Wa ?_;refine VO rfl (λK hK=> ?_) ?_
   ·go_simp;refine hK _ _ ?_;clear hK K;refine wpAny_ready (rs:=[3]) V8 Wa ?_;refine VO rfl (λK hK=> ?_) ?_
    ·go_simp;refine hK _ _ ?_;clear hK K;refine wpAny_take (i:=4) (v:= ?va18) rfl V8 V8 V8 (λ_ _ _ h=>h) (Or.inl ⟨Wl,?hya18⟩) ?_
     case hya18=>(intro w;go_simp;try with_reducible rfl)
     refine wpAny_take (i:=8) (v:= ?va19) rfl V8 V8 V8 (λ_ _ _ h=>h) (Or.inl ⟨Wl,?hya19⟩) ?_
     case hya19=>(intro w;go_simp;try with_reducible rfl)
     exact Yi
    exact VU
   refine VO rfl (λK hK=> ?_) ?_
   ·go_simp;refine hK _ _ ?_;clear hK K;refine wpAny_take (i:=4) (v:= ?va20) rfl V8 V8 V8 (λ_ _ _ h=>h) (Or.inl ⟨Wl,?hya20⟩) ?_
    case hya20=>(intro w;go_simp;try with_reducible rfl)
    refine wpAny_ready (rs:=[0]) V8 Wa ?_;refine VO rfl (λK hK=> ?_) ?_
    ·go_simp;refine hK _ _ ?_;clear hK K;refine wpAny_take (i:=8) (v:= ?va21) rfl V8 V8 V8 (λ_ _ _ h=>h) (Or.inl ⟨Wl,?hya21⟩) ?_
     case hya21=>(intro w;go_simp;try with_reducible rfl)
     exact Yi
    exact VU
   exact VU
  exact VU
 case done=>
  rintro D W hD ⟨q,r,h⟩ hK;have hrow:=h.row;have hq:=h.len;have b1:=h.bq.cell;have f1:=h.bq.frozen;have b2:=h.br.cell;have hrb:r<1000000000:=by have:=h.lt;omega
  have b1':∀o,(W.alloc o).cell? ⟨w.heap.size+1,0,Vx⟩=Vz (VV (Vz ⟨w.heap.size+2,0,Vx⟩) (ln a) (ln a)):=λo=>(h.bq.alloc o).cell
  have f1':∀o,(W.alloc o).frozen? ⟨w.heap.size+1,0,Vx⟩=Vw:=λo=>(h.bq.alloc o).frozen
  have b2':∀o,(W.alloc o).cell? ⟨w.heap.size+3,0,Vx⟩=Vz (VZ VH r):=λo=>(h.br.alloc o).cell
  have hone:∀X:Vt,Row (X.alloc (.cells #[VZ VH r] 3)) X.heap.size 1 [r]:=λX=>row_one X r
  have HO:=Vs hone;have HR:=Vs hrow;have HQ:=Vs hq;have HE:=Vs (Sb h hd1 Xj hK);clear hone hrow hq hmk
  gi_wp2
  refine Fj ?_;go_region_with (go_at_call 326;first|((with_reducible refine(kJ (g:=w.heap.size+2) (l:=q) (Row.drew HR.o) HQ.o).mono ?_);rintro e w' ⟨rfl,rfl⟩)|((with_reducible refine(kJ (g:=w.heap.size+2) (l:=q) (Row.drew (HR.o.alloc _)) HQ.o).mono ?_);rintro e w' ⟨rfl,rfl⟩)|((with_reducible refine(kJ (l:=[r]) (n:=1) (Row.drew (HO.o W)) (List.length_singleton)).mono ?_);rintro e w' ⟨rfl,rfl⟩))
  all_goals
   refine cL ?_
   gi_wp2
   refine⟨Wa,.inl ⟨_,_,rfl,run_takeDeferred HE.o.1,?_⟩⟩;exact⟨V6 #[VV (Vz ⟨w.heap.size+2,0,Vx⟩) (aA q).length (ln a),VV (Vz ⟨W.heap.size,0,Vx⟩) (aA [r]).length 1],by simp[results,results328,go_sem,HE.o.2.1],HE.o.2.2⟩
 case stop=>
  rintro D c k W hD hk h;exact h.elim
end
end Go.Proofs.YtmliacdegmklaaaGreatDoor
namespace Kp
structure Jq(A V n k:Nat)(u q:List Nat):Prop where
 small:Small u
 smallq:Small q
 len:ln u=ln q+n
 hk:k<=ln q
 eq:A=S (fv u) (ln u)+B^(ln q-k)*S (sh (fv q) (ln q-k)) k*V
 zero:∀i,ln q-k+n<=i->fv u i=0
 seg:S (sh (fv u) (ln q-k)) n<V
def Cs(f:Nat->Nat)(n:Nat):f n*B^n<=S f (n+1):=by rw[bR];exact Nat.le_add_left _ _
theorem Gh{l:List Nat}(hj:j<ln l):fv (l.set j x) k=if k=j then x else fv l k:=by
 exact XP
theorem Small.UJ{l:List Nat}(h:Small l)(hx:x<B):Small (l.set j x):=by
 exact XT
theorem Jq.lt{A V n k:Nat}(h:Jq A V n k u q)(hk:k<ln q):S (sh (fv u) (ln q-1-k)) (n+1)<B*V:=by
 have hs:=h.seg;have e:ln q-k=(ln q-1-k)+1:=V7;rw[e] at hs;rw[Oj];have hb:fv u (ln q-1-k)<B:=aB h.small _;have:B*(S (sh (fv u) (ln q-1-k+1)) n+1)<=B*V:=Nat.mul_le_mul_left _ hs;rw[Nat.mul_add] at this;omega
def Jq.top{A V n k:Nat}{u q v:List Nat}(h:Jq A V n k u q)(hk:k<ln q)(hv:Small v)(hn:ln v=n)(h1:1<=n)(hV:val v=V):fv u (ln q-1-k+n)<=fv v (n-1):=by
 have hl:=h.lt hk;have ht:fv u (ln q-1-k+n)*B^n<=S (sh (fv u) (ln q-1-k)) (n+1):=Cs (sh (fv u) (ln q-1-k)) n;obtain⟨m,rfl⟩:∃m,n=m+1:=⟨n-1,V7⟩;have hVlt:V<(fv v m+1)*B^m:=by
  rw[<-hV];unfold val;rw[hn,bR,Nat.add_mul,Nat.one_mul];have:S (fv v) m<B^m:=sG (λk _=>aB hv k);omega
 have h3:B*V<B*((fv v m+1)*B^m):=Nat.mul_lt_mul_of_pos_left hVlt V9;have e:B*((fv v m+1)*B^m)=(fv v m+1)*B^(m+1):=by rw[Nat.pow_succ,Nat.mul_left_comm,VL B]
 rw[e] at h3;have h4:fv u (ln q-1-k+(m+1))*B^(m+1)<(fv v m+1)*B^(m+1):=V7;have h5:=Nat.lt_of_mul_lt_mul_right h4;show _<=fv v m;omega
def Jq.step{A V n k d X:Nat}{u u3 q:List Nat}(h:Jq A V n k u q)(hk:k<ln q)(hV:V<B^n)
  (hl:ln u3=ln u)(hs:Small u3)(hsame:∀i,i<ln q-1-k\/ln q-1-k+(n+1)<=i->fv u3 i=fv u i)
  (hX:S (sh (fv u3) (ln q-1-k)) (n+1)=X)(he:X+d*V=S (sh (fv u) (ln q-1-k)) (n+1))(hlt:S (sh (fv u) (ln q-1-k)) (n+1)<(d+1)*V):
  d<B/\Jq A V n (k+1) u3 (q.set (ln q-1-k) d):=by
 have hltB:=h.lt hk;obtain⟨j,hj⟩:∃j,ln q-1-k=j:=⟨_,rfl⟩;have e1:ln q-(k+1)=j:=V7;have e2:ln q-k=j+1:=V7;obtain⟨hsm,hsq,hlen,hkq,heq,hz,hseg⟩:=h;rw[hj] at hsame hX he hlt hltB⊢;rw[e2] at heq hz hseg;have hXV:X<V:=by rw[Nat.add_mul,Nat.one_mul] at hlt;omega
 have hVpos:0<V:=V7;have hd:d<B:=by
  have:d*V<B*V:=V7;exact Nat.lt_of_mul_lt_mul_right this
 refine⟨hd,hs,Small.UJ hsq hd,by simpa[hl] using hlen,Wf,?_,?_,?_⟩
 ·rw[List.length_set,e1,hl];have ht:=Et (f:=fv u) (g:=fv u3) (m:=ln u) (j:=j) (n:=n+1) V7 (λi hi=>hsame i (.inl hi)) (λi hi _=>hsame i (.inr hi));have q1:S (sh (fv (q.set j d)) j) (k+1)=d+B*S (sh (fv q) (j+1)) k:=by
   rw[Oj,Gh V7,if_pos rfl,dU (g:=sh (fv q) (j+1))];intro i _;unfold sh;rw[Gh V7,if_neg V7]
  rw[q1,heq];rw[hX,<-he] at ht;have x1:B^j*(d+B*S (sh (fv q) (j+1)) k)*V=B^j*(d*V)+B^(j+1)*S (sh (fv q) (j+1)) k*V:=by
   rw[Nat.mul_add,Nat.add_mul,Nat.pow_succ,Nat.mul_assoc (B^j) d V,Nat.mul_assoc (B^j) B]
  rw[x1];have x2:B^j*(X+d*V)=B^j*X+B^j*(d*V):=Nat.mul_add _ _ _;omega
 ·rw[List.length_set,e1];intro i hi;by_cases hin:i=j+n
  ·subst hin;have h1:fv u3 (j+n)*B^n<=X:=by rw[<-hX];exact Cs (sh (fv u3) j) n
   rcases Nat.eq_zero_or_pos (fv u3 (j+n)) with h0|h0
   ·exact h0
   ·have:1*B^n<=fv u3 (j+n)*B^n:=Nat.mul_le_mul_right _ h0;omega
  ·rw[hsame i (.inr V7)];exact hz i V7
 ·rw[List.length_set,e1];have:S (sh (fv u3) j) n<=X:=by rw[<-hX,bR];exact Nat.le_add_right _ _
  omega
theorem Jq.done{a b f n:Nat}(h:Jq (a*f) (b*f) n (ln q) u q)(hf:0<f)(hb:0<b):val q=a/b/\val u=(a%b)*f:=by
 obtain⟨hsm,hsq,hlen,hkq,heq,hz,hseg⟩:=h;rw[Nat.sub_self] at heq hz hseg;have e0:∀g:Nat->Nat,sh g 0=g:=λg=>by funext k;unfold sh;rw[Nat.zero_add]
 rw[e0,Nat.pow_zero,Nat.one_mul] at heq;rw[e0] at hseg;have hR:S (fv u) (ln u)=S (fv u) n:=QM V7 (λi hi _=>hz i V7);have:=DX (Q:=S (fv q) (ln q)) (R:=S (fv u) (ln u)) hf hb (by rw[heq,Nat.add_comm]) (by rw[hR];exact hseg);exact this
theorem Jq.start{A V n:Nat}(hu:Small u)(hl:ln u=mq+n)(hA:val u=A)(hz:fv u (ln u-1)=0)(h1:1<=n)(hV:B^(n-1)<=V):
  Jq A V n 0 u (List.replicate mq 0):=by
 refine⟨hu,?_,XI,Nat.zero_le _,?_,?_,?_⟩
 ·intro d hd;rw[List.eq_of_mem_replicate hd];decide
 ·simp[S];rw[<-hA];rfl
 ·intro i hi;simp at hi;exact mL V7
 ·simp;obtain⟨m,rfl⟩:∃m,n=m+1:=⟨n-1,V7⟩;rw[bR];have:sh (fv u) mq m=0:=by
   have:ln u-1=mq+m:=V7;rw[this] at hz;exact hz
  rw[this,Nat.zero_mul,Nat.add_zero];have h2:S (sh (fv u) mq) m<B^m:=sG (λk _=>aB hu _);show _<V;exact Nat.lt_of_lt_of_le h2 hV
end Kp
namespace Go.Proofs.YtmliacdegmklaaaGreatDoor
section
open Kp
theorem bB.new{v:Vy}{l:List Nat}(h:bB w w.heap.size v l)(o:Obj):bB (w.alloc o) (w.alloc o).heap.size v l:=
 (h.below ((Below.refl _ _).alloc (Vu _) o)).more Wa
theorem bB.grow{v:Vy}{l:List Nat}(h:bB w w.heap.size v l)(hb:VS w.heap.size w w'):bB w' w'.heap.size v l:=(h.below hb).more hb.size
theorem Hw.sl{v:Vy}{l:List Nat}(h:Hw w w' v l):bB w' w'.heap.size v l:=by
 obtain⟨g,cap,rfl,hg,hr⟩:=h;exact hr.sl hr.lt
def ot(w:Vt)(a b:List Nat)(e:Ending)(w':Vt):Prop:=
 ∃vq vr ql rl,e=V0 (V6 #[vq,vr])/\bB w' w'.heap.size vq ql/\Canon ql/\val ql=val a/val b/\bB w' w'.heap.size vr rl/\Canon rl/\val rl=val a%val b/\VS w.heap.size w w'
def Is:Canon []:=⟨λ_ h=>Wb,qQ⟩
def N0(w:Vt)(b0:Nat):bB w b0 (VV Vx 0 0) []:=⟨Vx,0,rfl,Wa,by simp[VP],λh=>by simp at h⟩
def Cd(w:Vt)(a b:List Nat)(va vb:Vy)(ha:bB w w.heap.size va a)(hb:bB w w.heap.size vb b)(hca:Canon a)(hcb:Canon b)(hlen:ln a<=1000000)(hlt:val a<val b):
  VJ prog 297 #[va,vb] w (ot w a b):=by
 have hcmp:=Vs (jr (w.alloc (.cells #[VV Vx 0 0] 25)) a b va vb (ha.new _) (hb.new _) hca hcb V7);have HA:=Vs ha;obtain⟨A,ca,rfl,_,_,hac⟩:=ha;obtain⟨A',cb,rfl,_,_,hbc⟩:=hb;clear hac hbc;go_enter func297,ntmps297;go_wp2_with(go_at_call 327;refine hcmp.o.mono ?_;rintro e w1 ⟨c,rfl,h1,h2,hB⟩;have hc:c<0:=h1.2 hlt;clear h1 h2;have b1:=((Bx.new w 25 (VV Vx 0 0)).below hB Wa).cell;have f1:=((Bx.new w 25 (VV Vx 0 0)).below hB Wa).frozen)
 have hfin:ot w a b (V0 (V6 #[VV Vx 0 0,VV A (ln a) ca])) (w1.setCell ⟨w.heap.size,0,Vx⟩ (VV Vx 0 0)):=by
  have hb1:VS w.heap.size w (w1.setCell ⟨w.heap.size,0,Vx⟩ (VV Vx 0 0)):=(((Below.refl _ _).alloc (Vu _) _).trans (hB.mono Wa)).setCell (p:=⟨w.heap.size,0,Vx⟩) (Vu _) _;exact⟨_,_,[],a,rfl,N0 _ _,Is,by rw[Nat.div_eq_of_lt hlt];rfl,HA.o.grow hb1,hca,(Nat.mod_eq_of_lt hlt).symm,hb1⟩
 have hcell:=World.cell?_setCell_same' w1 ⟨w.heap.size,0,Vx⟩ (VV Vx 0 0) (by rw[b1];rfl);exact bodyPost_ret (v:= V6 #[VV Vx 0 0,VV A (ln a) ca]) (by simp[results,results297,go_sem,hcell]) rfl hfin
def DS(w:Vt)(a:List Nat)(d:Nat)(va vb:Vy)(ha:bB w w.heap.size va a)(hb:bB w w.heap.size vb [d])(hca:Canon a)(hcb:Canon [d])(hlen:ln a<=1000000)(hge:val [d]<=val a):
  VJ prog 297 #[va,vb] w (ot w a [d]):=by
 have hcmp:=Vs (jr (w.alloc (.cells #[VV Vx 0 0] 25)) a [d] va vb (ha.new _) (hb.new _) hca hcb V7);have hd1:d<1000000000:=hcb.small d Wa;have hd0:1<=d:=by have:d≠0:=pR.last (l:=[]) hcb.trim;omega
 have HA:=Vs ha;obtain⟨A,ca,rfl,_,_,hac⟩:=ha;obtain⟨A',cb,rfl,_,_,hbc⟩:=hb;obtain⟨bb,bo,rfl,hbb,hcell⟩:=hbc Wa;have hx:w.cell? ⟨bb,bo,Vx⟩=Vz (VZ VH d):=hcell 0 Wa;clear hac hbc hcell;go_enter func297,ntmps297;go_wp2_with(first
  |(go_at_call 327;refine hcmp.o.mono ?_;rintro e w1 ⟨c,rfl,h1,h2,hB⟩;have hc:¬c<0:=λh=>absurd (h1.1 h) V7;clear h1 h2;have b1:=((Bx.new w 25 (VV Vx 0 0)).below hB Wa);have x1:w1.cell? ⟨bb,bo,Vx⟩=Vz (VZ VH d):=((hB.cell (p:=⟨bb,bo,Vx⟩) Wf).trans (Vt.cell?_alloc_lt w _ ⟨bb,bo,Vx⟩ hbb)).trans hx)
  |(go_at_call 328;refine(ub w1 a _ d (HA.o.grow (((Below.refl _ _).alloc (Vu _) _).trans (hB.mono Wa))) hca.small hd0 hd1 V7).mono ?_;rintro e w2 ⟨vq,vr,ql,rl,rfl,hq,hcq,hvq,hr,hcr,hvr,hB2⟩;obtain⟨gq,cq,rfl,hgq,hrq⟩:=hq;obtain⟨gr,cr,rfl,hgr,hrr⟩:=hr;have bx2:=b1.below hB2 b1.lt;have b2:=bx2.cell;have f2:=bx2.frozen))
 have hne1:gq≠w.heap.size:=by have:=b1.lt;omega
 have hne2:gr≠w.heap.size:=by have:=b1.lt;omega
 have hcell:=World.cell?_setCell_same' w2 ⟨w.heap.size,0,Vx⟩ (VV (Vz ⟨gq,0,Vx⟩) (ln ql) cq) (by rw[b2];rfl);have hb1:VS w.heap.size w (w2.setCell ⟨w.heap.size,0,Vx⟩ (VV (Vz ⟨gq,0,Vx⟩) (ln ql) cq)):=
  ((((Below.refl _ _).alloc (Vu _) _).trans (hB.mono Wa)).trans (hB2.mono (by have:=b1.lt;omega))).setCell (p:=⟨w.heap.size,0,Vx⟩) (Vu _) _
 have hfin:ot w a [d] (V0 (V6 #[VV (Vz ⟨gq,0,Vx⟩) (ln ql) cq,VV (Vz ⟨gr,0,Vx⟩) (ln rl) cr])) (w2.setCell ⟨w.heap.size,0,Vx⟩ (VV (Vz ⟨gq,0,Vx⟩) (ln ql) cq)):=by
  have r1:=hrq.dz (p:=⟨w.heap.size,0,Vx⟩) hne1 (VV (Vz ⟨gq,0,Vx⟩) (ln ql) cq);have r2:=hrr.dz (p:=⟨w.heap.size,0,Vx⟩) hne2 (VV (Vz ⟨gq,0,Vx⟩) (ln ql) cq);exact⟨_,_,ql,rl,rfl,r1.sl r1.lt,hcq,by rw[val_one];exact hvq,r2.sl r2.lt,hcr,by rw[val_one];exact hvr,hb1⟩
 exact bodyPost_ret (v:= V6 #[VV (Vz ⟨gq,0,Vx⟩) (ln ql) cq,VV (Vz ⟨gr,0,Vx⟩) (ln rl) cr]) (by simp[results,results297,go_sem,hcell]) rfl hfin
end
section
open Kp
theorem Bx.only{b:Nat}{v:Vy}(h:Bx W b t v)(ho:dO g W W')(hb:b≠g):Bx W' b t v:=(ho.block b hb).trans h
theorem Row.only{l:List Nat}(h:Row W g' cap l)(ho:dO g W W')(hb:g'≠g):Row W' g' cap l:=h.keep (ho.block g' hb)
theorem dO.again{b:Nat}{v:Vy}(ho:dO g W W')(h:Bx W' b t v):dO g W (W'.setCell ⟨b,0,Vx⟩ v):=by
 refine⟨ho.os,ho.tape,ho.output,by simpa[World.setCell] using ho.size,λk hk=> ?_⟩;by_cases hb:k=b
 ·subst hb;rw[<-ho.block k hk];exact(h.put v).trans h.symm
 ·exact(Below.heap_setCell W' ⟨b,0,Vx⟩ v k hb).trans (ho.block k hk)
theorem dO.others(ho:dO g W W'){m:Nat×Nat}(hg:W.heap[g]?=Vz (.cells cs t m)):KeepsOthers W W':=
 ⟨by rw[ho.size];exact Vu _,λk o hk hc=>by
  by_cases e:k=g
  ·subst e;rw[hg] at hk;cases hk;cases hc
  ·exact(ho.block k e).trans hk⟩
structure O3(w:Vt)(nb gu cu gb cv:Nat)(tv:List Nat)(A mq m:Nat)(k:Nat)(u q:List Nat)(W:Vt):Prop where
 bq:Bx W w.heap.size 25 (VV (Vz ⟨nb+2,0,Vx⟩) mq mq)
 bu:Bx W nb 25 (VV (Vz ⟨gu,0,Vx⟩) m cu)
 bv:Bx W (nb+1) 25 (VV (Vz ⟨gb,0,Vx⟩) (ln tv) cv)
 it:Bx W (nb+3) 25 (VV (Vz ⟨nb+2,0,Vx⟩) mq mq)
 ru:Row W gu cu u
 rv:Row W gb cv tv
 rq:Row W (nb+2) mq q
 lu:ln u=m
 lq:ln q=mq
 dm:Jq A (val tv) (ln tv) k u q
 low:VS w.heap.size w W
theorem O3.stays{A mq m k:Nat}(h:O3 w nb gu cu gb cv tv A mq m k u q W)(hs:aF n0 W W')(hn:w.heap.size<=n0):
  O3 w nb gu cu gb cv tv A mq m k u q W':=
 ⟨h.bq.stays hs,h.bu.stays hs,h.bv.stays hs,h.it.stays hs,h.ru.stays hs,h.rv.stays hs,h.rq.stays hs,h.lu,h.lq,h.dm,h.low.trans (hs.below.mono hn)⟩
def Rb(w:Vt)(nb gu cu gb cv:Nat)(tv:List Nat)(A mq m:Nat)(k:Nat)(W:Vt):Prop:=∃u q,O3 w nb gu cu gb cv tv A mq m k u q W
theorem O3.back{A mq m k:Nat}(h:O3 w nb gu cu gb cv tv A mq m k u q W):
  GQ (nb+3) (Vz ⟨nb+2,0,Vx⟩) mq mq (λ_ _=>True) W:=
 ⟨h.it.cell,λ_=>⟨nb+2,0,rfl,λj hj=>⟨_,by rw[Nat.zero_add];exact h.rq.cell (by rw[h.lq];exact hj),trivial⟩⟩⟩
structure MM(W:Vt)(gu cu:Nat)(tv u:List Nat)(j:Nat)(d:Nat)(x:List Nat)(W':Vt):Prop where
 row:Row W' gu cu x
 len:ln x=ln u
 small:Small x
 same:∀i,i<j\/j+(ln tv+1)<=i->fv x i=fv u i
 seg:S (sh (fv x) j) (ln tv+1)=S (sh (fv u) j) (ln tv+1)
 lt:S (sh (fv u) j) (ln tv+1)<(d+1)*val tv
 bound:d<=2000000000
 only:dO gu W W'
def MB(W:Vt)(gu cu:Nat)(tv u:List Nat)(j:Nat)(d:Vy)(W':Vt):Prop:=∃dN x,d=VZ VH (dN:Nat)/\MM W gu cu tv u j dN x W'
def ug{l:List Nat}:S (fv l) (ln l+1)=val l:=kh V7
theorem MM.less{W W1 W2 W3:Vt}{tv u x y z:List Nat}{j d c c2:Nat}(h:MM W gu cu tv u j d x W1)(ht:oU W1 gu cu x tv j d (ln tv+1) c y W2)
  (hr:kX W2 gu cu y tv j d (ln tv+1) c2 z W3)(hc:0<c):1<=d/\MM W gu cu tv u j (d-1) z W3:=by
 obtain⟨row,len,small,same,seg,lt,bound,only⟩:=h;obtain⟨tR,tl,tS,tsame,teq,tc,tO⟩:=ht;obtain⟨rR,rl,rS,rsame,req,rc,rO⟩:=hr;rw[ug] at teq req;have hU:S (sh (fv x) j) (ln tv+1)<B^(ln tv+1):=sG (λk _=>aB small _);have hX:S (sh (fv y) j) (ln tv+1)<B^(ln tv+1):=sG (λk _=>aB tS _);have hZ:S (sh (fv z) j) (ln tv+1)<B^(ln tv+1):=sG (λk _=>aB rS _);have hbig:S (sh (fv x) j) (ln tv+1)<d*val tv:=by
  have:=G8 teq hX hU;rcases Nat.lt_or_ge (S (sh (fv x) j) (ln tv+1)) (d*val tv) with h|h
  ·exact h
  ·have:=this.2 h;omega
 have hz:S (sh (fv z) j) (ln tv+1)=S (sh (fv x) j) (ln tv+1):=Aa teq req hZ hU;have h1:1<=d:=by
  rcases Nat.eq_zero_or_pos d with h0|h0
  ·subst h0;omega
  ·exact h0
 refine⟨h1,rR,V7,rS,λi hi=> ?_,by rw[hz,seg],by rw[Nat.sub_add_cancel h1,<-seg];exact hbig,V7,(only.trans tO).trans rO⟩;rw[rsame i hi,tsame i hi,same i hi]
theorem O3.next{w W W1 W2:Vt}{A mq m k d:Nat}{u q x y:List Nat}(h:O3 w nb gu cu gb cv tv A mq m k u q W)(hk:k<mq)(htv:Small tv)
  (hgw:w.heap.size<gu)(hgu:gu<nb)(hgb:gb<nb)(hne:gu≠gb)(hwn:w.heap.size<nb)
  (hi:MM W gu cu tv u (mq-1-k) d x W1)(ht:oU W1 gu cu x tv (mq-1-k) d (ln tv+1) 0 y W2):
  d<1000000000/\KeepsOthers W (W2.setCell ⟨nb+2,mq-1-k,Vx⟩ (VZ VH d))/\O3 w nb gu cu gb cv tv A mq m (k+1) y (q.set (mq-1-k) d) (W2.setCell ⟨nb+2,mq-1-k,Vx⟩ (VZ VH d)):=by
 obtain⟨row,len,small,same,seg,lt,bound,only⟩:=hi;obtain⟨tR,tl,tS,tsame,teq,tc,tO⟩:=ht;have lq:=h.lq;subst lq;rw[ug,seg,Nat.zero_mul,Nat.add_zero] at teq;have hO:dO gu W W2:=only.trans tO;obtain⟨hd,hM⟩:=h.dm.step hk (rf htv) V7 tS (λi hi=>by rw[tsame i hi,same i hi]) rfl teq lt;obtain⟨cur,hcur,_⟩:=h.ru;refine⟨hd,(hO.others hcur).trans (KeepsOthers.setCell _ _ _),(h.bq.only hO V7).dz Wf _,(h.bu.only hO V7).dz Wa _,(h.bv.only hO V7).dz Wa _,(h.it.only hO V7).dz Wa _,
  tR.dz Wf _,(h.rv.only hO V7).dz Wf _,(h.rq.only hO V7).set V7 d,by have:=h.lu;omega,Wa,hM,?_⟩
 exact(h.low.trans (hO.below V7)).setCell (p:=⟨nb+2,_,Vx⟩) Wf _
end
section
open Kp
attribute [local go_sem] Oper.semAt_some
def ER{t:Nat}(h1:1<=t)(h2:t<1000000000):∃f:Nat,(1000000000:Int)/((t:Int)+1)=f/\1<=f/\f<1000000000:=by
 refine⟨1000000000/(t+1),Wa,?_,?_⟩
 ·exact(Nat.le_div_iff_mul_le V7).2 V7
 ·exact Nat.div_lt_self V7 V7
theorem MP{l:List Nat}(h:w.ownsRow base 3 1 (VV (Vz ⟨g,0,Vx⟩) (ln l+1) cap) (ln l+1) ((l.map λ(d:Nat)=>Value.int .i64 (d:Int))++[VZ VH 0])):Row w g cap (l++[0]):=by
 refine vG h Wa (λj hj=> ?_);simp only[VM,List.length_singleton] at hj;by_cases hlt:j<ln l
 ·rw[List.getElem?_append_left (by simpa using hlt),List.getElem?_map,VA hlt];have:fv (l++[0]) j=l[j]:=by unfold fv;simp[List.getElem?_append_left hlt,hlt]
  rw[this];rfl
 ·have e:j=ln l:=V7;subst e;have:fv (l++[0]) (ln l)=0:=by unfold fv;simp
  rw[this];simp
def Ce(w:Vt)(a b:List Nat)(va vb:Vy)(ha:bB w w.heap.size va a)(hb:bB w w.heap.size vb b)(hca:Canon a)(hcb:Canon b)(hlen:ln a<=400000)(h2:2<=ln b)(hge:val b<=val a):
  VJ prog 297 #[va,vb] w (ot w a b):=by
 have hbl:ln b<=ln a:=by
  rcases Nat.lt_or_ge (ln a) (ln b) with h|h
  ·have:=bT hca.small hcb.trim h;omega
  ·exact h
 have hcmp:=Vs (jr (w.alloc (.cells #[VV Vx 0 0] 25)) a b va vb (ha.new _) (hb.new _) hca hcb V7);have HA:=Vs ha;have HB:=Vs hb;obtain⟨A,ca,rfl,_,_,hac⟩:=ha;obtain⟨A',cb,rfl,hb1,hb2,hbc⟩:=hb;clear hac;obtain⟨bb,bo,rfl,hbb,hcell⟩:=hbc V7;have hx:=hcell (ln b-1) V7;have ht1:1<=fv b (ln b-1):=by
  rcases mJ b with rfl|⟨m,d,rfl⟩
  ·simp at h2
  ·have:=hcb.trim.last;exact Ys
 have ht2:fv b (ln b-1)<1000000000:=aB hcb.small _;clear hbc hcell;unfold VP at *;have hb1e:((ln b:Int)==1)=Vw:=Wj;refine(callsIn_wide (n:=9)).1 (callsIn_of_wp_marks func297 rfl trivial ?_);simp only[ntmps297,List.size_toArray,List.length_cons,List.length_nil,Nat.reduceAdd,Nat.reduceSub,Array.replicate_succ,Array.replicate_zero,List.push_toArray,List.append_toArray,List.nil_append,List.cons_append];gi_wp2_with(refine⟨trivial,?_⟩;gi_at_call 327;refine(callsIn_wide.2 hcmp.o).mono ?_;clear hcmp;rintro e w1 ⟨c,rfl,h1,h2,hB⟩;have hc:¬c<0:=(λh=>absurd (h1.1 h) V7);clear h1 h2;have b1:=((Bx.new w 25 (VV Vx 0 0)).below hB Wa);have x1:w1.cell? ⟨bb,bo+(ln b-1),Vx⟩=Vz (VZ VH (fv b (ln b-1))):=((hB.cell (p:=⟨bb,bo+(ln b-1),Vx⟩) Wf).trans (Vt.cell?_alloc_lt w _ ⟨bb,bo+(ln b-1),Vx⟩ hbb)).trans hx)
 obtain⟨f,hf,hf1,hf2⟩:=ER ht1 ht2;rw[hf];have hB1:VS w.heap.size w w1:=((Below.refl _ _).alloc (Vu _) _).trans (hB.mono Wa);have hN1:w.heap.size<w1.heap.size:=b1.lt;have fsm:Small [f]:=by intro x hx;rw[List.mem_singleton.1 hx];exact hf2
 have one1:=row_one w1 f;refine⟨trivial,(callsIn_wide.2 (qV (w1.alloc (.cells #[VZ VH f] 3)) a [f] _ _ ((HA.o.grow hB1).new _) (one1.sl one1.lt) hca.small fsm V7 Wa)).mono ?_⟩;rintro e w2 ⟨v,l,rfl,⟨gu,cu,rfl,hgu,hru⟩,hcl,hvl,hll,hB2⟩;have hgu':w1.heap.size<gu:=by simp at hgu;omega
 have hll':ln l<=ln a+2:=by simp at hll;omega
 have hB02:VS w.heap.size w w2:=hB1.trans (((Below.refl _ _).alloc V7 _).trans (hB2.mono Wf));have b2:=(b1.alloc (.cells #[VZ VH f] 3)).below hB2 Wf;have hown:=DR (base:=w1.heap.size+1) hru hgu';obtain⟨i0,hi,hz0,hz1,hz2⟩:=info_parts eA;have hN2:w1.heap.size+1<=w2.heap.size:=by have:=hB2.size;simpa using this
 have H:=Vs hf;clear hf x1 hx;gi_wp2_with(gi_at_builtin;refine wpListIn_append_own _ rfl _ _ 25 rfl (w1.heap.size+1) 3 i0 (VZ VH 0) 1 8 underlying25 hi hz0 hz1 hz2 rfl V9 _ _ _ rfl (hown.alloc _) ⟨w2.heap.size,0,Vx⟩ 1 1 [VZ VH 0] rfl rfl (cell_one_new _ _ _) WR Wh V7 Wf ?_;intro v' w3 hown3 hgrow _;obtain⟨gv,capv,rfl⟩:=ownsRow_succ hown3)
 have hru3:Row w3 gv capv (l++[0]):=MP hown3;have hgv:w1.heap.size+1<=gv:=(hown3.lt gv rfl).1;have hgl:gv<w3.heap.size:=hru3.lt;have hB03:VS w.heap.size w w3:=(hB02.alloc V7 _).grown hgrow Wf (λk e=>by have e':gu=k:=Option.some.inj e;omega);have b3:Bx w3 w.heap.size 25 (VV Vx 0 0):=(hgrow.block _ Wf (λe=>by have e':w.heap.size=gu:=Option.some.inj e;omega)).trans (b2.alloc _);have one3:=row_one w3 f;have hN3:w.heap.size<w3.heap.size:=b3.lt;clear hgrow hown3 hown hru b2 one1 b1 hB2;refine⟨trivial,(callsIn_wide.2 (qV (w3.alloc (.cells #[VZ VH f] 3)) b [f] _ _ ((HB.o.grow hB03).new _) (one3.sl one3.lt) hcb.small fsm V7 Wa)).mono ?_⟩;rintro e w4 ⟨v,tv,rfl,⟨gb,cv,rfl,hgb,hrv⟩,hcv,hvv,hlv,hB4⟩;have hgb':w3.heap.size<gb:=by simp at hgb;omega
 have hlv':ln tv<=ln b+2:=by simp at hlv;omega
 have hru4:=(hru3.alloc (.cells #[VZ VH f] 3)).below hB4 Wf;have b4:=(b3.alloc (.cells #[VZ VH f] 3)).below hB4 Wf;have hB04:VS w.heap.size w w4:=hB03.trans (((Below.refl _ _).alloc V7 _).trans (hB4.mono Wf));have hN4:w3.heap.size+1<=w4.heap.size:=by have:=hB4.size;simpa using this
 have hgbl:gb<w4.heap.size:=hrv.lt;clear b3 hru3 one3 hB4 hB03 hB02 hi hz0 hz1 hz2;have c0:=b4.cell;have f0:=b4.frozen;have hla:ln a<=ln l:=by
  rcases Nat.lt_or_ge (ln l) (ln a) with h|h
  ·have h1:=bT hcl.small hca.trim h;have h3:val a*1<=val a*f:=Nat.mul_le_mul_left _ hf1;rw[hvl,val_one] at h1;omega
  ·exact h
 have hnot:decide ((ln l:Int)+1<(ln a:Int)+1)=Vw:=Wf;gi_wp2_with fail
 gi_loopw [44] (λ_ wr=>wr=((w4.alloc (.cells #[VV (Vz ⟨gv,0,Vx⟩) (ln l+1) capv] 25)).alloc (.cells #[VV (Vz ⟨gb,0,Vx⟩) (ln tv) cv] 25))) (λ_ _=>0)
 case atStart=>rfl
 case round=>
  subst hrel;have hvge:val b<=val tv:=by rw[hvv,val_one];exact Nat.le_mul_of_pos_right _ hf1
  have htb:ln b<=ln tv:=by
   rcases Nat.lt_or_ge (ln tv) (ln b) with h|h
   ·have:=bT hcv.small hcb.trim h;omega
   ·exact h
  have htl:ln tv<=ln l:=by
   rcases Nat.lt_or_ge (ln l) (ln tv) with h|h
   ·have h1:=bT hcl.small hcv.trim h;rw[hvl,hvv] at h1;have:val b*val [f]<=val a*val [f]:=Nat.mul_le_mul_right _ hge;omega
   ·exact h
  obtain⟨mq,hmq⟩:∃mq,ln l+1=mq+ln tv:=⟨ln l+1-ln tv,V7⟩;have em:(ln l:Int)+1-ln tv=(mq:Int):=V7;have hmk:=lk mq V7;rw[<-em] at hmk;have HM:=Vs hmq;have HE:=Vs em;have hlt4:w.heap.size<w4.heap.size:=V7;have hne4:¬w.heap.size=w4.heap.size:=V7;have hne5:¬w.heap.size=w4.heap.size+1:=V7;have hne6:¬w.heap.size=w4.heap.size+1+1:=V7;have hl4:w.heap.size<w4.heap.size+1:=V7;have hl5:w.heap.size<w4.heap.size+1+1:=V7;clear hmq em hnot;gi_wp2_with(refine⟨trivial,?_⟩;gi_at_call 330;refine(callsIn_wide.2 (iB _ _ _ _)).mono ?_;rintro e w' ⟨rfl,rfl⟩)
  have hmq:=HM.o;refine fQ (gf:=347) (lb:=#[VY (Vz ⟨w4.heap.size+3,0,Vx⟩)]) rfl (enters_of func347 V8 rfl)
   (gB (w4.heap.size+3) (Vz ⟨w4.heap.size+2,0,Vx⟩) mq mq (λ_ _=>True) V7) (λk x ⟨_,_,e⟩=>XB)
   (Rb w w4.heap.size gv capv gb cv tv (val a*f) mq (ln l+1)) (λ_ _ _=>False) (λk W W' ⟨u,q,h⟩ hs=>⟨u,q,h.stays hs Wf⟩) (λc k W W' h hs=>h) (λk W ⟨u,q,h⟩=>h.back) ?start ?round ?done ?stop
  case start=>
   have hsz:(w4.setCell ⟨w.heap.size,0,Vx⟩ (VV (Vz ⟨w4.heap.size+1+1,0,Vx⟩) mq mq)).heap.size=w4.heap.size:=by simp[World.setCell]
   have hz:=rn (((w4.setCell ⟨w.heap.size,0,Vx⟩ (VV (Vz ⟨w4.heap.size+1+1,0,Vx⟩) mq mq)).alloc (.cells #[VV (Vz ⟨gv,0,Vx⟩) (ln l+1) capv] 25)).alloc (.cells #[VV (Vz ⟨gb,0,Vx⟩) (ln tv) cv] 25)) mq V7;simp only[VK,hsz] at hz;have hsm:Small (l++[0]):=hcl.small.snoc V9;refine⟨l++[0],List.replicate mq 0,((((b4.put _).alloc _).alloc _).alloc _).alloc _,(((Bx.at_ hsz).alloc _).alloc _).alloc _,((Bx.at_ (by simp[hsz])).alloc _).alloc _,Bx.at_ (by simp[hsz]),?_,?_,hz.alloc _,Wa,Wa,?_,?_⟩
   ·exact((((hru4.dz Wf _).alloc _).alloc _).alloc _).alloc _
   ·exact((((hrv.dz Wf _).alloc _).alloc _).alloc _).alloc _
   ·refine Jq.start hsm Wf (by rw[pr,hvl,val_one]) (by unfold fv;simp) V7 (vO hcv.trim (by intro h0;rw[h0,List.length_nil] at htb;omega))
   ·have h1:VS w.heap.size w (w4.setCell ⟨w.heap.size,0,Vx⟩ (VV (Vz ⟨w4.heap.size+1+1,0,Vx⟩) mq mq)):=hB04.setCell (p:=⟨w.heap.size,0,Vx⟩) (Vu _) _;exact(((h1.alloc (by rw[hsz];omega) _).alloc (by simp[hsz];omega) _).alloc (by simp[hsz];omega) _).alloc (by simp[hsz];omega) _
  case round=>
   have hn2:2<=ln tv:=V7;have hgw:w.heap.size<gv:=V7;have hguN:gv<w4.heap.size:=V7;have hgg:gv≠gb:=V7;have hm4:ln l+1<=500000:=V7;have hv1:1<=fv tv (ln tv-1):=by
    rcases mJ tv with rfl|⟨m,d,rfl⟩
    ·exact absurd hn2 Wa
    ·have:=hcv.trim.last;exact Ys
   have hvs:=hcv.small;clear hvge htb htl hmk HE hla c0 f0 b4 hru4 hrv hcl hvl hvv hcv hll hlv hll' hlv' hgu hgu' hgb hgb' hgv hgl hB04 hB1 hB hN1 hN2 hN3 hN4 ht1 ht2 fsm H HA HB hca hcb hbb hb1 hb2 hc hb1e hbl hge h2 hlen;intro lp k x W K hk hx hi hK;obtain⟨v,_,rfl⟩:=hx;have HK:=Vs hK;clear hK
   gi_wp2
   refine HK.o _ (λW2 hi2 _=> ?_);clear HK hi;obtain⟨u,q,h⟩:=hi2;have c1:=h.bq.cell;have c2:=h.bu.cell;have c3:=h.bv.cell;have hlu:=h.lu;have hlq:=h.lq;have hdl:=h.dm.len;have htop:=h.dm.top (v:=tv) V7 hvs rfl V7 rfl;have hlt:=h.dm.lt V7;rw[hlq] at htop hlt;have HE1:=Vs (zP W2 gv capv u tv (Vz ⟨gb,0,Vx⟩) cv (mq-1-k) W2.heap.size h.ru (h.rv.sl h.rv.lt) h.dm.small hvs hn2 V7 V7 hv1 htop hlt);have h':=Vs h;rw[hlu] at HE1;have HDL:=Vs hdl;have HLQ:=Vs hlq;have HLU:=Vs hlu;have hml:mq<=500000:=V7;clear htop hlt hlu hlq hdl h hmq;gi_wp2_with(refine⟨trivial,?_⟩;gi_at_call 331;refine(CallsIn.inRound lp (callsIn_wide.2 HE1.o)).mono ?_;clear HE1;rintro e w5 ⟨d,n5,rfl,hd1,hd2,rfl⟩)
   have HD:=Vs hd1;clear hd1
   gi_loopw [10] (λd wr=>MB W2 gv capv tv u (mq-1-k) d wr) (λd _=>(VN d).toNat)
   case atStart=>exact⟨d,u,rfl,h'.o.ru,rfl,h'.o.dm.small,λ_ _=>rfl,rfl,HD.o,hd2,(dO.refl _ _).drewN n5⟩
   case round=>
    obtain⟨d',x,rfl,hrel⟩:=hrel;clear HD hd2;have e1:=(h'.o.bu.only hrel.only V7);have e2:=(h'.o.bv.only hrel.only V7);have g1:=e1.cell;have g2:=e2.cell;have g3:=e1.frozen;have HT:=Vs (Ma wr gv capv x tv (VV (Vz ⟨gb,0,Vx⟩) (ln tv) cv) (mq-1-k) d' hrel.row ((h'.o.rv.only hrel.only (Ne.symm hgg)).Sl (Ne.symm hgg)) hrel.small hvs (by have:=hrel.len;have:=HLU.o;have:=HM.o;omega) hrel.bound (by have:=hrel.len;have:=HLU.o;omega));rw[hrel.len,HLU.o] at HT;have HR:=Vs hrel;clear hrel;gi_wp2_with fail
    refine⟨trivial,(CallsIn.inRound lp (callsIn_wide.2 HT.o)).mono ?_⟩;clear HT;rintro e w6 ⟨c,y,rfl,ht⟩;have O6:=HR.o.only.trans ht.2.2.2.2.2.2;have p1:=h'.o.bq.only O6 V7;have p2:=h'.o.bu.only O6 V7;have p3:=h'.o.bv.only O6 V7;have q1:=p1.cell;have q2:=p2.cell;have q2f:=p2.frozen;have q3:=p3.cell;by_cases hc0:c=0
    ·subst hc0;have hn:=h'.o.next hk hvs hgw hguN hgbl hgg hlt4 HR.o ht;have hd9:=hn.1;have HN:=Vs hn.2;have z1:=(h'.o.rq.only O6 V7).cell (j:=mq-1-k) (by rw[h'.o.lq];omega);have z2:=(h'.o.rq.only O6 V7).frozen (mq-1-k);have i1:((mq-1-k:Nat):Int)<mq:=V7;clear ht O6 p1 p2 p3 hn e1 e2;gi_wp2_with fail
     exact⟨HN.o.1,_,_,HN.o.2⟩
    ·have hcp:0<c:=V7;have hcb:decide (0<c)=VD:=by simpa using hcp
     have hyl:=ht.2.1;have hxl:=HR.o.len;have HRS:=Vs (Cx w6 gv capv y tv (VV (Vz ⟨gb,0,Vx⟩) (ln tv) cv) (mq-1-k) d' ht.1 ((h'.o.rv.only O6 (Ne.symm hgg)).Sl (Ne.symm hgg)) ht.2.2.1 hvs (by have:=HLU.o;have:=HM.o;omega) HR.o.bound (by have:=HLU.o;omega));rw[hyl,hxl,HLU.o] at HRS;have HTk:=Vs ht;have HY:Hid (ln y=ln l+1):=by rw[hyl,hxl,HLU.o];exact Vs rfl
     have hdb:=HR.o.bound;clear ht p1 p3 hyl hxl e1 e2 hc0;gi_wp2_with(refine⟨trivial,?_⟩;gi_at_call 333;refine(CallsIn.inRound lp (callsIn_wide.2 HRS.o)).mono ?_;clear HRS;rintro e w7 ⟨c2,z,rfl,hr7⟩;have hless:=HR.o.less HTk.o hr7 hcp;have hle1:=hless.1;have HL:=Vs hless.2;have y2:=p2.only hr7.2.2.2.2.2.2 V7;have y2c:=y2.cell;have y2f:=y2.frozen;clear hless hr7)
     rw[HY.o];have hfin:=HL.o;have e9:(d':Int)-1=((d'-1:Nat):Int):=V7;rw[e9];exact⟨⟨d'-1,z,rfl,hfin.row.dz (p:=⟨w4.heap.size,0,Vx⟩) Wf _,hfin.len,hfin.small,hfin.same,hfin.seg,hfin.lt,hfin.bound,hfin.only.again y2⟩,Wc⟩
  case done=>
   rintro D W hD ⟨u,q,h⟩ hK;have hsm:=h.dm.small;have hbl4:0<val b:=Nat.lt_of_lt_of_le (by decide:0<1) (VI (Nat.one_le_pow _ _ V9) (vO hcb.trim (by intro h0;rw[h0,List.length_nil] at h2;omega)));have hdone:val q=val a/val b/\val u=(val a%val b)*f:=by
    have hd:=h.dm;rw[hvv,val_one] at hd;rw[<-h.lq] at hd;exact hd.done hf1 hbl4
   have hT:=Vs (kJ h.ru h.lu);have hru:=h.ru.trimmed;have hlt:(aA u).length<=ln l+1:=by have:=aR u;have:=h.lu;omega
   have hDS:=Vs (ub W (aA u) (VV (Vz ⟨gv,0,Vx⟩) (aA u).length capv) f (hru.sl hru.lt) (eD hsm).small hf1 hf2 V7);have c2:=h.bu.cell;have HH:=Vs h;have HDn:=Vs hdone;clear hvge htb htl hmk HE hla c0 f0 b4 hru4 hrv hcl hvl hvv hcv hll hlv hll' hlv' hgu hgu' hgb hgb' hgv hgl hB04 hB1 hB hN1 hN2 hN3 hN4 ht1 ht2 fsm H HA HB hca hcb hbb hb1 hb2 hc hb1e hbl hge h2 h hdone hru hsm hbl4 hmq HM;gi_wp2_with(first
    |(refine⟨trivial,?_⟩;gi_at_call 328;refine(callsIn_wide.2 hDS.o).mono ?_;clear hDS;rintro e w6 ⟨vq,vr,ql,rl,rfl,⟨gq,cq,rfl,hgq,hrq⟩,hcq,hvq,⟨gr,cr,rfl,hgr,hrr⟩,hcr,hvr,hB6⟩;have p1:=HH.o.bq.below hB6 HH.o.bq.lt;have q1:=p1.cell;have q2:=p1.frozen;have hT2:=Vs (kJ (HH.o.rq.below hB6 HH.o.rq.lt) HH.o.lq))
    |(refine⟨trivial,?_⟩;gi_at_call 326;have _t:=hT;refine(callsIn_wide.2 hT.o).mono ?_;clear hT;rintro e w' ⟨rfl,rfl⟩)
    |(refine⟨trivial,?_⟩;gi_at_call 326;refine(callsIn_wide.2 hT2.o).mono ?_;clear hT2;rintro e w' ⟨rfl,rfl⟩))
   obtain⟨X,hX⟩:∃X,w6.setCell ⟨w.heap.size,0,Vx⟩ (VV (Vz ⟨w4.heap.size+2,0,Vx⟩) (aA q).length mq)=X:=⟨_,rfl⟩;have hWw:w.heap.size<W.heap.size:=HH.o.bq.lt;have hDk:w6.heap[D]?=Vz (.deferred (Vz [])):=(hB6.block D (VF.1 hK).1).trans hK;have k1:X.heap[D]?=Vz (.deferred (Vz [])):=by rw[<-hX];exact(KeepsOthers.setCell _ _ _).same D _ hDk rfl
   have k2:Bx X w.heap.size 25 (VV (Vz ⟨w4.heap.size+2,0,Vx⟩) (aA q).length mq):=by rw[<-hX];exact p1.put _
   have k3:Row X (w4.heap.size+2) mq (aA q):=by rw[<-hX];exact((HH.o.rq.below hB6 HH.o.rq.lt).dz Wf _).trimmed
   have k4:Row X gq cq ql:=by rw[<-hX];exact hrq.dz Wf _
   have k5:VS w.heap.size w X:=by rw[<-hX];exact(HH.o.low.trans (hB6.mono V7)).setCell (p:=⟨w.heap.size,0,Vx⟩) (Vu _) _
   rw[hX];have hs:=aF.putObj (n0:=w.heap.size) (.deferred Vx) k1 rfl Xj;have hcl:=hs.cell k2.cell;refine⟨Wa,.inl ⟨_,_,rfl,run_takeDeferred k1,?_⟩⟩;have r1:=k3.stays hs;have r2:=k4.stays hs;refine⟨V6 #[VV (Vz ⟨w4.heap.size+2,0,Vx⟩) (aA q).length mq,VV (Vz ⟨gq,0,Vx⟩) (ln ql) cq],by simp[results,results297,go_sem,hcl],_,_,aA q,ql,rfl,r1.sl r1.lt,eD HH.o.dm.smallq,?_,r2.sl r2.lt,hcq,?_,k5.trans hs.below⟩
   ·rw[gO];exact HDn.o.1
   ·rw[hvq,gO,HDn.o.2,Nat.mul_div_cancel _ hf1]
  case stop=>
   rintro D c k W hD hk h;exact h.elim
def Ei(w:Vt)(a b:List Nat)(va vb:Vy)(ha:bB w w.heap.size va a)(hb:bB w w.heap.size vb b)(hca:Canon a)(hcb:Canon b)(hlen:ln a<=400000)(hb0:b≠[]):
  VJ prog 297 #[va,vb] w (ot w a b):=by
 rcases Nat.lt_or_ge (val a) (val b) with hlt|hge
 ·exact Cd w a b va vb ha hb hca hcb V7 hlt
 ·match b,hb0 with
  |[d],_=>exact DS w a d va vb ha hb hca hcb V7 hge
  |d::d2::r,_=>exact Ce w a _ va vb ha hb hca hcb hlen Wa hge
end
end Go.Proofs.YtmliacdegmklaaaGreatDoor
namespace Kp
theorem val_inj(ha:Canon a)(hb:Canon b)(h:val a=val b):a=b:=by
 have hl:ln a=ln b:=by
  rcases Nat.lt_trichotomy (ln a) (ln b) with hlt|heq|hgt
  ·have:=bT ha.small hb.trim hlt;omega
  ·exact heq
  ·have:=bT hb.small ha.trim hgt;omega
 unfold val at h;rw[<-hl] at h;have hk:=SP (λk _=>aB ha.small k) (λk _=>aB hb.small k) h;refine List.ext_getElem hl (λi h1 h2=> ?_);have:=hk i h1;rwa[lT h1,lT h2] at this
open Classical in
noncomputable def cI(n:Nat):List Nat:=if h:∃l,Canon l/\val l=n then Classical.choose h else []
theorem mQ{l:List Nat}(h:Canon l)(hv:val l=n):cI n=l:=by
 have hx:∃l,Canon l/\val l=n:=⟨l,h,hv⟩;unfold cI;rw[dif_pos hx];have:=Classical.choose_spec hx;exact val_inj this.1 h (this.2.trans hv.symm)
end Kp
namespace Go.Proofs.YtmliacdegmklaaaGreatDoor
section
variable {P : Program} {ops : Array Oper} {Q : Exit → Act → Vt → Prop} {md : Region.Mode}
abbrev Ext(w w':Vt):Prop:=VS w.heap.size w w'
theorem Ext.size(h:Ext w w'):w.heap.size<=w'.heap.size:=Below.size h
def vX(listed:Array Bool):Nat->Nat
 |0=>0
 |n+1=>vX listed n+if listed.getD n Vw=VD then 0 else 1
theorem oh(h:vX listed n=0):∀i,i<n->listed.getD i Vw=VD:=by
 induction n with
 |zero=>intro i hi;omega
 |succ n ih=>
  rw[vX] at h;intro i hi;by_cases hin:i=n
  ·subst hin;by_cases hl:listed.getD i Vw=VD
   ·exact hl
   ·rw[if_neg hl] at h;omega
  ·exact ih V7 i V7
theorem tC(h:vX listed n=m+1):∃i,i<n/\listed.getD i Vw=Vw/\∀j,j<i->listed.getD j Vw=VD:=by
 induction n generalizing m with
 |zero=>rw[vX] at h;omega
 |succ n ih=>
  rw[vX] at h;by_cases h0:vX listed n=0
  ·have hl:¬listed.getD n Vw=VD:=λhl=>by rw[if_pos hl] at h;omega
   exact⟨n,V7,XI,oh h0⟩
  ·obtain⟨i,hi,h1,h2⟩:=ih (m:=vX listed n-1) V7;exact⟨i,V7,h1,h2⟩
theorem sW(hi:i<n)(hs:n<=listed.size)(hl:listed.getD i Vw=Vw)(h:vX listed n=m+1):vX (listed.setIfInBounds i VD) n=m:=by
 have key:∀n,n<=listed.size->vX (listed.setIfInBounds i VD) n+(if i<n then 1 else 0)=vX listed n:=by
  intro n
  induction n with
  |zero=>intro _;rw[vX,vX];simp
  |succ n ih=>
   intro hs;have:=ih V7;rw[vX,vX];by_cases hin:i=n
   ·subst hin;have e:(listed.setIfInBounds i VD).getD i Vw=VD:=by simp[show i<listed.size by omega]
    rw[if_pos e,hl];simp at this⊢;omega
   ·rw[getD_set_ne Vw hin];by_cases hlt:i<n
    ·rw[if_pos hlt] at this;rw[if_pos (show i<n+1 by omega)];omega
    ·rw[if_neg hlt] at this;rw[if_neg (show¬i<n+1 by omega)];omega
 have:=key n hs;rw[if_pos hi] at this;omega
structure S9(n:Nat)(D:Vt->Prop)(V:Nat->Vy->Vt->Prop)(fr:Nat->Bool)(listed:Array Bool)(vs:Nat->Vy)(w:Vt):Prop where
 d:D w
 v:∀i,i<n->listed.getD i Vw=VD->V i (vs i) w
 ne:∀i j,i<n->j<n->i≠j->fr i=VD->fr j=VD->listed.getD i Vw=VD->listed.getD j Vw=VD->vs i≠vs j
def Kj(ops:Array Oper)(n:Nat):Bool:=(List.range n).all λi=>((ops[i]?).map λo=>o.after.all λe=>decide (e.on<i)).getD Vw
theorem lR{o:Oper}(h:Kj ops n=VD)(hi:i<n)(ho:ops[i]?=Vz o):∀e∈o.after,e.on<i:=by
 have:=List.all_eq_true.1 h i (List.mem_range.2 hi);rw[ho] at this;simp only[Option.map_some,Option.getD_some] at this;intro e he;have:=Array.all_eq_true_iff_forall_mem.1 this e he;exact XY
theorem DV{tl:List Oper}(F:(Nat->Vy)->Act)(D:Vt->Prop)(V:Nat->Vy->Vt->Prop)(fr:Nat->Bool)
  (hs:Region.sinkB md ops n=VD)(hc:Region.chainB md ops n=VD)(hn:n<ops.size)
  (hseq:Region.seqB md ops (ops.size-n) n (Array.replicate n VD++Array.replicate (ops.size-n) Vw)=VD)(hlex:Kj ops n=VD)
  (htl:ln tl=ops.size-n)(htl':∀j,tl[j]?=ops[n+j]?)
  (hD:∀w w',D w->Ext w w'->D w')(hV:∀i v w w',V i v w->Ext w w'->V i v w')
  (hfr:∀i v w,i<n->fr i=VD->V i v w->∃b,v=VY (Vz ⟨b,0,Vx⟩)/\b<w.heap.size)
  (step:∀i o vs w,i<n->ops[i]?=Vz o->D w->(∀e∈o.after,Region.binds md e=VD->V e.on (vs e.on) w)->
   wpOp P ops Q i (λa' w'=>∃v,a'=F (λj=>if j=i then v else vs j)/\Ext w w'/\V i v w'/\(fr i=VD->∃b,v=VY (Vz ⟨b,0,Vx⟩)/\w.heap.size<=b)) (F vs) w)
  (tail:∀vs w,D w->(∀i,i<n->V i (vs i) w)->(∀i j,i<n->j<n->i≠j->fr i=VD->fr j=VD->vs i≠vs j)->wpList P ops Q tl (F vs) w):
  ∀(f:Nat) (listed:Array Bool) (vs:Nat->Vy) (w:Vt),HeadInv md ops n listed->vX listed n=f->S9 n D V fr listed vs w->wpAny P md ops Q (f+(ops.size-n)) listed (F vs) w:=by
 intro f
 induction f with
 |zero=>
  intro listed vs w inv hu hI;have hall:=oh hu;have he:listed=Array.replicate n VD++Array.replicate (ops.size-n) Vw:=by
   exact YM
  rw[Nat.zero_add,<-htl];refine wpAny_of_seq tl n listed (F vs) w htl' (by rw[htl,he];exact hseq) ?_;exact YL
 |succ f ih=>
  intro listed vs w inv hu hI;obtain⟨i0,hi0,hun0,hbef⟩:=tC hu;have hi0s:i0<listed.size:=Xb;rw[show f+1+(ops.size-n)=(f+(ops.size-n))+1 by omega];refine⟨λh0=> ?_,λi hi=> ?_⟩
  ·exact YK
  ·have hin:i<n:=by
    exact YJ
   obtain⟨hun,o,ho,hdep⟩:=mem_ready.1 hi;have hun':=getD_both hun;refine wpOp_mono ?_ (step i o vs w hin ho hI.d (λe he hb=>hI.v _ (by have:=lR hlex hin ho e he;omega) (hdep e he hb)));exact YI
def Ra:Exit->Act->Vt->Prop:=λ_ _ _=>False
def Gk:¬LetsOut Ra:=λ⟨_,_,h⟩=>h
theorem Oper.NG{o:Oper}{a:Act}{K:Act->Vt->Prop}(h:o.wp P a w K Ra):o.wp P a w K Q:=by
 unfold Oper.wp at *;generalize(execOp a.eval o).run P w=r at *;cases r with
 |ok x w'=>
  cases x with
  |value v=>exact h
  |skip=>exact h
  |defer d=>exact h
  |enter f args=>exact VJ.mono h (λe w'' he=>by cases e<;>first|exact he|exact absurd he Gk|exact he.elim)
  |row row args=>exact h
  |_=>exact h.elim
 |halt x w'=>
  cases x with
  |panic v=>exact h.elim
  |_=>exact h.elim
structure kC(P:Program)(Fc:Fence)(mm:Nat):Prop where
 op:∀(o:Oper) (a:Act) (w:Vt) (K:Act->Vt->Prop) (Q:Exit->Act->Vt->Prop),(∀c,o.op≠ .defer c)->o.wp P a w K Q->o.wpIn Fc mm P a w K Q
 fn:∀f,Fc.fn f
def aX(l mm:Nat):kC P (Fence.wide.inRound l) mm:=⟨λ_ _ _ _ _ hd h=>Oper.Di hd h,λ_=>trivial⟩
def Ct(mm:Nat):kC P Fence.wide mm:=by
 refine⟨λo a w K Q hd h=>⟨λ_ _=>trivial,?_⟩,λ_=>trivial⟩;show Oper.uponIn _ _ _ _ _ _ _ ((o.semAt Vx a.eval).run P w);unfold Oper.wp at h;have e:o.semAt Vx a.eval=execOp a.eval o:=rfl;rw[e];generalize(execOp a.eval o).run P w=r at *;cases r with
 |ok x w'=>
  cases x with
  |value v=>exact h
  |skip=>exact h
  |defer d=>exact h
  |enter f args=>exact⟨λh=>Wb,callsIn_wide.2 h⟩
  |row row args=>exact⟨λh=>Wb,rH (n:=mm-1) h⟩
  |_=>exact h.elim
 |halt x w'=>
  cases x with
  |panic v=>exact h
  |_=>exact h.elim
theorem rU{Fc:Fence}(hP:kC P Fc mm)(hnd:iZ ops=VD){K:Act->Vt->Prop}{a:Act}(h:wpOp P ops Ra i K a w):wpOpIn Fc mm P ops Q i K a w:=by
 unfold wpOp at h;unfold wpOpIn;cases ho:ops[i]? with
 |none=>rw[ho] at h;exact h
 |some o=>
  rw[ho] at h;simp only at h⊢;split
  ·rename_i hw;rw[if_pos hw] at h;rcases h with h|⟨_,h⟩
   ·exact hP.op o a w K Q (λc=>mH hnd ho c) (Oper.NG h)
   ·exact absurd h Gk
  ·rename_i hw;rw[if_neg hw] at h;exact⟨λf _=>hP.fn f,h⟩
theorem kp{Fc:Fence}(hP:kC P Fc mm):∀(l:List Oper) (k:Nat) (listed:Array Bool) (a:Act) (w:Vt),(∀j,l[j]?=ops[k+j]?)->
  Region.seqB md ops (ln l) k listed=VD->wpListIn Fc mm P ops Q l a w->wpAnyIn Fc mm P md ops Q (ln l) listed a w
 |[],_,_,_,_,_,hB,h=>⟨by simpa[Region.seqB] using hB,h⟩
 |o::l,k,listed,a,w,hl,hB,h=>by
  have h0:ops[k]?=Vz o:=by simpa using(hl 0).symm
  simp only[List.length_cons,Region.seqB,Bool.and_eq_true,decide_eq_true_eq] at hB;refine⟨λh1=>(by rw[hB.1] at h1;cases h1),λi hi=> ?_⟩;rw[hB.1] at hi;have hik:i=k:=Xl;subst hik;have hw:wpOpIn Fc mm P ops Q i (wpListIn Fc mm P ops Q l) a w:=by unfold wpOpIn;simp only[h0];exact h
  exact wpOpIn_mono (λa' w' h'=>kp hP l (i+1) _ a' w' (λj=>by have:=hl (j+1);simpa[Nat.add_assoc,Nat.add_comm 1 j] using this) hB.2 h') hw
theorem yx{Fc:Fence}(hP:kC P Fc mm)(hnd:iZ ops=VD){tl:List Oper}(F:(Nat->Vy)->Act)(D:Vt->Prop)(V:Nat->Vy->Vt->Prop)(fr:Nat->Bool)
  (hs:Region.sinkB md ops n=VD)(hc:Region.chainB md ops n=VD)(hn:n<ops.size)
  (hseq:Region.seqB md ops (ops.size-n) n (Array.replicate n VD++Array.replicate (ops.size-n) Vw)=VD)(hlex:Kj ops n=VD)
  (htl:ln tl=ops.size-n)(htl':∀j,tl[j]?=ops[n+j]?)
  (hD:∀w w',D w->Ext w w'->D w')(hV:∀i v w w',V i v w->Ext w w'->V i v w')
  (hfr:∀i v w,i<n->fr i=VD->V i v w->∃b,v=VY (Vz ⟨b,0,Vx⟩)/\b<w.heap.size)
  (step:∀i o vs w,i<n->ops[i]?=Vz o->D w->(∀e∈o.after,Region.binds md e=VD->V e.on (vs e.on) w)->
   wpOp P ops Ra i (λa' w'=>∃v,a'=F (λj=>if j=i then v else vs j)/\Ext w w'/\V i v w'/\(fr i=VD->∃b,v=VY (Vz ⟨b,0,Vx⟩)/\w.heap.size<=b)) (F vs) w)
  (tail:∀vs w,D w->(∀i,i<n->V i (vs i) w)->(∀i j,i<n->j<n->i≠j->fr i=VD->fr j=VD->vs i≠vs j)->wpListIn Fc mm P ops Q tl (F vs) w):
  ∀(f:Nat) (listed:Array Bool) (vs:Nat->Vy) (w:Vt),HeadInv md ops n listed->vX listed n=f->S9 n D V fr listed vs w->wpAnyIn Fc mm P md ops Q (f+(ops.size-n)) listed (F vs) w:=by
 intro f
 induction f with
 |zero=>
  intro listed vs w inv hu hI;have hall:=oh hu;have he:listed=Array.replicate n VD++Array.replicate (ops.size-n) Vw:=by
   exact YM
  rw[Nat.zero_add,<-htl];refine kp hP tl n listed (F vs) w htl' (by rw[htl,he];exact hseq) ?_;exact YL
 |succ f ih=>
  intro listed vs w inv hu hI;obtain⟨i0,hi0,hun0,hbef⟩:=tC hu;have hi0s:i0<listed.size:=Xb;rw[show f+1+(ops.size-n)=(f+(ops.size-n))+1 by omega];refine⟨λh0=> ?_,λi hi=> ?_⟩
  ·exact YK
  ·have hin:i<n:=by
    exact YJ
   obtain⟨hun,o,ho,hdep⟩:=mem_ready.1 hi;have hun':=getD_both hun;refine wpOpIn_mono ?_ (rU hP hnd (step i o vs w hin ho hI.d (λe he hb=>hI.v _ (by have:=lR hlex hin ho e he;omega) (hdep e he hb))));exact YI
def qc(m n:Nat):vX (Array.replicate m Vw) n=n:=by
 induction n with
 |zero=>rfl
 |succ n ih=>rw[vX,ih,getD_replicate_false];simp
def I7(ops:Array Oper)(n:Nat):Bool:=
 decide (n<ops.size)&&Region.sinkB .any ops n&&Region.chainB .any ops n&&Region.seqB .any ops (ops.size-n) n (Array.replicate n VD++Array.replicate (ops.size-n) Vw)&&Kj ops n
def bO{l:List Oper}(n:Nat)(F:(Nat->Vy)->Act)(D:Vt->Prop)(V:Nat->Vy->Vt->Prop)(fr:Nat->Bool)(hB:I7 l.toArray n=VD)
  (hD:∀w w',D w->Ext w w'->D w')(hV:∀i v w w',V i v w->Ext w w'->V i v w')
  (hfr:∀i v w,i<n->fr i=VD->V i v w->∃b,v=VY (Vz ⟨b,0,Vx⟩)/\b<w.heap.size)
  (step:∀i vs w,i<n->D w->(∀j,Region.waitsFor .any l.toArray i j=VD->V j (vs j) w)->
   wpOp P l.toArray Q i (λa' w'=>∃v,a'=F (λj=>if j=i then v else vs j)/\Ext w w'/\V i v w'/\(fr i=VD->∃b,v=VY (Vz ⟨b,0,Vx⟩)/\w.heap.size<=b)) (F vs) w)
  (tail:∀vs w,D w->(∀i,i<n->V i (vs i) w)->(∀i j,i<n->j<n->i≠j->fr i=VD->fr j=VD->vs i≠vs j)->wpList P l.toArray Q (l.drop n) (F vs) w)
  (vs:Nat->Vy)(w:Vt)(h0:D w):wpAny P .any l.toArray Q l.toArray.size (Array.replicate l.toArray.size Vw) (F vs) w:=by
 simp only[I7,Bool.and_eq_true,decide_eq_true_eq] at hB;obtain⟨⟨⟨⟨hn,hs⟩,hc⟩,hseq⟩,hlex⟩:=hB;have:=DV (tl:=l.drop n) F D V fr hs hc hn hseq hlex Wa (λj=>by simp[List.getElem?_drop]) hD hV hfr
  (λi o vs w hi ho hd hdep=>step i vs w hi hd (λj hj=>by
   obtain⟨oj,hoj,e,he,hb,rfl⟩:=Region.waitsFor_spec hj;obtain rfl:=Option.some.inj (ho.symm.trans hoj);exact hdep e he hb)) tail n (Array.replicate l.toArray.size Vw) vs w
  ⟨Wa,λj oj _ hl=>Wx,λt _ ht=>getD_in (by simpa using ht) (getD_replicate_false _ _)⟩ (qc _ _)
  ⟨h0,λi _ hl=>Wx,λi j _ _ _ _ _ hl=>Wx⟩
 rwa[show n+(l.toArray.size-n)=l.toArray.size by omega] at this
theorem mR{Fc:Fence}(hP:kC P Fc mm){l:List Oper}(hnd:iZ l.toArray=VD)(n:Nat)(F:(Nat->Vy)->Act)(D:Vt->Prop)(V:Nat->Vy->Vt->Prop)(fr:Nat->Bool)(hB:I7 l.toArray n=VD)
  (hD:∀w w',D w->Ext w w'->D w')(hV:∀i v w w',V i v w->Ext w w'->V i v w')
  (hfr:∀i v w,i<n->fr i=VD->V i v w->∃b,v=VY (Vz ⟨b,0,Vx⟩)/\b<w.heap.size)
  (step:∀i vs w,i<n->D w->(∀j,Region.waitsFor .any l.toArray i j=VD->V j (vs j) w)->
   wpOp P l.toArray Ra i (λa' w'=>∃v,a'=F (λj=>if j=i then v else vs j)/\Ext w w'/\V i v w'/\(fr i=VD->∃b,v=VY (Vz ⟨b,0,Vx⟩)/\w.heap.size<=b)) (F vs) w)
  (tail:∀vs w,D w->(∀i,i<n->V i (vs i) w)->(∀i j,i<n->j<n->i≠j->fr i=VD->fr j=VD->vs i≠vs j)->wpListIn Fc mm P l.toArray Q (l.drop n) (F vs) w)
  (vs:Nat->Vy)(w:Vt)(h0:D w):wpAnyIn Fc mm P .any l.toArray Q l.toArray.size (Array.replicate l.toArray.size Vw) (F vs) w:=by
 simp only[I7,Bool.and_eq_true,decide_eq_true_eq] at hB;obtain⟨⟨⟨⟨hn,hs⟩,hc⟩,hseq⟩,hlex⟩:=hB;have:=yx hP hnd (tl:=l.drop n) F D V fr hs hc hn hseq hlex Wa (λj=>by simp[List.getElem?_drop]) hD hV hfr
  (λi o vs w hi ho hd hdep=>step i vs w hi hd (λj hj=>by
   obtain⟨oj,hoj,e,he,hb,rfl⟩:=Region.waitsFor_spec hj;obtain rfl:=Option.some.inj (ho.symm.trans hoj);exact hdep e he hb)) tail n (Array.replicate l.toArray.size Vw) vs w
  ⟨Wa,λj oj _ hl=>Wx,λt _ ht=>getD_in (by simpa using ht) (getD_replicate_false _ _)⟩ (qc _ _)
  ⟨h0,λi _ hl=>Wx,λi j _ _ _ _ _ hl=>Wx⟩
 rwa[show n+(l.toArray.size-n)=l.toArray.size by omega] at this
theorem pf{Fc:Fence}(hP:kC P Fc mm){R:Act->Vt->Prop}(hnd:iZ ops=VD):∀(l:List Oper) (k:Nat) (a:Act) (w:Vt),(∀j,j<ln l->l[j]?=ops[k+j]?)->wpList P ops (mM R) l a w->wpListIn Fc mm P ops (Exit.then R (λ_ _ _=>False)) l a w
 |[],_,_,_,_,h=>h
 |o::l,k,a,w,hl,h=>by
  have h0:ops[k]?=Vz o:=by simpa using(hl 0 Wa).symm
  have hr:=λa w=>pf hP hnd l (k+1) a w (R:=R) (λj hj=>by have:=hl (j+1) Wf;simpa[Nat.add_assoc,Nat.add_comm 1 j] using this)
  unfold wpList at h;unfold wpListIn;split
  ·rename_i hw;rw[if_pos hw] at h;rcases h with h|⟨_,_,_,h⟩
   ·refine hP.op o a w _ _ (λc=>mH hnd h0 c) ?_;refine Oper.NG (Oper.wp_mono hr ?_);unfold Oper.wp at *;generalize(execOp a.eval o).run P w=r at *;cases r with
    |ok x w'=>
     cases x with
     |enter f args=>exact VJ.mono h (λe w'' he=>by cases e<;>first|exact he|(obtain⟨_,_,he⟩:=he;exact he.elim)|exact he.elim)
     |_=>exact h
    |halt x w'=>
     cases x with
     |panic v=>exact h.elim
     |_=>exact h.elim
   ·exact h.elim
  ·rename_i hw;rw[if_neg hw] at h;exact⟨λf _=>hP.fn f,hr _ _ h⟩
theorem cK{Fc:Fence}(hP:kC P Fc mm){id:Nat}{l:List Oper}{a:Act}(hnd:iZ l.toArray=VD)(h:wpList P l.toArray (mM (Q .normal)) l a w):(Code.region id l.toArray Vw).wpIn Fc mm P Q a w:=
 wpIn_mono (wpIn_region_lit (pf hP hnd l 0 a w (λj _=>Wa) h)) (λe a w q=>by cases e<;>first|exact q|exact q.elim)
theorem bN{Fc:Fence}(hP:kC P Fc mm){rest:List Oper}{o:Oper}{a:Act}(hgd:o.guard=Vx)(ty:VR)(x:Operand)(ho:o.op= .load ty x)
  (g:Nat)(hx:a.eval x=VY (Vz ⟨g,0,Vx⟩))(t:VR)(cs:Array Vy)(fr:Nat×Nat)(d:TypeDesc)(hg:w.heap[g]?=Vz (.cells cs t fr))
  (hu:P.underlying ty=Vz d)(hd:(match d with| .struct _| .array _ _=>VD|_=>Vw)=VD)(hi:(P.info? ty).map (·.size)=Vz cs.size)
  (h:wpListIn Fc mm P ops Q rest (a.put o.dst (V5 cs)) w):wpListIn Fc mm P ops Q (o::rest) a w:=
 wpListIn_plain hgd λ_ hK=>hP.op _ _ _ _ _ (by rw[ho];intro c h;cases h) (wp_load_row ty x ho g hx t cs fr d hg hu hd hi (hK _ _ h))
theorem kG{o:Oper}{a:Act}{K:Act->Vt->Prop}(ho:ops[i]?=Vz o)(hg:o.guard=Vx)(h:o.wp P a w K Q):wpOp P ops Q i K a w:=by
 unfold wpOp;simp only[ho,Region.wanted,hg,if_true];exact .inl h
def Ext.aC(w:Vt):Ext w w:=Below.refl _ _
def Ext.tr{a b c:Vt}(h:Ext a b)(k:Ext b c):Ext a c:=h.trans (k.mono h.size)
def Ext.dr(w:Vt):Ext w w.drew:=(Below.refl _ _).drew
end
section
open Kp
theorem az{v:Vy}(h:w.ownsRow base e s v n xs):∀k,v.ownBlock=Vz k->base<=k/\k<w.heap.size:=by
 obtain⟨_,⟨rfl,_⟩|⟨g,cap,cur,rfl,hb,hh,_⟩⟩:=h
 ·intro k hk;cases hk
 ·intro k hk;have:g=k:=by simpa[Value.ownBlock] using hk
  subst this;exact⟨hb,(VF.1 hh).1⟩
theorem aO{v:Vy}(h:w.ownsRow base e s v n xs)(hx:Ext w w'):w'.ownsRow base e s v n xs:=by
 obtain⟨hl,h0|⟨g,cap,cur,rfl,hb,hh,h1⟩⟩:=h
 ·exact YN
 ·exact⟨hl,.inr ⟨g,cap,cur,rfl,hb,(hx.block g (VF.1 hh).1).trans hh,h1⟩⟩
theorem uH{v:Vy}(h:w.ownsRow base e s v n xs)(hs:aF n0 w w'):w'.ownsRow base e s v n xs:=by
 obtain⟨hl,h0|⟨g,cap,cur,rfl,hb,hh,h1⟩⟩:=h
 ·exact YN
 ·exact⟨hl,.inr ⟨g,cap,cur,rfl,hb,hs.cells _ _ _ _ hh,h1⟩⟩
theorem bP{v:Vy}(h:w.ownsRow base e s v n xs)(hp:v.ownBlock≠Vz p.block)(x:Vy):(w.setCell p x).ownsRow base e s v n xs:=by
 obtain⟨hl,h0|⟨g,cap,cur,rfl,hb,hh,h1⟩⟩:=h
 ·exact YN
 ·refine⟨hl,.inr ⟨g,cap,cur,rfl,hb,(Below.heap_setCell _ _ _ _ (λe=>hp ?_)).trans hh,h1⟩⟩;rw[e];rfl
def ei{w0 w w':Vt}{row:Option Nat}(h:Ext w0 w)(hg:w.grownBy w' row)(hr:∀k,row=Vz k->w0.heap.size<=k):Ext w0 w':=
 VS.grown h hg (Below.size h) hr
def ng(v:Vy):Prop:=∃A n c,v=VV A n c
theorem ng.of{v:Vy}(h:w.ownsRow base e s v n xs):ng v:=by
 exact YO
def bV(f:Nat->Nat×Nat)(k:Nat):List Nat:=(List.range k).map λi=>(f (i+1)).1
def en(f:Nat->Nat×Nat)(k:Nat):bV f (k+1)=bV f k++[(f (k+1)).1]:=by
 unfold bV;rw[List.range_succ,List.map_append];rfl
def bn(f:Nat->Nat×Nat)(k:Nat):(bV f k).length=k:=by unfold bV;rw[VC,List.length_range]
abbrev sZ(l:List Nat):List Vy:=l.map λ(d:Nat)=>Value.int .i64 (d:Int)
def Uf(w:Vt)(f:Nat->Nat×Nat)(n:Nat)(v c i:Vy)(wr:Vt):Prop:=
 ∃k:Nat,k<=n/\i=VZ VH (k:Int)/\c=VZ VH ((f k).2:Int)/\wr.ownsRow w.heap.size 3 1 v k (sZ (bV f k))/\Ext w wr
theorem dd{v:Vy}{l:List Nat}(h:w.ownsRow base 3 1 v n (sZ l))(hn:ln l=n):bB w w.heap.size v l:=by
 subst hn;obtain⟨hl,⟨rfl,h0⟩|⟨g,cap,cur,rfl,hb,hh,h1,h2,h3,h4⟩⟩:=h
 ·exact YP
 ·refine⟨_,cap,rfl,h1,h2,λhp=>⟨g,0,rfl,(VF.1 hh).1,λj hj=> ?_⟩⟩;have h5:(sZ l)[j]?=Vz (VZ VH (fv l j)):=by rw[List.getElem?_map,VA hj,lT hj];rfl
  rw[<-h4,List.getElem?_take,if_pos V7] at h5;rw[Nat.zero_add];simpa[World.cell?,hh] using h5
end
section
variable {P : Program}
theorem gy{g:Operand}{ps:Array Tmp}{assign body:Code}{Q:Exit->Act->Vt->Prop}{a:Act}
  (hg:a.eval g= .func (.func gf) #[] lb)(eg:∀args w,(callFunc gf args).run P w= .ok (.enter gf args) w)
  {X:Nat->Array Vy->Prop}{M:Vt->Prop}(hseq:CE P gf lb X M N)(hps:∀k x,X k x->x.size=ps.size)
  (I:Nat->Vt->Prop)(Ix:Code->Nat->Vt->Prop)(hI:∀k W W',I k W->aF w.heap.size W W'->I k W')(hIx:∀c k W W',Ix c k W->aF w.heap.size W W'->Ix c k W')
  (hM:∀k W,I k W->M W)(h0:I 0 w)
  (hround:∀(l k:Nat) (x:Array Vy) (W:Vt) (K:Act->Vt->Prop),k<N->X k x->I k W->
   (∀a' W1,Ext W W1->(∀W2,aF w.heap.size W1 W2->w.heap.size<W2.heap.size->body.wpIn (Fence.wide.inRound l) (n-1-1) P (mu I Ix k W2) a' W2)->K a' W1)->
   assign.wpIn (Fence.wide.inRound l) (n-1-1) P (Exit.then K (λ_ _ _=>False)) {tmps:=(ps.zip x).foldl (λt (p,v)=>t.setIfInBounds p v) a.tmps,defers:=[]} W)
  (hdone:∀(D:Nat) (W:Vt),w.heap.size<=D->I N W->W.heap[D]?=Vz (.deferred (Vz []))->Q .normal {a with defers:={target:= .collected D,args:=#[]}::a.defers} W)
  (hstop:∀(D:Nat) (c:Code) (k:Nat) (W:Vt),w.heap.size<=D->k<N->Ix c k W->W.heap[D]?=Vz (.deferred (Vz []))->c.wpIn Fence.wide n P Q {a with defers:={target:= .collected D,args:=#[]}::a.defers} W):
  (Code.rangeFunc g ps assign body).wpIn Fence.wide n P Q a w:=by
 refine wpIn_rangeFunc ?_;intro fn hfn;obtain⟨R,hR⟩:∃R:LoopState->Option Code->Loop,R=λst pe=>{state:=st,pending:=pe,fn,tmps:=a.tmps,params:=ps,assign,body,defers:=w.heap.size}:=⟨_,rfl⟩
 obtain⟨W1,hW1⟩:∃W1,(w.alloc (.deferred (Vz []))).alloc (.loop (R .ready Vx))=W1:=⟨_,rfl⟩;have hL:W1.heap[w.heap.size+1]?=Vz (.loop (R .ready Vx)):=by
  exact Yf
 have hD:W1.heap[w.heap.size]?=Vz (.deferred (Vz [])):=by
  rw[<-hW1];exact(Below.heap_alloc _ _ _ Wa).trans (VG w _)
 have hb1:VS w.heap.size w W1:=by rw[<-hW1];exact((Below.refl _ w).alloc (Vu _) _).alloc Wa _
 have hI1:I 0 W1:=hI 0 _ _ h0 (aF.aZ hb1 (Vu _));refine⟨w.heap.size+1,[{target:= .collected w.heap.size,args:=#[]}],W1,{target:= .fn (.func gf) lb,args:=#[.func (.yield (w.heap.size+1)) #[] #[]]},W1,gf,
  #[.func (.yield (w.heap.size+1)) #[] #[]]++lb,W1,?_,?_,?_,?_,?_,?_⟩
 ·rw[<-hW1,hR];exact run_enterLoop_outer _ _ _ _ _
 ·simp only[resolve,hg];simp[go_sem]
 ·intro _ _;trivial
 ·simp[invoke,go_sem,eg]
 ·intro h;cases h
 ·have recKeep:∀{A C:Vt} {st:LoopState} {pe:Option Code},A.heap[w.heap.size+1]?=Vz (.loop (R st pe))->VS A.heap.size A C->C.heap[w.heap.size+1]?=Vz (.loop (R st pe)):=
   λh hb=>(hb.block _ (VF.1 h).1).trans h
  have defKeep:∀{A C:Vt},A.heap[w.heap.size]?=Vz (.deferred (Vz []))->VS A.heap.size A C->C.heap[w.heap.size]?=Vz (.deferred (Vz [])):=
   λh hb=>(hb.block _ (VF.1 h).1).trans h
  refine(hseq (n-1) (w.heap.size+1)
   (λk W=>I k W/\W.heap[w.heap.size+1]?=Vz (.loop (R .ready Vx))/\W.heap[w.heap.size]?=Vz (.deferred (Vz [])))
   (λk W=>∃c,Ix c k W/\W.heap[w.heap.size+1]?=Vz (.loop (R .done (Vz c)))/\W.heap[w.heap.size]?=Vz (.deferred (Vz [])))
   W1 (λk W h=>hM k W h.1)
   (λk A C h hb=>⟨hI k _ _ h.1 (aF.aZ hb (by have:=(VF.1 h.2.2).1;omega)),recKeep h.2.1 hb,defKeep h.2.2 hb⟩)
   (λk A C h hb=>by
    obtain⟨c,h1,h2,h3⟩:=h;exact⟨c,hIx c k _ _ h1 (aF.aZ hb (by have:=(VF.1 h3).1;omega)),recKeep h2 hb,defKeep h3 hb⟩)
   ?_ ⟨hI1,hL,hD⟩).mono ?_
  ·rintro k x W hk hx ⟨hi,hl,hd⟩;have hlt:w.heap.size+1<W.heap.size:=(VF.1 hl).1;have hy:=run_yield (P:=P) (args:=x) hl (by rw[hR];exact hps k x hx);rw[hR] at hy;refine⟨fn,_,assign,body,hy,roundIn_of_wpIn hfn (hround _ k x W _ hk hx hi λa' V1 hV1 hbody=>⟨_,run_beginRound (recKeep hl hV1) (by rw[hR]),?_⟩)⟩;have hlv:=recKeep hl hV1;have hdv:=defKeep hd hV1;have hltv:w.heap.size+1<V1.heap.size:=(VF.1 hlv).1;obtain⟨W2,hW2⟩:∃W2,V1.putObj (w.heap.size+1) (.loop {R .ready Vx with state:= .busy})=W2:=⟨_,rfl⟩;rw[hW2];have hl2:W2.heap[w.heap.size+1]?=Vz (.loop {R .ready Vx with state:= .busy}):=by rw[<-hW2];exact World.putObj_heap_same hltv
   have hd2:W2.heap[w.heap.size]?=Vz (.deferred (Vz [])):=by rw[<-hW2];exact(World.putObj_heap_other V7).trans hdv
   have hi2:aF w.heap.size V1 W2:=by rw[<-hW2];exact aF.putObj _ hlv rfl V7
   refine wpIn_mono (hbody W2 hi2 (by have:=(VF.1 hl2).1;omega)) ?_;have fin:∀(jump:Option Code) (W3:Vt),KeepsOthers W2 W3->∃W4,(Instr.endRound (w.heap.size+1) jump).run P W3= .ok (VX jump.isNone) W4/\aF w.heap.size W3 W4/\
     W4.heap[w.heap.size+1]?=Vz (.loop (R (if jump.isNone then .ready else .done) jump))/\W4.heap[w.heap.size]?=Vz (.deferred (Vz [])):=λjump W3 hk3=>by
    have hl3:=hk3.same _ _ hl2 rfl;have hr:=run_endRound (P:=P) jump hl3;refine⟨_,hr,aF.putObj _ hl3 rfl V7,?_,(World.putObj_heap_other V7).trans (hk3.same _ _ hd2 rfl)⟩;rw[World.putObj_heap_same (VF.1 hl3).1,hR]
   rintro e a3 W3 hp;cases e with
   |normal=>
    exact Ye
   |ret=>
    exact Yd
   |exit id=>
    exact Yc
   |goto t=>
    exact Yb
   |panic ch=>exact hp.elim
   |outgrown=>exact hp.elim
  ·rintro e W2 ⟨⟨v,rfl⟩,(⟨hi,hl,hd⟩|⟨k,hk,c,hi,hl,hd⟩)⟩
   ·exact Ya
   ·exact XZ
end
section
variable {P : Program} {ops : Array Oper} {Q : Exit → Act → Vt → Prop} {md : Region.Mode}
abbrev gF(L:Nat->Bool)(i:Nat):Nat->Bool:=λj=>if j=i then VD else L j
abbrev bA(vs:Nat->Vy)(i:Nat)(v:Vy):Nat->Vy:=λj=>if j=i then v else vs j
theorem yo(h:i<listed.size):(λj=>(listed.setIfInBounds i VD).getD j Vw)=gF (λj=>listed.getD j Vw) i:=by
 funext j
 unfold gF;by_cases hji:j=i
 ·subst hji;simp[h]
 ·rw[if_neg hji,getD_set_ne Vw (Ne.symm hji)]
theorem qS{Fc:Fence}(hP:kC P Fc mm)(hnd:iZ ops=VD){tl:List Oper}(F:(Nat->Vy)->Act)(I:(Nat->Bool)->(Nat->Vy)->Vt->Prop)
  (hs:Region.sinkB md ops n=VD)(hc:Region.chainB md ops n=VD)(hn:n<ops.size)
  (hseq:Region.seqB md ops (ops.size-n) n (Array.replicate n VD++Array.replicate (ops.size-n) Vw)=VD)(hlex:Kj ops n=VD)
  (htl:ln tl=ops.size-n)(htl':∀j,tl[j]?=ops[n+j]?)
  (step:∀i o L vs w,i<n->ops[i]?=Vz o->L i=Vw->I L vs w->(∀e∈o.after,Region.binds md e=VD->L e.on=VD)->
   wpOp P ops Ra i (λa' w'=>∃v,a'=F (bA vs i v)/\I (gF L i) (bA vs i v) w') (F vs) w)
  (tail:∀L vs w,(∀i,i<n->L i=VD)->I L vs w->wpListIn Fc mm P ops Q tl (F vs) w):
  ∀(f:Nat) (listed:Array Bool) (vs:Nat->Vy) (w:Vt),HeadInv md ops n listed->vX listed n=f->I (λj=>listed.getD j Vw) vs w->wpAnyIn Fc mm P md ops Q (f+(ops.size-n)) listed (F vs) w:=by
 intro f
 induction f with
 |zero=>
  intro listed vs w inv hu hI;have hall:=oh hu;have he:listed=Array.replicate n VD++Array.replicate (ops.size-n) Vw:=by
   exact YM
  rw[Nat.zero_add,<-htl];refine kp hP tl n listed (F vs) w htl' (by rw[htl,he];exact hseq) ?_;exact tail _ vs w hall hI
 |succ f ih=>
  intro listed vs w inv hu hI;obtain⟨i0,hi0,hun0,hbef⟩:=tC hu;have hi0s:i0<listed.size:=Xb;rw[show f+1+(ops.size-n)=(f+(ops.size-n))+1 by omega];refine⟨λh0=> ?_,λi hi=> ?_⟩
  ·exact YK
  ·have hin:i<n:=by
    exact YJ
   obtain⟨hun,o,ho,hdep⟩:=mem_ready.1 hi;have hun':=getD_both hun;refine wpOpIn_mono ?_ (rU hP hnd (step i o _ vs w hin ho hun' hI (λe he hb=>hdep e he hb)));exact Zi
theorem zr{Fc:Fence}(hP:kC P Fc mm){l:List Oper}(hnd:iZ l.toArray=VD)(n:Nat)(F:(Nat->Vy)->Act)(I:(Nat->Bool)->(Nat->Vy)->Vt->Prop)(hB:I7 l.toArray n=VD)
  (step:∀i L vs w,i<n->L i=Vw->I L vs w->(∀j,Region.waitsFor .any l.toArray i j=VD->L j=VD)->
   wpOp P l.toArray Ra i (λa' w'=>∃v,a'=F (bA vs i v)/\I (gF L i) (bA vs i v) w') (F vs) w)
  (tail:∀L vs w,(∀i,i<n->L i=VD)->I L vs w->wpListIn Fc mm P l.toArray Q (l.drop n) (F vs) w)
  (vs:Nat->Vy)(w:Vt)(h0:I (λ_=>Vw) vs w):wpAnyIn Fc mm P .any l.toArray Q l.toArray.size (Array.replicate l.toArray.size Vw) (F vs) w:=by
 simp only[I7,Bool.and_eq_true,decide_eq_true_eq] at hB;obtain⟨⟨⟨⟨hn,hs⟩,hc⟩,hseq⟩,hlex⟩:=hB;have:=qS hP hnd (tl:=l.drop n) F I hs hc hn hseq hlex Wa (λj=>by simp[List.getElem?_drop])
  (λi o L vs w hi ho hL hd hdep=>step i L vs w hi hL hd (λj hj=>by
   obtain⟨oj,hoj,e,he,hb,rfl⟩:=Region.waitsFor_spec hj;obtain rfl:=Option.some.inj (ho.symm.trans hoj);exact hdep e he hb)) tail n (Array.replicate l.toArray.size Vw) vs w
  ⟨Wa,λj oj _ hl=>Wx,λt _ ht=>getD_in (by simpa using ht) (getD_replicate_false _ _)⟩ (qc _ _)
  (by simpa only[getD_replicate_false] using h0)
 rwa[show n+(l.toArray.size-n)=l.toArray.size by omega] at this
end
section
variable {P : Program}
abbrev NP(D:Nat):Deferred:={target:= .collected D,args:=#[]}
def Mk(n0:Nat)(ds:List Deferred)(W:Vt):Prop:=∃Ds:List Nat,Ds.Nodup/\ds=Ds.map NP/\∀D∈Ds,n0<=D/\W.heap[D]?=Vz (.deferred (Vz []))
def Mk.nil(n0:Nat)(W:Vt):Mk n0 [] W:=⟨[],List.nodup_nil,rfl,λ_ h=>Wb⟩
theorem Mk.keeps{ds:List Deferred}(h:Mk n0 ds W)(hk:KeepsOthers W W'):Mk n0 ds W':=by
 obtain⟨Ds,h1,h2,h3⟩:=h;exact⟨Ds,h1,h2,λD hD=>⟨(h3 D hD).1,hk.same D _ (h3 D hD).2 rfl⟩⟩
theorem Mk.stays{ds:List Deferred}(h:Mk n0 ds W)(hw:∀D,NP D∈ds->D<w.heap.size)(hs:aF w.heap.size W W'):Mk n0 ds W':=by
 obtain⟨Ds,h1,h2,h3⟩:=h;subst h2;exact⟨Ds,h1,rfl,λD hD=>⟨(h3 D hD).1,(hs.low D (hw D (List.mem_map.2 ⟨D,hD,rfl⟩))).trans (h3 D hD).2⟩⟩
theorem Mk.lt{ds:List Deferred}(h:Mk n0 ds W)(hD:NP D∈ds):D<W.heap.size:=by
 obtain⟨Ds,h1,rfl,h3⟩:=h;obtain⟨D',hm,e⟩:=List.mem_map.1 hD;obtain rfl:D'=D:=by injection e with e1;injection e1
 exact(VF.1 (h3 D' hm).2).1
theorem Mk.cons{ds:List Deferred}(h:Mk n0 ds W)(hw:∀D,NP D∈ds->D<w.heap.size)(hD:w.heap.size<=D)(hn:n0<=D)(hb:W.heap[D]?=Vz (.deferred (Vz []))):Mk n0 (NP D::ds) W:=by
 obtain⟨Ds,h1,rfl,h3⟩:=h;refine⟨D::Ds,List.nodup_cons.2 ⟨λhm=> ?_,h1⟩,rfl,λE hE=> ?_⟩
 ·have:=hw D (List.mem_map.2 ⟨D,hm,rfl⟩);omega
 ·rcases List.mem_cons.1 hE with rfl|hE
  ·exact⟨hn,hb⟩
  ·exact h3 E hE
def aF.refl(n0:Nat)(W:Vt):aF n0 W W:=⟨rfl,rfl,rfl,Vu _,λ_ _=>rfl,λ_ _ _ _ h=>h⟩
theorem Mk.leaves{Fc:Fence}{fn:Func}{R:Ending->Vt->Prop}{ds:List Deferred}(h:Mk n0 ds W)
  (hR:∀W',aF n0 W W'->LeavesIn Fc n P fn tmps R [] .returning W'):LeavesInM Fc n P fn tmps R ds .returning W:=by
 obtain⟨Ds,h1,rfl,h3⟩:=h
 induction Ds generalizing W with
 |nil=>exact hR W (aF.refl _ _)
 |cons D Ds ih=>
  have hD:=h3 D Wa;have hs:=aF.putObj (n0:=n0) (.deferred Vx) hD.2 rfl hD.1;refine⟨Wa,.inl ⟨D,_,rfl,run_takeDeferred hD.2,ih (λW' hW'=>hR W' (hs.trans hW')) (List.nodup_cons.1 h1).2 (λE hE=> ?_)⟩⟩;refine⟨(h3 E (List.mem_cons_of_mem _ hE)).1,(World.putObj_heap_other λe=> ?_).trans (h3 E (List.mem_cons_of_mem _ hE)).2⟩;subst e;exact(List.nodup_cons.1 h1).1 hE
end
section
variable {P : Program} {ops : Array Oper} {Q : Exit → Act → Vt → Prop} {md : Region.Mode}
def RO(md:Region.Mode)(ops:Array Oper)(n:Nat):Bool:=(List.range n).all λi=>((ops[i]?).map λo=>o.after.all λe=>decide (e.on<i)|| !Region.binds md e).getD Vw
theorem Im{o:Oper}(h:RO md ops n=VD)(hi:i<n)(ho:ops[i]?=Vz o):∀e∈o.after,Region.binds md e=VD->e.on<i:=by
 have:=List.all_eq_true.1 h i (List.mem_range.2 hi);rw[ho] at this;simp only[Option.map_some,Option.getD_some] at this;intro e he hb;have:=Array.all_eq_true_iff_forall_mem.1 this e he;rw[hb] at this;exact XY
def TZ(ops:Array Oper)(n:Nat):Bool:=
 decide (n<ops.size)&&Region.sinkB .any ops n&&Region.chainB .any ops n&&Region.seqB .any ops (ops.size-n) n (Array.replicate n VD++Array.replicate (ops.size-n) Vw)&&RO .any ops n
theorem uq{tl:List Oper}(F:(Nat->Vy)->Act)(I:(Nat->Bool)->(Nat->Vy)->Vt->Prop)
  (hs:Region.sinkB md ops n=VD)(hc:Region.chainB md ops n=VD)(hn:n<ops.size)
  (hseq:Region.seqB md ops (ops.size-n) n (Array.replicate n VD++Array.replicate (ops.size-n) Vw)=VD)(hlex:RO md ops n=VD)
  (htl:ln tl=ops.size-n)(htl':∀j,tl[j]?=ops[n+j]?)
  (step:∀i o L vs w,i<n->ops[i]?=Vz o->L i=Vw->I L vs w->(∀e∈o.after,Region.binds md e=VD->L e.on=VD)->
   wpOp P ops Q i (λa' w'=>∃v,a'=F (bA vs i v)/\I (gF L i) (bA vs i v) w') (F vs) w)
  (tail:∀L vs w,(∀i,i<n->L i=VD)->I L vs w->wpList P ops Q tl (F vs) w):
  ∀(f:Nat) (listed:Array Bool) (vs:Nat->Vy) (w:Vt),HeadInv md ops n listed->vX listed n=f->I (λj=>listed.getD j Vw) vs w->wpAny P md ops Q (f+(ops.size-n)) listed (F vs) w:=by
 intro f
 induction f with
 |zero=>
  intro listed vs w inv hu hI;have hall:=oh hu;have he:listed=Array.replicate n VD++Array.replicate (ops.size-n) Vw:=by
   exact YM
  rw[Nat.zero_add,<-htl];refine wpAny_of_seq tl n listed (F vs) w htl' (by rw[htl,he];exact hseq) ?_;exact tail _ vs w hall hI
 |succ f ih=>
  intro listed vs w inv hu hI;obtain⟨i0,hi0,hun0,hbef⟩:=tC hu;have hi0s:i0<listed.size:=Xb;rw[show f+1+(ops.size-n)=(f+(ops.size-n))+1 by omega];refine⟨λh0=> ?_,λi hi=> ?_⟩
  ·have ho:ops[i0]?=Vz (ops[i0]'V7):=Array.getElem?_eq_getElem V7;have:i0∈Region.ready md ops listed:=mem_ready.2 ⟨getD_in hi0s hun0,_,ho,λe he hb=>hbef _ (Im hlex hi0 ho e he hb)⟩;rw[h0] at this;cases this
  ·have hin:i<n:=by
    exact YJ
   obtain⟨hun,o,ho,hdep⟩:=mem_ready.1 hi;have hun':=getD_both hun;refine wpOp_mono ?_ (step i o _ vs w hin ho hun' hI (λe he hb=>hdep e he hb));exact Zi
def cn{l:List Oper}(n:Nat)(F:(Nat->Vy)->Act)(I:(Nat->Bool)->(Nat->Vy)->Vt->Prop)(hB:TZ l.toArray n=VD)
  (step:∀i L vs w,i<n->L i=Vw->I L vs w->(∀j,Region.waitsFor .any l.toArray i j=VD->L j=VD)->
   wpOp P l.toArray Q i (λa' w'=>∃v,a'=F (bA vs i v)/\I (gF L i) (bA vs i v) w') (F vs) w)
  (tail:∀L vs w,(∀i,i<n->L i=VD)->I L vs w->wpList P l.toArray Q (l.drop n) (F vs) w)
  (vs:Nat->Vy)(w:Vt)(h0:I (λ_=>Vw) vs w):wpAny P .any l.toArray Q l.toArray.size (Array.replicate l.toArray.size Vw) (F vs) w:=by
 simp only[TZ,Bool.and_eq_true,decide_eq_true_eq] at hB;obtain⟨⟨⟨⟨hn,hs⟩,hc⟩,hseq⟩,hlex⟩:=hB;have:=uq (tl:=l.drop n) F I hs hc hn hseq hlex Wa (λj=>by simp[List.getElem?_drop])
  (λi o L vs w hi ho hL hd hdep=>step i L vs w hi hL hd (λj hj=>by
   obtain⟨oj,hoj,e,he,hb,rfl⟩:=Region.waitsFor_spec hj;obtain rfl:=Option.some.inj (ho.symm.trans hoj);exact hdep e he hb)) tail n (Array.replicate l.toArray.size Vw) vs w
  ⟨Wa,λj oj _ hl=>Wx,λt _ ht=>getD_in (by simpa using ht) (getD_replicate_false _ _)⟩ (qc _ _)
  (by simpa only[getD_replicate_false] using h0)
 rwa[show n+(l.toArray.size-n)=l.toArray.size by omega] at this
end
section
theorem iv{L:Nat->Bool}{vs val:Nat->Vy}{v:Vy}(h:∀k,L k=VD->vs k=val k)(hv:v=val i):∀k,gF L i k=VD->bA vs i v k=val k:=by
 intro k hk;unfold bA;by_cases e:k=i
 ·rw[if_pos e,hv,e]
 ·rw[if_neg e];refine h k ?_;simpa[gF,e] using hk
theorem af{L:Nat->Bool}(h:k≠i):gF L i k=L k:=by unfold gF;rw[if_neg h]
theorem dj{L:Nat->Bool}:gF L i i=VD:=by unfold gF;rw[if_pos rfl]
theorem aU{vs:Nat->Vy}{v:Vy}(h:k≠i):bA vs i v k=vs k:=by unfold bA;rw[if_neg h]
theorem cG{vs:Nat->Vy}{v:Vy}:bA vs i v i=v:=by unfold bA;rw[if_pos rfl]
structure dD(W0:Vt)(val:Nat->Vy)(own:Vy->Vt->Prop)(e:Vy)(p:VT)(ic:Nat)(lo:List Nat)(L:Nat->Bool)(vs:Nat->Vy)(W:Vt):Prop where
 vals:∀k,L k=VD->k<ic\/ic+3<=k->vs k=val k
 early:L ic=VD->∀k∈lo,L k=VD
 mv:L (ic+1)=VD->L ic=VD
 ex:L (ic+2)=VD->L (ic+1)=VD
 st:L (ic+6)=VD->L (ic+2)=VD
 mem:∃v W1,Ext W0 W1/\(L ic=VD->own v W1/\vs ic=V6 #[v,e])/\(L (ic+1)=VD->vs (ic+1)=V6 #[v,e])/\(L (ic+2)=VD->vs (ic+2)=v)/\W=if L (ic+6)=VD then W1.setCell p v else W1
variable {W0 W : Vt} {val : Nat → Vy} {own : Vy → Vt → Prop} {e : Vy} {p : VT} {ic : Nat} {lo : List Nat} {L : Nat → Bool} {vs : Nat → Vy}
def dD.start(h:Ext W0 W):dD W0 val own e p ic lo (λ_=>Vw) (λ_=>VB) W:=
 ⟨λ_ h=>Wb,λh=>Wb,λh=>Wb,λh=>Wb,λh=>Wb,VB,W,h,λh=>Wb,λh=>Wb,λh=>Wb,Wa⟩
theorem dD.pure(h:dD W0 val own e p ic lo L vs W)(hi:i<ic\/i=ic+3\/i=ic+4\/i=ic+5){v:Vy}(hv:v=val i):dD W0 val own e p ic lo (gF L i) (bA vs i v) W:=by
 have n0:ic≠i:=V7;have n1:ic+1≠i:=V7;have n2:ic+2≠i:=V7;have n6:ic+6≠i:=V7;obtain⟨a,b,c,d,f,v1,W1,m1,m2,m3,m4,m5⟩:=h;refine⟨λk hk hh=> ?_,?_,?_,?_,?_,v1,W1,m1,?_⟩
 ·by_cases q:k=i
  ·subst q;rw[cG];exact hv
  ·exact ZU
 ·rw[af n0];intro h k hk;by_cases q:k=i
  ·subst q;exact dj
  ·rw[af q];exact b h k hk
 ·rw[af n1,af n0];exact c
 ·rw[af n2,af n1];exact d
 ·rw[af n6,af n2];exact f
 ·rw[af n0,af n1,af n2,af n6,aU n0,aU n1,aU n2];exact⟨m2,m3,m4,m5⟩
def dD.ext(h:dD W0 val own e p ic lo L vs W)(hL:L ic=Vw):Ext W0 W:=by
 obtain⟨a,b,c,d,f,v1,W1,m1,m2,m3,m4,m5⟩:=h;have:¬L (ic+6)=VD:=λh=>by rw[c (d (f h))] at hL;cases hL
 rw[if_neg this] at m5;rw[m5];exact m1
theorem dD.load(h:dD W0 val own e p ic lo L vs W)(hk:k∈lo)(hL:L k=Vw):Ext W0 W:=by
 refine h.ext ?_;cases q:L ic with
 |false=>rfl
 |true=>rw[h.early q k hk] at hL;cases hL
theorem dD.call(h:dD W0 val own e p ic lo L vs W)(hL:L ic=Vw)(hlo:∀k∈lo,L k=VD){v:Vy}(hx:Ext W W')(ho:own v W'):dD W0 val own e p ic lo (gF L ic) (bA vs ic (V6 #[v,e])) W':=by
 have he:=h.ext hL;obtain⟨a,b,c,d,f,v1,W1,m1,m2,m3,m4,m5⟩:=h;have f1:L (ic+1)=Vw:=by cases q:L (ic+1) with|false=>rfl|true=>rw[c q] at hL;cases hL
 have f2:L (ic+2)=Vw:=by cases q:L (ic+2) with|false=>rfl|true=>rw[d q] at f1;cases f1
 have f6:L (ic+6)=Vw:=by cases q:L (ic+6) with|false=>rfl|true=>rw[f q] at f2;cases f2
 have n1:ic+1≠ic:=V7;have n2:ic+2≠ic:=V7;have n6:ic+6≠ic:=V7;refine⟨λk hk hh=> ?_,?_,?_,?_,?_,v,W',he.tr hx,?_⟩
 ·have q:k≠ic:=V7;exact ZU
 ·intro _ k hk;by_cases q:k=ic
  ·subst q;exact dj
  ·rw[af q];exact hlo k hk
 ·intro _;exact dj
 ·rw[af n2,af n1,f2];intro h;cases h
 ·rw[af n6,f6];intro h;cases h
 ·rw[af n1,af n2,af n6,f1,f2,f6,cG];exact⟨λ_=>⟨ho,rfl⟩,λh=>Wb,λh=>Wb,rfl⟩
def dD.move(h:dD W0 val own e p ic lo L vs W)(hL:L (ic+1)=Vw)(hc:L ic=VD):dD W0 val own e p ic lo (gF L (ic+1)) (bA vs (ic+1) (vs ic)) W:=by
 obtain⟨a,b,c,d,f,v1,W1,m1,m2,m3,m4,m5⟩:=h;have f2:L (ic+2)=Vw:=by cases q:L (ic+2) with|false=>rfl|true=>rw[d q] at hL;cases hL
 have f6:L (ic+6)=Vw:=by cases q:L (ic+6) with|false=>rfl|true=>rw[f q] at f2;cases f2
 have n0:ic≠ic+1:=V7;have n2:ic+2≠ic+1:=V7;have n6:ic+6≠ic+1:=V7;refine⟨λk hk hh=> ?_,?_,?_,?_,?_,v1,W1,m1,?_⟩
 ·have q:k≠ic+1:=V7;exact ZU
 ·rw[af n0];intro h k hk;by_cases q:k=ic+1
  ·subst q;exact dj
  ·rw[af q];exact b h k hk
 ·intro _;rw[af n0];exact hc
 ·intro _;exact dj
 ·rw[af n6,f6];intro h;cases h
 ·rw[af n0,af n2,af n6,f2,cG,aU n0];exact⟨m2,λ_=>(m2 hc).2,λh=>Wb,m5⟩
def dD.first(h:dD W0 val own e p ic lo L vs W)(hL:L (ic+2)=Vw)(hc:L (ic+1)=VD):∃v,vs (ic+1)=V6 #[v,e]/\dD W0 val own e p ic lo (gF L (ic+2)) (bA vs (ic+2) v) W:=by
 obtain⟨a,b,c,d,f,v1,W1,m1,m2,m3,m4,m5⟩:=h;have f6:L (ic+6)=Vw:=by cases q:L (ic+6) with|false=>rfl|true=>rw[f q] at hL;cases hL
 have n0:ic≠ic+2:=V7;have n1:ic+1≠ic+2:=V7;have n6:ic+6≠ic+2:=V7;refine⟨v1,m3 hc,λk hk hh=> ?_,?_,?_,?_,?_,v1,W1,m1,?_⟩
 ·by_cases q:k=ic+2
  ·omega
  ·exact ZU
 ·rw[af n0];intro h k hk;by_cases q:k=ic+2
  ·subst q;exact dj
  ·rw[af q];exact b h k hk
 ·rw[af n1,af n0];exact c
 ·intro _;rw[af n1];exact hc
 ·intro _;exact dj
 ·rw[af n0,af n1,af n6,aU n0,aU n1,cG];exact⟨m2,m3,λ_=>rfl,m5⟩
def dD.UA(h:dD W0 val own e p ic lo L vs W)(hc:L (ic+1)=VD):∃v,vs (ic+1)=V6 #[v,e]:=by
 obtain⟨a,b,c,d,f,v1,W1,m1,m2,m3,m4,m5⟩:=h;exact⟨v1,m3 hc⟩
def dD.store(h:dD W0 val own e p ic lo L vs W)(hL:L (ic+6)=Vw)(hc:L (ic+2)=VD)(hv:val (ic+6)=VB):Ext W0 W/\own (vs (ic+2)) W/\dD W0 val own e p ic lo (gF L (ic+6)) (bA vs (ic+6) VB) (W.setCell p (vs (ic+2))):=by
 obtain⟨a,b,c,d,f,v1,W1,m1,m2,m3,m4,m5⟩:=h;have n0:ic≠ic+6:=V7;have n1:ic+1≠ic+6:=V7;have n2:ic+2≠ic+6:=V7;rw[if_neg (by rw[hL];decide)] at m5;subst m5;refine⟨m1,by rw[m4 hc];exact(m2 (c (d hc))).1,λk hk hh=> ?_,?_,?_,?_,?_,v1,W,m1,?_⟩
 ·by_cases q:k=ic+6
  ·subst q;rw[cG];exact hv.symm
  ·exact ZU
 ·rw[af n0];intro h k hk;by_cases q:k=ic+6
  ·subst q;exact dj
  ·rw[af q];exact b h k hk
 ·rw[af n1,af n0];exact c
 ·rw[af n2,af n1];exact d
 ·intro _;rw[af n2];exact hc
 ·rw[af n0,af n1,af n2,dj,aU n0,aU n1,aU n2];exact⟨m2,m3,m4,by rw[if_pos rfl,m4 hc]⟩
def dD.done(h:dD W0 val own e p ic lo L vs W)(hL:∀i,i<ic+7->L i=VD):vs (ic+3)=val (ic+3)/\∃v W1,Ext W0 W1/\own v W1/\W=W1.setCell p v:=by
 obtain⟨a,b,c,d,f,v1,W1,m1,m2,m3,m4,m5⟩:=h;rw[if_pos (hL _ V7)] at m5;exact⟨a _ (hL _ V7) V7,v1,W1,m1,(m2 (hL _ V7)).1,m5⟩
end
end Go.Proofs.YtmliacdegmklaaaGreatDoor
namespace Kp
abbrev B6:Nat:=1000000
def S6(f:Nat->Nat):Nat->Nat
 |0=>0
 |n+1=>S6 f n+f n*B6^n
def al(l:List Nat):Nat:=S6 (fv l) (ln l)
def kL(l:List Nat):Prop:=∀d,d∈l->d<B6
structure aY(l:List Nat):Prop where
 small:kL l
 trim:pR l
def dJ(a b:List Nat):Nat->Nat×Nat
 |0=>(0,0)
 |k+1=>((fv a k+fv b k+(dJ a b k).2)%1000000,(fv a k+fv b k+(dJ a b k).2)/1000000)
def cW(a b:List Nat):Nat->Nat×Nat
 |0=>(0,0)
 |k+1=>(if fv b k+(cW a b k).2<=fv a k then fv a k-(fv b k+(cW a b k).2) else fv a k+1000000-(fv b k+(cW a b k).2),if fv b k+(cW a b k).2<=fv a k then 0 else 1)
def cP(f:Nat->Nat)(n:Nat):S6 f (n+1)=S6 f n+f n*B6^n:=rfl
def Kd(n:Nat):0<B6^n:=Nat.pow_pos V9
theorem jx{f g:Nat->Nat}(h:∀k,k<n->f k=g k):S6 f n=S6 g n:=by
 induction n with
 |zero=>rfl
 |succ n ih=>rw[cP,cP,ih (λk hk=>h k V7),h n V7]
theorem Gb{f:Nat->Nat}(h:∀k,k<n->f k<B6):S6 f n<B6^n:=by
 induction n with
 |zero=>simp[S6]
 |succ n ih=>
  rw[cP,Nat.pow_succ];have h1:=ih (λk hk=>h k V7);have h2:f n+1<=B6:=h n V7;have h3:(f n+1)*B6^n<=B6*B6^n:=Nat.mul_le_mul_right _ h2;rw[Nat.add_mul,Nat.one_mul,VL B6] at h3;omega
theorem vy{f:Nat->Nat}(h:∀k,k<n->f k=0):S6 f n=0:=by
 induction n with
 |zero=>rfl
 |succ n ih=>rw[cP,ih (λk hk=>h k V7),h n V7];simp
def zW(f:Nat->Nat)(m n:Nat):S6 f (m+n)=S6 f m+B6^m*S6 (λk=>f (m+k)) n:=by
 induction n with
 |zero=>simp[S6]
 |succ n ih=>
  rw[<-Nat.add_assoc,cP,ih,cP,Nat.mul_add,Nat.pow_add];have:f (m+n)*(B6^m*B6^n)=B6^m*(f (m+n)*B6^n):=by
   rw[Nat.mul_left_comm]
  omega
theorem Rj{f:Nat->Nat}(h:m<=n)(hz:∀k,m<=k->k<n->f k=0):S6 f n=S6 f m:=by
 obtain⟨d,rfl⟩:∃d,n=m+d:=⟨n-m,V7⟩;rw[zW,vy (f:=λk=>f (m+k)) (λk hk=>hz _ V7 V7)];simp
def aH{l:List Nat}(h:kL l)(k:Nat):fv l k<B6:=by
 exact XJ
theorem fJ{l:List Nat}(h:ln l<=n):S6 (fv l) n=al l:=Rj h (λ_ hk _=>mL hk)
def tj{l:List Nat}(h:kL l):al l<B6^ln l:=Gb (λk _=>aH h k)
def kj(l:List Nat)(d:Nat):al (l++[d])=al l+d*B6^ln l:=by
 unfold al;rw[VM];show S6 _ (ln l+1)=_;rw[cP,jx (g:=fv l)]
 ·unfold fv;simp
 ·intro k hk;unfold fv;simp[List.getElem?_append_left hk]
def vu(l:List Nat):al (l++[0])=al l:=by rw[kj];simp
theorem kL.zR{l:List Nat}(h:kL (l++[d])):kL l:=λx hx=>h x (by simp[hx])
def sQ{l:List Nat}(h:pR l)(hl:l≠[]):B6^(ln l-1)<=al l:=by
 rcases mJ l with rfl|⟨m,d,rfl⟩
 ·exact absurd rfl hl
 ·rw[kj];have hd:=h.last;have:1*B6^ln m<=d*B6^ln m:=Nat.mul_le_mul_right _ V7;simp only[VM,List.length_singleton,Nat.add_sub_cancel];omega
def nQ{l:List Nat}(h:pR l)(hl:l≠[]):0<al l:=Nat.lt_of_lt_of_le (Kd _) (sQ h hl)
theorem iq(ha:kL a)(hb:pR b)(h:ln a<ln b):al a<al b:=by
 have h1:=tj ha;have h2:=sQ hb (by rintro rfl;simp at h);have h3:B6^ln a<=B6^(ln b-1):=Nat.pow_le_pow_right V9 V7;omega
def eH(l:List Nat):al (aA l)=al l:=by
 refine fI (p:=λl=>al (aA l)=al l) rfl (λl d ih=> ?_) l;by_cases hd:d=0
 ·subst hd;rw[dQ,vu,ih]
 ·rw[iQ hd]
def dq{l:List Nat}(h:kL l):aY (aA l):=by
 revert h;refine fI (p:=λl=>kL l->aY (aA l)) (λ_=>⟨λd h=>by simp[oM] at h,qQ⟩) (λl d ih h=> ?_) l;exact XK
theorem M7{f g:Nat->Nat}(hi:i<n)(hf:∀k,k<n->f k<B6)(he:∀k,i<k->k<n->f k=g k)(hlt:f i<g i):S6 f n<S6 g n:=by
 obtain⟨d,rfl⟩:∃d,n=(i+1)+d:=⟨n-(i+1),V7⟩;rw[zW f (i+1),zW g (i+1),jx (f:=λk=>f (i+1+k)) (g:=λk=>g (i+1+k)) (λk hk=>he _ V7 V7),cP,cP];have h1:=Gb (n:=i) (λk hk=>hf k V7);have h2:(f i+1)*B6^i<=g i*B6^i:=Nat.mul_le_mul_right _ hlt;rw[Nat.add_mul,Nat.one_mul] at h2;omega
theorem Pb(ha:aY a)(hb:aY b)(hl:ln a=ln b)(hi:i<ln a)(hs:∀k,i<k->k<ln a->fv a k=fv b k)(hne:fv a i≠fv b i):
  ((fv a i:Int)-fv b i<0↔al a<al b)/\(0<(fv a i:Int)-fv b i↔al b<al a):=by
 unfold al;rw[<-hl];rcases Nat.lt_or_gt_of_ne hne with h|h
 ·have:=M7 hi (λk _=>aH ha.small k) hs h;exact Yh
 ·have:=M7 hi (λk _=>aH hb.small k) (λk h1 h2=>(hs k h1 h2).symm) h;exact Yh
theorem Hi(hl:ln a=ln b)(hs:∀k,k<ln a->fv a k=fv b k):al a=al b:=by
 unfold al;rw[<-hl];exact jx hs
theorem qM(ha:kL a)(hb:kL b)(k:Nat):(cW a b k).2<=1/\(cW a b (k+1)).1<1000000:=by
 have key:∀k,(cW a b k).2<=1:=by
  intro k;cases k with
  |zero=>exact Nat.zero_le _
  |succ k=>show(if _ then 0 else 1)<=1;split <;>omega
 refine⟨key k,?_⟩;have h1:fv a k<1000000:=aH ha _;have h2:fv b k<1000000:=aH hb _;have h3:=key k;rw[cW];dsimp only;by_cases h:fv b k+(cW a b k).2<=fv a k
 ·rw[if_pos h];omega
 ·rw[if_neg h];omega
theorem LQ(ha:kL a)(hb:kL b)(k:Nat):S6 (fv (bV (cW a b) k)) k+S6 (fv b) k=S6 (fv a) k+(cW a b k).2*B6^k:=by
 induction k with
 |zero=>rfl
 |succ k ih=>
  have e:S6 (fv (bV (cW a b) (k+1))) k=S6 (fv (bV (cW a b) k)) k:=jx λi hi=>by
   exact YS
  have e2:fv (bV (cW a b) (k+1)) k=(cW a b (k+1)).1:=by
   exact YR
  rw[cP,cP,cP,e,e2,Nat.pow_succ];have h1:fv a k<1000000:=aH ha _;have h2:fv b k<1000000:=aH hb _;have hc:=(qM ha hb k).1;have h:(cW a b (k+1)).1+fv b k+(cW a b k).2=fv a k+(cW a b (k+1)).2*1000000:=by
   rw[cW];dsimp only;by_cases h:fv b k+(cW a b k).2<=fv a k
   ·rw[if_pos h,if_pos h];omega
   ·rw[if_neg h,if_neg h];omega
  have h3:=congrArg (· *B6^k) h;simp only[Nat.add_mul] at h3;have h4:(cW a b (k+1)).2*(B6^k*B6)=(cW a b (k+1)).2*1000000*B6^k:=by
   show _=(cW a b (k+1)).2*B6*B6^k;rw[VL (B6^k) B6,<-Nat.mul_assoc]
  rw[h4];generalize(cW a b (k+1)).2*1000000*B6^k=u at *;generalize(cW a b (k+1)).1*B6^k=v at *;generalize fv a k*B6^k=p at *;generalize fv b k*B6^k=q at *;generalize(cW a b k).2*B6^k=r at *;omega
theorem yU(ha:kL a)(hb:kL b)(k:Nat):(dJ a b k).2<=1/\(dJ a b (k+1)).1<1000000:=by
 have key:∀k,(dJ a b k).2<=1:=by
  intro k;cases k with
  |zero=>exact Nat.zero_le _
  |succ k=>
   induction k with
   |zero=>
    have h1:=aH ha 0;have h2:=aH hb 0;show(fv a 0+fv b 0+0)/1000000<=1;have h1':fv a 0<1000000:=h1;have h2':fv b 0<1000000:=h2;omega
   |succ k ih=>
    have h1:fv a (k+1)<1000000:=aH ha _;have h2:fv b (k+1)<1000000:=aH hb _;show(fv a (k+1)+fv b (k+1)+(dJ a b (k+1)).2)/1000000<=1;omega
 exact⟨key k,Nat.mod_lt _ V9⟩
end Kp
namespace Go.Proofs.YtmliacdegmklaaaGreatDoor
section
open Kp
def mW(w:Vt)(b0:Nat)(v:Vy)(l:List Nat)(i:Nat)(h:bB w b0 v l)(hi:i<=4611686018427387904):
  VJ prog 313 #[v,VZ VH i] w λe w'=>e=V0 (VZ VH (fv l i))/\w=w':=by
 obtain⟨A,cap,rfl,hl,hm,hc⟩:=h;unfold VP at hm;by_cases hlt:i<ln l
 ·obtain⟨b,off,rfl,_,hcell⟩:=hc V7;have hx:=hcell i hlt;clear hcell;go_enter func313,ntmps313;exact XM
 ·go_enter func313,ntmps313;go_wp2;go_ret;exact⟨Az (by rw[mL V7];rfl),rfl⟩
def uy(w:Vt)(b0:Nat)(v:Vy)(l:List Nat)(i:Nat)(h:bB w b0 v l)(hi:i<=4611686018427387904):
  VJ prog 313 #[v,VZ VH i] w λe w'=>e=V0 (VZ VH (fv l i))/\w'=w:=
 (mW w b0 v l i h hi).mono λ_ _ h=>⟨h.1,h.2.symm⟩
def Mn(v:Vy)(l:List Nat):Vy:=match v with
 | VV A _ cap=> VV A (aA l).length cap
 |v=>v
theorem bB.trimmed{v:Vy}{l:List Nat}(h:bB w b0 v l):bB w b0 (Mn v l) (aA l):=by
 obtain⟨A,cap,rfl,h1,h2,hc⟩:=h;have hle:=aR l;refine⟨A,cap,rfl,VI hle h1,h2,λhp=> ?_⟩;obtain⟨b,o,e,hb,hc'⟩:=hc V7;exact⟨b,o,e,hb,λj hj=>by rw[vE hj];exact hc' j V7⟩
def dF(w:Vt)(b0:Nat)(v:Vy)(l:List Nat)(h:bB w b0 v l):
  VJ prog 311 #[v] w λe w'=>e=V0 (Mn v l)/\w=w':=by
 obtain⟨A,cap,rfl,h1,h2,hc⟩:=h;unfold Mn;unfold VP at h2;have hlen:=aR l;go_enter func311,ntmps311;go_wp2;go_loopw [3] (λv wr=>∃k:Nat,k<=ln l/\v=VZ VH (k:Int)/\Hid (aA (l.take k)=aA l)/\w=wr) (λv _=>(VN v).toNat)
 case atStart=>exact⟨ln l,Vu _,rfl,by simp[Hid],rfl⟩
 case round=>
  obtain⟨k,hk,rfl,ht,rfl⟩:=hrel;rcases k with _|k
  ·exact XO
  ·obtain⟨b,off,rfl,_,hcell⟩:=hc V7;have hx:=hcell k V7;by_cases h0:fv l k=0
   ·have hz:((fv l k:Int)==0)=VD:=by rw[h0];rfl
    have H0:=Vs h0;clear h0 hcell;go_wp2;exact⟨⟨k,V7,by go_num,yt V7 H0.o ht.o,trivial⟩,by simp[VN]⟩
   ·exact XN
end
section
open Kp
def zh(a b:List Nat)(e:Ending):Prop:=∃c:Int,e=V0 (VZ VH c)/\(c<0->al a<al b)/\(¬c<0->al b<=al a/\ln b<=ln a)
def uj(w:Vt)(a b:List Nat)(va vb:Vy)(ha:bB w w.heap.size va a)(hb:bB w w.heap.size vb b)(hca:aY a)(hcb:aY b):
  VJ prog 316 #[va,vb] w λe w'=>zh a b e/\Ext w w':=by
 have HA:=Vs (show∀W,Ext w W->bB W w.heap.size va a fromλW h=>ha.below h);have HB:=Vs (show∀W,Ext w W->bB W w.heap.size vb b fromλW h=>hb.below h);obtain⟨A,ca,rfl,ha1,ha2,_⟩:=id ha;obtain⟨A',cb,rfl,hb1,hb2,_⟩:=id hb;unfold VP at ha2 hb2;have HN:=Vs (show al a<al b->zh a b (V0 (VZ VH (-1))) fromλh=>⟨_,rfl,λ_=>h,λh=>absurd V9 h⟩);have HP:=Vs (show al b<=al a/\ln b<=ln a->zh a b (V0 (VZ VH 1)) fromλh=>⟨_,rfl,λh=>absurd h V9,λ_=>h⟩);have HZ:=Vs (show al b<=al a/\ln b<=ln a->zh a b (V0 (VZ VH 0)) fromλh=>⟨_,rfl,λh=>absurd h V9,λ_=>h⟩);by_cases hne:ln a=ln b
 ·have E:=Vs hne;obtain⟨n,hn⟩:∃n,ln a=n:=⟨_,rfl⟩;have hbn:ln b=n:=V7;rw[hbn] at HB;rw[hn] at HA;rw[hn,hbn];have HLA:=Vs hn;have HLB:=Vs hbn;have hn6:n<=9223372036854775807:=V7;have w1:VH.wrap ((n:Int)-1)=(n:Int)-1:=VQ _ V7;clear ha hb ha1 ha2 hb1 hb2 hne hn hbn;go_enter func316,ntmps316;go_wp2;go_loopw [5] (λi wr=>∃k:Nat,k<=n/\i=VZ VH ((k:Int)-1)/\Ext w wr/\Hid (∀m,k<=m->m<ln a->fv a m=fv b m)) (λi _=>(VN i+1).toNat)
  case atStart=>exact⟨n,Vu _,rfl,Below.refl _ _,λm h1 h2=>by have:=HLA.o;omega⟩
  case round=>
   obtain⟨k,hk,rfl,hX,hs⟩:=hrel;have HX:=Vs hX;rcases k with _|k
   ·have HQ:=Vs (HZ.o ⟨Nat.le_of_eq (Hi E.o λm hm=>hs.o m (Nat.zero_le _) hm).symm,Nat.le_of_eq E.o.symm⟩);clear hX;go_wp2;go_ret;exact⟨HQ.o,HX.o⟩
   ·obtain⟨_,_,e,_,_,q⟩:=HA.o wr hX;injection e with e1 _ e3
    subst e1 e3;obtain⟨b1,o1,rfl,_,c1⟩:=q (by have:=HLA.o;omega);have c1:=c1 k (by have:=HLA.o;omega);obtain⟨_,_,e,_,_,q⟩:=HB.o wr hX;injection e with e1 _ e3
    subst e1 e3;obtain⟨b2,o2,rfl,_,c2⟩:=q (by have:=HLB.o;omega);have c2:=c2 k (by have:=HLB.o;omega);have ek:((k+1:Nat):Int)-1=(k:Int):=V7;rw[ek];have w2:VH.wrap ((k:Int)-1)=(k:Int)-1:=VQ _ V7;have hka:k<ln a:=by have:=HLA.o;omega
    have HC:=Vs (λh=>Pb hca hcb E.o hka (λm h1 h2=>hs.o m V7 h2) h);obtain⟨x,hx⟩:∃x,fv a k=x:=⟨_,rfl⟩;obtain⟨y,hy⟩:∃y,fv b k=y:=⟨_,rfl⟩;rw[hx] at c1;rw[hy] at c2;have HXX:=Vs hx;have HYY:=Vs hy;clear hX q hka;rcases Nat.lt_trichotomy x y with h|h|h
    ·have HQ:=Vs (HN.o ((HC.o Xy).1.1 Xy));clear hx hy;go_wp2_with fail
     go_quiet (fail)
     go_wp2;go_ret;exact⟨HQ.o,below_drewN HX.o _⟩
    ·have t1:¬x<y:=V7;have t2:¬y<x:=V7;have HQ:=Vs (show∀m,k<=m->m<ln a->fv a m=fv b m fromλm h1 h2=>by
      by_cases e:m=k
      ·rw[e];have:=HXX.o;have:=HYY.o;omega
      ·exact hs.o m V7 h2)
     clear h hx hy;go_wp2_with fail
     go_quiet (fail)
     go_wp2_with fail
     go_quiet (fail)
     go_wp2
     go_round
     case rel=>exact⟨k,V7,rfl,below_drewN HX.o _,HQ⟩
     case measure=>simp[VN]
    ·have t1:¬x<y:=V7;have HQ:=Vs (HP.o ⟨Nat.le_of_lt ((HC.o Xy).2.1 Xy),Nat.le_of_eq E.o.symm⟩);clear hx hy;go_wp2_with fail
     go_quiet (fail)
     go_wp2_with fail
     go_quiet (fail)
     go_wp2;go_ret;exact⟨HQ.o,below_drewN (below_drewN HX.o _) _⟩
 ·have hne':((ln a:Int) !=ln b)=VD:=WX;by_cases hlt:ln a<ln b
  ·have HQ:=Vs (HN.o (iq hca.small hcb.trim hlt));exact Z9
  ·have HQ:=Vs (HP.o ⟨Nat.le_of_lt (iq hcb.small hca.trim V7),V7⟩);exact Z9
end
end Go.Proofs.YtmliacdegmklaaaGreatDoor
namespace Kp
theorem Rr{l:List Nat}(hj:j<n)(hn:n<=ln l):S6 (fv (l.set j x)) n+fv l j*B6^j=S6 (fv l) n+x*B6^j:=by
 induction n with
 |zero=>omega
 |succ n ih=>
  rw[cP,cP];by_cases e:j=n
  ·subst e;rw[iw V7,if_pos rfl,jx (g:=fv l) (λk hk=>by rw[iw V7,if_neg V7])];omega
  ·have:=ih V7 V7;rw[iw V7,if_neg V7];omega
theorem kL.set{l:List Nat}(h:kL l)(hx:x<B6):kL (l.set j x):=by
 exact XT
def kL.Su(n:Nat):kL (List.replicate n 0):=by
 intro d hd;rw[List.eq_of_mem_replicate hd];decide
structure FU(a b:List Nat)(i k c:Nat)(out:List Nat):Prop where
 len:ln out=ln a+ln b+1
 small:kL out
 eq:S6 (fv out) (ln a+ln b+1)+c*B6^(i+k)=S6 (fv a) i*al b+fv a i*B6^i*S6 (fv b) k
 carry:c<=1000000000000
structure NI(b:List Nat):Prop where
 limb:∀k,fv b k<1000000000000
 val:al b<B6^(ln b+1)
theorem kL.Vi(h:kL b):NI b:=
 ⟨λk=>Nat.lt_trans (aH h k) V9,Nat.lt_of_lt_of_le (tj h) (Nat.pow_le_pow_right V9 V7)⟩
theorem On(h:g<1000000000000):NI [g]:=by
 refine⟨λk=> ?_,?_⟩
 ·cases k with
  |zero=>exact h
  |succ k=>rw[mL Wa];decide
 ·show S6 (fv [g]) 1<B6^2;simp[S6,fv];omega
theorem FU.next(h:FU a b i k c out)(ha:kL a)(hb:NI b)(hk:i+k<ln a+ln b+1):
  FU a b i (k+1) ((fv out (i+k)+fv a i*fv b k+c)/1000000) (out.set (i+k) ((fv out (i+k)+fv a i*fv b k+c)%1000000)):=by
 obtain⟨len,small,eq,carry⟩:=h;have h1:fv a i<1000000:=aH ha i;have h2:fv out (i+k)<1000000:=aH small _;have h3:=hb.limb k;have h4:fv a i*fv b k<=999999*999999999999:=Nat.mul_le_mul V7 V7;obtain⟨n,hn⟩:∃n,fv out (i+k)+fv a i*fv b k+c=n:=⟨_,rfl⟩;rw[hn];refine⟨by rw[List.length_set];exact len,small.set (Nat.mod_lt _ V9),?_,V7⟩;have e:=Rr (l:=out) (j:=i+k) (x:=n%1000000) hk V7;have d:=Nat.div_add_mod n 1000000;have e2:n/1000000*B6^(i+(k+1))=1000000*(n/1000000)*B6^(i+k):=by
  rw[<-Nat.add_assoc,Nat.pow_succ,VL (B6^(i+k)) B6,<-Nat.mul_assoc,VL _ B6]
 have e3:fv a i*B6^i*S6 (fv b) (k+1)=fv a i*B6^i*S6 (fv b) k+fv a i*fv b k*B6^(i+k):=by
  rw[cP,Nat.mul_add,Nat.pow_add]
  congr 1
  rw[VL (fv b k),Nat.mul_assoc,<-Nat.mul_assoc (B6^i),VL _ (fv b k),<-Nat.mul_assoc]
 rw[e2,e3];have e4:n*B6^(i+k)=1000000*(n/1000000)*B6^(i+k)+n%1000000*B6^(i+k):=by rw[<-Nat.add_mul,d]
 have e5:n*B6^(i+k)=fv out (i+k)*B6^(i+k)+fv a i*fv b k*B6^(i+k)+c*B6^(i+k):=by rw[<-hn,Nat.add_mul,Nat.add_mul]
 omega
theorem FU.inside(h:FU a b i k c out)(ha:kL a)(hb:NI b)(hi:i<ln a)(hk:ln b<=k)(hc:0<c):i+k<ln a+ln b+1:=by
 rcases Nat.lt_or_ge (i+k) (ln a+ln b+1) with h1|h1
 ·exact h1
 exfalso;have eq:=h.eq;rw[fJ hk,<-Nat.add_mul,<-cP] at eq;have h2:S6 (fv a) (i+1)<B6^(i+1):=Gb (λk _=>aH ha k);have h3:S6 (fv a) (i+1)*al b<B6^(i+1)*B6^(ln b+1):=Nat.mul_lt_mul'' h2 hb.val;rw[<-Nat.pow_add] at h3;have h4:B6^(i+1+(ln b+1))<=B6^(i+k):=Nat.pow_le_pow_right V9 V7;have h5:1*B6^(i+k)<=c*B6^(i+k):=Nat.mul_le_mul_right _ hc;omega
theorem FU.row(h:FU a b i k 0 out)(hk:ln b<=k):FU a b (i+1) 0 0 out:=by
 refine⟨h.len,h.small,?_,V7⟩;have eq:=h.eq;rw[fJ hk,<-Nat.add_mul,<-cP] at eq;simp only[Nat.zero_mul,Nat.add_zero] at eq⊢;rw[eq];simp[S6]
def FU.start(a b:List Nat):FU a b 0 0 0 (List.replicate (ln a+ln b+1) 0):=
 ⟨Wa,kL.Su _,by rw[vy (λk _=>lG _ k)];simp[S6],V7⟩
theorem FU.done(h:FU a b (ln a) 0 0 out):al out=al a*al b:=by
 have:=h.eq;rw[mL (Vu _)] at this;simp only[Nat.zero_mul,Nat.add_zero] at this;unfold al;rw[h.len,this];rfl
def kq{r b:List Nat}(hr:aY r)(hb:kL b)(h:al r<=al b):ln r<=ln b:=by
 rcases Nat.lt_or_ge (ln b) (ln r) with hlt|hge
 ·have:=iq hb hr.trim hlt;omega
 ·exact hge
theorem UO{b r:List Nat}(hb:kL b)(hl:ln b=m+2)(hrl:ln r<=m+3):
  ((fv r (m+2)*1000000+fv r (m+1))*1000000+fv r m)/(fv b (m+1)*1000000+fv b m+1)*al b<=al r:=by
 have e1:al r=S6 (fv r) (m+3):=(fJ hrl).symm;have e2:al b=S6 (fv b) (m+2):=by unfold al;rw[hl]
 rw[e1,e2];simp only[cP];have h0:S6 (fv b) m<B6^m:=Gb (λk _=>aH hb k);obtain⟨t,ht⟩:∃t,fv b (m+1)*1000000+fv b m+1=t:=⟨_,rfl⟩;obtain⟨u,hu⟩:∃u,(fv r (m+2)*1000000+fv r (m+1))*1000000+fv r m=u:=⟨_,rfl⟩;rw[ht,hu];have h1:S6 (fv b) m+fv b m*B6^m+fv b (m+1)*B6^(m+1)<=t*B6^m:=by
  rw[<-ht,Nat.pow_succ,Nat.add_mul,Nat.add_mul,Nat.one_mul,VL (B6^m) B6,<-Nat.mul_assoc];have:fv b (m+1)*B6*B6^m=fv b (m+1)*1000000*B6^m:=rfl;omega
 have h2:u*B6^m<=S6 (fv r) m+fv r m*B6^m+fv r (m+1)*B6^(m+1)+fv r (m+2)*B6^(m+2):=by
  have e3:fv r (m+1)*B6^(m+1)=fv r (m+1)*1000000*B6^m:=by rw[Nat.pow_succ,VL (B6^m) B6,<-Nat.mul_assoc]
  have e4:fv r (m+2)*B6^(m+2)=fv r (m+2)*1000000*1000000*B6^m:=by
   rw[Nat.pow_succ,Nat.pow_succ,VL (B6^m*B6) B6,VL (B6^m) B6,<-Nat.mul_assoc,<-Nat.mul_assoc]
  rw[e3,e4,<-hu,Nat.add_mul,Nat.add_mul,Nat.add_mul];omega
 have h3:u/t*t<=u:=Nat.div_mul_le_self _ _;refine VI (Nat.mul_le_mul_left _ h1) (VI ?_ h2);rw[<-Nat.mul_assoc];exact Nat.mul_le_mul_right _ h3
def oH(x:Nat)(l:List Nat):al (x::l)=x+1000000*al l:=by
 unfold al;rw[List.length_cons,Nat.add_comm (ln l) 1,zW];have:S6 (λk=>fv (x::l) (1+k)) (ln l)=S6 (fv l) (ln l):=jx (λk _=>by unfold fv;rw[Nat.add_comm];rfl);rw[this];simp[S6,fv]
def Rt{z V R l:Nat}(h:l+z*V=R)(hR:R<1000000*V):z<1000000:=by
 rcases Nat.lt_or_ge z 1000000 with h1|h1
 ·exact h1
 ·have:=Nat.mul_le_mul_right V h1;omega
end Kp
namespace Go.Proofs.YtmliacdegmklaaaGreatDoor
section
open Kp
def Sp(z:ByteArray)(f k:Nat):Prop:=∀m (_:f<=m) (_:m<k) (h:m<z.size),48<=((z[m]'h).toNat:Int)/\((z[m]'h).toNat:Int)<=57
structure Kh(z:ByteArray):Prop where
 ex:∃f,f<=1/\f<z.size/\Sp z f z.size/\z.size-f<=300/\(f=1↔∃h:0<z.size,((z[0]'h).toNat:Int)=45)
def cJ(z:ByteArray):Nat->Nat
 |0=>0
 |k+1=>10*cJ z k+((z.data.toList.getD k 0).toNat-48)
theorem iR(h:k<z.size)(hg:((z[k]'h).toNat:Int)=((48+g:Nat):Int)):cJ z (k+1)=10*cJ z k+g:=by
 have e:z.data.toList.getD k 0=z[k]'h:=by
  exact a0c
 show 10*cJ z k+((z.data.toList.getD k 0).toNat-48)=_;rw[e];omega
structure DI(z:ByteArray):Prop where
 pos:0<z.size
 len:z.size<=300
 all:Sp z 0 z.size
 lead:∀h:0<z.size,1<z.size->((z[0]'h).toNat:Int)≠48
theorem DI.at(h:DI z)(hk:k<z.size):∃g:Nat,g<=9/\((z[k]'hk).toNat:Int)=((48+g:Nat):Int):=by
 have:=h.all k (Nat.zero_le _) hk hk;exact⟨(z[k]'hk).toNat-48,V7,V7⟩
end
end Go.Proofs.YtmliacdegmklaaaGreatDoor
namespace Go.RowKit
def Hid.now{A:Vt}{P:Vt->Prop}(h:Hid (∀W,Ext A W->P W)):P A:=h.o _ (Ext.aC _)
end Go.RowKit
